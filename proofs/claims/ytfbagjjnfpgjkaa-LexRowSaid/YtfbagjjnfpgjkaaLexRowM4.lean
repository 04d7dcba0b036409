/- The pieces of any line, or what is wrong with it, as lex.Row tells them, are those that the reference tells: for every line that can be read, under no further condition. -/
import Derived.Test.YtfbagjjnfpgjkaaRows
import Derived.Test.YtfbagjjnfpgjkaaLexRowM0
import Derived.Test.YtfbagjjnfpgjkaaLexRowM1
import Derived.Test.YtfbagjjnfpgjkaaLexRowM2
import Derived.Test.YtfbagjjnfpgjkaaLexRowM3
set_option linter.unusedVariables false
set_option linter.unusedSimpArgs false
set_option linter.unusedSectionVars false
set_option linter.unusedVariables false
set_option linter.unusedSimpArgs false
namespace Go.Proofs.Ytfbagjjnfpgjkaa.Pvm
open Go

def sgL : List UInt8 := [91, 93, 123, 125, 38, 42, 33, 124, 62, 37, 64, 44, 63, 96]
def oddB (c : UInt8) : Bool := sgL.any (· == c)
theorem idx_sg (c : UInt8) : decide (idxByte sgL (c.toNat : Int) ≥ 0) = oddB c := by
  have := all_u8 (fun c => decide ((if upto c sgL < sgL.length then (upto c sgL : Int) else -1) ≥ 0) == oddB c) (by kernel_rfl) c
  rw [idx_eq]
  exact beq_iff_eq.1 this
theorem ref10_odd_loop (k : Nat) {R : Type} (c : UInt8) (K : Bool → Option R) : ∀ (t : List UInt8) (n m : Nat), sgL.drop n = t → t.length < m → n ≤ 14 → L_ref10_odd_1002 k m (c.toNat : Int) (n : Int) K = K (t.any (· == c))
  | t, n, 0, _, hm, _ => by omega
  | [], n, m + 1, hd, hm, hn => by
    have := drop_nil hd
    have h14 : sgL.length = 14 := rfl
    rw [L_ref10_odd_1002, B_ref10_odd_1002]
    simp (disch := omega) only [dec_t, dec_f, ieq_t, ieq_f, ine_t, ine_f, inb_t, bnd_t, wrap_id, wrap8_id, cond_true, cond_false, Bool.not_true, Bool.not_false, Bool.true_or, Bool.or_true, Bool.false_or, Bool.or_false, Bool.true_and, Bool.and_true, Bool.false_and, Bool.and_false, bool_eq_true', bool_eq_false', toNat_cast']
    rfl
  | d :: r, n, m + 1, hd, hm, hn => by
    obtain ⟨hlt, hc, hr⟩ := drop_cons' hd
    have h14 : sgL.length = 14 := rfl
    have h14' : ([91, 93, 123, 125, 38, 42, 33, 124, 62, 37, 64, 44, 63, 96] : List UInt8).length = 14 := rfl
    have hc : ∀ e, ([91, 93, 123, 125, 38, 42, 33, 124, 62, 37, 64, 44, 63, 96] : List UInt8).getD n e = d := hc
    have e : ((d.toNat : Int) == (c.toNat : Int)) = (d == c) := by
      rw [Bool.eq_iff_iff]
      simp only [beq_iff_eq]
      constructor
      · intro h; exact UInt8.toNat_inj.1 (by omega)
      · intro h; rw [h]
    rw [L_ref10_odd_1002, B_ref10_odd_1002]
    simp (disch := omega) only [dec_t, dec_f, ieq_t, ieq_f, ine_t, ine_f, inb_t, bnd_t, wrap_id, wrap8_id, cond_true, cond_false, Bool.not_true, Bool.not_false, Bool.true_or, Bool.or_true, Bool.false_or, Bool.or_false, Bool.true_and, Bool.and_true, Bool.false_and, Bool.and_false, bool_eq_true', bool_eq_false', toNat_cast', hc, e, cast_succ, h14']
    rw [ref10_odd_loop k c K r (n + 1) m hr (by simp at hm; omega) (by omega)]
    cases hb : d == c <;> simp [hb]
theorem ref10_odd_eq (k : Nat) {R : Type} (c : UInt8) (K : Bool → Option R) (hk : 14 < k) : F_ref10_odd k (c.toNat : Int) K = K (oddB c) := by
  unfold F_ref10_odd A_ref10_odd
  exact ref10_odd_loop k c K sgL 0 k rfl (by simpa [sgL] using hk) (by omega)

theorem ref10_meant_single (k : Nat) {R : Type} (s : List UInt8) (hs : s.length ≤ 1000000) (K : List UInt8 → Bool → Option R) :
    ∀ (m : Nat) (t : List UInt8) (n : Nat) (acc : List UInt8), s.drop n = t → t.length < m → n ≤ s.length → acc.length ≤ n → L_ref10_meant_1004 k m s (toBytes acc) 39 (n : Int) K = match sgl acc t with
      | some (a, r) => K a (r == [])
      | none => K [] false
  | 0, t, n, acc, _, hm, _, _ => by omega
  | m + 1, [], n, acc, hd, hm, hn, ha => by
    have := drop_nil hd
    rw [L_ref10_meant_1004, B_ref10_meant_1004]
    simp (disch := omega) only [dec_t, dec_f, ieq_t, ieq_f, ine_t, ine_f, inb_t, bnd_t, wrap_id, wrap8_id, cond_true, cond_false, Bool.not_true, Bool.not_false, Bool.true_or, Bool.or_true, Bool.false_or, Bool.or_false, Bool.true_and, Bool.and_true, Bool.false_and, Bool.and_false, bool_eq_true', bool_eq_false', toNat_cast']
    rfl
  | m + 1, c :: t, n, acc, hd, hm, hn, ha => by
    obtain ⟨hlt, hc, hr⟩ := drop_cons' hd
    have e39 : ((c.toNat : Int) == 39) = (c == 39) := u8_beq c 39 (by omega)
    have f1 : fits (toBytes acc).length 1 1 = true := fits_t (by rw [toBytes_len]; omega) (by rw [toBytes_len]; omega)
    simp only [List.length_cons] at hm
    rw [L_ref10_meant_1004, B_ref10_meant_1004]
    simp (disch := omega) only [dec_t, dec_f, ieq_t, ieq_f, ine_t, ine_f, inb_t, bnd_t, wrap_id, wrap8_id, cond_true, cond_false, Bool.not_true, Bool.not_false, Bool.true_or, Bool.or_true, Bool.false_or, Bool.or_false, Bool.true_and, Bool.and_true, Bool.false_and, Bool.and_false, bool_eq_true', bool_eq_false', toNat_cast', hc, e39, cast_succ, ofBytes_toBytes, List.length_singleton, f1]
    cases hb : c == 39 with
    | false =>
      simp only [cond_false, cond_true]
      rw [toBytes_snoc, sgl_other acc c t hb]
      exact ref10_meant_single k s hs K m t (n + 1) (acc ++ [c]) hr (by omega) (by omega) (by simp; omega)
    | true =>
      have := beq_iff_eq.1 hb
      subst this
      simp only [cond_true]
      cases t with
      | nil =>
        have h1 := drop_nil hr
        simp (disch := omega) only [dec_t, dec_f, ieq_t, ieq_f, ine_t, ine_f, inb_t, bnd_t, wrap_id, wrap8_id, cond_true, cond_false, Bool.not_true, Bool.not_false, Bool.true_or, Bool.or_true, Bool.false_or, Bool.or_false, Bool.true_and, Bool.and_true, Bool.false_and, Bool.and_false, bool_eq_true', bool_eq_false', toNat_cast', sgl]
        rfl
      | cons d r =>
        obtain ⟨hlt2, hd2, hr2⟩ := drop_cons' hr
        have e39' : ((d.toNat : Int) == 39) = (d == 39) := u8_beq d 39 (by omega)
        simp (disch := omega) only [dec_t, dec_f, ieq_t, ieq_f, ine_t, ine_f, inb_t, bnd_t, wrap_id, wrap8_id, cond_true, cond_false, Bool.not_true, Bool.not_false, Bool.true_or, Bool.or_true, Bool.false_or, Bool.or_false, Bool.true_and, Bool.and_true, Bool.false_and, Bool.and_false, bool_eq_true', bool_eq_false', toNat_cast', hd2, e39', sgl, hb]
        cases hdb : d == 39 with
        | true =>
          simp only [cond_true]
          simp only [List.length_cons] at hm
          have e : toBytes acc ++ [(39 : Int)] = toBytes (acc ++ [39]) := toBytes_snoc acc 39
          rw [e]
          exact ref10_meant_single k s hs K m r (n + 1 + 1) (acc ++ [39]) hr2 (by omega) (by omega) (by simp; omega)
        | false =>
          simp only [cond_false]
          rfl
theorem ref10_meant_double (k : Nat) {R : Type} (s : List UInt8) (hs : s.length ≤ 1000000) (K : List UInt8 → Bool → Option R) :
    ∀ (m : Nat) (t : List UInt8) (n f : Nat) (acc : List UInt8), s.drop n = t → t.length < m → n ≤ s.length → acc.length ≤ n → t.length < f → L_ref10_meant_1004 k m s (toBytes acc) 34 (n : Int) K = match dbl f acc t with
      | some (a, r) => K a (r == [])
      | none => K [] false
  | 0, t, n, f, acc, _, hm, _, _, _ => by omega
  | m + 1, t, n, 0, acc, _, _, _, _, hf => by omega
  | m + 1, [], n, f + 1, acc, hd, hm, hn, ha, hf => by
    have := drop_nil hd
    rw [L_ref10_meant_1004, B_ref10_meant_1004]
    simp (disch := omega) only [dec_t, dec_f, ieq_t, ieq_f, ine_t, ine_f, inb_t, bnd_t, wrap_id, wrap8_id, cond_true, cond_false, Bool.not_true, Bool.not_false, Bool.true_or, Bool.or_true, Bool.false_or, Bool.or_false, Bool.true_and, Bool.and_true, Bool.false_and, Bool.and_false, bool_eq_true', bool_eq_false', toNat_cast']
    rfl
  | m + 1, c :: t, n, f + 1, acc, hd, hm, hn, ha, hf => by
    obtain ⟨hlt, hc, hr⟩ := drop_cons' hd
    have e34 : ((c.toNat : Int) == 34) = (c == 34) := u8_beq c 34 (by omega)
    have e92 : ((c.toNat : Int) != 92) = !(c == 92) := u8_bne c 92 (by omega)
    have f1 : fits (toBytes acc).length 1 1 = true := fits_t (by rw [toBytes_len]; omega) (by rw [toBytes_len]; omega)
    have hlen := congrArg List.length hr
    rw [List.length_drop] at hlen
    simp only [List.length_cons] at hm hf
    rw [L_ref10_meant_1004, B_ref10_meant_1004, dbl]
    simp (disch := omega) only [dec_t, dec_f, ieq_t, ieq_f, ine_t, ine_f, inb_t, bnd_t, wrap_id, wrap8_id, cond_true, cond_false, Bool.not_true, Bool.not_false, Bool.true_or, Bool.or_true, Bool.false_or, Bool.or_false, Bool.true_and, Bool.and_true, Bool.false_and, Bool.and_false, bool_eq_true', bool_eq_false', toNat_cast', hc, e34, e92, cast_succ, cast_two, ofBytes_toBytes, List.length_singleton, f1]
    cases hb : c == 34 with
    | true =>
      simp only [cond_true]
      cases t with
      | nil => have h1 := drop_nil hr; simp (disch := omega) only [dec_t, dec_f, ieq_t, ieq_f, ine_t, ine_f, inb_t, bnd_t, wrap_id, wrap8_id, cond_true, cond_false, Bool.not_true, Bool.not_false, Bool.true_or, Bool.or_true, Bool.false_or, Bool.or_false, Bool.true_and, Bool.and_true, Bool.false_and, Bool.and_false, bool_eq_true', bool_eq_false', toNat_cast']; rfl
      | cons d r =>
        have : s.length - (n + 1) = r.length + 1 := by simpa using hlen
        simp (disch := omega) only [dec_t, dec_f, ieq_t, ieq_f, ine_t, ine_f, inb_t, bnd_t, wrap_id, wrap8_id, cond_true, cond_false, Bool.not_true, Bool.not_false, Bool.true_or, Bool.or_true, Bool.false_or, Bool.or_false, Bool.true_and, Bool.and_true, Bool.false_and, Bool.and_false, bool_eq_true', bool_eq_false', toNat_cast']; rfl
    | false =>
      simp only [cond_false]
      cases hb2 : c == 92 with
      | false =>
        simp only [Bool.not_false, cond_false, cond_true]
        rw [toBytes_snoc]
        exact ref10_meant_double k s hs K m t (n + 1) f (acc ++ [c]) hr (by omega) (by omega) (by simp; omega) (by omega)
      | true =>
        simp only [Bool.not_true, cond_false, cond_true]
        cases t with
        | nil =>
          have h1 := drop_nil hr
          simp (disch := omega) only [dec_t, dec_f, ieq_t, ieq_f, ine_t, ine_f, inb_t, bnd_t, wrap_id, wrap8_id, cond_true, cond_false, Bool.not_true, Bool.not_false, Bool.true_or, Bool.or_true, Bool.false_or, Bool.or_false, Bool.true_and, Bool.and_true, Bool.false_and, Bool.and_false, bool_eq_true', bool_eq_false', toNat_cast', tak]
        | cons d r =>
          obtain ⟨hlt2, hd2, hr2⟩ := drop_cons' hr
          have e1 : ((d.toNat : Int) == 92) = (d == 92) := u8_beq d 92 (by omega)
          have e2 : ((d.toNat : Int) == 34) = (d == 34) := u8_beq d 34 (by omega)
          have e3 : ((d.toNat : Int) == 110) = (d == 110) := u8_beq d 110 (by omega)
          have e4 : ((d.toNat : Int) == 116) = (d == 116) := u8_beq d 116 (by omega)
          have e5 : ((d.toNat : Int) == 120) = (d == 120) := u8_beq d 120 (by omega)
          simp only [List.length_cons] at hm hf hlen
          simp (disch := omega) only [dec_t, dec_f, ieq_t, ieq_f, ine_t, ine_f, inb_t, bnd_t, wrap_id, wrap8_id, cond_true, cond_false, Bool.not_true, Bool.not_false, Bool.true_or, Bool.or_true, Bool.false_or, Bool.or_false, Bool.true_and, Bool.and_true, Bool.false_and, Bool.and_false, bool_eq_true', bool_eq_false', toNat_cast', hd2, e1, e2, e3, e4, e5, tak, toBytes_snoc]
          cases h1 : d == 92 with
          | true =>
            simp only [cond_true]
            exact ref10_meant_double k s hs K m r (n + 1 + 1) f (acc ++ [d]) hr2 (by omega) (by omega) (by simp; omega) (by omega)
          | false =>
          cases h2 : d == 34 with
          | true =>
            simp only [cond_true, cond_false]
            exact ref10_meant_double k s hs K m r (n + 1 + 1) f (acc ++ [d]) hr2 (by omega) (by omega) (by simp; omega) (by omega)
          | false =>
          cases h3 : d == 110 with
          | true =>
            simp only [cond_true, cond_false]
            have e : toBytes acc ++ [(10 : Int)] = toBytes (acc ++ [10]) := toBytes_snoc acc 10
            rw [e]
            exact ref10_meant_double k s hs K m r (n + 1 + 1) f (acc ++ [10]) hr2 (by omega) (by omega) (by simp; omega) (by omega)
          | false =>
          cases h4 : d == 116 with
          | true =>
            simp only [cond_true, cond_false]
            have e : toBytes acc ++ [(9 : Int)] = toBytes (acc ++ [9]) := toBytes_snoc acc 9
            rw [e]
            exact ref10_meant_double k s hs K m r (n + 1 + 1) f (acc ++ [9]) hr2 (by omega) (by omega) (by simp; omega) (by omega)
          | false =>
          cases h5 : d == 120 with
          | false => simp only [cond_true, cond_false]
          | true =>
            simp only [cond_true, cond_false]
            match r, hr2, hm, hf, hlen with
            | [], hr2, hm, hf, hlen =>
              simp only [List.length_nil] at hlen
              simp (disch := omega) only [dec_t, dec_f, ieq_t, ieq_f, ine_t, ine_f, inb_t, bnd_t, wrap_id, wrap8_id, cond_true, cond_false, Bool.not_true, Bool.not_false, Bool.true_or, Bool.or_true, Bool.false_or, Bool.or_false, Bool.true_and, Bool.and_true, Bool.false_and, Bool.and_false, bool_eq_true', bool_eq_false', toNat_cast']
            | [a], hr2, hm, hf, hlen =>
              simp only [List.length_cons, List.length_nil] at hlen
              simp (disch := omega) only [dec_t, dec_f, ieq_t, ieq_f, ine_t, ine_f, inb_t, bnd_t, wrap_id, wrap8_id, cond_true, cond_false, Bool.not_true, Bool.not_false, Bool.true_or, Bool.or_true, Bool.false_or, Bool.or_false, Bool.true_and, Bool.and_true, Bool.false_and, Bool.and_false, bool_eq_true', bool_eq_false', toNat_cast']
            | a :: b :: r, hr2, hm, hf, hlen =>
              obtain ⟨hlt3, ha3, hr3⟩ := drop_cons' hr2
              obtain ⟨hlt4, hb4, hr4⟩ := drop_cons' hr3
              simp only [List.length_cons] at hlen hm hf
              have hb4' : ∀ e, s.getD (n + 1 + 2) e = b := hb4
              simp (disch := omega) only [dec_t, dec_f, ieq_t, ieq_f, ine_t, ine_f, inb_t, bnd_t, wrap_id, wrap8_id, cond_true, cond_false, Bool.not_true, Bool.not_false, Bool.true_or, Bool.or_true, Bool.false_or, Bool.or_false, Bool.true_and, Bool.and_true, Bool.false_and, Bool.and_false, bool_eq_true', bool_eq_false', toNat_cast', ha3, hb4', small_eq]
              cases hxa : hexv a with
              | none =>
                rw [hexI_neg hxa]
                simp (disch := omega) only [dec_t, dec_f, ieq_t, ieq_f, ine_t, ine_f, inb_t, bnd_t, wrap_id, wrap8_id, cond_true, cond_false, Bool.not_true, Bool.not_false, Bool.true_or, Bool.or_true, Bool.false_or, Bool.or_false, Bool.true_and, Bool.and_true, Bool.false_and, Bool.and_false, bool_eq_true', bool_eq_false', toNat_cast']
              | some x =>
                have hx16 := hexv_lt hxa
                rw [hexI_some hxa]
                simp (disch := omega) only [dec_t, dec_f, ieq_t, ieq_f, ine_t, ine_f, inb_t, bnd_t, wrap_id, wrap8_id, cond_true, cond_false, Bool.not_true, Bool.not_false, Bool.true_or, Bool.or_true, Bool.false_or, Bool.or_false, Bool.true_and, Bool.and_true, Bool.false_and, Bool.and_false, bool_eq_true', bool_eq_false', toNat_cast']
                cases hxb : hexv b with
                | none =>
                  rw [hexI_neg hxb]
                  simp (disch := omega) only [dec_t, dec_f, ieq_t, ieq_f, ine_t, ine_f, inb_t, bnd_t, wrap_id, wrap8_id, cond_true, cond_false, Bool.not_true, Bool.not_false, Bool.true_or, Bool.or_true, Bool.false_or, Bool.or_false, Bool.true_and, Bool.and_true, Bool.false_and, Bool.and_false, bool_eq_true', bool_eq_false', toNat_cast']
                | some y =>
                  have hy16 := hexv_lt hxb
                  have eb : IntKind.u8.wrap (IntKind.i64.wrap (16 * (x : Int) + (y : Int))) = ((UInt8.ofNat (16 * x + y)).toNat : Int) := by
                    rw [← byte_of x y hx16 hy16]
                    simp (disch := omega) only [wrap_id]
                  rw [hexI_some hxb, eb]
                  simp (disch := omega) only [dec_t, dec_f, ieq_t, ieq_f, ine_t, ine_f, inb_t, bnd_t, wrap_id, wrap8_id, cond_true, cond_false, Bool.not_true, Bool.not_false, Bool.true_or, Bool.or_true, Bool.false_or, Bool.or_false, Bool.true_and, Bool.and_true, Bool.false_and, Bool.and_false, bool_eq_true', bool_eq_false', toNat_cast', toBytes_snoc]
                  exact ref10_meant_double k s hs K m r (n + 1 + 2 + 1) f (acc ++ [UInt8.ofNat (16 * x + y)]) hr4 (by omega) (by omega) (by simp; omega) (by omega)
theorem ref10_meant_eq (k : Nat) {R : Type} (c : UInt8) (t : List UInt8) (hs : (c :: t).length ≤ 1000000) (hk : (c :: t).length < k) (K : List UInt8 → Bool → Option R) :
    (c = 39 → F_ref10_meant k (c :: t) K = match sgl [] t with
      | some (a, r) => K a (r == [])
      | none => K [] false) ∧
    (c = 34 → F_ref10_meant k (c :: t) K = match dbl (t.length + 1) [] t with
      | some (a, r) => K a (r == [])
      | none => K [] false) := by
  have hi : inb 0 ((c :: t).length : Int) = true := inb_t (by omega) (by rw [List.length_cons]; omega)
  have hg : (c :: t).getD (Int.toNat 0) 0 = c := rfl
  simp only [List.length_cons] at hk
  constructor
  · intro h
    subst h
    unfold F_ref10_meant A_ref10_meant
    simp only [hi, hg, cond_true]
    exact ref10_meant_single k (39 :: t) hs K k t 1 [] rfl (by omega) (by simp) (by simp)
  · intro h
    subst h
    unfold F_ref10_meant A_ref10_meant
    simp only [hi, hg, cond_true]
    exact ref10_meant_double k (34 :: t) hs K k t 1 (t.length + 1) [] rfl (by omega) (by simp) (by simp) (by omega)
end Go.Proofs.Ytfbagjjnfpgjkaa.Pvm

set_option linter.unusedVariables false
set_option linter.unusedSimpArgs false
namespace Go.Proofs.Ytfbagjjnfpgjkaa.Pvm
open Go

abbrev Res := List Pc × (Int × Int)
def finQ (no col : Int) (out : List Pc) : Option (List UInt8 × List UInt8) → Res
  | none => ([], 3, no)
  | some (a, r) => bif !(r == []) then ([], 3, no) else bif decide (200 < a.length) then ([], 4, no) else (out ++ [(3, no, col, a, true)], 0, 0)
def txtS (no ind : Int) (at_ : Nat) (s : List UInt8) (out : List Pc) : Res :=
  match s with
  | [] => (out, 0, 0)
  | c :: t => bif c == 39 then finQ no (ind + at_) out (sgl [] t) else bif c == 34 then finQ no (ind + at_) out (dbl (t.length + 1) [] t)
      else bif oddB c || (dsh (c :: t) || decide (0 < kS (c :: t))) then ([], 4, no) else bif decide (200 < (c :: t).length) then ([], 4, no) else (out ++ [(3, no, ind + at_, c :: t, false)], 0, 0)
def endS (no ind : Int) (at_ : Nat) (s : List UInt8) (out : List Pc) : Res :=
  bif decide (0 < kS s) then bif decide (64 < kS s) then ([], 5, no)
    else txtS no ind (at_ + (kS s + 1) + nb (s.drop (kS s + 1))) ((s.drop (kS s + 1)).drop (nb (s.drop (kS s + 1)))) (out ++ [(2, no, ind + at_, s.take (kS s), false)])
  else txtS no ind at_ s out
def rowS (no ind : Int) : Nat → Nat → List UInt8 → List Pc → Res
  | 0, _, _, out => (out, 0, 0)
  | f + 1, at_, s, out => bif dsh s then rowS no ind f (at_ + 1 + nb (s.drop 1)) ((s.drop 1).drop (nb (s.drop 1))) (out ++ [(1, no, ind + at_, [], false)]) else endS no ind at_ s out
/-- A LINE'S PIECES, OR WHAT IS WRONG. -/
def rowR (no ind : Int) (s : List UInt8) : Res :=
  bif decide (ind < 0) || decide (16384 < ind) then ([], 6, no) else rowS no ind (s.length + 1) (nb s) (s.drop (nb s)) []

/-- how the lexer tells it -/
def outL {R : Type} (K1 : List Pc → Option R) (E1 : Int → Int → Option R) (r : Res) : Option R := bif r.2.1 == 0 then K1 r.1 else E1 r.2.1 r.2.2

theorem piece_eq (k : Nat) {R : Type} (x0 x1 : Int) (x2 : List UInt8) (n : Nat) (x4 : List Pc) (kd : Int) (t : List UInt8) (q : Bool) (b : Nat) (K : Int → Int → List UInt8 → Int → List Pc → Option R)
    (h0 : 0 ≤ x1) (h1 : x1 ≤ 16384) (hn : n ≤ 1000000) (hb : b ≤ 1000000) (hx : x4.length ≤ 1000000) :
    F_lex_lexer_piece k x0 x1 x2 (n : Int) x4 kd t q (b : Int) K = K x0 x1 x2 ((n + b : Nat) : Int) (x4 ++ [(kd, x0, x1 + (n : Int), t, q)]) := by
  unfold F_lex_lexer_piece A_lex_lexer_piece
  rw [fits_t (by simp; omega) (by simp; omega)]
  simp (disch := omega) only [dec_t, dec_f, ieq_t, ieq_f, ine_t, ine_f, inb_t, bnd_t, wrap_id, wrap8_id, cond_true, cond_false, Bool.not_true, Bool.not_false, Bool.true_or, Bool.or_true, Bool.false_or, Bool.or_false, Bool.true_and, Bool.and_true, Bool.false_and, Bool.and_false, bool_eq_true', bool_eq_false', toNat_cast', cast_add]

theorem lex_text_eq (k : Nat) {R : Type} (no ind : Int) (text : List UInt8) (n : Nat) (out : List Pc) (c : UInt8) (t : List UInt8) (K1 : List Pc → Option R) (E1 : Int → Int → Option R)
    (h0 : 0 ≤ ind) (h1 : ind ≤ 16384) (hn : n ≤ 1000000) (ho : out.length ≤ 1000000) (hs : (c :: t).length ≤ 1000000) (hk : (c :: t).length < k) :
    F_lex_lexer_text k no ind text (n : Int) out (c :: t) (fun _ _ _ _ o => K1 o) (fun _ _ _ _ _ a b => E1 a b) = outL K1 E1 (txtS no ind n (c :: t) out) := by
  have hi : inb 0 ((c :: t).length : Int) = true := inb_t (by omega) (by rw [List.length_cons]; omega)
  have hg : (c :: t).getD (Int.toNat 0) 0 = c := rfl
  have e39 : ((c.toNat : Int) == 39) = (c == 39) := u8_beq c 39 (by omega)
  have e34 : ((c.toNat : Int) == 34) = (c == 34) := u8_beq c 34 (by omega)
  have hq := idx_sg c
  unfold sgL at hq
  have quoted : ∀ (x : Option (List UInt8 × List UInt8)), (∀ a r, x = some (a, r) → r.length < t.length + 1) → (match x with
      | some (a, r) => (fun (y10 y11 : Int) (y12 : List UInt8) (y13 : Int) (y14 : List Pc) (y15 : List UInt8) (y16 : Int) =>
          bif y16 != ((c :: t).length : Int) then E1 3 y10
          else bif decide ((y15.length : Int) > 200) then E1 4 y10
            else F_lex_lexer_piece k y10 y11 y12 y13 y14 3 y15 true y16 fun y17 y18 y19 y20 y21 => K1 y21) no ind text (n : Int) out a (((c :: t).length - r.length : Nat) : Int)
      | none => E1 3 no) = outL K1 E1 (finQ no (ind + n) out x) := by
    intro x hx
    cases x with
    | none => rfl
    | some p =>
      obtain ⟨a, r⟩ := p
      have hr := hx a r rfl
      simp only [finQ]
      simp only [List.length_cons] at hs hk ⊢
      cases hre : r == [] with
      | true =>
        have : r = [] := beq_iff_eq.1 hre
        subst this
        simp only [List.length_nil, Nat.sub_zero]
        simp (disch := omega) only [dec_t, dec_f, ieq_t, ieq_f, ine_t, ine_f, inb_t, bnd_t, wrap_id, wrap8_id, cond_true, cond_false, Bool.not_true, Bool.not_false, Bool.true_or, Bool.or_true, Bool.false_or, Bool.or_false, Bool.true_and, Bool.and_true, Bool.false_and, Bool.and_false, bool_eq_true', bool_eq_false', toNat_cast']
        by_cases ha : 200 < a.length
        · simp (disch := omega) only [dec_t, dec_f, ieq_t, ieq_f, ine_t, ine_f, inb_t, bnd_t, wrap_id, wrap8_id, cond_true, cond_false, Bool.not_true, Bool.not_false, Bool.true_or, Bool.or_true, Bool.false_or, Bool.or_false, Bool.true_and, Bool.and_true, Bool.false_and, Bool.and_false, bool_eq_true', bool_eq_false', toNat_cast']; rfl
        · simp (disch := omega) only [dec_t, dec_f, ieq_t, ieq_f, ine_t, ine_f, inb_t, bnd_t, wrap_id, wrap8_id, cond_true, cond_false, Bool.not_true, Bool.not_false, Bool.true_or, Bool.or_true, Bool.false_or, Bool.or_false, Bool.true_and, Bool.and_true, Bool.false_and, Bool.and_false, bool_eq_true', bool_eq_false', toNat_cast']
          rw [piece_eq k no ind text n out 3 a true (t.length + 1) _ h0 h1 hn (by omega) ho]
          rfl
      | false =>
        have hr0 : r.length ≠ 0 := fun e => by rw [List.eq_nil_of_length_eq_zero e] at hre; cases hre
        simp (disch := omega) only [dec_t, dec_f, ieq_t, ieq_f, ine_t, ine_f, inb_t, bnd_t, wrap_id, wrap8_id, cond_true, cond_false, Bool.not_true, Bool.not_false, Bool.true_or, Bool.or_true, Bool.false_or, Bool.or_false, Bool.true_and, Bool.and_true, Bool.false_and, Bool.and_false, bool_eq_true', bool_eq_false', toNat_cast']
        rfl
  unfold F_lex_lexer_text A_lex_lexer_text
  simp only [hi, hg, e39, e34, gives_eq, cond_true, IndexByte_eq, hq, txtS]
  cases h39 : c == 39 with
  | true =>
    simp only [cond_true]
    rw [lex_single_eq k no ind text n out c t hs hk]
    exact quoted (sgl [] t) fun a r h => by have := sgl_le h; omega
  | false =>
    simp only [cond_false]
    cases h34 : c == 34 with
    | true =>
      simp only [cond_true]
      rw [lex_double_eq k no ind text n out c t hs hk]
      exact quoted (dbl (t.length + 1) [] t) fun a r h => by have := dbl_le h; omega
    | false =>
      simp only [cond_false, lex_dash_eq]
      have hky : ∀ K : List UInt8 → Option R, F_lex_key k (c :: t) K = K ((c :: t).take (kS (c :: t))) := fun K => lex_key_eq k (c :: t) K hk (by omega)
      simp only [hky]
      have hkl := kS_lt (c :: t)
      have hne : (((c :: t).take (kS (c :: t))) == []) = decide (kS (c :: t) = 0) := by
        rw [Bool.eq_iff_iff]
        simp only [beq_iff_eq, decide_eq_true_eq]
        constructor
        · intro h
          have := congrArg List.length h
          rw [List.length_take, List.length_nil] at this
          simp only [List.length_cons] at this hkl
          omega
        · intro h; rw [h, List.take_zero]
      rw [hne]
      cases h1' : oddB c with
      | true => rfl
      | false =>
        simp only [dec_t, dec_f, ieq_t, ieq_f, ine_t, ine_f, inb_t, bnd_t, wrap_id, wrap8_id, cond_true, cond_false, Bool.not_true, Bool.not_false, Bool.true_or, Bool.or_true, Bool.false_or, Bool.or_false, Bool.true_and, Bool.and_true, Bool.false_and, Bool.and_false, bool_eq_true', bool_eq_false', toNat_cast']
        cases h2' : dsh (c :: t) with
        | true => rfl
        | false =>
          simp only [dec_t, dec_f, ieq_t, ieq_f, ine_t, ine_f, inb_t, bnd_t, wrap_id, wrap8_id, cond_true, cond_false, Bool.not_true, Bool.not_false, Bool.true_or, Bool.or_true, Bool.false_or, Bool.or_false, Bool.true_and, Bool.and_true, Bool.false_and, Bool.and_false, bool_eq_true', bool_eq_false', toNat_cast']
          by_cases h3 : kS (c :: t) = 0
          · simp (disch := omega) only [dec_t, dec_f, ieq_t, ieq_f, ine_t, ine_f, inb_t, bnd_t, wrap_id, wrap8_id, cond_true, cond_false, Bool.not_true, Bool.not_false, Bool.true_or, Bool.or_true, Bool.false_or, Bool.or_false, Bool.true_and, Bool.and_true, Bool.false_and, Bool.and_false, bool_eq_true', bool_eq_false', toNat_cast']
            by_cases h4 : 200 < (c :: t).length
            · simp (disch := omega) only [dec_t, dec_f, ieq_t, ieq_f, ine_t, ine_f, inb_t, bnd_t, wrap_id, wrap8_id, cond_true, cond_false, Bool.not_true, Bool.not_false, Bool.true_or, Bool.or_true, Bool.false_or, Bool.or_false, Bool.true_and, Bool.and_true, Bool.false_and, Bool.and_false, bool_eq_true', bool_eq_false', toNat_cast']; rfl
            · simp (disch := omega) only [dec_t, dec_f, ieq_t, ieq_f, ine_t, ine_f, inb_t, bnd_t, wrap_id, wrap8_id, cond_true, cond_false, Bool.not_true, Bool.not_false, Bool.true_or, Bool.or_true, Bool.false_or, Bool.or_false, Bool.true_and, Bool.and_true, Bool.false_and, Bool.and_false, bool_eq_true', bool_eq_false', toNat_cast']
              rw [piece_eq k no ind text n out 3 (c :: t) false (c :: t).length _ h0 h1 hn hs ho]
              rfl
          · simp (disch := omega) only [dec_t, dec_f, ieq_t, ieq_f, ine_t, ine_f, inb_t, bnd_t, wrap_id, wrap8_id, cond_true, cond_false, Bool.not_true, Bool.not_false, Bool.true_or, Bool.or_true, Bool.false_or, Bool.or_false, Bool.true_and, Bool.and_true, Bool.false_and, Bool.and_false, bool_eq_true', bool_eq_false', toNat_cast']; rfl
end Go.Proofs.Ytfbagjjnfpgjkaa.Pvm

set_option linter.unusedVariables false
set_option linter.unusedSimpArgs false
namespace Go.Proofs.Ytfbagjjnfpgjkaa.Pvm
open Go

theorem kS_room {s : List UInt8} (h : 0 < kS s) : kS s + 1 ≤ s.length := by
  have h1 := tw_len s
  cases hd : s.drop (s.takeWhile sgn).length with
  | nil => rw [kS_end hd] at h; omega
  | cons c r =>
    obtain ⟨hlt, _, _⟩ := drop_cons' hd
    rw [kS_at hd] at h ⊢
    cases hb : ((c == 58) && hd32 r) <;> rw [hb] at h <;> simp only [cond_true, cond_false] at h ⊢ <;> omega
theorem take_nil (s : List UInt8) : ((s.take (kS s)) == []) = decide (kS s = 0) := by
  have hkl := kS_lt s
  rw [Bool.eq_iff_iff]
  simp only [beq_iff_eq, decide_eq_true_eq]
  constructor
  · intro h
    have := congrArg List.length h
    rw [List.length_take, List.length_nil] at this
    omega
  · intro h; rw [h, List.take_zero]

theorem lex_end_eq (k : Nat) {R : Type} (no ind : Int) (text : List UInt8) (n : Nat) (s : List UInt8) (out : List Pc) (K1 : List Pc → Option R) (E1 : Int → Int → Option R)
    (h0 : 0 ≤ ind) (h1 : ind ≤ 16384) (ht : text.length ≤ 1000000) (hk : text.length + 20 < k) (hs : text.drop n = s) (hn : n ≤ text.length) (ho : out.length ≤ n) :
    (bif !(s == []) then F_lex_lexer_text k no ind text (n : Int) out s (fun _ _ _ _ o => K1 o) (fun _ _ _ _ _ a b => E1 a b) else K1 out) = outL K1 E1 (txtS no ind n s out) := by
  have hl := congrArg List.length hs
  rw [List.length_drop] at hl
  cases s with
  | nil => rfl
  | cons c t =>
    have : ((c :: t) == ([] : List UInt8)) = false := rfl
    rw [this, Bool.not_false, cond_true]
    exact lex_text_eq k no ind text n out c t K1 E1 h0 h1 (by omega) (by omega) (by omega) (by omega)
theorem lex_row_loop (k : Nat) {R : Type} (no ind : Int) (text : List UInt8) (K1 : List Pc → Option R) (E1 : Int → Int → Option R)
    (h0 : 0 ≤ ind) (h1 : ind ≤ 16384) (ht : text.length ≤ 1000000) (hk : text.length + 20 < k) :
    ∀ (m : Nat) (s : List UInt8) (n f : Nat) (out : List Pc), text.drop n = s → s.length < m → n ≤ text.length → out.length ≤ n → s.length < f →
      L_lex_lexer_row_1003 k m no ind text (n : Int) out s (fun _ _ _ _ o => K1 o) (fun _ _ _ _ _ a b => E1 a b) = outL K1 E1 (rowS no ind f n s out)
  | 0, s, n, f, out, _, hm, _, _, _ => by omega
  | m + 1, s, n, 0, out, _, _, _, _, hf => by omega
  | m + 1, s, n, f + 1, out, hs, hm, hn, ho, hf => by
    have hl := congrArg List.length hs
    rw [List.length_drop] at hl
    rw [L_lex_lexer_row_1003, B_lex_lexer_row_1003, rowS, lex_dash_eq]
    cases hd : dsh s with
    | true =>
      simp only [cond_true]
      cases s with
      | nil => cases hd
      | cons c t =>
        simp only [List.length_cons] at hm hf hl
        obtain ⟨hlt, _, hr⟩ := drop_cons' hs
        refine Eq.trans (piece_eq k no ind text n out 1 [] false 1 _ h0 h1 (by omega) (by omega) (by omega)) ?_
        rw [lex_rest_eq k no ind text (n + 1) _ _ (by omega) (by omega) (by omega)]
        rw [hr]
        have := nb_le t
        exact lex_row_loop k no ind text K1 E1 h0 h1 ht hk m (t.drop (nb t)) (n + 1 + nb t) f _ (by rw [← hr, List.drop_drop]) (by rw [List.length_drop]; omega) (by omega) (by simp; omega) (by rw [List.length_drop]; omega)
    | false =>
      simp only [cond_false]
      rw [lex_key_eq k s _ (by omega) (by omega), take_nil, endS]
      simp only [gives_eq]
      have hkl := kS_lt s
      by_cases hz : kS s = 0
      · simp (disch := omega) only [dec_t, dec_f, ieq_t, ieq_f, ine_t, ine_f, inb_t, bnd_t, wrap_id, wrap8_id, cond_true, cond_false, Bool.not_true, Bool.not_false, Bool.true_or, Bool.or_true, Bool.false_or, Bool.or_false, Bool.true_and, Bool.and_true, Bool.false_and, Bool.and_false, bool_eq_true', bool_eq_false', toNat_cast']
        exact lex_end_eq k no ind text n s out K1 E1 h0 h1 ht hk hs hn ho
      · have hkr := kS_room (s := s) (by omega)
        have hlen : (s.take (kS s)).length = kS s := by rw [List.length_take]; omega
        simp (disch := omega) only [dec_t, dec_f, ieq_t, ieq_f, ine_t, ine_f, inb_t, bnd_t, wrap_id, wrap8_id, cond_true, cond_false, Bool.not_true, Bool.not_false, Bool.true_or, Bool.or_true, Bool.false_or, Bool.or_false, Bool.true_and, Bool.and_true, Bool.false_and, Bool.and_false, bool_eq_true', bool_eq_false', toNat_cast', hlen]
        by_cases h64 : 64 < kS s
        · simp (disch := omega) only [dec_t, dec_f, ieq_t, ieq_f, ine_t, ine_f, inb_t, bnd_t, wrap_id, wrap8_id, cond_true, cond_false, Bool.not_true, Bool.not_false, Bool.true_or, Bool.or_true, Bool.false_or, Bool.or_false, Bool.true_and, Bool.and_true, Bool.false_and, Bool.and_false, bool_eq_true', bool_eq_false', toNat_cast']; rfl
        · simp (disch := omega) only [dec_t, dec_f, ieq_t, ieq_f, ine_t, ine_f, inb_t, bnd_t, wrap_id, wrap8_id, cond_true, cond_false, Bool.not_true, Bool.not_false, Bool.true_or, Bool.or_true, Bool.false_or, Bool.or_false, Bool.true_and, Bool.and_true, Bool.false_and, Bool.and_false, bool_eq_true', bool_eq_false', toNat_cast', cast_succ]
          rw [piece_eq k no ind text n out 2 _ false (kS s + 1) _ h0 h1 (by omega) (by omega) (by omega)]
          rw [lex_rest_eq k no ind text (n + (kS s + 1)) _ _ (by omega) (by omega) (by omega)]
          have hr : text.drop (n + (kS s + 1)) = s.drop (kS s + 1) := by rw [← hs, List.drop_drop]
          rw [hr]
          have := nb_le (s.drop (kS s + 1))
          rw [List.length_drop] at this
          exact lex_end_eq k no ind text (n + (kS s + 1) + nb (s.drop (kS s + 1))) _ _ K1 E1 h0 h1 ht hk (by rw [← hr, List.drop_drop]) (by omega) (by simp; omega)
theorem lex_Row_eq (k : Nat) {R : Type} (no ind : Int) (s : List UInt8) (K : List Pc → Int → Int → Option R) (ht : s.length ≤ 1000000) (hk : s.length + 20 < k) :
    F_lex_Row k no ind s K = K (rowR no ind s).1 (rowR no ind s).2.1 (rowR no ind s).2.2 := by
  unfold F_lex_Row A_lex_Row F_lex_Row_1_n A_lex_Row_1_n F_lex_Row_1_p A_lex_Row_1_p F_lex_lexer_row A_lex_lexer_row
  simp only [gives_eq]
  have fin : ∀ r : Res, (r.2.1 = 0 → r.2.2 = 0) → (r.2.1 ≠ 0 → r.1 = []) → outL (fun o => K o 0 0) (fun a b => K [] a b) r = K r.1 r.2.1 r.2.2 := by
    intro r h1 h2
    unfold outL
    by_cases h : r.2.1 = 0
    · rw [h1 h, h]; rfl
    · rw [h2 h, ieq_f h]; rfl
  have okQ : ∀ (col : Int) (out : List Pc) x, ((finQ no col out x).2.1 = 0 → (finQ no col out x).2.2 = 0) ∧ ((finQ no col out x).2.1 ≠ 0 → (finQ no col out x).1 = []) := by
    intro col out x
    unfold finQ
    split
    · simp
    · next a r =>
      cases !(r == []) <;> simp only [cond_true, cond_false]
      · cases decide (200 < a.length) <;> simp
      · simp
  have okT : ∀ n s out, ((txtS no ind n s out).2.1 = 0 → (txtS no ind n s out).2.2 = 0) ∧ ((txtS no ind n s out).2.1 ≠ 0 → (txtS no ind n s out).1 = []) := by
    intro n s out
    unfold txtS
    split
    · simp
    · next c t =>
      cases c == 39 <;> simp only [cond_true, cond_false]
      · cases c == 34 <;> simp only [cond_true, cond_false]
        · cases (oddB c || (dsh (c :: t) || decide (0 < kS (c :: t)))) <;> simp only [cond_true, cond_false]
          · cases decide (200 < (c :: t).length) <;> simp
          · simp
        · exact okQ _ _ _
      · exact okQ _ _ _
  have okE : ∀ n s out, ((endS no ind n s out).2.1 = 0 → (endS no ind n s out).2.2 = 0) ∧ ((endS no ind n s out).2.1 ≠ 0 → (endS no ind n s out).1 = []) := by
    intro n s out
    unfold endS
    cases decide (0 < kS s) <;> simp only [cond_true, cond_false]
    · exact okT _ _ _
    · cases decide (64 < kS s) <;> simp only [cond_true, cond_false]
      · exact okT _ _ _
      · simp
  have okR : ∀ f n s out, ((rowS no ind f n s out).2.1 = 0 → (rowS no ind f n s out).2.2 = 0) ∧ ((rowS no ind f n s out).2.1 ≠ 0 → (rowS no ind f n s out).1 = []) := by
    intro f
    induction f with
    | zero => intro n s out; simp [rowS]
    | succ f ih =>
      intro n s out
      rw [rowS]
      cases dsh s <;> simp only [cond_true, cond_false]
      · exact okE _ _ _
      · exact ih _ _ _
  by_cases hi : ind < 0 ∨ 16384 < ind
  · have e1 : (bif decide (ind < 0) then true else decide (ind > 16384)) = true := by
      rw [Bool.cond_true_left]
      simp
      omega
    have e2 : (decide (ind < 0) || decide (16384 < ind)) = true := by simp; omega
    rw [e1, cond_true]
    unfold rowR
    rw [e2]
    rfl
  · have e1 : (bif decide (ind < 0) then true else decide (ind > 16384)) = false := by
      rw [Bool.cond_true_left]
      simp
      omega
    have e2 : (decide (ind < 0) || decide (16384 < ind)) = false := by simp; omega
    rw [e1, cond_false]
    unfold rowR
    rw [e2, cond_false]
    have := lex_rest_eq k no ind s 0 [] (fun y10 y11 y12 y13 y14 y15 => L_lex_lexer_row_1003 k k y10 y11 y12 y13 y14 y15 (fun _ _ _ _ o => K o 0 0) (fun _ _ _ _ _ a b => K [] a b)) (by omega) (by omega) (by omega)
    refine Eq.trans this ?_
    simp only [List.drop_zero, Nat.zero_add]
    have hnb := nb_le s
    rw [lex_row_loop k no ind s (fun o => K o 0 0) (fun a b => K [] a b) (by omega) (by omega) ht hk k (s.drop (nb s)) (nb s) (s.length + 1) [] rfl (by rw [List.length_drop]; omega) hnb (by simp) (by rw [List.length_drop]; omega)]
    exact fin _ (okR _ _ _ _).1 (okR _ _ _ _).2
end Go.Proofs.Ytfbagjjnfpgjkaa.Pvm

set_option linter.unusedVariables false
set_option linter.unusedSimpArgs false
namespace Go.Proofs.Ytfbagjjnfpgjkaa.Pvm
open Go

theorem cut_mid {α : Type} (s : List α) (n j : Nat) : cut s (n : Int) ((n + j : Nat) : Int) = (s.drop n).take j := by
  simp only [cut, toNat_cast']
  rw [List.drop_take]
  congr 1
  omega
theorem ref10_row_loop (k : Nat) {R : Type} (no ind : Int) (text : List UInt8) (K : List Pc → Int → Int → Option R)
    (h0 : 0 ≤ ind) (h1 : ind ≤ 16384) (ht : text.length ≤ 1000000) (hk : text.length + 20 < k) :
    ∀ (m : Nat) (s : List UInt8) (n f : Nat) (out : List Pc), text.drop n = s → s.length < m → n ≤ text.length → out.length ≤ n → s.length < f →
      L_ref10_Row_1006 k m no ind text 0 0 out text (n : Int) K = K (rowS no ind f n s out).1 (rowS no ind f n s out).2.1 (rowS no ind f n s out).2.2
  | 0, s, n, f, out, _, hm, _, _, _ => by omega
  | m + 1, s, n, 0, out, _, _, _, _, hf => by omega
  | m + 1, s, n, f + 1, out, hs, hm, hn, ho, hf => by
    have hl := congrArg List.length hs
    rw [List.length_drop] at hl
    rw [L_ref10_Row_1006, B_ref10_Row_1006, rowS]
    simp (disch := omega) only [bnd_t, cond_true, cut_end, hs, ref10_dashed_eq]
    cases hd : dsh s with
    | true =>
      simp only [cond_true]
      cases s with
      | nil => cases hd
      | cons c t =>
        simp only [List.length_cons] at hm hf hl
        obtain ⟨hlt, _, hr⟩ := drop_cons' hs
        have f1 : ∀ x : Pc, fits out.length [x].length 48 = true := fun x => fits_t (by simp; omega) (by simp; omega)
        simp (disch := omega) only [f1, cond_true, wrap_id, cast_succ]
        rw [ref10_blanks_eq k text (n + 1) _ (by omega) (by omega) (by omega), hr]
        have := nb_le t
        simp (disch := omega) only [wrap_id, cast_add]
        exact ref10_row_loop k no ind text K h0 h1 ht hk m (t.drop (nb t)) (n + 1 + nb t) f _ (by rw [← hr, List.drop_drop]) (by rw [List.length_drop]; omega) (by omega) (by simp; omega) (by rw [List.length_drop]; omega)
    | false =>
      simp only [cond_false]
      rw [ref10_keyed_eq k s _ (by omega) (by omega), endS]
      have hkl := kS_lt s
      -- what follows the key
      have tail : ∀ (a : Nat) (s : List UInt8) (out : List Pc), text.drop a = s → a ≤ text.length → out.length ≤ 1000000 →
          (bif decide ((a : Int) ≥ (text.length : Int)) then K out 0 0
            else bif inb (a : Int) (text.length : Int) then
                bif bif ((text.getD a 0).toNat : Int) == 39 then true else ((text.getD a 0).toNat : Int) == 34 then
                    F_ref10_meant k s fun y14 y15 =>
                      bif !y15 then K [] 3 no else bif decide ((y14.length : Int) > 200) then K [] 4 no else
                        bif fits out.length 1 48 then K (out ++ [(3, no, ind + (a : Int), y14, true)]) 0 0 else none
                else F_ref10_odd k ((text.getD a 0).toNat : Int) fun y14 =>
                    bif y14 == false then bif dsh s == false then F_ref10_keyed k s fun y16 => bif decide (y16 > 0) then K [] 4 no else bif decide ((s.length : Int) > 200) then K [] 4 no else
                        bif fits out.length 1 48 then K (out ++ [(3, no, ind + (a : Int), s, false)]) 0 0 else none
                      else K [] 4 no
                    else K [] 4 no
              else none) = K (txtS no ind a s out).1 (txtS no ind a s out).2.1 (txtS no ind a s out).2.2 := by
        intro a s out hs ha hout
        have hl := congrArg List.length hs
        rw [List.length_drop] at hl
        cases s with
        | nil =>
          have := drop_nil hs
          simp (disch := omega) only [dec_t, cond_true, txtS]
        | cons c t =>
          obtain ⟨hlt, hc, _⟩ := drop_cons' hs
          have e39 : ((c.toNat : Int) == 39) = (c == 39) := u8_beq c 39 (by omega)
          have e34 : ((c.toNat : Int) == 34) = (c == 34) := u8_beq c 34 (by omega)
          have f1 : fits out.length 1 48 = true := fits_t (by omega) (by omega)
          have hkc := kS_lt (c :: t)
          have quoted : ∀ x : Option (List UInt8 × List UInt8), (match x with
              | some (a', r) => (fun (y14 : List UInt8) (y15 : Bool) => bif !y15 then K [] 3 no else bif decide ((y14.length : Int) > 200) then K [] 4 no else K (out ++ [(3, no, ind + (a : Int), y14, true)]) 0 0) a' (r == [])
              | none => K [] 3 no) = K (finQ no (ind + a) out x).1 (finQ no (ind + a) out x).2.1 (finQ no (ind + a) out x).2.2 := by
            intro x
            cases x with
            | none => rfl
            | some p =>
              obtain ⟨a', r⟩ := p
              simp only [finQ]
              cases r == [] with
              | false => rfl
              | true =>
                simp only [Bool.not_true, cond_false]
                by_cases h2 : 200 < a'.length
                · simp (disch := omega) only [dec_t, dec_f, ieq_t, ieq_f, ine_t, ine_f, inb_t, bnd_t, wrap_id, wrap8_id, cond_true, cond_false, Bool.not_true, Bool.not_false, Bool.true_or, Bool.or_true, Bool.false_or, Bool.or_false, Bool.true_and, Bool.and_true, Bool.false_and, Bool.and_false, bool_eq_true', bool_eq_false', toNat_cast']
                · simp (disch := omega) only [dec_t, dec_f, ieq_t, ieq_f, ine_t, ine_f, inb_t, bnd_t, wrap_id, wrap8_id, cond_true, cond_false, Bool.not_true, Bool.not_false, Bool.true_or, Bool.or_true, Bool.false_or, Bool.or_false, Bool.true_and, Bool.and_true, Bool.false_and, Bool.and_false, bool_eq_true', bool_eq_false', toNat_cast']
          simp (disch := omega) only [dec_f, inb_t, hc, e39, e34, f1, cond_true, cond_false, txtS]
          cases h39 : c == 39 with
          | true =>
            simp only [cond_true]
            rw [(ref10_meant_eq k c t (by omega) (by omega) _).1 (beq_iff_eq.1 h39)]
            exact (by rw [← quoted]; cases sgl [] t <;> rfl)
          | false =>
            simp only [cond_false]
            cases h34 : c == 34 with
            | true =>
              simp only [cond_true]
              rw [(ref10_meant_eq k c t (by omega) (by omega) _).2 (beq_iff_eq.1 h34)]
              exact (by rw [← quoted]; cases dbl (t.length + 1) [] t <;> rfl)
            | false =>
              simp only [cond_false]
              rw [ref10_odd_eq k c _ (by omega)]
              cases oddB c with
              | true => rfl
              | false =>
                cases dsh (c :: t) with
                | true => rfl
                | false =>
                  simp only [dec_t, dec_f, ieq_t, ieq_f, ine_t, ine_f, inb_t, bnd_t, wrap_id, wrap8_id, cond_true, cond_false, Bool.not_true, Bool.not_false, Bool.true_or, Bool.or_true, Bool.false_or, Bool.or_false, Bool.true_and, Bool.and_true, Bool.false_and, Bool.and_false, bool_eq_true', bool_eq_false', toNat_cast']
                  rw [ref10_keyed_eq k (c :: t) _ (by omega) (by omega)]
                  by_cases h3 : kS (c :: t) = 0
                  · simp (disch := omega) only [dec_t, dec_f, ieq_t, ieq_f, ine_t, ine_f, inb_t, bnd_t, wrap_id, wrap8_id, cond_true, cond_false, Bool.not_true, Bool.not_false, Bool.true_or, Bool.or_true, Bool.false_or, Bool.or_false, Bool.true_and, Bool.and_true, Bool.false_and, Bool.and_false, bool_eq_true', bool_eq_false', toNat_cast']
                    by_cases h4 : 200 < (c :: t).length
                    · simp (disch := omega) only [dec_t, dec_f, ieq_t, ieq_f, ine_t, ine_f, inb_t, bnd_t, wrap_id, wrap8_id, cond_true, cond_false, Bool.not_true, Bool.not_false, Bool.true_or, Bool.or_true, Bool.false_or, Bool.or_false, Bool.true_and, Bool.and_true, Bool.false_and, Bool.and_false, bool_eq_true', bool_eq_false', toNat_cast']
                    · simp (disch := omega) only [dec_t, dec_f, ieq_t, ieq_f, ine_t, ine_f, inb_t, bnd_t, wrap_id, wrap8_id, cond_true, cond_false, Bool.not_true, Bool.not_false, Bool.true_or, Bool.or_true, Bool.false_or, Bool.or_false, Bool.true_and, Bool.and_true, Bool.false_and, Bool.and_false, bool_eq_true', bool_eq_false', toNat_cast']
                  · simp (disch := omega) only [dec_t, dec_f, ieq_t, ieq_f, ine_t, ine_f, inb_t, bnd_t, wrap_id, wrap8_id, cond_true, cond_false, Bool.not_true, Bool.not_false, Bool.true_or, Bool.or_true, Bool.false_or, Bool.or_false, Bool.true_and, Bool.and_true, Bool.false_and, Bool.and_false, bool_eq_true', bool_eq_false', toNat_cast']
      by_cases hz : kS s = 0
      · have := tail n s out hs hn (by omega)
        have e0 : decide (0 < kS s) = false := dec_f (by omega)
        rw [e0, cond_false, ← this]
        simp (disch := omega) only [dec_f, cond_false, toNat_cast', wrap_id, List.length_singleton, bnd_t, cond_true, Bool.or_true]
        by_cases hge : text.length ≤ n
        · simp (disch := omega) only [dec_t, cond_true]
        · simp (disch := omega) only [dec_f, cond_false, inb_t, cond_true, Bool.or_true, ref10_dashed_eq, hd]
      · have hkr := kS_room (s := s) (by omega)
        have e0 : decide (0 < kS s) = true := dec_t (by omega)
        rw [e0, cond_true]
        by_cases h64 : 64 < kS s
        · simp (disch := omega) only [dec_t, dec_f, ieq_t, ieq_f, ine_t, ine_f, inb_t, bnd_t, wrap_id, wrap8_id, cond_true, cond_false, Bool.not_true, Bool.not_false, Bool.true_or, Bool.or_true, Bool.false_or, Bool.or_false, Bool.true_and, Bool.and_true, Bool.false_and, Bool.and_false, bool_eq_true', bool_eq_false', toNat_cast']
        · have e64 : decide (64 < kS s) = false := dec_f h64
          rw [e64, cond_false]
          have hnb := nb_le (s.drop (kS s + 1))
          rw [List.length_drop] at hnb
          have hr : text.drop (n + kS s + 1) = s.drop (kS s + 1) := by rw [← hs, List.drop_drop]; congr 1
          have f1 : fits out.length 1 48 = true := fits_t (by omega) (by omega)
          simp (disch := omega) only [dec_t, dec_f, cond_false, cond_true, wrap_id, cast_add, cast_succ, bnd_t, List.length_singleton, f1, cut_mid, hs]
          rw [ref10_blanks_eq k text (n + kS s + 1) _ (by omega) (by omega) (by omega), hr]
          simp (disch := omega) only [wrap_id, cast_add]
          have e1 : n + (kS s + 1) + nb (s.drop (kS s + 1)) = n + kS s + 1 + nb (s.drop (kS s + 1)) := by omega
          rw [e1]
          have hta : text.drop (n + kS s + 1 + nb (s.drop (kS s + 1))) = (s.drop (kS s + 1)).drop (nb (s.drop (kS s + 1))) := by rw [← hr, List.drop_drop, hr]
          have := tail (n + kS s + 1 + nb (s.drop (kS s + 1))) _ (out ++ [(2, no, ind + (n : Int), s.take (kS s), false)]) hta (by omega) (by simp; omega)
          rw [← this]
          generalize n + kS s + 1 + nb (s.drop (kS s + 1)) = a at hta ⊢
          have hal : a ≤ text.length ∨ text.length < a := by omega
          by_cases hge : text.length ≤ a
          · simp (disch := omega) only [dec_t, cond_true]
          · simp (disch := omega) only [dec_f, cond_false, inb_t, cond_true, Bool.or_true, bnd_t, cut_end, hta, ref10_dashed_eq, toNat_cast']
theorem ref10_Row_eq (k : Nat) {R : Type} (no ind : Int) (s : List UInt8) (K : List Pc → Int → Int → Option R) (ht : s.length ≤ 1000000) (hk : s.length + 20 < k) :
    F_ref10_Row k no ind s K = K (rowR no ind s).1 (rowR no ind s).2.1 (rowR no ind s).2.2 := by
  unfold F_ref10_Row A_ref10_Row rowR
  by_cases hi : ind < 0 ∨ 16384 < ind
  · have e1 : (bif decide (ind < 0) then true else decide (ind > 16384)) = true := by
      rw [Bool.cond_true_left]
      simp
      omega
    have e2 : (decide (ind < 0) || decide (16384 < ind)) = true := by simp; omega
    rw [e1, e2]
    rfl
  · have e1 : (bif decide (ind < 0) then true else decide (ind > 16384)) = false := by
      rw [Bool.cond_true_left]
      simp
      omega
    have e2 : (decide (ind < 0) || decide (16384 < ind)) = false := by simp; omega
    rw [e1, e2]
    simp only [cond_false]
    refine Eq.trans (ref10_blanks_eq k s 0 _ (by omega) (by omega) (by omega)) ?_
    rw [List.drop_zero]
    have hnb := nb_le s
    exact ref10_row_loop k no ind s K (by omega) (by omega) ht hk k (s.drop (nb s)) (nb s) (s.length + 1) [] rfl (by rw [List.length_drop]; omega) hnb (by simp) (by rw [List.length_drop]; omega)
end Go.Proofs.Ytfbagjjnfpgjkaa.Pvm

set_option maxRecDepth 1000000
set_option maxHeartbeats 0
set_option linter.unusedVariables false
namespace Go.Proofs.Ytfbagjjnfpgjkaa.Pvm
open Go Go.Proofs
def sig_ref10_Pieces : List LS := [.sl (.pr (.int .i64) (.pr (.int .i64) .str))]
def C_ref10_Pieces (k : Nat) : CTab := ⟨fun f => bif Nat.beq f 9 then sig_ref10_Row else [], fun f {_} ps hp K => bif Nat.beq f 9 then run_ref10_Row k ps hp K else none⟩
def wrap_ref10_Pieces {R : Type} (K : ((List (Int × (Int × (Int × ((List UInt8) × Bool))))) → Int → Int → Option R)) : Out → Option R
  | .ret [.v (.sl (.pr (.int .i64) (.pr (.int .i64) (.pr (.int .i64) (.pr .str .bool))))) y0, .agg [.v (.int .i64) y1, .v (.int .i64) y2]] [] => K y0 y1 y2
  | _ => none
def sp_ref10_Pieces : RetSpec := ⟨[.sl (.pr (.int .i64) (.pr (.int .i64) (.pr (.int .i64) (.pr .str .bool)))), .ag [.any, .any]], [], []⟩
def cuts_ref10_Pieces : List (Nat × CutSpec) := [(1003, ⟨[(0, .sl (.pr (.int .i64) (.pr (.int .i64) .str))), (3, .obj 13 [.any, .any]), (4, .own 100004 36 (.pr (.int .i64) (.pr (.int .i64) (.pr (.int .i64) (.pr .str .bool))))), (5, .any)], []⟩)]
def plans_ref10_Pieces : List (Nat × List (Nat × Nat)) := [(7, [(1, 1), (0, 1), (2, 0)])]
def cx_ref10_Pieces (k : Nat) : Ctx := ⟨tyT, cuts_ref10_Pieces, C_ref10_Pieces k, [], [], plans_ref10_Pieces⟩
noncomputable def code_ref10_Pieces : Code := Try.f12.body.getD .skip
def st_ref10_Pieces_1003 (s0 : (List (Int × (Int × (List UInt8))))) (s1 : Int) (s2 : Int) (s3 : (List (Int × (Int × (Int × ((List UInt8) × Bool)))))) (s4 : Int) : St := ⟨mkT [(0, .v (.sl (.pr (.int .i64) (.pr (.int .i64) .str))) s0), (3, .ptr 13 0), (4, .row 100004), (5, .v (.int .i64) s4)], mkH [(13, .var 27 [.v (.int .i64) s1, .v (.int .i64) s2]), (100004, .row 36 (.pr (.int .i64) (.pr (.int .i64) (.pr (.int .i64) (.pr .str .bool)))) s3)]⟩
def B_ref10_Pieces_1003 (k : Nat) {R : Type} (E1003 : ((List (Int × (Int × (List UInt8)))) → Int → Int → (List (Int × (Int × (Int × ((List UInt8) × Bool))))) → Int → Option R)) (s0 : (List (Int × (Int × (List UInt8))))) (s1 : Int) (s2 : Int) (s3 : (List (Int × (Int × (Int × ((List UInt8) × Bool)))))) (s4 : Int) (K : ((List (Int × (Int × (Int × ((List UInt8) × Bool))))) → Int → Int → Option R)) : Option R := (@cond (@Option R) (@Decidable.decide (@LT.lt @Int @Int.instLTInt s4 (@Nat.cast @Int @instNatCastInt (@List.length (@Kd.T (@Kd.pr (@Kd.int @Go.IntKind.i64) (@Kd.pr (@Kd.int @Go.IntKind.i64) @Kd.str))) s0))) (@Int.decLt s4 (@Nat.cast @Int @instNatCastInt (@List.length (@Kd.T (@Kd.pr (@Kd.int @Go.IntKind.i64) (@Kd.pr (@Kd.int @Go.IntKind.i64) @Kd.str))) s0)))) (@cond (@Option R) (@inb s4 (@Nat.cast @Int @instNatCastInt (@List.length (@Kd.T (@Kd.pr (@Kd.int @Go.IntKind.i64) (@Kd.pr (@Kd.int @Go.IntKind.i64) @Kd.str))) s0))) (@F_ref10_Row k R (@Prod.fst (@Kd.T (@Kd.int @Go.IntKind.i64)) (@Kd.T (@Kd.pr (@Kd.int @Go.IntKind.i64) @Kd.str)) (@List.getD (@Kd.T (@Kd.pr (@Kd.int @Go.IntKind.i64) (@Kd.pr (@Kd.int @Go.IntKind.i64) @Kd.str))) s0 (@Int.toNat s4) (@Kd.zero (@Kd.pr (@Kd.int @Go.IntKind.i64) (@Kd.pr (@Kd.int @Go.IntKind.i64) @Kd.str))))) (@Prod.fst (@Kd.T (@Kd.int @Go.IntKind.i64)) (@Kd.T @Kd.str) (@Prod.snd (@Kd.T (@Kd.int @Go.IntKind.i64)) (@Kd.T (@Kd.pr (@Kd.int @Go.IntKind.i64) @Kd.str)) (@List.getD (@Kd.T (@Kd.pr (@Kd.int @Go.IntKind.i64) (@Kd.pr (@Kd.int @Go.IntKind.i64) @Kd.str))) s0 (@Int.toNat s4) (@Kd.zero (@Kd.pr (@Kd.int @Go.IntKind.i64) (@Kd.pr (@Kd.int @Go.IntKind.i64) @Kd.str)))))) (@Prod.snd (@Kd.T (@Kd.int @Go.IntKind.i64)) (@Kd.T @Kd.str) (@Prod.snd (@Kd.T (@Kd.int @Go.IntKind.i64)) (@Kd.T (@Kd.pr (@Kd.int @Go.IntKind.i64) @Kd.str)) (@List.getD (@Kd.T (@Kd.pr (@Kd.int @Go.IntKind.i64) (@Kd.pr (@Kd.int @Go.IntKind.i64) @Kd.str))) s0 (@Int.toNat s4) (@Kd.zero (@Kd.pr (@Kd.int @Go.IntKind.i64) (@Kd.pr (@Kd.int @Go.IntKind.i64) @Kd.str)))))) (fun (y9 : (@List (@Prod @Int (@Prod @Int (@Prod @Int (@Prod (@List @UInt8) @Bool)))))) => (fun (y10 : @Int) => (fun (y11 : @Int) => (@cond (@Option R) (@bne @Int (@instBEqOfDecidableEq @Int @Int.instDecidableEq) y10 (0 : @Int)) (K (@List.nil (@Kd.T (@Kd.pr (@Kd.int @Go.IntKind.i64) (@Kd.pr (@Kd.int @Go.IntKind.i64) (@Kd.pr (@Kd.int @Go.IntKind.i64) (@Kd.pr @Kd.str @Kd.bool)))))) y10 y11) (@cond (@Option R) (@fits (@List.length (@Kd.T (@Kd.pr (@Kd.int @Go.IntKind.i64) (@Kd.pr (@Kd.int @Go.IntKind.i64) (@Kd.pr (@Kd.int @Go.IntKind.i64) (@Kd.pr @Kd.str @Kd.bool))))) s3) (@List.length (@Kd.T (@Kd.pr (@Kd.int @Go.IntKind.i64) (@Kd.pr (@Kd.int @Go.IntKind.i64) (@Kd.pr (@Kd.int @Go.IntKind.i64) (@Kd.pr @Kd.str @Kd.bool))))) y9) (48 : @Nat)) (E1003 s0 s1 s2 (@HAppend.hAppend (@Kd.T (@Kd.sl (@Kd.pr (@Kd.int @Go.IntKind.i64) (@Kd.pr (@Kd.int @Go.IntKind.i64) (@Kd.pr (@Kd.int @Go.IntKind.i64) (@Kd.pr @Kd.str @Kd.bool)))))) (@List (@Kd.T (@Kd.pr (@Kd.int @Go.IntKind.i64) (@Kd.pr (@Kd.int @Go.IntKind.i64) (@Kd.pr (@Kd.int @Go.IntKind.i64) (@Kd.pr @Kd.str @Kd.bool)))))) (@Kd.T (@Kd.sl (@Kd.pr (@Kd.int @Go.IntKind.i64) (@Kd.pr (@Kd.int @Go.IntKind.i64) (@Kd.pr (@Kd.int @Go.IntKind.i64) (@Kd.pr @Kd.str @Kd.bool)))))) (@instHAppendOfAppend (@Kd.T (@Kd.sl (@Kd.pr (@Kd.int @Go.IntKind.i64) (@Kd.pr (@Kd.int @Go.IntKind.i64) (@Kd.pr (@Kd.int @Go.IntKind.i64) (@Kd.pr @Kd.str @Kd.bool)))))) (@List.instAppend (@Kd.T (@Kd.pr (@Kd.int @Go.IntKind.i64) (@Kd.pr (@Kd.int @Go.IntKind.i64) (@Kd.pr (@Kd.int @Go.IntKind.i64) (@Kd.pr @Kd.str @Kd.bool))))))) s3 y9) (@Go.IntKind.wrap @Go.IntKind.i64 (@HAdd.hAdd @Int @Int @Int (@instHAdd @Int @Int.instAdd) s4 (1 : @Int)))) (@Option.none R))))))) (@Option.none R)) (K s3 (0 : (@Kd.T (@Kd.int @Go.IntKind.i64))) (0 : (@Kd.T (@Kd.int @Go.IntKind.i64)))))
theorem B_ref10_Pieces_1003_eq (k : Nat) {R : Type} (I : Nat → St → Option R) (s0 : (List (Int × (Int × (List UInt8))))) (s1 : Int) (s2 : Int) (s3 : (List (Int × (Int × (Int × ((List UInt8) × Bool)))))) (s4 : Int) (K : ((List (Int × (Int × (Int × ((List UInt8) × Bool))))) → Int → Int → Option R)) : execK (cx_ref10_Pieces k) k (at_ [1, 1, 0, 1, 0, 0] code_ref10_Pieces) (st_ref10_Pieces_1003 s0 s1 s2 s3 s4) (konts (cx_ref10_Pieces k) k I [1, 1, 0, 1, 0, 0] code_ref10_Pieces (outK (cx_ref10_Pieces k) sp_ref10_Pieces [.tmp 2, .cell 3 27] (wrap_ref10_Pieces K))) = B_ref10_Pieces_1003 k (fun s0 s1 s2 s3 s4 => I 1003 (st_ref10_Pieces_1003 s0 s1 s2 s3 s4)) s0 s1 s2 s3 s4 K := by kernel_rfl
def A_ref10_Pieces (k : Nat) {R : Type} (E1003 : ((List (Int × (Int × (List UInt8)))) → Int → Int → (List (Int × (Int × (Int × ((List UInt8) × Bool))))) → Int → Option R)) (x0 : (List (Int × (Int × (List UInt8))))) (K : ((List (Int × (Int × (Int × ((List UInt8) × Bool))))) → Int → Int → Option R)) : Option R := (E1003 x0 (0 : (@Kd.T (@Kd.int @Go.IntKind.i64))) (0 : (@Kd.T (@Kd.int @Go.IntKind.i64))) (@List.nil (@Kd.T (@Kd.pr (@Kd.int @Go.IntKind.i64) (@Kd.pr (@Kd.int @Go.IntKind.i64) (@Kd.pr (@Kd.int @Go.IntKind.i64) (@Kd.pr @Kd.str @Kd.bool)))))) (0 : @Int))
theorem A_ref10_Pieces_eq (k : Nat) {R : Type} (I : Nat → St → Option R) (x0 : (List (Int × (Int × (List UInt8))))) (K : ((List (Int × (Int × (Int × ((List UInt8) × Bool))))) → Int → Int → Option R)) : fnK (cx_ref10_Pieces k) k code_ref10_Pieces 31 [.tmp 2, .cell 3 27] sp_ref10_Pieces [.v (.sl (.pr (.int .i64) (.pr (.int .i64) .str))) x0] [] (wrap_ref10_Pieces K) = A_ref10_Pieces k (fun s0 s1 s2 s3 s4 => iter (cx_ref10_Pieces k).pv (look (cx_ref10_Pieces k).cuts 1003) (execK (cx_ref10_Pieces k) k (at_ [1, 1, 0, 1, 0, 0] code_ref10_Pieces)) k (st_ref10_Pieces_1003 s0 s1 s2 s3 s4) (konts (cx_ref10_Pieces k) k I [1, 1, 0, 1, 0] code_ref10_Pieces (outK (cx_ref10_Pieces k) sp_ref10_Pieces [.tmp 2, .cell 3 27] (wrap_ref10_Pieces K)))) x0 K := by kernel_rfl
def L_ref10_Pieces_1003 (k : Nat) {R : Type}  : Nat → (List (Int × (Int × (List UInt8)))) → Int → Int → (List (Int × (Int × (Int × ((List UInt8) × Bool))))) → Int → ((List (Int × (Int × (Int × ((List UInt8) × Bool))))) → Int → Int → Option R) → Option R
  | 0, _, _, _, _, _, _ => none
  | n + 1, s0, s1, s2, s3, s4, K => B_ref10_Pieces_1003 k (fun s0 s1 s2 s3 s4 => L_ref10_Pieces_1003 k  n s0 s1 s2 s3 s4 K) s0 s1 s2 s3 s4 K
theorem L_ref10_Pieces_1003_eq (k : Nat) {R : Type} (I : Nat → St → Option R) (K : ((List (Int × (Int × (Int × ((List UInt8) × Bool))))) → Int → Int → Option R)) : ∀ (n : Nat) (s0 : (List (Int × (Int × (List UInt8))))) (s1 : Int) (s2 : Int) (s3 : (List (Int × (Int × (Int × ((List UInt8) × Bool)))))) (s4 : Int), iter (cx_ref10_Pieces k).pv (look (cx_ref10_Pieces k).cuts 1003) (execK (cx_ref10_Pieces k) k (at_ [1, 1, 0, 1, 0, 0] code_ref10_Pieces)) n (st_ref10_Pieces_1003 s0 s1 s2 s3 s4) (konts (cx_ref10_Pieces k) k I [1, 1, 0, 1, 0] code_ref10_Pieces (outK (cx_ref10_Pieces k) sp_ref10_Pieces [.tmp 2, .cell 3 27] (wrap_ref10_Pieces K))) = L_ref10_Pieces_1003 k  n s0 s1 s2 s3 s4 K := by
  intro n
  induction n with
  | zero => intros; rfl
  | succ n ih =>
    intro s0 s1 s2 s3 s4
    let I' : Nat → St → Option R := fun id s => bif Nat.beq id 1003 then iter (cx_ref10_Pieces k).pv (look (cx_ref10_Pieces k).cuts 1003) (execK (cx_ref10_Pieces k) k (at_ [1, 1, 0, 1, 0, 0] code_ref10_Pieces)) n s (konts (cx_ref10_Pieces k) k I [1, 1, 0, 1, 0] code_ref10_Pieces (outK (cx_ref10_Pieces k) sp_ref10_Pieces [.tmp 2, .cell 3 27] (wrap_ref10_Pieces K))) else I id s
    have e := B_ref10_Pieces_1003_eq k I' s0 s1 s2 s3 s4 K
    have h1003 : (fun s0 s1 s2 s3 s4 => I' 1003 (st_ref10_Pieces_1003 s0 s1 s2 s3 s4)) = (fun s0 s1 s2 s3 s4 => L_ref10_Pieces_1003 k  n s0 s1 s2 s3 s4 K) := by funext s0 s1 s2 s3 s4; exact ih s0 s1 s2 s3 s4
    refine Eq.trans (?_ : _ = _) (e.trans (Eq.trans ((congrArg ((fun E1003 => B_ref10_Pieces_1003 k E1003 s0 s1 s2 s3 s4 K)) h1003)) (by rw [L_ref10_Pieces_1003])))
    rfl
def F_ref10_Pieces (k : Nat) {R : Type} (x0 : (List (Int × (Int × (List UInt8))))) (K : ((List (Int × (Int × (Int × ((List UInt8) × Bool))))) → Int → Int → Option R)) : Option R := A_ref10_Pieces k (fun s0 s1 s2 s3 s4 => L_ref10_Pieces_1003 k k s0 s1 s2 s3 s4 K) x0 K
theorem F_ref10_Pieces_eq (k : Nat) {R : Type} (x0 : (List (Int × (Int × (List UInt8))))) (K : ((List (Int × (Int × (Int × ((List UInt8) × Bool))))) → Int → Int → Option R)) : fnK (cx_ref10_Pieces k) k code_ref10_Pieces 31 [.tmp 2, .cell 3 27] sp_ref10_Pieces [.v (.sl (.pr (.int .i64) (.pr (.int .i64) .str))) x0] [] (wrap_ref10_Pieces K) = F_ref10_Pieces k x0 K := by
  let I : Nat → St → Option R := fun _ _ => none
  have h1003 : (fun s0 s1 s2 s3 s4 => iter (cx_ref10_Pieces k).pv (look (cx_ref10_Pieces k).cuts 1003) (execK (cx_ref10_Pieces k) k (at_ [1, 1, 0, 1, 0, 0] code_ref10_Pieces)) k (st_ref10_Pieces_1003 s0 s1 s2 s3 s4) (konts (cx_ref10_Pieces k) k I [1, 1, 0, 1, 0] code_ref10_Pieces (outK (cx_ref10_Pieces k) sp_ref10_Pieces [.tmp 2, .cell 3 27] (wrap_ref10_Pieces K)))) = (fun s0 s1 s2 s3 s4 => L_ref10_Pieces_1003 k k s0 s1 s2 s3 s4 K) := by funext s0 s1 s2 s3 s4; exact L_ref10_Pieces_1003_eq k I K k s0 s1 s2 s3 s4
  exact (A_ref10_Pieces_eq k I x0 K).trans (congrArg ((fun E1003 => A_ref10_Pieces k E1003 x0 K)) h1003)
def run_ref10_Pieces (k : Nat) {R : Type} : List PV → List (Nm × HObj) → (Out → Option R) → Option R
  | [.v (.sl (.pr (.int .i64) (.pr (.int .i64) .str))) x0], [], K => F_ref10_Pieces k x0 (fun y0 y1 y2 => K (.ret [.v (.sl (.pr (.int .i64) (.pr (.int .i64) (.pr (.int .i64) (.pr .str .bool))))) y0, .agg [.v (.int .i64) y1, .v (.int .i64) y2]] []))
  | _, _, _ => none
theorem C_ref10_Pieces_ok (k : Nat) : (C_ref10_Pieces k).Ok Try.prog := by
  intro f ps hp R K r h
  unfold C_ref10_Pieces at h
  simp only at h
  cases hb9 : Nat.beq f 9 with
  | true => rw [hb9, cond_true] at h; rw [Nat.eq_of_beq_eq_true hb9]; exact D_ref10_Row k h
  | false =>
  rw [hb9, cond_false] at h
  cases h
theorem D_ref10_Pieces (k : Nat) {ps : List PV} {hp : List (Nm × HObj)} {R : Type} {K : Out → Option R} {r : R} (h : run_ref10_Pieces k ps hp K = some r) : DoesTo Try.prog 12 ps hp fun out => K out = some r := by
  unfold run_ref10_Pieces at h
  split at h
  · rw [← F_ref10_Pieces_eq] at h
    have := fn_ok (P := Try.prog) (cx := cx_ref10_Pieces k) (f := 12) ⟨tyT_ok, C_ref10_Pieces_ok k⟩ (by kernel_rfl) (fn := Try.f12) (c := code_ref10_Pieces) (by kernel_rfl) (by kernel_rfl) (by kernel_rfl) (rs := [.tmp 2, .cell 3 27]) (by kernel_rfl) (by kernel_rfl) h
    exact this.mono fun out ho => by
      unfold wrap_ref10_Pieces at ho
      split at ho <;> first | exact ho | cases ho
  · cases h
end Go.Proofs.Ytfbagjjnfpgjkaa.Pvm

set_option linter.unusedVariables false
set_option linter.unusedSimpArgs false
namespace Go.Proofs.Ytfbagjjnfpgjkaa.Pvm
open Go

theorem same_loop (k : Nat) {R : Type} (x : List Pc) (hx : x.length ≤ 1000000) (K : Bool → Option R) : ∀ (t : List Pc) (n m : Nat), x.drop n = t → t.length < m → n ≤ x.length → L_law11_same_1004 k m x x (n : Int) K = K true
  | t, n, 0, _, hm, _ => by omega
  | [], n, m + 1, hd, hm, hn => by
    have := drop_nil hd
    rw [L_law11_same_1004, B_law11_same_1004]
    simp (disch := omega) only [dec_t, dec_f, ieq_t, ieq_f, ine_t, ine_f, inb_t, bnd_t, wrap_id, wrap8_id, cond_true, cond_false, Bool.not_true, Bool.not_false, Bool.true_or, Bool.or_true, Bool.false_or, Bool.or_false, Bool.true_and, Bool.and_true, Bool.false_and, Bool.and_false, bool_eq_true', bool_eq_false', toNat_cast']
  | c :: r, n, m + 1, hd, hm, hn => by
    obtain ⟨hlt, hc, hr⟩ := drop_cons' hd
    rw [L_law11_same_1004, B_law11_same_1004]
    simp (disch := omega) only [dec_t, dec_f, ieq_t, ieq_f, ine_t, ine_f, inb_t, bnd_t, wrap_id, wrap8_id, cond_true, cond_false, Bool.not_true, Bool.not_false, Bool.true_or, Bool.or_true, Bool.false_or, Bool.or_false, Bool.true_and, Bool.and_true, Bool.false_and, Bool.and_false, bool_eq_true', bool_eq_false', toNat_cast', hc, cast_succ]
    simp only [beq_self_eq_true, Bool.and_self, Bool.not_true, cond_false]
    exact same_loop k x hx K r (n + 1) m hr (by simp at hm; omega) (by omega)
theorem same_eq (k : Nat) {R : Type} (x : List Pc) (hx : x.length ≤ 1000000) (hk : x.length < k) (K : Bool → Option R) : F_law11_same k x x K = K true := by
  unfold F_law11_same A_law11_same
  simp (disch := omega) only [dec_t, dec_f, ieq_t, ieq_f, ine_t, ine_f, inb_t, bnd_t, wrap_id, wrap8_id, cond_true, cond_false, Bool.not_true, Bool.not_false, Bool.true_or, Bool.or_true, Bool.false_or, Bool.or_false, Bool.true_and, Bool.and_true, Bool.false_and, Bool.and_false, bool_eq_true', bool_eq_false', toNat_cast']
  exact same_loop k x hx K x 0 k rfl hk (Nat.zero_le _)

/-! ### how many pieces -/
theorem finQ_len (no col : Int) (out : List Pc) (x : Option (List UInt8 × List UInt8)) : (finQ no col out x).1.length ≤ out.length + 1 := by
  unfold finQ
  split
  · simp
  · next a r =>
    cases !(r == []) <;> simp only [cond_true, cond_false]
    · cases decide (200 < a.length) <;> simp
    · simp
theorem txtS_len (no ind : Int) (n : Nat) (s : List UInt8) (out : List Pc) : (txtS no ind n s out).1.length ≤ out.length + s.length := by
  unfold txtS
  split
  · simp
  · next c t =>
    have h1 := finQ_len no (ind + n) out (sgl [] t)
    have h2 := finQ_len no (ind + n) out (dbl (t.length + 1) [] t)
    have h3 : (c :: t).length = t.length + 1 := rfl
    cases c == 39 <;> simp only [cond_true, cond_false]
    · cases c == 34 <;> simp only [cond_true, cond_false]
      · cases (oddB c || (dsh (c :: t) || decide (0 < kS (c :: t)))) <;> simp only [cond_true, cond_false]
        · cases decide (200 < (c :: t).length) <;> simp
        · simp
      · omega
    · omega
theorem endS_len (no ind : Int) (n : Nat) (s : List UInt8) (out : List Pc) : (endS no ind n s out).1.length ≤ out.length + s.length := by
  unfold endS
  by_cases h : 0 < kS s
  · rw [dec_t h, cond_true]
    have := kS_room h
    cases decide (64 < kS s) <;> simp only [cond_true, cond_false]
    · refine Nat.le_trans (txtS_len _ _ _ _ _) ?_
      simp
      omega
    · simp
  · rw [dec_f h, cond_false]; exact txtS_len _ _ _ _ _
theorem rowS_len (no ind : Int) : ∀ (f n : Nat) (s : List UInt8) (out : List Pc), (rowS no ind f n s out).1.length ≤ out.length + s.length
  | 0, n, s, out => by simp [rowS]
  | f + 1, n, s, out => by
    rw [rowS]
    cases h : dsh s with
    | false => exact endS_len _ _ _ _ _
    | true =>
      rw [cond_true]
      refine Nat.le_trans (rowS_len no ind f _ _ _) ?_
      cases s with
      | nil => cases h
      | cons c t => simp; omega
theorem rowR_len (no ind : Int) (s : List UInt8) : (rowR no ind s).1.length ≤ s.length := by
  unfold rowR
  cases (decide (ind < 0) || decide (16384 < ind)) with
  | true => simp
  | false =>
    rw [cond_false]
    refine Nat.le_trans (rowS_len _ _ _ _ _ _) ?_
    simp

/-! ### many lines -/
abbrev Ln := Int × (Int × List UInt8)
def allS : List Ln → List Pc → Res
  | [], out => (out, 0, 0)
  | l :: r, out => bif (rowR l.1 l.2.1 l.2.2).2.1 != 0 then ([], (rowR l.1 l.2.1 l.2.2).2.1, (rowR l.1 l.2.1 l.2.2).2.2) else allS r (out ++ (rowR l.1 l.2.1 l.2.2).1)
def total : List Ln → Nat
  | [] => 0
  | l :: r => l.2.2.length + total r
theorem total_mem : ∀ {ls : List Ln} {l : Ln}, l ∈ ls → l.2.2.length ≤ total ls
  | a :: r, l, h => by
    rw [total]
    rcases List.mem_cons.1 h with rfl | h
    · omega
    · have := total_mem h; omega
  | [], l, h => by cases h
theorem lex_All_loop (k : Nat) {R : Type} (a b : Int) (ls : List Ln) (K : List Pc → Int → Int → Option R) (hl : ls.length ≤ 1000000) (hk : total ls + 20 < k) (ht : total ls ≤ 1000000) :
    ∀ (t : List Ln) (n m : Nat) (out : List Pc), ls.drop n = t → t.length < m → n ≤ ls.length → out.length + total t ≤ 1000000 → L_lex_All_1003 k m a b out ls (ls.length : Int) (n : Int) K = K (allS t out).1 (allS t out).2.1 (allS t out).2.2
  | t, n, 0, out, _, hm, _, _ => by omega
  | [], n, m + 1, out, hd, hm, hn, ho => by
    have := drop_nil hd
    rw [L_lex_All_1003, B_lex_All_1003]
    simp (disch := omega) only [dec_t, dec_f, ieq_t, ieq_f, ine_t, ine_f, inb_t, bnd_t, wrap_id, wrap8_id, cond_true, cond_false, Bool.not_true, Bool.not_false, Bool.true_or, Bool.or_true, Bool.false_or, Bool.or_false, Bool.true_and, Bool.and_true, Bool.false_and, Bool.and_false, bool_eq_true', bool_eq_false', toNat_cast']
    rfl
  | c :: r, n, m + 1, out, hd, hm, hn, ho => by
    obtain ⟨hlt, hc, hr⟩ := drop_cons' hd
    rw [total] at ho
    have hmem : c ∈ ls := by
      have := hc c
      rw [List.getD_eq_getElem?_getD, List.getElem?_eq_getElem hlt] at this
      exact this ▸ List.getElem_mem hlt
    have hcl := total_mem hmem
    have hrl := rowR_len c.1 c.2.1 c.2.2
    rw [L_lex_All_1003, B_lex_All_1003]
    simp (disch := omega) only [dec_t, inb_t, cond_true, hc, toNat_cast']
    rw [lex_Row_eq k c.1 c.2.1 c.2.2 _ (by omega) (by omega), allS]
    cases (rowR c.1 c.2.1 c.2.2).2.1 != 0 with
    | true => rfl
    | false =>
      simp only [cond_false]
      rw [fits_t (by omega) (by omega), cond_true]
      simp (disch := omega) only [wrap_id, cast_succ]
      exact lex_All_loop k a b ls K hl hk ht r (n + 1) m _ hr (by simp at hm; omega) (by omega) (by simp; omega)
theorem lex_All_eq (k : Nat) {R : Type} (ls : List Ln) (K : List Pc → Int → Int → Option R) (hl : ls.length ≤ 1000000) (hk : total ls + 20 < k) (hk2 : ls.length < k) (ht : total ls ≤ 1000000) : F_lex_All k ls K = K (allS ls []).1 (allS ls []).2.1 (allS ls []).2.2 := by
  unfold F_lex_All A_lex_All
  exact lex_All_loop k 0 0 ls K hl hk ht ls 0 k [] rfl hk2 (Nat.zero_le _) (by simpa using ht)
theorem ref10_Pieces_loop (k : Nat) {R : Type} (a b : Int) (ls : List Ln) (K : List Pc → Int → Int → Option R) (hl : ls.length ≤ 1000000) (hk : total ls + 20 < k) (ht : total ls ≤ 1000000) :
    ∀ (t : List Ln) (n m : Nat) (out : List Pc), ls.drop n = t → t.length < m → n ≤ ls.length → out.length + total t ≤ 1000000 → L_ref10_Pieces_1003 k m ls a b out (n : Int) K = K (allS t out).1 (allS t out).2.1 (allS t out).2.2
  | t, n, 0, out, _, hm, _, _ => by omega
  | [], n, m + 1, out, hd, hm, hn, ho => by
    have := drop_nil hd
    rw [L_ref10_Pieces_1003, B_ref10_Pieces_1003]
    simp (disch := omega) only [dec_t, dec_f, ieq_t, ieq_f, ine_t, ine_f, inb_t, bnd_t, wrap_id, wrap8_id, cond_true, cond_false, Bool.not_true, Bool.not_false, Bool.true_or, Bool.or_true, Bool.false_or, Bool.or_false, Bool.true_and, Bool.and_true, Bool.false_and, Bool.and_false, bool_eq_true', bool_eq_false', toNat_cast']
    rfl
  | c :: r, n, m + 1, out, hd, hm, hn, ho => by
    obtain ⟨hlt, hc, hr⟩ := drop_cons' hd
    rw [total] at ho
    have hmem : c ∈ ls := by
      have := hc c
      rw [List.getD_eq_getElem?_getD, List.getElem?_eq_getElem hlt] at this
      exact this ▸ List.getElem_mem hlt
    have hcl := total_mem hmem
    have hrl := rowR_len c.1 c.2.1 c.2.2
    rw [L_ref10_Pieces_1003, B_ref10_Pieces_1003]
    simp (disch := omega) only [dec_t, inb_t, cond_true, hc, toNat_cast']
    rw [ref10_Row_eq k c.1 c.2.1 c.2.2 _ (by omega) (by omega), allS]
    cases (rowR c.1 c.2.1 c.2.2).2.1 != 0 with
    | true => rfl
    | false =>
      simp only [cond_false]
      rw [fits_t (by omega) (by omega), cond_true]
      simp (disch := omega) only [wrap_id, cast_succ]
      exact ref10_Pieces_loop k a b ls K hl hk ht r (n + 1) m _ hr (by simp at hm; omega) (by omega) (by simp; omega)
theorem ref10_Pieces_eq (k : Nat) {R : Type} (ls : List Ln) (K : List Pc → Int → Int → Option R) (hl : ls.length ≤ 1000000) (hk : total ls + 20 < k) (hk2 : ls.length < k) (ht : total ls ≤ 1000000) : F_ref10_Pieces k ls K = K (allS ls []).1 (allS ls []).2.1 (allS ls []).2.2 := by
  unfold F_ref10_Pieces A_ref10_Pieces
  exact ref10_Pieces_loop k 0 0 ls K hl hk ht ls 0 k [] rfl hk2 (Nat.zero_le _) (by simpa using ht)

theorem awake_eq (k : Nat) {R : Type} (K : Bool → Option R) (hk : 100 ≤ k) : F_law11_awake k K = K true := by
  unfold F_law11_awake A_law11_awake
  have e1 : rowR 3 2 [45, 32, 107, 101, 121, 58, 32, 34, 97, 32, 98, 34] = ([(1, 3, 2, [], false), (2, 3, 4, [107, 101, 121], false), (3, 3, 9, [97, 32, 98], true)], 0, 0) := by kernel_rfl
  have e2 : rowR 1 0 [97, 58, 32, 91, 98] = ([], 4, 1) := by kernel_rfl
  have e3 : rowR 1 0 [39, 97, 39, 32, 98] = ([], 3, 1) := by kernel_rfl
  have e4 : allS [(1, 0, [97, 58]), (2, 1, [39, 105, 116, 39, 39, 115, 39])] [] = ([(2, 1, 0, [97], false), (3, 2, 1, [105, 116, 39, 115], true)], 0, 0) := by kernel_rfl
  rw [lex_Row_eq k _ _ _ _ (by simp) (by simp; omega), e1]
  dsimp only
  rw [lex_Row_eq k _ _ _ _ (by simp) (by simp; omega), e2]
  dsimp only
  rw [lex_Row_eq k _ _ _ _ (by simp) (by simp; omega), e3]
  dsimp only
  rw [lex_All_eq k _ _ (by simp) (by simp [total]; omega) (by simp; omega) (by simp [total]), e4]
  have e5 : (((0 : Int) == 0 && (0 : Int) == 0) == true) = true := rfl
  dsimp only
  rw [e5, cond_true, same_eq k _ (by simp) (by simp; omega)]
  rfl
end Go.Proofs.Ytfbagjjnfpgjkaa.Pvm

set_option linter.unusedVariables false
set_option linter.unusedSimpArgs false
namespace Go.Proofs.Ytfbagjjnfpgjkaa.Pvm
open Go
theorem LexRow_pure (x : (Kd.pr (.int .i64) (.pr (.int .i64) .str)).T) (_ : Wf (.pr (.int .i64) (.pr (.int .i64) .str)) x) : ∃ k, F_law11_LexRow k x.1 x.2.1 x.2.2 (fun b => some b) = some true := by
  obtain ⟨k, hk⟩ : ∃ k : Nat, k = 4000 := ⟨_, rfl⟩
  refine ⟨k, ?_⟩
  unfold F_law11_LexRow A_law11_LexRow
  by_cases h : 3000 < x.2.2.length
  · rw [dec_t (by omega), cond_true, awake_eq k _ (by omega)]
  · rw [dec_f (by omega), cond_false, lex_Row_eq k _ _ _ _ (by omega) (by omega)]
    rw [ref10_Row_eq k _ _ _ _ (by omega) (by omega)]
    have := rowR_len x.1 x.2.1 x.2.2
    rw [same_eq k _ (by omega) (by omega)]
    simp only [beq_self_eq_true, Bool.and_self, cond_true]
    rw [awake_eq k _ (by omega)]
end Go.Proofs.Ytfbagjjnfpgjkaa.Pvm

set_option linter.unusedVariables false
namespace Go.Proofs.Ytfbagjjnfpgjkaa.lexRow
open Go Go.Proofs Go.ChangeShapes Go.WideShapes Go.ChangeAt Go.RowKit Go.Proofs.Ytfbagjjnfpgjkaa.Pvm
theorem own : ownKnob Try.prog.godebug = none := by kernel_rfl
theorem laidOut : laidOutB Try.prog = true := by kernel_rfl
set_option maxRecDepth 100000 in
theorem lifted (os : Os) (started : os.Started) (H : Type) (enc : TypeId × Value → H) :
    ReturnsInHanded {} Try.checked os 3 .any (Rows.lexRowSpec.pre6 enc Try.prog Try.f3 Rows.lexRowRow.domain false) (Rows.lexRowSpec.post enc Try.prog Try.f3 false true false false) := by
  refine returnsInHanded_of_change_sized (C := Try.checked) own started (by kernel_rfl) Try.func3
    (ChangeSpec.witness6 (enc := enc) (C := Try.checked) false ⟨#[], #[.agg #[.int .i64 0, .int .i64 0, .string ByteArray.empty]], []⟩ 8 (by kernel_rfl) (by kernel_rfl) (by kernel_rfl) (by kernel_rfl)) ?_
  intro W base args ds gs before hval0 hW hcnd hsz0 _
  have hsz : (DataW.weightsEach Try.prog (Try.f3.params.toList ++ Rows.lexRowSpec.plain.varTypes Try.prog) (ds ++ gs)).all (· ≤ reachBytes) = true := hsz0
  have hval : ∀ (j : Nat) t v, Try.f3.params[j]? = some t → args[j]? = some v → Value.okWide Try.prog W .any base t v := hval0
  have hW' := hW
  obtain ⟨p, q, hA0, hV, rfl, hfz, hnd⟩ := hW
  have hA : DataW.TrodAll enc Try.prog W 0 (fun _ => true) true Try.f3.params.toList args.toList ds p := hA0
  rw [Try.params3] at hA hval hsz
  obtain ⟨v0, vs0, d0, ds0, p0, q0, hargs, rfl, rfl, h0, r0⟩ := trodAll_cons hA
  obtain ⟨rfl, rfl, rfl⟩ := trodAll_nil r0
  obtain rfl : args = #[v0] := by cases args; simp_all
  obtain ⟨rfl, rfl⟩ := trodVars_none hV
  have hws := weights_of (P := Try.prog) hsz
  have k0 := h0
  have lt0 : ∀ x ∈ p0, x.block < W.heap.size := by obtain ⟨m, hm⟩ := k0; exact DataW.trod_lt m _ _ _ hm
  obtain ⟨x0, wf0, rv0⟩ := arg_struct tyT_ok (n := 9) (K := (.pr (.int .i64) (.pr (.int .i64) .str))) (by kernel_rfl) (by kernel_rfl) (hval 0 23 v0 rfl rfl) h0 (hws 0 23 d0 rfl rfl) (h := mkH []) (G := G0) (fun _ => rfl) (fun _ h => h)
  obtain ⟨k, hk⟩ := LexRow_pure x0 wf0
  have hrun : run_law11_LexRow k [.agg (Kd.cells (.pr (.int .i64) (.pr (.int .i64) .str)) x0)] [] lawK = some true := hk
  refine (law_calls (fn := Try.f3) (c := Try.f3.body.getD .skip) (by kernel_rfl) (by kernel_rfl) (by kernel_rfl) (D_law11_LexRow k hrun) (vals := [v0]) ⟨v0, _, rfl, rv0, rfl⟩).mono fun e W' ⟨he, bel⟩ => ?_
  subst he
  exact ⟨_, rfl, _, _, _, [], _, [], hW', trodAll_mk1 (shut_bool Try.underlying4 _), (trodAll_cons_mk (Below.trod laidOut (by kernel_rfl) (of_decide_eq_true (by kernel_rfl)) k0 bel lt0) trodAll_mk0), rfl, bel.frame _, fun h => by cases h⟩
theorem over : Rows.lexRowRow.holds Try.pinned (OpenSpec.ofChange Rows.lexRowSpec) :=
  OpenClaim.holds_of_wide 3 Try.f3 rfl rfl rfl rfl rfl rfl rfl ⟨rfl, rfl, rfl, rfl, rfl⟩ rfl rfl rfl rfl rfl (by kernel_rfl) Try.func3 (by kernel_rfl)
    (of_decide_eq_true (by kernel_rfl)) (by unfold Func.isWrapper; first | (rw [if_pos (by decide +kernel)]; kernel_rfl) | (rw [if_neg (by decide +kernel)]; exact ⟨rfl, rfl⟩))
    (fun os started H enc _ => lifted os started H enc)
theorem proved : Rows.LexRowSaid := over
#print axioms proved
end Go.Proofs.Ytfbagjjnfpgjkaa.lexRow
namespace Go.Proofs.Ytfbagjjnfpgjkaa
/-- The row, under a short name. -/
theorem lexRow_holds : Rows.LexRowSaid := lexRow.proved
end Go.Proofs.Ytfbagjjnfpgjkaa
