/- The Go function ShowDocs answers true for every input: whether any document may be, its text, and which are the same, are as the reference tells; no further condition. -/
import Derived.Test.YtdfhgimidmfgfaaDoorCards
import Derived.Test.YtdfhgimidmfgfaaDoorTie
import Derived.LaidMore
import Derived.Lay
import Derived.SevenTiedAt
import Derived.Stop.Joined
import Derived.Test.YtdfhgimidmfgfaaDoorRows
import Derived.Test.YtdfhgimidmfgfaaDoorShowDocsM0
import Derived.Test.YtdfhgimidmfgfaaDoorShowDocsM1
import Derived.Test.YtdfhgimidmfgfaaDoorShowDocsM2
import Derived.Test.YtdfhgimidmfgfaaDoorShowDocsM3
import Derived.Test.YtdfhgimidmfgfaaDoorShowDocsM4
set_option linter.unusedVariables false
set_option linter.unusedSimpArgs false
set_option linter.unusedSectionVars false
noncomputable section
namespace Go.Proofs.YtdfhgimidmfgfaaDoor.Pvm
open Go
def sgL : List UInt8 := [91, 93, 123, 125, 38, 42, 33, 124, 62, 37, 64, 44, 63, 96]
def oddB (c : UInt8) : Bool := sgL.any (· == c)
theorem idx_sg (c : UInt8) : decide (wqji sgL (c.toNat : Int) ≥ 0) = oddB c := by
  have := all_u8 (fun c => decide ((if upto c sgL < sgL.length then (upto c sgL : Int) else -1) ≥ 0) == oddB c) (by kernel_rfl) c
  rw [idx_eq]
  exact beq_iff_eq.1 this
theorem wqt5 (k : Nat) {R : Type} (c : UInt8) (K : Bool → Option R) : ∀ (t : List UInt8) (n m : Nat), sgL.drop n = t → t.length < m → n ≤ 14 → wq5l k m (c.toNat : Int) (n : Int) K = K (t.any (· == c))
  | t, n, 0, _, hm, _ => by omega
  | [], n, m + 1, hd, hm, hn => by
    have := wq2l hd
    have h14 : sgL.length = 14 := rfl
    rw [wq5l, wqb4]
    simp (disch := omega) only [dec_t, dec_f, ieq_t, ieq_f, ine_t, ine_f, inb_t, bnd_t, wqj, wqa, cond_true, cond_false, Bool.not_true, Bool.not_false, Bool.true_or, Bool.or_true, Bool.false_or, Bool.or_false, Bool.true_and, Bool.and_true, Bool.false_and, Bool.and_false, wq2, wq0, wq5]
    rfl
  | d :: r, n, m + 1, hd, hm, hn => by
    obtain ⟨hlt, hc, hr⟩ := wqv hd
    have h14 : sgL.length = 14 := rfl
    have h14' : ([91, 93, 123, 125, 38, 42, 33, 124, 62, 37, 64, 44, 63, 96] : List UInt8).length = 14 := rfl
    have hc : ∀ e, ([91, 93, 123, 125, 38, 42, 33, 124, 62, 37, 64, 44, 63, 96] : List UInt8).getD n e = d := hc
    have e : ((d.toNat : Int) == (c.toNat : Int)) = (d == c) := by
      rw [Bool.eq_iff_iff]
      simp only [beq_iff_eq]
      constructor
      · intro h; exact UInt8.toNat_inj.1 (by omega)
      · intro h; rw [h]
    rw [wq5l, wqb4]
    simp (disch := omega) only [dec_t, dec_f, ieq_t, ieq_f, ine_t, ine_f, inb_t, bnd_t, wqj, wqa, cond_true, cond_false, Bool.not_true, Bool.not_false, Bool.true_or, Bool.or_true, Bool.false_or, Bool.or_false, Bool.true_and, Bool.and_true, Bool.false_and, Bool.and_false, wq2, wq0, wq5, hc, e, wq1w, h14']
    rw [wqt5 k c K r (n + 1) m hr (by simp at hm; omega) (by omega)]
    cases hb : d == c <;> simp [hb]
theorem wq1ab (k : Nat) {R : Type} (c : UInt8) (K : Bool → Option R) (hk : 14 < k) : wqej k (c.toNat : Int) K = K (oddB c) := by
  unfold wqej wqnx
  exact wqt5 k c K sgL 0 k rfl (by simpa [sgL] using hk) (by omega)
theorem wqen (k : Nat) {R : Type} (s : List UInt8) (hs : s.length ≤ 1000000) (K : List UInt8 → Bool → Option R) :
    ∀ (m : Nat) (t : List UInt8) (n : Nat) (acc : List UInt8), s.drop n = t → t.length < m → n ≤ s.length → acc.length ≤ n → wq2u k m s (wqs acc) 39 (n : Int) K = match sgl acc t with
      | some (a, r) => K a (r == [])
      | none => K [] false
  | 0, t, n, acc, _, hm, _, _ => by omega
  | m + 1, [], n, acc, hd, hm, hn, ha => by
    have := wq2l hd
    rw [wq2u, wq6a]
    simp (disch := omega) only [dec_t, dec_f, ieq_t, ieq_f, ine_t, ine_f, inb_t, bnd_t, wqj, wqa, cond_true, cond_false, Bool.not_true, Bool.not_false, Bool.true_or, Bool.or_true, Bool.false_or, Bool.or_false, Bool.true_and, Bool.and_true, Bool.false_and, Bool.and_false, wq2, wq0, wq5]
    rfl
  | m + 1, c :: t, n, acc, hd, hm, hn, ha => by
    obtain ⟨hlt, hc, hr⟩ := wqv hd
    have e39 : ((c.toNat : Int) == 39) = (c == 39) := u8_beq c 39 (by omega)
    have f1 : fits (wqs acc).length 1 1 = true := fits_t (by rw [wq2q]; omega) (by rw [wq2q]; omega)
    simp only [List.length_cons] at hm
    rw [wq2u, wq6a]
    simp (disch := omega) only [dec_t, dec_f, ieq_t, ieq_f, ine_t, ine_f, inb_t, bnd_t, wqj, wqa, cond_true, cond_false, Bool.not_true, Bool.not_false, Bool.true_or, Bool.or_true, Bool.false_or, Bool.or_false, Bool.true_and, Bool.and_true, Bool.false_and, Bool.and_false, wq2, wq0, wq5, hc, e39, wq1w, wqbt, List.length_singleton, f1]
    cases hb : c == 39 with
    | false =>
      simp only [cond_false, cond_true]
      rw [wq90, wq1bi acc c t hb]
      exact wqen k s hs K m t (n + 1) (acc ++ [c]) hr (by omega) (by omega) (by simp; omega)
    | true =>
      have := beq_iff_eq.1 hb
      subst this
      simp only [cond_true]
      cases t with
      | nil =>
        have h1 := wq2l hr
        simp (disch := omega) only [dec_t, dec_f, ieq_t, ieq_f, ine_t, ine_f, inb_t, bnd_t, wqj, wqa, cond_true, cond_false, Bool.not_true, Bool.not_false, Bool.true_or, Bool.or_true, Bool.false_or, Bool.or_false, Bool.true_and, Bool.and_true, Bool.false_and, Bool.and_false, wq2, wq0, wq5, sgl]
        rfl
      | cons d r =>
        obtain ⟨hlt2, hd2, hr2⟩ := wqv hr
        have e39' : ((d.toNat : Int) == 39) = (d == 39) := u8_beq d 39 (by omega)
        simp (disch := omega) only [dec_t, dec_f, ieq_t, ieq_f, ine_t, ine_f, inb_t, bnd_t, wqj, wqa, cond_true, cond_false, Bool.not_true, Bool.not_false, Bool.true_or, Bool.or_true, Bool.false_or, Bool.or_false, Bool.true_and, Bool.and_true, Bool.false_and, Bool.and_false, wq2, wq0, wq5, hd2, e39', sgl, hb]
        cases hdb : d == 39 with
        | true =>
          simp only [cond_true]
          simp only [List.length_cons] at hm
          have e : wqs acc ++ [(39 : Int)] = wqs (acc ++ [39]) := wq90 acc 39
          rw [e]
          exact wqen k s hs K m r (n + 1 + 1) (acc ++ [39]) hr2 (by omega) (by omega) (by simp; omega)
        | false =>
          simp only [cond_false]
          rfl
theorem wq6c (k : Nat) {R : Type} (s : List UInt8) (hs : s.length ≤ 1000000) (K : List UInt8 → Bool → Option R) :
    ∀ (m : Nat) (t : List UInt8) (n f : Nat) (acc : List UInt8), s.drop n = t → t.length < m → n ≤ s.length → acc.length ≤ n → t.length < f → wq2u k m s (wqs acc) 34 (n : Int) K = match dbl f acc t with
      | some (a, r) => K a (r == [])
      | none => K [] false
  | 0, t, n, f, acc, _, hm, _, _, _ => by omega
  | m + 1, t, n, 0, acc, _, _, _, _, hf => by omega
  | m + 1, [], n, f + 1, acc, hd, hm, hn, ha, hf => by
    have := wq2l hd
    rw [wq2u, wq6a]
    simp (disch := omega) only [dec_t, dec_f, ieq_t, ieq_f, ine_t, ine_f, inb_t, bnd_t, wqj, wqa, cond_true, cond_false, Bool.not_true, Bool.not_false, Bool.true_or, Bool.or_true, Bool.false_or, Bool.or_false, Bool.true_and, Bool.and_true, Bool.false_and, Bool.and_false, wq2, wq0, wq5]
    rfl
  | m + 1, c :: t, n, f + 1, acc, hd, hm, hn, ha, hf => by
    obtain ⟨hlt, hc, hr⟩ := wqv hd
    have e34 : ((c.toNat : Int) == 34) = (c == 34) := u8_beq c 34 (by omega)
    have e92 : ((c.toNat : Int) != 92) = !(c == 92) := u8_bne c 92 (by omega)
    have f1 : fits (wqs acc).length 1 1 = true := fits_t (by rw [wq2q]; omega) (by rw [wq2q]; omega)
    have hlen := congrArg List.length hr
    rw [List.length_drop] at hlen
    simp only [List.length_cons] at hm hf
    rw [wq2u, wq6a, dbl]
    simp (disch := omega) only [dec_t, dec_f, ieq_t, ieq_f, ine_t, ine_f, inb_t, bnd_t, wqj, wqa, cond_true, cond_false, Bool.not_true, Bool.not_false, Bool.true_or, Bool.or_true, Bool.false_or, Bool.or_false, Bool.true_and, Bool.and_true, Bool.false_and, Bool.and_false, wq2, wq0, wq5, hc, e34, e92, wq1w, wq1g1, wqbt, List.length_singleton, f1]
    cases hb : c == 34 with
    | true =>
      simp only [cond_true]
      cases t with
      | nil => have h1 := wq2l hr; simp (disch := omega) only [dec_t, dec_f, ieq_t, ieq_f, ine_t, ine_f, inb_t, bnd_t, wqj, wqa, cond_true, cond_false, Bool.not_true, Bool.not_false, Bool.true_or, Bool.or_true, Bool.false_or, Bool.or_false, Bool.true_and, Bool.and_true, Bool.false_and, Bool.and_false, wq2, wq0, wq5]; rfl
      | cons d r =>
        have : s.length - (n + 1) = r.length + 1 := by simpa using hlen
        simp (disch := omega) only [dec_t, dec_f, ieq_t, ieq_f, ine_t, ine_f, inb_t, bnd_t, wqj, wqa, cond_true, cond_false, Bool.not_true, Bool.not_false, Bool.true_or, Bool.or_true, Bool.false_or, Bool.or_false, Bool.true_and, Bool.and_true, Bool.false_and, Bool.and_false, wq2, wq0, wq5]; rfl
    | false =>
      simp only [cond_false]
      cases hb2 : c == 92 with
      | false =>
        simp only [Bool.not_false, cond_false, cond_true]
        rw [wq90]
        exact wq6c k s hs K m t (n + 1) f (acc ++ [c]) hr (by omega) (by omega) (by simp; omega) (by omega)
      | true =>
        simp only [Bool.not_true, cond_false, cond_true]
        cases t with
        | nil =>
          have h1 := wq2l hr
          simp (disch := omega) only [dec_t, dec_f, ieq_t, ieq_f, ine_t, ine_f, inb_t, bnd_t, wqj, wqa, cond_true, cond_false, Bool.not_true, Bool.not_false, Bool.true_or, Bool.or_true, Bool.false_or, Bool.or_false, Bool.true_and, Bool.and_true, Bool.false_and, Bool.and_false, wq2, wq0, wq5, tak]
        | cons d r =>
          obtain ⟨hlt2, hd2, hr2⟩ := wqv hr
          have e1 : ((d.toNat : Int) == 92) = (d == 92) := u8_beq d 92 (by omega)
          have e2 : ((d.toNat : Int) == 34) = (d == 34) := u8_beq d 34 (by omega)
          have e3 : ((d.toNat : Int) == 110) = (d == 110) := u8_beq d 110 (by omega)
          have e4 : ((d.toNat : Int) == 116) = (d == 116) := u8_beq d 116 (by omega)
          have e5 : ((d.toNat : Int) == 120) = (d == 120) := u8_beq d 120 (by omega)
          simp only [List.length_cons] at hm hf hlen
          simp (disch := omega) only [dec_t, dec_f, ieq_t, ieq_f, ine_t, ine_f, inb_t, bnd_t, wqj, wqa, cond_true, cond_false, Bool.not_true, Bool.not_false, Bool.true_or, Bool.or_true, Bool.false_or, Bool.or_false, Bool.true_and, Bool.and_true, Bool.false_and, Bool.and_false, wq2, wq0, wq5, hd2, e1, e2, e3, e4, e5, tak, wq90]
          cases h1 : d == 92 with
          | true =>
            simp only [cond_true]
            exact wq6c k s hs K m r (n + 1 + 1) f (acc ++ [d]) hr2 (by omega) (by omega) (by simp; omega) (by omega)
          | false =>
          cases h2 : d == 34 with
          | true =>
            simp only [cond_true, cond_false]
            exact wq6c k s hs K m r (n + 1 + 1) f (acc ++ [d]) hr2 (by omega) (by omega) (by simp; omega) (by omega)
          | false =>
          cases h3 : d == 110 with
          | true =>
            simp only [cond_true, cond_false]
            have e : wqs acc ++ [(10 : Int)] = wqs (acc ++ [10]) := wq90 acc 10
            rw [e]
            exact wq6c k s hs K m r (n + 1 + 1) f (acc ++ [10]) hr2 (by omega) (by omega) (by simp; omega) (by omega)
          | false =>
          cases h4 : d == 116 with
          | true =>
            simp only [cond_true, cond_false]
            have e : wqs acc ++ [(9 : Int)] = wqs (acc ++ [9]) := wq90 acc 9
            rw [e]
            exact wq6c k s hs K m r (n + 1 + 1) f (acc ++ [9]) hr2 (by omega) (by omega) (by simp; omega) (by omega)
          | false =>
          cases h5 : d == 120 with
          | false => simp only [cond_true, cond_false]
          | true =>
            simp only [cond_true, cond_false]
            match r, hr2, hm, hf, hlen with
            | [], hr2, hm, hf, hlen =>
              simp only [List.length_nil] at hlen
              simp (disch := omega) only [dec_t, dec_f, ieq_t, ieq_f, ine_t, ine_f, inb_t, bnd_t, wqj, wqa, cond_true, cond_false, Bool.not_true, Bool.not_false, Bool.true_or, Bool.or_true, Bool.false_or, Bool.or_false, Bool.true_and, Bool.and_true, Bool.false_and, Bool.and_false, wq2, wq0, wq5]
            | [a], hr2, hm, hf, hlen =>
              simp only [List.length_cons, List.length_nil] at hlen
              simp (disch := omega) only [dec_t, dec_f, ieq_t, ieq_f, ine_t, ine_f, inb_t, bnd_t, wqj, wqa, cond_true, cond_false, Bool.not_true, Bool.not_false, Bool.true_or, Bool.or_true, Bool.false_or, Bool.or_false, Bool.true_and, Bool.and_true, Bool.false_and, Bool.and_false, wq2, wq0, wq5]
            | a :: b :: r, hr2, hm, hf, hlen =>
              obtain ⟨hlt3, ha3, hr3⟩ := wqv hr2
              obtain ⟨hlt4, hb4, hr4⟩ := wqv hr3
              simp only [List.length_cons] at hlen hm hf
              have hb4' : ∀ e, s.getD (n + 1 + 2) e = b := hb4
              simp (disch := omega) only [dec_t, dec_f, ieq_t, ieq_f, ine_t, ine_f, inb_t, bnd_t, wqj, wqa, cond_true, cond_false, Bool.not_true, Bool.not_false, Bool.true_or, Bool.or_true, Bool.false_or, Bool.or_false, Bool.true_and, Bool.and_true, Bool.false_and, Bool.and_false, wq2, wq0, wq5, ha3, hb4', wq1g2]
              cases hxa : hexv a with
              | none =>
                rw [wq15t hxa]
                simp (disch := omega) only [dec_t, dec_f, ieq_t, ieq_f, ine_t, ine_f, inb_t, bnd_t, wqj, wqa, cond_true, cond_false, Bool.not_true, Bool.not_false, Bool.true_or, Bool.or_true, Bool.false_or, Bool.or_false, Bool.true_and, Bool.and_true, Bool.false_and, Bool.and_false, wq2, wq0, wq5]
              | some x =>
                have hx16 := wq18a hxa
                rw [wqt4 hxa]
                simp (disch := omega) only [dec_t, dec_f, ieq_t, ieq_f, ine_t, ine_f, inb_t, bnd_t, wqj, wqa, cond_true, cond_false, Bool.not_true, Bool.not_false, Bool.true_or, Bool.or_true, Bool.false_or, Bool.or_false, Bool.true_and, Bool.and_true, Bool.false_and, Bool.and_false, wq2, wq0, wq5]
                cases hxb : hexv b with
                | none =>
                  rw [wq15t hxb]
                  simp (disch := omega) only [dec_t, dec_f, ieq_t, ieq_f, ine_t, ine_f, inb_t, bnd_t, wqj, wqa, cond_true, cond_false, Bool.not_true, Bool.not_false, Bool.true_or, Bool.or_true, Bool.false_or, Bool.or_false, Bool.true_and, Bool.and_true, Bool.false_and, Bool.and_false, wq2, wq0, wq5]
                | some y =>
                  have hy16 := wq18a hxb
                  have eb : IntKind.u8.wrap (IntKind.i64.wrap (16 * (x : Int) + (y : Int))) = ((UInt8.ofNat (16 * x + y)).toNat : Int) := by
                    rw [← wq1fe x y hx16 hy16]
                    simp (disch := omega) only [wqj]
                  rw [wqt4 hxb, eb]
                  simp (disch := omega) only [dec_t, dec_f, ieq_t, ieq_f, ine_t, ine_f, inb_t, bnd_t, wqj, wqa, cond_true, cond_false, Bool.not_true, Bool.not_false, Bool.true_or, Bool.or_true, Bool.false_or, Bool.or_false, Bool.true_and, Bool.and_true, Bool.false_and, Bool.and_false, wq2, wq0, wq5, wq90]
                  exact wq6c k s hs K m r (n + 1 + 2 + 1) f (acc ++ [UInt8.ofNat (16 * x + y)]) hr4 (by omega) (by omega) (by simp; omega) (by omega)
theorem wqt6 (k : Nat) {R : Type} (c : UInt8) (t : List UInt8) (hs : (c :: t).length ≤ 1000000) (hk : (c :: t).length < k) (K : List UInt8 → Bool → Option R) :
    (c = 39 → wq8q k (c :: t) K = match sgl [] t with
      | some (a, r) => K a (r == [])
      | none => K [] false) ∧
    (c = 34 → wq8q k (c :: t) K = match dbl (t.length + 1) [] t with
      | some (a, r) => K a (r == [])
      | none => K [] false) := by
  have hi : inb 0 ((c :: t).length : Int) = true := inb_t (by omega) (by rw [List.length_cons]; omega)
  have hg : (c :: t).getD (Int.toNat 0) 0 = c := rfl
  simp only [List.length_cons] at hk
  constructor
  · intro h
    subst h
    unfold wq8q wqf3
    simp only [hi, hg, cond_true]
    exact wqen k (39 :: t) hs K k t 1 [] rfl (by omega) (by simp) (by simp)
  · intro h
    subst h
    unfold wq8q wqf3
    simp only [hi, hg, cond_true]
    exact wq6c k (34 :: t) hs K k t 1 (t.length + 1) [] rfl (by omega) (by simp) (by simp) (by omega)
abbrev Res := List Pc × (Int × Int)
def finQ (no col : Int) (out : List Pc) : Option (List UInt8 × List UInt8) → Res
  | none => ([], 3, no)
  | some (a, r) => bif !(r == []) then ([], 3, no) else bif decide (200 < a.length) then ([], 4, no) else (out ++ [(3, no, col, a, true)], 0, 0)
def txtS (no ind : Int) (at_ : Nat) (s : List UInt8) (out : List Pc) : Res :=
  match s with
  | [] => (out, 0, 0)
  | c :: t => bif c == 39 then finQ no (ind + at_) out (sgl [] t) else bif c == 34 then finQ no (ind + at_) out (dbl (t.length + 1) [] t)
      else bif oddB c || (dsh (c :: t) || decide (0 < kS (c :: t))) then ([], 4, no) else bif decide (200 < (c :: t).length) then ([], 4, no) else (out ++ [(3, no, ind + at_, c :: t, false)], 0, 0)
def endS (no ind : Int) (at_ : Nat) (s : List UInt8) (out : List Pc) : Res :=
  bif decide (0 < kS s) then bif decide (64 < kS s) then ([], 5, no)
    else txtS no ind (at_ + (kS s + 1) + nb (s.drop (kS s + 1))) ((s.drop (kS s + 1)).drop (nb (s.drop (kS s + 1)))) (out ++ [(2, no, ind + at_, s.take (kS s), false)])
  else txtS no ind at_ s out
def rowS (no ind : Int) : Nat → Nat → List UInt8 → List Pc → Res
  | 0, _, _, out => (out, 0, 0)
  | f + 1, at_, s, out => bif dsh s then rowS no ind f (at_ + 1 + nb (s.drop 1)) ((s.drop 1).drop (nb (s.drop 1))) (out ++ [(1, no, ind + at_, [], false)]) else endS no ind at_ s out
def rowR (no ind : Int) (s : List UInt8) : Res :=
  bif decide (ind < 0) || decide (16384 < ind) then ([], 6, no) else rowS no ind (s.length + 1) (nb s) (s.drop (nb s)) []
def outL {R : Type} (K1 : List Pc → Option R) (E1 : Int → Int → Option R) (r : Res) : Option R := bif r.2.1 == 0 then K1 r.1 else E1 r.2.1 r.2.2
theorem wq15u (k : Nat) {R : Type} (x0 x1 : Int) (x2 : List UInt8) (n : Nat) (x4 : List Pc) (kd : Int) (t : List UInt8) (q : Bool) (b : Nat) (K : Int → Int → List UInt8 → Int → List Pc → Option R)
    (h0 : 0 ≤ x1) (h1 : x1 ≤ 16384) (hn : n ≤ 1000000) (hb : b ≤ 1000000) (hx : x4.length ≤ 1000000) :
    wqn k x0 x1 x2 (n : Int) x4 kd t q (b : Int) K = K x0 x1 x2 ((n + b : Nat) : Int) (x4 ++ [(kd, x0, x1 + (n : Int), t, q)]) := by
  unfold wqn wqfa
  rw [fits_t (by simp; omega) (by simp; omega)]
  simp (disch := omega) only [dec_t, dec_f, ieq_t, ieq_f, ine_t, ine_f, inb_t, bnd_t, wqj, wqa, cond_true, cond_false, Bool.not_true, Bool.not_false, Bool.true_or, Bool.or_true, Bool.false_or, Bool.or_false, Bool.true_and, Bool.and_true, Bool.false_and, Bool.and_false, wq2, wq0, wq5, wqrd]
theorem wq1cf (k : Nat) {R : Type} (no ind : Int) (text : List UInt8) (n : Nat) (out : List Pc) (c : UInt8) (t : List UInt8) (K1 : List Pc → Option R) (E1 : Int → Int → Option R)
    (h0 : 0 ≤ ind) (h1 : ind ≤ 16384) (hn : n ≤ 1000000) (ho : out.length ≤ 1000000) (hs : (c :: t).length ≤ 1000000) (hk : (c :: t).length < k) :
    wq6f k no ind text (n : Int) out (c :: t) (fun _ _ _ _ o => K1 o) (fun _ _ _ _ _ a b => E1 a b) = outL K1 E1 (txtS no ind n (c :: t) out) := by
  have hi : inb 0 ((c :: t).length : Int) = true := inb_t (by omega) (by rw [List.length_cons]; omega)
  have hg : (c :: t).getD (Int.toNat 0) 0 = c := rfl
  have e39 : ((c.toNat : Int) == 39) = (c == 39) := u8_beq c 39 (by omega)
  have e34 : ((c.toNat : Int) == 34) = (c == 34) := u8_beq c 34 (by omega)
  have hq := idx_sg c
  unfold sgL at hq
  have quoted : ∀ (x : Option (List UInt8 × List UInt8)), (∀ a r, x = some (a, r) → r.length < t.length + 1) → (match x with
      | some (a, r) => (fun (y10 y11 : Int) (y12 : List UInt8) (y13 : Int) (y14 : List Pc) (y15 : List UInt8) (y16 : Int) =>
          bif y16 != ((c :: t).length : Int) then E1 3 y10
          else bif decide ((y15.length : Int) > 200) then E1 4 y10
            else wqn k y10 y11 y12 y13 y14 3 y15 true y16 fun y17 y18 y19 y20 y21 => K1 y21) no ind text (n : Int) out a (((c :: t).length - r.length : Nat) : Int)
      | none => E1 3 no) = outL K1 E1 (finQ no (ind + n) out x) := by
    intro x hx
    cases x with
    | none => rfl
    | some p =>
      obtain ⟨a, r⟩ := p
      have hr := hx a r rfl
      simp only [finQ]
      simp only [List.length_cons] at hs hk ⊢
      cases hre : r == [] with
      | true =>
        have : r = [] := beq_iff_eq.1 hre
        subst this
        simp only [List.length_nil, Nat.sub_zero]
        simp (disch := omega) only [dec_t, dec_f, ieq_t, ieq_f, ine_t, ine_f, inb_t, bnd_t, wqj, wqa, cond_true, cond_false, Bool.not_true, Bool.not_false, Bool.true_or, Bool.or_true, Bool.false_or, Bool.or_false, Bool.true_and, Bool.and_true, Bool.false_and, Bool.and_false, wq2, wq0, wq5]
        by_cases ha : 200 < a.length
        · simp (disch := omega) only [dec_t, dec_f, ieq_t, ieq_f, ine_t, ine_f, inb_t, bnd_t, wqj, wqa, cond_true, cond_false, Bool.not_true, Bool.not_false, Bool.true_or, Bool.or_true, Bool.false_or, Bool.or_false, Bool.true_and, Bool.and_true, Bool.false_and, Bool.and_false, wq2, wq0, wq5]; rfl
        · simp (disch := omega) only [dec_t, dec_f, ieq_t, ieq_f, ine_t, ine_f, inb_t, bnd_t, wqj, wqa, cond_true, cond_false, Bool.not_true, Bool.not_false, Bool.true_or, Bool.or_true, Bool.false_or, Bool.or_false, Bool.true_and, Bool.and_true, Bool.false_and, Bool.and_false, wq2, wq0, wq5]
          rw [wq15u k no ind text n out 3 a true (t.length + 1) _ h0 h1 hn (by omega) ho]
          rfl
      | false =>
        have hr0 : r.length ≠ 0 := fun e => by rw [List.eq_nil_of_length_eq_zero e] at hre; cases hre
        simp (disch := omega) only [dec_t, dec_f, ieq_t, ieq_f, ine_t, ine_f, inb_t, bnd_t, wqj, wqa, cond_true, cond_false, Bool.not_true, Bool.not_false, Bool.true_or, Bool.or_true, Bool.false_or, Bool.or_false, Bool.true_and, Bool.and_true, Bool.false_and, Bool.and_false, wq2, wq0, wq5]
        rfl
  unfold wq6f wqgl
  simp only [hi, hg, e39, e34, wquk, cond_true, wq10i, hq, txtS]
  cases h39 : c == 39 with
  | true =>
    simp only [cond_true]
    rw [wq18b k no ind text n out c t hs hk]
    exact quoted (sgl [] t) fun a r h => by have := sgl_le h; omega
  | false =>
    simp only [cond_false]
    cases h34 : c == 34 with
    | true =>
      simp only [cond_true]
      rw [wq18c k no ind text n out c t hs hk]
      exact quoted (dbl (t.length + 1) [] t) fun a r h => by have := dbl_le h; omega
    | false =>
      simp only [cond_false, wq13o]
      have hky : ∀ K : List UInt8 → Option R, wqkf k (c :: t) K = K ((c :: t).take (kS (c :: t))) := fun K => wq189 k (c :: t) K hk (by omega)
      simp only [hky]
      have hkl := kS_lt (c :: t)
      have hne : (((c :: t).take (kS (c :: t))) == []) = decide (kS (c :: t) = 0) := by
        rw [Bool.eq_iff_iff]
        simp only [beq_iff_eq, decide_eq_true_eq]
        constructor
        · intro h
          have := congrArg List.length h
          rw [List.length_take, List.length_nil] at this
          simp only [List.length_cons] at this hkl
          omega
        · intro h; rw [h, List.take_zero]
      rw [hne]
      cases h1' : oddB c with
      | true => rfl
      | false =>
        simp only [dec_t, dec_f, ieq_t, ieq_f, ine_t, ine_f, inb_t, bnd_t, wqj, wqa, cond_true, cond_false, Bool.not_true, Bool.not_false, Bool.true_or, Bool.or_true, Bool.false_or, Bool.or_false, Bool.true_and, Bool.and_true, Bool.false_and, Bool.and_false, wq2, wq0, wq5]
        cases h2' : dsh (c :: t) with
        | true => rfl
        | false =>
          simp only [dec_t, dec_f, ieq_t, ieq_f, ine_t, ine_f, inb_t, bnd_t, wqj, wqa, cond_true, cond_false, Bool.not_true, Bool.not_false, Bool.true_or, Bool.or_true, Bool.false_or, Bool.or_false, Bool.true_and, Bool.and_true, Bool.false_and, Bool.and_false, wq2, wq0, wq5]
          by_cases h3 : kS (c :: t) = 0
          · simp (disch := omega) only [dec_t, dec_f, ieq_t, ieq_f, ine_t, ine_f, inb_t, bnd_t, wqj, wqa, cond_true, cond_false, Bool.not_true, Bool.not_false, Bool.true_or, Bool.or_true, Bool.false_or, Bool.or_false, Bool.true_and, Bool.and_true, Bool.false_and, Bool.and_false, wq2, wq0, wq5]
            by_cases h4 : 200 < (c :: t).length
            · simp (disch := omega) only [dec_t, dec_f, ieq_t, ieq_f, ine_t, ine_f, inb_t, bnd_t, wqj, wqa, cond_true, cond_false, Bool.not_true, Bool.not_false, Bool.true_or, Bool.or_true, Bool.false_or, Bool.or_false, Bool.true_and, Bool.and_true, Bool.false_and, Bool.and_false, wq2, wq0, wq5]; rfl
            · simp (disch := omega) only [dec_t, dec_f, ieq_t, ieq_f, ine_t, ine_f, inb_t, bnd_t, wqj, wqa, cond_true, cond_false, Bool.not_true, Bool.not_false, Bool.true_or, Bool.or_true, Bool.false_or, Bool.or_false, Bool.true_and, Bool.and_true, Bool.false_and, Bool.and_false, wq2, wq0, wq5]
              rw [wq15u k no ind text n out 3 (c :: t) false (c :: t).length _ h0 h1 hn hs ho]
              rfl
          · simp (disch := omega) only [dec_t, dec_f, ieq_t, ieq_f, ine_t, ine_f, inb_t, bnd_t, wqj, wqa, cond_true, cond_false, Bool.not_true, Bool.not_false, Bool.true_or, Bool.or_true, Bool.false_or, Bool.or_false, Bool.true_and, Bool.and_true, Bool.false_and, Bool.and_false, wq2, wq0, wq5]; rfl
theorem wq1dz {s : List UInt8} (h : 0 < kS s) : kS s + 1 ≤ s.length := by
  have h1 := tw_len s
  cases hd : s.drop (s.takeWhile sgn).length with
  | nil => rw [kS_end hd] at h; omega
  | cons c r =>
    obtain ⟨hlt, _, _⟩ := wqv hd
    rw [kS_at hd] at h ⊢
    cases hb : ((c == 58) && hd32 r) <;> rw [hb] at h <;> simp only [cond_true, cond_false] at h ⊢ <;> omega
theorem wq1g3 (s : List UInt8) : ((s.take (kS s)) == []) = decide (kS s = 0) := by
  have hkl := kS_lt s
  rw [Bool.eq_iff_iff]
  simp only [beq_iff_eq, decide_eq_true_eq]
  constructor
  · intro h
    have := congrArg List.length h
    rw [List.length_take, List.length_nil] at this
    omega
  · intro h; rw [h, List.take_zero]
theorem wq18d (k : Nat) {R : Type} (no ind : Int) (text : List UInt8) (n : Nat) (s : List UInt8) (out : List Pc) (K1 : List Pc → Option R) (E1 : Int → Int → Option R)
    (h0 : 0 ≤ ind) (h1 : ind ≤ 16384) (ht : text.length ≤ 1000000) (hk : text.length + 20 < k) (hs : text.drop n = s) (hn : n ≤ text.length) (ho : out.length ≤ n) :
    (bif !(s == []) then wq6f k no ind text (n : Int) out s (fun _ _ _ _ o => K1 o) (fun _ _ _ _ _ a b => E1 a b) else K1 out) = outL K1 E1 (txtS no ind n s out) := by
  have hl := congrArg List.length hs
  rw [List.length_drop] at hl
  cases s with
  | nil => rfl
  | cons c t =>
    have : ((c :: t) == ([] : List UInt8)) = false := rfl
    rw [this, Bool.not_false, cond_true]
    exact wq1cf k no ind text n out c t K1 E1 h0 h1 (by omega) (by omega) (by omega) (by omega)
theorem wq10j (k : Nat) {R : Type} (no ind : Int) (text : List UInt8) (K1 : List Pc → Option R) (E1 : Int → Int → Option R)
    (h0 : 0 ≤ ind) (h1 : ind ≤ 16384) (ht : text.length ≤ 1000000) (hk : text.length + 20 < k) :
    ∀ (m : Nat) (s : List UInt8) (n f : Nat) (out : List Pc), text.drop n = s → s.length < m → n ≤ text.length → out.length ≤ n → s.length < f →
      wq3e k m no ind text (n : Int) out s (fun _ _ _ _ o => K1 o) (fun _ _ _ _ _ a b => E1 a b) = outL K1 E1 (rowS no ind f n s out)
  | 0, s, n, f, out, _, hm, _, _, _ => by omega
  | m + 1, s, n, 0, out, _, _, _, _, hf => by omega
  | m + 1, s, n, f + 1, out, hs, hm, hn, ho, hf => by
    have hl := congrArg List.length hs
    rw [List.length_drop] at hl
    rw [wq3e, wq9q, rowS, wq13o]
    cases hd : dsh s with
    | true =>
      simp only [cond_true]
      cases s with
      | nil => cases hd
      | cons c t =>
        simp only [List.length_cons] at hm hf hl
        obtain ⟨hlt, _, hr⟩ := wqv hs
        refine Eq.trans (wq15u k no ind text n out 1 [] false 1 _ h0 h1 (by omega) (by omega) (by omega)) ?_
        rw [wquj k no ind text (n + 1) _ _ (by omega) (by omega) (by omega)]
        rw [hr]
        have := nb_le t
        exact wq10j k no ind text K1 E1 h0 h1 ht hk m (t.drop (nb t)) (n + 1 + nb t) f _ (by rw [← hr, List.drop_drop]) (by rw [List.length_drop]; omega) (by omega) (by simp; omega) (by rw [List.length_drop]; omega)
    | false =>
      simp only [cond_false]
      rw [wq189 k s _ (by omega) (by omega), wq1g3, endS]
      simp only [wquk]
      have hkl := kS_lt s
      by_cases hz : kS s = 0
      · simp (disch := omega) only [dec_t, dec_f, ieq_t, ieq_f, ine_t, ine_f, inb_t, bnd_t, wqj, wqa, cond_true, cond_false, Bool.not_true, Bool.not_false, Bool.true_or, Bool.or_true, Bool.false_or, Bool.or_false, Bool.true_and, Bool.and_true, Bool.false_and, Bool.and_false, wq2, wq0, wq5]
        exact wq18d k no ind text n s out K1 E1 h0 h1 ht hk hs hn ho
      · have hkr := wq1dz (s := s) (by omega)
        have hlen : (s.take (kS s)).length = kS s := by rw [List.length_take]; omega
        simp (disch := omega) only [dec_t, dec_f, ieq_t, ieq_f, ine_t, ine_f, inb_t, bnd_t, wqj, wqa, cond_true, cond_false, Bool.not_true, Bool.not_false, Bool.true_or, Bool.or_true, Bool.false_or, Bool.or_false, Bool.true_and, Bool.and_true, Bool.false_and, Bool.and_false, wq2, wq0, wq5, hlen]
        by_cases h64 : 64 < kS s
        · simp (disch := omega) only [dec_t, dec_f, ieq_t, ieq_f, ine_t, ine_f, inb_t, bnd_t, wqj, wqa, cond_true, cond_false, Bool.not_true, Bool.not_false, Bool.true_or, Bool.or_true, Bool.false_or, Bool.or_false, Bool.true_and, Bool.and_true, Bool.false_and, Bool.and_false, wq2, wq0, wq5]; rfl
        · simp (disch := omega) only [dec_t, dec_f, ieq_t, ieq_f, ine_t, ine_f, inb_t, bnd_t, wqj, wqa, cond_true, cond_false, Bool.not_true, Bool.not_false, Bool.true_or, Bool.or_true, Bool.false_or, Bool.or_false, Bool.true_and, Bool.and_true, Bool.false_and, Bool.and_false, wq2, wq0, wq5, wq1w]
          rw [wq15u k no ind text n out 2 _ false (kS s + 1) _ h0 h1 (by omega) (by omega) (by omega)]
          rw [wquj k no ind text (n + (kS s + 1)) _ _ (by omega) (by omega) (by omega)]
          have hr : text.drop (n + (kS s + 1)) = s.drop (kS s + 1) := by rw [← hs, List.drop_drop]
          rw [hr]
          have := nb_le (s.drop (kS s + 1))
          rw [List.length_drop] at this
          exact wq18d k no ind text (n + (kS s + 1) + nb (s.drop (kS s + 1))) _ _ K1 E1 h0 h1 ht hk (by rw [← hr, List.drop_drop]) (by omega) (by simp; omega)
theorem wq1e0 (k : Nat) {R : Type} (no ind : Int) (s : List UInt8) (K : List Pc → Int → Int → Option R) (ht : s.length ≤ 1000000) (hk : s.length + 20 < k) :
    wqs7 k no ind s K = K (rowR no ind s).1 (rowR no ind s).2.1 (rowR no ind s).2.2 := by
  unfold wqs7 wq14r wqeu wqm4 wqev wqm5 wqer wqeq
  simp only [wquk]
  have fin : ∀ r : Res, (r.2.1 = 0 → r.2.2 = 0) → (r.2.1 ≠ 0 → r.1 = []) → outL (fun o => K o 0 0) (fun a b => K [] a b) r = K r.1 r.2.1 r.2.2 := by
    intro r h1 h2
    unfold outL
    by_cases h : r.2.1 = 0
    · rw [h1 h, h]; rfl
    · rw [h2 h, ieq_f h]; rfl
  have okQ : ∀ (col : Int) (out : List Pc) x, ((finQ no col out x).2.1 = 0 → (finQ no col out x).2.2 = 0) ∧ ((finQ no col out x).2.1 ≠ 0 → (finQ no col out x).1 = []) := by
    intro col out x
    unfold finQ
    split
    · simp
    · next a r =>
      cases !(r == []) <;> simp only [cond_true, cond_false]
      · cases decide (200 < a.length) <;> simp
      · simp
  have okT : ∀ n s out, ((txtS no ind n s out).2.1 = 0 → (txtS no ind n s out).2.2 = 0) ∧ ((txtS no ind n s out).2.1 ≠ 0 → (txtS no ind n s out).1 = []) := by
    intro n s out
    unfold txtS
    split
    · simp
    · next c t =>
      cases c == 39 <;> simp only [cond_true, cond_false]
      · cases c == 34 <;> simp only [cond_true, cond_false]
        · cases (oddB c || (dsh (c :: t) || decide (0 < kS (c :: t)))) <;> simp only [cond_true, cond_false]
          · cases decide (200 < (c :: t).length) <;> simp
          · simp
        · exact okQ _ _ _
      · exact okQ _ _ _
  have okE : ∀ n s out, ((endS no ind n s out).2.1 = 0 → (endS no ind n s out).2.2 = 0) ∧ ((endS no ind n s out).2.1 ≠ 0 → (endS no ind n s out).1 = []) := by
    intro n s out
    unfold endS
    cases decide (0 < kS s) <;> simp only [cond_true, cond_false]
    · exact okT _ _ _
    · cases decide (64 < kS s) <;> simp only [cond_true, cond_false]
      · exact okT _ _ _
      · simp
  have okR : ∀ f n s out, ((rowS no ind f n s out).2.1 = 0 → (rowS no ind f n s out).2.2 = 0) ∧ ((rowS no ind f n s out).2.1 ≠ 0 → (rowS no ind f n s out).1 = []) := by
    intro f
    induction f with
    | zero => intro n s out; simp [rowS]
    | succ f ih =>
      intro n s out
      rw [rowS]
      cases dsh s <;> simp only [cond_true, cond_false]
      · exact okE _ _ _
      · exact ih _ _ _
  by_cases hi : ind < 0 ∨ 16384 < ind
  · have e1 : (bif decide (ind < 0) then true else decide (ind > 16384)) = true := by
      rw [Bool.cond_true_left]
      simp
      omega
    have e2 : (decide (ind < 0) || decide (16384 < ind)) = true := by simp; omega
    rw [e1, cond_true]
    unfold rowR
    rw [e2]
    rfl
  · have e1 : (bif decide (ind < 0) then true else decide (ind > 16384)) = false := by
      rw [Bool.cond_true_left]
      simp
      omega
    have e2 : (decide (ind < 0) || decide (16384 < ind)) = false := by simp; omega
    rw [e1, cond_false]
    unfold rowR
    rw [e2, cond_false]
    have := wquj k no ind s 0 [] (fun y10 y11 y12 y13 y14 y15 => wq3e k k y10 y11 y12 y13 y14 y15 (fun _ _ _ _ o => K o 0 0) (fun _ _ _ _ _ a b => K [] a b)) (by omega) (by omega) (by omega)
    refine Eq.trans this ?_
    simp only [List.drop_zero, Nat.zero_add]
    have hnb := nb_le s
    rw [wq10j k no ind s (fun o => K o 0 0) (fun a b => K [] a b) (by omega) (by omega) ht hk k (s.drop (nb s)) (nb s) (s.length + 1) [] rfl (by rw [List.length_drop]; omega) hnb (by simp) (by rw [List.length_drop]; omega)]
    exact fin _ (okR _ _ _ _).1 (okR _ _ _ _).2
theorem wq1hf {α : Type} (s : List α) (n j : Nat) : cut s (n : Int) ((n + j : Nat) : Int) = (s.drop n).take j := by
  simp only [cut, wq5]
  rw [List.drop_take]
  congr 1
  omega
theorem wqt7 (k : Nat) {R : Type} (no ind : Int) (text : List UInt8) (K : List Pc → Int → Int → Option R)
    (h0 : 0 ≤ ind) (h1 : ind ≤ 16384) (ht : text.length ≤ 1000000) (hk : text.length + 20 < k) :
    ∀ (m : Nat) (s : List UInt8) (n f : Nat) (out : List Pc), text.drop n = s → s.length < m → n ≤ text.length → out.length ≤ n → s.length < f →
      wq6o k m no ind text 0 0 out text (n : Int) K = K (rowS no ind f n s out).1 (rowS no ind f n s out).2.1 (rowS no ind f n s out).2.2
  | 0, s, n, f, out, _, hm, _, _, _ => by omega
  | m + 1, s, n, 0, out, _, _, _, _, hf => by omega
  | m + 1, s, n, f + 1, out, hs, hm, hn, ho, hf => by
    have hl := congrArg List.length hs
    rw [List.length_drop] at hl
    rw [wq6o, wqdh, rowS]
    simp (disch := omega) only [bnd_t, cond_true, wq10h, hs, wqjc]
    cases hd : dsh s with
    | true =>
      simp only [cond_true]
      cases s with
      | nil => cases hd
      | cons c t =>
        simp only [List.length_cons] at hm hf hl
        obtain ⟨hlt, _, hr⟩ := wqv hs
        have f1 : ∀ x : Pc, fits out.length [x].length 48 = true := fun x => fits_t (by simp; omega) (by simp; omega)
        simp (disch := omega) only [f1, cond_true, wqj, wq1w]
        rw [wqjd k text (n + 1) _ (by omega) (by omega) (by omega), hr]
        have := nb_le t
        simp (disch := omega) only [wqj, wqrd]
        exact wqt7 k no ind text K h0 h1 ht hk m (t.drop (nb t)) (n + 1 + nb t) f _ (by rw [← hr, List.drop_drop]) (by rw [List.length_drop]; omega) (by omega) (by simp; omega) (by rw [List.length_drop]; omega)
    | false =>
      simp only [cond_false]
      rw [wqt3 k s _ (by omega) (by omega), endS]
      have hkl := kS_lt s
      have tail : ∀ (a : Nat) (s : List UInt8) (out : List Pc), text.drop a = s → a ≤ text.length → out.length ≤ 1000000 →
          (bif decide ((a : Int) ≥ (text.length : Int)) then K out 0 0
            else bif inb (a : Int) (text.length : Int) then
                bif bif ((text.getD a 0).toNat : Int) == 39 then true else ((text.getD a 0).toNat : Int) == 34 then
                    wq8q k s fun y14 y15 =>
                      bif !y15 then K [] 3 no else bif decide ((y14.length : Int) > 200) then K [] 4 no else
                        bif fits out.length 1 48 then K (out ++ [(3, no, ind + (a : Int), y14, true)]) 0 0 else none
                else wqej k ((text.getD a 0).toNat : Int) fun y14 =>
                    bif y14 == false then bif dsh s == false then wq9i k s fun y16 => bif decide (y16 > 0) then K [] 4 no else bif decide ((s.length : Int) > 200) then K [] 4 no else
                        bif fits out.length 1 48 then K (out ++ [(3, no, ind + (a : Int), s, false)]) 0 0 else none
                      else K [] 4 no
                    else K [] 4 no
              else none) = K (txtS no ind a s out).1 (txtS no ind a s out).2.1 (txtS no ind a s out).2.2 := by
        intro a s out hs ha hout
        have hl := congrArg List.length hs
        rw [List.length_drop] at hl
        cases s with
        | nil =>
          have := wq2l hs
          simp (disch := omega) only [dec_t, cond_true, txtS]
        | cons c t =>
          obtain ⟨hlt, hc, _⟩ := wqv hs
          have e39 : ((c.toNat : Int) == 39) = (c == 39) := u8_beq c 39 (by omega)
          have e34 : ((c.toNat : Int) == 34) = (c == 34) := u8_beq c 34 (by omega)
          have f1 : fits out.length 1 48 = true := fits_t (by omega) (by omega)
          have hkc := kS_lt (c :: t)
          have quoted : ∀ x : Option (List UInt8 × List UInt8), (match x with
              | some (a', r) => (fun (y14 : List UInt8) (y15 : Bool) => bif !y15 then K [] 3 no else bif decide ((y14.length : Int) > 200) then K [] 4 no else K (out ++ [(3, no, ind + (a : Int), y14, true)]) 0 0) a' (r == [])
              | none => K [] 3 no) = K (finQ no (ind + a) out x).1 (finQ no (ind + a) out x).2.1 (finQ no (ind + a) out x).2.2 := by
            intro x
            cases x with
            | none => rfl
            | some p =>
              obtain ⟨a', r⟩ := p
              simp only [finQ]
              cases r == [] with
              | false => rfl
              | true =>
                simp only [Bool.not_true, cond_false]
                by_cases h2 : 200 < a'.length
                · simp (disch := omega) only [dec_t, dec_f, ieq_t, ieq_f, ine_t, ine_f, inb_t, bnd_t, wqj, wqa, cond_true, cond_false, Bool.not_true, Bool.not_false, Bool.true_or, Bool.or_true, Bool.false_or, Bool.or_false, Bool.true_and, Bool.and_true, Bool.false_and, Bool.and_false, wq2, wq0, wq5]
                · simp (disch := omega) only [dec_t, dec_f, ieq_t, ieq_f, ine_t, ine_f, inb_t, bnd_t, wqj, wqa, cond_true, cond_false, Bool.not_true, Bool.not_false, Bool.true_or, Bool.or_true, Bool.false_or, Bool.or_false, Bool.true_and, Bool.and_true, Bool.false_and, Bool.and_false, wq2, wq0, wq5]
          simp (disch := omega) only [dec_f, inb_t, hc, e39, e34, f1, cond_true, cond_false, txtS]
          cases h39 : c == 39 with
          | true =>
            simp only [cond_true]
            rw [(wqt6 k c t (by omega) (by omega) _).1 (beq_iff_eq.1 h39)]
            exact (by rw [← quoted]; cases sgl [] t <;> rfl)
          | false =>
            simp only [cond_false]
            cases h34 : c == 34 with
            | true =>
              simp only [cond_true]
              rw [(wqt6 k c t (by omega) (by omega) _).2 (beq_iff_eq.1 h34)]
              exact (by rw [← quoted]; cases dbl (t.length + 1) [] t <;> rfl)
            | false =>
              simp only [cond_false]
              rw [wq1ab k c _ (by omega)]
              cases oddB c with
              | true => rfl
              | false =>
                cases dsh (c :: t) with
                | true => rfl
                | false =>
                  simp only [dec_t, dec_f, ieq_t, ieq_f, ine_t, ine_f, inb_t, bnd_t, wqj, wqa, cond_true, cond_false, Bool.not_true, Bool.not_false, Bool.true_or, Bool.or_true, Bool.false_or, Bool.or_false, Bool.true_and, Bool.and_true, Bool.false_and, Bool.and_false, wq2, wq0, wq5]
                  rw [wqt3 k (c :: t) _ (by omega) (by omega)]
                  by_cases h3 : kS (c :: t) = 0
                  · simp (disch := omega) only [dec_t, dec_f, ieq_t, ieq_f, ine_t, ine_f, inb_t, bnd_t, wqj, wqa, cond_true, cond_false, Bool.not_true, Bool.not_false, Bool.true_or, Bool.or_true, Bool.false_or, Bool.or_false, Bool.true_and, Bool.and_true, Bool.false_and, Bool.and_false, wq2, wq0, wq5]
                    by_cases h4 : 200 < (c :: t).length
                    · simp (disch := omega) only [dec_t, dec_f, ieq_t, ieq_f, ine_t, ine_f, inb_t, bnd_t, wqj, wqa, cond_true, cond_false, Bool.not_true, Bool.not_false, Bool.true_or, Bool.or_true, Bool.false_or, Bool.or_false, Bool.true_and, Bool.and_true, Bool.false_and, Bool.and_false, wq2, wq0, wq5]
                    · simp (disch := omega) only [dec_t, dec_f, ieq_t, ieq_f, ine_t, ine_f, inb_t, bnd_t, wqj, wqa, cond_true, cond_false, Bool.not_true, Bool.not_false, Bool.true_or, Bool.or_true, Bool.false_or, Bool.or_false, Bool.true_and, Bool.and_true, Bool.false_and, Bool.and_false, wq2, wq0, wq5]
                  · simp (disch := omega) only [dec_t, dec_f, ieq_t, ieq_f, ine_t, ine_f, inb_t, bnd_t, wqj, wqa, cond_true, cond_false, Bool.not_true, Bool.not_false, Bool.true_or, Bool.or_true, Bool.false_or, Bool.or_false, Bool.true_and, Bool.and_true, Bool.false_and, Bool.and_false, wq2, wq0, wq5]
      by_cases hz : kS s = 0
      · have := tail n s out hs hn (by omega)
        have e0 : decide (0 < kS s) = false := dec_f (by omega)
        rw [e0, cond_false, ← this]
        simp (disch := omega) only [dec_f, cond_false, wq5, wqj, List.length_singleton, bnd_t, cond_true, Bool.or_true]
        by_cases hge : text.length ≤ n
        · simp (disch := omega) only [dec_t, cond_true]
        · simp (disch := omega) only [dec_f, cond_false, inb_t, cond_true, Bool.or_true, wqjc, hd]
      · have hkr := wq1dz (s := s) (by omega)
        have e0 : decide (0 < kS s) = true := dec_t (by omega)
        rw [e0, cond_true]
        by_cases h64 : 64 < kS s
        · simp (disch := omega) only [dec_t, dec_f, ieq_t, ieq_f, ine_t, ine_f, inb_t, bnd_t, wqj, wqa, cond_true, cond_false, Bool.not_true, Bool.not_false, Bool.true_or, Bool.or_true, Bool.false_or, Bool.or_false, Bool.true_and, Bool.and_true, Bool.false_and, Bool.and_false, wq2, wq0, wq5]
        · have e64 : decide (64 < kS s) = false := dec_f h64
          rw [e64, cond_false]
          have hnb := nb_le (s.drop (kS s + 1))
          rw [List.length_drop] at hnb
          have hr : text.drop (n + kS s + 1) = s.drop (kS s + 1) := by rw [← hs, List.drop_drop]; congr 1
          have f1 : fits out.length 1 48 = true := fits_t (by omega) (by omega)
          simp (disch := omega) only [dec_t, dec_f, cond_false, cond_true, wqj, wqrd, wq1w, bnd_t, List.length_singleton, f1, wq1hf, hs]
          rw [wqjd k text (n + kS s + 1) _ (by omega) (by omega) (by omega), hr]
          simp (disch := omega) only [wqj, wqrd]
          have e1 : n + (kS s + 1) + nb (s.drop (kS s + 1)) = n + kS s + 1 + nb (s.drop (kS s + 1)) := by omega
          rw [e1]
          have hta : text.drop (n + kS s + 1 + nb (s.drop (kS s + 1))) = (s.drop (kS s + 1)).drop (nb (s.drop (kS s + 1))) := by rw [← hr, List.drop_drop, hr]
          have := tail (n + kS s + 1 + nb (s.drop (kS s + 1))) _ (out ++ [(2, no, ind + (n : Int), s.take (kS s), false)]) hta (by omega) (by simp; omega)
          rw [← this]
          generalize n + kS s + 1 + nb (s.drop (kS s + 1)) = a at hta ⊢
          have hal : a ≤ text.length ∨ text.length < a := by omega
          by_cases hge : text.length ≤ a
          · simp (disch := omega) only [dec_t, cond_true]
          · simp (disch := omega) only [dec_f, cond_false, inb_t, cond_true, Bool.or_true, bnd_t, wq10h, hta, wqjc, wq5]
theorem wq10k (k : Nat) {R : Type} (no ind : Int) (s : List UInt8) (K : List Pc → Int → Int → Option R) (ht : s.length ≤ 1000000) (hk : s.length + 20 < k) :
    wqjx k no ind s K = K (rowR no ind s).1 (rowR no ind s).2.1 (rowR no ind s).2.2 := by
  unfold wqjx wqny rowR
  by_cases hi : ind < 0 ∨ 16384 < ind
  · have e1 : (bif decide (ind < 0) then true else decide (ind > 16384)) = true := by
      rw [Bool.cond_true_left]
      simp
      omega
    have e2 : (decide (ind < 0) || decide (16384 < ind)) = true := by simp; omega
    rw [e1, e2]
    rfl
  · have e1 : (bif decide (ind < 0) then true else decide (ind > 16384)) = false := by
      rw [Bool.cond_true_left]
      simp
      omega
    have e2 : (decide (ind < 0) || decide (16384 < ind)) = false := by simp; omega
    rw [e1, e2]
    simp only [cond_false]
    refine Eq.trans (wqjd k s 0 _ (by omega) (by omega) (by omega)) ?_
    rw [List.drop_zero]
    have hnb := nb_le s
    exact wqt7 k no ind s K (by omega) (by omega) ht hk k (s.drop (nb s)) (nb s) (s.length + 1) [] rfl (by rw [List.length_drop]; omega) hnb (by simp) (by rw [List.length_drop]; omega)
theorem wq1e1 (no col : Int) (out : List Pc) (x : Option (List UInt8 × List UInt8)) : (finQ no col out x).1.length ≤ out.length + 1 := by
  unfold finQ
  split
  · simp
  · next a r =>
    cases !(r == []) <;> simp only [cond_true, cond_false]
    · cases decide (200 < a.length) <;> simp
    · simp
theorem wq1e2 (no ind : Int) (n : Nat) (s : List UInt8) (out : List Pc) : (txtS no ind n s out).1.length ≤ out.length + s.length := by
  unfold txtS
  split
  · simp
  · next c t =>
    have h1 := wq1e1 no (ind + n) out (sgl [] t)
    have h2 := wq1e1 no (ind + n) out (dbl (t.length + 1) [] t)
    have h3 : (c :: t).length = t.length + 1 := rfl
    cases c == 39 <;> simp only [cond_true, cond_false]
    · cases c == 34 <;> simp only [cond_true, cond_false]
      · cases (oddB c || (dsh (c :: t) || decide (0 < kS (c :: t)))) <;> simp only [cond_true, cond_false]
        · cases decide (200 < (c :: t).length) <;> simp
        · simp
      · omega
    · omega
theorem wq1g4 (no ind : Int) (n : Nat) (s : List UInt8) (out : List Pc) : (endS no ind n s out).1.length ≤ out.length + s.length := by
  unfold endS
  by_cases h : 0 < kS s
  · rw [dec_t h, cond_true]
    have := wq1dz h
    cases decide (64 < kS s) <;> simp only [cond_true, cond_false]
    · refine Nat.le_trans (wq1e2 _ _ _ _ _) ?_
      simp
      omega
    · simp
  · rw [dec_f h, cond_false]; exact wq1e2 _ _ _ _ _
theorem wq1e3 (no ind : Int) : ∀ (f n : Nat) (s : List UInt8) (out : List Pc), (rowS no ind f n s out).1.length ≤ out.length + s.length
  | 0, n, s, out => by simp [rowS]
  | f + 1, n, s, out => by
    rw [rowS]
    cases h : dsh s with
    | false => exact wq1g4 _ _ _ _ _
    | true =>
      rw [cond_true]
      refine Nat.le_trans (wq1e3 no ind f _ _ _) ?_
      cases s with
      | nil => cases h
      | cons c t => simp; omega
theorem wq1hq (no ind : Int) (s : List UInt8) : (rowR no ind s).1.length ≤ s.length := by
  unfold rowR
  cases (decide (ind < 0) || decide (16384 < ind)) with
  | true => simp
  | false =>
    rw [cond_false]
    refine Nat.le_trans (wq1e3 _ _ _ _ _ _) ?_
    simp
abbrev Ln := Int × (Int × List UInt8)
def allS : List Ln → List Pc → Res
  | [], out => (out, 0, 0)
  | l :: r, out => bif (rowR l.1 l.2.1 l.2.2).2.1 != 0 then ([], (rowR l.1 l.2.1 l.2.2).2.1, (rowR l.1 l.2.1 l.2.2).2.2) else allS r (out ++ (rowR l.1 l.2.1 l.2.2).1)
def total : List Ln → Nat
  | [] => 0
  | l :: r => l.2.2.length + total r
theorem wq1ey : ∀ {ls : List Ln} {l : Ln}, l ∈ ls → l.2.2.length ≤ total ls
  | a :: r, l, h => by
    rw [total]
    rcases List.mem_cons.1 h with rfl | h
    · omega
    · have := wq1ey h; omega
  | [], l, h => by cases h
theorem wq1ff (c d : UInt8) : ((c.toNat : Int) == (d.toNat : Int)) = (c == d) := by
  rw [Bool.eq_iff_iff]
  simp only [beq_iff_eq]
  constructor
  · intro h; exact UInt8.toNat_inj.1 (by omega)
  · intro h; rw [h]
theorem wq15v (c d : UInt8) : ((c.toNat : Int) != (d.toNat : Int)) = !(c == d) := by rw [bne, wq1ff]
theorem wq1hj (n : Nat) : (n : Int) + 1 + 1 = ((n + 2 : Nat) : Int) := by omega
theorem wq1hk {n : Nat} (h : 0 < n) : (n : Int) - 1 = ((n - 1 : Nat) : Int) := by omega
def qS (c : UInt8) : List UInt8 → Nat → Option Nat
  | [], _ => none
  | [x], i => bif c == 34 && x == 92 then none else bif !(x == c) then none else some i
  | x :: y :: r, i => bif c == 34 && x == 92 then qS c r (i + 2) else bif !(x == c) then qS c (y :: r) (i + 1) else bif c == 39 && y == c then qS c r (i + 2) else some i
def qK {R : Type} (K : Int → Bool → Option R) (d : Int) : Option Nat → Option R
  | some j => K (j + d) true
  | none => K 0 false
theorem beq34 (c : UInt8) : ((c.toNat : Int) == 34) = (c == 34) := u8_beq c 34 (by omega)
theorem beq39 (c : UInt8) : ((c.toNat : Int) == 39) = (c == 39) := u8_beq c 39 (by omega)
theorem beq92 (c : UInt8) : ((c.toNat : Int) == 92) = (c == 92) := u8_beq c 92 (by omega)
theorem beq35 (c : UInt8) : ((c.toNat : Int) == 35) = (c == 35) := u8_beq c 35 (by omega)
theorem beq32 (c : UInt8) : ((c.toNat : Int) == 32) = (c == 32) := u8_beq c 32 (by omega)
theorem bne32 (c : UInt8) : ((c.toNat : Int) != 32) = !(c == 32) := u8_bne c 32 (by omega)
theorem wq15w (c : UInt8) : ∀ (r : List UInt8) (i j : Nat), qS c r i = some j → i ≤ j ∧ j < i + r.length
  | [], i, j, h => by cases h
  | [x], i, j, h => by
    unfold qS at h
    cases h1 : (c == 34 && x == 92) <;> rw [h1] at h <;> simp only [cond_true, cond_false] at h
    · cases h2 : (x == c) <;> rw [h2] at h <;> simp at h
      simp; omega
    · cases h
  | x :: y :: r, i, j, h => by
    unfold qS at h
    cases h1 : (c == 34 && x == 92) <;> rw [h1] at h <;> simp only [cond_true, cond_false] at h
    · cases h2 : (x == c) <;> rw [h2] at h <;> simp only [Bool.not_true, Bool.not_false, cond_true, cond_false] at h
      · have := wq15w c (y :: r) _ _ h
        simp at this ⊢; omega
      · cases h3 : (c == 39 && y == c) <;> rw [h3] at h <;> simp only [cond_true, cond_false] at h
        · cases h; simp
        · have := wq15w c r _ _ h
          simp at this ⊢; omega
    · have := wq15w c r _ _ h
      simp at this ⊢; omega
theorem wq10l (k : Nat) {R : Type} (s : List UInt8) (c : UInt8) (hs : s.length ≤ 1000000) (K : Int → Bool → Option R) : ∀ (n : Nat) (r : List UInt8) (i : Nat), s.drop i = r → i ≤ s.length + 1 → r.length < n →
    wq4z k n s (c.toNat : Int) (i : Int) K = qK K 0 (qS c r i) := by
  intro n
  induction n with
  | zero => intro r i _ _ h; omega
  | succ n ih =>
    intro r i hr hi hn
    rw [wq4z]
    unfold wqbb
    match r, hr, hn with
    | [], hr, hn =>
      have := wq2l hr
      simp (disch := omega) only [dec_t, dec_f, ieq_t, ieq_f, ine_t, ine_f, inb_t, bnd_t, wqj, wqa, cond_true, cond_false, Bool.not_true, Bool.not_false, Bool.true_or, Bool.or_true, Bool.false_or, Bool.or_false, Bool.true_and, Bool.and_true, Bool.false_and, Bool.and_false, wq2, wq0, wq5, qS, qK]
    | [x], hr, hn =>
      obtain ⟨h1, h2, h3⟩ := wqv hr
      have h4 := wq2l h3
      simp (disch := omega) only [dec_t, dec_f, ieq_t, ieq_f, ine_t, ine_f, inb_t, bnd_t, wqj, wqa, cond_true, cond_false, Bool.not_true, Bool.not_false, Bool.true_or, Bool.or_true, Bool.false_or, Bool.or_false, Bool.true_and, Bool.and_true, Bool.false_and, Bool.and_false, wq2, wq0, wq5, h2, beq34, beq92, beq39, wq15v]
      have e1 := ih [] (i + 1) h3 (by omega) (by simp at hn ⊢; omega)
      have e2 := ih [] (i + 2) (by rw [List.drop_eq_nil_of_le (by omega)]) (by omega) (by simp at hn ⊢; omega)
      have c1 : ((i : Int) + 1) = ((i + 1 : Nat) : Int) := by omega
      have c2 : ((i : Int) + 1 + 1) = ((i + 2 : Nat) : Int) := by omega
      rw [c2, c1, e1, e2]
      unfold qS
      have h5 : decide (((i + 1 : Nat) : Int) < (s.length : Int)) = false := dec_f (by omega)
      cases h6 : (c == 34) <;> cases h7 : (x == 92) <;> cases h8 : (x == c) <;> cases h9 : (c == 39) <;> simp [h5, qS, qK]
    | x :: y :: r, hr, hn =>
      obtain ⟨h1, h2, h3⟩ := wqv hr
      obtain ⟨g1, g2, g3⟩ := wqv h3
      simp (disch := omega) only [dec_t, dec_f, ieq_t, ieq_f, ine_t, ine_f, inb_t, bnd_t, wqj, wqa, cond_true, cond_false, Bool.not_true, Bool.not_false, Bool.true_or, Bool.or_true, Bool.false_or, Bool.or_false, Bool.true_and, Bool.and_true, Bool.false_and, Bool.and_false, wq2, wq0, wq5, h2, beq34, beq92, beq39, wq15v]
      have e1 := ih (y :: r) (i + 1) h3 (by omega) (by simp at hn ⊢; omega)
      have e2 := ih r (i + 2) g3 (by omega) (by simp at hn ⊢; omega)
      have c1 : ((i : Int) + 1) = ((i + 1 : Nat) : Int) := by omega
      have c2 : ((i : Int) + 1 + 1) = ((i + 2 : Nat) : Int) := by omega
      rw [c2, c1, e1, e2, wq5, g2, wq1ff]
      rw [qS]
      cases h6 : (c == 34) <;> cases h7 : (x == 92) <;> cases h8 : (x == c) <;> cases h9 : (c == 39) <;> cases h10 : (y == c) <;> simp [qK]
theorem wqwj (k : Nat) {R : Type} (s : List UInt8) (c : UInt8) (hs : s.length ≤ 1000000) (K : Int → Bool → Option R) : ∀ (n : Nat) (r : List UInt8) (i : Nat), s.drop i = r → i ≤ s.length + 1 → r.length < n →
    wq4o k n s (c.toNat : Int) (i : Int) K = qK K 1 (qS c r i) := by
  intro n
  induction n with
  | zero => intro r i _ _ h; omega
  | succ n ih =>
    intro r i hr hi hn
    rw [wq4o]
    unfold wqan
    match r, hr, hn with
    | [], hr, hn =>
      have := wq2l hr
      simp (disch := omega) only [dec_t, dec_f, ieq_t, ieq_f, ine_t, ine_f, inb_t, bnd_t, wqj, wqa, cond_true, cond_false, Bool.not_true, Bool.not_false, Bool.true_or, Bool.or_true, Bool.false_or, Bool.or_false, Bool.true_and, Bool.and_true, Bool.false_and, Bool.and_false, wq2, wq0, wq5, qS, qK]
    | [x], hr, hn =>
      obtain ⟨h1, h2, h3⟩ := wqv hr
      have h4 := wq2l h3
      simp (disch := omega) only [dec_t, dec_f, ieq_t, ieq_f, ine_t, ine_f, inb_t, bnd_t, wqj, wqa, cond_true, cond_false, Bool.not_true, Bool.not_false, Bool.true_or, Bool.or_true, Bool.false_or, Bool.or_false, Bool.true_and, Bool.and_true, Bool.false_and, Bool.and_false, wq2, wq0, wq5, h2, beq34, beq92, beq39, wq15v]
      have e1 := ih [] (i + 1) h3 (by omega) (by simp at hn ⊢; omega)
      have e2 := ih [] (i + 2) (by rw [List.drop_eq_nil_of_le (by omega)]) (by omega) (by simp at hn ⊢; omega)
      have c1 : ((i : Int) + 1) = ((i + 1 : Nat) : Int) := by omega
      have c2 : ((i : Int) + 1 + 1) = ((i + 2 : Nat) : Int) := by omega
      rw [c2, c1, e1, e2]
      unfold qS
      have h5 : decide (((i + 1 : Nat) : Int) < (s.length : Int)) = false := dec_f (by omega)
      cases h6 : (c == 34) <;> cases h7 : (x == 92) <;> cases h8 : (x == c) <;> cases h9 : (c == 39) <;> simp [h5, qS, qK]
    | x :: y :: r, hr, hn =>
      obtain ⟨h1, h2, h3⟩ := wqv hr
      obtain ⟨g1, g2, g3⟩ := wqv h3
      simp (disch := omega) only [dec_t, dec_f, ieq_t, ieq_f, ine_t, ine_f, inb_t, bnd_t, wqj, wqa, cond_true, cond_false, Bool.not_true, Bool.not_false, Bool.true_or, Bool.or_true, Bool.false_or, Bool.or_false, Bool.true_and, Bool.and_true, Bool.false_and, Bool.and_false, wq2, wq0, wq5, h2, beq34, beq92, beq39, wq15v]
      have e1 := ih (y :: r) (i + 1) h3 (by omega) (by simp at hn ⊢; omega)
      have e2 := ih r (i + 2) g3 (by omega) (by simp at hn ⊢; omega)
      have c1 : ((i : Int) + 1) = ((i + 1 : Nat) : Int) := by omega
      have c2 : ((i : Int) + 1 + 1) = ((i + 2 : Nat) : Int) := by omega
      rw [c2, c1, e1, e2, wq5, g2]
      rw [qS]
      cases h9 : (c == 39) with
      | false => cases h6 : (c == 34) <;> cases h7 : (x == 92) <;> cases h8 : (x == c) <;> simp [qK]
      | true =>
        have := beq_iff_eq.1 h9
        subst this
        cases h7 : (x == 92) <;> cases h8 : (x == 39) <;> cases h10 : (y == 39) <;> simp [qK]
def qAt (s : List UInt8) (i : Nat) : Option Nat := qS (s.getD i 0) (s.drop (i + 1)) (i + 1)
theorem wqt8 (k : Nat) {R : Type} (s : List UInt8) (i : Nat) (hs : s.length ≤ 1000000) (hi : i < s.length) (hk : s.length < k) (K : Int → Bool → Option R) : wqcp k s i K = qK K 0 (qAt s i) := by
  unfold wqcp wqi1
  simp (disch := omega) only [dec_t, dec_f, ieq_t, ieq_f, ine_t, ine_f, inb_t, bnd_t, wqj, wqa, cond_true, cond_false, Bool.not_true, Bool.not_false, Bool.true_or, Bool.or_true, Bool.false_or, Bool.or_false, Bool.true_and, Bool.and_true, Bool.false_and, Bool.and_false, wq2, wq0, wq5]
  rw [wq1w, wq10l k s _ hs K k _ (i + 1) rfl (by omega) (by rw [List.length_drop]; omega)]
  rfl
theorem wq12u (k : Nat) {R : Type} (s : List UInt8) (i : Nat) (hs : s.length ≤ 1000000) (hi : i < s.length) (hk : s.length < k) (K : Int → Bool → Option R) : wqdi k s i K = qK K 1 (qAt s i) := by
  unfold wqdi wqg0
  simp (disch := omega) only [dec_t, dec_f, ieq_t, ieq_f, ine_t, ine_f, inb_t, bnd_t, wqj, wqa, cond_true, cond_false, Bool.not_true, Bool.not_false, Bool.true_or, Bool.or_true, Bool.false_or, Bool.or_false, Bool.true_and, Bool.and_true, Bool.false_and, Bool.and_false, wq2, wq0, wq5]
  rw [wq1w, wqwj k s _ hs K k _ (i + 1) rfl (by omega) (by rw [List.length_drop]; omega)]
  rfl
theorem wq15x {s : List UInt8} {i j : Nat} (h : qAt s i = some j) : i < j ∧ j < s.length := by
  have := wq15w _ _ _ _ h
  rw [List.length_drop] at this
  omega
def rt (l : List UInt8) : List UInt8 := (l.reverse.dropWhile (· == 32)).reverse
theorem rt_nil : rt [] = [] := rfl
theorem rt_cat (l : List UInt8) (x : UInt8) : rt (l ++ [x]) = bif x == 32 then rt l else l ++ [x] := by
  unfold rt
  rw [List.reverse_append, List.reverse_singleton, List.singleton_append, List.dropWhile_cons]
  cases x == 32 <;> simp
theorem wq1ez (l : List UInt8) (x d : UInt8) : (l ++ [x]).getD l.length d = x := by simp [List.getD]
theorem wq1e4 (k : Nat) {R : Type} (K : List UInt8 → Option R) : ∀ (n : Nat) (l : List UInt8), l.length ≤ 1000000 → l.length < n → wq24 k n l 32 K = K (rt l) := by
  intro n
  induction n with
  | zero => intro l _ h; omega
  | succ n ih =>
    intro l hl hn
    rw [wq24]
    unfold wq5f
    rcases List.eq_nil_or_concat l with rfl | ⟨l', x, rfl⟩
    · simp [rt_nil]
    · rw [List.concat_eq_append] at *
      have hlen : (l' ++ [x]).length = l'.length + 1 := by simp
      rw [hlen] at hl hn
      simp (disch := omega) only [dec_t, dec_f, ieq_t, ieq_f, ine_t, ine_f, inb_t, bnd_t, wqj, wqa, cond_true, cond_false, Bool.not_true, Bool.not_false, Bool.true_or, Bool.or_true, Bool.false_or, Bool.or_false, Bool.true_and, Bool.and_true, Bool.false_and, Bool.and_false, wq2, wq0, wq5, hlen]
      have e1 : (((l'.length + 1 : Nat) : Int) - 1) = (l'.length : Int) := by omega
      simp (disch := omega) only [dec_t, dec_f, ieq_t, ieq_f, ine_t, ine_f, inb_t, bnd_t, wqj, wqa, cond_true, cond_false, Bool.not_true, Bool.not_false, Bool.true_or, Bool.or_true, Bool.false_or, Bool.or_false, Bool.true_and, Bool.and_true, Bool.false_and, Bool.and_false, wq2, wq0, wq5, e1, wq1ez, beq32]
      rw [wqg1, List.take_left' rfl, ih l' (by omega) (by omega), rt_cat]
      cases x == 32 <;> rfl
theorem wq1ac (k : Nat) {R : Type} (l : List UInt8) (hl : l.length ≤ 1000000) (hk : l.length < k) (K : List UInt8 → Option R) : wq6s k l 32 K = K (rt l) := by
  unfold wq6s wqd6 wq82 wq81
  cases l with
  | nil => rfl
  | cons x r =>
    have e2 : (((([32] : List UInt8).getD (Int.toNat 0) 0).toNat : Nat) : Int) = 32 := rfl
    simp only [e2, show ((x :: r) == ([] : List UInt8)) = false from rfl, show (([32] : List UInt8) == []) = false from rfl, show ((([32] : List UInt8).length : Int) == 1) = true from rfl, show decide ((32 : Int) < 128) = true from rfl, cond_false, cond_true]
    exact wq1e4 k K k _ hl hk
def fresh (s : List UInt8) (i : Nat) : Bool := i == 0 || s.getD (i - 1) 0 == 32
def stS (s : List UInt8) : Nat → Nat → Option Nat
  | 0, _ => some s.length
  | n + 1, i => bif Nat.ble s.length i then some s.length else
    bif !fresh s i then stS s n (i + 1) else
    bif s.getD i 0 == 35 then some i else
    bif s.getD i 0 == 39 || s.getD i 0 == 34 then (match qAt s i with
      | some j => stS s n (j + 1)
      | none => none) else stS s n (i + 1)
def stK {R : Type} (s : List UInt8) (K : List UInt8 → Bool → Option R) : Option Nat → Option R
  | some e => K (rt (s.take e)) true
  | none => K [] false
theorem ble_f {a b : Nat} (h : b < a) : Nat.ble a b = false := by
  cases hb : Nat.ble a b with
  | false => rfl
  | true => have := Nat.le_of_ble_eq_true hb; omega
theorem ble_t {a b : Nat} (h : a ≤ b) : Nat.ble a b = true := Nat.ble_eq_true_of_le h
theorem wq12v (k : Nat) {R : Type} (s : List UInt8) (hs : s.length ≤ 1000000) (hk : s.length < k) (K : List UInt8 → Bool → Option R) : ∀ (n i : Nat), i ≤ s.length → s.length < i + n →
    wq30 k n s (s.length : Int) (i : Int) K = stK s K (stS s n i) := by
  intro n
  induction n with
  | zero => intro i _ h; omega
  | succ n ih =>
    intro i hi hn
    rw [wq30]
    unfold wqbw
    by_cases h : i < s.length
    · have hb := ble_f h
      rw [stS, hb, cond_false]
      have st1 := ih (i + 1) (by omega) (by omega)
      have c1 : ((i : Int) + 1) = ((i + 1 : Nat) : Int) := by omega
      have hg : bnd 0 (i : Int) (s.length : Int) = true := bnd_t (by omega) (by omega) (by omega)
      have hcut : (cut s 0 (i : Int)).length ≤ 1000000 ∧ (cut s 0 (i : Int)).length < k := by rw [wqg1, List.length_take]; omega
      have tail : (bif (s.getD i 0 : UInt8) == 35 then K (rt (s.take i)) true else bif (s.getD i 0 : UInt8) == 39 then qK (fun y7 y8 => bif !y8 then K [] false else wq30 k n s (s.length : Int) (IntKind.i64.wrap (y7 + 1)) K) 0 (qAt s i) else bif (s.getD i 0 : UInt8) == 34 then qK (fun y7 y8 => bif !y8 then K [] false else wq30 k n s (s.length : Int) (IntKind.i64.wrap (y7 + 1)) K) 0 (qAt s i) else wq30 k n s (s.length : Int) ((i + 1 : Nat) : Int) K) =
          stK s K (bif s.getD i 0 == 35 then some i else bif s.getD i 0 == 39 || s.getD i 0 == 34 then (match qAt s i with | some j => stS s n (j + 1) | none => none) else stS s n (i + 1)) := by
        have hq : qK (fun y7 y8 => bif !y8 then K [] false else wq30 k n s (s.length : Int) (IntKind.i64.wrap (y7 + 1)) K) 0 (qAt s i) = stK s K (match qAt s i with | some j => stS s n (j + 1) | none => none) := by
          cases hqa : qAt s i with
          | none => rfl
          | some j =>
            have hj := wq15x hqa
            simp only [qK, Bool.not_true, cond_false]
            have e : IntKind.i64.wrap ((j : Int) + 0 + 1) = ((j + 1 : Nat) : Int) := by rw [wqj (by omega) (by omega)]; omega
            rw [e, ih (j + 1) (by omega) (by omega)]
        rw [hq, st1]
        cases (s.getD i 0 == 35) <;> cases (s.getD i 0 == 39) <;> cases (s.getD i 0 == 34) <;> rfl
      by_cases h0 : i = 0
      · subst h0
        have hf : fresh s 0 = true := rfl
        rw [hf]
        simp (disch := omega) only [dec_t, dec_f, ieq_t, ieq_f, ine_t, ine_f, inb_t, bnd_t, wqj, wqa, cond_true, cond_false, Bool.not_true, Bool.not_false, Bool.true_or, Bool.or_true, Bool.false_or, Bool.or_false, Bool.true_and, Bool.and_true, Bool.false_and, Bool.and_false, wq2, wq0, wq5, beq35, beq39, beq34]
        rw [wq1ac k _ hcut.1 hcut.2, wqg1, wqt8 k s 0 hs h hk]
        rw [← tail]
        rfl
      · have e0 : ((i : Int) - 1) = ((i - 1 : Nat) : Int) := by omega
        have hf : fresh s i = (s.getD (i - 1) 0 == 32) := by
          have : (i == 0) = false := by simpa using h0
          simp [fresh, this]
        rw [hf]
        simp (disch := omega) only [dec_t, dec_f, ieq_t, ieq_f, ine_t, ine_f, inb_t, bnd_t, wqj, wqa, cond_true, cond_false, Bool.not_true, Bool.not_false, Bool.true_or, Bool.or_true, Bool.false_or, Bool.or_false, Bool.true_and, Bool.and_true, Bool.false_and, Bool.and_false, wq2, wq0, wq5, e0, beq35, beq39, beq34, bne32]
        rw [wq1ac k _ hcut.1 hcut.2, wqg1, wqt8 k s i hs h hk, c1]
        cases hx : (s.getD (i - 1) 0 == 32) with
        | false => rw [Bool.not_false, cond_true, cond_true]; exact st1
        | true =>
          rw [Bool.not_true, cond_false, cond_false, ← tail]
    · have hi' : i = s.length := by omega
      subst hi'
      have hcut : (cut s 0 (s.length : Int)).length ≤ 1000000 ∧ (cut s 0 (s.length : Int)).length < k := by rw [wqg1, List.length_take]; omega
      rw [stS, ble_t (Nat.le_refl _), cond_true]
      simp (disch := omega) only [dec_t, dec_f, ieq_t, ieq_f, ine_t, ine_f, inb_t, bnd_t, wqj, wqa, cond_true, cond_false, Bool.not_true, Bool.not_false, Bool.true_or, Bool.or_true, Bool.false_or, Bool.or_false, Bool.true_and, Bool.and_true, Bool.false_and, Bool.and_false, wq2, wq0, wq5]
      rw [wq1ac k _ hcut.1 hcut.2, wqg1]
      rfl
theorem wq18e (k : Nat) {R : Type} (s : List UInt8) (hs : s.length ≤ 1000000) (hk : s.length < k) (K : List UInt8 → Bool → Option R) : wqgn k s K = stK s K (stS s k 0) := by
  unfold wqgn wqkj
  exact wq12v k s hs hk K k 0 (by omega) (by omega)
theorem wq18f {s : List UInt8} {e : Nat} (h : e < s.length) : s.take (e + 1) = s.take e ++ [s.getD e 0] := by
  rw [List.take_add_one, List.getElem?_eq_getElem h]
  simp [List.getD, h]
theorem wqp9 (k : Nat) {R : Type} (s : List UInt8) (hs : s.length ≤ 1000000) (K : List UInt8 → Bool → Option R) : ∀ (n e : Nat), e ≤ s.length → e < n →
    wq51 k n s (e : Int) K = K (rt (s.take e)) true := by
  intro n
  induction n with
  | zero => intro e _ h; omega
  | succ n ih =>
    intro e he hn
    rw [wq51]
    unfold wqbd
    cases e with
    | zero =>
      simp (disch := omega) only [dec_t, dec_f, ieq_t, ieq_f, ine_t, ine_f, inb_t, bnd_t, wqj, wqa, cond_true, cond_false, Bool.not_true, Bool.not_false, Bool.true_or, Bool.or_true, Bool.false_or, Bool.or_false, Bool.true_and, Bool.and_true, Bool.false_and, Bool.and_false, wq2, wq0, wq5]
      rfl
    | succ e =>
      have e1 : (((e + 1 : Nat) : Int) - 1) = (e : Int) := by omega
      simp (disch := omega) only [dec_t, dec_f, ieq_t, ieq_f, ine_t, ine_f, inb_t, bnd_t, wqj, wqa, cond_true, cond_false, Bool.not_true, Bool.not_false, Bool.true_or, Bool.or_true, Bool.false_or, Bool.or_false, Bool.true_and, Bool.and_true, Bool.false_and, Bool.and_false, wq2, wq0, wq5, e1, beq32]
      rw [wqg1, wq18f (by omega), rt_cat, ih e (by omega) (by omega)]
      cases (s.getD e 0 == 32) <;> rfl
theorem wq10m (k : Nat) {R : Type} (s : List UInt8) (hs : s.length ≤ 1000000) (hk : s.length < k) (K : List UInt8 → Bool → Option R) : ∀ (n i : Nat), i ≤ s.length → s.length < i + n →
    wq2w k n s (s.length : Int) (i : Int) K = stK s K (stS s n i) := by
  intro n
  induction n with
  | zero => intro i _ h; omega
  | succ n ih =>
    intro i hi hn
    rw [wq2w]
    unfold wq7r
    by_cases h : i < s.length
    · have hb := ble_f h
      rw [stS, hb, cond_false]
      have st1 := ih (i + 1) (by omega) (by omega)
      have c1 : ((i : Int) + 1) = ((i + 1 : Nat) : Int) := by omega
      have hfr : (bif (i : Int) == 0 then true else ((s.getD (IntKind.i64.wrap ((i : Int) - 1)).toNat 0).toNat : Int) == 32) = fresh s i := by
        by_cases h0 : i = 0
        · subst h0; rfl
        · have e0 : ((i : Int) - 1) = ((i - 1 : Nat) : Int) := by omega
          have e2 : (i == 0) = false := by simpa using h0
          simp (disch := omega) only [dec_t, dec_f, ieq_t, ieq_f, ine_t, ine_f, inb_t, bnd_t, wqj, wqa, cond_true, cond_false, Bool.not_true, Bool.not_false, Bool.true_or, Bool.or_true, Bool.false_or, Bool.or_false, Bool.true_and, Bool.and_true, Bool.false_and, Bool.and_false, wq2, wq0, wq5, e0, beq32]
          rw [fresh, e2, Bool.false_or]
      have hin : (!((i : Int) == 0) == false || inb (IntKind.i64.wrap ((i : Int) - 1)) (s.length : Int)) = true := by
        by_cases h0 : i = 0
        · subst h0; rfl
        · simp (disch := omega) only [dec_t, dec_f, ieq_t, ieq_f, ine_t, ine_f, inb_t, bnd_t, wqj, wqa, cond_true, cond_false, Bool.not_true, Bool.not_false, Bool.true_or, Bool.or_true, Bool.false_or, Bool.or_false, Bool.true_and, Bool.and_true, Bool.false_and, Bool.and_false, wq2, wq0, wq5]
      have hash : wq2w k n s (i : Int) (i : Int) K = K (rt (s.take i)) true := by
        obtain ⟨m, rfl⟩ : ∃ m, n = m + 1 := ⟨n - 1, by omega⟩
        rw [wq2w]
        unfold wq7r
        simp (disch := omega) only [dec_t, dec_f, ieq_t, ieq_f, ine_t, ine_f, inb_t, bnd_t, wqj, wqa, cond_true, cond_false, Bool.not_true, Bool.not_false, Bool.true_or, Bool.or_true, Bool.false_or, Bool.or_false, Bool.true_and, Bool.and_true, Bool.false_and, Bool.and_false, wq2, wq0, wq5]
        exact wqp9 k s hs K k i (by omega) (by omega)
      rw [hfr, hin]
      simp (disch := omega) only [dec_t, dec_f, ieq_t, ieq_f, ine_t, ine_f, inb_t, bnd_t, wqj, wqa, cond_true, cond_false, Bool.not_true, Bool.not_false, Bool.true_or, Bool.or_true, Bool.false_or, Bool.or_false, Bool.true_and, Bool.and_true, Bool.false_and, Bool.and_false, wq2, wq0, wq5, beq35, beq39, beq34]
      rw [hash, wq12u k s i hs h hk, c1, st1]
      have hq : qK (fun y8 y9 => bif !y9 then K [] false else wq2w k n s (s.length : Int) y8 K) 1 (qAt s i) = stK s K (match qAt s i with | some j => stS s n (j + 1) | none => none) := by
        cases hqa : qAt s i with
        | none => rfl
        | some j =>
          have hj := wq15x hqa
          simp only [qK, Bool.not_true, cond_false]
          have e : ((j : Int) + 1) = ((j + 1 : Nat) : Int) := by omega
          rw [e, ih (j + 1) (by omega) (by omega)]
      rw [hq]
      cases fresh s i <;> cases (s.getD i 0 == 35) <;> cases (s.getD i 0 == 39) <;> cases (s.getD i 0 == 34) <;> rfl
    · have hi' : i = s.length := by omega
      subst hi'
      rw [stS, ble_t (Nat.le_refl _), cond_true]
      simp (disch := omega) only [dec_t, dec_f, ieq_t, ieq_f, ine_t, ine_f, inb_t, bnd_t, wqj, wqa, cond_true, cond_false, Bool.not_true, Bool.not_false, Bool.true_or, Bool.or_true, Bool.false_or, Bool.or_false, Bool.true_and, Bool.and_true, Bool.false_and, Bool.and_false, wq2, wq0, wq5]
      exact wqp9 k s hs K k s.length (by omega) (by omega)
theorem wq15y (k : Nat) {R : Type} (s : List UInt8) (hs : s.length ≤ 1000000) (hk : s.length < k) (K : List UInt8 → Bool → Option R) : wqf4 k s K = stK s K (stS s k 0) := by
  unfold wqf4 wqi9
  exact wq10m k s hs hk K k 0 (by omega) (by omega)
abbrev Nd := Int × (Int × (List UInt8 × (Bool × (List (List UInt8) × List Int))))
abbrev kNd : Kd := .pr (.int .i64) (.pr (.int .i64) (.pr .str (.pr .bool (.pr (.sl .str) (.sl (.int .i64))))))
def anyK (t : List UInt8) : List (List UInt8) → Bool
  | [] => false
  | q :: r => (t == q) || anyK t r
theorem wq1ad (s : List UInt8) : ∀ (n m i : Nat), s.length < i + n → s.length < i + m → i ≤ s.length → stS s n i = stS s m i
  | 0, _, i, h, _, hi => by omega
  | _ + 1, 0, i, _, h, hi => by omega
  | n + 1, m + 1, i, h1, h2, hi => by
    rw [stS, stS]
    by_cases h : i < s.length
    · rw [ble_f h, cond_false, cond_false, wq1ad s n m (i + 1) (by omega) (by omega) (by omega)]
      cases hq : qAt s i with
      | none => rfl
      | some j =>
        have := wq15x hq
        dsimp only
        rw [wq1ad s n m (j + 1) (by omega) (by omega) (by omega)]
    · rw [ble_t (by omega)]; rfl
def ctl (c : UInt8) : Bool := decide (c.toNat < 32) || c == 127
def noCtl (s : List UInt8) : Bool := s.all fun c => !ctl c
def stripB (s : List UInt8) : Bool :=
  match stS s (s.length + 1) 0 with
  | some e => rt (s.take e) == s
  | none => false
def oneP (s : List UInt8) : List Pc → Bool
  | [p] => (p.1 == 3) && ((p.2.2.2.1 == s) && !p.2.2.2.2)
  | _ => false
def rowB (s : List UInt8) : Bool := ((rowR 0 0 s).2.1 == 0) && oneP s (rowR 0 0 s).1
def plainS (s : List UInt8) : Bool := noCtl s && (!(s == []) && (stripB s && rowB s))
def keyB (t : List UInt8) : Bool := (t.all sgn && !(t == [])) && decide (t.length ≤ 64)
def keysB : List (List UInt8) → List (List UInt8) → Bool
  | _, [] => true
  | l, t :: r => keyB t && (!anyK t l && keysB (l ++ [t]) r)
def fitN (x : Nd) : Bool :=
  bif x.1 == 1 then (x.2.2.2.2.1 == []) && ((x.2.2.2.2.2 == []) && (decide (x.2.2.1.length ≤ 200) && (x.2.2.2.1 || plainS x.2.2.1)))
  else bif x.1 == 2 then (x.2.2.2.2.1 == []) && (!(x.2.2.2.2.2 == []) && ((x.2.2.1 == []) && !x.2.2.2.1))
  else bif x.1 == 3 then decide (x.2.2.2.2.1.length = x.2.2.2.2.2.length) && (!(x.2.2.2.2.2 == []) && ((x.2.2.1 == []) && (!x.2.2.2.1 && keysB [] x.2.2.2.2.1)))
  else false
def kidsW (w : Nat → Option Nat) : List Int → Nat → Option Nat
  | [], next => some next
  | k :: r, next => bif k == (next : Int) then match w next with
      | none => none
      | some m => kidsW w r m
    else none
def walkS : Nat → List Nd → Nat → Option Nat
  | 0, _, _ => none
  | f + 1, nd, n => match nd[n]? with
    | none => none
    | some x => bif fitN x then kidsW (walkS f nd) x.2.2.2.2.2 (n + 1) else none
def checkS (nd : List Nd) : Bool := decide (1 ≤ nd.length) && (decide (nd.length ≤ 2000) && (walkS 24 nd 0 == some nd.length))
def blS (n : Nat) : List UInt8 := List.replicate n 32
def escB (c : UInt8) : List UInt8 :=
  bif c == 92 || c == 34 then [92, c] else bif c == 10 then [92, 110] else bif c == 9 then [92, 116] else bif decide (c.toNat < 32) || c == 127 then [92, 120, hexL.getD (c.toNat / 16) 0, hexL.getD (c.toNat % 16) 0] else [c]
def escS : List UInt8 → List UInt8
  | [] => []
  | c :: r => escB c ++ escS r
def quoS (s : List UInt8) : List UInt8 := 34 :: (escS s ++ [34])
def txtN (x : Nd) : List UInt8 := bif x.2.2.2.1 then quoS x.2.2.1 else x.2.2.1
def isT (nd : List Nd) (n : Nat) : Bool :=
  match nd[n]? with
  | some x => x.1 == 1
  | none => false
def lstS (g : Nat → List UInt8) (col : Nat) : Bool → List Int → List UInt8
  | _, [] => []
  | first, k :: r => (bif first then [] else blS col) ++ (45 :: 32 :: g k.toNat) ++ lstS g col false r
def mapS (g : Nat → List UInt8) (t : Nat → Bool) (col : Nat) : Bool → List (List UInt8) → List Int → List UInt8
  | first, key :: keys, k :: r => (bif first then [] else blS col) ++ key ++ (58 :: (bif t k.toNat then [32] else 10 :: blS (col + 2))) ++ g k.toNat ++ mapS g t col false keys r
  | _, _, _ => []
def textS : Nat → List Nd → Nat → Nat → List UInt8
  | 0, _, _, _ => []
  | f + 1, nd, n, col => match nd[n]? with
    | none => []
    | some x => bif x.1 == 1 then txtN x ++ [10] else bif x.1 == 2 then lstS (fun k => textS f nd k (col + 2)) col true x.2.2.2.2.2
      else mapS (fun k => textS f nd k (col + 2)) (isT nd) col true x.2.2.2.2.1 x.2.2.2.2.2
def sameN (x y : Nd) : Bool := (x.1 == y.1) && ((x.2.2.1 == y.2.2.1) && ((x.2.2.2.1 == y.2.2.2.1) && ((x.2.2.2.2.1 == y.2.2.2.2.1) && (x.2.2.2.2.2 == y.2.2.2.2.2))))
def sameS : List Nd → List Nd → Bool
  | [], [] => true
  | x :: r, y :: s => sameN x y && sameS r s
  | _, _ => false
theorem wq18g {w : Nat → Option Nat} (hw : ∀ n m, w n = some m → n < m) : ∀ (l : List Int) (n m : Nat), kidsW w l n = some m → n + l.length ≤ m
  | [], n, m, h => by rw [kidsW] at h; cases h; simp
  | k :: r, n, m, h => by
    rw [kidsW] at h
    cases h1 : k == (n : Int) with
    | false => rw [h1] at h; cases h
    | true =>
      rw [h1, cond_true] at h
      cases h2 : w n with
      | none => rw [h2] at h; cases h
      | some j =>
        rw [h2] at h
        have := hw n j h2
        have := wq18g hw r j m h
        rw [List.length_cons]; omega
theorem wq10n {f : Nat} {nd : List Nd} {n m : Nat} (h : walkS (f + 1) nd n = some m) : ∃ x, nd[n]? = some x ∧ fitN x = true ∧ kidsW (walkS f nd) x.2.2.2.2.2 (n + 1) = some m := by
  rw [walkS] at h
  cases hx : nd[n]? with
  | none => rw [hx] at h; cases h
  | some x =>
    rw [hx] at h
    dsimp only at h
    cases hf : fitN x with
    | false => rw [hf] at h; cases h
    | true => rw [hf, cond_true] at h; exact ⟨x, rfl, hf, h⟩
theorem wq10o : ∀ (f : Nat) (nd : List Nd) (n m : Nat), walkS f nd n = some m → n < m
  | 0, nd, n, m, h => by rw [walkS] at h; cases h
  | f + 1, nd, n, m, h => by
    obtain ⟨x, _, _, h⟩ := wq10n h
    have := wq18g (fun a b => wq10o f nd a b) _ _ _ h
    omega
theorem wq1e5 {w : Nat → Option Nat} {L : Nat} (hw : ∀ n m, w n = some m → m ≤ L) : ∀ (l : List Int) (n m : Nat), n ≤ L → kidsW w l n = some m → m ≤ L
  | [], n, m, hn, h => by rw [kidsW] at h; cases h; exact hn
  | k :: r, n, m, hn, h => by
    rw [kidsW] at h
    cases h1 : k == (n : Int) with
    | false => rw [h1] at h; cases h
    | true =>
      rw [h1, cond_true] at h
      cases h2 : w n with
      | none => rw [h2] at h; cases h
      | some j =>
        rw [h2] at h
        exact wq1e5 hw r j m (hw n j h2) h
theorem wqrf : ∀ (f : Nat) (nd : List Nd) (n m : Nat), walkS f nd n = some m → m ≤ nd.length
  | 0, nd, n, m, h => by rw [walkS] at h; cases h
  | f + 1, nd, n, m, h => by
    obtain ⟨x, hx, _, h⟩ := wq10n h
    have := (List.getElem?_eq_some_iff.1 hx).1
    exact wq1e5 (fun a b => wqrf f nd a b) _ _ _ (by omega) h
theorem wq1ae (c : UInt8) : (escB c).length ≤ 4 := by
  unfold escB
  cases (c == 92 || c == 34) <;> simp only [cond_true, cond_false]
  · cases c == 10 <;> simp only [cond_true, cond_false]
    · cases c == 9 <;> simp only [cond_true, cond_false]
      · cases (decide (c.toNat < 32) || c == 127) <;> simp
      · simp
    · simp
  · simp
theorem wq1e6 : ∀ s : List UInt8, (escS s).length ≤ 4 * s.length
  | [] => by simp [escS]
  | c :: r => by
    have := wq1ae c
    have := wq1e6 r
    rw [escS, List.length_append, List.length_cons]; omega
theorem wq15z {x : Nd} (h : fitN x = true) (h1 : (x.1 == 1) = true) : x.2.2.2.2.1 = [] ∧ x.2.2.2.2.2 = [] ∧ x.2.2.1.length ≤ 200 ∧ (x.2.2.2.1 = true ∨ plainS x.2.2.1 = true) := by
  unfold fitN at h
  rw [h1, cond_true] at h
  simp only [Bool.and_eq_true, beq_iff_eq, decide_eq_true_eq, Bool.or_eq_true] at h
  exact h
theorem wq1hl {x : Nd} (h : fitN x = true) (h1 : (x.1 == 2) = true) : x.2.2.2.2.1 = [] ∧ x.2.2.2.2.2 ≠ [] ∧ x.2.2.1 = [] ∧ x.2.2.2.1 = false := by
  unfold fitN at h
  have e : x.1 = 2 := by simpa using h1
  have e2 : ((2 : Int) == 1) = false := rfl
  rw [e, e2, cond_false] at h
  have e3 : ((2 : Int) == 2) = true := rfl
  rw [e3, cond_true] at h
  simp only [Bool.and_eq_true, beq_iff_eq, Bool.not_eq_true', beq_eq_false_iff_ne] at h
  exact h
theorem wq1af {x : Nd} (h : fitN x = true) (h1 : (x.1 == 1) = false) (h2 : (x.1 == 2) = false) : x.1 = 3 ∧ x.2.2.2.2.1.length = x.2.2.2.2.2.length ∧ x.2.2.2.2.2 ≠ [] ∧ x.2.2.1 = [] ∧ x.2.2.2.1 = false ∧ keysB [] x.2.2.2.2.1 = true := by
  unfold fitN at h
  rw [h1, h2, cond_false, cond_false] at h
  cases h3 : x.1 == 3 with
  | false => rw [h3] at h; cases h
  | true =>
    rw [h3, cond_true] at h
    simp only [Bool.and_eq_true, beq_iff_eq, Bool.not_eq_true', beq_eq_false_iff_ne, decide_eq_true_eq] at h
    exact ⟨by simpa using h3, h⟩
theorem wqt9 : ∀ (l r : List (List UInt8)), keysB l r = true → ∀ t ∈ r, keyB t = true
  | l, [], h, t, ht => by cases ht
  | l, q :: r, h, t, ht => by
    rw [keysB] at h
    simp only [Bool.and_eq_true] at h
    rcases List.mem_cons.1 ht with rfl | ht
    · exact h.1
    · exact wqt9 _ r h.2.2 t ht
theorem wq1ag {x : Nd} (h : x.2.2.1.length ≤ 200) : (txtN x).length ≤ 802 := by
  unfold txtN quoS
  have := wq1e6 x.2.2.1
  cases x.2.2.2.1 <;> simp <;> omega
theorem wq10p {g : Nat → List UInt8} {w : Nat → Option Nat} {col : Nat} (hc : col ≤ 60) (hg : ∀ n m, w n = some m → n < m ∧ (g n).length + 200 ≤ 1100 * (m - n)) :
    ∀ (l : List Int) (b : Bool) (n m : Nat), kidsW w l n = some m → n ≤ m ∧ (lstS g col b l).length ≤ 1100 * (m - n)
  | [], b, n, m, h => by rw [kidsW] at h; cases h; simp [lstS]
  | k :: r, b, n, m, h => by
    rw [kidsW] at h
    cases h1 : k == (n : Int) with
    | false => rw [h1] at h; cases h
    | true =>
      rw [h1, cond_true] at h
      cases h2 : w n with
      | none => rw [h2] at h; cases h
      | some j =>
        rw [h2] at h
        have e : k = (n : Int) := by simpa using h1
        subst e
        obtain ⟨i1, i2⟩ := hg n j h2
        obtain ⟨i3, i4⟩ := wq10p hc hg r false j m h
        have hb : (bif b then [] else blS col).length ≤ 60 := by cases b <;> simp [blS] <;> omega
        rw [lstS, Int.toNat_natCast]
        simp only [List.length_append, List.length_cons]
        omega
theorem wq1fg {g : Nat → List UInt8} {t : Nat → Bool} {w : Nat → Option Nat} {col : Nat} (hc : col ≤ 60) (hg : ∀ n m, w n = some m → n < m ∧ (g n).length + 200 ≤ 1100 * (m - n)) :
    ∀ (l : List Int) (keys : List (List UInt8)) (b : Bool) (n m : Nat), kidsW w l n = some m → (∀ q ∈ keys, q.length ≤ 64) → n ≤ m ∧ (mapS g t col b keys l).length ≤ 1100 * (m - n)
  | [], keys, b, n, m, h, hk => by rw [kidsW] at h; cases h; cases keys <;> simp [mapS]
  | k :: r, [], b, n, m, h, hk => by
    rw [mapS]
    · rw [kidsW] at h
      cases h1 : k == (n : Int) with
      | false => rw [h1] at h; cases h
      | true =>
        rw [h1, cond_true] at h
        cases h2 : w n with
        | none => rw [h2] at h; cases h
        | some j =>
          rw [h2] at h
          have := (hg n j h2).1
          have := (wq10p (g := g) (col := 0) (by omega) hg r false j m h).1
          simp; omega
    · intro _ _ _ _ h _; cases h
  | k :: r, key :: keys, b, n, m, h, hk => by
    rw [kidsW] at h
    cases h1 : k == (n : Int) with
    | false => rw [h1] at h; cases h
    | true =>
      rw [h1, cond_true] at h
      cases h2 : w n with
      | none => rw [h2] at h; cases h
      | some j =>
        rw [h2] at h
        have e : k = (n : Int) := by simpa using h1
        subst e
        obtain ⟨i1, i2⟩ := hg n j h2
        obtain ⟨i3, i4⟩ := wq1fg (t := t) hc hg r keys false j m h fun q hq => hk q (List.mem_cons_of_mem _ hq)
        have hb : (bif b then [] else blS col).length ≤ 60 := by cases b <;> simp [blS] <;> omega
        have hb2 : (bif t n then [32] else 10 :: blS (col + 2)).length ≤ 63 := by cases t n <;> simp [blS] <;> omega
        have hq := hk key (by simp)
        rw [mapS, Int.toNat_natCast]
        simp only [List.length_append, List.length_cons]
        omega
theorem wq160 : ∀ (f : Nat) (nd : List Nd) (n m col : Nat), walkS f nd n = some m → col + 2 * f ≤ 60 → n < m ∧ (textS f nd n col).length + 200 ≤ 1100 * (m - n)
  | 0, nd, n, m, col, h, hc => by rw [walkS] at h; cases h
  | f + 1, nd, n, m, col, h, hc => by
    have hlt := wq10o _ _ _ _ h
    obtain ⟨x, hx, hf, h⟩ := wq10n h
    refine ⟨hlt, ?_⟩
    rw [textS, hx]
    dsimp only
    cases h1 : x.1 == 1 with
    | true =>
      obtain ⟨_, _, hl, _⟩ := wq15z hf h1
      have := wq1ag hl
      rw [cond_true, List.length_append]
      simp; omega
    | false =>
      rw [cond_false]
      cases h2 : x.1 == 2 with
      | true =>
        rw [cond_true]
        obtain ⟨i1, i2⟩ := wq10p (g := fun k => textS f nd k (col + 2)) (w := walkS f nd) (col := col) (by omega) (fun a b hab => wq160 f nd a b (col + 2) hab (by omega)) _ true _ _ h
        omega
      | false =>
        rw [cond_false]
        obtain ⟨_, _, _, _, _, hk⟩ := wq1af hf h1 h2
        obtain ⟨i1, i2⟩ := wq1fg (g := fun k => textS f nd k (col + 2)) (t := isT nd) (w := walkS f nd) (col := col) (by omega) (fun a b hab => wq160 f nd a b (col + 2) hab (by omega)) _ x.2.2.2.2.1 true _ _ h (fun q hq => by
          have := wqt9 _ _ hk q hq
          simp only [keyB, Bool.and_eq_true, decide_eq_true_eq] at this
          exact this.2)
        omega
theorem ctl_at (c : UInt8) : (bif decide ((c.toNat : Int) < 32) then true else (c.toNat : Int) == 127) = ctl c := by
  have e5 : ((c.toNat : Int) == 127) = (c == 127) := u8_beq c 127 (by omega)
  have e6 : decide ((c.toNat : Int) < 32) = decide (c.toNat < 32) := by rw [Bool.eq_iff_iff]; simp; omega
  rw [e5, e6, Bool.cond_true_left]; rfl
theorem wq1bj {R : Type} (k : Nat) (s : List UInt8) (hs : s.length ≤ 200) (hk : 300 < k) (K : List UInt8 → Bool → Option R) : stK s K (stS s k 0) = stK s K (stS s (s.length + 1) 0) := by
  rw [wq1ad s k (s.length + 1) 0 (by omega) (by omega) (by omega)]
theorem wqpa (k : Nat) {R : Type} (s : List UInt8) (hs : s.length ≤ 200) (hk : 300 < k) (K : Bool → Option R) : ∀ (t : List UInt8) (n m : Nat), s.drop n = t → t.length < m → n ≤ s.length →
    wq4r k m s (s.length : Int) (n : Int) K = K (noCtl t && (!(s == []) && (stripB s && rowB s)))
  | t, n, 0, _, hm, _ => by omega
  | [], n, m + 1, hd, hm, hn => by
    have := wq2l hd
    rw [wq4r, wqa6, wq18e k s (by omega) (by omega), wq1bj k s hs hk]
    simp (disch := omega) only [dec_t, dec_f, ieq_t, ieq_f, ine_t, ine_f, inb_t, bnd_t, wqj, wqa, cond_true, cond_false, Bool.not_true, Bool.not_false, Bool.true_or, Bool.or_true, Bool.false_or, Bool.or_false, Bool.true_and, Bool.and_true, Bool.false_and, Bool.and_false, wq2, wq0, wq5]
    have e0 : noCtl [] = true := rfl
    rw [e0, Bool.true_and]
    unfold stripB
    cases hst : stS s (s.length + 1) 0 with
    | none => simp only [stK]; cases s == [] <;> rfl
    | some e =>
      simp only [stK]
      cases h1 : s == [] with
      | true => rfl
      | false =>
        cases h2 : rt (s.take e) == s with
        | false => rfl
        | true =>
          simp only [Bool.not_true, Bool.not_false, cond_true, cond_false, Bool.true_and]
          rw [wq1e0 k 0 0 s _ (by omega) (by omega)]
          unfold rowB
          obtain ⟨l, a, b⟩ := rowR 0 0 s
          dsimp only
          cases h3 : a == 0 with
          | false => rfl
          | true =>
            match l with
            | [] => rfl
            | [p] =>
              have e1 : ((([p] : List Pc).length : Int) == 1) = true := rfl
              have e2 : inb 0 (([p] : List Pc).length : Int) = true := rfl
              have e3 : ∀ z, ([p] : List Pc).getD (Int.toNat 0) z = p := fun _ => rfl
              simp only [e1, e2, e3, cond_true, Bool.or_true, oneP, Bool.true_and]
              cases p.1 == 3 <;> cases p.2.2.2.1 == s <;> rfl
            | p :: q :: r =>
              have e1 : (((p :: q :: r : List Pc).length : Int) == 1) = false := ieq_f (by simp; omega)
              simp only [e1, cond_true, cond_false]
              rfl
  | c :: r, n, m + 1, hd, hm, hn => by
    obtain ⟨hlt, hc, hr⟩ := wqv hd
    rw [wq4r, wqa6]
    simp (disch := omega) only [dec_t, dec_f, ieq_t, ieq_f, ine_t, ine_f, inb_t, bnd_t, wqj, wqa, cond_true, cond_false, Bool.not_true, Bool.not_false, Bool.true_or, Bool.or_true, Bool.false_or, Bool.or_false, Bool.true_and, Bool.and_true, Bool.false_and, Bool.and_false, wq2, wq0, wq5, hc, ctl_at, wq1w]
    have e0 : noCtl (c :: r) = (!ctl c && noCtl r) := rfl
    rw [e0]
    cases ctl c with
    | true => rfl
    | false =>
      simp only [cond_false, Bool.not_false, Bool.true_and]
      exact wqpa k s hs hk K r (n + 1) m hr (by simp at hm; omega) (by omega)
theorem wq18h (k : Nat) {R : Type} (s : List UInt8) (hs : s.length ≤ 200) (hk : 300 < k) (K : Bool → Option R) : wqgo k s K = K (plainS s) := by
  unfold wqgo wqkl
  exact wqpa k s hs hk K s 0 k rfl (by omega) (by omega)
theorem wqnk (k : Nat) {R : Type} (s : List UInt8) (hs : s.length ≤ 200) (hk : 300 < k) (K : Bool → Option R) : ∀ (t : List UInt8) (n m : Nat), s.drop n = t → t.length < m → n ≤ s.length →
    wq4g k m s (n : Int) K = K (noCtl t && (stripB s && rowB s))
  | t, n, 0, _, hm, _ => by omega
  | [], n, m + 1, hd, hm, hn => by
    have := wq2l hd
    rw [wq4g, wq9d, wq15y k s (by omega) (by omega), wq1bj k s hs hk]
    simp (disch := omega) only [dec_t, dec_f, ieq_t, ieq_f, ine_t, ine_f, inb_t, bnd_t, wqj, wqa, cond_true, cond_false, Bool.not_true, Bool.not_false, Bool.true_or, Bool.or_true, Bool.false_or, Bool.or_false, Bool.true_and, Bool.and_true, Bool.false_and, Bool.and_false, wq2, wq0, wq5]
    have e0 : noCtl [] = true := rfl
    rw [e0, Bool.true_and]
    unfold stripB
    cases hst : stS s (s.length + 1) 0 with
    | none => simp only [stK]; rw [wq10k k 0 0 s _ (by omega) (by omega)]; rfl
    | some e =>
      simp only [stK]
      rw [wq10k k 0 0 s _ (by omega) (by omega)]
      cases h2 : rt (s.take e) == s with
      | false => rfl
      | true =>
        unfold rowB
        obtain ⟨l, a, b⟩ := rowR 0 0 s
        dsimp only
        cases h3 : a == 0 with
        | false => rfl
        | true =>
          match l with
          | [] => rfl
          | [p] =>
            have e1 : ((([p] : List Pc).length : Int) == 1) = true := rfl
            have e2 : inb 0 (([p] : List Pc).length : Int) = true := rfl
            have e3 : ∀ z, ([p] : List Pc).getD (Int.toNat 0) z = p := fun _ => rfl
            simp only [e1, e2, e3, cond_true, Bool.or_true, oneP, Bool.true_and]
            cases p.1 == 3 <;> cases p.2.2.2.1 == s <;> rfl
          | p :: q :: r =>
            have e1 : (((p :: q :: r : List Pc).length : Int) == 1) = false := ieq_f (by simp; omega)
            simp only [e1, cond_true, cond_false]
            rfl
  | c :: r, n, m + 1, hd, hm, hn => by
    obtain ⟨hlt, hc, hr⟩ := wqv hd
    rw [wq4g, wq9d]
    simp (disch := omega) only [dec_t, dec_f, ieq_t, ieq_f, ine_t, ine_f, inb_t, bnd_t, wqj, wqa, cond_true, cond_false, Bool.not_true, Bool.not_false, Bool.true_or, Bool.or_true, Bool.false_or, Bool.or_false, Bool.true_and, Bool.and_true, Bool.false_and, Bool.and_false, wq2, wq0, wq5, hc, ctl_at, wq1w]
    have e0 : noCtl (c :: r) = (!ctl c && noCtl r) := rfl
    rw [e0]
    cases ctl c with
    | true => rfl
    | false =>
      simp only [cond_false, Bool.not_false, Bool.true_and]
      exact wqnk k s hs hk K r (n + 1) m hr (by simp at hm; omega) (by omega)
theorem wq161 (k : Nat) {R : Type} (s : List UInt8) (hs : s.length ≤ 200) (hk : 300 < k) (K : Bool → Option R) : wqf5 k s K = K (plainS s) := by
  unfold wqf5 wqia plainS
  have h0 : decide ((s.length : Int) > 200) = false := dec_f (by omega)
  rw [h0]
  cases h1 : s == [] with
  | true => simp only [cond_true, Bool.not_true, Bool.false_and, Bool.and_false]
  | false =>
    simp only [cond_false, Bool.not_false, Bool.true_and]
    exact wqnk k s hs hk K s 0 k rfl (by omega) (by omega)
theorem wq1bk (t q : List UInt8) : ∀ l : List (List UInt8), anyK t (l ++ [q]) = (anyK t l || (t == q))
  | [] => by simp [anyK]
  | x :: l => by rw [List.cons_append, anyK, anyK, wq1bk t q l, Bool.or_assoc]
theorem wq1bl (key t : List UInt8) : ∀ es : List (List UInt8 × Bool), mget .bool t (mset .bool key true es) = (mget .bool t es || (t == key))
  | [] => by
    rw [mset, mget, mget]
    cases t == key <;> rfl
  | (k, x) :: r => by
    rw [mset]
    cases h1 : key == k with
    | true =>
      have : key = k := by simpa using h1
      subst this
      rw [cond_true, mget, mget]
      cases t == key <;> simp
    | false =>
      rw [cond_false, mget, mget, wq1bl key t r]
      cases h2 : t == k with
      | false => rfl
      | true =>
        have : t = k := by simpa using h2
        subst this
        have : (t == key) = false := by
          rw [beq_eq_false_iff_ne] at h1 ⊢
          exact fun e => h1 e.symm
        rw [this]; simp
theorem wqpb (k : Nat) {R : Type} (keys : List (List UInt8)) (hk : keys.length ≤ 4000) (hq : ∀ q ∈ keys, q.length ≤ 4000) (hk2 : 5000 < k) (K : Bool → Option R) : ∀ (t : List (List UInt8)) (n m : Nat) (es : List (List UInt8 × Bool)) (l : List (List UInt8)),
    keys.drop n = t → t.length < m → n ≤ keys.length → (∀ q, mget .bool q es = anyK q l) → wq4q k m es keys (keys.length : Int) (n : Int) K = K (keysB l t)
  | t, n, 0, es, l, _, hm, _, _ => by omega
  | [], n, m + 1, es, l, hd, hm, hn, he => by
    have := wq2l hd
    rw [wq4q, wqa2]
    simp (disch := omega) only [dec_t, dec_f, ieq_t, ieq_f, ine_t, ine_f, inb_t, bnd_t, wqj, wqa, cond_true, cond_false, Bool.not_true, Bool.not_false, Bool.true_or, Bool.or_true, Bool.false_or, Bool.or_false, Bool.true_and, Bool.and_true, Bool.false_and, Bool.and_false, wq2, wq0, wq5]
    rfl
  | c :: r, n, m + 1, es, l, hd, hm, hn, he => by
    obtain ⟨hlt, hc, hr⟩ := wqv hd
    have hcl := hq c (List.mem_of_mem_drop (by rw [hd]; simp))
    rw [wq4q, wqa2]
    simp (disch := omega) only [dec_t, dec_f, ieq_t, ieq_f, ine_t, ine_f, inb_t, bnd_t, wqj, wqa, cond_true, cond_false, Bool.not_true, Bool.not_false, Bool.true_or, Bool.or_true, Bool.false_or, Bool.or_false, Bool.true_and, Bool.and_true, Bool.false_and, Bool.and_false, wq2, wq0, wq5, hc, wq1w]
    rw [wqrc k c _ (by omega) (by omega), keysB, keyB]
    cases h1 : (c.all sgn && !(c == [])) with
    | false => rfl
    | true =>
      by_cases h2 : (c.length : Int) > 64
      · have h3 : decide (c.length ≤ 64) = false := dec_f (by omega)
        rw [dec_t h2, h3]; rfl
      · have h3 : decide (c.length ≤ 64) = true := dec_t (by omega)
        rw [dec_f h2, h3]
        simp only [Bool.not_true, cond_false, wq0, Bool.not_false, cond_true, Bool.true_and, he]
        cases h4 : anyK c l with
        | true => rfl
        | false =>
          simp only [cond_false, Bool.not_false, Bool.true_and]
          exact wqpb k keys hk hq hk2 K r (n + 1) m _ (l ++ [c]) hr (by simp at hm; omega) (by omega) (fun q => by rw [wq1bl, he, wq1bk])
theorem wq18i (k : Nat) {R : Type} (keys : List (List UInt8)) (hk : keys.length ≤ 4000) (hq : ∀ q ∈ keys, q.length ≤ 4000) (hk2 : 5000 < k) (K : Bool → Option R) : wqgc k keys K = K (keysB [] keys) := by
  unfold wqgc wqk5
  exact wqpb k keys hk hq hk2 K keys 0 k [] [] rfl (by omega) (by omega) (fun _ => rfl)
theorem wqta (k : Nat) {R : Type} (s : List UInt8) (hs : s.length ≤ 200) (K : Bool → Option R) : ∀ (t : List UInt8) (n m : Nat), s.drop n = t → t.length < m → n ≤ s.length → wq5k k m s (n : Int) K = K (t.all sgn)
  | t, n, 0, _, hm, _ => by omega
  | [], n, m + 1, hd, hm, hn => by
    have := wq2l hd
    rw [wq5k, wqb3]
    simp (disch := omega) only [dec_t, dec_f, ieq_t, ieq_f, ine_t, ine_f, inb_t, bnd_t, wqj, wqa, cond_true, cond_false, Bool.not_true, Bool.not_false, Bool.true_or, Bool.or_true, Bool.false_or, Bool.or_false, Bool.true_and, Bool.and_true, Bool.false_and, Bool.and_false, wq2, wq0, wq5]
    rfl
  | c :: r, n, m + 1, hd, hm, hn => by
    obtain ⟨hlt, hc, hr⟩ := wqv hd
    rw [wq5k, wqb3]
    simp (disch := omega) only [dec_t, dec_f, ieq_t, ieq_f, ine_t, ine_f, inb_t, bnd_t, wqj, wqa, cond_true, cond_false, Bool.not_true, Bool.not_false, Bool.true_or, Bool.or_true, Bool.false_or, Bool.or_false, Bool.true_and, Bool.and_true, Bool.false_and, Bool.and_false, wq2, wq0, wq5, hc, wq1w, wqvi]
    have e : sgnI (c.toNat : Int) = sgn c := rfl
    rw [e, List.all_cons]
    cases sgn c with
    | false => rfl
    | true =>
      simp only [Bool.not_true, cond_false, Bool.true_and]
      exact wqta k s hs K r (n + 1) m hr (by simp at hm; omega) (by omega)
theorem wq1ah (k : Nat) {R : Type} (s : List UInt8) (hk : 300 < k) (K : Bool → Option R) : wqjw k s K = K (keyB s) := by
  unfold wqjw wqnw keyB
  cases h1 : s == [] with
  | true => simp only [cond_true, Bool.not_true, Bool.and_false, Bool.false_and]
  | false =>
    by_cases h : s.length > 64
    · have h3 : decide (s.length ≤ 64) = false := dec_f (by omega)
      have h4 : decide ((s.length : Int) > 64) = true := dec_t (by omega)
      rw [h3, h4]
      simp only [cond_false, cond_true, Bool.and_false]
    · have h3 : decide (s.length ≤ 64) = true := dec_t (by omega)
      have h4 : decide ((s.length : Int) > 64) = false := dec_f (by omega)
      rw [h3, h4]
      simp only [cond_false, Bool.not_false, Bool.and_true]
      exact wqta k s (by omega) K s 0 k rfl (by omega) (by omega)
theorem wqvk (k : Nat) {R : Type} (keys : List (List UInt8)) (hk : keys.length ≤ 4000) (J : List (List UInt8) → Int → Option R) (K : Bool → Option R) (i : Nat) (c : List UInt8) (hi : i < keys.length) (hc : ∀ d, keys.getD i d = c) : ∀ (t : List (List UInt8)) (n m : Nat),
    (keys.take i).drop n = t → t.length < m → n ≤ i → wq43 k J m keys (i : Int) (n : Int) K = bif anyK c t then K false else J keys (((i : Nat) + 1 : Nat) : Int)
  | t, n, 0, _, hm, _ => by omega
  | [], n, m + 1, hd, hm, hn => by
    have h0 := wq2l hd
    rw [List.length_take] at h0
    rw [wq43, wqad]
    simp (disch := omega) only [dec_t, dec_f, ieq_t, ieq_f, ine_t, ine_f, inb_t, bnd_t, wqj, wqa, cond_true, cond_false, Bool.not_true, Bool.not_false, Bool.true_or, Bool.or_true, Bool.false_or, Bool.or_false, Bool.true_and, Bool.and_true, Bool.false_and, Bool.and_false, wq2, wq0, wq5, wq1w]
    rfl
  | q :: r, n, m + 1, hd, hm, hn => by
    obtain ⟨hlt, hq, hr⟩ := wqv hd
    rw [List.length_take] at hlt
    have hq' : ∀ d, keys.getD n d = q := by
      intro d
      have := hq d
      rw [List.getD, List.getElem?_take, if_pos (by omega)] at this
      exact this
    rw [wq43, wqad]
    simp (disch := omega) only [dec_t, dec_f, ieq_t, ieq_f, ine_t, ine_f, inb_t, bnd_t, wqj, wqa, cond_true, cond_false, Bool.not_true, Bool.not_false, Bool.true_or, Bool.or_true, Bool.false_or, Bool.or_false, Bool.true_and, Bool.and_true, Bool.false_and, Bool.and_false, wq2, wq0, wq5, wq1w, hq', hc]
    rw [anyK]
    have e : (q == c) = (c == q) := by rw [Bool.eq_iff_iff]; simp; exact eq_comm
    rw [e]
    cases c == q with
    | true => rfl
    | false =>
      simp only [cond_false, Bool.false_or]
      exact wqvk k keys hk J K i c hi hc r (n + 1) m hr (by simp at hm; omega) (by omega)
theorem wqpc (k : Nat) {R : Type} (keys : List (List UInt8)) (hk : keys.length ≤ 4000) (hk2 : 5000 < k) (K : Bool → Option R) : ∀ (t : List (List UInt8)) (n m : Nat),
    keys.drop n = t → t.length < m → n ≤ keys.length → wq3i k m keys (n : Int) K = K (keysB (keys.take n) t)
  | t, n, 0, _, hm, _ => by omega
  | [], n, m + 1, hd, hm, hn => by
    have := wq2l hd
    rw [wq3i, wqac]
    simp (disch := omega) only [dec_t, dec_f, ieq_t, ieq_f, ine_t, ine_f, inb_t, bnd_t, wqj, wqa, cond_true, cond_false, Bool.not_true, Bool.not_false, Bool.true_or, Bool.or_true, Bool.false_or, Bool.or_false, Bool.true_and, Bool.and_true, Bool.false_and, Bool.and_false, wq2, wq0, wq5]
    rfl
  | c :: r, n, m + 1, hd, hm, hn => by
    obtain ⟨hlt, hc, hr⟩ := wqv hd
    rw [wq3i, wqac]
    simp (disch := omega) only [dec_t, dec_f, ieq_t, ieq_f, ine_t, ine_f, inb_t, bnd_t, wqj, wqa, cond_true, cond_false, Bool.not_true, Bool.not_false, Bool.true_or, Bool.or_true, Bool.false_or, Bool.or_false, Bool.true_and, Bool.and_true, Bool.false_and, Bool.and_false, wq2, wq0, wq5, hc, wq1w]
    rw [wq1ah k c (by omega), keysB]
    cases h1 : keyB c with
    | false => rfl
    | true =>
      simp only [Bool.not_true, cond_false, Bool.true_and]
      have := wqvk k keys hk (fun s0 s1 => wq3i k m s0 s1 K) K n c hlt hc (keys.take n) 0 k rfl (by simp; omega) (by omega)
      refine Eq.trans this ?_
      cases h4 : anyK c (keys.take n) with
      | true => rfl
      | false =>
        simp only [cond_false, Bool.not_false, Bool.true_and]
        have e : keys.take n ++ [c] = keys.take (n + 1) := by
          have hg : keys[n]? = some c := by
            have := hc []
            rw [List.getD, List.getElem?_eq_getElem hlt] at this
            rw [List.getElem?_eq_getElem hlt]
            exact congrArg some this
          rw [List.take_add_one, hg]; rfl
        rw [e]
        exact wqpc k keys hk hk2 K r (n + 1) m hr (by simp at hm; omega) (by omega)
theorem wq18j (k : Nat) {R : Type} (keys : List (List UInt8)) (hk : keys.length ≤ 4000) (hk2 : 5000 < k) (K : Bool → Option R) : wqgz k keys K = K (keysB [] keys) := by
  unfold wqgz wqkz
  exact wqpc k keys hk hk2 K keys 0 k rfl (by omega) (by omega)
def okD (x : Nd) : Prop := x.2.2.1.length ≤ 4000 ∧ x.2.2.2.2.1.length ≤ 4000 ∧ x.2.2.2.2.2.length ≤ 4000 ∧ ∀ q ∈ x.2.2.2.2.1, q.length ≤ 4000
theorem len0 {α : Type} (l : List α) [BEq α] : ((l.length : Int) == 0) = (l == []) := by
  cases l with
  | nil => rfl
  | cons x r => exact ieq_f (by simp <;> omega)
theorem lenP {α : Type} (l : List α) [BEq α] : decide ((l.length : Int) > 0) = !(l == []) := by
  cases l with
  | nil => rfl
  | cons x r => exact dec_t (by simp <;> omega)
theorem lenE {a b : Nat} : ((a : Int) == (b : Int)) = decide (a = b) := by
  rw [Bool.eq_iff_iff]; simp; omega
theorem wq1cg (k : Nat) {R : Type} (x : Nd) (hx : okD x) (hk : 5000 < k) (K : Bool → Option R) : wqmu k x.1 x.2.1 x.2.2.1 x.2.2.2.1 x.2.2.2.2.1 x.2.2.2.2.2 K = K (fitN x) := by
  obtain ⟨a, ln, t, q, ks, kd⟩ := x
  obtain ⟨h1, h2, h3, h4⟩ := hx
  dsimp only at h1 h2 h3 h4
  unfold wqmu wqyl fitN
  dsimp only
  rw [len0, len0, lenP, lenE]
  cases a == 1 with
  | true =>
    simp only [cond_true]
    cases ks == [] with
    | false => rfl
    | true =>
      cases kd == [] with
      | false => rfl
      | true =>
        by_cases hl : t.length ≤ 200
        · rw [dec_t hl, dec_t (show ((t.length : Nat) : Int) ≤ 200 by omega)]
          cases q with
          | true => rfl
          | false =>
            simp only [cond_true, Bool.true_and, Bool.false_or, beq_self_eq_true]
            exact wq18h k t hl (by omega) K
        · rw [dec_f hl, dec_f (show ¬ ((t.length : Nat) : Int) ≤ 200 by omega)]
          rfl
  | false =>
    simp only [cond_false]
    cases a == 2 with
    | true => cases ks == [] <;> cases kd == [] <;> cases t == [] <;> cases q <;> rfl
    | false =>
      simp only [cond_false]
      cases a == 3 with
      | false => rfl
      | true =>
        rw [wq18i k ks h2 h4 hk]
        cases decide (ks.length = kd.length) <;> cases kd == [] <;> cases t == [] <;> cases q <;> rfl
theorem wq18k (k : Nat) {R : Type} (x : Nd) (hx : okD x) (hk : 5000 < k) (K : Bool → Option R) : wqh5 k x.1 x.2.1 x.2.2.1 x.2.2.2.1 x.2.2.2.2.1 x.2.2.2.2.2 K = K (fitN x) := by
  obtain ⟨a, ln, t, q, ks, kd⟩ := x
  obtain ⟨h1, h2, h3, h4⟩ := hx
  dsimp only at h1 h2 h3 h4
  unfold wqh5 wqqy fitN
  dsimp only
  rw [len0, len0, lenP, lenE]
  cases a == 1 with
  | true =>
    simp only [cond_true]
    cases ks == [] with
    | false => rfl
    | true =>
      cases kd == [] with
      | false => rfl
      | true =>
        by_cases hl : t.length ≤ 200
        · rw [dec_t hl, dec_t (show ((t.length : Nat) : Int) ≤ 200 by omega)]
          cases q with
          | true => rfl
          | false =>
            simp only [cond_true, Bool.true_and, Bool.false_or, beq_self_eq_true]
            exact wq161 k t hl (by omega) K
        · rw [dec_f hl, dec_f (show ¬ ((t.length : Nat) : Int) ≤ 200 by omega)]
          rfl
  | false =>
    simp only [cond_false]
    cases a == 2 with
    | true => cases ks == [] <;> cases kd == [] <;> cases t == [] <;> cases q <;> rfl
    | false =>
      simp only [cond_false]
      cases a == 3 with
      | false => rfl
      | true =>
        rw [wq18j k ks h2 hk]
        cases decide (ks.length = kd.length) <;> cases kd == [] <;> cases t == [] <;> cases q <;> rfl
def numI : Option Nat → Int
  | none => -1
  | some m => (m : Int)
theorem nd_at {nd : List Nd} {n : Nat} (h : n < nd.length) : ∃ x, nd[n]? = some x ∧ (∀ z, nd.getD n z = x) ∧ x ∈ nd := ⟨nd[n], List.getElem?_eq_getElem h, fun z => by rw [List.getD, List.getElem?_eq_getElem h]; rfl, List.getElem_mem _⟩
theorem wqtb (k : Nat) {R : Type} (X) (nd : List Nd) (hn : nd.length ≤ 4000) (K : Int → Option R) (d : Nat) (hd : d ≤ 100) (w : Nat → Option Nat) (hw : ∀ (n : Nat) (K : Int → Option R), n ≤ 4001 → X R nd (n : Int) ((d + 1 : Nat) : Int) K = K (numI (w n))) (hm : ∀ n m, w n = some m → m ≤ nd.length) (kids : List Int) (hl : kids.length ≤ 4000) :
    ∀ (q : List Int) (i n m : Nat), kids.drop i = q → q.length < m → i ≤ kids.length → n ≤ 4001 → wq5g k X m (d : Int) nd (n : Int) kids (kids.length : Int) (i : Int) K = K (numI (kidsW w q n))
  | q, i, n, 0, _, h, _, _ => by omega
  | [], i, n, m + 1, hq, h, hi, hn' => by
    have := wq2l hq
    rw [wq5g, wqb1]
    simp (disch := omega) only [dec_t, dec_f, ieq_t, ieq_f, ine_t, ine_f, inb_t, bnd_t, wqj, wqa, cond_true, cond_false, Bool.not_true, Bool.not_false, Bool.true_or, Bool.or_true, Bool.false_or, Bool.or_false, Bool.true_and, Bool.and_true, Bool.false_and, Bool.and_false, wq2, wq0, wq5]
    rfl
  | c :: q, i, n, m + 1, hq, h, hi, hn' => by
    obtain ⟨hlt, hc, hr⟩ := wqv hq
    rw [wq5g, wqb1]
    simp (disch := omega) only [dec_t, dec_f, ieq_t, ieq_f, ine_t, ine_f, inb_t, bnd_t, wqj, wqa, cond_true, cond_false, Bool.not_true, Bool.not_false, Bool.true_or, Bool.or_true, Bool.false_or, Bool.or_false, Bool.true_and, Bool.and_true, Bool.false_and, Bool.and_false, wq2, wq0, wq5, hc, wq1w]
    rw [kidsW]
    have e : (c != (n : Int)) = !(c == (n : Int)) := rfl
    rw [e]
    cases h1 : c == (n : Int) with
    | false => rfl
    | true =>
      have h1 : c = (n : Int) := by simpa using h1
      subst h1
      simp only [Bool.not_true, cond_false, cond_true]
      rw [hw n _ hn']
      cases h2 : w n with
      | none => rfl
      | some j =>
        have := hm n j h2
        have e2 : decide (numI (some j) < 0) = false := dec_f (by simp [numI])
        rw [e2, cond_false]
        exact wqtb k X nd hn K d hd w hw hm kids hl q (i + 1) j m hr (by simp at h; omega) (by omega) (by omega)
theorem wq10q {R : Type} (nd : List Nd) (hn : nd.length ≤ 4000) (ho : ∀ x ∈ nd, okD x) : ∀ (f k d n : Nat) (K : Int → Option R), 5000 + f < k → d + f = 25 → n ≤ 4001 → wq2x k R nd (n : Int) (d : Int) K = K (numI (walkS f nd n))
  | f, 0, d, n, K, hk, hd, hn' => by omega
  | 0, k + 1, d, n, K, hk, hd, hn' => by
    rw [wq2x]
    unfold wqjs
    have e : decide ((d : Int) > 24) = true := dec_t (by omega)
    have e2 : (bif decide ((n : Int) ≥ (nd.length : Int)) then true else true) = true := by cases decide ((n : Int) ≥ (nd.length : Int)) <;> rfl
    rw [e, e2]
    rfl
  | f + 1, k + 1, d, n, K, hk, hd, hn' => by
    rw [wq2x]
    unfold wqjs
    have e : decide ((d : Int) > 24) = false := dec_f (by omega)
    rw [e, walkS]
    by_cases h : n < nd.length
    · obtain ⟨x, hx, hg, hm⟩ := nd_at h
      have e3 : decide ((n : Int) ≥ (nd.length : Int)) = false := dec_f (by omega)
      have e4 : inb (n : Int) (nd.length : Int) = true := inb_t (by omega) (by omega)
      rw [e3, hx]
      simp (disch := omega) only [dec_t, dec_f, ieq_t, ieq_f, ine_t, ine_f, inb_t, bnd_t, wqj, wqa, cond_true, cond_false, Bool.not_true, Bool.not_false, Bool.true_or, Bool.or_true, Bool.false_or, Bool.or_false, Bool.true_and, Bool.and_true, Bool.false_and, Bool.and_false, wq2, wq0, wq5, e4, hg]
      rw [wq1cg k x (ho x hm) (by omega)]
      cases fitN x with
      | false => rfl
      | true =>
        simp (disch := omega) only [dec_t, dec_f, ieq_t, ieq_f, ine_t, ine_f, inb_t, bnd_t, wqj, wqa, cond_true, cond_false, Bool.not_true, Bool.not_false, Bool.true_or, Bool.or_true, Bool.false_or, Bool.or_false, Bool.true_and, Bool.and_true, Bool.false_and, Bool.and_false, wq2, wq0, wq5, wq1w]
        obtain ⟨_, _, h3, _⟩ := ho x hm
        exact wqtb k _ nd hn K d (by omega) (walkS f nd) (fun a K ha => wq10q nd hn ho f k (d + 1) a K (by omega) (by omega) ha) (fun a b hab => wqrf f nd a b hab) x.2.2.2.2.2 h3 x.2.2.2.2.2 0 (n + 1) k rfl (by omega) (by omega) (by omega)
    · have e3 : decide ((n : Int) ≥ (nd.length : Int)) = true := dec_t (by omega)
      rw [e3, List.getElem?_eq_none (by omega)]
      rfl
theorem wqpd (k : Nat) {R : Type} (X) (nd : List Nd) (hn : nd.length ≤ 4000) (K : Int → Option R) (d : Nat) (hd : d ≤ 100) (w : Nat → Option Nat) (hw : ∀ (n : Nat) (K : Int → Option R), n ≤ 4001 → X R nd (n : Int) ((d + 1 : Nat) : Int) K = K (numI (w n))) (hm : ∀ n m, w n = some m → m ≤ nd.length) (j0 : Nat) (hj : j0 < nd.length) (x : Nd) (hx : ∀ z, nd.getD j0 z = x) (hl : x.2.2.2.2.2.length ≤ 4000) :
    ∀ (q : List Int) (i n m : Nat), x.2.2.2.2.2.drop i = q → q.length < m → i ≤ x.2.2.2.2.2.length → n ≤ 4001 → wq4v k X m (j0 : Int) (d : Int) nd (n : Int) (i : Int) K = K (numI (kidsW w q n))
  | q, i, n, 0, _, h, _, _ => by omega
  | [], i, n, m + 1, hq, h, hi, hn' => by
    have := wq2l hq
    rw [wq4v, wqae]
    simp (disch := omega) only [dec_t, dec_f, ieq_t, ieq_f, ine_t, ine_f, inb_t, bnd_t, wqj, wqa, cond_true, cond_false, Bool.not_true, Bool.not_false, Bool.true_or, Bool.or_true, Bool.false_or, Bool.or_false, Bool.true_and, Bool.and_true, Bool.false_and, Bool.and_false, wq2, wq0, wq5, hx]
    rfl
  | c :: q, i, n, m + 1, hq, h, hi, hn' => by
    obtain ⟨hlt, hc, hr⟩ := wqv hq
    rw [wq4v, wqae]
    simp (disch := omega) only [dec_t, dec_f, ieq_t, ieq_f, ine_t, ine_f, inb_t, bnd_t, wqj, wqa, cond_true, cond_false, Bool.not_true, Bool.not_false, Bool.true_or, Bool.or_true, Bool.false_or, Bool.or_false, Bool.true_and, Bool.and_true, Bool.false_and, Bool.and_false, wq2, wq0, wq5, hx, hc, wq1w]
    rw [kidsW]
    have e : (c != (n : Int)) = !(c == (n : Int)) := rfl
    rw [e]
    cases h1 : c == (n : Int) with
    | false => rfl
    | true =>
      simp only [Bool.not_true, cond_false, cond_true]
      rw [hw n _ hn']
      cases h2 : w n with
      | none => rfl
      | some j =>
        have := hm n j h2
        have e2 : decide (numI (some j) < 0) = false := dec_f (by simp [numI])
        rw [e2, cond_false]
        exact wqpd k X nd hn K d hd w hw hm j0 hj x hx hl q (i + 1) j m hr (by simp at h; omega) (by omega) (by omega)
theorem wqvl {R : Type} (nd : List Nd) (hn : nd.length ≤ 4000) (ho : ∀ x ∈ nd, okD x) : ∀ (f k d n : Nat) (K : Int → Option R), 5000 + f < k → d + f = 25 → n ≤ 4001 → wq2h k R nd (n : Int) (d : Int) K = K (numI (walkS f nd n))
  | f, 0, d, n, K, hk, hd, hn' => by omega
  | 0, k + 1, d, n, K, hk, hd, hn' => by
    rw [wq2h]
    unfold wqh6
    have e : decide ((d : Int) > 24) = true := dec_t (by omega)
    have e2 : (bif decide ((n : Int) ≥ (nd.length : Int)) then true else true) = true := by cases decide ((n : Int) ≥ (nd.length : Int)) <;> rfl
    rw [e, e2]
    rfl
  | f + 1, k + 1, d, n, K, hk, hd, hn' => by
    rw [wq2h]
    unfold wqh6
    have e : decide ((d : Int) > 24) = false := dec_f (by omega)
    rw [e, walkS]
    by_cases h : n < nd.length
    · obtain ⟨x, hx, hg, hm⟩ := nd_at h
      have e3 : decide ((n : Int) ≥ (nd.length : Int)) = false := dec_f (by omega)
      have e4 : inb (n : Int) (nd.length : Int) = true := inb_t (by omega) (by omega)
      rw [e3, hx]
      simp (disch := omega) only [dec_t, dec_f, ieq_t, ieq_f, ine_t, ine_f, inb_t, bnd_t, wqj, wqa, cond_true, cond_false, Bool.not_true, Bool.not_false, Bool.true_or, Bool.or_true, Bool.false_or, Bool.or_false, Bool.true_and, Bool.and_true, Bool.false_and, Bool.and_false, wq2, wq0, wq5, e4, hg]
      rw [wq18k k x (ho x hm) (by omega)]
      cases fitN x with
      | false => rfl
      | true =>
        simp (disch := omega) only [dec_t, dec_f, ieq_t, ieq_f, ine_t, ine_f, inb_t, bnd_t, wqj, wqa, cond_true, cond_false, Bool.not_true, Bool.not_false, Bool.true_or, Bool.or_true, Bool.false_or, Bool.or_false, Bool.true_and, Bool.and_true, Bool.false_and, Bool.and_false, wq2, wq0, wq5, wq1w]
        obtain ⟨_, _, h3, _⟩ := ho x hm
        exact wqpd k _ nd hn K d (by omega) (walkS f nd) (fun a K ha => wqvl nd hn ho f k (d + 1) a K (by omega) (by omega) ha) (fun a b hab => wqrf f nd a b hab) n h x hg h3 x.2.2.2.2.2 0 (n + 1) k rfl (by omega) (by omega) (by omega)
    · have e3 : decide ((n : Int) ≥ (nd.length : Int)) = true := dec_t (by omega)
      rw [e3, List.getElem?_eq_none (by omega)]
      rfl
theorem wq1fh (o : Option Nat) (n : Nat) : (numI o == (n : Int)) = (o == some n) := by
  cases o with
  | none => exact ieq_f (by simp only [numI]; omega)
  | some m => rw [Bool.eq_iff_iff]; simp [numI]; omega
theorem wqnl (k : Nat) {R : Type} (nd : List Nd) (hn : nd.length ≤ 4000) (ho : ∀ x ∈ nd, okD x) (hk : 5100 < k) (K : Int → Option R) : wq9t k nd K = K (bif checkS nd then 0 else 1) := by
  unfold wq9t wqql wqjt checkS
  by_cases h1 : nd.length < 1
  · rw [dec_t (show ((nd.length : Nat) : Int) < 1 by omega), dec_f (show ¬ 1 ≤ nd.length by omega)]; rfl
  · rw [dec_f (show ¬ ((nd.length : Nat) : Int) < 1 by omega), dec_t (show 1 ≤ nd.length by omega)]
    by_cases h2 : nd.length > 2000
    · rw [dec_t (show ((nd.length : Nat) : Int) > 2000 by omega), dec_f (show ¬ nd.length ≤ 2000 by omega)]; rfl
    · rw [dec_f (show ¬ ((nd.length : Nat) : Int) > 2000 by omega), dec_t (show nd.length ≤ 2000 by omega)]
      simp only [cond_false, wq0, Bool.not_false, cond_true, Bool.true_and]
      refine Eq.trans (wq10q nd hn ho 24 k 1 0 _ (by omega) (by omega) (by omega)) ?_
      have e : (numI (walkS 24 nd 0) != (nd.length : Int)) = !(numI (walkS 24 nd 0) == (nd.length : Int)) := rfl
      rw [e, wq1fh]
      cases walkS 24 nd 0 == some nd.length <;> rfl
theorem wqtc (k : Nat) {R : Type} (nd : List Nd) (hn : nd.length ≤ 4000) (ho : ∀ x ∈ nd, okD x) (hk : 5100 < k) (K : Bool → Option R) : wq9k k nd K = K (checkS nd) := by
  unfold wq9k wqng wqh7 checkS
  by_cases h1 : nd.length < 1
  · rw [dec_f (show ¬ ((nd.length : Nat) : Int) ≥ 1 by omega), dec_f (show ¬ 1 ≤ nd.length by omega)]; rfl
  · rw [dec_t (show ((nd.length : Nat) : Int) ≥ 1 by omega), dec_t (show 1 ≤ nd.length by omega)]
    by_cases h2 : nd.length > 2000
    · rw [dec_f (show ¬ ((nd.length : Nat) : Int) ≤ 2000 by omega), dec_f (show ¬ nd.length ≤ 2000 by omega)]; rfl
    · rw [dec_t (show ((nd.length : Nat) : Int) ≤ 2000 by omega), dec_t (show nd.length ≤ 2000 by omega)]
      simp only [cond_true, wq2, Bool.true_and]
      refine Eq.trans (wqvl nd hn ho 24 k 1 0 _ (by omega) (by omega) (by omega)) ?_
      rw [wq1fh]
theorem wq18l (k : Nat) {R : Type} (s : List UInt8) (hs : s.length ≤ 1000000) (K : List Int → Option R) : ∀ (t : List UInt8) (n m : Nat) (acc : List UInt8), s.drop n = t → t.length < m → n ≤ s.length → acc.length ≤ 4 * n + 1 →
    wq3s k m s (wqs acc) (n : Int) K = K (wqs (acc ++ escS t ++ [34]))
  | t, n, 0, acc, _, hm, _, _ => by omega
  | [], n, m + 1, acc, hd, hm, hn, ha => by
    have := wq2l hd
    rw [wq3s, wq9g]
    have f1 : fits (wqs acc).length 1 1 = true := fits_t (by rw [wq2q]; omega) (by rw [wq2q]; omega)
    simp (disch := omega) only [dec_t, dec_f, ieq_t, ieq_f, ine_t, ine_f, inb_t, bnd_t, wqj, wqa, cond_true, cond_false, Bool.not_true, Bool.not_false, Bool.true_or, Bool.or_true, Bool.false_or, Bool.or_false, Bool.true_and, Bool.and_true, Bool.false_and, Bool.and_false, wq2, wq0, wq5, List.length_singleton, f1, escS, List.append_nil]
    exact congrArg K (wq90 acc 34)
  | c :: r, n, m + 1, acc, hd, hm, hn, ha => by
    obtain ⟨hlt, hc, hr⟩ := wqv hd
    have hcl := c.toNat_lt
    have e1 : ((c.toNat : Int) == 92) = (c == 92) := u8_beq c 92 (by omega)
    have e2 : ((c.toNat : Int) == 34) = (c == 34) := u8_beq c 34 (by omega)
    have e3 : ((c.toNat : Int) == 10) = (c == 10) := u8_beq c 10 (by omega)
    have e4 : ((c.toNat : Int) == 9) = (c == 9) := u8_beq c 9 (by omega)
    have e5 : ((c.toNat : Int) == 127) = (c == 127) := u8_beq c 127 (by omega)
    have e6 : decide ((c.toNat : Int) < 32) = decide (c.toNat < 32) := by rw [Bool.eq_iff_iff]; simp; omega
    have d1 : (c.toNat : Int).tdiv 16 = ((c.toNat / 16 : Nat) : Int) := rfl
    have d2 : (c.toNat : Int).tmod 16 = ((c.toNat % 16 : Nat) : Int) := rfl
    have h16 : ([48, 49, 50, 51, 52, 53, 54, 55, 56, 57, 97, 98, 99, 100, 101, 102] : List UInt8).length = 16 := rfl
    have fa : ∀ j, j ≤ 4 → fits (wqs acc).length j 1 = true := fun j hj => fits_t (by rw [wq2q]; omega) (by rw [wq2q]; omega)
    have hl := wq1ae c
    simp only [List.length_cons] at hm
    have go : ∀ x : List Int, x = wqs (escB c) → wq3s k m s (wqs acc ++ x) ((n + 1 : Nat) : Int) K = K (wqs (acc ++ escS (c :: r) ++ [34])) := by
      intro x hx
      subst hx
      have : wqs acc ++ wqs (escB c) = wqs (acc ++ escB c) := by simp [wqs]
      rw [this, wq18l k s hs K r (n + 1) m (acc ++ escB c) hr (by omega) (by omega) (by simp; omega), escS, List.append_assoc acc]
    rw [wq3s, wq9g]
    simp (disch := omega) only [dec_t, dec_f, ieq_t, ieq_f, ine_t, ine_f, inb_t, bnd_t, wqj, wqa, cond_true, cond_false, Bool.not_true, Bool.not_false, Bool.true_or, Bool.or_true, Bool.false_or, Bool.or_false, Bool.true_and, Bool.and_true, Bool.false_and, Bool.and_false, wq2, wq0, wq5, hc, e1, e2, e3, e4, e5, e6, d1, d2, h16, wq1w, List.length_cons, List.length_nil, Nat.zero_add, fa]
    unfold escB at go
    cases h1 : c == 92 with
    | true => rw [h1] at go; have := beq_iff_eq.1 h1; subst this; exact go _ rfl
    | false =>
      cases h2 : c == 34 with
      | true => rw [h1, h2] at go; have := beq_iff_eq.1 h2; subst this; exact go _ rfl
      | false =>
        rw [h1, h2] at go
        cases h3 : c == 10 with
        | true => rw [h3] at go; exact go _ rfl
        | false =>
          rw [h3] at go
          cases h4 : c == 9 with
          | true => rw [h4] at go; exact go _ rfl
          | false =>
            rw [h4] at go
            cases h5 : (decide (c.toNat < 32) || c == 127) with
            | true =>
              rw [h5] at go
              have : (bif decide (c.toNat < 32) then true else c == 127) = true := by rw [Bool.cond_true_left]; exact h5
              rw [this]
              exact go _ rfl
            | false =>
              rw [h5] at go
              have : (bif decide (c.toNat < 32) then true else c == 127) = false := by rw [Bool.cond_true_left]; exact h5
              rw [this]
              exact go _ rfl
theorem wq162 (k : Nat) {R : Type} (s : List UInt8) (hs : s.length ≤ 1000000) (hk : s.length < k) (K : List Int → Option R) : wqf6 k s K = K (wqs (quoS s)) := by
  unfold wqf6 wqib
  exact wq18l k s hs K s 0 k [34] rfl hk (Nat.zero_le _) (by simp)
theorem wq1e7 {a b : List UInt8} (h : a.length + b.length ≤ 100000000) : joins a b = true := dec_t (by simp only [maxN]; omega)
theorem wqtd (k : Nat) {R : Type} (l s : List UInt8) (K : List Int → Int → Option R) (hl : l.length + s.length ≤ 100000000) : wq1n k (wqs l) s K = K (wqs (l ++ s)) (s.length : Int) := by
  unfold wq1n wq7a wq4h
  dsimp only
  have e : wqs l ++ wqs s = wqs (l ++ s) := by simp [wqs]
  rw [fits_t (by rw [wq2q, wq2q]; omega) (by rw [wq2q, wq2q]; omega), cond_true, e]
theorem hexHi (c : UInt8) : bnd (ishr .u8 (c.toNat : Int) 4) (IntKind.u8.wrap (ishr .u8 (c.toNat : Int) 4 + 1)) ((([48, 49, 50, 51, 52, 53, 54, 55, 56, 57, 97, 98, 99, 100, 101, 102] : List UInt8).length : Nat) : Int) = true ∧
    cut ([48, 49, 50, 51, 52, 53, 54, 55, 56, 57, 97, 98, 99, 100, 101, 102] : List UInt8) (ishr .u8 (c.toNat : Int) 4) (IntKind.u8.wrap (ishr .u8 (c.toNat : Int) 4 + 1)) = [hexL.getD (c.toNat / 16) 0] := by
  have := all_u8 (fun c => bnd (ishr .u8 (c.toNat : Int) 4) (IntKind.u8.wrap (ishr .u8 (c.toNat : Int) 4 + 1)) ((([48, 49, 50, 51, 52, 53, 54, 55, 56, 57, 97, 98, 99, 100, 101, 102] : List UInt8).length : Nat) : Int) &&
    (cut ([48, 49, 50, 51, 52, 53, 54, 55, 56, 57, 97, 98, 99, 100, 101, 102] : List UInt8) (ishr .u8 (c.toNat : Int) 4) (IntKind.u8.wrap (ishr .u8 (c.toNat : Int) 4 + 1)) == [hexL.getD (c.toNat / 16) 0])) (by kernel_rfl) c
  simp only [Bool.and_eq_true, beq_iff_eq] at this
  exact this
theorem hexLo (c : UInt8) : bnd (ibits .and .u8 (c.toNat : Int) 15) (IntKind.u8.wrap (ibits .and .u8 (c.toNat : Int) 15 + 1)) ((([48, 49, 50, 51, 52, 53, 54, 55, 56, 57, 97, 98, 99, 100, 101, 102] : List UInt8).length : Nat) : Int) = true ∧
    cut ([48, 49, 50, 51, 52, 53, 54, 55, 56, 57, 97, 98, 99, 100, 101, 102] : List UInt8) (ibits .and .u8 (c.toNat : Int) 15) (IntKind.u8.wrap (ibits .and .u8 (c.toNat : Int) 15 + 1)) = [hexL.getD (c.toNat % 16) 0] := by
  have := all_u8 (fun c => bnd (ibits .and .u8 (c.toNat : Int) 15) (IntKind.u8.wrap (ibits .and .u8 (c.toNat : Int) 15 + 1)) ((([48, 49, 50, 51, 52, 53, 54, 55, 56, 57, 97, 98, 99, 100, 101, 102] : List UInt8).length : Nat) : Int) &&
    (cut ([48, 49, 50, 51, 52, 53, 54, 55, 56, 57, 97, 98, 99, 100, 101, 102] : List UInt8) (ibits .and .u8 (c.toNat : Int) 15) (IntKind.u8.wrap (ibits .and .u8 (c.toNat : Int) 15 + 1)) == [hexL.getD (c.toNat % 16) 0])) (by kernel_rfl) c
  simp only [Bool.and_eq_true, beq_iff_eq] at this
  exact this
theorem wqpe (k : Nat) {R : Type} (s : List UInt8) (hs : s.length ≤ 1000000) (K : List UInt8 → Option R) : ∀ (t : List UInt8) (n m : Nat) (acc : List UInt8), s.drop n = t → t.length < m → n ≤ s.length → acc.length ≤ 4 * n + 1 →
    wq42 k m s (wqs acc) (s.length : Int) (n : Int) K = K (acc ++ escS t ++ [34])
  | t, n, 0, acc, _, hm, _, _ => by omega
  | [], n, m + 1, acc, hd, hm, hn, ha => by
    have := wq2l hd
    rw [wq42, wqa9]
    simp (disch := omega) only [dec_t, dec_f, ieq_t, ieq_f, ine_t, ine_f, inb_t, bnd_t, wqj, wqa, cond_true, cond_false, Bool.not_true, Bool.not_false, Bool.true_or, Bool.or_true, Bool.false_or, Bool.or_false, Bool.true_and, Bool.and_true, Bool.false_and, Bool.and_false, wq2, wq0, wq5, escS, List.append_nil]
    rw [wqcl k acc 34 34 _ rfl (by omega), wqwq]
  | c :: r, n, m + 1, acc, hd, hm, hn, ha => by
    obtain ⟨hlt, hc, hr⟩ := wqv hd
    have hcl := c.toNat_lt
    have e1 : ((c.toNat : Int) == 92) = (c == 92) := u8_beq c 92 (by omega)
    have e2 : ((c.toNat : Int) == 34) = (c == 34) := u8_beq c 34 (by omega)
    have e3 : ((c.toNat : Int) == 10) = (c == 10) := u8_beq c 10 (by omega)
    have e4 : ((c.toNat : Int) == 9) = (c == 9) := u8_beq c 9 (by omega)
    have e5 : ((c.toNat : Int) == 127) = (c == 127) := u8_beq c 127 (by omega)
    have e6 : decide ((c.toNat : Int) < 32) = decide (c.toNat < 32) := by rw [Bool.eq_iff_iff]; simp; omega
    have hl := wq1ae c
    simp only [List.length_cons] at hm
    have go : ∀ x : List UInt8, x = escB c → (wq1n k (wqs acc) x fun y8 y9 => wq42 k m s y8 (s.length : Int) ((n + 1 : Nat) : Int) K) = K (acc ++ escS (c :: r) ++ [34]) := by
      intro x hx
      subst hx
      rw [wqtd k acc _ _ (by omega), wqpe k s hs K r (n + 1) m (acc ++ escB c) hr (by omega) (by omega) (by simp; omega), escS, List.append_assoc acc]
    obtain ⟨b1, c1⟩ := hexHi c
    obtain ⟨b2, c2⟩ := hexLo c
    rw [wq42, wqa9]
    simp (disch := omega) only [dec_t, dec_f, ieq_t, ieq_f, ine_t, ine_f, inb_t, bnd_t, wqj, wqa, cond_true, cond_false, Bool.not_true, Bool.not_false, Bool.true_or, Bool.or_true, Bool.false_or, Bool.or_false, Bool.true_and, Bool.and_true, Bool.false_and, Bool.and_false, wq2, wq0, wq5, hc, e1, e2, e3, e4, e5, e6, wq1w, b1, b2, c1, c2]
    unfold escB at go
    cases h1 : c == 92 with
    | true => rw [h1] at go; have := beq_iff_eq.1 h1; subst this; exact go _ rfl
    | false =>
      cases h2 : c == 34 with
      | true => rw [h1, h2] at go; have := beq_iff_eq.1 h2; subst this; exact go _ rfl
      | false =>
        rw [h1, h2] at go
        cases h3 : c == 10 with
        | true => rw [h3] at go; exact go _ rfl
        | false =>
          rw [h3] at go
          cases h4 : c == 9 with
          | true => rw [h4] at go; exact go _ rfl
          | false =>
            rw [h4] at go
            cases h5 : (decide (c.toNat < 32) || c == 127) with
            | true =>
              rw [h5] at go
              have : (bif decide (c.toNat < 32) then true else c == 127) = true := by rw [Bool.cond_true_left]; exact h5
              rw [this]
              exact go _ rfl
            | false =>
              rw [h5] at go
              have : (bif decide (c.toNat < 32) then true else c == 127) = false := by rw [Bool.cond_true_left]; exact h5
              rw [this]
              have g := go [c] rfl
              rw [wqtd k acc _ _ (by simp; omega)] at g
              simp only [cond_true, cond_false]
              rw [wqcl k acc c _ _ rfl (by omega)]
              exact g
theorem wq18m (k : Nat) {R : Type} (s : List UInt8) (hs : s.length ≤ 1000000) (hk : s.length < k) (K : List UInt8 → Option R) : wqgs k s K = K (quoS s) := by
  unfold wqgs wqkt
  have : ([] : List Int) = wqs [] := rfl
  rw [this, wqcl k [] 34 34 _ rfl (by simp)]
  exact wqpe k s hs K s 0 k [34] rfl hk (Nat.zero_le _) (by simp)
theorem WS_sw (k : Nat) {R : Type} (nd : List Nd) (l s : List UInt8) (K : List Nd → List Int → Int → Option R) (hl : l.length + s.length ≤ 100000000) : wqz k nd (wqs l) s K = K nd (wqs (l ++ s)) (s.length : Int) := by
  unfold wqz wq67 wq3h
  dsimp only
  have e : wqs l ++ wqs s = wqs (l ++ s) := by simp [wqs]
  rw [fits_t (by rw [wq2q, wq2q]; omega) (by rw [wq2q, wq2q]; omega), cond_true, e]
theorem WB_sw (k : Nat) {R : Type} (nd : List Nd) (l : List UInt8) (c : UInt8) (x : Int) (hx : x = (c.toNat : Int)) (K : List Nd → List Int → Option R) (hl : l.length ≤ 100000000) : wq2s k nd (wqs l) x K = K nd (wqs (l ++ [c])) := by
  subst hx
  unfold wq2s wq74 wq3h
  dsimp only
  rw [fits_t (by rw [wq2q]; simp; omega) (by rw [wq2q]; simp; omega), cond_true, wq90]
theorem wq1fi : ∀ n : Nat, repS [32] n = blS n
  | 0 => rfl
  | n + 1 => by
    have : repS [32] (n + 1) = [32] ++ repS [32] n := rfl
    rw [this, wq1fi n]; rfl
theorem in_eq (k : Nat) {R : Type} (nd : List Nd) (l : List UInt8) (n : Nat) (hn : n ≤ 1000) (hl : l.length ≤ 10000000) (K : List Nd → List Int → Option R) : wq7z k nd (wqs l) (n : Int) K = K nd (wqs (l ++ blS n)) := by
  unfold wq7z wqgt wqda
  rw [dec_t (show (0 : Int) ≤ (n : Int) by omega), dec_t (show (n : Int) ≤ 1000000 by omega), dec_t (show ([32] : List UInt8).length ≤ 1000000 by simp), wq5, wq1fi]
  simp only [Bool.and_self, cond_true]
  rw [WS_sw k nd l _ _ (by simp [blS]; omega)]
theorem wq163 (k : Nat) {R : Type} (Xb Xp) (nd : List Nd) (col : Nat) (hc : col ≤ 58) (g : Nat → List UInt8) (w : Nat → Option Nat) (K : List Nd → List Int → Option R)
    (hg : ∀ n m, w n = some m → n < m ∧ (g n).length + 200 ≤ 1100 * (m - n))
    (B : Nat) (hB : B ≤ 6000000) (hX : ∀ (n m : Nat) (acc : List UInt8) (K : List Nd → List Int → Option R), w n = some m → acc.length + 1100 * (m - n) ≤ B + 130 → Xb R nd (wqs acc) (n : Int) ((col + 2 : Nat) : Int) K = K nd (wqs (acc ++ g n)))
    (kids : List Int) (hl : kids.length ≤ 4000) :
    ∀ (q : List Int) (i n e m : Nat) (acc : List UInt8), kids.drop i = q → q.length < m → i ≤ kids.length → kidsW w q n = some e → acc.length + 1100 * (e - n) ≤ B →
      wq21 k Xb Xp m nd (wqs acc) (col : Int) kids (kids.length : Int) (i : Int) K = K nd (wqs (acc ++ lstS g col (i == 0) q))
  | q, i, n, e, 0, acc, _, h, _, _, _ => by omega
  | [], i, n, e, m + 1, acc, hq, h, hi, hw, ha => by
    have := wq2l hq
    rw [wq21, wq5i]
    simp (disch := omega) only [dec_t, dec_f, ieq_t, ieq_f, ine_t, ine_f, inb_t, bnd_t, wqj, wqa, cond_true, cond_false, Bool.not_true, Bool.not_false, Bool.true_or, Bool.or_true, Bool.false_or, Bool.or_false, Bool.true_and, Bool.and_true, Bool.false_and, Bool.and_false, wq2, wq0, wq5, lstS, List.append_nil]
  | c :: q, i, n, e, m + 1, acc, hq, h, hi, hw, ha => by
    obtain ⟨hlt, hc', hr⟩ := wqv hq
    rw [kidsW] at hw
    cases h1 : c == (n : Int) with
    | false => rw [h1] at hw; cases hw
    | true =>
      rw [h1, cond_true] at hw
      have h1 : c = (n : Int) := by simpa using h1
      subst h1
      cases h2 : w n with
      | none => rw [h2] at hw; cases hw
      | some j =>
        rw [h2] at hw
        dsimp only at hw
        obtain ⟨g1, g2⟩ := hg n j h2
        have g3 := (wq10p (g := g) (col := col) (by omega) hg q false j e hw).1
        have ec : IntKind.i64.wrap ((col : Int) + 2) = ((col + 2 : Nat) : Int) := by rw [wqj (by omega) (by omega)]; omega
        rw [wq21, wq5i, lstS]
        simp (disch := omega) only [dec_t, dec_f, ieq_t, ieq_f, ine_t, ine_f, inb_t, bnd_t, wqj, wqa, cond_true, cond_false, Bool.not_true, Bool.not_false, Bool.true_or, Bool.or_true, Bool.false_or, Bool.or_false, Bool.true_and, Bool.and_true, Bool.false_and, Bool.and_false, wq2, wq0, wq5, hc', wq1w, ec]
        by_cases h0 : i = 0
        · subst h0
          have e1 : decide (((0 : Nat) : Int) > 0) = false := rfl
          simp only [e1, cond_false, cond_true, beq_self_eq_true, List.nil_append]
          rw [WS_sw k nd acc _ _ (by simp; omega), hX n j _ _ h2 (by simp; omega)]
          rw [wq163 k Xb Xp nd col hc g w K hg B hB hX kids hl q (0 + 1) j e m _ hr (by simp at h; omega) (by omega) hw (by simp; omega)]
          simp [List.append_assoc]
        · have e1 : decide ((i : Int) > 0) = true := dec_t (by omega)
          have e2 : (i == 0) = false := by simpa using h0
          simp only [e1, e2, cond_false, cond_true]
          rw [in_eq k nd acc col (by omega) (by omega), WS_sw k nd _ _ _ (by simp [blS]; omega), hX n j _ _ h2 (by simp [blS]; omega)]
          rw [wq163 k Xb Xp nd col hc g w K hg B hB hX kids hl q (i + 1) j e m _ hr (by simp at h; omega) (by omega) hw (by simp [blS]; omega)]
          simp [List.append_assoc]
theorem wq1ai (k : Nat) {R : Type} (Xb Xp) (nd : List Nd) (col : Nat) (hc : col ≤ 58) (g : Nat → List UInt8) (t : Nat → Bool) (w : Nat → Option Nat) (K : List Nd → List Int → Option R)
    (hg : ∀ n m, w n = some m → n < m ∧ (g n).length + 200 ≤ 1100 * (m - n))
    (B : Nat) (hB : B ≤ 6000000) (hX : ∀ (n m : Nat) (acc : List UInt8) (K : List Nd → List Int → Option R), w n = some m → acc.length + 1100 * (m - n) ≤ B + 130 → Xp R nd (wqs acc) (n : Int) (col : Int) K = K nd (wqs (acc ++ (bif t n then [32] else 10 :: blS (col + 2)) ++ g n)))
    (s3 s4 : Int) (s5 : List UInt8) (s6 : Bool) (keys : List (List UInt8)) (s8 kids : List Int) (hl : kids.length ≤ 4000) (hk : keys.length = kids.length) (hkl : ∀ q ∈ keys, q.length ≤ 64) :
    ∀ (q : List Int) (ks : List (List UInt8)) (i n e m : Nat) (acc : List UInt8), kids.drop i = q → keys.drop i = ks → q.length < m → i ≤ kids.length → kidsW w q n = some e → acc.length + 1100 * (e - n) ≤ B →
      wq2e k Xb Xp m nd (wqs acc) (col : Int) s3 s4 s5 s6 keys s8 kids (kids.length : Int) (i : Int) K = K nd (wqs (acc ++ mapS g t col (i == 0) ks q))
  | q, ks, i, n, e, 0, acc, _, _, h, _, _, _ => by omega
  | [], ks, i, n, e, m + 1, acc, hq, hks, h, hi, hw, ha => by
    have := wq2l hq
    have hm : mapS g t col (i == 0) ks [] = [] := by cases ks <;> simp [mapS]
    rw [wq2e, wq5j, hm]
    simp (disch := omega) only [dec_t, dec_f, ieq_t, ieq_f, ine_t, ine_f, inb_t, bnd_t, wqj, wqa, cond_true, cond_false, Bool.not_true, Bool.not_false, Bool.true_or, Bool.or_true, Bool.false_or, Bool.or_false, Bool.true_and, Bool.and_true, Bool.false_and, Bool.and_false, wq2, wq0, wq5, List.append_nil]
  | c :: q, [], i, n, e, m + 1, acc, hq, hks, h, hi, hw, ha => by
    have h1 := wq2l hks
    obtain ⟨hlt, _, _⟩ := wqv hq
    omega
  | c :: q, key :: ks, i, n, e, m + 1, acc, hq, hks, h, hi, hw, ha => by
    obtain ⟨hlt, hc', hr⟩ := wqv hq
    obtain ⟨klt, hkc, hkr⟩ := wqv hks
    have hkey := hkl key (List.mem_of_mem_drop (by rw [hks]; simp))
    rw [kidsW] at hw
    cases h1 : c == (n : Int) with
    | false => rw [h1] at hw; cases hw
    | true =>
      rw [h1, cond_true] at hw
      have h1 : c = (n : Int) := by simpa using h1
      subst h1
      cases h2 : w n with
      | none => rw [h2] at hw; cases hw
      | some j =>
        rw [h2] at hw
        dsimp only at hw
        obtain ⟨g1, g2⟩ := hg n j h2
        have g3 := (wq10p (g := g) (col := col) (by omega) hg q false j e hw).1
        have hb2 : (bif t n then [32] else 10 :: blS (col + 2)).length ≤ 61 := by cases t n <;> simp [blS] <;> omega
        rw [wq2e, wq5j, mapS]
        simp (disch := omega) only [dec_t, dec_f, ieq_t, ieq_f, ine_t, ine_f, inb_t, bnd_t, wqj, wqa, cond_true, cond_false, Bool.not_true, Bool.not_false, Bool.true_or, Bool.or_true, Bool.false_or, Bool.or_false, Bool.true_and, Bool.and_true, Bool.false_and, Bool.and_false, wq2, wq0, wq5, hc', hkc, wq1w]
        rw [wq1e7 (by simp; omega), cond_true]
        by_cases h0 : i = 0
        · subst h0
          have e1 : decide (((0 : Nat) : Int) > 0) = false := rfl
          simp only [e1, cond_false, cond_true, beq_self_eq_true, List.nil_append]
          rw [WS_sw k nd acc _ _ (by simp; omega), hX n j _ _ h2 (by simp; omega)]
          rw [wq1ai k Xb Xp nd col hc g t w K hg B hB hX s3 s4 s5 s6 keys s8 kids hl hk hkl q ks (0 + 1) j e m _ hr hkr (by simp at h; omega) (by omega) hw (by simp only [List.length_append, List.length_cons, List.length_nil]; omega)]
          simp [List.append_assoc]
        · have e1 : decide ((i : Int) > 0) = true := dec_t (by omega)
          have e2 : (i == 0) = false := by simpa using h0
          have hb : (blS col).length = col := by simp [blS]
          simp only [e1, e2, cond_false, cond_true]
          rw [in_eq k nd acc col (by omega) (by omega), WS_sw k nd _ _ _ (by simp [blS]; omega), hX n j _ _ h2 (by simp [blS]; omega)]
          rw [wq1ai k Xb Xp nd col hc g t w K hg B hB hX s3 s4 s5 s6 keys s8 kids hl hk hkl q ks (i + 1) j e m _ hr hkr (by simp at h; omega) (by omega) hw (by simp only [List.length_append, List.length_cons, List.length_nil, hb]; omega)]
          simp [List.append_assoc]
theorem wq164 {R : Type} (nd : List Nd) (hn : nd.length ≤ 4000) (ho : ∀ x ∈ nd, okD x) : ∀ (f k n m col : Nat) (acc : List UInt8) (K : List Nd → List Int → Option R), 5000 + 2 * f < k → walkS f nd n = some m → col + 2 * f ≤ 58 → acc.length + 1100 * (m - n) + 200 * f ≤ 6000000 →
    wqb k R nd (wqs acc) (n : Int) (col : Int) K = K nd (wqs (acc ++ textS f nd n col))
  | f, 0, n, m, col, acc, K, hk, hw, hc, ha => by omega
  | 0, k + 1, n, m, col, acc, K, hk, hw, hc, ha => by rw [walkS] at hw; cases hw
  | f + 1, 1, n, m, col, acc, K, hk, hw, hc, ha => by omega
  | f + 1, k + 2, n, m, col, acc, K, hk, hw, hc, ha => by
    have hlt := wq10o _ _ _ _ hw
    have hle := wqrf _ _ _ _ hw
    obtain ⟨x, hx, hf, hw⟩ := wq10n hw
    have hn1 := (List.getElem?_eq_some_iff.1 hx).1
    have hmem := List.mem_of_getElem? hx
    have hg : ∀ z, nd.getD n z = x := fun z => by rw [List.getD, hx]; rfl
    have e4 : inb (n : Int) (nd.length : Int) = true := inb_t (by omega) (by omega)
    have ind : ∀ (k' : Nat), 5000 + 2 * f < k' → ∀ (n m : Nat) (acc : List UInt8) (K : List Nd → List Int → Option R), walkS f nd n = some m → acc.length + 1100 * (m - n) ≤ 6000000 - 200 * (f + 1) + 130 → wqb k' R nd (wqs acc) (n : Int) ((col + 2 : Nat) : Int) K = K nd (wqs (acc ++ textS f nd n (col + 2))) :=
      fun k' hk' n m acc K h1 h2 => wq164 nd hn ho f k' n m (col + 2) acc K hk' h1 (by omega) (by omega)
    have lens : ∀ n m, walkS f nd n = some m → n < m ∧ (textS f nd n (col + 2)).length + 200 ≤ 1100 * (m - n) := fun a b hab => wq160 f nd a b (col + 2) hab (by omega)
    rw [wqb]
    unfold wq8l
    rw [textS, hx, e4]
    simp (disch := omega) only [dec_t, dec_f, ieq_t, ieq_f, ine_t, ine_f, inb_t, bnd_t, wqj, wqa, cond_true, cond_false, Bool.not_true, Bool.not_false, Bool.true_or, Bool.or_true, Bool.false_or, Bool.or_false, Bool.true_and, Bool.and_true, Bool.false_and, Bool.and_false, wq2, wq0, wq5, hg]
    cases h1 : x.1 == 1 with
    | true =>
      obtain ⟨_, _, hl, _⟩ := wq15z hf h1
      have hlen := wq1ag hl
      simp only [cond_true]
      unfold txtN at hlen ⊢
      cases hq : x.2.2.2.1 with
      | true =>
        rw [hq, cond_true] at hlen
        simp only [cond_true]
        rw [wq18m _ _ (by omega) (by omega), wq1e7 (by simp; omega), cond_true, WS_sw _ nd acc _ _ (by simp; omega)]
      | false =>
        rw [hq, cond_false] at hlen
        simp only [cond_false]
        rw [wq1e7 (by simp; omega), cond_true, WS_sw _ nd acc _ _ (by simp; omega)]
    | false =>
      simp only [cond_false]
      obtain ⟨_, _, h3, h3'⟩ := ho x hmem
      cases h2 : x.1 == 2 with
      | true =>
        simp only [cond_true]
        exact wq163 (k + 1) _ _ nd col (by omega) (fun k => textS f nd k (col + 2)) (walkS f nd) K lens (6000000 - 200 * (f + 1)) (by omega) (ind (k + 1) (by omega)) x.2.2.2.2.2 h3 x.2.2.2.2.2 0 (n + 1) m (k + 1) acc rfl (by omega) (by omega) hw (by omega)
      | false =>
        obtain ⟨k3, kl, _, _, _, kb⟩ := wq1af hf h1 h2
        have e3 : (x.1 == 3) = true := by rw [k3]; rfl
        simp only [e3, cond_true, cond_false]
        refine wq1ai (k + 1) _ _ nd col (by omega) (fun k => textS f nd k (col + 2)) (isT nd) (walkS f nd) K lens (6000000 - 200 * (f + 1)) (by omega) ?_ _ _ _ _ x.2.2.2.2.1 _ x.2.2.2.2.2 h3 kl (fun q hq => by
          have := wqt9 _ _ kb q hq
          simp only [keyB, Bool.and_eq_true, decide_eq_true_eq] at this
          exact this.2) x.2.2.2.2.2 x.2.2.2.2.1 0 (n + 1) m (k + 1) acc rfl rfl (by omega) (by omega) hw (by omega)
        intro n' m' acc' K' hw' ha'
        have hlt' := wq10o _ _ _ _ hw'
        have hle' := wqrf _ _ _ _ hw'
        obtain ⟨y, hy, hgy, _⟩ := nd_at (nd := nd) (n := n') (by omega)
        have e5 : inb (n' : Int) (nd.length : Int) = true := inb_t (by omega) (by omega)
        have ec : IntKind.i64.wrap ((col : Int) + 2) = ((col + 2 : Nat) : Int) := by rw [wqj (by omega) (by omega)]; omega
        rw [FR_show_writer_pair]
        unfold wqed isT
        rw [hy, e5]
        simp (disch := omega) only [dec_t, dec_f, ieq_t, ieq_f, ine_t, ine_f, inb_t, bnd_t, wqj, wqa, cond_true, cond_false, Bool.not_true, Bool.not_false, Bool.true_or, Bool.or_true, Bool.false_or, Bool.or_false, Bool.true_and, Bool.and_true, Bool.false_and, Bool.and_false, wq2, wq0, wq5, hgy, ec]
        have hk2 : 5000 + 2 * f < k := by omega
        have hb : (blS (col + 2)).length = col + 2 := by simp [blS]
        cases y.1 == 1 with
        | true =>
          simp only [cond_true]
          rw [WB_sw _ nd acc' 32 32 rfl _ (by omega)]
          refine Eq.trans (wq164 nd hn ho f k n' m' (col + 2) _ _ hk2 hw' (by omega) (by simp only [List.length_append, List.length_cons, List.length_nil]; omega)) ?_
          simp [List.append_assoc]
        | false =>
          simp only [cond_false]
          rw [WB_sw _ nd acc' 10 10 rfl _ (by omega), in_eq _ nd _ (col + 2) (by omega) (by simp; omega)]
          refine Eq.trans (wq164 nd hn ho f k n' m' (col + 2) _ _ hk2 hw' (by omega) (by simp only [List.length_append, List.length_cons, List.length_nil, hb]; omega)) ?_
          simp [List.append_assoc]
theorem cat2 (a b : List UInt8) : wqs a ++ wqs b = wqs (a ++ b) := by simp [wqs]
theorem fits_b {a b : List UInt8} (h : a.length + b.length ≤ 100000000) : fits (wqs a).length (wqs b).length 1 = true := fits_t (by rw [wq2q, wq2q]; omega) (by rw [wq2q, wq2q]; omega)
theorem wqvm (k : Nat) {R : Type} (n : Nat) (hn : n ≤ 1000) (K : List Int → Option R) : ∀ (j i m : Nat) (acc : List UInt8), i + j = n → j < m → acc.length + j ≤ 100000000 → wq6e k m (wqs acc) (n : Int) (i : Int) K = K (wqs (acc ++ blS j))
  | j, i, 0, acc, _, h, _ => by omega
  | 0, i, m + 1, acc, h, hm, ha => by
    rw [wq6e, wqbs]
    simp (disch := omega) only [dec_t, dec_f, ieq_t, ieq_f, ine_t, ine_f, inb_t, bnd_t, wqj, wqa, cond_true, cond_false, Bool.not_true, Bool.not_false, Bool.true_or, Bool.or_true, Bool.false_or, Bool.or_false, Bool.true_and, Bool.and_true, Bool.false_and, Bool.and_false, wq2, wq0, wq5]
    simp [blS]
  | j + 1, i, m + 1, acc, h, hm, ha => by
    rw [wq6e, wqbs]
    have e : ([32] : List Int) = wqs [32] := rfl
    rw [e, fits_b (by simp; omega), cat2]
    simp (disch := omega) only [dec_t, dec_f, ieq_t, ieq_f, ine_t, ine_f, inb_t, bnd_t, wqj, wqa, cond_true, cond_false, Bool.not_true, Bool.not_false, Bool.true_or, Bool.or_true, Bool.false_or, Bool.or_false, Bool.true_and, Bool.and_true, Bool.false_and, Bool.and_false, wq2, wq0, wq5, wq1w]
    rw [wqvm k n hn K j (i + 1) m (acc ++ [32]) (by omega) (by omega) (by simp; omega)]
    have : blS (j + 1) = [32] ++ blS j := rfl
    rw [this, List.append_assoc]
theorem wqnz (k : Nat) {R : Type} (n : Nat) (hn : n ≤ 1000) (hk : n < k) (K : List Int → Option R) (acc : List UInt8) (ha : acc.length ≤ 10000000) : wqha k (wqs acc) (n : Int) K = K (wqs (acc ++ blS n)) := by
  unfold wqha wqsw
  exact wqvm k n hn K n 0 k acc (by omega) hk (by omega)
theorem wq1aj (k : Nat) (hk : 5000 < k) {R : Type} (X) (nd : List Nd) (col : Nat) (hc : col ≤ 58) (g : Nat → List UInt8) (w : Nat → Option Nat) (K : List Int → Option R)
    (hg : ∀ n m, w n = some m → n < m ∧ (g n).length + 200 ≤ 1100 * (m - n)) (B : Nat) (hB : B ≤ 6000000)
    (hX : ∀ (n m : Nat) (acc : List UInt8) (K : List Int → Option R), w n = some m → acc.length + 1100 * (m - n) ≤ B + 200 → X R (wqs acc) nd (n : Int) ((col + 2 : Nat) : Int) K = K (wqs (acc ++ g n)))
    (s4 : Int) (s5 : List UInt8) (s6 : Bool) (s7 : List (List UInt8)) (kids : List Int) (hl : kids.length ≤ 4000) :
    ∀ (q : List Int) (i n e m : Nat) (acc : List UInt8), kids.drop i = q → q.length < m → i ≤ kids.length → kidsW w q n = some e → acc.length + 1100 * (e - n) ≤ B →
      wq31 k X m (wqs acc) (col : Int) nd 2 s4 s5 s6 s7 kids (i : Int) K = K (wqs (acc ++ lstS g col (i == 0) q))
  | q, i, n, e, 0, acc, _, h, _, _, _ => by omega
  | [], i, n, e, m + 1, acc, hq, h, hi, hw, ha => by
    have := wq2l hq
    rw [wq31, wq75]
    simp (disch := omega) only [dec_t, dec_f, ieq_t, ieq_f, ine_t, ine_f, inb_t, bnd_t, wqj, wqa, cond_true, cond_false, Bool.not_true, Bool.not_false, Bool.true_or, Bool.or_true, Bool.false_or, Bool.or_false, Bool.true_and, Bool.and_true, Bool.false_and, Bool.and_false, wq2, wq0, wq5, lstS, List.append_nil]
  | c :: q, i, n, e, m + 1, acc, hq, h, hi, hw, ha => by
    obtain ⟨hlt, hc', hr⟩ := wqv hq
    rw [kidsW] at hw
    cases h1 : c == (n : Int) with
    | false => rw [h1] at hw; cases hw
    | true =>
      rw [h1, cond_true] at hw
      have h1 : c = (n : Int) := by simpa using h1
      subst h1
      cases h2 : w n with
      | none => rw [h2] at hw; cases hw
      | some j =>
        rw [h2] at hw
        dsimp only at hw
        obtain ⟨g1, g2⟩ := hg n j h2
        have g3 := (wq10p (g := g) (col := col) (by omega) hg q false j e hw).1
        have e22 : ((2 : Int) == 2) = true := rfl
        have e45 : ([45, 32] : List Int) = wqs [45, 32] := rfl
        have ec : IntKind.i64.wrap ((col : Int) + 2) = ((col + 2 : Nat) : Int) := by rw [wqj (by omega) (by omega)]; omega
        rw [wq31, wq75, lstS, Int.toNat_natCast]
        by_cases h0 : i = 0
        · subst h0
          have e1 : decide (((0 : Nat) : Int) > 0) = false := rfl
          simp (disch := omega) only [dec_t, dec_f, ieq_t, ieq_f, ine_t, ine_f, inb_t, bnd_t, wqj, wqa, cond_true, cond_false, Bool.not_true, Bool.not_false, Bool.true_or, Bool.or_true, Bool.false_or, Bool.or_false, Bool.true_and, Bool.and_true, Bool.false_and, Bool.and_false, wq2, wq0, wq5, hc', wq1w, e1, e22, e45, ec]
          rw [fits_b (by simp; omega), cat2]
          simp only [cond_true, cond_false, beq_self_eq_true, List.nil_append]
          rw [hX n j _ _ h2 (by simp; omega)]
          rw [wq1aj k hk X nd col hc g w K hg B hB hX s4 s5 s6 s7 kids hl q (0 + 1) j e m _ hr (by simp at h; omega) (by omega) hw (by simp; omega)]
          simp [List.append_assoc]
        · have e1 : decide ((i : Int) > 0) = true := dec_t (by omega)
          have e2 : (i == 0) = false := by simpa using h0
          simp (disch := omega) only [dec_t, dec_f, ieq_t, ieq_f, ine_t, ine_f, inb_t, bnd_t, wqj, wqa, cond_true, cond_false, Bool.not_true, Bool.not_false, Bool.true_or, Bool.or_true, Bool.false_or, Bool.or_false, Bool.true_and, Bool.and_true, Bool.false_and, Bool.and_false, wq2, wq0, wq5, hc', wq1w, e1, e2, e22, e45, ec]
          rw [wqnz k col (by omega) (by omega) _ acc (by omega), fits_b (by simp [blS]; omega), cat2]
          simp only [cond_true, cond_false]
          rw [hX n j _ _ h2 (by simp [blS]; omega)]
          rw [wq1aj k hk X nd col hc g w K hg B hB hX s4 s5 s6 s7 kids hl q (i + 1) j e m _ hr (by simp at h; omega) (by omega) hw (by simp [blS]; omega)]
          simp [List.append_assoc]
theorem wq18n (k : Nat) (hk0 : 5000 < k) {R : Type} (X) (nd : List Nd) (hnd : nd.length ≤ 4000) (col : Nat) (hc : col ≤ 58) (g : Nat → List UInt8) (w : Nat → Option Nat) (K : List Int → Option R)
    (hg : ∀ n m, w n = some m → n < m ∧ (g n).length + 200 ≤ 1100 * (m - n)) (hwl : ∀ n m, w n = some m → m ≤ nd.length) (B : Nat) (hB : B ≤ 6000000)
    (hX : ∀ (n m : Nat) (acc : List UInt8) (K : List Int → Option R), w n = some m → acc.length + 1100 * (m - n) ≤ B + 200 → X R (wqs acc) nd (n : Int) ((col + 2 : Nat) : Int) K = K (wqs (acc ++ g n)))
    (s4 : Int) (s5 : List UInt8) (s6 : Bool) (keys : List (List UInt8)) (kids : List Int) (hl : kids.length ≤ 4000) (hk : keys.length = kids.length) (hkl : ∀ q ∈ keys, q.length ≤ 64) :
    ∀ (q : List Int) (ks : List (List UInt8)) (i n e m : Nat) (acc : List UInt8), kids.drop i = q → keys.drop i = ks → q.length < m → i ≤ kids.length → kidsW w q n = some e → acc.length + 1100 * (e - n) ≤ B →
      wq31 k X m (wqs acc) (col : Int) nd 3 s4 s5 s6 keys kids (i : Int) K = K (wqs (acc ++ mapS g (isT nd) col (i == 0) ks q))
  | q, ks, i, n, e, 0, acc, _, _, h, _, _, _ => by omega
  | [], ks, i, n, e, m + 1, acc, hq, hks, h, hi, hw, ha => by
    have := wq2l hq
    have hm : mapS g (isT nd) col (i == 0) ks [] = [] := by cases ks <;> simp [mapS]
    rw [wq31, wq75, hm]
    simp (disch := omega) only [dec_t, dec_f, ieq_t, ieq_f, ine_t, ine_f, inb_t, bnd_t, wqj, wqa, cond_true, cond_false, Bool.not_true, Bool.not_false, Bool.true_or, Bool.or_true, Bool.false_or, Bool.or_false, Bool.true_and, Bool.and_true, Bool.false_and, Bool.and_false, wq2, wq0, wq5, List.append_nil]
  | c :: q, [], i, n, e, m + 1, acc, hq, hks, h, hi, hw, ha => by
    have h1 := wq2l hks
    obtain ⟨hlt, _, _⟩ := wqv hq
    omega
  | c :: q, key :: ks, i, n, e, m + 1, acc, hq, hks, h, hi, hw, ha => by
    obtain ⟨hlt, hc', hr⟩ := wqv hq
    obtain ⟨klt, hkc, hkr⟩ := wqv hks
    have hkey := hkl key (List.mem_of_mem_drop (by rw [hks]; simp))
    rw [kidsW] at hw
    cases h1 : c == (n : Int) with
    | false => rw [h1] at hw; cases hw
    | true =>
      rw [h1, cond_true] at hw
      have h1 : c = (n : Int) := by simpa using h1
      subst h1
      cases h2 : w n with
      | none => rw [h2] at hw; cases hw
      | some j =>
        rw [h2] at hw
        dsimp only at hw
        obtain ⟨g1, g2⟩ := hg n j h2
        have g3 := (wq10p (g := g) (col := col) (by omega) hg q false j e hw).1
        have g4 := hwl n j h2
        obtain ⟨y, hy, hgy, _⟩ := nd_at (nd := nd) (n := n) (by omega)
        have hy1 : isT nd n = (y.1 == 1) := by unfold isT; rw [hy]
        have e22 : ((3 : Int) == 2) = false := rfl
        have e58 : ([58] : List Int) = wqs [58] := rfl
        have e32 : ([32] : List Int) = wqs [32] := rfl
        have e10 : ([10] : List Int) = wqs [10] := rfl
        have ec : IntKind.i64.wrap ((col : Int) + 2) = ((col + 2 : Nat) : Int) := by rw [wqj (by omega) (by omega)]; omega
        have hb : (blS col).length = col := by simp [blS]
        have hb2 : (blS (col + 2)).length = col + 2 := by simp [blS]
        rw [wq31, wq75, mapS]
        by_cases h0 : i = 0
        · subst h0
          have e1 : decide (((0 : Nat) : Int) > 0) = false := rfl
          simp (disch := omega) only [dec_t, dec_f, ieq_t, ieq_f, ine_t, ine_f, inb_t, bnd_t, wqj, wqa, cond_true, cond_false, Bool.not_true, Bool.not_false, Bool.true_or, Bool.or_true, Bool.false_or, Bool.or_false, Bool.true_and, Bool.and_true, Bool.false_and, Bool.and_false, wq2, wq0, wq5, hc', hkc, hgy, hy1, wq1w, e1, e22, e58, e32, e10, ec]
          rw [fits_b (by (try simp); omega), cat2, fits_b (by (try simp); omega), cat2, fits_b (by (try simp); omega), fits_b (by (try simp); omega), cat2, cat2]
          simp only [cond_true, cond_false, beq_self_eq_true, List.nil_append]
          cases y.1 == 1 with
          | true =>
            simp only [cond_true]
            rw [hX n j _ _ h2 (by simp; omega)]
            rw [wq18n k hk0 X nd hnd col hc g w K hg hwl B hB hX s4 s5 s6 keys kids hl hk hkl q ks (0 + 1) j e m _ hr hkr (by simp at h; omega) (by omega) hw (by simp only [List.length_append, List.length_cons, List.length_nil]; omega)]
            simp [List.append_assoc]
          | false =>
            simp only [cond_false]
            rw [wqnz k (col + 2) (by omega) (by omega) _ _ (by simp; omega)]
            rw [hX n j _ _ h2 (by simp [blS]; omega)]
            rw [wq18n k hk0 X nd hnd col hc g w K hg hwl B hB hX s4 s5 s6 keys kids hl hk hkl q ks (0 + 1) j e m _ hr hkr (by simp at h; omega) (by omega) hw (by simp only [List.length_append, List.length_cons, List.length_nil, hb2]; omega)]
            simp [List.append_assoc]
        · have e1 : decide ((i : Int) > 0) = true := dec_t (by omega)
          have e2 : (i == 0) = false := by simpa using h0
          simp (disch := omega) only [dec_t, dec_f, ieq_t, ieq_f, ine_t, ine_f, inb_t, bnd_t, wqj, wqa, cond_true, cond_false, Bool.not_true, Bool.not_false, Bool.true_or, Bool.or_true, Bool.false_or, Bool.or_false, Bool.true_and, Bool.and_true, Bool.false_and, Bool.and_false, wq2, wq0, wq5, hc', hkc, hgy, hy1, wq1w, e1, e2, e22, e58, e32, e10, ec]
          rw [wqnz k col (by omega) (by omega) _ acc (by omega)]
          rw [fits_b (by (try simp [blS]); omega), cat2, fits_b (by (try simp [blS]); omega), cat2, fits_b (by (try simp [blS]); omega), fits_b (by (try simp [blS]); omega), cat2, cat2]
          simp only [cond_true, cond_false]
          cases y.1 == 1 with
          | true =>
            simp only [cond_true]
            rw [hX n j _ _ h2 (by simp [blS]; omega)]
            rw [wq18n k hk0 X nd hnd col hc g w K hg hwl B hB hX s4 s5 s6 keys kids hl hk hkl q ks (i + 1) j e m _ hr hkr (by simp at h; omega) (by omega) hw (by simp only [List.length_append, List.length_cons, List.length_nil, hb]; omega)]
            simp [List.append_assoc]
          | false =>
            simp only [cond_false]
            rw [wqnz k (col + 2) (by omega) (by omega) _ _ (by simp [blS]; omega)]
            rw [hX n j _ _ h2 (by simp [blS]; omega)]
            rw [wq18n k hk0 X nd hnd col hc g w K hg hwl B hB hX s4 s5 s6 keys kids hl hk hkl q ks (i + 1) j e m _ hr hkr (by simp at h; omega) (by omega) hw (by simp only [List.length_append, List.length_cons, List.length_nil, hb, hb2]; omega)]
            simp [List.append_assoc]
theorem wq13p {R : Type} (nd : List Nd) (hn : nd.length ≤ 4000) (ho : ∀ x ∈ nd, okD x) : ∀ (f k n m col : Nat) (acc : List UInt8) (K : List Int → Option R), 5000 + f < k → walkS f nd n = some m → col + 2 * f ≤ 58 → acc.length + 1100 * (m - n) + 200 * f ≤ 6000000 →
    wq2i k R (wqs acc) nd (n : Int) (col : Int) K = K (wqs (acc ++ textS f nd n col))
  | f, 0, n, m, col, acc, K, hk, hw, hc, ha => by omega
  | 0, k + 1, n, m, col, acc, K, hk, hw, hc, ha => by rw [walkS] at hw; cases hw
  | f + 1, k + 1, n, m, col, acc, K, hk, hw, hc, ha => by
    have hlt := wq10o _ _ _ _ hw
    have hle := wqrf _ _ _ _ hw
    obtain ⟨x, hx, hf, hw⟩ := wq10n hw
    have hn1 := (List.getElem?_eq_some_iff.1 hx).1
    have hmem := List.mem_of_getElem? hx
    have hg : ∀ z, nd.getD n z = x := fun z => by rw [List.getD, hx]; rfl
    have e4 : inb (n : Int) (nd.length : Int) = true := inb_t (by omega) (by omega)
    have ind : ∀ (n m : Nat) (acc : List UInt8) (K : List Int → Option R), walkS f nd n = some m → acc.length + 1100 * (m - n) ≤ 6000000 - 200 * (f + 1) + 200 → wq2i k R (wqs acc) nd (n : Int) ((col + 2 : Nat) : Int) K = K (wqs (acc ++ textS f nd n (col + 2))) :=
      fun n m acc K h1 h2 => wq13p nd hn ho f k n m (col + 2) acc K (by omega) h1 (by omega) (by omega)
    have lens : ∀ n m, walkS f nd n = some m → n < m ∧ (textS f nd n (col + 2)).length + 200 ≤ 1100 * (m - n) := fun a b hab => wq160 f nd a b (col + 2) hab (by omega)
    rw [wq2i]
    unfold wql7
    rw [textS, hx, e4]
    simp (disch := omega) only [dec_t, dec_f, ieq_t, ieq_f, ine_t, ine_f, inb_t, bnd_t, wqj, wqa, cond_true, cond_false, Bool.not_true, Bool.not_false, Bool.true_or, Bool.or_true, Bool.false_or, Bool.or_false, Bool.true_and, Bool.and_true, Bool.false_and, Bool.and_false, wq2, wq0, wq5, hg]
    cases h1 : x.1 == 1 with
    | true =>
      obtain ⟨_, _, hl, _⟩ := wq15z hf h1
      have hlen := wq1ag hl
      have e10 : ([10] : List Int) = wqs [10] := rfl
      simp only [cond_true, e10]
      unfold txtN at hlen ⊢
      cases hq : x.2.2.2.1 with
      | true =>
        rw [hq, cond_true] at hlen
        simp only [cond_true]
        rw [wq162 _ _ (by omega) (by omega), fits_b (by omega), cat2, fits_b (by (try simp); omega), cat2]
        simp only [cond_true, List.append_assoc]
      | false =>
        rw [hq, cond_false] at hlen
        simp only [cond_false]
        rw [fits_b (by omega), cat2, fits_b (by (try simp); omega), cat2]
        simp only [cond_true, List.append_assoc]
    | false =>
      simp only [cond_false]
      obtain ⟨_, _, h3, h3'⟩ := ho x hmem
      cases h2 : x.1 == 2 with
      | true =>
        have e2 : x.1 = 2 := by simpa using h2
        rw [e2]
        simp only [cond_true]
        exact wq1aj k (by omega) _ nd col (by omega) (fun k => textS f nd k (col + 2)) (walkS f nd) K lens (6000000 - 200 * (f + 1)) (by omega) ind _ _ _ _ x.2.2.2.2.2 h3 x.2.2.2.2.2 0 (n + 1) m k acc rfl (by omega) (by omega) hw (by omega)
      | false =>
        obtain ⟨k3, kl, _, _, _, kb⟩ := wq1af hf h1 h2
        rw [k3]
        simp only [cond_false]
        exact wq18n k (by omega) _ nd hn col (by omega) (fun k => textS f nd k (col + 2)) (walkS f nd) K lens (fun a b hab => wqrf f nd a b hab) (6000000 - 200 * (f + 1)) (by omega) ind _ _ _ x.2.2.2.2.1 x.2.2.2.2.2 h3 kl (fun q hq => by
          have := wqt9 _ _ kb q hq
          simp only [keyB, Bool.and_eq_true, decide_eq_true_eq] at this
          exact this.2) x.2.2.2.2.2 x.2.2.2.2.1 0 (n + 1) m k acc rfl rfl (by omega) (by omega) hw (by omega)
def outT {R : Type} (K : List Int → Int → Option R) (nd : List Nd) : Option R :=
  bif checkS nd then bif decide ((textS 24 nd 0 0).length > 60000) then K [] 4 else K (wqs (textS 24 nd 0 0)) 0 else K [] 1
theorem wq1bm {nd : List Nd} (h : checkS nd = true) : nd.length ≤ 2000 ∧ walkS 24 nd 0 = some nd.length := by
  unfold checkS at h
  simp only [Bool.and_eq_true, decide_eq_true_eq, beq_iff_eq] at h
  exact h.2
theorem wqrg (k : Nat) {R : Type} (nd : List Nd) (hn : nd.length ≤ 4000) (ho : ∀ x ∈ nd, okD x) (hk : 5100 < k) (K : List Int → Int → Option R) : wqef k nd K = outT K nd := by
  unfold wqef wqu9 outT wq8m
  rw [wqnl k nd hn ho hk]
  cases hc : checkS nd with
  | false => rfl
  | true =>
    obtain ⟨h1, h2⟩ := wq1bm hc
    have e0 : ((0 : Int) != 0) = false := rfl
    have en : ([] : List Int) = wqs [] := rfl
    simp only [cond_true, e0, cond_false]
    rw [en]
    refine Eq.trans (wq164 nd hn ho 24 k 0 nd.length 0 [] _ (by omega) h2 (by omega) (by simp; omega)) ?_
    unfold wq7b wq9u wq5v
    dsimp only
    rw [wqre, wqbt, wq2q, List.nil_append]
    by_cases hb : (textS 24 nd 0 0).length > 60000
    · rw [dec_t hb, dec_t (show ((textS 24 nd 0 0).length : Int) > 60000 by omega)]; rfl
    · rw [dec_f hb, dec_f (show ¬ ((textS 24 nd 0 0).length : Int) > 60000 by omega)]; rfl
theorem wq18o (k : Nat) {R : Type} (nd : List Nd) (hn : nd.length ≤ 4000) (ho : ∀ x ∈ nd, okD x) (hk : 5100 < k) (K : List Int → Int → Option R) : wqel k nd K = outT K nd := by
  unfold wqel wqra outT wqhb
  rw [wqtc k nd hn ho hk]
  cases hc : checkS nd with
  | false => rfl
  | true =>
    obtain ⟨h1, h2⟩ := wq1bm hc
    have en : ([] : List Int) = wqs [] := rfl
    simp only [cond_true, Bool.not_true, cond_false]
    rw [en]
    refine Eq.trans (wq13p nd hn ho 24 k 0 nd.length 0 [] _ (by omega) h2 (by omega) (by simp; omega)) ?_
    rw [wq2q, List.nil_append]
    by_cases hb : (textS 24 nd 0 0).length > 60000
    · rw [dec_t hb, dec_t (show ((textS 24 nd 0 0).length : Int) > 60000 by omega)]
    · rw [dec_f hb, dec_f (show ¬ ((textS 24 nd 0 0).length : Int) > 60000 by omega)]
theorem wq1ak {α : Type} [BEq α] [LawfulBEq α] {R : Type} (z : α) (L : Nat → List α → List α → Int → Int → Option R) (K : Bool → Option R) (x y : List α) (hx : x.length ≤ 4000) (hxy : x.length = y.length)
    (step : ∀ n i, L (n + 1) x y (x.length : Int) i = bif decide (i < (x.length : Int)) then bif inb i (x.length : Int) then bif inb i (y.length : Int) then bif !(x.getD i.toNat z == y.getD i.toNat z) then K false else L n x y (x.length : Int) (IntKind.i64.wrap (i + 1)) else none else none else K true) :
    ∀ (p q : List α) (i m : Nat), x.drop i = p → y.drop i = q → p.length < m → i ≤ x.length → L m x y (x.length : Int) (i : Int) = K (p == q)
  | p, q, i, 0, _, _, h, _ => by omega
  | [], q, i, m + 1, hp, hq, h, hi => by
    have h1 := wq2l hp
    have h2 : q = [] := by rw [← hq]; simp; omega
    subst h2
    rw [step]
    simp (disch := omega) only [dec_t, dec_f, ieq_t, ieq_f, ine_t, ine_f, inb_t, bnd_t, wqj, wqa, cond_true, cond_false, Bool.not_true, Bool.not_false, Bool.true_or, Bool.or_true, Bool.false_or, Bool.or_false, Bool.true_and, Bool.and_true, Bool.false_and, Bool.and_false, wq2, wq0, wq5]
    rfl
  | a :: p, [], i, m + 1, hp, hq, h, hi => by
    obtain ⟨h1, _, _⟩ := wqv hp
    have := wq2l hq
    omega
  | a :: p, b :: q, i, m + 1, hp, hq, h, hi => by
    obtain ⟨h1, h2, h3⟩ := wqv hp
    obtain ⟨g1, g2, g3⟩ := wqv hq
    rw [step]
    simp (disch := omega) only [dec_t, dec_f, ieq_t, ieq_f, ine_t, ine_f, inb_t, bnd_t, wqj, wqa, cond_true, cond_false, Bool.not_true, Bool.not_false, Bool.true_or, Bool.or_true, Bool.false_or, Bool.or_false, Bool.true_and, Bool.and_true, Bool.false_and, Bool.and_false, wq2, wq0, wq5, h2, g2, wq1w]
    have e : ((a :: p) == (b :: q)) = ((a == b) && (p == q)) := rfl
    rw [e]
    cases a == b with
    | false => rfl
    | true =>
      simp only [Bool.not_true, cond_false, Bool.true_and]
      exact wq1ak z L K x y hx hxy step p q (i + 1) m h3 g3 (by simp at h; omega) (by omega)
theorem len_ne {α : Type} [BEq α] [LawfulBEq α] {x y : List α} (h : x.length ≠ y.length) : (x == y) = false := by
  rw [beq_eq_false_iff_ne]
  exact fun e => h (by rw [e])
theorem wq1al (k : Nat) {R : Type} (x y : List (List UInt8)) (hx : x.length ≤ 4000) (hk : 4000 < k) (K : Bool → Option R) : wq3g k x y K = K (x == y) := by
  unfold wq3g wq4s
  by_cases h : x.length = y.length
  · rw [ine_f (by omega), cond_false]
    exact wq1ak ([] : List UInt8) (fun m a b c d => wq1a k m a b c d K) K x y hx h (fun n i => by rw [wq1a]; rfl) x y 0 k rfl rfl (by omega) (by omega)
  · rw [ine_t (by omega), cond_true, len_ne h]
theorem wq1am (k : Nat) {R : Type} (x y : List Int) (hx : x.length ≤ 4000) (hk : 4000 < k) (K : Bool → Option R) : wq5h k x y K = K (x == y) := by
  unfold wq5h wq79
  by_cases h : x.length = y.length
  · rw [ine_f (by omega), cond_false]
    exact wq1ak (0 : Int) (fun m a b c d => wq1x k m a b c d K) K x y hx h (fun n i => by rw [wq1x]; rfl) x y 0 k rfl rfl (by omega) (by omega)
  · rw [ine_t (by omega), cond_true, len_ne h]
theorem wq165 (k : Nat) {R : Type} (x y : Nd) (hx : okD x) (hk : 4000 < k) (K : Bool → Option R) : wqf1 k x.1 x.2.1 x.2.2.1 x.2.2.2.1 x.2.2.2.2.1 x.2.2.2.2.2 y.1 y.2.1 y.2.2.1 y.2.2.2.1 y.2.2.2.2.1 y.2.2.2.2.2 K = K (sameN x y) := by
  unfold wqf1 wqmw sameN
  obtain ⟨_, h2, h3, _⟩ := hx
  rw [wq1al k _ _ h2 hk, wq1am k _ _ h3 hk]
  cases x.1 == y.1 <;> cases x.2.2.1 == y.2.2.1 <;> cases x.2.2.2.1 == y.2.2.2.1 <;> cases x.2.2.2.2.1 == y.2.2.2.2.1 <;> rfl
theorem wqte (k : Nat) {R : Type} (x y : List Nd) (hx : x.length ≤ 4000) (ho : ∀ z ∈ x, okD z) (hxy : x.length = y.length) (hk : 4000 < k) (K : Bool → Option R) : ∀ (p q : List Nd) (i m : Nat), x.drop i = p → y.drop i = q → p.length < m → i ≤ x.length →
    wqc k m y x (x.length : Int) (i : Int) K = K (sameS p q)
  | p, q, i, 0, _, _, h, _ => by omega
  | [], q, i, m + 1, hp, hq, h, hi => by
    have h1 := wq2l hp
    have h2 : q = [] := by rw [← hq]; simp; omega
    subst h2
    rw [wqc, wqw]
    simp (disch := omega) only [dec_t, dec_f, ieq_t, ieq_f, ine_t, ine_f, inb_t, bnd_t, wqj, wqa, cond_true, cond_false, Bool.not_true, Bool.not_false, Bool.true_or, Bool.or_true, Bool.false_or, Bool.or_false, Bool.true_and, Bool.and_true, Bool.false_and, Bool.and_false, wq2, wq0, wq5]
    rfl
  | a :: p, [], i, m + 1, hp, hq, h, hi => by
    obtain ⟨h1, _, _⟩ := wqv hp
    have := wq2l hq
    omega
  | a :: p, b :: q, i, m + 1, hp, hq, h, hi => by
    obtain ⟨h1, h2, h3⟩ := wqv hp
    obtain ⟨g1, g2, g3⟩ := wqv hq
    have hm := ho a (List.mem_of_mem_drop (by rw [hp]; simp))
    rw [wqc, wqw]
    simp (disch := omega) only [dec_t, dec_f, ieq_t, ieq_f, ine_t, ine_f, inb_t, bnd_t, wqj, wqa, cond_true, cond_false, Bool.not_true, Bool.not_false, Bool.true_or, Bool.or_true, Bool.false_or, Bool.or_false, Bool.true_and, Bool.and_true, Bool.false_and, Bool.and_false, wq2, wq0, wq5, h2, g2, wq1w]
    rw [wq165 k a b hm hk, sameS]
    cases sameN a b with
    | false => rfl
    | true =>
      simp only [Bool.not_true, cond_false, Bool.true_and]
      exact wqte k x y hx ho hxy hk K p q (i + 1) m h3 g3 (by simp at h; omega) (by omega)
theorem wq166 : ∀ {x y : List Nd}, x.length ≠ y.length → sameS x y = false
  | [], [], h => absurd rfl h
  | [], _ :: _, _ => rfl
  | _ :: _, [], _ => rfl
  | a :: x, b :: y, h => by rw [sameS, wq166 (by simpa using h), Bool.and_false]
theorem wql9 (k : Nat) {R : Type} (x y : List Nd) (hx : x.length ≤ 4000) (ho : ∀ z ∈ x, okD z) (hk : 4000 < k) (K : Bool → Option R) : wq8c k x y K = K (sameS x y) := by
  unfold wq8c wqu6 wq1f wq1e
  by_cases h : x.length = y.length
  · rw [ine_f (by omega), cond_false]
    exact wqte k x y hx ho h hk _ x y 0 k rfl rfl (by omega) (by omega)
  · rw [ine_t (by omega), cond_true, wq166 h]
theorem wq18p (k : Nat) {R : Type} (J : List Nd → List Nd → Int → Option R) (K : Bool → Option R) (s0 s1 : List Nd) (s2 s3 s4 : Int) (s5 : List UInt8) (s6 : Bool) (x : List (List UInt8)) (hx : x.length ≤ 4000) (s8 : List Int) (s9 s10 : Int) (s11 : List UInt8) (s12 : Bool) (y : List (List UInt8)) (hxy : x.length = y.length) (s14 : List Int) :
    ∀ (p q : List (List UInt8)) (i m : Nat), x.drop i = p → y.drop i = q → p.length < m → i ≤ x.length → wq3j k J m s0 s1 s2 s3 s4 s5 s6 x s8 s9 s10 s11 s12 y s14 (i : Int) K = bif p == q then wq44 k J k s0 s1 s2 s3 s4 s5 s6 x s8 s9 s10 s11 s12 y s14 0 K else K false
  | p, q, i, 0, _, _, h, _ => by omega
  | [], q, i, m + 1, hp, hq, h, hi => by
    have h1 := wq2l hp
    have h2 : q = [] := by rw [← hq]; simp; omega
    subst h2
    rw [wq3j, wq8g]
    simp (disch := omega) only [dec_t, dec_f, ieq_t, ieq_f, ine_t, ine_f, inb_t, bnd_t, wqj, wqa, cond_true, cond_false, Bool.not_true, Bool.not_false, Bool.true_or, Bool.or_true, Bool.false_or, Bool.or_false, Bool.true_and, Bool.and_true, Bool.false_and, Bool.and_false, wq2, wq0, wq5]
    rfl
  | a :: p, [], i, m + 1, hp, hq, h, hi => by
    obtain ⟨h1, _, _⟩ := wqv hp
    have := wq2l hq
    omega
  | a :: p, b :: q, i, m + 1, hp, hq, h, hi => by
    obtain ⟨h1, h2, h3⟩ := wqv hp
    obtain ⟨g1, g2, g3⟩ := wqv hq
    rw [wq3j, wq8g]
    simp (disch := omega) only [dec_t, dec_f, ieq_t, ieq_f, ine_t, ine_f, inb_t, bnd_t, wqj, wqa, cond_true, cond_false, Bool.not_true, Bool.not_false, Bool.true_or, Bool.or_true, Bool.false_or, Bool.or_false, Bool.true_and, Bool.and_true, Bool.false_and, Bool.and_false, wq2, wq0, wq5, h2, g2, wq1w]
    have e : ((a :: p) == (b :: q)) = ((a == b) && (p == q)) := rfl
    rw [e]
    cases a == b with
    | false => rfl
    | true =>
      simp only [Bool.not_true, cond_false, Bool.true_and]
      exact wq18p k J K s0 s1 s2 s3 s4 s5 s6 x hx s8 s9 s10 s11 s12 y hxy s14 p q (i + 1) m h3 g3 (by simp at h; omega) (by omega)
theorem wq18q (k : Nat) {R : Type} (J : List Nd → List Nd → Int → Option R) (K : Bool → Option R) (s0 s1 : List Nd) (n : Nat) (hn : n ≤ 4000) (s3 s4 : Int) (s5 : List UInt8) (s6 : Bool) (s7 : List (List UInt8)) (x : List Int) (hx : x.length ≤ 4000) (s9 s10 : Int) (s11 : List UInt8) (s12 : Bool) (s13 : List (List UInt8)) (y : List Int) (hxy : x.length = y.length) :
    ∀ (p q : List Int) (i m : Nat), x.drop i = p → y.drop i = q → p.length < m → i ≤ x.length → wq44 k J m s0 s1 (n : Int) s3 s4 s5 s6 s7 x s9 s10 s11 s12 s13 y (i : Int) K = bif p == q then J s0 s1 ((n + 1 : Nat) : Int) else K false
  | p, q, i, 0, _, _, h, _ => by omega
  | [], q, i, m + 1, hp, hq, h, hi => by
    have h1 := wq2l hp
    have h2 : q = [] := by rw [← hq]; simp; omega
    subst h2
    rw [wq44, wqag]
    simp (disch := omega) only [dec_t, dec_f, ieq_t, ieq_f, ine_t, ine_f, inb_t, bnd_t, wqj, wqa, cond_true, cond_false, Bool.not_true, Bool.not_false, Bool.true_or, Bool.or_true, Bool.false_or, Bool.or_false, Bool.true_and, Bool.and_true, Bool.false_and, Bool.and_false, wq2, wq0, wq5, wq1w]
    rfl
  | a :: p, [], i, m + 1, hp, hq, h, hi => by
    obtain ⟨h1, _, _⟩ := wqv hp
    have := wq2l hq
    omega
  | a :: p, b :: q, i, m + 1, hp, hq, h, hi => by
    obtain ⟨h1, h2, h3⟩ := wqv hp
    obtain ⟨g1, g2, g3⟩ := wqv hq
    rw [wq44, wqag]
    simp (disch := omega) only [dec_t, dec_f, ieq_t, ieq_f, ine_t, ine_f, inb_t, bnd_t, wqj, wqa, cond_true, cond_false, Bool.not_true, Bool.not_false, Bool.true_or, Bool.or_true, Bool.false_or, Bool.or_false, Bool.true_and, Bool.and_true, Bool.false_and, Bool.and_false, wq2, wq0, wq5, h2, g2, wq1w]
    have e : ((a :: p) == (b :: q)) = ((a == b) && (p == q)) := rfl
    have e2 : (a != b) = !(a == b) := rfl
    rw [e, e2]
    cases a == b with
    | false => rfl
    | true =>
      simp only [Bool.not_true, cond_false, Bool.true_and]
      exact wq18q k J K s0 s1 n hn s3 s4 s5 s6 s7 x hx s9 s10 s11 s12 s13 y hxy p q (i + 1) m h3 g3 (by simp at h; omega) (by omega)
theorem wq18r (k : Nat) {R : Type} (x y : List Nd) (hx : x.length ≤ 4000) (ho : ∀ z ∈ x, okD z) (hxy : x.length = y.length) (hk : 4000 < k) (K : Bool → Option R) : ∀ (p q : List Nd) (i m : Nat), x.drop i = p → y.drop i = q → p.length < m → i ≤ x.length →
    wq45 k m x y (i : Int) K = K (sameS p q)
  | p, q, i, 0, _, _, h, _ => by omega
  | [], q, i, m + 1, hp, hq, h, hi => by
    have h1 := wq2l hp
    have h2 : q = [] := by rw [← hq]; simp; omega
    subst h2
    rw [wq45, wqaf]
    simp (disch := omega) only [dec_t, dec_f, ieq_t, ieq_f, ine_t, ine_f, inb_t, bnd_t, wqj, wqa, cond_true, cond_false, Bool.not_true, Bool.not_false, Bool.true_or, Bool.or_true, Bool.false_or, Bool.or_false, Bool.true_and, Bool.and_true, Bool.false_and, Bool.and_false, wq2, wq0, wq5]
    rfl
  | a :: p, [], i, m + 1, hp, hq, h, hi => by
    obtain ⟨h1, _, _⟩ := wqv hp
    have := wq2l hq
    omega
  | a :: p, b :: q, i, m + 1, hp, hq, h, hi => by
    obtain ⟨h1, h2, h3⟩ := wqv hp
    obtain ⟨g1, g2, g3⟩ := wqv hq
    obtain ⟨_, o2, o3, _⟩ := ho a (List.mem_of_mem_drop (by rw [hp]; simp))
    have ih := wq18r k x y hx ho hxy hk K p q (i + 1) m h3 g3 (by simp at h; omega) (by omega)
    rw [wq45, wqaf]
    simp (disch := omega) only [dec_t, dec_f, ieq_t, ieq_f, ine_t, ine_f, inb_t, bnd_t, wqj, wqa, cond_true, cond_false, Bool.not_true, Bool.not_false, Bool.true_or, Bool.or_true, Bool.false_or, Bool.or_false, Bool.true_and, Bool.and_true, Bool.false_and, Bool.and_false, wq2, wq0, wq5, h2, g2, wq1w, wq1do]
    rw [sameS, sameN]
    have e1 : (a.1 != b.1) = !(a.1 == b.1) := rfl
    rw [e1]
    cases a.1 == b.1 with
    | false => rfl
    | true =>
      cases a.2.2.1 == b.2.2.1 with
      | false => rfl
      | true =>
        cases a.2.2.2.1 == b.2.2.2.1 with
        | false => rfl
        | true =>
          by_cases l1 : a.2.2.2.2.1.length = b.2.2.2.2.1.length
          · by_cases l2 : a.2.2.2.2.2.length = b.2.2.2.2.2.length
            · rw [ine_f (show (a.2.2.2.2.1.length : Int) = b.2.2.2.2.1.length by omega), ine_f (show (a.2.2.2.2.2.length : Int) = b.2.2.2.2.2.length by omega)]
              simp only [Bool.not_true, cond_false, Bool.true_and]
              refine Eq.trans (wq18p k _ K x y _ _ _ _ _ a.2.2.2.2.1 o2 _ _ _ _ _ b.2.2.2.2.1 l1 _ a.2.2.2.2.1 b.2.2.2.2.1 0 k rfl rfl (by omega) (by omega)) ?_
              cases a.2.2.2.2.1 == b.2.2.2.2.1 with
              | false => rfl
              | true =>
                rw [cond_true]
                refine Eq.trans (wq18q k _ K x y i (by omega) _ _ _ _ _ a.2.2.2.2.2 o3 _ _ _ _ _ b.2.2.2.2.2 l2 a.2.2.2.2.2 b.2.2.2.2.2 0 k rfl rfl (by omega) (by omega)) ?_
                cases a.2.2.2.2.2 == b.2.2.2.2.2 with
                | false => rfl
                | true => simpa using ih
            · rw [ine_f (show (a.2.2.2.2.1.length : Int) = b.2.2.2.2.1.length by omega), ine_t (show (a.2.2.2.2.2.length : Int) ≠ b.2.2.2.2.2.length by omega), len_ne l2, Bool.and_false]
              rfl
          · rw [ine_t (show (a.2.2.2.2.1.length : Int) ≠ b.2.2.2.2.1.length by omega), len_ne l1]
            rfl
theorem wq18s (k : Nat) {R : Type} (x y : List Nd) (hx : x.length ≤ 4000) (ho : ∀ z ∈ x, okD z) (hk : 4000 < k) (K : Bool → Option R) : wqck k x y K = K (sameS x y) := by
  unfold wqck wql5
  by_cases h : x.length = y.length
  · rw [ine_f (by omega), cond_false]
    exact wq18r k x y hx ho h hk _ x y 0 k rfl rfl (by omega) (by omega)
  · rw [ine_t (by omega), cond_true, wq166 h]
theorem wq1e8 (x : Nd) : sameN x x = true := by simp [sameN]
theorem wq18t : ∀ x : List Nd, sameS x x = true
  | [] => rfl
  | x :: r => by rw [sameS, wq1e8, wq18t r]; rfl
def mn (n : Nat) : Nat := if 4001 < n then 4001 else n
theorem mn_eq (n : Nat) : (if (4001 : Int) < (n : Int) then 4001 else (n : Int)) = (mn n : Int) := by
  unfold mn
  split <;> split <;> omega
def hvK : Nat → List (List UInt8) → Nat
  | a, [] => a
  | a, q :: r => if a ≤ 4000 then hvK (a + mn q.length) r else a
def hvN : Nat → List Nd → Nat
  | a, [] => a
  | a, x :: r => if a ≤ 4000 then hvN (hvK (a + mn x.2.2.1.length + mn x.2.2.2.2.1.length + mn x.2.2.2.2.2.length) x.2.2.2.2.1) r else a
theorem mn_le (n : Nat) : mn n ≤ 4001 := by unfold mn; split <;> omega
theorem mn_ok {n : Nat} (h : mn n ≤ 4000) : n ≤ 4000 := by unfold mn at h; split at h <;> omega
theorem hvK_le : ∀ (r : List (List UInt8)) (a : Nat), a ≤ hvK a r ∧ hvK a r ≤ max a 8001
  | [], a => by rw [hvK]; omega
  | q :: r, a => by
    rw [hvK]
    have h0 := mn_le q.length
    split
    · have := hvK_le r (a + mn q.length)
      omega
    · omega
theorem hvK_ok : ∀ (r : List (List UInt8)) (a : Nat), hvK a r ≤ 4000 → ∀ q ∈ r, q.length ≤ 4000
  | [], a, _, q, hq => by cases hq
  | x :: r, a, h, q, hq => by
    have ha := (hvK_le (x :: r) a).1
    have ha : a ≤ 4000 := by omega
    rw [hvK, if_pos ha] at h
    have hb := (hvK_le r (a + mn x.length)).1
    rcases List.mem_cons.1 hq with rfl | hq
    · exact mn_ok (by omega)
    · exact hvK_ok r _ h q hq
theorem hvN_le : ∀ (r : List Nd) (a : Nat), a ≤ hvN a r
  | [], a => by rw [hvN]; omega
  | x :: r, a => by
    rw [hvN]
    split
    · have h1 := hvN_le r (hvK (a + mn x.2.2.1.length + mn x.2.2.2.2.1.length + mn x.2.2.2.2.2.length) x.2.2.2.2.1)
      have h2 := (hvK_le x.2.2.2.2.1 (a + mn x.2.2.1.length + mn x.2.2.2.2.1.length + mn x.2.2.2.2.2.length)).1
      omega
    · omega
theorem hvN_ok : ∀ (r : List Nd) (a : Nat), hvN a r ≤ 4000 → a ≤ 4000 ∧ ∀ x ∈ r, okD x
  | [], a, h => ⟨by rw [hvN] at h; exact h, fun x hx => by cases hx⟩
  | y :: r, a, h => by
    have ha := hvN_le (y :: r) a
    have ha : a ≤ 4000 := by omega
    rw [hvN, if_pos ha] at h
    obtain ⟨h1, h2⟩ := hvN_ok r _ h
    have h3 := (hvK_le y.2.2.2.2.1 (a + mn y.2.2.1.length + mn y.2.2.2.2.1.length + mn y.2.2.2.2.2.length)).1
    refine ⟨by omega, fun x hx => ?_⟩
    rcases List.mem_cons.1 hx with rfl | hx
    · exact ⟨mn_ok (by omega), mn_ok (by omega), mn_ok (by omega), hvK_ok _ _ h1⟩
    · exact h2 x hx
theorem wq18u (k : Nat) {R : Type} (J : List Nd → Int → Int → Option R) (K : Bool → Option R) (nd : List Nd) (i : Nat) (hi : i ≤ 140737488351232) (s3 s4 : Int) (s5 : List UInt8) (s6 : Bool) (keys : List (List UInt8)) (hk : keys.length ≤ 140737488351232) (s8 : List Int) :
    ∀ (p : List (List UInt8)) (j m a : Nat), keys.drop j = p → p.length < m → j ≤ keys.length → a ≤ 100000 → wq3o k J m nd (a : Int) (i : Int) s3 s4 s5 s6 keys s8 (j : Int) K = J nd (hvK a p : Int) ((i + 1 : Nat) : Int)
  | p, j, 0, a, _, h, _, _ => by omega
  | [], j, m + 1, a, hp, h, hj, ha => by
    have h1 := wq2l hp
    rw [wq3o, wq9b]
    simp (disch := omega) only [dec_t, dec_f, ieq_t, ieq_f, ine_t, ine_f, inb_t, bnd_t, wqj, wqa, cond_true, cond_false, Bool.not_true, Bool.not_false, Bool.true_or, Bool.or_true, Bool.false_or, Bool.or_false, Bool.true_and, Bool.and_true, Bool.false_and, Bool.and_false, wq2, wq0, wq5, wq1w]
    rw [hvK]
  | q :: p, j, m + 1, a, hp, h, hj, ha => by
    obtain ⟨h1, h2, h3⟩ := wqv hp
    rw [wq3o, wq9b, hvK]
    by_cases hc : a ≤ 4000
    · have h0 := mn_le q.length
      rw [if_pos hc]
      simp (disch := omega) only [dec_t, dec_f, ieq_t, ieq_f, ine_t, ine_f, inb_t, bnd_t, wqj, wqa, cond_true, cond_false, Bool.not_true, Bool.not_false, Bool.true_or, Bool.or_true, Bool.false_or, Bool.or_false, Bool.true_and, Bool.and_true, Bool.false_and, Bool.and_false, wq2, wq0, wq5, h2, wq1w, mn_eq, wqrd]
      exact wq18u k J K nd i hi s3 s4 s5 s6 keys hk s8 p (j + 1) m (a + mn q.length) h3 (by simp at h; omega) (by omega) (by omega)
    · rw [if_neg hc]
      simp (disch := omega) only [dec_t, dec_f, ieq_t, ieq_f, ine_t, ine_f, inb_t, bnd_t, wqj, wqa, cond_true, cond_false, Bool.not_true, Bool.not_false, Bool.true_or, Bool.or_true, Bool.false_or, Bool.or_false, Bool.true_and, Bool.and_true, Bool.false_and, Bool.and_false, wq2, wq0, wq5, wq1w]
theorem wq18v (k : Nat) {R : Type} (K : Bool → Option R) (nd : List Nd) (hn : nd.length ≤ 140737488351232) (ho : ∀ x ∈ nd, x.2.2.2.2.1.length ≤ 140737488351232 ∧ x.2.2.2.2.1.length < k) :
    ∀ (p : List Nd) (i m a : Nat), nd.drop i = p → p.length < m → i ≤ nd.length → a ≤ 140737488351232 → wq3p k m nd (a : Int) (i : Int) K = K (decide (hvN a p > 4000))
  | p, i, 0, a, _, h, _, _ => by omega
  | [], i, m + 1, a, hp, h, hi, ha => by
    have h1 := wq2l hp
    rw [wq3p, wq9a, hvN]
    simp (disch := omega) only [dec_t, dec_f, ieq_t, ieq_f, ine_t, ine_f, inb_t, bnd_t, wqj, wqa, cond_true, cond_false, Bool.not_true, Bool.not_false, Bool.true_or, Bool.or_true, Bool.false_or, Bool.or_false, Bool.true_and, Bool.and_true, Bool.false_and, Bool.and_false, wq2, wq0, wq5]
    congr 1
    rw [Bool.eq_iff_iff]; simp; omega
  | x :: p, i, m + 1, a, hp, h, hi, ha => by
    obtain ⟨h1, h2, h3⟩ := wqv hp
    obtain ⟨o1, o2⟩ := ho x (List.mem_of_mem_drop (by rw [hp]; simp))
    rw [wq3p, wq9a, hvN]
    by_cases hc : a ≤ 4000
    · have m1 := mn_le x.2.2.1.length
      have m2 := mn_le x.2.2.2.2.1.length
      have m3 := mn_le x.2.2.2.2.2.length
      have m4 := hvK_le x.2.2.2.2.1 (a + mn x.2.2.1.length + mn x.2.2.2.2.1.length + mn x.2.2.2.2.2.length)
      rw [if_pos hc]
      simp (disch := omega) only [dec_t, dec_f, ieq_t, ieq_f, ine_t, ine_f, inb_t, bnd_t, wqj, wqa, cond_true, cond_false, Bool.not_true, Bool.not_false, Bool.true_or, Bool.or_true, Bool.false_or, Bool.or_false, Bool.true_and, Bool.and_true, Bool.false_and, Bool.and_false, wq2, wq0, wq5, h2, wq1w, mn_eq, wqrd]
      refine Eq.trans (wq18u k _ K nd i (by omega) _ _ _ _ x.2.2.2.2.1 o1 _ x.2.2.2.2.1 0 k _ rfl o2 (by omega) (by omega)) ?_
      exact wq18v k K nd hn ho p (i + 1) m _ h3 (by simp at h; omega) (by omega) (by omega)
    · rw [if_neg hc]
      simp (disch := omega) only [dec_t, dec_f, ieq_t, ieq_f, ine_t, ine_f, inb_t, bnd_t, wqj, wqa, cond_true, cond_false, Bool.not_true, Bool.not_false, Bool.true_or, Bool.or_true, Bool.false_or, Bool.or_false, Bool.true_and, Bool.and_true, Bool.false_and, Bool.and_false, wq2, wq0, wq5]
theorem wq1e9 (k : Nat) {R : Type} (K : Bool → Option R) (nd : List Nd) (hn : nd.length ≤ 140737488351232) (hk : nd.length < k) (ho : ∀ x ∈ nd, x.2.2.2.2.1.length ≤ 140737488351232 ∧ x.2.2.2.2.1.length < k) : wqcs k nd K = K (decide (hvN nd.length nd > 4000)) := by
  unfold wqcs wqi7
  exact wq18v k K nd hn ho nd 0 k nd.length rfl hk (by omega) hn
def bigK : List Nd → Nat
  | [] => 0
  | x :: r => x.2.2.2.2.1.length + bigK r
theorem wq1an : ∀ {r : List Nd} {x : Nd}, x ∈ r → x.2.2.2.2.1.length ≤ bigK r
  | y :: r, x, h => by
    rw [bigK]
    rcases List.mem_cons.1 h with rfl | h
    · omega
    · have := wq1an h; omega
theorem nd_wf {nd : List Nd} (h : Wf (.sl kNd) nd) : nd.length ≤ 140737488351232 ∧ ∀ x ∈ nd, x.2.2.2.2.1.length ≤ 140737488351232 := by
  obtain ⟨h1, h2⟩ := h
  have e1 : kNd.lob = 81 := rfl
  have e2 : Kd.lob .str = 16 := rfl
  rw [e1] at h1
  refine ⟨by omega, fun x hx => ?_⟩
  obtain ⟨_, _, _, _, h3, _⟩ := h2 x hx
  have h4 := h3.1
  rw [e2] at h4
  have h5 : x.2.2.2.2.1.length * 16 ≤ 140737488351232 := h4
  omega
def dA : List Nd := [(3, 0, [], false, [[97]], [1]), (2, 0, [], false, [], [2, 3]), (1, 0, [98], false, [], []), (1, 0, [99], true, [], [])]
theorem wq10r (k : Nat) {R : Type} (hk : 5100 < k) (K : Bool → Option R) : wq8n k K = K true := by
  have oA : ∀ x ∈ dA, okD x := by
    intro x hx
    simp only [dA, List.mem_cons, List.not_mem_nil, or_false] at hx
    rcases hx with rfl | rfl | rfl | rfl <;> exact ⟨by decide, by decide, by decide, by decide⟩
  have o0 : ∀ x ∈ ([] : List Nd), okD x := fun x hx => by cases hx
  have c1 : checkS dA = true := by decide +kernel
  have c2 : textS 24 dA 0 0 = [97, 58, 10, 32, 32, 45, 32, 98, 10, 32, 32, 45, 32, 34, 99, 34, 10] := by decide +kernel
  have c3 : checkS [] = false := rfl
  unfold wq8n wqn4
  have eA : ([(3, 0, [], false, [[97]], [1]), (2, 0, [], false, [], [2, 3]), (1, 0, [98], false, [], []), (1, 0, [99], true, [], [])] : List Nd) = dA := rfl
  rw [eA, wqrg k dA (by decide) oA hk, outT, c1, c2, cond_true]
  have c4 : decide (([97, 58, 10, 32, 32, 45, 32, 98, 10, 32, 32, 45, 32, 34, 99, 34, 10] : List UInt8).length > 60000) = false := by decide
  rw [c4, cond_false, wqrg k [] (by decide) o0 hk, outT, c3, cond_false, wqnl k dA (by decide) oA hk, c1, wqbt, wql9 k dA dA (by decide) oA (by omega), wql9 k dA [] (by decide) oA (by omega)]
  rfl
theorem checkI (nd : List Nd) : (((bif checkS nd then 0 else 1 : Int) == 0) == checkS nd) = true := by cases checkS nd <;> rfl
theorem wq1ao (x y : List Nd) (hx : x.length ≤ 140737488351232 ∧ ∀ z ∈ x, z.2.2.2.2.1.length ≤ 140737488351232) (hy : y.length ≤ 140737488351232 ∧ ∀ z ∈ y, z.2.2.2.2.1.length ≤ 140737488351232) : ∃ k, wqb8 k x y (fun b => some b) = some true := by
  obtain ⟨k, hk⟩ : ∃ k : Nat, k = 6000 + (x.length + bigK x) + (y.length + bigK y) := ⟨_, rfl⟩
  refine ⟨k, ?_⟩
  unfold wqb8 wqhc
  rw [wq1e9 k _ x hx.1 (by omega) fun z hz => ⟨hx.2 z hz, by have := wq1an hz; omega⟩]
  by_cases h1 : hvN x.length x > 4000
  · rw [dec_t h1]
    exact wq10r k (by omega) _
  rw [dec_f h1]
  simp only [wq0, Bool.not_false, cond_true]
  rw [wq1e9 k _ y hy.1 (by omega) fun z hz => ⟨hy.2 z hz, by have := wq1an hz; omega⟩]
  by_cases h2 : hvN y.length y > 4000
  · rw [dec_t h2]
    exact wq10r k (by omega) _
  rw [dec_f h2, cond_false]
  obtain ⟨n1, o1⟩ := hvN_ok x x.length (by omega)
  have fin : ∀ (b : List Int) (e : Int), ((fun y7 y8 => wqel k x fun y9 y10 =>
      wq9t k x fun y11 => wq9k k x fun y12 => bif ((y11 == 0) == y12) == true then
        wqah k y7 y9 fun y13 => bif (bif y13 then y8 == y10 else false) == true then
          wq8c k x y fun y14 => wqck k x y fun y15 => bif (y14 == y15) == true then
            wq8c k x x fun y16 => bif y16 == true then wq8n k fun y17 => some y17 else some false
          else some false
        else some false
      else some false) : List Int → Int → Option Bool) b e = (outT (fun y9 y10 => bif (bif wq6d b == wq6d y9 then e == y10 else false) == true then some true else some false) x) := by
    intro b e
    dsimp only
    rw [wq18o k x n1 o1 (by omega)]
    unfold outT
    have step : ∀ (b' : List Int) (e' : Int), (wq9t k x fun y11 => wq9k k x fun y12 => bif ((y11 == 0) == y12) == true then
        wqah k b b' fun y13 => bif (bif y13 then e == e' else false) == true then
          wq8c k x y fun y14 => wqck k x y fun y15 => bif (y14 == y15) == true then
            wq8c k x x fun y16 => bif y16 == true then wq8n k fun y17 => some y17 else some false
          else some false
        else some false
      else some false) = bif (bif wq6d b == wq6d b' then e == e' else false) == true then some true else some false := by
      intro b' e'
      rw [wqnl k x n1 o1 (by omega), wqtc k x n1 o1 (by omega), checkI]
      unfold wqah wqiw
      simp only [beq_self_eq_true, cond_true]
      rw [wql9 k x y n1 o1 (by omega), wq18s k x y n1 o1 (by omega), wql9 k x x n1 o1 (by omega), wq18t, wq10r k (by omega)]
      simp only [beq_self_eq_true, cond_true]
    cases checkS x with
    | false => exact step _ _
    | true =>
      simp only [cond_true]
      cases decide ((textS 24 x 0 0).length > 60000) <;> exact step _ _
  rw [wqrg k x n1 o1 (by omega)]
  unfold outT at fin ⊢
  cases hc : checkS x with
  | false => rw [cond_false]; refine Eq.trans (fin _ _) ?_; rw [hc]; rfl
  | true =>
    rw [cond_true]
    cases hb : decide ((textS 24 x 0 0).length > 60000) with
    | true => rw [cond_true]; refine Eq.trans (fin _ _) ?_; rw [hc, hb]; rfl
    | false => rw [cond_false]; refine Eq.trans (fin _ _) ?_; rw [hc, hb, cond_true, cond_false]; simp
theorem wq18w (x y : (Kd.sl (.pr (.int .i64) (.pr (.int .i64) (.pr .str (.pr .bool (.pr (.sl .str) (.sl (.int .i64)))))))).T) (hx : Wf (.sl (.pr (.int .i64) (.pr (.int .i64) (.pr .str (.pr .bool (.pr (.sl .str) (.sl (.int .i64)))))))) x) (hy : Wf (.sl (.pr (.int .i64) (.pr (.int .i64) (.pr .str (.pr .bool (.pr (.sl .str) (.sl (.int .i64)))))))) y) : ∃ k, wqb8 k x y (fun b => some b) = some true := wq1ao x y (nd_wf hx) (nd_wf hy)
end Go.Proofs.YtdfhgimidmfgfaaDoor.Pvm
namespace Go.Proofs.YtdfhgimidmfgfaaDoor.showDocs
open Go Go.Proofs Go.ChangeShapes Go.WideShapes Go.ChangeAt Go.RowKit Go.Proofs.YtdfhgimidmfgfaaDoor.Pvm
theorem own : ownKnob Tryd.prog.godebug = none := by kernel_rfl
theorem laidOut : laidOutB Tryd.prog = true := by kernel_rfl
set_option maxRecDepth 100000 in
theorem lifted (os : Os) (started : os.Started) (H : Type) (enc : TypeId × Value → H) :
    ReturnsInHanded {} Tryd.checked os 3 .any (fun w args => (Rows.showDocsSpec.pre enc Tryd.prog Tryd.f3 Rows.showDocsRow.domain false w args ∧ laidMetH Tryd.prog Rows.showDocsRow.laid w) ∧ sizedMet enc Tryd.prog Tryd.f3 (OpenSpec.ofChange Rows.showDocsSpec) false w args) (Rows.showDocsSpec.post enc Tryd.prog Tryd.f3 false true false false) := by
  refine returnsInHanded_of_change_and (C := Tryd.checked) (X := fun w _ => laidMetH Tryd.prog Rows.showDocsRow.laid w) (fun _ _ _ hh h => h.of_heap hh) own started (by kernel_rfl) Tryd.func3
    (ChangeSpec.witness_shaped (enc := enc) (C := Tryd.checked) (os := os) (X := fun w _ => laidMetH Tryd.prog Rows.showDocsRow.laid w) false (World.laidAll Tryd.prog os Rows.showDocsRow.laid) #[.agg #[.slice none 0 0], .agg #[.slice none 0 0]] 8 (World.laidAll_os _ _ _)
      (World.shaped_of_ZipB (by kernel_rfl) (by kernel_rfl)) (by kernel_rfl) (by kernel_rfl) (by kernel_rfl)
      (by rw [MakeChecks.laidMetH_plain _ _ _ (by kernel_rfl)]; exact laidMet_laidAll _ (by kernel_rfl) (by kernel_rfl))) ?_
  intro W base args ds gs before hval0 hW hcnd hsz0 hL _
  have hsz : (DataW.weightsEach Tryd.prog (Tryd.f3.params.toList ++ Rows.showDocsSpec.plain.varTypes Tryd.prog) (ds ++ gs)).all (· ≤ reachBytes) = true := hsz0
  have hval : ∀ (j : Nat) t v, Tryd.f3.params[j]? = some t → args[j]? = some v → Value.okWide Tryd.prog W .any base t v := hval0
  have hW' := hW
  obtain ⟨p, q, hA0, hV, rfl, hfz, hnd⟩ := hW
  have hA : DataW.TrodAll enc Tryd.prog W 0 (fun _ => true) true Tryd.f3.params.toList args.toList ds p := hA0
  rw [Tryd.params3] at hA hval hsz
  obtain ⟨v0, vs0, d0, ds0, p0, q0, hargs, rfl, rfl, h0, r0⟩ := trodAll_cons hA
  obtain ⟨v1, vs1, d1, ds1, p1, q1, rfl, rfl, rfl, h1, r1⟩ := trodAll_cons r0
  obtain ⟨rfl, rfl, rfl⟩ := trodAll_nil r1
  obtain rfl : args = #[v0, v1] := by cases args; simp_all
  obtain ⟨rfl, rfl⟩ := trodVars_none hV
  have hws := wq1ds (P := Tryd.prog) hsz
  have k0 := h0
  have lt0 : ∀ x ∈ p0, x.block < W.heap.size := by obtain ⟨m, hm⟩ := k0; exact DataW.trod_lt m _ _ _ hm
  obtain ⟨x0, wf0, rv0⟩ := wq16z tyT_ok (n := 9) (K := (.sl (.pr (.int .i64) (.pr (.int .i64) (.pr .str (.pr .bool (.pr (.sl .str) (.sl (.int .i64))))))))) (by kernel_rfl) (by kernel_rfl) (hval 0 24 v0 rfl rfl) h0 (hws 0 24 d0 rfl rfl) (h := mkH []) (G := G0) (fun _ => rfl) (fun _ h => h)
  have k1 := h1
  have lt1 : ∀ x ∈ p1, x.block < W.heap.size := by obtain ⟨m, hm⟩ := k1; exact DataW.trod_lt m _ _ _ hm
  obtain ⟨x1, wf1, rv1⟩ := wq16z tyT_ok (n := 9) (K := (.sl (.pr (.int .i64) (.pr (.int .i64) (.pr .str (.pr .bool (.pr (.sl .str) (.sl (.int .i64))))))))) (by kernel_rfl) (by kernel_rfl) (hval 1 24 v1 rfl rfl) h1 (hws 1 24 d1 rfl rfl) (h := mkH []) (G := G0) (fun _ => rfl) (fun _ h => h)
  obtain ⟨k, hk⟩ := wq18w x0 x1 wf0 wf1
  have hrun : wqem k [.agg (Kd.cells (.sl (.pr (.int .i64) (.pr (.int .i64) (.pr .str (.pr .bool (.pr (.sl .str) (.sl (.int .i64)))))))) x0), .agg (Kd.cells (.sl (.pr (.int .i64) (.pr (.int .i64) (.pr .str (.pr .bool (.pr (.sl .str) (.sl (.int .i64)))))))) x1)] [] lawK = some true := hk
  refine (wq1ev (fn := Tryd.f3) (c := Tryd.f3.body.getD .skip) (by kernel_rfl) (by kernel_rfl) (by kernel_rfl) (wq10g k hrun) (vals := [v0, v1]) ⟨v0, _, rfl, rv0, ⟨v1, _, rfl, rv1, rfl⟩⟩).mono fun e W' ⟨he, bel⟩ => ?_
  subst he
  exact ⟨_, rfl, _, _, _, [], _, [], hW', trodAll_mk1 (shut_bool Tryd.underlying4 _), (trodAll_cons_mk (Below.trod laidOut (by kernel_rfl) (of_decide_eq_true (by kernel_rfl)) k0 bel lt0) (trodAll_cons_mk (Below.trod laidOut (by kernel_rfl) (of_decide_eq_true (by kernel_rfl)) k1 bel lt1) trodAll_mk0)), rfl, bel.frame _, fun h => by cases h⟩
theorem over : Rows.showDocsRow.holds Tryd.pinned (OpenSpec.ofChange Rows.showDocsSpec) :=
  OpenClaim.holds_of_wide 3 Tryd.f3 rfl rfl rfl rfl rfl rfl rfl ⟨rfl, rfl, rfl, rfl, rfl⟩ rfl rfl rfl rfl rfl (by kernel_rfl) Tryd.func3 (by kernel_rfl)
    (of_decide_eq_true (by kernel_rfl)) (by unfold Func.isWrapper; first | (rw [if_pos (by decide +kernel)]; kernel_rfl) | (rw [if_neg (by decide +kernel)]; exact ⟨rfl, rfl⟩))
    (fun os started H enc _ => lifted os started H enc)
theorem tied : Rows.ShowDocsCardSaid :=
  Claim7.holds_tied_plain_at .later [] [.data, .pinned] true (true, "8205f16f4cb494fd93310ea951d43cc2f0659288ab22cbd921631d0e5568cd24") true over (fun _ h => by cases h) (by kernel_rfl) (fun _ h => by cases h) showDocs_row_tie rfl ⟨rfl, rfl⟩ (by kernel_rfl) rfl
    (fun f fn hf hfn => by
      obtain rfl : f = 3 := Option.some.inj ((show Tryd.prog.funcNamed Rows.showDocsRow.func = some 3 by kernel_rfl).symm.trans hf) |>.symm
      obtain rfl : fn = Tryd.f3 := (Option.some.inj (Tryd.func3.symm.trans hfn)).symm
      exact ⟨by kernel_rfl, fun j t ht => by
        rw [Tryd.params3] at ht
        have hm : t ∈ [24, 24] := by simpa using Array.mem_of_getElem? ht
        have hall : ([24, 24].all fun u => !Tryd.prog.wantsStandIn u) = true := by kernel_rfl
        exact (show Tryd.prog.wantsStandIn t = false by simpa using List.all_eq_true.1 hall t hm)⟩)
    (by kernel_rfl)
#print axioms tied
end Go.Proofs.YtdfhgimidmfgfaaDoor.showDocs
namespace Go.Proofs.YtdfhgimidmfgfaaDoor
theorem showDocs_holds : Rows.ShowDocsCardSaid := showDocs.tied
end Go.Proofs.YtdfhgimidmfgfaaDoor
end
