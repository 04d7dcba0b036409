/- The Go function DocParse answers true for every text, on any machine and under any order of evaluation that Go allows; with no condition besides the statement's own, the card's own ties to the pruned copy of the project included. -/
import Derived.Lib.TrimU
import Derived.Test.YtpfbdepoammjmaaGreatDoorCards
import Derived.Test.YtpfbdepoammjmaaGreatDoorTie
import Derived.LaidMore
import Derived.Lay
import Derived.SevenTiedAt
import Derived.Stop.Joined
import Derived.Test.YtpfbdepoammjmaaGreatDoorRows
import Derived.Test.YtpfbdepoammjmaaGreatDoorDocParseM0
import Derived.Test.YtpfbdepoammjmaaGreatDoorDocParseM1
import Derived.Test.YtpfbdepoammjmaaGreatDoorDocParseM2
import Derived.Test.YtpfbdepoammjmaaGreatDoorDocParseM3
import Derived.Test.YtpfbdepoammjmaaGreatDoorDocParseM4
set_option linter.unusedVariables false
set_option linter.unusedSimpArgs false
set_option linter.unusedSectionVars false
namespace Go.Proofs.YtpfbdepoammjmaaGreatDoor.Pvm
open Go
theorem cast_two (n : Nat) : (n : Int) + 2 = ((n + 2 : Nat) : Int) := by omega
theorem cast_add (a b : Nat) : (a : Int) + (b : Int) = ((a + b : Nat) : Int) := by omega
theorem all_u8 (P : UInt8 → Bool) (h : (List.range 256).all (fun n => P (UInt8.ofNat n)) = true) (c : UInt8) : P c = true := by
  rw [List.all_eq_true] at h
  have := h c.toNat (List.mem_range.2 c.toNat_lt)
  simpa using this
theorem wq8y (l : List UInt8) (c : UInt8) : toBytes l ++ [(c.toNat : Int)] = toBytes (l ++ [c]) := by simp [toBytes]
theorem wq75 (l : List UInt8) : ofBytes (toBytes l) = l := by
  unfold ofBytes toBytes
  rw [List.map_map]
  conv => rhs; rw [← List.map_id l]
  congr 1
  funext c
  simp
theorem wqy4 : ∀ l : List UInt8, allB (toBytes l) = true
  | [] => rfl
  | c :: r => by
    have h1 := c.toNat_lt
    have := wqy4 r
    rw [toBytes] at this ⊢
    rw [List.map_cons, allB, this]
    simp
    omega
theorem wq56 (l : List UInt8) : (toBytes l).length = l.length := by simp [toBytes]
theorem wqj3 (k : Nat) {R : Type} (l : List UInt8) (c : UInt8) (x : Int) (K : List Int → Option R) (hx : x = (c.toNat : Int)) (hl : l.length ≤ 10000000) : wq1z k (toBytes l) x K = K (toBytes (l ++ [c])) := by
  subst hx
  unfold wq1z wq6j wq6i
  dsimp only
  rw [fits_t (by rw [wq56]; simp; omega) (by rw [wq56]; simp; omega), cond_true, wq8y]
theorem wq125 (k : Nat) {R : Type} (l : List UInt8) (K : List Int → List UInt8 → Option R) : wq3g k (toBytes l) K = K (toBytes l) l := by
  unfold wq3g
  rw [wqy4, cond_true, wq75]
def hexv (c : UInt8) : Option Nat := bif decide (48 ≤ c.toNat) && decide (c.toNat ≤ 57) then some (c.toNat - 48) else bif decide (97 ≤ c.toNat) && decide (c.toNat ≤ 102) then some (c.toNat - 87) else none
def hexI (c : UInt8) : Int := match hexv c with | some x => (x : Int) | none => -1
def hexL : List UInt8 := [48, 49, 50, 51, 52, 53, 54, 55, 56, 57, 97, 98, 99, 100, 101, 102]
theorem idx_hex (c : UInt8) : idxByte hexL (c.toNat : Int) = hexI c := by
  have := all_u8 (fun c => (if upto c hexL < hexL.length then (upto c hexL : Int) else -1) == hexI c) (by kernel_rfl) c
  rw [idx_eq]
  exact beq_iff_eq.1 this
theorem small_eq (k : Nat) {R : Type} (c : UInt8) (K : Int → Option R) : wq7k k (c.toNat : Int) K = K (hexI c) := by
  have h1 := c.toNat_lt
  unfold wq7k wqlp hexI hexv
  by_cases h2 : 48 ≤ c.toNat ∧ c.toNat ≤ 57
  · simp (disch := omega) only [dec_t, dec_f, ieq_t, ieq_f, ine_t, ine_f, inb_t, bnd_t, wrap_id, wrap8_id, cond_true, cond_false, Bool.not_true, Bool.not_false, Bool.true_or, Bool.or_true, Bool.false_or, Bool.or_false, Bool.true_and, Bool.and_true, Bool.false_and, Bool.and_false, wq1, wq0, wq2]
    congr 1
    omega
  · by_cases h3 : 97 ≤ c.toNat ∧ c.toNat ≤ 102
    · have e1 : (decide ((c.toNat : Int) ≥ 48) && decide ((c.toNat : Int) ≤ 57)) = false := by simp; omega
      have e2 : (decide (48 ≤ c.toNat) && decide (c.toNat ≤ 57)) = false := by simp; omega
      have e3 : (bif decide ((c.toNat : Int) ≥ 48) then decide ((c.toNat : Int) ≤ 57) else false) = false := by rw [Bool.cond_false_right]; exact e1
      rw [e2, e3]
      simp (disch := omega) only [dec_t, dec_f, ieq_t, ieq_f, ine_t, ine_f, inb_t, bnd_t, wrap_id, wrap8_id, cond_true, cond_false, Bool.not_true, Bool.not_false, Bool.true_or, Bool.or_true, Bool.false_or, Bool.or_false, Bool.true_and, Bool.and_true, Bool.false_and, Bool.and_false, wq1, wq0, wq2]
      congr 1
      omega
    · have e1 : (decide ((c.toNat : Int) ≥ 48) && decide ((c.toNat : Int) ≤ 57)) = false := by simp; omega
      have e2 : (decide (48 ≤ c.toNat) && decide (c.toNat ≤ 57)) = false := by simp; omega
      have e3 : (bif decide ((c.toNat : Int) ≥ 48) then decide ((c.toNat : Int) ≤ 57) else false) = false := by rw [Bool.cond_false_right]; exact e1
      have f1 : (decide ((c.toNat : Int) ≥ 97) && decide ((c.toNat : Int) ≤ 102)) = false := by simp; omega
      have f2 : (decide (97 ≤ c.toNat) && decide (c.toNat ≤ 102)) = false := by simp; omega
      have f3 : (bif decide ((c.toNat : Int) ≥ 97) then decide ((c.toNat : Int) ≤ 102) else false) = false := by rw [Bool.cond_false_right]; exact f1
      rw [e2, e3, f2, f3]
      rfl
theorem hexv_lt {c : UInt8} {x : Nat} (h : hexv c = some x) : x < 16 := by
  have h1 := c.toNat_lt
  unfold hexv at h
  cases h2 : (decide (48 ≤ c.toNat) && decide (c.toNat ≤ 57)) with
  | true =>
    rw [h2] at h
    simp at h h2
    omega
  | false =>
    rw [h2, cond_false] at h
    cases h3 : (decide (97 ≤ c.toNat) && decide (c.toNat ≤ 102)) with
    | true =>
      rw [h3] at h
      simp at h h3
      omega
    | false => rw [h3] at h; cases h
def tak : List UInt8 → Option (UInt8 × Nat)
  | [] => none
  | c :: r => bif c == 92 then some (c, 1) else bif c == 34 then some (c, 1) else bif c == 110 then some (10, 1) else bif c == 116 then some (9, 1) else bif c == 120 then
      (match r with
      | a :: b :: _ => match hexv a, hexv b with
        | some x, some y => some (UInt8.ofNat (16 * x + y), 3)
        | _, _ => none
      | _ => none)
    else none
theorem tak_le {s : List UInt8} {c : UInt8} {m : Nat} (h : tak s = some (c, m)) : 1 ≤ m ∧ m ≤ s.length := by
  unfold tak at h
  split at h
  · cases h
  · next a r =>
    cases h1 : a == 92 <;> rw [h1] at h <;> simp only [cond_true, cond_false] at h
    · cases h2 : a == 34 <;> rw [h2] at h <;> simp only [cond_true, cond_false] at h
      · cases h3 : a == 110 <;> rw [h3] at h <;> simp only [cond_true, cond_false] at h
        · cases h4 : a == 116 <;> rw [h4] at h <;> simp only [cond_true, cond_false] at h
          · cases h5 : a == 120 <;> rw [h5] at h <;> simp only [cond_true, cond_false] at h
            · cases h
            · split at h
              · split at h
                · cases h; simp
                · cases h
              · cases h
          · cases h; simp
        · cases h; simp
      · cases h; simp
    · cases h; simp
abbrev Pc := Int × (Int × (Int × (List UInt8 × Bool)))
theorem gives_eq (k : Nat) {R : Type} (x0 x1 : Int) (x2 : List UInt8) (x3 : Int) (x4 : List Pc) (kd : Int) (K : Int → Int → List UInt8 → Int → List Pc → Option R) (E : Int → Int → List UInt8 → Int → List Pc → Int → Int → Option R) :
    wqc k x0 x1 x2 x3 x4 kd K E = E x0 x1 x2 x3 x4 kd x0 := rfl
theorem wqy5 (k : Nat) {R : Type} (s : List UInt8) (c : Int) (K : Int → Option R) : wq24 k s c K = K (idxByte s c) := rfl
theorem hexI_neg {c : UInt8} (h : hexv c = none) : hexI c = -1 := by unfold hexI; rw [h]
theorem wqrk {c : UInt8} {x : Nat} (h : hexv c = some x) : hexI c = (x : Int) := by unfold hexI; rw [h]
theorem byte_of (x y : Nat) (hx : x < 16) (hy : y < 16) : IntKind.u8.wrap (IntKind.i64.wrap (IntKind.i64.wrap (16 * (x : Int)) + (y : Int))) = ((UInt8.ofNat (16 * x + y)).toNat : Int) := by
  simp (disch := omega) only [wrap_id, wrap8_id]
  rw [UInt8.toNat_ofNat']
  omega
theorem wq15d (k : Nat) {R : Type} (x0 x1 : Int) (x2 : List UInt8) (x3 : Int) (x4 : List Pc) (s : List UInt8) (hs : s.length ≤ 10000000) (K : Int → Int → List UInt8 → Int → List Pc → Int → Int → Option R) (E : Int → Int → List UInt8 → Int → List Pc → Int → Int → Option R) :
    wq82 k x0 x1 x2 x3 x4 s K E = match tak s with
      | some (c, m) => K x0 x1 x2 x3 x4 (c.toNat : Int) (m : Int)
      | none => E x0 x1 x2 x3 x4 3 x0 := by
  unfold wq82 wqdn
  simp only [gives_eq]
  cases s with
  | nil => rfl
  | cons c r =>
    have h0 : ((c :: r) == ([] : List UInt8)) = false := rfl
    have hi : inb 0 ((c :: r).length : Int) = true := inb_t (by omega) (by rw [List.length_cons]; omega)
    have hg : (c :: r).getD (Int.toNat 0) 0 = c := rfl
    have e1 : ((c.toNat : Int) == 92) = (c == 92) := u8_beq c 92 (by omega)
    have e2 : ((c.toNat : Int) == 34) = (c == 34) := u8_beq c 34 (by omega)
    have e3 : ((c.toNat : Int) == 110) = (c == 110) := u8_beq c 110 (by omega)
    have e4 : ((c.toNat : Int) == 116) = (c == 116) := u8_beq c 116 (by omega)
    have e5 : ((c.toNat : Int) == 120) = (c == 120) := u8_beq c 120 (by omega)
    simp only [h0, hi, hg, e1, e2, e3, e4, e5, cond_true, cond_false, tak, wqy5]
    cases h1 : c == 92
    case true => rfl
    simp only [cond_false]
    cases h2 : c == 34
    case true => rfl
    simp only [cond_false]
    cases h3 : c == 110
    case true => rfl
    simp only [cond_false]
    cases h4 : c == 116
    case true => rfl
    simp only [cond_false]
    cases h5 : c == 120
    case false => rfl
    simp only [cond_true]
    match r with
    | [] => rfl
    | [a] => rfl
    | a :: b :: t =>
      have g1 : decide (((c :: a :: b :: t).length : Int) < 3) = false := dec_f (by simp; omega)
      have i1 : inb 1 ((c :: a :: b :: t).length : Int) = true := inb_t (by omega) (by simp; omega)
      have i2 : inb 2 ((c :: a :: b :: t).length : Int) = true := inb_t (by omega) (by simp; omega)
      have j1 : (c :: a :: b :: t).getD (Int.toNat 1) 0 = a := rfl
      have j2 : (c :: a :: b :: t).getD (Int.toNat 2) 0 = b := rfl
      have k1 := idx_hex a
      have k2 := idx_hex b
      unfold hexL at k1 k2
      simp only [g1, i1, i2, j1, j2, cond_true, cond_false, k1, k2]
      cases ha : hexv a with
      | none => rw [hexI_neg ha]; rfl
      | some x =>
        cases hb : hexv b with
        | none =>
          rw [wqrk ha, hexI_neg hb]
          have := hexv_lt ha
          simp (disch := omega) only [dec_t, dec_f, ieq_t, ieq_f, ine_t, ine_f, inb_t, bnd_t, wrap_id, wrap8_id, cond_true, cond_false, Bool.not_true, Bool.not_false, Bool.true_or, Bool.or_true, Bool.false_or, Bool.or_false, Bool.true_and, Bool.and_true, Bool.false_and, Bool.and_false, wq1, wq0, wq2]
        | some y =>
          have h1 := hexv_lt ha
          have h2 := hexv_lt hb
          rw [wqrk ha, wqrk hb]
          simp (disch := omega) only [dec_f, cond_false, byte_of]
          rfl
def sgl : List UInt8 → List UInt8 → Option (List UInt8 × List UInt8)
  | _, [] => none
  | acc, [c] => bif c == 39 then some (acc, []) else none
  | acc, c :: d :: r => bif c == 39 then (bif d == 39 then sgl (acc ++ [39]) r else some (acc, d :: r)) else sgl (acc ++ [c]) (d :: r)
theorem wq167 (acc : List UInt8) (c : UInt8) (r : List UInt8) (h : (c == 39) = false) : sgl acc (c :: r) = sgl (acc ++ [c]) r := by
  cases r with
  | nil => simp [sgl, h]
  | cons d r => rw [sgl, h, cond_false]
theorem sgl_le : ∀ {acc t a r}, sgl acc t = some (a, r) → r.length < t.length
  | _, [], _, _, h => by simp [sgl] at h
  | acc, [c], a, r, h => by
    rw [sgl] at h
    cases hc : c == 39 with
    | true => rw [hc] at h; cases h; simp
    | false => rw [hc] at h; cases h
  | acc, c :: d :: t, a, r, h => by
    rw [sgl] at h
    cases hc : c == 39 with
    | true =>
      rw [hc, cond_true] at h
      cases hd : d == 39 with
      | true => rw [hd, cond_true] at h; have := sgl_le h; simp; omega
      | false => rw [hd] at h; cases h; simp
    | false => rw [hc, cond_false] at h; have := sgl_le h; simp at this ⊢; omega
theorem wqh7 (k : Nat) {R : Type} (x0 x1 : Int) (x2 : List UInt8) (x3 : Int) (x4 : List Pc) (s : List UInt8) (hs : s.length ≤ 1000000) (K : Int → Int → List UInt8 → Int → List Pc → List UInt8 → Int → Option R) (E : Int → Int → List UInt8 → Int → List Pc → Int → Int → Option R) :
    ∀ (m : Nat) (t : List UInt8) (n : Nat) (acc : List UInt8), s.drop n = t → t.length < m → n ≤ s.length → acc.length ≤ n → wq26 k m x0 x1 x2 x3 x4 s (toBytes acc) (n : Int) K E = match sgl acc t with
      | some (a, r) => K x0 x1 x2 x3 x4 a ((s.length - r.length : Nat) : Int)
      | none => E x0 x1 x2 x3 x4 3 x0
  | 0, t, n, acc, _, hm, _, _ => by omega
  | m + 1, [], n, acc, hd, hm, hn, ha => by
    have := drop_nil hd
    rw [wq26, wq4v]
    simp (disch := omega) only [dec_t, dec_f, ieq_t, ieq_f, ine_t, ine_f, inb_t, bnd_t, wrap_id, wrap8_id, cond_true, cond_false, Bool.not_true, Bool.not_false, Bool.true_or, Bool.or_true, Bool.false_or, Bool.or_false, Bool.true_and, Bool.and_true, Bool.false_and, Bool.and_false, wq1, wq0, wq2, gives_eq]
    rfl
  | m + 1, c :: t, n, acc, hd, hm, hn, ha => by
    obtain ⟨hlt, hc, hr⟩ := wq1i hd
    have e39 : ((c.toNat : Int) != 39) = !(c == 39) := u8_bne c 39 (by omega)
    simp only [List.length_cons] at hm
    rw [wq26, wq4v]
    simp (disch := omega) only [dec_t, dec_f, ieq_t, ieq_f, ine_t, ine_f, inb_t, bnd_t, wrap_id, wrap8_id, cond_true, cond_false, Bool.not_true, Bool.not_false, Bool.true_or, Bool.or_true, Bool.false_or, Bool.or_false, Bool.true_and, Bool.and_true, Bool.false_and, Bool.and_false, wq1, wq0, wq2, hc, e39, wq4a]
    cases hb : c == 39 with
    | false =>
      simp only [Bool.not_false, cond_true]
      rw [wqj3 k acc c _ _ rfl (by omega), wq167 acc c t hb]
      exact wqh7 k x0 x1 x2 x3 x4 s hs K E m t (n + 1) (acc ++ [c]) hr (by omega) (by omega) (by simp; omega)
    | true =>
      have := beq_iff_eq.1 hb
      subst this
      simp only [Bool.not_true, cond_false]
      cases t with
      | nil =>
        have h1 := drop_nil hr
        simp (disch := omega) only [dec_t, dec_f, ieq_t, ieq_f, ine_t, ine_f, inb_t, bnd_t, wrap_id, wrap8_id, cond_true, cond_false, Bool.not_true, Bool.not_false, Bool.true_or, Bool.or_true, Bool.false_or, Bool.or_false, Bool.true_and, Bool.and_true, Bool.false_and, Bool.and_false, wq1, wq0, wq2, wq125, sgl]
        have : s.length = n + 1 := by omega
        simp [this]
      | cons d r =>
        obtain ⟨hlt2, hd2, hr2⟩ := wq1i hr
        have e39' : ((d.toNat : Int) != 39) = !(d == 39) := u8_bne d 39 (by omega)
        simp (disch := omega) only [dec_t, dec_f, ieq_t, ieq_f, ine_t, ine_f, inb_t, bnd_t, wrap_id, wrap8_id, cond_true, cond_false, Bool.not_true, Bool.not_false, Bool.true_or, Bool.or_true, Bool.false_or, Bool.or_false, Bool.true_and, Bool.and_true, Bool.false_and, Bool.and_false, wq1, wq0, wq2, hd2, e39', sgl, hb]
        cases hdb : d == 39 with
        | true =>
          simp only [Bool.not_true, cond_false, cond_true]
          rw [wqj3 k acc 39 39 _ rfl (by omega)]
          simp only [List.length_cons] at hm
          exact wqh7 k x0 x1 x2 x3 x4 s hs K E m r (n + 1 + 1) (acc ++ [39]) hr2 (by omega) (by omega) (by simp; omega)
        | false =>
          simp only [Bool.not_false, cond_true, cond_false, wq125]
          have : s.length - (d :: r).length = n + 1 := by
            have := congrArg List.length hr
            rw [List.length_drop] at this
            omega
          rw [this]
theorem wq149 (k : Nat) {R : Type} (x0 x1 : Int) (x2 : List UInt8) (x3 : Int) (x4 : List Pc) (c : UInt8) (t : List UInt8) (hs : (c :: t).length ≤ 1000000) (hk : (c :: t).length < k) (K : Int → Int → List UInt8 → Int → List Pc → List UInt8 → Int → Option R) (E : Int → Int → List UInt8 → Int → List Pc → Int → Int → Option R) :
    wq7d k x0 x1 x2 x3 x4 (c :: t) K E = match sgl [] t with
      | some (a, r) => K x0 x1 x2 x3 x4 a (((c :: t).length - r.length : Nat) : Int)
      | none => E x0 x1 x2 x3 x4 3 x0 := by
  unfold wq7d wq93
  exact wqh7 k x0 x1 x2 x3 x4 (c :: t) hs K E k t 1 [] rfl (by simp at hk; omega) (by simp) (by simp)
def dbl : Nat → List UInt8 → List UInt8 → Option (List UInt8 × List UInt8)
  | 0, _, _ => none
  | _ + 1, _, [] => none
  | n + 1, acc, c :: r => bif c == 34 then some (acc, r) else bif c == 92 then (match tak r with
      | some (d, m) => dbl n (acc ++ [d]) (r.drop m)
      | none => none) else dbl n (acc ++ [c]) r
theorem dbl_le : ∀ {n acc t a r}, dbl n acc t = some (a, r) → r.length < t.length
  | 0, _, _, _, _, h => by simp [dbl] at h
  | n + 1, _, [], _, _, h => by simp [dbl] at h
  | n + 1, acc, c :: t, a, r, h => by
    rw [dbl] at h
    cases hc : c == 34 with
    | true => rw [hc] at h; cases h; simp
    | false =>
      rw [hc, cond_false] at h
      cases hd : c == 92 with
      | true =>
        rw [hd, cond_true] at h
        split at h
        · next d m _ => have := dbl_le h; simp at this ⊢; omega
        · cases h
      | false => rw [hd, cond_false] at h; have := dbl_le h; simp; omega
theorem wqh8 (k : Nat) {R : Type} (x0 x1 : Int) (x2 : List UInt8) (x3 : Int) (x4 : List Pc) (s : List UInt8) (hs : s.length ≤ 1000000) (K : Int → Int → List UInt8 → Int → List Pc → List UInt8 → Int → Option R) (E : Int → Int → List UInt8 → Int → List Pc → Int → Int → Option R) :
    ∀ (m : Nat) (t : List UInt8) (n f : Nat) (acc : List UInt8), s.drop n = t → t.length < m → n ≤ s.length → acc.length ≤ n → t.length < f → wq25 k m x0 x1 x2 x3 x4 s (toBytes acc) (n : Int) K E = match dbl f acc t with
      | some (a, r) => K x0 x1 x2 x3 x4 a ((s.length - r.length : Nat) : Int)
      | none => E x0 x1 x2 x3 x4 3 x0
  | 0, t, n, f, acc, _, hm, _, _, _ => by omega
  | m + 1, t, n, 0, acc, _, _, _, _, hf => by omega
  | m + 1, [], n, f + 1, acc, hd, hm, hn, ha, hf => by
    have := drop_nil hd
    rw [wq25, wq4u]
    simp (disch := omega) only [dec_t, dec_f, ieq_t, ieq_f, ine_t, ine_f, inb_t, bnd_t, wrap_id, wrap8_id, cond_true, cond_false, Bool.not_true, Bool.not_false, Bool.true_or, Bool.or_true, Bool.false_or, Bool.or_false, Bool.true_and, Bool.and_true, Bool.false_and, Bool.and_false, wq1, wq0, wq2, gives_eq]
    rfl
  | m + 1, c :: t, n, f + 1, acc, hd, hm, hn, ha, hf => by
    obtain ⟨hlt, hc, hr⟩ := wq1i hd
    have e34 : ((c.toNat : Int) == 34) = (c == 34) := u8_beq c 34 (by omega)
    have e92 : ((c.toNat : Int) == 92) = (c == 92) := u8_beq c 92 (by omega)
    simp only [List.length_cons] at hm hf
    have hlen := congrArg List.length hr
    rw [List.length_drop] at hlen
    rw [wq25, wq4u, dbl]
    simp (disch := omega) only [dec_t, dec_f, ieq_t, ieq_f, ine_t, ine_f, inb_t, bnd_t, wrap_id, wrap8_id, cond_true, cond_false, Bool.not_true, Bool.not_false, Bool.true_or, Bool.or_true, Bool.false_or, Bool.or_false, Bool.true_and, Bool.and_true, Bool.false_and, Bool.and_false, wq1, wq0, wq2, hc, e34, e92, wq4a, wq125, cut_end, hr]
    cases hb : c == 34 with
    | true =>
      simp only [cond_true]
      have : s.length - t.length = n + 1 := by omega
      rw [this]
    | false =>
      simp only [cond_false]
      cases hb2 : c == 92 with
      | true =>
        simp only [cond_true]
        rw [wq15d k x0 x1 x2 x3 x4 t (by omega)]
        cases ht : tak t with
        | none => rfl
        | some p =>
          obtain ⟨d, q⟩ := p
          obtain ⟨h1, h2⟩ := tak_le ht
          simp only []
          rw [wqj3 k acc d _ _ rfl (by omega)]
          simp (disch := omega) only [cast_add, wq4a, wrap_id]
          exact wqh8 k x0 x1 x2 x3 x4 s hs K E m (t.drop q) (n + q + 1) f (acc ++ [d]) (by rw [← hr, List.drop_drop]; congr 1; omega) (by simp; omega) (by omega) (by simp; omega) (by simp; omega)
      | false =>
        simp only [cond_false]
        rw [wqj3 k acc c _ _ rfl (by omega)]
        exact wqh8 k x0 x1 x2 x3 x4 s hs K E m t (n + 1) f (acc ++ [c]) hr (by omega) (by omega) (by simp; omega) (by omega)
theorem wq14a (k : Nat) {R : Type} (x0 x1 : Int) (x2 : List UInt8) (x3 : Int) (x4 : List Pc) (c : UInt8) (t : List UInt8) (hs : (c :: t).length ≤ 1000000) (hk : (c :: t).length < k) (K : Int → Int → List UInt8 → Int → List Pc → List UInt8 → Int → Option R) (E : Int → Int → List UInt8 → Int → List Pc → Int → Int → Option R) :
    wq7c k x0 x1 x2 x3 x4 (c :: t) K E = match dbl (t.length + 1) [] t with
      | some (a, r) => K x0 x1 x2 x3 x4 a (((c :: t).length - r.length : Nat) : Int)
      | none => E x0 x1 x2 x3 x4 3 x0 := by
  unfold wq7c wq92
  exact wqh8 k x0 x1 x2 x3 x4 (c :: t) hs K E k t 1 (t.length + 1) [] rfl (by simp at hk; omega) (by simp) (by simp) (by omega)
end Go.Proofs.YtpfbdepoammjmaaGreatDoor.Pvm

namespace Go.Proofs.YtpfbdepoammjmaaGreatDoor.Pvm
open Go
def sgL : List UInt8 := [91, 93, 123, 125, 38, 42, 33, 124, 62, 37, 64, 44, 63, 96]
def oddB (c : UInt8) : Bool := sgL.any (· == c)
theorem idx_sg (c : UInt8) : decide (idxByte sgL (c.toNat : Int) ≥ 0) = oddB c := by
  have := all_u8 (fun c => decide ((if upto c sgL < sgL.length then (upto c sgL : Int) else -1) ≥ 0) == oddB c) (by kernel_rfl) c
  rw [idx_eq]
  exact beq_iff_eq.1 this
theorem wqrl (k : Nat) {R : Type} (c : UInt8) (K : Bool → Option R) : ∀ (t : List UInt8) (n m : Nat), sgL.drop n = t → t.length < m → n ≤ 14 → wq4k k m (c.toNat : Int) (n : Int) K = K (t.any (· == c))
  | t, n, 0, _, hm, _ => by omega
  | [], n, m + 1, hd, hm, hn => by
    have := drop_nil hd
    have h14 : sgL.length = 14 := rfl
    rw [wq4k, wq8v]
    simp (disch := omega) only [dec_t, dec_f, ieq_t, ieq_f, ine_t, ine_f, inb_t, bnd_t, wrap_id, wrap8_id, cond_true, cond_false, Bool.not_true, Bool.not_false, Bool.true_or, Bool.or_true, Bool.false_or, Bool.or_false, Bool.true_and, Bool.and_true, Bool.false_and, Bool.and_false, wq1, wq0, wq2]
    rfl
  | d :: r, n, m + 1, hd, hm, hn => by
    obtain ⟨hlt, hc, hr⟩ := wq1i hd
    have h14 : sgL.length = 14 := rfl
    have h14' : ([91, 93, 123, 125, 38, 42, 33, 124, 62, 37, 64, 44, 63, 96] : List UInt8).length = 14 := rfl
    have hc : ∀ e, ([91, 93, 123, 125, 38, 42, 33, 124, 62, 37, 64, 44, 63, 96] : List UInt8).getD n e = d := hc
    have e : ((d.toNat : Int) == (c.toNat : Int)) = (d == c) := by
      rw [Bool.eq_iff_iff]
      simp only [beq_iff_eq]
      constructor
      · intro h; exact UInt8.toNat_inj.1 (by omega)
      · intro h; rw [h]
    rw [wq4k, wq8v]
    simp (disch := omega) only [dec_t, dec_f, ieq_t, ieq_f, ine_t, ine_f, inb_t, bnd_t, wrap_id, wrap8_id, cond_true, cond_false, Bool.not_true, Bool.not_false, Bool.true_or, Bool.or_true, Bool.false_or, Bool.or_false, Bool.true_and, Bool.and_true, Bool.false_and, Bool.and_false, wq1, wq0, wq2, hc, e, wq4a, h14']
    rw [wqrl k c K r (n + 1) m hr (by simp at hm; omega) (by omega)]
    cases hb : d == c <;> simp [hb]
theorem wq15e (k : Nat) {R : Type} (c : UInt8) (K : Bool → Option R) (hk : 14 < k) : wqcq k (c.toNat : Int) K = K (oddB c) := by
  unfold wqcq wqmb
  exact wqrl k c K sgL 0 k rfl (by simpa [sgL] using hk) (by omega)
theorem wqcs (k : Nat) {R : Type} (s : List UInt8) (hs : s.length ≤ 1000000) (K : List UInt8 → Bool → Option R) :
    ∀ (m : Nat) (t : List UInt8) (n : Nat) (acc : List UInt8), s.drop n = t → t.length < m → n ≤ s.length → acc.length ≤ n → wq2b k m s (toBytes acc) 39 (n : Int) K = match sgl acc t with
      | some (a, r) => K a (r == [])
      | none => K [] false
  | 0, t, n, acc, _, hm, _, _ => by omega
  | m + 1, [], n, acc, hd, hm, hn, ha => by
    have := drop_nil hd
    rw [wq2b, wq54]
    simp (disch := omega) only [dec_t, dec_f, ieq_t, ieq_f, ine_t, ine_f, inb_t, bnd_t, wrap_id, wrap8_id, cond_true, cond_false, Bool.not_true, Bool.not_false, Bool.true_or, Bool.or_true, Bool.false_or, Bool.or_false, Bool.true_and, Bool.and_true, Bool.false_and, Bool.and_false, wq1, wq0, wq2]
    rfl
  | m + 1, c :: t, n, acc, hd, hm, hn, ha => by
    obtain ⟨hlt, hc, hr⟩ := wq1i hd
    have e39 : ((c.toNat : Int) == 39) = (c == 39) := u8_beq c 39 (by omega)
    have f1 : fits (toBytes acc).length 1 1 = true := fits_t (by rw [wq56]; omega) (by rw [wq56]; omega)
    simp only [List.length_cons] at hm
    rw [wq2b, wq54]
    simp (disch := omega) only [dec_t, dec_f, ieq_t, ieq_f, ine_t, ine_f, inb_t, bnd_t, wrap_id, wrap8_id, cond_true, cond_false, Bool.not_true, Bool.not_false, Bool.true_or, Bool.or_true, Bool.false_or, Bool.or_false, Bool.true_and, Bool.and_true, Bool.false_and, Bool.and_false, wq1, wq0, wq2, hc, e39, wq4a, wq75, List.length_singleton, f1]
    cases hb : c == 39 with
    | false =>
      simp only [cond_false, cond_true]
      rw [wq8y, wq167 acc c t hb]
      exact wqcs k s hs K m t (n + 1) (acc ++ [c]) hr (by omega) (by omega) (by simp; omega)
    | true =>
      have := beq_iff_eq.1 hb
      subst this
      simp only [cond_true]
      cases t with
      | nil =>
        have h1 := drop_nil hr
        simp (disch := omega) only [dec_t, dec_f, ieq_t, ieq_f, ine_t, ine_f, inb_t, bnd_t, wrap_id, wrap8_id, cond_true, cond_false, Bool.not_true, Bool.not_false, Bool.true_or, Bool.or_true, Bool.false_or, Bool.or_false, Bool.true_and, Bool.and_true, Bool.false_and, Bool.and_false, wq1, wq0, wq2, sgl]
        rfl
      | cons d r =>
        obtain ⟨hlt2, hd2, hr2⟩ := wq1i hr
        have e39' : ((d.toNat : Int) == 39) = (d == 39) := u8_beq d 39 (by omega)
        simp (disch := omega) only [dec_t, dec_f, ieq_t, ieq_f, ine_t, ine_f, inb_t, bnd_t, wrap_id, wrap8_id, cond_true, cond_false, Bool.not_true, Bool.not_false, Bool.true_or, Bool.or_true, Bool.false_or, Bool.or_false, Bool.true_and, Bool.and_true, Bool.false_and, Bool.and_false, wq1, wq0, wq2, hd2, e39', sgl, hb]
        cases hdb : d == 39 with
        | true =>
          simp only [cond_true]
          simp only [List.length_cons] at hm
          have e : toBytes acc ++ [(39 : Int)] = toBytes (acc ++ [39]) := wq8y acc 39
          rw [e]
          exact wqcs k s hs K m r (n + 1 + 1) (acc ++ [39]) hr2 (by omega) (by omega) (by simp; omega)
        | false =>
          simp only [cond_false]
          rfl
theorem wq57 (k : Nat) {R : Type} (s : List UInt8) (hs : s.length ≤ 1000000) (K : List UInt8 → Bool → Option R) :
    ∀ (m : Nat) (t : List UInt8) (n f : Nat) (acc : List UInt8), s.drop n = t → t.length < m → n ≤ s.length → acc.length ≤ n → t.length < f → wq2b k m s (toBytes acc) 34 (n : Int) K = match dbl f acc t with
      | some (a, r) => K a (r == [])
      | none => K [] false
  | 0, t, n, f, acc, _, hm, _, _, _ => by omega
  | m + 1, t, n, 0, acc, _, _, _, _, hf => by omega
  | m + 1, [], n, f + 1, acc, hd, hm, hn, ha, hf => by
    have := drop_nil hd
    rw [wq2b, wq54]
    simp (disch := omega) only [dec_t, dec_f, ieq_t, ieq_f, ine_t, ine_f, inb_t, bnd_t, wrap_id, wrap8_id, cond_true, cond_false, Bool.not_true, Bool.not_false, Bool.true_or, Bool.or_true, Bool.false_or, Bool.or_false, Bool.true_and, Bool.and_true, Bool.false_and, Bool.and_false, wq1, wq0, wq2]
    rfl
  | m + 1, c :: t, n, f + 1, acc, hd, hm, hn, ha, hf => by
    obtain ⟨hlt, hc, hr⟩ := wq1i hd
    have e34 : ((c.toNat : Int) == 34) = (c == 34) := u8_beq c 34 (by omega)
    have e92 : ((c.toNat : Int) != 92) = !(c == 92) := u8_bne c 92 (by omega)
    have f1 : fits (toBytes acc).length 1 1 = true := fits_t (by rw [wq56]; omega) (by rw [wq56]; omega)
    have hlen := congrArg List.length hr
    rw [List.length_drop] at hlen
    simp only [List.length_cons] at hm hf
    rw [wq2b, wq54, dbl]
    simp (disch := omega) only [dec_t, dec_f, ieq_t, ieq_f, ine_t, ine_f, inb_t, bnd_t, wrap_id, wrap8_id, cond_true, cond_false, Bool.not_true, Bool.not_false, Bool.true_or, Bool.or_true, Bool.false_or, Bool.or_false, Bool.true_and, Bool.and_true, Bool.false_and, Bool.and_false, wq1, wq0, wq2, hc, e34, e92, wq4a, cast_two, wq75, List.length_singleton, f1]
    cases hb : c == 34 with
    | true =>
      simp only [cond_true]
      cases t with
      | nil => have h1 := drop_nil hr; simp (disch := omega) only [dec_t, dec_f, ieq_t, ieq_f, ine_t, ine_f, inb_t, bnd_t, wrap_id, wrap8_id, cond_true, cond_false, Bool.not_true, Bool.not_false, Bool.true_or, Bool.or_true, Bool.false_or, Bool.or_false, Bool.true_and, Bool.and_true, Bool.false_and, Bool.and_false, wq1, wq0, wq2]; rfl
      | cons d r =>
        have : s.length - (n + 1) = r.length + 1 := by simpa using hlen
        simp (disch := omega) only [dec_t, dec_f, ieq_t, ieq_f, ine_t, ine_f, inb_t, bnd_t, wrap_id, wrap8_id, cond_true, cond_false, Bool.not_true, Bool.not_false, Bool.true_or, Bool.or_true, Bool.false_or, Bool.or_false, Bool.true_and, Bool.and_true, Bool.false_and, Bool.and_false, wq1, wq0, wq2]; rfl
    | false =>
      simp only [cond_false]
      cases hb2 : c == 92 with
      | false =>
        simp only [Bool.not_false, cond_false, cond_true]
        rw [wq8y]
        exact wq57 k s hs K m t (n + 1) f (acc ++ [c]) hr (by omega) (by omega) (by simp; omega) (by omega)
      | true =>
        simp only [Bool.not_true, cond_false, cond_true]
        cases t with
        | nil =>
          have h1 := drop_nil hr
          simp (disch := omega) only [dec_t, dec_f, ieq_t, ieq_f, ine_t, ine_f, inb_t, bnd_t, wrap_id, wrap8_id, cond_true, cond_false, Bool.not_true, Bool.not_false, Bool.true_or, Bool.or_true, Bool.false_or, Bool.or_false, Bool.true_and, Bool.and_true, Bool.false_and, Bool.and_false, wq1, wq0, wq2, tak]
        | cons d r =>
          obtain ⟨hlt2, hd2, hr2⟩ := wq1i hr
          have e1 : ((d.toNat : Int) == 92) = (d == 92) := u8_beq d 92 (by omega)
          have e2 : ((d.toNat : Int) == 34) = (d == 34) := u8_beq d 34 (by omega)
          have e3 : ((d.toNat : Int) == 110) = (d == 110) := u8_beq d 110 (by omega)
          have e4 : ((d.toNat : Int) == 116) = (d == 116) := u8_beq d 116 (by omega)
          have e5 : ((d.toNat : Int) == 120) = (d == 120) := u8_beq d 120 (by omega)
          simp only [List.length_cons] at hm hf hlen
          simp (disch := omega) only [dec_t, dec_f, ieq_t, ieq_f, ine_t, ine_f, inb_t, bnd_t, wrap_id, wrap8_id, cond_true, cond_false, Bool.not_true, Bool.not_false, Bool.true_or, Bool.or_true, Bool.false_or, Bool.or_false, Bool.true_and, Bool.and_true, Bool.false_and, Bool.and_false, wq1, wq0, wq2, hd2, e1, e2, e3, e4, e5, tak, wq8y]
          cases h1 : d == 92 with
          | true =>
            simp only [cond_true]
            exact wq57 k s hs K m r (n + 1 + 1) f (acc ++ [d]) hr2 (by omega) (by omega) (by simp; omega) (by omega)
          | false =>
          cases h2 : d == 34 with
          | true =>
            simp only [cond_true, cond_false]
            exact wq57 k s hs K m r (n + 1 + 1) f (acc ++ [d]) hr2 (by omega) (by omega) (by simp; omega) (by omega)
          | false =>
          cases h3 : d == 110 with
          | true =>
            simp only [cond_true, cond_false]
            have e : toBytes acc ++ [(10 : Int)] = toBytes (acc ++ [10]) := wq8y acc 10
            rw [e]
            exact wq57 k s hs K m r (n + 1 + 1) f (acc ++ [10]) hr2 (by omega) (by omega) (by simp; omega) (by omega)
          | false =>
          cases h4 : d == 116 with
          | true =>
            simp only [cond_true, cond_false]
            have e : toBytes acc ++ [(9 : Int)] = toBytes (acc ++ [9]) := wq8y acc 9
            rw [e]
            exact wq57 k s hs K m r (n + 1 + 1) f (acc ++ [9]) hr2 (by omega) (by omega) (by simp; omega) (by omega)
          | false =>
          cases h5 : d == 120 with
          | false => simp only [cond_true, cond_false]
          | true =>
            simp only [cond_true, cond_false]
            match r, hr2, hm, hf, hlen with
            | [], hr2, hm, hf, hlen =>
              simp only [List.length_nil] at hlen
              simp (disch := omega) only [dec_t, dec_f, ieq_t, ieq_f, ine_t, ine_f, inb_t, bnd_t, wrap_id, wrap8_id, cond_true, cond_false, Bool.not_true, Bool.not_false, Bool.true_or, Bool.or_true, Bool.false_or, Bool.or_false, Bool.true_and, Bool.and_true, Bool.false_and, Bool.and_false, wq1, wq0, wq2]
            | [a], hr2, hm, hf, hlen =>
              simp only [List.length_cons, List.length_nil] at hlen
              simp (disch := omega) only [dec_t, dec_f, ieq_t, ieq_f, ine_t, ine_f, inb_t, bnd_t, wrap_id, wrap8_id, cond_true, cond_false, Bool.not_true, Bool.not_false, Bool.true_or, Bool.or_true, Bool.false_or, Bool.or_false, Bool.true_and, Bool.and_true, Bool.false_and, Bool.and_false, wq1, wq0, wq2]
            | a :: b :: r, hr2, hm, hf, hlen =>
              obtain ⟨hlt3, ha3, hr3⟩ := wq1i hr2
              obtain ⟨hlt4, hb4, hr4⟩ := wq1i hr3
              simp only [List.length_cons] at hlen hm hf
              have hb4' : ∀ e, s.getD (n + 1 + 2) e = b := hb4
              simp (disch := omega) only [dec_t, dec_f, ieq_t, ieq_f, ine_t, ine_f, inb_t, bnd_t, wrap_id, wrap8_id, cond_true, cond_false, Bool.not_true, Bool.not_false, Bool.true_or, Bool.or_true, Bool.false_or, Bool.or_false, Bool.true_and, Bool.and_true, Bool.false_and, Bool.and_false, wq1, wq0, wq2, ha3, hb4', small_eq]
              cases hxa : hexv a with
              | none =>
                rw [hexI_neg hxa]
                simp (disch := omega) only [dec_t, dec_f, ieq_t, ieq_f, ine_t, ine_f, inb_t, bnd_t, wrap_id, wrap8_id, cond_true, cond_false, Bool.not_true, Bool.not_false, Bool.true_or, Bool.or_true, Bool.false_or, Bool.or_false, Bool.true_and, Bool.and_true, Bool.false_and, Bool.and_false, wq1, wq0, wq2]
              | some x =>
                have hx16 := hexv_lt hxa
                rw [wqrk hxa]
                simp (disch := omega) only [dec_t, dec_f, ieq_t, ieq_f, ine_t, ine_f, inb_t, bnd_t, wrap_id, wrap8_id, cond_true, cond_false, Bool.not_true, Bool.not_false, Bool.true_or, Bool.or_true, Bool.false_or, Bool.or_false, Bool.true_and, Bool.and_true, Bool.false_and, Bool.and_false, wq1, wq0, wq2]
                cases hxb : hexv b with
                | none =>
                  rw [hexI_neg hxb]
                  simp (disch := omega) only [dec_t, dec_f, ieq_t, ieq_f, ine_t, ine_f, inb_t, bnd_t, wrap_id, wrap8_id, cond_true, cond_false, Bool.not_true, Bool.not_false, Bool.true_or, Bool.or_true, Bool.false_or, Bool.or_false, Bool.true_and, Bool.and_true, Bool.false_and, Bool.and_false, wq1, wq0, wq2]
                | some y =>
                  have hy16 := hexv_lt hxb
                  have eb : IntKind.u8.wrap (IntKind.i64.wrap (16 * (x : Int) + (y : Int))) = ((UInt8.ofNat (16 * x + y)).toNat : Int) := by
                    rw [← byte_of x y hx16 hy16]
                    simp (disch := omega) only [wrap_id]
                  rw [wqrk hxb, eb]
                  simp (disch := omega) only [dec_t, dec_f, ieq_t, ieq_f, ine_t, ine_f, inb_t, bnd_t, wrap_id, wrap8_id, cond_true, cond_false, Bool.not_true, Bool.not_false, Bool.true_or, Bool.or_true, Bool.false_or, Bool.or_false, Bool.true_and, Bool.and_true, Bool.false_and, Bool.and_false, wq1, wq0, wq2, wq8y]
                  exact wq57 k s hs K m r (n + 1 + 2 + 1) f (acc ++ [UInt8.ofNat (16 * x + y)]) hr4 (by omega) (by omega) (by simp; omega) (by omega)
theorem wqrm (k : Nat) {R : Type} (c : UInt8) (t : List UInt8) (hs : (c :: t).length ≤ 1000000) (hk : (c :: t).length < k) (K : List UInt8 → Bool → Option R) :
    (c = 39 → wq6y k (c :: t) K = match sgl [] t with
      | some (a, r) => K a (r == [])
      | none => K [] false) ∧
    (c = 34 → wq6y k (c :: t) K = match dbl (t.length + 1) [] t with
      | some (a, r) => K a (r == [])
      | none => K [] false) := by
  have hi : inb 0 ((c :: t).length : Int) = true := inb_t (by omega) (by rw [List.length_cons]; omega)
  have hg : (c :: t).getD (Int.toNat 0) 0 = c := rfl
  simp only [List.length_cons] at hk
  constructor
  · intro h
    subst h
    unfold wq6y wqdd
    simp only [hi, hg, cond_true]
    exact wqcs k (39 :: t) hs K k t 1 [] rfl (by omega) (by simp) (by simp)
  · intro h
    subst h
    unfold wq6y wqdd
    simp only [hi, hg, cond_true]
    exact wq57 k (34 :: t) hs K k t 1 (t.length + 1) [] rfl (by omega) (by simp) (by simp) (by omega)
end Go.Proofs.YtpfbdepoammjmaaGreatDoor.Pvm

namespace Go.Proofs.YtpfbdepoammjmaaGreatDoor.Pvm
open Go
abbrev Res := List Pc × (Int × Int)
def finQ (no col : Int) (out : List Pc) : Option (List UInt8 × List UInt8) → Res
  | none => ([], 3, no)
  | some (a, r) => bif !(r == []) then ([], 3, no) else bif decide (200 < a.length) then ([], 4, no) else (out ++ [(3, no, col, a, true)], 0, 0)
def txtS (no ind : Int) (at_ : Nat) (s : List UInt8) (out : List Pc) : Res :=
  match s with
  | [] => (out, 0, 0)
  | c :: t => bif c == 39 then finQ no (ind + at_) out (sgl [] t) else bif c == 34 then finQ no (ind + at_) out (dbl (t.length + 1) [] t)
      else bif oddB c || (dsh (c :: t) || decide (0 < kS (c :: t))) then ([], 4, no) else bif decide (200 < (c :: t).length) then ([], 4, no) else (out ++ [(3, no, ind + at_, c :: t, false)], 0, 0)
def endS (no ind : Int) (at_ : Nat) (s : List UInt8) (out : List Pc) : Res :=
  bif decide (0 < kS s) then bif decide (64 < kS s) then ([], 5, no)
    else txtS no ind (at_ + (kS s + 1) + nb (s.drop (kS s + 1))) ((s.drop (kS s + 1)).drop (nb (s.drop (kS s + 1)))) (out ++ [(2, no, ind + at_, s.take (kS s), false)])
  else txtS no ind at_ s out
def rowS (no ind : Int) : Nat → Nat → List UInt8 → List Pc → Res
  | 0, _, _, out => (out, 0, 0)
  | f + 1, at_, s, out => bif dsh s then rowS no ind f (at_ + 1 + nb (s.drop 1)) ((s.drop 1).drop (nb (s.drop 1))) (out ++ [(1, no, ind + at_, [], false)]) else endS no ind at_ s out
def rowR (no ind : Int) (s : List UInt8) : Res :=
  bif decide (ind < 0) || decide (16384 < ind) then ([], 6, no) else rowS no ind (s.length + 1) (nb s) (s.drop (nb s)) []
def outL {R : Type} (K1 : List Pc → Option R) (E1 : Int → Int → Option R) (r : Res) : Option R := bif r.2.1 == 0 then K1 r.1 else E1 r.2.1 r.2.2
theorem piece_eq (k : Nat) {R : Type} (x0 x1 : Int) (x2 : List UInt8) (n : Nat) (x4 : List Pc) (kd : Int) (t : List UInt8) (q : Bool) (b : Nat) (K : Int → Int → List UInt8 → Int → List Pc → Option R)
    (h0 : 0 ≤ x1) (h1 : x1 ≤ 16384) (hn : n ≤ 1000000) (hb : b ≤ 1000000) (hx : x4.length ≤ 1000000) :
    wqh k x0 x1 x2 (n : Int) x4 kd t q (b : Int) K = K x0 x1 x2 ((n + b : Nat) : Int) (x4 ++ [(kd, x0, x1 + (n : Int), t, q)]) := by
  unfold wqh wqdm
  rw [fits_t (by simp; omega) (by simp; omega)]
  simp (disch := omega) only [dec_t, dec_f, ieq_t, ieq_f, ine_t, ine_f, inb_t, bnd_t, wrap_id, wrap8_id, cond_true, cond_false, Bool.not_true, Bool.not_false, Bool.true_or, Bool.or_true, Bool.false_or, Bool.or_false, Bool.true_and, Bool.and_true, Bool.false_and, Bool.and_false, wq1, wq0, wq2, cast_add]
theorem wq175 (k : Nat) {R : Type} (no ind : Int) (text : List UInt8) (n : Nat) (out : List Pc) (c : UInt8) (t : List UInt8) (K1 : List Pc → Option R) (E1 : Int → Int → Option R)
    (h0 : 0 ≤ ind) (h1 : ind ≤ 16384) (hn : n ≤ 1000000) (ho : out.length ≤ 1000000) (hs : (c :: t).length ≤ 1000000) (hk : (c :: t).length < k) :
    wq59 k no ind text (n : Int) out (c :: t) (fun _ _ _ _ o => K1 o) (fun _ _ _ _ _ a b => E1 a b) = outL K1 E1 (txtS no ind n (c :: t) out) := by
  have hi : inb 0 ((c :: t).length : Int) = true := inb_t (by omega) (by rw [List.length_cons]; omega)
  have hg : (c :: t).getD (Int.toNat 0) 0 = c := rfl
  have e39 : ((c.toNat : Int) == 39) = (c == 39) := u8_beq c 39 (by omega)
  have e34 : ((c.toNat : Int) == 34) = (c == 34) := u8_beq c 34 (by omega)
  have hq := idx_sg c
  unfold sgL at hq
  have quoted : ∀ (x : Option (List UInt8 × List UInt8)), (∀ a r, x = some (a, r) → r.length < t.length + 1) → (match x with
      | some (a, r) => (fun (y10 y11 : Int) (y12 : List UInt8) (y13 : Int) (y14 : List Pc) (y15 : List UInt8) (y16 : Int) =>
          bif y16 != ((c :: t).length : Int) then E1 3 y10
          else bif decide ((y15.length : Int) > 200) then E1 4 y10
            else wqh k y10 y11 y12 y13 y14 3 y15 true y16 fun y17 y18 y19 y20 y21 => K1 y21) no ind text (n : Int) out a (((c :: t).length - r.length : Nat) : Int)
      | none => E1 3 no) = outL K1 E1 (finQ no (ind + n) out x) := by
    intro x hx
    cases x with
    | none => rfl
    | some p =>
      obtain ⟨a, r⟩ := p
      have hr := hx a r rfl
      simp only [finQ]
      simp only [List.length_cons] at hs hk ⊢
      cases hre : r == [] with
      | true =>
        have : r = [] := beq_iff_eq.1 hre
        subst this
        simp only [List.length_nil, Nat.sub_zero]
        simp (disch := omega) only [dec_t, dec_f, ieq_t, ieq_f, ine_t, ine_f, inb_t, bnd_t, wrap_id, wrap8_id, cond_true, cond_false, Bool.not_true, Bool.not_false, Bool.true_or, Bool.or_true, Bool.false_or, Bool.or_false, Bool.true_and, Bool.and_true, Bool.false_and, Bool.and_false, wq1, wq0, wq2]
        by_cases ha : 200 < a.length
        · simp (disch := omega) only [dec_t, dec_f, ieq_t, ieq_f, ine_t, ine_f, inb_t, bnd_t, wrap_id, wrap8_id, cond_true, cond_false, Bool.not_true, Bool.not_false, Bool.true_or, Bool.or_true, Bool.false_or, Bool.or_false, Bool.true_and, Bool.and_true, Bool.false_and, Bool.and_false, wq1, wq0, wq2]; rfl
        · simp (disch := omega) only [dec_t, dec_f, ieq_t, ieq_f, ine_t, ine_f, inb_t, bnd_t, wrap_id, wrap8_id, cond_true, cond_false, Bool.not_true, Bool.not_false, Bool.true_or, Bool.or_true, Bool.false_or, Bool.or_false, Bool.true_and, Bool.and_true, Bool.false_and, Bool.and_false, wq1, wq0, wq2]
          rw [piece_eq k no ind text n out 3 a true (t.length + 1) _ h0 h1 hn (by omega) ho]
          rfl
      | false =>
        have hr0 : r.length ≠ 0 := fun e => by rw [List.eq_nil_of_length_eq_zero e] at hre; cases hre
        simp (disch := omega) only [dec_t, dec_f, ieq_t, ieq_f, ine_t, ine_f, inb_t, bnd_t, wrap_id, wrap8_id, cond_true, cond_false, Bool.not_true, Bool.not_false, Bool.true_or, Bool.or_true, Bool.false_or, Bool.or_false, Bool.true_and, Bool.and_true, Bool.false_and, Bool.and_false, wq1, wq0, wq2]
        rfl
  unfold wq59 wqet
  simp only [hi, hg, e39, e34, gives_eq, cond_true, wqy5, hq, txtS]
  cases h39 : c == 39 with
  | true =>
    simp only [cond_true]
    rw [wq149 k no ind text n out c t hs hk]
    exact quoted (sgl [] t) fun a r h => by have := sgl_le h; omega
  | false =>
    simp only [cond_false]
    cases h34 : c == 34 with
    | true =>
      simp only [cond_true]
      rw [wq14a k no ind text n out c t hs hk]
      exact quoted (dbl (t.length + 1) [] t) fun a r h => by have := dbl_le h; omega
    | false =>
      simp only [cond_false, wq10j]
      have hky : ∀ K : List UInt8 → Option R, wqid k (c :: t) K = K ((c :: t).take (kS (c :: t))) := fun K => wq148 k (c :: t) K hk (by omega)
      simp only [hky]
      have hkl := kS_lt (c :: t)
      have hne : (((c :: t).take (kS (c :: t))) == []) = decide (kS (c :: t) = 0) := by
        rw [Bool.eq_iff_iff]
        simp only [beq_iff_eq, decide_eq_true_eq]
        constructor
        · intro h
          have := congrArg List.length h
          rw [List.length_take, List.length_nil] at this
          simp only [List.length_cons] at this hkl
          omega
        · intro h; rw [h, List.take_zero]
      rw [hne]
      cases h1' : oddB c with
      | true => rfl
      | false =>
        simp only [dec_t, dec_f, ieq_t, ieq_f, ine_t, ine_f, inb_t, bnd_t, wrap_id, wrap8_id, cond_true, cond_false, Bool.not_true, Bool.not_false, Bool.true_or, Bool.or_true, Bool.false_or, Bool.or_false, Bool.true_and, Bool.and_true, Bool.false_and, Bool.and_false, wq1, wq0, wq2]
        cases h2' : dsh (c :: t) with
        | true => rfl
        | false =>
          simp only [dec_t, dec_f, ieq_t, ieq_f, ine_t, ine_f, inb_t, bnd_t, wrap_id, wrap8_id, cond_true, cond_false, Bool.not_true, Bool.not_false, Bool.true_or, Bool.or_true, Bool.false_or, Bool.or_false, Bool.true_and, Bool.and_true, Bool.false_and, Bool.and_false, wq1, wq0, wq2]
          by_cases h3 : kS (c :: t) = 0
          · simp (disch := omega) only [dec_t, dec_f, ieq_t, ieq_f, ine_t, ine_f, inb_t, bnd_t, wrap_id, wrap8_id, cond_true, cond_false, Bool.not_true, Bool.not_false, Bool.true_or, Bool.or_true, Bool.false_or, Bool.or_false, Bool.true_and, Bool.and_true, Bool.false_and, Bool.and_false, wq1, wq0, wq2]
            by_cases h4 : 200 < (c :: t).length
            · simp (disch := omega) only [dec_t, dec_f, ieq_t, ieq_f, ine_t, ine_f, inb_t, bnd_t, wrap_id, wrap8_id, cond_true, cond_false, Bool.not_true, Bool.not_false, Bool.true_or, Bool.or_true, Bool.false_or, Bool.or_false, Bool.true_and, Bool.and_true, Bool.false_and, Bool.and_false, wq1, wq0, wq2]; rfl
            · simp (disch := omega) only [dec_t, dec_f, ieq_t, ieq_f, ine_t, ine_f, inb_t, bnd_t, wrap_id, wrap8_id, cond_true, cond_false, Bool.not_true, Bool.not_false, Bool.true_or, Bool.or_true, Bool.false_or, Bool.or_false, Bool.true_and, Bool.and_true, Bool.false_and, Bool.and_false, wq1, wq0, wq2]
              rw [piece_eq k no ind text n out 3 (c :: t) false (c :: t).length _ h0 h1 hn hs ho]
              rfl
          · simp (disch := omega) only [dec_t, dec_f, ieq_t, ieq_f, ine_t, ine_f, inb_t, bnd_t, wrap_id, wrap8_id, cond_true, cond_false, Bool.not_true, Bool.not_false, Bool.true_or, Bool.or_true, Bool.false_or, Bool.or_false, Bool.true_and, Bool.and_true, Bool.false_and, Bool.and_false, wq1, wq0, wq2]; rfl
end Go.Proofs.YtpfbdepoammjmaaGreatDoor.Pvm

namespace Go.Proofs.YtpfbdepoammjmaaGreatDoor.Pvm
open Go
theorem kS_room {s : List UInt8} (h : 0 < kS s) : kS s + 1 ≤ s.length := by
  have h1 := tw_len s
  cases hd : s.drop (s.takeWhile sgn).length with
  | nil => rw [kS_end hd] at h; omega
  | cons c r =>
    obtain ⟨hlt, _, _⟩ := wq1i hd
    rw [kS_at hd] at h ⊢
    cases hb : ((c == 58) && hd32 r) <;> rw [hb] at h <;> simp only [cond_true, cond_false] at h ⊢ <;> omega
theorem take_nil (s : List UInt8) : ((s.take (kS s)) == []) = decide (kS s = 0) := by
  have hkl := kS_lt s
  rw [Bool.eq_iff_iff]
  simp only [beq_iff_eq, decide_eq_true_eq]
  constructor
  · intro h
    have := congrArg List.length h
    rw [List.length_take, List.length_nil] at this
    omega
  · intro h; rw [h, List.take_zero]
theorem wq14b (k : Nat) {R : Type} (no ind : Int) (text : List UInt8) (n : Nat) (s : List UInt8) (out : List Pc) (K1 : List Pc → Option R) (E1 : Int → Int → Option R)
    (h0 : 0 ≤ ind) (h1 : ind ≤ 16384) (ht : text.length ≤ 1000000) (hk : text.length + 20 < k) (hs : text.drop n = s) (hn : n ≤ text.length) (ho : out.length ≤ n) :
    (bif !(s == []) then wq59 k no ind text (n : Int) out s (fun _ _ _ _ o => K1 o) (fun _ _ _ _ _ a b => E1 a b) else K1 out) = outL K1 E1 (txtS no ind n s out) := by
  have hl := congrArg List.length hs
  rw [List.length_drop] at hl
  cases s with
  | nil => rfl
  | cons c t =>
    have : ((c :: t) == ([] : List UInt8)) = false := rfl
    rw [this, Bool.not_false, cond_true]
    exact wq175 k no ind text n out c t K1 E1 h0 h1 (by omega) (by omega) (by omega) (by omega)
theorem wqy6 (k : Nat) {R : Type} (no ind : Int) (text : List UInt8) (K1 : List Pc → Option R) (E1 : Int → Int → Option R)
    (h0 : 0 ≤ ind) (h1 : ind ≤ 16384) (ht : text.length ≤ 1000000) (hk : text.length + 20 < k) :
    ∀ (m : Nat) (s : List UInt8) (n f : Nat) (out : List Pc), text.drop n = s → s.length < m → n ≤ text.length → out.length ≤ n → s.length < f →
      wq2u k m no ind text (n : Int) out s (fun _ _ _ _ o => K1 o) (fun _ _ _ _ _ a b => E1 a b) = outL K1 E1 (rowS no ind f n s out)
  | 0, s, n, f, out, _, hm, _, _, _ => by omega
  | m + 1, s, n, 0, out, _, _, _, _, hf => by omega
  | m + 1, s, n, f + 1, out, hs, hm, hn, ho, hf => by
    have hl := congrArg List.length hs
    rw [List.length_drop] at hl
    rw [wq2u, wq7n, rowS, wq10j]
    cases hd : dsh s with
    | true =>
      simp only [cond_true]
      cases s with
      | nil => cases hd
      | cons c t =>
        simp only [List.length_cons] at hm hf hl
        obtain ⟨hlt, _, hr⟩ := wq1i hs
        refine Eq.trans (piece_eq k no ind text n out 1 [] false 1 _ h0 h1 (by omega) (by omega) (by omega)) ?_
        rw [wqsm k no ind text (n + 1) _ _ (by omega) (by omega) (by omega)]
        rw [hr]
        have := nb_le t
        exact wqy6 k no ind text K1 E1 h0 h1 ht hk m (t.drop (nb t)) (n + 1 + nb t) f _ (by rw [← hr, List.drop_drop]) (by rw [List.length_drop]; omega) (by omega) (by simp; omega) (by rw [List.length_drop]; omega)
    | false =>
      simp only [cond_false]
      rw [wq148 k s _ (by omega) (by omega), take_nil, endS]
      simp only [gives_eq]
      have hkl := kS_lt s
      by_cases hz : kS s = 0
      · simp (disch := omega) only [dec_t, dec_f, ieq_t, ieq_f, ine_t, ine_f, inb_t, bnd_t, wrap_id, wrap8_id, cond_true, cond_false, Bool.not_true, Bool.not_false, Bool.true_or, Bool.or_true, Bool.false_or, Bool.or_false, Bool.true_and, Bool.and_true, Bool.false_and, Bool.and_false, wq1, wq0, wq2]
        exact wq14b k no ind text n s out K1 E1 h0 h1 ht hk hs hn ho
      · have hkr := kS_room (s := s) (by omega)
        have hlen : (s.take (kS s)).length = kS s := by rw [List.length_take]; omega
        simp (disch := omega) only [dec_t, dec_f, ieq_t, ieq_f, ine_t, ine_f, inb_t, bnd_t, wrap_id, wrap8_id, cond_true, cond_false, Bool.not_true, Bool.not_false, Bool.true_or, Bool.or_true, Bool.false_or, Bool.or_false, Bool.true_and, Bool.and_true, Bool.false_and, Bool.and_false, wq1, wq0, wq2, hlen]
        by_cases h64 : 64 < kS s
        · simp (disch := omega) only [dec_t, dec_f, ieq_t, ieq_f, ine_t, ine_f, inb_t, bnd_t, wrap_id, wrap8_id, cond_true, cond_false, Bool.not_true, Bool.not_false, Bool.true_or, Bool.or_true, Bool.false_or, Bool.or_false, Bool.true_and, Bool.and_true, Bool.false_and, Bool.and_false, wq1, wq0, wq2]; rfl
        · simp (disch := omega) only [dec_t, dec_f, ieq_t, ieq_f, ine_t, ine_f, inb_t, bnd_t, wrap_id, wrap8_id, cond_true, cond_false, Bool.not_true, Bool.not_false, Bool.true_or, Bool.or_true, Bool.false_or, Bool.or_false, Bool.true_and, Bool.and_true, Bool.false_and, Bool.and_false, wq1, wq0, wq2, wq4a]
          rw [piece_eq k no ind text n out 2 _ false (kS s + 1) _ h0 h1 (by omega) (by omega) (by omega)]
          rw [wqsm k no ind text (n + (kS s + 1)) _ _ (by omega) (by omega) (by omega)]
          have hr : text.drop (n + (kS s + 1)) = s.drop (kS s + 1) := by rw [← hs, List.drop_drop]
          rw [hr]
          have := nb_le (s.drop (kS s + 1))
          rw [List.length_drop] at this
          exact wq14b k no ind text (n + (kS s + 1) + nb (s.drop (kS s + 1))) _ _ K1 E1 h0 h1 ht hk (by rw [← hr, List.drop_drop]) (by omega) (by simp; omega)
theorem wq17u (k : Nat) {R : Type} (no ind : Int) (s : List UInt8) (K : List Pc → Int → Int → Option R) (ht : s.length ≤ 1000000) (hk : s.length + 20 < k) :
    wqqr k no ind s K = K (rowR no ind s).1 (rowR no ind s).2.1 (rowR no ind s).2.2 := by
  unfold wqqr wq11h wqcz wqkc wqd0 wqkd wqcx wqcw
  simp only [gives_eq]
  have fin : ∀ r : Res, (r.2.1 = 0 → r.2.2 = 0) → (r.2.1 ≠ 0 → r.1 = []) → outL (fun o => K o 0 0) (fun a b => K [] a b) r = K r.1 r.2.1 r.2.2 := by
    intro r h1 h2
    unfold outL
    by_cases h : r.2.1 = 0
    · rw [h1 h, h]; rfl
    · rw [h2 h, ieq_f h]; rfl
  have okQ : ∀ (col : Int) (out : List Pc) x, ((finQ no col out x).2.1 = 0 → (finQ no col out x).2.2 = 0) ∧ ((finQ no col out x).2.1 ≠ 0 → (finQ no col out x).1 = []) := by
    intro col out x
    unfold finQ
    split
    · simp
    · next a r =>
      cases !(r == []) <;> simp only [cond_true, cond_false]
      · cases decide (200 < a.length) <;> simp
      · simp
  have okT : ∀ n s out, ((txtS no ind n s out).2.1 = 0 → (txtS no ind n s out).2.2 = 0) ∧ ((txtS no ind n s out).2.1 ≠ 0 → (txtS no ind n s out).1 = []) := by
    intro n s out
    unfold txtS
    split
    · simp
    · next c t =>
      cases c == 39 <;> simp only [cond_true, cond_false]
      · cases c == 34 <;> simp only [cond_true, cond_false]
        · cases (oddB c || (dsh (c :: t) || decide (0 < kS (c :: t)))) <;> simp only [cond_true, cond_false]
          · cases decide (200 < (c :: t).length) <;> simp
          · simp
        · exact okQ _ _ _
      · exact okQ _ _ _
  have okE : ∀ n s out, ((endS no ind n s out).2.1 = 0 → (endS no ind n s out).2.2 = 0) ∧ ((endS no ind n s out).2.1 ≠ 0 → (endS no ind n s out).1 = []) := by
    intro n s out
    unfold endS
    cases decide (0 < kS s) <;> simp only [cond_true, cond_false]
    · exact okT _ _ _
    · cases decide (64 < kS s) <;> simp only [cond_true, cond_false]
      · exact okT _ _ _
      · simp
  have okR : ∀ f n s out, ((rowS no ind f n s out).2.1 = 0 → (rowS no ind f n s out).2.2 = 0) ∧ ((rowS no ind f n s out).2.1 ≠ 0 → (rowS no ind f n s out).1 = []) := by
    intro f
    induction f with
    | zero => intro n s out; simp [rowS]
    | succ f ih =>
      intro n s out
      rw [rowS]
      cases dsh s <;> simp only [cond_true, cond_false]
      · exact okE _ _ _
      · exact ih _ _ _
  by_cases hi : ind < 0 ∨ 16384 < ind
  · have e1 : (bif decide (ind < 0) then true else decide (ind > 16384)) = true := by
      rw [Bool.cond_true_left]
      simp
      omega
    have e2 : (decide (ind < 0) || decide (16384 < ind)) = true := by simp; omega
    rw [e1, cond_true]
    unfold rowR
    rw [e2]
    rfl
  · have e1 : (bif decide (ind < 0) then true else decide (ind > 16384)) = false := by
      rw [Bool.cond_true_left]
      simp
      omega
    have e2 : (decide (ind < 0) || decide (16384 < ind)) = false := by simp; omega
    rw [e1, cond_false]
    unfold rowR
    rw [e2, cond_false]
    have := wqsm k no ind s 0 [] (fun y10 y11 y12 y13 y14 y15 => wq2u k k y10 y11 y12 y13 y14 y15 (fun _ _ _ _ o => K o 0 0) (fun _ _ _ _ _ a b => K [] a b)) (by omega) (by omega) (by omega)
    refine Eq.trans this ?_
    simp only [List.drop_zero, Nat.zero_add]
    have hnb := nb_le s
    rw [wqy6 k no ind s (fun o => K o 0 0) (fun a b => K [] a b) (by omega) (by omega) ht hk k (s.drop (nb s)) (nb s) (s.length + 1) [] rfl (by rw [List.length_drop]; omega) hnb (by simp) (by rw [List.length_drop]; omega)]
    exact fin _ (okR _ _ _ _).1 (okR _ _ _ _).2
end Go.Proofs.YtpfbdepoammjmaaGreatDoor.Pvm

namespace Go.Proofs.YtpfbdepoammjmaaGreatDoor.Pvm
open Go
theorem cut_mid {α : Type} (s : List α) (n j : Nat) : cut s (n : Int) ((n + j : Nat) : Int) = (s.drop n).take j := by
  simp only [cut, wq2]
  rw [List.drop_take]
  congr 1
  omega
theorem wqrn (k : Nat) {R : Type} (no ind : Int) (text : List UInt8) (K : List Pc → Int → Int → Option R)
    (h0 : 0 ≤ ind) (h1 : ind ≤ 16384) (ht : text.length ≤ 1000000) (hk : text.length + 20 < k) :
    ∀ (m : Nat) (s : List UInt8) (n f : Nat) (out : List Pc), text.drop n = s → s.length < m → n ≤ text.length → out.length ≤ n → s.length < f →
      wq5h k m no ind text 0 0 out text (n : Int) K = K (rowS no ind f n s out).1 (rowS no ind f n s out).2.1 (rowS no ind f n s out).2.2
  | 0, s, n, f, out, _, hm, _, _, _ => by omega
  | m + 1, s, n, 0, out, _, _, _, _, hf => by omega
  | m + 1, s, n, f + 1, out, hs, hm, hn, ho, hf => by
    have hl := congrArg List.length hs
    rw [List.length_drop] at hl
    rw [wq5h, wqbv, rowS]
    simp (disch := omega) only [bnd_t, cond_true, cut_end, hs, wqh5]
    cases hd : dsh s with
    | true =>
      simp only [cond_true]
      cases s with
      | nil => cases hd
      | cons c t =>
        simp only [List.length_cons] at hm hf hl
        obtain ⟨hlt, _, hr⟩ := wq1i hs
        have f1 : ∀ x : Pc, fits out.length [x].length 48 = true := fun x => fits_t (by simp; omega) (by simp; omega)
        simp (disch := omega) only [f1, cond_true, wrap_id, wq4a]
        rw [wqh6 k text (n + 1) _ (by omega) (by omega) (by omega), hr]
        have := nb_le t
        simp (disch := omega) only [wrap_id, cast_add]
        exact wqrn k no ind text K h0 h1 ht hk m (t.drop (nb t)) (n + 1 + nb t) f _ (by rw [← hr, List.drop_drop]) (by rw [List.length_drop]; omega) (by omega) (by simp; omega) (by rw [List.length_drop]; omega)
    | false =>
      simp only [cond_false]
      rw [wqrj k s _ (by omega) (by omega), endS]
      have hkl := kS_lt s
      have tail : ∀ (a : Nat) (s : List UInt8) (out : List Pc), text.drop a = s → a ≤ text.length → out.length ≤ 1000000 →
          (bif decide ((a : Int) ≥ (text.length : Int)) then K out 0 0
            else bif inb (a : Int) (text.length : Int) then
                bif bif ((text.getD a 0).toNat : Int) == 39 then true else ((text.getD a 0).toNat : Int) == 34 then
                    wq6y k s fun y14 y15 =>
                      bif !y15 then K [] 3 no else bif decide ((y14.length : Int) > 200) then K [] 4 no else
                        bif fits out.length 1 48 then K (out ++ [(3, no, ind + (a : Int), y14, true)]) 0 0 else none
                else wqcq k ((text.getD a 0).toNat : Int) fun y14 =>
                    bif y14 == false then bif dsh s == false then wq7j k s fun y16 => bif decide (y16 > 0) then K [] 4 no else bif decide ((s.length : Int) > 200) then K [] 4 no else
                        bif fits out.length 1 48 then K (out ++ [(3, no, ind + (a : Int), s, false)]) 0 0 else none
                      else K [] 4 no
                    else K [] 4 no
              else none) = K (txtS no ind a s out).1 (txtS no ind a s out).2.1 (txtS no ind a s out).2.2 := by
        intro a s out hs ha hout
        have hl := congrArg List.length hs
        rw [List.length_drop] at hl
        cases s with
        | nil =>
          have := drop_nil hs
          simp (disch := omega) only [dec_t, cond_true, txtS]
        | cons c t =>
          obtain ⟨hlt, hc, _⟩ := wq1i hs
          have e39 : ((c.toNat : Int) == 39) = (c == 39) := u8_beq c 39 (by omega)
          have e34 : ((c.toNat : Int) == 34) = (c == 34) := u8_beq c 34 (by omega)
          have f1 : fits out.length 1 48 = true := fits_t (by omega) (by omega)
          have hkc := kS_lt (c :: t)
          have quoted : ∀ x : Option (List UInt8 × List UInt8), (match x with
              | some (a', r) => (fun (y14 : List UInt8) (y15 : Bool) => bif !y15 then K [] 3 no else bif decide ((y14.length : Int) > 200) then K [] 4 no else K (out ++ [(3, no, ind + (a : Int), y14, true)]) 0 0) a' (r == [])
              | none => K [] 3 no) = K (finQ no (ind + a) out x).1 (finQ no (ind + a) out x).2.1 (finQ no (ind + a) out x).2.2 := by
            intro x
            cases x with
            | none => rfl
            | some p =>
              obtain ⟨a', r⟩ := p
              simp only [finQ]
              cases r == [] with
              | false => rfl
              | true =>
                simp only [Bool.not_true, cond_false]
                by_cases h2 : 200 < a'.length
                · simp (disch := omega) only [dec_t, dec_f, ieq_t, ieq_f, ine_t, ine_f, inb_t, bnd_t, wrap_id, wrap8_id, cond_true, cond_false, Bool.not_true, Bool.not_false, Bool.true_or, Bool.or_true, Bool.false_or, Bool.or_false, Bool.true_and, Bool.and_true, Bool.false_and, Bool.and_false, wq1, wq0, wq2]
                · simp (disch := omega) only [dec_t, dec_f, ieq_t, ieq_f, ine_t, ine_f, inb_t, bnd_t, wrap_id, wrap8_id, cond_true, cond_false, Bool.not_true, Bool.not_false, Bool.true_or, Bool.or_true, Bool.false_or, Bool.or_false, Bool.true_and, Bool.and_true, Bool.false_and, Bool.and_false, wq1, wq0, wq2]
          simp (disch := omega) only [dec_f, inb_t, hc, e39, e34, f1, cond_true, cond_false, txtS]
          cases h39 : c == 39 with
          | true =>
            simp only [cond_true]
            rw [(wqrm k c t (by omega) (by omega) _).1 (beq_iff_eq.1 h39)]
            exact (by rw [← quoted]; cases sgl [] t <;> rfl)
          | false =>
            simp only [cond_false]
            cases h34 : c == 34 with
            | true =>
              simp only [cond_true]
              rw [(wqrm k c t (by omega) (by omega) _).2 (beq_iff_eq.1 h34)]
              exact (by rw [← quoted]; cases dbl (t.length + 1) [] t <;> rfl)
            | false =>
              simp only [cond_false]
              rw [wq15e k c _ (by omega)]
              cases oddB c with
              | true => rfl
              | false =>
                cases dsh (c :: t) with
                | true => rfl
                | false =>
                  simp only [dec_t, dec_f, ieq_t, ieq_f, ine_t, ine_f, inb_t, bnd_t, wrap_id, wrap8_id, cond_true, cond_false, Bool.not_true, Bool.not_false, Bool.true_or, Bool.or_true, Bool.false_or, Bool.or_false, Bool.true_and, Bool.and_true, Bool.false_and, Bool.and_false, wq1, wq0, wq2]
                  rw [wqrj k (c :: t) _ (by omega) (by omega)]
                  by_cases h3 : kS (c :: t) = 0
                  · simp (disch := omega) only [dec_t, dec_f, ieq_t, ieq_f, ine_t, ine_f, inb_t, bnd_t, wrap_id, wrap8_id, cond_true, cond_false, Bool.not_true, Bool.not_false, Bool.true_or, Bool.or_true, Bool.false_or, Bool.or_false, Bool.true_and, Bool.and_true, Bool.false_and, Bool.and_false, wq1, wq0, wq2]
                    by_cases h4 : 200 < (c :: t).length
                    · simp (disch := omega) only [dec_t, dec_f, ieq_t, ieq_f, ine_t, ine_f, inb_t, bnd_t, wrap_id, wrap8_id, cond_true, cond_false, Bool.not_true, Bool.not_false, Bool.true_or, Bool.or_true, Bool.false_or, Bool.or_false, Bool.true_and, Bool.and_true, Bool.false_and, Bool.and_false, wq1, wq0, wq2]
                    · simp (disch := omega) only [dec_t, dec_f, ieq_t, ieq_f, ine_t, ine_f, inb_t, bnd_t, wrap_id, wrap8_id, cond_true, cond_false, Bool.not_true, Bool.not_false, Bool.true_or, Bool.or_true, Bool.false_or, Bool.or_false, Bool.true_and, Bool.and_true, Bool.false_and, Bool.and_false, wq1, wq0, wq2]
                  · simp (disch := omega) only [dec_t, dec_f, ieq_t, ieq_f, ine_t, ine_f, inb_t, bnd_t, wrap_id, wrap8_id, cond_true, cond_false, Bool.not_true, Bool.not_false, Bool.true_or, Bool.or_true, Bool.false_or, Bool.or_false, Bool.true_and, Bool.and_true, Bool.false_and, Bool.and_false, wq1, wq0, wq2]
      by_cases hz : kS s = 0
      · have := tail n s out hs hn (by omega)
        have e0 : decide (0 < kS s) = false := dec_f (by omega)
        rw [e0, cond_false, ← this]
        simp (disch := omega) only [dec_f, cond_false, wq2, wrap_id, List.length_singleton, bnd_t, cond_true, Bool.or_true]
        by_cases hge : text.length ≤ n
        · simp (disch := omega) only [dec_t, cond_true]
        · simp (disch := omega) only [dec_f, cond_false, inb_t, cond_true, Bool.or_true, wqh5, hd]
      · have hkr := kS_room (s := s) (by omega)
        have e0 : decide (0 < kS s) = true := dec_t (by omega)
        rw [e0, cond_true]
        by_cases h64 : 64 < kS s
        · simp (disch := omega) only [dec_t, dec_f, ieq_t, ieq_f, ine_t, ine_f, inb_t, bnd_t, wrap_id, wrap8_id, cond_true, cond_false, Bool.not_true, Bool.not_false, Bool.true_or, Bool.or_true, Bool.false_or, Bool.or_false, Bool.true_and, Bool.and_true, Bool.false_and, Bool.and_false, wq1, wq0, wq2]
        · have e64 : decide (64 < kS s) = false := dec_f h64
          rw [e64, cond_false]
          have hnb := nb_le (s.drop (kS s + 1))
          rw [List.length_drop] at hnb
          have hr : text.drop (n + kS s + 1) = s.drop (kS s + 1) := by rw [← hs, List.drop_drop]; congr 1
          have f1 : fits out.length 1 48 = true := fits_t (by omega) (by omega)
          simp (disch := omega) only [dec_t, dec_f, cond_false, cond_true, wrap_id, cast_add, wq4a, bnd_t, List.length_singleton, f1, cut_mid, hs]
          rw [wqh6 k text (n + kS s + 1) _ (by omega) (by omega) (by omega), hr]
          simp (disch := omega) only [wrap_id, cast_add]
          have e1 : n + (kS s + 1) + nb (s.drop (kS s + 1)) = n + kS s + 1 + nb (s.drop (kS s + 1)) := by omega
          rw [e1]
          have hta : text.drop (n + kS s + 1 + nb (s.drop (kS s + 1))) = (s.drop (kS s + 1)).drop (nb (s.drop (kS s + 1))) := by rw [← hr, List.drop_drop, hr]
          have := tail (n + kS s + 1 + nb (s.drop (kS s + 1))) _ (out ++ [(2, no, ind + (n : Int), s.take (kS s), false)]) hta (by omega) (by simp; omega)
          rw [← this]
          generalize n + kS s + 1 + nb (s.drop (kS s + 1)) = a at hta ⊢
          have hal : a ≤ text.length ∨ text.length < a := by omega
          by_cases hge : text.length ≤ a
          · simp (disch := omega) only [dec_t, cond_true]
          · simp (disch := omega) only [dec_f, cond_false, inb_t, cond_true, Bool.or_true, bnd_t, cut_end, hta, wqh5, wq2]
theorem wq15f (k : Nat) {R : Type} (no ind : Int) (s : List UInt8) (K : List Pc → Int → Int → Option R) (ht : s.length ≤ 1000000) (hk : s.length + 20 < k) :
    wqhz k no ind s K = K (rowR no ind s).1 (rowR no ind s).2.1 (rowR no ind s).2.2 := by
  unfold wqhz wqmc rowR
  by_cases hi : ind < 0 ∨ 16384 < ind
  · have e1 : (bif decide (ind < 0) then true else decide (ind > 16384)) = true := by
      rw [Bool.cond_true_left]
      simp
      omega
    have e2 : (decide (ind < 0) || decide (16384 < ind)) = true := by simp; omega
    rw [e1, e2]
    rfl
  · have e1 : (bif decide (ind < 0) then true else decide (ind > 16384)) = false := by
      rw [Bool.cond_true_left]
      simp
      omega
    have e2 : (decide (ind < 0) || decide (16384 < ind)) = false := by simp; omega
    rw [e1, e2]
    simp only [cond_false]
    refine Eq.trans (wqh6 k s 0 _ (by omega) (by omega) (by omega)) ?_
    rw [List.drop_zero]
    have hnb := nb_le s
    exact wqrn k no ind s K (by omega) (by omega) ht hk k (s.drop (nb s)) (nb s) (s.length + 1) [] rfl (by rw [List.length_drop]; omega) hnb (by simp) (by rw [List.length_drop]; omega)
end Go.Proofs.YtpfbdepoammjmaaGreatDoor.Pvm

namespace Go.Proofs.YtpfbdepoammjmaaGreatDoor.Pvm
open Go
theorem finQ_len (no col : Int) (out : List Pc) (x : Option (List UInt8 × List UInt8)) : (finQ no col out x).1.length ≤ out.length + 1 := by
  unfold finQ
  split
  · simp
  · next a r =>
    cases !(r == []) <;> simp only [cond_true, cond_false]
    · cases decide (200 < a.length) <;> simp
    · simp
theorem txtS_len (no ind : Int) (n : Nat) (s : List UInt8) (out : List Pc) : (txtS no ind n s out).1.length ≤ out.length + s.length := by
  unfold txtS
  split
  · simp
  · next c t =>
    have h1 := finQ_len no (ind + n) out (sgl [] t)
    have h2 := finQ_len no (ind + n) out (dbl (t.length + 1) [] t)
    have h3 : (c :: t).length = t.length + 1 := rfl
    cases c == 39 <;> simp only [cond_true, cond_false]
    · cases c == 34 <;> simp only [cond_true, cond_false]
      · cases (oddB c || (dsh (c :: t) || decide (0 < kS (c :: t)))) <;> simp only [cond_true, cond_false]
        · cases decide (200 < (c :: t).length) <;> simp
        · simp
      · omega
    · omega
theorem endS_len (no ind : Int) (n : Nat) (s : List UInt8) (out : List Pc) : (endS no ind n s out).1.length ≤ out.length + s.length := by
  unfold endS
  by_cases h : 0 < kS s
  · rw [dec_t h, cond_true]
    have := kS_room h
    cases decide (64 < kS s) <;> simp only [cond_true, cond_false]
    · refine Nat.le_trans (txtS_len _ _ _ _ _) ?_
      simp
      omega
    · simp
  · rw [dec_f h, cond_false]; exact txtS_len _ _ _ _ _
theorem rowS_len (no ind : Int) : ∀ (f n : Nat) (s : List UInt8) (out : List Pc), (rowS no ind f n s out).1.length ≤ out.length + s.length
  | 0, n, s, out => by simp [rowS]
  | f + 1, n, s, out => by
    rw [rowS]
    cases h : dsh s with
    | false => exact endS_len _ _ _ _ _
    | true =>
      rw [cond_true]
      refine Nat.le_trans (rowS_len no ind f _ _ _) ?_
      cases s with
      | nil => cases h
      | cons c t => simp; omega
theorem rowR_len (no ind : Int) (s : List UInt8) : (rowR no ind s).1.length ≤ s.length := by
  unfold rowR
  cases (decide (ind < 0) || decide (16384 < ind)) with
  | true => simp
  | false =>
    rw [cond_false]
    refine Nat.le_trans (rowS_len _ _ _ _ _ _) ?_
    simp
abbrev Ln := Int × (Int × List UInt8)
def allS : List Ln → List Pc → Res
  | [], out => (out, 0, 0)
  | l :: r, out => bif (rowR l.1 l.2.1 l.2.2).2.1 != 0 then ([], (rowR l.1 l.2.1 l.2.2).2.1, (rowR l.1 l.2.1 l.2.2).2.2) else allS r (out ++ (rowR l.1 l.2.1 l.2.2).1)
def total : List Ln → Nat
  | [] => 0
  | l :: r => l.2.2.length + total r
theorem wq126 : ∀ {ls : List Ln} {l : Ln}, l ∈ ls → l.2.2.length ≤ total ls
  | a :: r, l, h => by
    rw [total]
    rcases List.mem_cons.1 h with rfl | h
    · omega
    · have := wq126 h; omega
  | [], l, h => by cases h
theorem wqy7 (k : Nat) {R : Type} (a b : Int) (ls : List Ln) (K : List Pc → Int → Int → Option R) (hl : ls.length ≤ 1000000) (hk : total ls + 20 < k) (ht : total ls ≤ 1000000) :
    ∀ (t : List Ln) (n m : Nat) (out : List Pc), ls.drop n = t → t.length < m → n ≤ ls.length → out.length + total t ≤ 1000000 → wq60 k m a b out ls (ls.length : Int) (n : Int) K = K (allS t out).1 (allS t out).2.1 (allS t out).2.2
  | t, n, 0, out, _, hm, _, _ => by omega
  | [], n, m + 1, out, hd, hm, hn, ho => by
    have := drop_nil hd
    rw [wq60, wqbm]
    simp (disch := omega) only [dec_t, dec_f, ieq_t, ieq_f, ine_t, ine_f, inb_t, bnd_t, wrap_id, wrap8_id, cond_true, cond_false, Bool.not_true, Bool.not_false, Bool.true_or, Bool.or_true, Bool.false_or, Bool.or_false, Bool.true_and, Bool.and_true, Bool.false_and, Bool.and_false, wq1, wq0, wq2]
    rfl
  | c :: r, n, m + 1, out, hd, hm, hn, ho => by
    obtain ⟨hlt, hc, hr⟩ := wq1i hd
    rw [total] at ho
    have hmem : c ∈ ls := by
      have := hc c
      rw [List.getD_eq_getElem?_getD, List.getElem?_eq_getElem hlt] at this
      exact this ▸ List.getElem_mem hlt
    have hcl := wq126 hmem
    have hrl := rowR_len c.1 c.2.1 c.2.2
    rw [wq60, wqbm]
    simp (disch := omega) only [dec_t, inb_t, cond_true, hc, wq2]
    rw [wq17u k c.1 c.2.1 c.2.2 _ (by omega) (by omega), allS]
    cases (rowR c.1 c.2.1 c.2.2).2.1 != 0 with
    | true => rfl
    | false =>
      simp only [cond_false]
      rw [fits_t (by omega) (by omega), cond_true]
      simp (disch := omega) only [wrap_id, wq4a]
      exact wqy7 k a b ls K hl hk ht r (n + 1) m _ hr (by simp at hm; omega) (by omega) (by simp; omega)
theorem wq17v (k : Nat) {R : Type} (ls : List Ln) (K : List Pc → Int → Int → Option R) (hl : ls.length ≤ 1000000) (hk : total ls + 20 < k) (hk2 : ls.length < k) (ht : total ls ≤ 1000000) : wqqs k ls K = K (allS ls []).1 (allS ls []).2.1 (allS ls []).2.2 := by
  unfold wqqs wqup
  exact wqy7 k 0 0 ls K hl hk ht ls 0 k [] rfl hk2 (Nat.zero_le _) (by simpa using ht)
theorem wqjm (k : Nat) {R : Type} (a b : Int) (ls : List Ln) (K : List Pc → Int → Int → Option R) (hl : ls.length ≤ 1000000) (hk : total ls + 20 < k) (ht : total ls ≤ 1000000) :
    ∀ (t : List Ln) (n m : Nat) (out : List Pc), ls.drop n = t → t.length < m → n ≤ ls.length → out.length + total t ≤ 1000000 → wq3a k m ls a b out (n : Int) K = K (allS t out).1 (allS t out).2.1 (allS t out).2.2
  | t, n, 0, out, _, hm, _, _ => by omega
  | [], n, m + 1, out, hd, hm, hn, ho => by
    have := drop_nil hd
    rw [wq3a, wq71]
    simp (disch := omega) only [dec_t, dec_f, ieq_t, ieq_f, ine_t, ine_f, inb_t, bnd_t, wrap_id, wrap8_id, cond_true, cond_false, Bool.not_true, Bool.not_false, Bool.true_or, Bool.or_true, Bool.false_or, Bool.or_false, Bool.true_and, Bool.and_true, Bool.false_and, Bool.and_false, wq1, wq0, wq2]
    rfl
  | c :: r, n, m + 1, out, hd, hm, hn, ho => by
    obtain ⟨hlt, hc, hr⟩ := wq1i hd
    rw [total] at ho
    have hmem : c ∈ ls := by
      have := hc c
      rw [List.getD_eq_getElem?_getD, List.getElem?_eq_getElem hlt] at this
      exact this ▸ List.getElem_mem hlt
    have hcl := wq126 hmem
    have hrl := rowR_len c.1 c.2.1 c.2.2
    rw [wq3a, wq71]
    simp (disch := omega) only [dec_t, inb_t, cond_true, hc, wq2]
    rw [wq15f k c.1 c.2.1 c.2.2 _ (by omega) (by omega), allS]
    cases (rowR c.1 c.2.1 c.2.2).2.1 != 0 with
    | true => rfl
    | false =>
      simp only [cond_false]
      rw [fits_t (by omega) (by omega), cond_true]
      simp (disch := omega) only [wrap_id, wq4a]
      exact wqjm k a b ls K hl hk ht r (n + 1) m _ hr (by simp at hm; omega) (by omega) (by simp; omega)
theorem wqzq (k : Nat) {R : Type} (ls : List Ln) (K : List Pc → Int → Int → Option R) (hl : ls.length ≤ 1000000) (hk : total ls + 20 < k) (hk2 : ls.length < k) (ht : total ls ≤ 1000000) : wqbw k ls K = K (allS ls []).1 (allS ls []).2.1 (allS ls []).2.2 := by
  unfold wqbw wqeb
  exact wqjm k 0 0 ls K hl hk ht ls 0 k [] rfl hk2 (Nat.zero_le _) (by simpa using ht)
end Go.Proofs.YtpfbdepoammjmaaGreatDoor.Pvm

namespace Go.Proofs.YtpfbdepoammjmaaGreatDoor.Pvm
open Go
theorem u8_same (c d : UInt8) : ((c.toNat : Int) == (d.toNat : Int)) = (c == d) := by
  rw [Bool.eq_iff_iff]
  simp only [beq_iff_eq]
  constructor
  · intro h; exact UInt8.toNat_inj.1 (by omega)
  · intro h; rw [h]
theorem u8_other (c d : UInt8) : ((c.toNat : Int) != (d.toNat : Int)) = !(c == d) := by rw [bne, u8_same]
theorem wq194 (n : Nat) : (n : Int) + 1 + 1 = ((n + 2 : Nat) : Int) := by omega
theorem wq195 {n : Nat} (h : 0 < n) : (n : Int) - 1 = ((n - 1 : Nat) : Int) := by omega
end Go.Proofs.YtpfbdepoammjmaaGreatDoor.Pvm

namespace Go.Proofs.YtpfbdepoammjmaaGreatDoor.Pvm
open Go
theorem wq15g (l : List UInt8) (n : Nat) : (toBytes l).drop n = toBytes (l.drop n) := by simp [toBytes, List.map_drop]
theorem wq15h (l : List UInt8) (n : Nat) : (toBytes l).take n = toBytes (l.take n) := by simp [toBytes, List.map_take]
theorem wq18v (l : List UInt8) (n : Nat) : (toBytes l).getD n 0 = ((l.getD n 0).toNat : Int) := by
  simp only [toBytes, List.getD, List.getElem?_map]
  cases l[n]? <;> rfl
theorem bytes_wf {x : List Int} (h : ∀ y ∈ x, (0 : Int) ≤ y ∧ y ≤ 255) : ∃ t, x = toBytes t := by
  refine ⟨ofBytes x, ?_⟩
  unfold ofBytes toBytes
  rw [List.map_map]
  symm
  refine (List.map_congr_left fun y hy => ?_).trans (List.map_id x)
  have := h y hy
  simp only [Function.comp, UInt8.toNat_ofNat', id]
  omega
end Go.Proofs.YtpfbdepoammjmaaGreatDoor.Pvm

namespace Go.Proofs.YtpfbdepoammjmaaGreatDoor.Pvm
open Go
def spl : List UInt8 → List (List UInt8)
  | [] => [[]]
  | x :: r => bif x == 10 then [] :: spl r else (match spl r with
    | p :: ps => (x :: p) :: ps
    | [] => [[x]])
theorem spl_upto : ∀ s : List UInt8, spl s = if upto 10 s < s.length then s.take (upto 10 s) :: spl (s.drop (upto 10 s + 1)) else [s]
  | [] => rfl
  | x :: r => by
    rw [spl, upto]
    cases h : x == 10 with
    | true => simp
    | false =>
      rw [cond_false, cond_false, spl_upto r]
      by_cases hl : upto 10 r < r.length
      · rw [if_pos hl, if_pos (by simpa using hl)]
        rfl
      · rw [if_neg hl, if_neg (by simpa using hl)]
theorem wq14c : ∀ s : List UInt8, s.count 10 = if upto 10 s < s.length then (s.drop (upto 10 s + 1)).count 10 + 1 else 0
  | [] => rfl
  | x :: r => by
    rw [List.count_cons, upto]
    cases h : x == 10 with
    | true => simp
    | false =>
      rw [cond_false, wq14c r]
      simp only [Bool.false_eq_true, if_false, Nat.add_zero]
      by_cases hl : upto 10 r < r.length
      · rw [if_pos hl, if_pos (by simpa using hl)]
        simp
      · rw [if_neg hl, if_neg (by simpa using hl)]
theorem Index_eq (k : Nat) {R : Type} (s : List UInt8) (K : Int → Option R) : wqd6 k (toBytes s) 10 K = K (if upto 10 s < s.length then (upto 10 s : Int) else -1) := by
  have : wqd6 k (toBytes s) 10 K = K (idxByte (ofBytes (toBytes s)) 10) := rfl
  rw [this, wq75]
  have := idx_eq s 10
  rw [← this]; rfl
theorem take_set {α : Type} (l : List α) (i : Nat) (x : α) (h : i < l.length) : (l.set i x).take (i + 1) = l.take i ++ [x] := by
  rw [List.take_add_one, List.take_set_of_le (Nat.le_refl _)]
  simp [h]
theorem wq14d (k : Nat) {R : Type} (K : List (List Int) → Option R) : ∀ (n : Nat) (s : List UInt8) (i c : Nat) (arr : List (List Int)), s.count 10 = c → arr.length = i + c + 1 → c < n → s.length + i + c ≤ 1000000 →
    wq36 k n (toBytes s) 10 0 ((i + c : Nat) : Int) arr (i : Int) K = K (arr.take i ++ (spl s).map toBytes) := by
  intro n
  induction n with
  | zero => intro s i c arr _ _ h; omega
  | succ n ih =>
    intro s i c arr hc ha hn hl
    rw [wq36]
    unfold wq78
    rw [wq14c] at hc
    by_cases hu : upto 10 s < s.length
    · rw [if_pos hu] at hc
      obtain ⟨c', rfl⟩ : ∃ c', c = c' + 1 := ⟨c - 1, by omega⟩
      rw [Index_eq, if_pos hu, spl_upto, if_pos hu]
      have hd : decide ((i : Int) < ((i + (c' + 1) : Nat) : Int)) = true := dec_t (by omega)
      have hu0 : decide ((upto 10 s : Int) < 0) = false := dec_f (by omega)
      have w0 : IntKind.i64.wrap ((upto 10 s : Int) + 0) = (upto 10 s : Int) := by rw [wrap_id (by omega) (by omega)]; omega
      have w1 : IntKind.i64.wrap ((upto 10 s : Int) + (([10] : List Int).length : Int)) = ((upto 10 s + 1 : Nat) : Int) := by rw [wrap_id (by simp; omega) (by simp; omega)]; simp
      have w2 : IntKind.i64.wrap ((i : Int) + 1) = ((i + 1 : Nat) : Int) := by rw [wrap_id (by omega) (by omega)]; omega
      have b1 : bnd 0 (upto 10 s : Int) (upto 10 s : Int) = true := bnd_t (by omega) (by omega) (by omega)
      have d1 : decide ((upto 10 s : Int) ≤ ((toBytes s).length : Int)) = true := dec_t (by rw [wq56]; omega)
      have i1 : inb (i : Int) (arr.length : Int) = true := inb_t (by omega) (by omega)
      have b2 : bnd ((upto 10 s + 1 : Nat) : Int) ((toBytes s).length : Int) ((toBytes s).length : Int) = true := bnd_t (by omega) (by rw [wq56]; omega) (by omega)
      simp only [hd, hu0, w0, w1, w2, b1, d1, i1, b2, cond_true, cond_false, Bool.and_true, Bool.and_self]
      rw [cut_end, wqbz, wq15g, wq15h, wq2]
      have e : ((i + (c' + 1) : Nat) : Int) = (((i + 1) + c' : Nat) : Int) := by omega
      rw [e, ih _ (i + 1) c' _ (by omega) (by rw [List.length_set]; omega) (by omega) (by rw [List.length_drop]; omega), take_set _ _ _ (by omega)]
      simp
    · rw [if_neg hu] at hc
      subst hc
      rw [spl_upto, if_neg hu]
      have hd : decide ((i : Int) < ((i + 0 : Nat) : Int)) = false := dec_f (by omega)
      have w2 : IntKind.i64.wrap ((i : Int) + 1) = ((i + 1 : Nat) : Int) := by rw [wrap_id (by omega) (by omega)]; omega
      have i1 : inb (i : Int) (arr.length : Int) = true := inb_t (by omega) (by omega)
      have b2 : ∀ z, bnd 0 ((i + 1 : Nat) : Int) ((arr.set (i : Int).toNat z).length : Int) = true := fun z => bnd_t (by omega) (by omega) (by rw [List.length_set]; omega)
      simp only [hd, w2, i1, b2, cond_true, cond_false]
      rw [wqbz, wq2, take_set _ _ _ (by omega)]
      rfl
theorem Split_eq (k : Nat) {R : Type} (s : List UInt8) (hs : s.length ≤ 100000) (hk : s.length < k) (K : List (List Int) → Option R) : wqd7 k (toBytes s) 10 K = K ((spl s).map toBytes) := by
  unfold wqd7 wql2 wqbp wqbo
  have hcl : s.count 10 ≤ s.length := List.count_le_length
  have hcnt : wqd5 k (toBytes s) 10 = fun (K : Int → Option R) => K ((s.count 10 : Nat) : Int) := by
    funext K
    have : wqd5 k (toBytes s) 10 K = K (cntB (ofBytes (toBytes s)) 10) := rfl
    rw [this, wq75]; rfl
  rw [hcnt, wq56]
  have z0 : ((-1 : Int) == 0) = false := rfl
  have z1 : decide ((-1 : Int) < 0) = true := rfl
  have w1 : IntKind.i64.wrap (((s.count 10 : Nat) : Int) + 1) = ((s.count 10 + 1 : Nat) : Int) := by rw [wrap_id (by omega) (by omega)]; omega
  have w2 : IntKind.i64.wrap ((s.length : Int) + 1) = ((s.length + 1 : Nat) : Int) := by rw [wrap_id (by omega) (by omega)]; omega
  have hmin : (if ((s.length + 1 : Nat) : Int) < ((s.count 10 + 1 : Nat) : Int) then ((s.length + 1 : Nat) : Int) else ((s.count 10 + 1 : Nat) : Int)) = ((s.count 10 + 1 : Nat) : Int) := by
    rw [if_neg (by omega)]
  simp only [z0, z1, cond_true, cond_false, w1, w2, hmin]
  have hm : mkB ((s.count 10 + 1 : Nat) : Int) ((s.count 10 + 1 : Nat) : Int) 24 = true := by
    simp only [mkB, Bool.and_eq_true, decide_eq_true_eq]; omega
  have w3 : IntKind.i64.wrap (((s.count 10 + 1 : Nat) : Int) - 1) = ((0 + s.count 10 : Nat) : Int) := by rw [wrap_id (by omega) (by omega)]; omega
  rw [hm, cond_true, w3]
  have := wq14d k K k s 0 (s.count 10) (zeros (Kd.int IntKind.u8).sl ((s.count 10 + 1 : Nat) : Int)) rfl (by simp [zeros]) (by omega) (by omega)
  exact this
end Go.Proofs.YtpfbdepoammjmaaGreatDoor.Pvm

namespace Go.Proofs.YtpfbdepoammjmaaGreatDoor.Pvm
open Go
def bad (c : UInt8) : Bool := oddP c.toNat
theorem wq127 {n : Nat} (h : 128 ≤ n) : oddP n = false := by
  have h1 : decide ((n : Int) ≥ 0) = true := dec_t (by omega)
  have h2 : decide ((n : Int) < 32) = false := dec_f (by omega)
  have h3 : ((n : Int) == 127) = false := ieq_f (by omega)
  rw [oddP, h1, h2, h3]; rfl
theorem wq17w (s : ByteArray) (i : Nat) (h : (s.get! i).toNat < 128) : Utf8.decode s i = ((s.get! i).toNat, 1) := by
  unfold Utf8.decode
  simp only [Nat.add_zero]
  rw [if_pos (by omega)]
theorem wq176 (s : ByteArray) (i : Nat) (h : 128 ≤ (s.get! i).toNat) : 128 ≤ (Utf8.decode s i).1 ∧ ∀ j, i < j → j < i + (Utf8.decode s i).2 → 128 ≤ (s.get! j).toNat := by
  have ct : ∀ k, (decide (i + k < s.size) && ((s.get! (i + k)).toNat / 64 == 2)) = true → 128 ≤ (s.get! (i + k)).toNat := by
    intro k hk
    simp only [Bool.and_eq_true, beq_iff_eq] at hk
    omega
  unfold Utf8.decode
  simp only [Nat.add_zero]
  rw [if_neg (by omega)]
  split
  · next h1 =>
    simp only [Bool.and_eq_true] at h1
    have c1 := ct 1 (by simpa using h1.2)
    split
    · next h2 =>
      refine ⟨h2, fun j j1 j2 => ?_⟩
      obtain rfl : j = i + 1 := by omega
      exact c1
    · exact ⟨by decide, fun j j1 j2 => by omega⟩
  · split
    · next h1 =>
      simp only [Bool.and_eq_true] at h1
      have c1 := ct 1 (by simpa using h1.1.2)
      have c2 := ct 2 (by simpa using h1.2)
      split
      · next h2 =>
        simp only [Bool.and_eq_true, decide_eq_true_eq] at h2
        refine ⟨by omega, fun j j1 j2 => ?_⟩
        rcases (show j = i + 1 ∨ j = i + 2 by omega) with rfl | rfl
        · exact c1
        · exact c2
      · exact ⟨by decide, fun j j1 j2 => by omega⟩
    · split
      · next h1 =>
        simp only [Bool.and_eq_true] at h1
        have c1 := ct 1 (by simpa using h1.1.1.2)
        have c2 := ct 2 (by simpa using h1.1.2)
        have c3 := ct 3 (by simpa using h1.2)
        split
        · next h2 =>
          simp only [Bool.and_eq_true, decide_eq_true_eq] at h2
          refine ⟨by omega, fun j j1 j2 => ?_⟩
          rcases (show j = i + 1 ∨ j = i + 2 ∨ j = i + 3 by omega) with rfl | rfl | rfl
          · exact c1
          · exact c2
          · exact c3
        · exact ⟨by decide, fun j j1 j2 => by omega⟩
      · exact ⟨by decide, fun j j1 j2 => by omega⟩
theorem any_skip (l : List UInt8) (p : UInt8 → Bool) : ∀ (w pos : Nat), (∀ j, pos ≤ j → j < pos + w → j < l.length → p (l.getD j 0) = false) → (l.drop pos).any p = (l.drop (pos + w)).any p
  | 0, pos, h => rfl
  | w + 1, pos, h => by
    rw [show pos + (w + 1) = (pos + 1) + w by omega, ← any_skip l p w (pos + 1) fun j h1 h2 h3 => h j (by omega) (by omega) h3]
    by_cases hl : pos < l.length
    · rw [List.drop_eq_getElem_cons hl, List.any_cons]
      have := h pos (Nat.le_refl _) (by omega) hl
      simp only [List.getD, List.getElem?_eq_getElem hl, Option.getD_some] at this
      rw [this, Bool.false_or]
    · rw [List.drop_eq_nil_of_le (by omega), List.drop_eq_nil_of_le (by omega)]
theorem get_of (l : List UInt8) (i : Nat) (h : i < l.length) : (⟨l.toArray⟩ : ByteArray).get! i = l.getD i 0 := by
  show (l.toArray)[i]! = _
  rw [getElem!_pos l.toArray i (by simpa using h)]
  simp [List.getD, h]
theorem odd_from (l : List UInt8) : ∀ (f pos : Nat), l.length ≤ pos + f → decide (Lib.idxFuncFrom oddP true ⟨l.toArray⟩ f pos ≥ 0) = (l.drop pos).any bad
  | 0, pos, h => by
    rw [List.drop_eq_nil_of_le (by omega)]
    rfl
  | f + 1, pos, h => by
    rw [Lib.idxFuncFrom]
    have hsz : (⟨l.toArray⟩ : ByteArray).size = l.length := rfl
    rw [hsz]
    by_cases hl : pos < l.length
    · rw [if_pos hl]
      have hg := get_of l pos hl
      by_cases hb : (l.getD pos 0).toNat < 128
      · rw [wq17w _ _ (by rw [hg]; exact hb), hg]
        have hd : l.drop pos = l.getD pos 0 :: l.drop (pos + 1) := by
          rw [List.drop_eq_getElem_cons hl]; simp [List.getD, hl]
        rw [hd, List.any_cons]
        cases ho : oddP (l.getD pos 0).toNat with
        | true =>
          have : bad (l.getD pos 0) = true := ho
          rw [this, if_pos rfl]
          simp
        | false =>
          have : bad (l.getD pos 0) = false := ho
          rw [this, if_neg (by simp), odd_from l f (pos + 1) (by omega), Bool.false_or]
      · obtain ⟨r1, r2⟩ := wq176 ⟨l.toArray⟩ pos (by rw [hg]; omega)
        rw [wq127 r1, if_neg (by simp), odd_from l f _ (by have := Lib.width_pos ⟨l.toArray⟩ pos; omega)]
        symm
        refine any_skip l bad _ pos fun j j1 j2 j3 => ?_
        by_cases hj : j = pos
        · subst hj; exact wq127 (by omega)
        · have := r2 j (by omega) j2
          rw [get_of l j j3] at this
          exact wq127 this
    · rw [if_neg hl, List.drop_eq_nil_of_le (by omega)]
      rfl
theorem wq17x (l : List UInt8) : decide (idxOdd l ≥ 0) = l.any bad := odd_from l l.length 0 (by omega)
end Go.Proofs.YtpfbdepoammjmaaGreatDoor.Pvm

namespace Go.Proofs.YtpfbdepoammjmaaGreatDoor.Pvm
open Go
def qS (c : UInt8) : List UInt8 → Nat → Option Nat
  | [], _ => none
  | [x], i => bif c == 34 && x == 92 then none else bif !(x == c) then none else some i
  | x :: y :: r, i => bif c == 34 && x == 92 then qS c r (i + 2) else bif !(x == c) then qS c (y :: r) (i + 1) else bif c == 39 && y == c then qS c r (i + 2) else some i
def qK {R : Type} (K : Int → Bool → Option R) (d : Int) : Option Nat → Option R
  | some j => K (j + d) true
  | none => K 0 false
theorem beq34 (c : UInt8) : ((c.toNat : Int) == 34) = (c == 34) := u8_beq c 34 (by omega)
theorem beq39 (c : UInt8) : ((c.toNat : Int) == 39) = (c == 39) := u8_beq c 39 (by omega)
theorem beq92 (c : UInt8) : ((c.toNat : Int) == 92) = (c == 92) := u8_beq c 92 (by omega)
theorem beq35 (c : UInt8) : ((c.toNat : Int) == 35) = (c == 35) := u8_beq c 35 (by omega)
theorem beq32 (c : UInt8) : ((c.toNat : Int) == 32) = (c == 32) := u8_beq c 32 (by omega)
theorem bne32 (c : UInt8) : ((c.toNat : Int) != 32) = !(c == 32) := u8_bne c 32 (by omega)
theorem qS_bound (c : UInt8) : ∀ (r : List UInt8) (i j : Nat), qS c r i = some j → i ≤ j ∧ j < i + r.length
  | [], i, j, h => by cases h
  | [x], i, j, h => by
    unfold qS at h
    cases h1 : (c == 34 && x == 92) <;> rw [h1] at h <;> simp only [cond_true, cond_false] at h
    · cases h2 : (x == c) <;> rw [h2] at h <;> simp at h
      simp; omega
    · cases h
  | x :: y :: r, i, j, h => by
    unfold qS at h
    cases h1 : (c == 34 && x == 92) <;> rw [h1] at h <;> simp only [cond_true, cond_false] at h
    · cases h2 : (x == c) <;> rw [h2] at h <;> simp only [Bool.not_true, Bool.not_false, cond_true, cond_false] at h
      · have := qS_bound c (y :: r) _ _ h
        simp at this ⊢; omega
      · cases h3 : (c == 39 && y == c) <;> rw [h3] at h <;> simp only [cond_true, cond_false] at h
        · cases h; simp
        · have := qS_bound c r _ _ h
          simp at this ⊢; omega
    · have := qS_bound c r _ _ h
      simp at this ⊢; omega
theorem wqy8 (k : Nat) {R : Type} (s : List UInt8) (c : UInt8) (hs : s.length ≤ 1000000) (K : Int → Bool → Option R) : ∀ (n : Nat) (r : List UInt8) (i : Nat), s.drop i = r → i ≤ s.length + 1 → r.length < n →
    wq45 k n s (c.toNat : Int) (i : Int) K = qK K 0 (qS c r i) := by
  intro n
  induction n with
  | zero => intro r i _ _ h; omega
  | succ n ih =>
    intro r i hr hi hn
    rw [wq45]
    unfold wq94
    match r, hr, hn with
    | [], hr, hn =>
      have := drop_nil hr
      simp (disch := omega) only [dec_t, dec_f, ieq_t, ieq_f, ine_t, ine_f, inb_t, bnd_t, wrap_id, wrap8_id, cond_true, cond_false, Bool.not_true, Bool.not_false, Bool.true_or, Bool.or_true, Bool.false_or, Bool.or_false, Bool.true_and, Bool.and_true, Bool.false_and, Bool.and_false, wq1, wq0, wq2, qS, qK]
    | [x], hr, hn =>
      obtain ⟨h1, h2, h3⟩ := wq1i hr
      have h4 := drop_nil h3
      simp (disch := omega) only [dec_t, dec_f, ieq_t, ieq_f, ine_t, ine_f, inb_t, bnd_t, wrap_id, wrap8_id, cond_true, cond_false, Bool.not_true, Bool.not_false, Bool.true_or, Bool.or_true, Bool.false_or, Bool.or_false, Bool.true_and, Bool.and_true, Bool.false_and, Bool.and_false, wq1, wq0, wq2, h2, beq34, beq92, beq39, u8_other]
      have e1 := ih [] (i + 1) h3 (by omega) (by simp at hn ⊢; omega)
      have e2 := ih [] (i + 2) (by rw [List.drop_eq_nil_of_le (by omega)]) (by omega) (by simp at hn ⊢; omega)
      have c1 : ((i : Int) + 1) = ((i + 1 : Nat) : Int) := by omega
      have c2 : ((i : Int) + 1 + 1) = ((i + 2 : Nat) : Int) := by omega
      rw [c2, c1, e1, e2]
      unfold qS
      have h5 : decide (((i + 1 : Nat) : Int) < (s.length : Int)) = false := dec_f (by omega)
      cases h6 : (c == 34) <;> cases h7 : (x == 92) <;> cases h8 : (x == c) <;> cases h9 : (c == 39) <;> simp [h5, qS, qK]
    | x :: y :: r, hr, hn =>
      obtain ⟨h1, h2, h3⟩ := wq1i hr
      obtain ⟨g1, g2, g3⟩ := wq1i h3
      simp (disch := omega) only [dec_t, dec_f, ieq_t, ieq_f, ine_t, ine_f, inb_t, bnd_t, wrap_id, wrap8_id, cond_true, cond_false, Bool.not_true, Bool.not_false, Bool.true_or, Bool.or_true, Bool.false_or, Bool.or_false, Bool.true_and, Bool.and_true, Bool.false_and, Bool.and_false, wq1, wq0, wq2, h2, beq34, beq92, beq39, u8_other]
      have e1 := ih (y :: r) (i + 1) h3 (by omega) (by simp at hn ⊢; omega)
      have e2 := ih r (i + 2) g3 (by omega) (by simp at hn ⊢; omega)
      have c1 : ((i : Int) + 1) = ((i + 1 : Nat) : Int) := by omega
      have c2 : ((i : Int) + 1 + 1) = ((i + 2 : Nat) : Int) := by omega
      rw [c2, c1, e1, e2, wq2, g2, u8_same]
      rw [qS]
      cases h6 : (c == 34) <;> cases h7 : (x == 92) <;> cases h8 : (x == c) <;> cases h9 : (c == 39) <;> cases h10 : (y == c) <;> simp [qK]
theorem wquk (k : Nat) {R : Type} (s : List UInt8) (c : UInt8) (hs : s.length ≤ 1000000) (K : Int → Bool → Option R) : ∀ (n : Nat) (r : List UInt8) (i : Nat), s.drop i = r → i ≤ s.length + 1 → r.length < n →
    wq3t k n s (c.toNat : Int) (i : Int) K = qK K 1 (qS c r i) := by
  intro n
  induction n with
  | zero => intro r i _ _ h; omega
  | succ n ih =>
    intro r i hr hi hn
    rw [wq3t]
    unfold wq8f
    match r, hr, hn with
    | [], hr, hn =>
      have := drop_nil hr
      simp (disch := omega) only [dec_t, dec_f, ieq_t, ieq_f, ine_t, ine_f, inb_t, bnd_t, wrap_id, wrap8_id, cond_true, cond_false, Bool.not_true, Bool.not_false, Bool.true_or, Bool.or_true, Bool.false_or, Bool.or_false, Bool.true_and, Bool.and_true, Bool.false_and, Bool.and_false, wq1, wq0, wq2, qS, qK]
    | [x], hr, hn =>
      obtain ⟨h1, h2, h3⟩ := wq1i hr
      have h4 := drop_nil h3
      simp (disch := omega) only [dec_t, dec_f, ieq_t, ieq_f, ine_t, ine_f, inb_t, bnd_t, wrap_id, wrap8_id, cond_true, cond_false, Bool.not_true, Bool.not_false, Bool.true_or, Bool.or_true, Bool.false_or, Bool.or_false, Bool.true_and, Bool.and_true, Bool.false_and, Bool.and_false, wq1, wq0, wq2, h2, beq34, beq92, beq39, u8_other]
      have e1 := ih [] (i + 1) h3 (by omega) (by simp at hn ⊢; omega)
      have e2 := ih [] (i + 2) (by rw [List.drop_eq_nil_of_le (by omega)]) (by omega) (by simp at hn ⊢; omega)
      have c1 : ((i : Int) + 1) = ((i + 1 : Nat) : Int) := by omega
      have c2 : ((i : Int) + 1 + 1) = ((i + 2 : Nat) : Int) := by omega
      rw [c2, c1, e1, e2]
      unfold qS
      have h5 : decide (((i + 1 : Nat) : Int) < (s.length : Int)) = false := dec_f (by omega)
      cases h6 : (c == 34) <;> cases h7 : (x == 92) <;> cases h8 : (x == c) <;> cases h9 : (c == 39) <;> simp [h5, qS, qK]
    | x :: y :: r, hr, hn =>
      obtain ⟨h1, h2, h3⟩ := wq1i hr
      obtain ⟨g1, g2, g3⟩ := wq1i h3
      simp (disch := omega) only [dec_t, dec_f, ieq_t, ieq_f, ine_t, ine_f, inb_t, bnd_t, wrap_id, wrap8_id, cond_true, cond_false, Bool.not_true, Bool.not_false, Bool.true_or, Bool.or_true, Bool.false_or, Bool.or_false, Bool.true_and, Bool.and_true, Bool.false_and, Bool.and_false, wq1, wq0, wq2, h2, beq34, beq92, beq39, u8_other]
      have e1 := ih (y :: r) (i + 1) h3 (by omega) (by simp at hn ⊢; omega)
      have e2 := ih r (i + 2) g3 (by omega) (by simp at hn ⊢; omega)
      have c1 : ((i : Int) + 1) = ((i + 1 : Nat) : Int) := by omega
      have c2 : ((i : Int) + 1 + 1) = ((i + 2 : Nat) : Int) := by omega
      rw [c2, c1, e1, e2, wq2, g2]
      rw [qS]
      cases h9 : (c == 39) with
      | false => cases h6 : (c == 34) <;> cases h7 : (x == 92) <;> cases h8 : (x == c) <;> simp [qK]
      | true =>
        have := beq_iff_eq.1 h9
        subst this
        cases h7 : (x == 92) <;> cases h8 : (x == 39) <;> cases h10 : (y == 39) <;> simp [qK]
def qAt (s : List UInt8) (i : Nat) : Option Nat := qS (s.getD i 0) (s.drop (i + 1)) (i + 1)
theorem wqro (k : Nat) {R : Type} (s : List UInt8) (i : Nat) (hs : s.length ≤ 1000000) (hi : i < s.length) (hk : s.length < k) (K : Int → Bool → Option R) : wqb1 k s i K = qK K 0 (qAt s i) := by
  unfold wqb1 wqg1
  simp (disch := omega) only [dec_t, dec_f, ieq_t, ieq_f, ine_t, ine_f, inb_t, bnd_t, wrap_id, wrap8_id, cond_true, cond_false, Bool.not_true, Bool.not_false, Bool.true_or, Bool.or_true, Bool.false_or, Bool.or_false, Bool.true_and, Bool.and_true, Bool.false_and, Bool.and_false, wq1, wq0, wq2]
  rw [wq4a, wqy8 k s _ hs K k _ (i + 1) rfl (by omega) (by rw [List.length_drop]; omega)]
  rfl
theorem wqzr (k : Nat) {R : Type} (s : List UInt8) (i : Nat) (hs : s.length ≤ 1000000) (hi : i < s.length) (hk : s.length < k) (K : Int → Bool → Option R) : wqbt k s i K = qK K 1 (qAt s i) := by
  unfold wqbt wqe9
  simp (disch := omega) only [dec_t, dec_f, ieq_t, ieq_f, ine_t, ine_f, inb_t, bnd_t, wrap_id, wrap8_id, cond_true, cond_false, Bool.not_true, Bool.not_false, Bool.true_or, Bool.or_true, Bool.false_or, Bool.or_false, Bool.true_and, Bool.and_true, Bool.false_and, Bool.and_false, wq1, wq0, wq2]
  rw [wq4a, wquk k s _ hs K k _ (i + 1) rfl (by omega) (by rw [List.length_drop]; omega)]
  rfl
theorem wq128 {s : List UInt8} {i j : Nat} (h : qAt s i = some j) : i < j ∧ j < s.length := by
  have := qS_bound _ _ _ _ h
  rw [List.length_drop] at this
  omega
end Go.Proofs.YtpfbdepoammjmaaGreatDoor.Pvm

namespace Go.Proofs.YtpfbdepoammjmaaGreatDoor.Pvm
open Go
def rt (l : List UInt8) : List UInt8 := (l.reverse.dropWhile (· == 32)).reverse
theorem rt_nil : rt [] = [] := rfl
theorem rt_cat (l : List UInt8) (x : UInt8) : rt (l ++ [x]) = bif x == 32 then rt l else l ++ [x] := by
  unfold rt
  rw [List.reverse_append, List.reverse_singleton, List.singleton_append, List.dropWhile_cons]
  cases x == 32 <;> simp
theorem wq18s (l : List UInt8) (x d : UInt8) : (l ++ [x]).getD l.length d = x := by simp [List.getD]
theorem wq17y (k : Nat) {R : Type} (K : List UInt8 → Option R) : ∀ (n : Nat) (l : List UInt8), l.length ≤ 1000000 → l.length < n → wq1r k n l 32 K = K (rt l) := by
  intro n
  induction n with
  | zero => intro l _ h; omega
  | succ n ih =>
    intro l hl hn
    rw [wq1r]
    unfold wq4j
    rcases List.eq_nil_or_concat l with rfl | ⟨l', x, rfl⟩
    · simp [rt_nil]
    · rw [List.concat_eq_append] at *
      have hlen : (l' ++ [x]).length = l'.length + 1 := by simp
      rw [hlen] at hl hn
      simp (disch := omega) only [dec_t, dec_f, ieq_t, ieq_f, ine_t, ine_f, inb_t, bnd_t, wrap_id, wrap8_id, cond_true, cond_false, Bool.not_true, Bool.not_false, Bool.true_or, Bool.or_true, Bool.false_or, Bool.or_false, Bool.true_and, Bool.and_true, Bool.false_and, Bool.and_false, wq1, wq0, wq2, hlen]
      have e1 : (((l'.length + 1 : Nat) : Int) - 1) = (l'.length : Int) := by omega
      simp (disch := omega) only [dec_t, dec_f, ieq_t, ieq_f, ine_t, ine_f, inb_t, bnd_t, wrap_id, wrap8_id, cond_true, cond_false, Bool.not_true, Bool.not_false, Bool.true_or, Bool.or_true, Bool.false_or, Bool.or_false, Bool.true_and, Bool.and_true, Bool.false_and, Bool.and_false, wq1, wq0, wq2, e1, wq18s, beq32]
      rw [wqbz, List.take_left' rfl, ih l' (by omega) (by omega), rt_cat]
      cases x == 32 <;> rfl
theorem trimR_eq (k : Nat) {R : Type} (l : List UInt8) (hl : l.length ≤ 1000000) (hk : l.length < k) (K : List UInt8 → Option R) : wq5j k l 32 K = K (rt l) := by
  unfold wq5j wqbq wq6h wq6g
  cases l with
  | nil => rfl
  | cons x r =>
    have e2 : (((([32] : List UInt8).getD (Int.toNat 0) 0).toNat : Nat) : Int) = 32 := rfl
    simp only [e2, show ((x :: r) == ([] : List UInt8)) = false from rfl, show (([32] : List UInt8) == []) = false from rfl, show ((([32] : List UInt8).length : Int) == 1) = true from rfl, show decide ((32 : Int) < 128) = true from rfl, cond_false, cond_true]
    exact wq17y k K k _ hl hk
def fresh (s : List UInt8) (i : Nat) : Bool := i == 0 || s.getD (i - 1) 0 == 32
def stS (s : List UInt8) : Nat → Nat → Option Nat
  | 0, _ => some s.length
  | n + 1, i => bif Nat.ble s.length i then some s.length else
    bif !fresh s i then stS s n (i + 1) else
    bif s.getD i 0 == 35 then some i else
    bif s.getD i 0 == 39 || s.getD i 0 == 34 then (match qAt s i with
      | some j => stS s n (j + 1)
      | none => none) else stS s n (i + 1)
def stK {R : Type} (s : List UInt8) (K : List UInt8 → Bool → Option R) : Option Nat → Option R
  | some e => K (rt (s.take e)) true
  | none => K [] false
theorem ble_f {a b : Nat} (h : b < a) : Nat.ble a b = false := by
  cases hb : Nat.ble a b with
  | false => rfl
  | true => have := Nat.le_of_ble_eq_true hb; omega
theorem ble_t {a b : Nat} (h : a ≤ b) : Nat.ble a b = true := Nat.ble_eq_true_of_le h
theorem wqzs (k : Nat) {R : Type} (s : List UInt8) (hs : s.length ≤ 1000000) (hk : s.length < k) (K : List UInt8 → Bool → Option R) : ∀ (n i : Nat), i ≤ s.length → s.length < i + n →
    wq2i k n s (s.length : Int) (i : Int) K = stK s K (stS s n i) := by
  intro n
  induction n with
  | zero => intro i _ h; omega
  | succ n ih =>
    intro i hi hn
    rw [wq2i]
    unfold wq9v
    by_cases h : i < s.length
    · have hb := ble_f h
      rw [stS, hb, cond_false]
      have st1 := ih (i + 1) (by omega) (by omega)
      have c1 : ((i : Int) + 1) = ((i + 1 : Nat) : Int) := by omega
      have hg : bnd 0 (i : Int) (s.length : Int) = true := bnd_t (by omega) (by omega) (by omega)
      have hcut : (cut s 0 (i : Int)).length ≤ 1000000 ∧ (cut s 0 (i : Int)).length < k := by rw [wqbz, List.length_take]; omega
      have tail : (bif (s.getD i 0 : UInt8) == 35 then K (rt (s.take i)) true else bif (s.getD i 0 : UInt8) == 39 then qK (fun y7 y8 => bif !y8 then K [] false else wq2i k n s (s.length : Int) (IntKind.i64.wrap (y7 + 1)) K) 0 (qAt s i) else bif (s.getD i 0 : UInt8) == 34 then qK (fun y7 y8 => bif !y8 then K [] false else wq2i k n s (s.length : Int) (IntKind.i64.wrap (y7 + 1)) K) 0 (qAt s i) else wq2i k n s (s.length : Int) ((i + 1 : Nat) : Int) K) =
          stK s K (bif s.getD i 0 == 35 then some i else bif s.getD i 0 == 39 || s.getD i 0 == 34 then (match qAt s i with | some j => stS s n (j + 1) | none => none) else stS s n (i + 1)) := by
        have hq : qK (fun y7 y8 => bif !y8 then K [] false else wq2i k n s (s.length : Int) (IntKind.i64.wrap (y7 + 1)) K) 0 (qAt s i) = stK s K (match qAt s i with | some j => stS s n (j + 1) | none => none) := by
          cases hqa : qAt s i with
          | none => rfl
          | some j =>
            have hj := wq128 hqa
            simp only [qK, Bool.not_true, cond_false]
            have e : IntKind.i64.wrap ((j : Int) + 0 + 1) = ((j + 1 : Nat) : Int) := by rw [wrap_id (by omega) (by omega)]; omega
            rw [e, ih (j + 1) (by omega) (by omega)]
        rw [hq, st1]
        cases (s.getD i 0 == 35) <;> cases (s.getD i 0 == 39) <;> cases (s.getD i 0 == 34) <;> rfl
      by_cases h0 : i = 0
      · subst h0
        have hf : fresh s 0 = true := rfl
        rw [hf]
        simp (disch := omega) only [dec_t, dec_f, ieq_t, ieq_f, ine_t, ine_f, inb_t, bnd_t, wrap_id, wrap8_id, cond_true, cond_false, Bool.not_true, Bool.not_false, Bool.true_or, Bool.or_true, Bool.false_or, Bool.or_false, Bool.true_and, Bool.and_true, Bool.false_and, Bool.and_false, wq1, wq0, wq2, beq35, beq39, beq34]
        rw [trimR_eq k _ hcut.1 hcut.2, wqbz, wqro k s 0 hs h hk]
        rw [← tail]
        rfl
      · have e0 : ((i : Int) - 1) = ((i - 1 : Nat) : Int) := by omega
        have hf : fresh s i = (s.getD (i - 1) 0 == 32) := by
          have : (i == 0) = false := by simpa using h0
          simp [fresh, this]
        rw [hf]
        simp (disch := omega) only [dec_t, dec_f, ieq_t, ieq_f, ine_t, ine_f, inb_t, bnd_t, wrap_id, wrap8_id, cond_true, cond_false, Bool.not_true, Bool.not_false, Bool.true_or, Bool.or_true, Bool.false_or, Bool.or_false, Bool.true_and, Bool.and_true, Bool.false_and, Bool.and_false, wq1, wq0, wq2, e0, beq35, beq39, beq34, bne32]
        rw [trimR_eq k _ hcut.1 hcut.2, wqbz, wqro k s i hs h hk, c1]
        cases hx : (s.getD (i - 1) 0 == 32) with
        | false => rw [Bool.not_false, cond_true, cond_true]; exact st1
        | true =>
          rw [Bool.not_true, cond_false, cond_false, ← tail]
    · have hi' : i = s.length := by omega
      subst hi'
      have hcut : (cut s 0 (s.length : Int)).length ≤ 1000000 ∧ (cut s 0 (s.length : Int)).length < k := by rw [wqbz, List.length_take]; omega
      rw [stS, ble_t (Nat.le_refl _), cond_true]
      simp (disch := omega) only [dec_t, dec_f, ieq_t, ieq_f, ine_t, ine_f, inb_t, bnd_t, wrap_id, wrap8_id, cond_true, cond_false, Bool.not_true, Bool.not_false, Bool.true_or, Bool.or_true, Bool.false_or, Bool.or_false, Bool.true_and, Bool.and_true, Bool.false_and, Bool.and_false, wq1, wq0, wq2]
      rw [trimR_eq k _ hcut.1 hcut.2, wqbz]
      rfl
theorem wqtg (k : Nat) {R : Type} (s : List UInt8) (hs : s.length ≤ 1000000) (hk : s.length < k) (K : List UInt8 → Bool → Option R) : wqcn k s K = stK s K (stS s k 0) := by
  unfold wqcn wqin
  exact wqzs k s hs hk K k 0 (by omega) (by omega)
end Go.Proofs.YtpfbdepoammjmaaGreatDoor.Pvm

namespace Go.Proofs.YtpfbdepoammjmaaGreatDoor.Pvm
open Go
theorem wq14e {s : List UInt8} {e : Nat} (h : e < s.length) : s.take (e + 1) = s.take e ++ [s.getD e 0] := by
  rw [List.take_add_one, List.getElem?_eq_getElem h]
  simp [List.getD, h]
theorem wqo1 (k : Nat) {R : Type} (s : List UInt8) (hs : s.length ≤ 1000000) (K : List UInt8 → Bool → Option R) : ∀ (n e : Nat), e ≤ s.length → e < n →
    wq47 k n s (e : Int) K = K (rt (s.take e)) true := by
  intro n
  induction n with
  | zero => intro e _ h; omega
  | succ n ih =>
    intro e he hn
    rw [wq47]
    unfold wq96
    cases e with
    | zero =>
      simp (disch := omega) only [dec_t, dec_f, ieq_t, ieq_f, ine_t, ine_f, inb_t, bnd_t, wrap_id, wrap8_id, cond_true, cond_false, Bool.not_true, Bool.not_false, Bool.true_or, Bool.or_true, Bool.false_or, Bool.or_false, Bool.true_and, Bool.and_true, Bool.false_and, Bool.and_false, wq1, wq0, wq2]
      rfl
    | succ e =>
      have e1 : (((e + 1 : Nat) : Int) - 1) = (e : Int) := by omega
      simp (disch := omega) only [dec_t, dec_f, ieq_t, ieq_f, ine_t, ine_f, inb_t, bnd_t, wrap_id, wrap8_id, cond_true, cond_false, Bool.not_true, Bool.not_false, Bool.true_or, Bool.or_true, Bool.false_or, Bool.or_false, Bool.true_and, Bool.and_true, Bool.false_and, Bool.and_false, wq1, wq0, wq2, e1, beq32]
      rw [wqbz, wq14e (by omega), rt_cat, ih e (by omega) (by omega)]
      cases (s.getD e 0 == 32) <;> rfl
theorem wqy9 (k : Nat) {R : Type} (s : List UInt8) (hs : s.length ≤ 1000000) (hk : s.length < k) (K : List UInt8 → Bool → Option R) : ∀ (n i : Nat), i ≤ s.length → s.length < i + n →
    wq29 k n s (s.length : Int) (i : Int) K = stK s K (stS s n i) := by
  intro n
  induction n with
  | zero => intro i _ h; omega
  | succ n ih =>
    intro i hi hn
    rw [wq29]
    unfold wq69
    by_cases h : i < s.length
    · have hb := ble_f h
      rw [stS, hb, cond_false]
      have st1 := ih (i + 1) (by omega) (by omega)
      have c1 : ((i : Int) + 1) = ((i + 1 : Nat) : Int) := by omega
      have hfr : (bif (i : Int) == 0 then true else ((s.getD (IntKind.i64.wrap ((i : Int) - 1)).toNat 0).toNat : Int) == 32) = fresh s i := by
        by_cases h0 : i = 0
        · subst h0; rfl
        · have e0 : ((i : Int) - 1) = ((i - 1 : Nat) : Int) := by omega
          have e2 : (i == 0) = false := by simpa using h0
          simp (disch := omega) only [dec_t, dec_f, ieq_t, ieq_f, ine_t, ine_f, inb_t, bnd_t, wrap_id, wrap8_id, cond_true, cond_false, Bool.not_true, Bool.not_false, Bool.true_or, Bool.or_true, Bool.false_or, Bool.or_false, Bool.true_and, Bool.and_true, Bool.false_and, Bool.and_false, wq1, wq0, wq2, e0, beq32]
          rw [fresh, e2, Bool.false_or]
      have hin : (!((i : Int) == 0) == false || inb (IntKind.i64.wrap ((i : Int) - 1)) (s.length : Int)) = true := by
        by_cases h0 : i = 0
        · subst h0; rfl
        · simp (disch := omega) only [dec_t, dec_f, ieq_t, ieq_f, ine_t, ine_f, inb_t, bnd_t, wrap_id, wrap8_id, cond_true, cond_false, Bool.not_true, Bool.not_false, Bool.true_or, Bool.or_true, Bool.false_or, Bool.or_false, Bool.true_and, Bool.and_true, Bool.false_and, Bool.and_false, wq1, wq0, wq2]
      have hash : wq29 k n s (i : Int) (i : Int) K = K (rt (s.take i)) true := by
        obtain ⟨m, rfl⟩ : ∃ m, n = m + 1 := ⟨n - 1, by omega⟩
        rw [wq29]
        unfold wq69
        simp (disch := omega) only [dec_t, dec_f, ieq_t, ieq_f, ine_t, ine_f, inb_t, bnd_t, wrap_id, wrap8_id, cond_true, cond_false, Bool.not_true, Bool.not_false, Bool.true_or, Bool.or_true, Bool.false_or, Bool.or_false, Bool.true_and, Bool.and_true, Bool.false_and, Bool.and_false, wq1, wq0, wq2]
        exact wqo1 k s hs K k i (by omega) (by omega)
      rw [hfr, hin]
      simp (disch := omega) only [dec_t, dec_f, ieq_t, ieq_f, ine_t, ine_f, inb_t, bnd_t, wrap_id, wrap8_id, cond_true, cond_false, Bool.not_true, Bool.not_false, Bool.true_or, Bool.or_true, Bool.false_or, Bool.or_false, Bool.true_and, Bool.and_true, Bool.false_and, Bool.and_false, wq1, wq0, wq2, beq35, beq39, beq34]
      rw [hash, wqzr k s i hs h hk, c1, st1]
      have hq : qK (fun y8 y9 => bif !y9 then K [] false else wq29 k n s (s.length : Int) y8 K) 1 (qAt s i) = stK s K (match qAt s i with | some j => stS s n (j + 1) | none => none) := by
        cases hqa : qAt s i with
        | none => rfl
        | some j =>
          have hj := wq128 hqa
          simp only [qK, Bool.not_true, cond_false]
          have e : ((j : Int) + 1) = ((j + 1 : Nat) : Int) := by omega
          rw [e, ih (j + 1) (by omega) (by omega)]
      rw [hq]
      cases fresh s i <;> cases (s.getD i 0 == 35) <;> cases (s.getD i 0 == 39) <;> cases (s.getD i 0 == 34) <;> rfl
    · have hi' : i = s.length := by omega
      subst hi'
      rw [stS, ble_t (Nat.le_refl _), cond_true]
      simp (disch := omega) only [dec_t, dec_f, ieq_t, ieq_f, ine_t, ine_f, inb_t, bnd_t, wrap_id, wrap8_id, cond_true, cond_false, Bool.not_true, Bool.not_false, Bool.true_or, Bool.or_true, Bool.false_or, Bool.or_false, Bool.true_and, Bool.and_true, Bool.false_and, Bool.and_false, wq1, wq0, wq2]
      exact wqo1 k s hs K k s.length (by omega) (by omega)
theorem wq129 (k : Nat) {R : Type} (s : List UInt8) (hs : s.length ≤ 1000000) (hk : s.length < k) (K : List UInt8 → Bool → Option R) : wqb5 k s K = stK s K (stS s k 0) := by
  unfold wqb5 wqg6
  exact wqy9 k s hs hk K k 0 (by omega) (by omega)
end Go.Proofs.YtpfbdepoammjmaaGreatDoor.Pvm

namespace Go.Proofs.YtpfbdepoammjmaaGreatDoor.Pvm
open Go
def lt32 (l : List UInt8) : List UInt8 := l.dropWhile (· == 32)
theorem lt32_len (l : List UInt8) : (lt32 l).length ≤ l.length := (List.dropWhile_suffix _).length_le
theorem wq17z (k : Nat) {R : Type} (K : List UInt8 → Option R) : ∀ (n : Nat) (l : List UInt8), l.length < n → wq20 k n l 32 K = K (lt32 l) := by
  intro n
  induction n with
  | zero => intro l h; omega
  | succ n ih =>
    intro l hn
    rw [wq20]
    unfold wq4t
    cases l with
    | nil => rfl
    | cons x r =>
      have h1 : decide (((x :: r).length : Int) > 0) = true := dec_t (by simp <;> omega)
      have h2 : inb 0 ((x :: r).length : Int) = true := inb_t (by omega) (by simp <;> omega)
      have h3 : bnd 1 ((x :: r).length : Int) ((x :: r).length : Int) = true := bnd_t (by omega) (by simp <;> omega) (by omega)
      have h4 : (x :: r).getD (Int.toNat 0) 0 = x := rfl
      have h5 : cut (x :: r) 1 ((x :: r).length : Int) = r := by simp [cut]
      simp only [h1, h2, h3, h4, h5, beq32, Bool.or_true, cond_true]
      rw [ih r (by simp at hn; omega), lt32, lt32, List.dropWhile_cons]
      cases x == 32 <;> rfl
theorem trimL_eq (k : Nat) {R : Type} (l : List UInt8) (hk : l.length < k) (K : List UInt8 → Option R) : wq7f k l 32 K = K (lt32 l) := by
  unfold wq7f wqco wq6w wq6v
  cases l with
  | nil => rfl
  | cons x r =>
    have e2 : (((([32] : List UInt8).getD (Int.toNat 0) 0).toNat : Nat) : Int) = 32 := rfl
    simp only [e2, show ((x :: r) == ([] : List UInt8)) = false from rfl, show (([32] : List UInt8) == []) = false from rfl, show ((([32] : List UInt8).length : Int) == 1) = true from rfl, show decide ((32 : Int) < 128) = true from rfl, cond_false, cond_true]
    exact wq17z k K k _ hk
abbrev Row := Int × (Int × List UInt8)
def rowL (k : Nat) (no : Nat) (p : List UInt8) (e : Nat) : List Row :=
  bif rt ((lt32 p).take e) == [] then [] else [((no : Int), (((p.length : Int) - ((lt32 p).length : Int)), rt ((lt32 p).take e)))]
def linesS (k : Nat) : List (List UInt8) → Nat → List Row → List Row × Int × Int
  | [], no, acc => (acc, 0, 0)
  | p :: ps, no, acc => bif p.any bad then ([], 2, (no : Int)) else match stS (lt32 p) k 0 with
    | none => ([], 3, (no : Int))
    | some e => linesS k ps (no + 1) (acc ++ rowL k no p e)
theorem rowL_len (k no : Nat) (p : List UInt8) (e : Nat) : (rowL k no p e).length ≤ 1 := by
  unfold rowL
  cases rt ((lt32 p).take e) == [] <;> simp
theorem wqzt (k : Nat) {R : Type} (K : List Row → Int → Int → Option R) (a0 a1 : Int) (ps : List (List UInt8)) (hp : ∀ p ∈ ps, p.length ≤ 20000 ∧ p.length < k) (hps : ps.length ≤ 20000) :
    ∀ (n : Nat) (r : List (List UInt8)) (i : Nat) (acc : List Row), ps.drop i = r → i ≤ ps.length → r.length < n → acc.length ≤ i →
    wq4o k n a0 a1 acc (ps.map toBytes) (ps.length : Int) (i : Int) K = (linesS k r (i + 1) acc |> fun z => K z.1 z.2.1 z.2.2) := by
  intro n
  induction n with
  | zero => intro r i acc _ _ h; omega
  | succ n ih =>
    intro r i acc hr hi hn ha
    rw [wq4o]
    unfold wq9w
    cases r with
    | nil =>
      have := drop_nil hr
      simp (disch := omega) only [dec_t, dec_f, ieq_t, ieq_f, ine_t, ine_f, inb_t, bnd_t, wrap_id, wrap8_id, cond_true, cond_false, Bool.not_true, Bool.not_false, Bool.true_or, Bool.or_true, Bool.false_or, Bool.or_false, Bool.true_and, Bool.and_true, Bool.false_and, Bool.and_false, wq1, wq0, wq2]
      rfl
    | cons p r =>
      obtain ⟨h1, h2, h3⟩ := wq1i hr
      have hml : ((ps.map toBytes).length : Int) = (ps.length : Int) := by simp
      have hg : (ps.map toBytes).getD i (Kd.int IntKind.u8).sl.zero = toBytes p := by
        have := h2 []
        simp only [List.getD, List.getElem?_map] at this ⊢
        have hx : ps[i]? = some p := by
          rw [List.getElem?_eq_getElem h1] at this ⊢
          simpa using this
        rw [hx]; rfl
      have hmem : p ∈ ps := by
        have : p ∈ ps.drop i := by rw [hr]; exact List.mem_cons_self
        exact List.mem_of_mem_drop this
      obtain ⟨hp1, hp2⟩ := hp p hmem
      have hl := lt32_len p
      simp (disch := omega) only [dec_t, dec_f, ieq_t, ieq_f, ine_t, ine_f, inb_t, bnd_t, wrap_id, wrap8_id, cond_true, cond_false, Bool.not_true, Bool.not_false, Bool.true_or, Bool.or_true, Bool.false_or, Bool.or_false, Bool.true_and, Bool.and_true, Bool.false_and, Bool.and_false, wq1, wq0, wq2, hml, hg, wq75]
      have hI : ∀ K' : Int → Option R, wqbr k p K' = K' (idxOdd p) := fun _ => rfl
      rw [hI, wq17x, trimL_eq k p hp2, wqtg k _ (by omega) (by omega)]
      rw [linesS]
      have c1 : ((i : Int) + 1) = ((i + 1 : Nat) : Int) := by omega
      cases hb : p.any bad with
      | true => simp only [cond_true, c1]
      | false =>
        simp only [cond_false]
        cases hs : stS (lt32 p) k 0 with
        | none => simp only [stK, Bool.not_false, cond_true, c1]
        | some e =>
          simp only [stK, Bool.not_true, cond_false]
          have w1 : IntKind.i64.wrap ((p.length : Int) - ((lt32 p).length : Int)) = (p.length : Int) - ((lt32 p).length : Int) := wrap_id (by omega) (by omega)
          have hf : ∀ z : Row, fits acc.length [z].length 32 = true := fun z => fits_t (by simp; omega) (by simp; omega)
          rw [w1, hf, cond_true, c1, ih r (i + 1) _ h3 (by omega) (by simp at hn; omega) (by simp; omega), ih r (i + 1) _ h3 (by omega) (by simp at hn; omega) (by omega)]
          unfold rowL
          cases rt ((lt32 p).take e) == [] <;> simp
theorem spl_len : ∀ s : List UInt8, (spl s).length ≤ s.length + 1
  | [] => by simp [spl]
  | x :: r => by
    have := spl_len r
    rw [spl]
    cases x == 10 with
    | true => simp; omega
    | false =>
      cases h : spl r with
      | nil => simp
      | cons p ps => rw [h] at this; simp at this ⊢; omega
theorem spl_mem : ∀ (s : List UInt8) (p : List UInt8), p ∈ spl s → p.length ≤ s.length
  | [], p, h => by simp [spl] at h; simp [h]
  | x :: r, p, h => by
    rw [spl] at h
    cases hx : x == 10 with
    | true =>
      rw [hx, cond_true] at h
      rcases List.mem_cons.1 h with rfl | h
      · simp
      · have := spl_mem r p h; simp; omega
    | false =>
      rw [hx, cond_false] at h
      cases hs : spl r with
      | nil => rw [hs] at h; simp at h; simp [h]
      | cons q qs =>
        rw [hs] at h
        have hq := spl_mem r
        rw [hs] at hq
        rcases List.mem_cons.1 h with rfl | h
        · have := hq q (by simp); simp; omega
        · have := hq p (by simp [h]); simp; omega
theorem wqth (k : Nat) {R : Type} (s : List UInt8) (hk : 20000 < k) (K : List Row → Int → Int → Option R) :
    wqcp k (toBytes s) K = bif decide (s.length > 16384) then K [] 1 1 else (linesS k (spl s) 1 [] |> fun z => K z.1 z.2.1 z.2.2) := by
  unfold wqcp wqiq
  rw [wq56]
  by_cases h : s.length > 16384
  · rw [dec_t h]
    have : decide ((s.length : Int) > 16384) = true := dec_t (by omega)
    rw [this]; rfl
  · rw [dec_f h]
    have : decide ((s.length : Int) > 16384) = false := dec_f (by omega)
    have hl := spl_len s
    rw [this, cond_false, cond_false, Split_eq k s (by omega) (by omega)]
    have hml : (((spl s).map toBytes).length : Int) = ((spl s).length : Int) := by simp
    rw [hml]
    exact wqzt k K 0 0 (spl s) (fun p hp => by have := spl_mem s p hp; omega) (by omega) k _ 0 [] rfl (by omega) (by omega) (by simp)
end Go.Proofs.YtpfbdepoammjmaaGreatDoor.Pvm

namespace Go.Proofs.YtpfbdepoammjmaaGreatDoor.Pvm
open Go
theorem stS_fuel (s : List UInt8) : ∀ (n m i : Nat), s.length < i + n → s.length < i + m → i ≤ s.length → stS s n i = stS s m i
  | 0, _, i, h, _, hi => by omega
  | _ + 1, 0, i, _, h, hi => by omega
  | n + 1, m + 1, i, h1, h2, hi => by
    rw [stS, stS]
    by_cases h : i < s.length
    · rw [ble_f h, cond_false, cond_false, stS_fuel s n m (i + 1) (by omega) (by omega) (by omega)]
      cases hq : qAt s i with
      | none => rfl
      | some j =>
        have := wq128 hq
        dsimp only
        rw [stS_fuel s n m (j + 1) (by omega) (by omega) (by omega)]
    · rw [ble_t (by omega)]; rfl
theorem wqsn (k m : Nat) : ∀ (ps : List (List UInt8)) (no : Nat) (acc : List Row), (∀ p ∈ ps, p.length < k ∧ p.length < m) → linesS k ps no acc = linesS m ps no acc
  | [], no, acc, h => rfl
  | p :: ps, no, acc, h => by
    have hp := h p (by simp)
    have hl := lt32_len p
    rw [linesS, linesS, stS_fuel (lt32 p) k m 0 (by omega) (by omega) (by omega)]
    cases p.any bad with
    | true => rfl
    | false =>
      cases stS (lt32 p) m 0 with
      | none => rfl
      | some e => exact wqsn k m ps _ _ fun q hq => h q (by simp [hq])
theorem Strip_at (k : Nat) {R : Type} (s : List UInt8) (hs : s.length < 200) (hk : 20000 < k) (K : List UInt8 → Bool → Option R) : wqcn k s K = stK s K (stS s 200 0) := by
  rw [wqtg k s (by omega) (by omega), stS_fuel s k 200 0 (by omega) (by omega) (by omega)]
theorem Lines_at (k : Nat) {R : Type} (s : List UInt8) (hs : s.length < 200) (hk : 20000 < k) (K : List Row → Int → Int → Option R) :
    wqcp k (toBytes s) K = (linesS 200 (spl s) 1 [] |> fun z => K z.1 z.2.1 z.2.2) := by
  rw [wqth k s hk, dec_f (by omega), cond_false, wqsn k 200 (spl s) 1 [] fun p hp => by have := spl_mem s p hp; omega]
end Go.Proofs.YtpfbdepoammjmaaGreatDoor.Pvm

namespace Go.Proofs.YtpfbdepoammjmaaGreatDoor.Pvm
open Go
theorem beq10 (c : UInt8) : ((c.toNat : Int) != 10) = !(c == 10) := u8_bne c 10 (by omega)
theorem getB (t : List UInt8) (n : Nat) (d : Int) (h : n < t.length) : (toBytes t).getD n d = ((t.getD n 0).toNat : Int) := by
  simp [toBytes, List.getD, h]
theorem bad_at (b : Bool) (c : UInt8) : (bif (bif b then true else decide ((c.toNat : Int) < 32)) then true else (c.toNat : Int) == 127) = (b || bad c) := by
  have h1 : decide ((c.toNat : Int) ≥ 0) = true := dec_t (by omega)
  unfold bad oddP
  rw [h1, cond_true]
  cases b <;> cases decide ((c.toNat : Int) < 32) <;> cases ((c.toNat : Int) == 127) <;> rfl
theorem wq18t (k : Nat) {R : Type} (J : List Int → Int → Int → List Row → Int → Int → Option R) (K : List Row → Int → Int → Option R) (t : List UInt8) (ht : t.length ≤ 20000) (acc : List Row) (at' no : Int) :
    ∀ (n : Nat) (q : List UInt8) (e : Nat) (b : Bool), t.drop e = q → e ≤ t.length → q.length < n →
    wq30 k J n (toBytes t) 0 0 acc at' no (e : Int) b K = bif b || (q.take (upto 10 q)).any bad then K [] 2 no else wq3j k J k (toBytes t) 0 0 acc at' no ((e + upto 10 q : Nat) : Int) 0 K := by
  intro n
  induction n with
  | zero => intro q e b _ _ h; omega
  | succ n ih =>
    intro q e b hq he hn
    rw [wq30]
    unfold wq7h
    rw [wq56]
    cases q with
    | nil =>
      have := drop_nil hq
      simp (disch := omega) only [dec_t, dec_f, ieq_t, ieq_f, ine_t, ine_f, inb_t, bnd_t, wrap_id, wrap8_id, cond_true, cond_false, Bool.not_true, Bool.not_false, Bool.true_or, Bool.or_true, Bool.false_or, Bool.or_false, Bool.true_and, Bool.and_true, Bool.false_and, Bool.and_false, wq1, wq0, wq2]
      simp [upto]
    | cons x q =>
      obtain ⟨h1, h2, h3⟩ := wq1i hq
      have hg : (toBytes t).getD e (Kd.int IntKind.u8).zero = (x.toNat : Int) := by rw [getB t e _ h1, h2]
      simp (disch := omega) only [dec_t, dec_f, ieq_t, ieq_f, ine_t, ine_f, inb_t, bnd_t, wrap_id, wrap8_id, cond_true, cond_false, Bool.not_true, Bool.not_false, Bool.true_or, Bool.or_true, Bool.false_or, Bool.or_false, Bool.true_and, Bool.and_true, Bool.false_and, Bool.and_false, wq1, wq0, wq2, hg, beq10, bad_at]
      rw [wq4a, ih q (e + 1) _ h3 (by omega) (by simp at hn; omega), upto]
      cases hx : x == 10 with
      | true => simp
      | false =>
        simp only [Bool.not_false, cond_true, cond_false, List.take_succ_cons, List.any_cons]
        rw [show e + 1 + upto 10 q = e + (upto 10 q + 1) by omega, Bool.or_assoc]
def finL (k : Nat) {R : Type} (J : List Row → Option R) (K : List Row → Int → Int → Option R) (acc : List Row) (no : Nat) (p : List UInt8) : Option R :=
  match stS (lt32 p) k 0 with
  | none => K [] 3 (no : Int)
  | some e => J (acc ++ rowL k no p e)
theorem wq180 (k : Nat) {R : Type} (J : List Int → Int → Int → List Row → Int → Int → Option R) (K : List Row → Int → Int → Option R) (t : List UInt8) (ht : t.length ≤ 20000) (hk : 20000 < k) (acc : List Row) (ha : acc.length ≤ 20000) (at' no u : Nat)
    (hno : no ≤ 30000) (hat : at' + u ≤ t.length) (p : List UInt8) (hp : (t.drop at').take u = p) :
    ∀ (n m : Nat) (q : List UInt8), p.drop m = q → m ≤ p.length → q.length < n → lt32 p = lt32 q →
    wq3j k J n (toBytes t) 0 0 acc (at' : Int) (no : Int) ((at' + u : Nat) : Int) (m : Int) K = finL k (fun a => J (toBytes t) 0 0 a ((at' + u + 1 : Nat) : Int) ((no + 1 : Nat) : Int)) K acc no p := by
  have hpl : p.length = u := by rw [← hp, List.length_take, List.length_drop]; omega
  intro n
  induction n with
  | zero => intro m q _ _ h; omega
  | succ n ih =>
    intro m q hq hm hn hlt
    rw [wq3j]
    unfold wq98
    have w1 : IntKind.i64.wrap ((at' : Int) + (m : Int)) = ((at' + m : Nat) : Int) := by rw [wrap_id (by omega) (by omega)]; omega
    have hcut : cut (toBytes t) ((at' + m : Nat) : Int) ((at' + u : Nat) : Int) = toBytes q := by
      rw [← hq, ← hp]
      simp only [cut, toBytes, Int.toNat_natCast, List.map_drop, List.map_take]
      rw [List.drop_take, List.drop_take, List.drop_drop, show at' + u - (at' + m) = u - m by omega]
    have hend : (lt32 q = q) → (wqb5 k (ofBytes (cut (toBytes t) ((at' + m : Nat) : Int) ((at' + u : Nat) : Int))) fun y14 y15 =>
            bif !y15 then K [] 3 (no : Int)
            else
              bif !(y14 == []) then
                bif fits acc.length [((no : Int), ((m : Int), y14))].length 32 then
                  J (toBytes t) 0 0 (acc ++ [((no : Int), ((m : Int), y14))]) (((at' + u : Nat) : Int) + 1) ((no : Int) + 1)
                else none
              else J (toBytes t) 0 0 acc (((at' + u : Nat) : Int) + 1) ((no : Int) + 1)) = finL k (fun a => J (toBytes t) 0 0 a ((at' + u + 1 : Nat) : Int) ((no + 1 : Nat) : Int)) K acc no p := by
      intro hlq
      have hql : q.length = p.length - m := by rw [← hq, List.length_drop]
      rw [hcut, wq75, wq129 k q (by omega) (by omega)]
      have w2 : ((at' + u : Nat) : Int) + 1 = ((at' + u + 1 : Nat) : Int) := by omega
      have w3 : (no : Int) + 1 = ((no + 1 : Nat) : Int) := by omega
      have hf : ∀ z : Row, fits acc.length [z].length 32 = true := fun z => fits_t (by simp; omega) (by simp; omega)
      rw [finL, hlt, hlq]
      cases hs : stS q k 0 with
      | none => simp [stK]
      | some e =>
        have hd : (p.length : Int) - (q.length : Int) = (m : Int) := by omega
        simp only [stK, Bool.not_true, cond_false, w2, w3, hf, cond_true]
        unfold rowL
        rw [hlt, hlq, hd]
        cases rt (q.take e) == [] <;> simp
    rw [w1, wq56]
    by_cases hmu : m < u
    · obtain ⟨x, q', rfl⟩ : ∃ x q', q = x :: q' := by
        cases q with
        | nil => have := drop_nil hq; omega
        | cons x q' => exact ⟨x, q', rfl⟩
      obtain ⟨h1, h2, h3⟩ := wq1i hq
      have hx : t.getD (at' + m) 0 = x := by
        have := h2 0
        rw [← hp] at this
        simpa [List.getD, List.getElem?_take, List.getElem?_drop, hmu] using this
      have hg : (toBytes t).getD (at' + m) (Kd.int IntKind.u8).zero = (x.toNat : Int) := by rw [getB t _ _ (by omega), hx]
      simp (disch := omega) only [dec_t, dec_f, ieq_t, ieq_f, ine_t, ine_f, inb_t, bnd_t, wrap_id, wrap8_id, cond_true, cond_false, Bool.not_true, Bool.not_false, Bool.true_or, Bool.or_true, Bool.false_or, Bool.or_false, Bool.true_and, Bool.and_true, Bool.false_and, Bool.and_false, wq1, wq0, wq2, hg, beq32]
      cases hb : x == 32 with
      | true =>
        rw [cond_true, wq4a]
        refine ih (m + 1) q' h3 (by omega) (by simp at hn; omega) ?_
        rw [hlt, lt32, List.dropWhile_cons, hb]; rfl
      | false =>
        rw [cond_false]
        exact hend (by rw [lt32, List.dropWhile_cons, hb]; rfl)
    · have : q = [] := by rw [← hq, List.drop_eq_nil_of_le (by omega)]
      subst this
      simp (disch := omega) only [dec_t, dec_f, ieq_t, ieq_f, ine_t, ine_f, inb_t, bnd_t, wrap_id, wrap8_id, cond_true, cond_false, Bool.not_true, Bool.not_false, Bool.true_or, Bool.or_true, Bool.false_or, Bool.or_false, Bool.true_and, Bool.and_true, Bool.false_and, Bool.and_false, wq1, wq0, wq2]
      exact hend rfl
theorem wq14f (k no : Nat) (acc : List Row) (hk : 0 < k) : linesS k [[]] no acc = (acc, 0, 0) := by
  obtain ⟨m, rfl⟩ : ∃ m, k = m + 1 := ⟨k - 1, by omega⟩
  rw [linesS]
  have h1 : stS (lt32 []) (m + 1) 0 = some 0 := rfl
  have h2 : ([] : List UInt8).any bad = false := rfl
  rw [h1, h2]
  show linesS (m + 1) [] (no + 1) (acc ++ []) = _
  rw [linesS, List.append_nil]
end Go.Proofs.YtpfbdepoammjmaaGreatDoor.Pvm

namespace Go.Proofs.YtpfbdepoammjmaaGreatDoor.Pvm
open Go
theorem wqya (k : Nat) {R : Type} (K : List Row → Int → Int → Option R) (t : List UInt8) (ht : t.length ≤ 16384) (hk : 20000 < k) :
    ∀ (n : Nat) (r : List UInt8) (at' no : Nat) (acc : List Row), t.drop at' = r → r.length < n → no ≤ at' + 1 → acc.length ≤ at' → at' ≤ t.length + 1 →
    wq31 k n (toBytes t) 0 0 acc (at' : Int) (no : Int) K = (linesS k (spl r) no acc |> fun z => K z.1 z.2.1 z.2.2) := by
  intro n
  induction n with
  | zero => intro r at' no acc _ h; omega
  | succ n ih =>
    intro r at' no acc hr hn hno ha hat
    rw [wq31]
    unfold wq97
    rw [wq56]
    by_cases hl : at' < t.length
    · rw [dec_t (by omega : (at' : Int) < (t.length : Int)), cond_true]
      dsimp only
      have hrl : r.length = t.length - at' := by rw [← hr, List.length_drop]
      have hu := upto_le 10 r
      rw [wq18t k _ K t (by omega) acc at' no k r at' false hr (by omega) (by omega), Bool.false_or, spl_upto]
      have hp : (t.drop at').take (upto 10 r) = r.take (upto 10 r) := by rw [hr]
      have hnext := ih (r.drop (upto 10 r + 1)) (at' + upto 10 r + 1) (no + 1)
      have hdrop : t.drop (at' + upto 10 r + 1) = r.drop (upto 10 r + 1) := by rw [← hr, List.drop_drop, Nat.add_assoc]
      have hbl := wq180 k (fun s0 s1 s2 s3 s4 s5 => wq31 k n s0 s1 s2 s3 s4 s5 K) K t (by omega) hk acc (by omega) at' no (upto 10 r) (by omega) (by omega) _ hp k 0 _ rfl (by omega) (by rw [List.length_drop, List.length_take]; omega) rfl
      have hz : ((0 : Nat) : Int) = 0 := rfl
      rw [hz] at hbl
      rw [hbl]
      by_cases hlt : upto 10 r < r.length
      · rw [if_pos hlt, linesS]
        cases hb : (r.take (upto 10 r)).any bad with
        | true => rfl
        | false =>
          rw [cond_false, cond_false, finL]
          cases hs : stS (lt32 (r.take (upto 10 r))) k 0 with
          | none => rfl
          | some e =>
            dsimp only
            have := rowL_len k no (r.take (upto 10 r)) e
            exact hnext _ hdrop (by rw [List.length_drop]; omega) (by omega) (by rw [List.length_append]; omega) (by omega)
      · have hfull : r.take (upto 10 r) = r := List.take_of_length_le (by omega)
        rw [if_neg hlt, linesS, hfull]
        cases hb : r.any bad with
        | true => rfl
        | false =>
          rw [cond_false, cond_false, finL]
          cases hs : stS (lt32 r) k 0 with
          | none => rfl
          | some e =>
            dsimp only
            have := rowL_len k no r e
            have h2 := hnext (acc ++ rowL k no r e) hdrop (by rw [List.length_drop]; omega) (by omega) (by rw [List.length_append]; omega) (by omega)
            rw [List.drop_eq_nil_of_le (by omega)] at h2
            rw [h2]
            have : spl [] = [[]] := rfl
            rw [this, wq14f k _ _ (by omega), linesS]
    · have : r = [] := by rw [← hr, List.drop_eq_nil_of_le (by omega)]
      subst this
      rw [dec_f (by omega : ¬ (at' : Int) < (t.length : Int)), cond_false]
      have : spl [] = [[]] := rfl
      rw [this, wq14f k _ _ (by omega)]
theorem wq12a (k : Nat) {R : Type} (s : List UInt8) (hk : 20000 < k) (K : List Row → Int → Int → Option R) :
    wqdb k (toBytes s) K = bif decide (s.length > 16384) then K [] 1 1 else (linesS k (spl s) 1 [] |> fun z => K z.1 z.2.1 z.2.2) := by
  unfold wqdb wqg7
  rw [wq56]
  by_cases h : s.length > 16384
  · rw [dec_t h]
    have : decide ((s.length : Int) > 16384) = true := dec_t (by omega)
    rw [this]; rfl
  · rw [dec_f h]
    have : decide ((s.length : Int) > 16384) = false := dec_f (by omega)
    rw [this, cond_false, cond_false]
    exact wqya k K s (by omega) hk k s 0 1 [] rfl (by omega) (by omega) (by simp) (by omega)
theorem wqyb (k : Nat) : ∀ (ps : List (List UInt8)) (no : Nat) (acc : List Row), (linesS k ps no acc).1.length ≤ acc.length + ps.length
  | [], no, acc => by simp [linesS]
  | p :: ps, no, acc => by
    rw [linesS]
    cases p.any bad with
    | true => simp
    | false =>
      cases stS (lt32 p) k 0 with
      | none => simp
      | some e =>
        have := wqyb k ps (no + 1) (acc ++ rowL k no p e)
        have h2 := rowL_len k no p e
        simp only [cond_false, List.length_append, List.length_cons] at this ⊢
        omega
end Go.Proofs.YtpfbdepoammjmaaGreatDoor.Pvm

namespace Go.Proofs.YtpfbdepoammjmaaGreatDoor.Pvm
open Go
theorem allS_len : ∀ (ls : List Ln) (out : List Pc), (allS ls out).1.length ≤ out.length + total ls
  | [], out => by simp [allS, total]
  | l :: r, out => by
    rw [allS, total]
    have h := rowR_len l.1 l.2.1 l.2.2
    cases (rowR l.1 l.2.1 l.2.2).2.1 != 0 with
    | true => simp
    | false =>
      simp only [cond_false]
      have := allS_len r (out ++ (rowR l.1 l.2.1 l.2.2).1)
      rw [List.length_append] at this
      omega
def sumL (ps : List (List UInt8)) : Nat := (ps.map List.length).sum
theorem spl_sum : ∀ s : List UInt8, sumL (spl s) ≤ s.length
  | [] => by simp [spl, sumL]
  | x :: r => by
    have := spl_sum r
    rw [spl]
    cases x == 10 with
    | true => simp [sumL] at this ⊢; omega
    | false =>
      cases h : spl r with
      | nil => simp [sumL]
      | cons p ps => rw [h] at this; simp [sumL] at this ⊢; omega
theorem rt_len (l : List UInt8) : (rt l).length ≤ l.length := by
  unfold rt
  rw [List.length_reverse]
  have := (List.dropWhile_suffix (p := (· == (32 : UInt8))) (l := l.reverse)).length_le
  simpa using this
theorem wq168 : ∀ a b : List Ln, total (a ++ b) = total a + total b
  | [], b => by simp [total]
  | x :: a, b => by rw [List.cons_append, total, total, wq168 a b]; omega
theorem wqj4 (k : Nat) : ∀ (ps : List (List UInt8)) (no : Nat) (acc : List Row), total (linesS k ps no acc).1 ≤ total acc + sumL ps
  | [], no, acc => by simp [linesS]
  | p :: ps, no, acc => by
    rw [linesS]
    have hs : sumL (p :: ps) = p.length + sumL ps := by simp [sumL]
    cases p.any bad with
    | true => simp [total]
    | false =>
      cases stS (lt32 p) k 0 with
      | none => simp [total]
      | some e =>
        simp only [cond_false]
        have := wqj4 k ps (no + 1) (acc ++ rowL k no p e)
        rw [wq168] at this
        have h2 : total (rowL k no p e) ≤ p.length := by
          unfold rowL
          cases rt ((lt32 p).take e) == [] with
          | true => simp [total]
          | false =>
            have h3 := rt_len ((lt32 p).take e)
            have h4 := lt32_len p
            rw [List.length_take] at h3
            simp only [cond_false, total]
            omega
        omega
def docS (z : List Row × Int × Int) : RsO :=
  bif z.2.1 != 0 then .inl (z.2.1, z.2.2) else bif (allS z.1 []).2.1 != 0 then .inl ((allS z.1 []).2.1, (allS z.1 []).2.2) else ofS (allS z.1 []).1
theorem wqyc (k : Nat) {R : Type} (s : List UInt8) (hs : s.length ≤ 16384) (hk : 200000 < k) (K : List Nd → Int → Int → Option R) : wqb2 k (toBytes s) K = outD K (docS (linesS k (spl s) 1 [])) := by
  unfold wqb2 wqsf
  have h1 := spl_len s
  have h2 := wqyb k (spl s) 1 []
  have h3 := wqj4 k (spl s) 1 []
  have h4 := spl_sum s
  have h5 := allS_len (linesS k (spl s) 1 []).1 []
  simp only [List.length_nil, total] at h2 h3 h5
  rw [wqth k s (by omega), dec_f (by omega), cond_false, docS]
  dsimp only
  cases hz : (linesS k (spl s) 1 []).2.1 != 0 with
  | true => rfl
  | false =>
    simp only [cond_false]
    rw [wq17v k _ _ (by omega) (by omega) (by omega) (by omega)]
    cases hy : (allS (linesS k (spl s) 1 []).1 []).2.1 != 0 with
    | true => rfl
    | false =>
      simp only [cond_false]
      exact wq166 k _ (by omega) (by omega) K
theorem wqyd (k : Nat) {R : Type} (s : List UInt8) (hs : s.length < 200) (hk : 200000 < k) (K : List Nd → Int → Int → Option R) : wqb2 k (toBytes s) K = outD K (docS (linesS 200 (spl s) 1 [])) := by
  rw [wqyc k s (by omega) hk, wqsn k 200 (spl s) 1 [] fun p hp => by have := spl_mem s p hp; omega]
theorem wqye (k : Nat) {R : Type} (hk : 200000 < k) (K : Bool → Option R) : wqb4 k K = K true := by
  unfold wqb4 wqlb
  have e1 : docS (linesS 200 (spl [97, 58, 32, 98]) 1 []) = .inr [(3, 1, [], false, [[97]], [1]), (1, 1, [98], false, [], [])] := by kernel_rfl
  have e2 : docS (linesS 200 (spl [97, 58]) 1 []) = .inl (10, 1) := by kernel_rfl
  have t1 : ([97, 58, 32, 98] : List Int) = toBytes [97, 58, 32, 98] := rfl
  have t2 : ([97, 58] : List Int) = toBytes [97, 58] := rfl
  have h1 := wqyd k (R := R) [97, 58, 32, 98] (by simp) hk
  have h2 := wqyd k (R := R) [97, 58] (by simp) hk
  rw [e1] at h1
  rw [e2] at h2
  refine (h1 _).trans ?_
  refine (h2 _).trans ?_
  have h3 := wq166 k (R := R) [] (by simp) (by simp; omega)
  refine (h3 _).trans ?_
  have e3 : (((0 : Int) == 0 && (0 : Int) == 0) == true) = true := rfl
  simp only [outD, ofS, e3, cond_true]
  rw [Alike_eq k _ _ (by simp) (by intro y hy; simp at hy; rcases hy with rfl | rfl <;> simp) (by omega) (by simp; omega)]
  rfl
end Go.Proofs.YtpfbdepoammjmaaGreatDoor.Pvm

namespace Go.Proofs.YtpfbdepoammjmaaGreatDoor.Pvm
open Go
theorem wqrp (k : Nat) {R : Type} (s : List UInt8) (hs : s.length ≤ 16384) (hk : 200000 < k) (K : List Nd → Int → Int → Option R) : wqde k (toBytes s) K = outD K (docS (linesS k (spl s) 1 [])) := by
  unfold wqde wqlu
  have h1 := spl_len s
  have h2 := wqyb k (spl s) 1 []
  have h3 := wqj4 k (spl s) 1 []
  have h4 := spl_sum s
  have h5 := allS_len (linesS k (spl s) 1 []).1 []
  simp only [List.length_nil, total] at h2 h3 h5
  rw [wq12a k s (by omega), dec_f (by omega), cond_false, docS]
  dsimp only
  cases hz : (linesS k (spl s) 1 []).2.1 != 0 with
  | true => rfl
  | false =>
    simp only [cond_false]
    rw [wqzq k _ _ (by omega) (by omega) (by omega) (by omega)]
    cases hy : (allS (linesS k (spl s) 1 []).1 []).2.1 != 0 with
    | true => rfl
    | false =>
      simp only [cond_false]
      exact wq173 k _ (by omega) (by omega) K
theorem docS_ok (k : Nat) (s : List UInt8) (hs : s.length ≤ 16384) {nd : List Nd} (h : docS (linesS k (spl s) 1 []) = .inr nd) : okN nd ∧ nd.length ≤ 2000 := by
  unfold docS at h
  have h3 := wqj4 k (spl s) 1 []
  have h4 := spl_sum s
  have h5 := allS_len (linesS k (spl s) 1 []).1 []
  simp only [List.length_nil, total] at h3 h5
  cases hz : (linesS k (spl s) 1 []).2.1 != 0 with
  | true => rw [hz] at h; cases h
  | false =>
    rw [hz, cond_false] at h
    cases hy : (allS (linesS k (spl s) 1 []).1 []).2.1 != 0 with
    | true => rw [hy] at h; cases h
    | false =>
      rw [hy, cond_false] at h
      exact ofS_ok (by omega) h
theorem wq15i (t : List UInt8) : ∃ k, wq8x k (toBytes t) (fun b => some b) = some true := by
  obtain ⟨k, hk⟩ : ∃ k : Nat, k = 300000 := ⟨_, rfl⟩
  refine ⟨k, ?_⟩
  unfold wq8x wqfl
  rw [wq56]
  by_cases h : t.length > 6000
  · rw [dec_t (by omega), cond_true, wqye k (by omega)]
  · rw [dec_f (by omega), cond_false, wqyc k t (by omega) (by omega)]
    cases hs : docS (linesS k (spl t) 1 []) with
    | inl e =>
      simp only [outD]
      rw [wqrp k t (by omega) (by omega), hs]
      simp only [outD]
      rw [Alike_eq k _ [] (by simp) (fun y hy => by cases hy) (by omega) (by simp; omega)]
      simp only [beq_self_eq_true, Bool.and_self, cond_true]
      rw [wqye k (by omega)]
    | inr nd =>
      obtain ⟨o1, o2⟩ := docS_ok k t (by omega) hs
      simp only [outD]
      rw [wqrp k t (by omega) (by omega), hs]
      simp only [outD]
      rw [Alike_eq k _ nd (by omega) o1 (by omega) (by omega)]
      simp only [beq_self_eq_true, Bool.and_self, cond_true]
      rw [wqye k (by omega)]
theorem wq14g (x : (Kd.sl (.int .u8)).T) (h : Wf (.sl (.int .u8)) x) : ∃ k, wq8x k x (fun b => some b) = some true := by
  obtain ⟨t, ht⟩ := bytes_wf (x := x) (fun y hy => h.2 y hy)
  rw [ht]
  exact wq15i t
end Go.Proofs.YtpfbdepoammjmaaGreatDoor.Pvm

namespace Go.Proofs.YtpfbdepoammjmaaGreatDoor.docParse
open Go Go.Proofs Go.ChangeShapes Go.WideShapes Go.ChangeAt Go.RowKit Go.Proofs.YtpfbdepoammjmaaGreatDoor.Pvm
theorem own : ownKnob Tryz.prog.godebug = none := by kernel_rfl
theorem laidOut : laidOutB Tryz.prog = true := by kernel_rfl
set_option maxRecDepth 100000 in
theorem lifted (os : Os) (started : os.Started) (H : Type) (enc : TypeId × Value → H) :
    ReturnsInHanded {} Tryz.checked os 3 .any (fun w args => (Rows.docParseSpec.pre enc Tryz.prog Tryz.f3 Rows.docParseRow.domain false w args ∧ laidMetH Tryz.prog Rows.docParseRow.laid w) ∧ sizedMet enc Tryz.prog Tryz.f3 (OpenSpec.ofChange Rows.docParseSpec) false w args) (Rows.docParseSpec.post enc Tryz.prog Tryz.f3 false true false false) := by
  refine returnsInHanded_of_change_and (C := Tryz.checked) (X := fun w _ => laidMetH Tryz.prog Rows.docParseRow.laid w) (fun _ _ _ hh h => h.of_heap hh) own started (by kernel_rfl) Tryz.func3
    (ChangeSpec.witness_shaped (enc := enc) (C := Tryz.checked) (os := os) (X := fun w _ => laidMetH Tryz.prog Rows.docParseRow.laid w) false (World.laidAll Tryz.prog os Rows.docParseRow.laid) #[.slice none 0 0] 8 (World.laidAll_os _ _ _)
      (World.shaped_of_ZipB (by kernel_rfl) (by kernel_rfl)) (by kernel_rfl) (by kernel_rfl) (by kernel_rfl)
      (by rw [MakeChecks.laidMetH_plain _ _ _ (by kernel_rfl)]; exact laidMet_laidAll _ (by kernel_rfl) (by kernel_rfl))) ?_
  intro W base args ds gs before hval0 hW hcnd hsz0 hL _
  have hsz : (DataW.weightsEach Tryz.prog (Tryz.f3.params.toList ++ Rows.docParseSpec.plain.varTypes Tryz.prog) (ds ++ gs)).all (· ≤ reachBytes) = true := hsz0
  have hval : ∀ (j : Nat) t v, Tryz.f3.params[j]? = some t → args[j]? = some v → Value.okWide Tryz.prog W .any base t v := hval0
  have hW' := hW
  obtain ⟨p, q, hA0, hV, rfl, hfz, hnd⟩ := hW
  have hA : DataW.TrodAll enc Tryz.prog W 0 (fun _ => true) true Tryz.f3.params.toList args.toList ds p := hA0
  rw [Tryz.params3] at hA hval hsz
  obtain ⟨v0, vs0, d0, ds0, p0, q0, hargs, rfl, rfl, h0, r0⟩ := trodAll_cons hA
  obtain ⟨rfl, rfl, rfl⟩ := trodAll_nil r0
  obtain rfl : args = #[v0] := by cases args; simp_all
  obtain ⟨rfl, rfl⟩ := trodVars_none hV
  have hws := wq17o (P := Tryz.prog) hsz
  have k0 := h0
  have lt0 : ∀ x ∈ p0, x.block < W.heap.size := by obtain ⟨m, hm⟩ := k0; exact DataW.trod_lt m _ _ _ hm
  obtain ⟨x0, wf0, rv0⟩ := arg_data tyT_ok (n := 9) (K := (.sl (.int .u8))) (by kernel_rfl) (by kernel_rfl) (hval 0 22 v0 rfl rfl) h0 (hws 0 22 d0 rfl rfl) (h := mkH []) (G := G0) (fun _ => rfl) (fun _ h => h)
  obtain ⟨k, hk⟩ := wq14g x0 wf0
  have hrun : wqcr k [.v (.sl (.int .u8)) x0] [] lawK = some true := hk
  refine (wq160 (fn := Tryz.f3) (c := Tryz.f3.body.getD .skip) (by kernel_rfl) (by kernel_rfl) (by kernel_rfl) (wqy1 k hrun) (vals := [v0]) ⟨v0, _, rfl, rv0, rfl⟩).mono fun e W' ⟨he, bel⟩ => ?_
  subst he
  exact ⟨_, rfl, _, _, _, [], _, [], hW', trodAll_mk1 (shut_bool Tryz.underlying4 _), (trodAll_cons_mk (Below.trod laidOut (by kernel_rfl) (of_decide_eq_true (by kernel_rfl)) k0 bel lt0) trodAll_mk0), rfl, bel.frame _, fun h => by cases h⟩
theorem over : Rows.docParseRow.holds Tryz.pinned (OpenSpec.ofChange Rows.docParseSpec) :=
  OpenClaim.holds_of_wide 3 Tryz.f3 rfl rfl rfl rfl rfl rfl rfl ⟨rfl, rfl, rfl, rfl, rfl⟩ rfl rfl rfl rfl rfl (by kernel_rfl) Tryz.func3 (by kernel_rfl)
    (of_decide_eq_true (by kernel_rfl)) (by unfold Func.isWrapper; first | (rw [if_pos (by decide +kernel)]; kernel_rfl) | (rw [if_neg (by decide +kernel)]; exact ⟨rfl, rfl⟩))
    (fun os started H enc _ => lifted os started H enc)
theorem tied : Rows.DocParseCardSaid :=
  Claim7.holds_tied_plain_at .later [] [.data, .pinned] true (true, "769cc43a1affd437349ea352aae06e57c62e38067e280b9159d9dc03099caf49") true over (fun _ h => by cases h) (by kernel_rfl) (fun _ h => by cases h) docParse_row_tie rfl ⟨rfl, rfl⟩ (by kernel_rfl) rfl
    (fun f fn hf hfn => by
      obtain rfl : f = 3 := Option.some.inj ((show Tryz.prog.funcNamed Rows.docParseRow.func = some 3 by kernel_rfl).symm.trans hf) |>.symm
      obtain rfl : fn = Tryz.f3 := (Option.some.inj (Tryz.func3.symm.trans hfn)).symm
      exact ⟨by kernel_rfl, fun j t ht => by
        rw [Tryz.params3] at ht
        have hm : t ∈ [22] := by simpa using Array.mem_of_getElem? ht
        have hall : ([22].all fun u => !Tryz.prog.wantsStandIn u) = true := by kernel_rfl
        exact (show Tryz.prog.wantsStandIn t = false by simpa using List.all_eq_true.1 hall t hm)⟩)
    (by kernel_rfl)
#print axioms tied
end Go.Proofs.YtpfbdepoammjmaaGreatDoor.docParse
namespace Go.Proofs.YtpfbdepoammjmaaGreatDoor
theorem docParse_holds : Rows.DocParseCardSaid := docParse.tied
end Go.Proofs.YtpfbdepoammjmaaGreatDoor
