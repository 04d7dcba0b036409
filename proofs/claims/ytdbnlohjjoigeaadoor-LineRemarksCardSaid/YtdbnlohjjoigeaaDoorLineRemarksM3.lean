/- The Go function LineRemarks answers true for every text, every place, every number of blanks and every remark, on any machine and under any order of evaluation that Go allows; with no condition besides the statement's own, the card's own ties to the pruned copy of the project included. -/
import Derived.Lib.TrimU
import Derived.Test.YtdbnlohjjoigeaaDoorCards
import Derived.Test.YtdbnlohjjoigeaaDoorTie
import Derived.LaidMore
import Derived.Lay
import Derived.SevenTiedAt
import Derived.Stop.Joined
import Derived.Test.YtdbnlohjjoigeaaDoorRows
import Derived.Test.YtdbnlohjjoigeaaDoorLineRemarksM0
import Derived.Test.YtdbnlohjjoigeaaDoorLineRemarksM1
import Derived.Test.YtdbnlohjjoigeaaDoorLineRemarksM2
set_option linter.unusedVariables false
set_option linter.unusedSimpArgs false
set_option linter.unusedSectionVars false
set_option linter.unusedVariables false
set_option linter.unusedSimpArgs false
namespace Go.Proofs.YtdbnlohjjoigeaaDoor.Pvm
open Go
/-! ### the first byte of a kind -/
theorem idx_some (s : List UInt8) (c : Int) : ∀ (n : Nat), (∀ i, i < n → (s.getD i 0 == UInt8.ofNat c.toNat) = false) → n < s.length → (s.getD n 0 == UInt8.ofNat c.toNat) = true → idxByte s c = n := by
  intro n h1 h2 h3
  unfold idxByte
  have : (List.range s.length).find? (fun i => s.getD i 0 == UInt8.ofNat c.toNat) = some n := by
    rw [List.find?_range_eq_some]
    exact ⟨h3, by simpa using h2, fun j hj => by simpa using h1 j hj⟩
  rw [this]
theorem idx_none (s : List UInt8) (c : Int) (h : ∀ i, i < s.length → (s.getD i 0 == UInt8.ofNat c.toNat) = false) : idxByte s c = -1 := by
  unfold idxByte
  have : (List.range s.length).find? (fun i => s.getD i 0 == UInt8.ofNat c.toNat) = none := by
    rw [List.find?_range_eq_none]
    intro i hi
    simpa using h i hi
  rw [this]
/-- how many bytes stand ahead of the first of a kind -/
def upto (c : UInt8) : List UInt8 → Nat
  | [] => 0
  | x :: r => bif x == c then 0 else upto c r + 1
theorem upto_le (c : UInt8) : ∀ s : List UInt8, upto c s ≤ s.length
  | [] => Nat.le_refl _
  | x :: r => by
    rw [upto]
    cases h : x == c with
    | true => simp
    | false => have := upto_le c r; simp; omega
theorem upto_lt (c : UInt8) : ∀ (s : List UInt8) (i : Nat), i < upto c s → (s.getD i 0 == c) = false
  | [], i, h => by simp [upto] at h
  | x :: r, i, h => by
    rw [upto] at h
    cases hx : x == c with
    | true => rw [hx] at h; simp at h
    | false =>
      rw [hx, cond_false] at h
      cases i with
      | zero => simpa using hx
      | succ i => simpa using upto_lt c r i (by omega)
theorem upto_at (c : UInt8) : ∀ (s : List UInt8), upto c s < s.length → (s.getD (upto c s) 0 == c) = true
  | [], h => by simp at h
  | x :: r, h => by
    rw [upto] at h ⊢
    cases hx : x == c with
    | true => simpa using hx
    | false =>
      rw [hx, cond_false] at h
      rw [cond_false]
      simpa using upto_at c r (by simpa using h)
theorem idx_eq (s : List UInt8) (c : UInt8) : idxByte s (c.toNat : Int) = if upto c s < s.length then (upto c s : Int) else -1 := by
  have e : UInt8.ofNat ((c.toNat : Int)).toNat = c := by simp
  split
  · next h => exact idx_some s _ _ (fun i hi => by rw [e]; exact upto_lt c s i hi) h (by rw [e]; exact upto_at c s h)
  · next h => exact idx_none s _ fun i hi => by rw [e]; exact upto_lt c s i (by have := upto_le c s; omega)

theorem ofBytes_toBytes (l : List UInt8) : ofBytes (toBytes l) = l := by
  unfold ofBytes toBytes
  rw [List.map_map]
  have : ((fun n : Int => UInt8.ofNat n.toNat) ∘ fun b : UInt8 => (b.toNat : Int)) = id := by
    funext b
    simp
  rw [this, List.map_id]
theorem toBytes_len (l : List UInt8) : (toBytes l).length = l.length := by simp [toBytes]
theorem toBytes_drop (l : List UInt8) (n : Nat) : (toBytes l).drop n = toBytes (l.drop n) := by simp [toBytes, List.map_drop]
theorem toBytes_take (l : List UInt8) (n : Nat) : (toBytes l).take n = toBytes (l.take n) := by simp [toBytes, List.map_take]
theorem toBytes_getD (l : List UInt8) (n : Nat) : (toBytes l).getD n 0 = ((l.getD n 0).toNat : Int) := by
  simp only [toBytes, List.getD, List.getElem?_map]
  cases l[n]? <;> rfl
/-- bytes that are bytes -/
theorem bytes_wf {x : List Int} (h : ∀ y ∈ x, (0 : Int) ≤ y ∧ y ≤ 255) : ∃ t, x = toBytes t := by
  refine ⟨ofBytes x, ?_⟩
  unfold ofBytes toBytes
  rw [List.map_map]
  symm
  refine (List.map_congr_left fun y hy => ?_).trans (List.map_id x)
  have := h y hy
  simp only [Function.comp, UInt8.toNat_ofNat', id]
  omega
end Go.Proofs.YtdbnlohjjoigeaaDoor.Pvm

set_option linter.unusedVariables false
set_option linter.unusedSimpArgs false
namespace Go.Proofs.YtdbnlohjjoigeaaDoor.Pvm
open Go
def spl : List UInt8 → List (List UInt8)
  | [] => [[]]
  | x :: r => bif x == 10 then [] :: spl r else (match spl r with
    | p :: ps => (x :: p) :: ps
    | [] => [[x]])
theorem spl_upto : ∀ s : List UInt8, spl s = if upto 10 s < s.length then s.take (upto 10 s) :: spl (s.drop (upto 10 s + 1)) else [s]
  | [] => rfl
  | x :: r => by
    rw [spl, upto]
    cases h : x == 10 with
    | true => simp
    | false =>
      rw [cond_false, cond_false, spl_upto r]
      by_cases hl : upto 10 r < r.length
      · rw [if_pos hl, if_pos (by simpa using hl)]
        rfl
      · rw [if_neg hl, if_neg (by simpa using hl)]
theorem count_upto : ∀ s : List UInt8, s.count 10 = if upto 10 s < s.length then (s.drop (upto 10 s + 1)).count 10 + 1 else 0
  | [] => rfl
  | x :: r => by
    rw [List.count_cons, upto]
    cases h : x == 10 with
    | true => simp
    | false =>
      rw [cond_false, count_upto r]
      simp only [Bool.false_eq_true, if_false, Nat.add_zero]
      by_cases hl : upto 10 r < r.length
      · rw [if_pos hl, if_pos (by simpa using hl)]
        simp
      · rw [if_neg hl, if_neg (by simpa using hl)]
theorem Index_eq (k : Nat) {R : Type} (s : List UInt8) (K : Int → Option R) : F_bytes_Index k (toBytes s) 10 K = K (if upto 10 s < s.length then (upto 10 s : Int) else -1) := by
  have : F_bytes_Index k (toBytes s) 10 K = K (idxByte (ofBytes (toBytes s)) 10) := rfl
  rw [this, ofBytes_toBytes]
  have := idx_eq s 10
  rw [← this]; rfl
theorem take_set {α : Type} (l : List α) (i : Nat) (x : α) (h : i < l.length) : (l.set i x).take (i + 1) = l.take i ++ [x] := by
  rw [List.take_add_one, List.take_set_of_le (Nat.le_refl _)]
  simp [h]
theorem genSplit_loop (k : Nat) {R : Type} (K : List (List Int) → Option R) : ∀ (n : Nat) (s : List UInt8) (i c : Nat) (arr : List (List Int)), s.count 10 = c → arr.length = i + c + 1 → c < n → s.length + i + c ≤ 1000000 →
    L_bytes_genSplit_1011 k n (toBytes s) 10 0 ((i + c : Nat) : Int) arr (i : Int) K = K (arr.take i ++ (spl s).map toBytes) := by
  intro n
  induction n with
  | zero => intro s i c arr _ _ h; omega
  | succ n ih =>
    intro s i c arr hc ha hn hl
    rw [L_bytes_genSplit_1011]
    unfold B_bytes_genSplit_1011
    rw [count_upto] at hc
    by_cases hu : upto 10 s < s.length
    · rw [if_pos hu] at hc
      obtain ⟨c', rfl⟩ : ∃ c', c = c' + 1 := ⟨c - 1, by omega⟩
      rw [Index_eq, if_pos hu, spl_upto, if_pos hu]
      have hd : decide ((i : Int) < ((i + (c' + 1) : Nat) : Int)) = true := dec_t (by omega)
      have hu0 : decide ((upto 10 s : Int) < 0) = false := dec_f (by omega)
      have w0 : IntKind.i64.wrap ((upto 10 s : Int) + 0) = (upto 10 s : Int) := by rw [wrap_id (by omega) (by omega)]; omega
      have w1 : IntKind.i64.wrap ((upto 10 s : Int) + (([10] : List Int).length : Int)) = ((upto 10 s + 1 : Nat) : Int) := by rw [wrap_id (by simp; omega) (by simp; omega)]; simp
      have w2 : IntKind.i64.wrap ((i : Int) + 1) = ((i + 1 : Nat) : Int) := by rw [wrap_id (by omega) (by omega)]; omega
      have b1 : bnd 0 (upto 10 s : Int) (upto 10 s : Int) = true := bnd_t (by omega) (by omega) (by omega)
      have d1 : decide ((upto 10 s : Int) ≤ ((toBytes s).length : Int)) = true := dec_t (by rw [toBytes_len]; omega)
      have i1 : inb (i : Int) (arr.length : Int) = true := inb_t (by omega) (by omega)
      have b2 : bnd ((upto 10 s + 1 : Nat) : Int) ((toBytes s).length : Int) ((toBytes s).length : Int) = true := bnd_t (by omega) (by rw [toBytes_len]; omega) (by omega)
      simp only [hd, hu0, w0, w1, w2, b1, d1, i1, b2, cond_true, cond_false, Bool.and_true, Bool.and_self]
      rw [cut_end, cut_start, toBytes_drop, toBytes_take, toNat_cast']
      have e : ((i + (c' + 1) : Nat) : Int) = (((i + 1) + c' : Nat) : Int) := by omega
      rw [e, ih _ (i + 1) c' _ (by omega) (by rw [List.length_set]; omega) (by omega) (by rw [List.length_drop]; omega), take_set _ _ _ (by omega)]
      simp
    · rw [if_neg hu] at hc
      subst hc
      rw [spl_upto, if_neg hu]
      have hd : decide ((i : Int) < ((i + 0 : Nat) : Int)) = false := dec_f (by omega)
      have w2 : IntKind.i64.wrap ((i : Int) + 1) = ((i + 1 : Nat) : Int) := by rw [wrap_id (by omega) (by omega)]; omega
      have i1 : inb (i : Int) (arr.length : Int) = true := inb_t (by omega) (by omega)
      have b2 : ∀ z, bnd 0 ((i + 1 : Nat) : Int) ((arr.set (i : Int).toNat z).length : Int) = true := fun z => bnd_t (by omega) (by omega) (by rw [List.length_set]; omega)
      simp only [hd, w2, i1, b2, cond_true, cond_false]
      rw [cut_start, toNat_cast', take_set _ _ _ (by omega)]
      rfl
theorem Split_eq (k : Nat) {R : Type} (s : List UInt8) (hs : s.length ≤ 100000) (hk : s.length < k) (K : List (List Int) → Option R) : F_bytes_Split k (toBytes s) 10 K = K ((spl s).map toBytes) := by
  unfold F_bytes_Split A_bytes_Split F_bytes_genSplit A_bytes_genSplit
  have hcl : s.count 10 ≤ s.length := List.count_le_length
  have hcnt : F_bytes_Count k (toBytes s) 10 = fun (K : Int → Option R) => K ((s.count 10 : Nat) : Int) := by
    funext K
    have : F_bytes_Count k (toBytes s) 10 K = K (cntB (ofBytes (toBytes s)) 10) := rfl
    rw [this, ofBytes_toBytes]; rfl
  rw [hcnt, toBytes_len]
  have z0 : ((-1 : Int) == 0) = false := rfl
  have z1 : decide ((-1 : Int) < 0) = true := rfl
  have w1 : IntKind.i64.wrap (((s.count 10 : Nat) : Int) + 1) = ((s.count 10 + 1 : Nat) : Int) := by rw [wrap_id (by omega) (by omega)]; omega
  have w2 : IntKind.i64.wrap ((s.length : Int) + 1) = ((s.length + 1 : Nat) : Int) := by rw [wrap_id (by omega) (by omega)]; omega
  have hmin : (if ((s.length + 1 : Nat) : Int) < ((s.count 10 + 1 : Nat) : Int) then ((s.length + 1 : Nat) : Int) else ((s.count 10 + 1 : Nat) : Int)) = ((s.count 10 + 1 : Nat) : Int) := by
    rw [if_neg (by omega)]
  simp only [z0, z1, cond_true, cond_false, w1, w2, hmin]
  have hm : mkB ((s.count 10 + 1 : Nat) : Int) ((s.count 10 + 1 : Nat) : Int) 24 = true := by
    simp only [mkB, Bool.and_eq_true, decide_eq_true_eq]; omega
  have w3 : IntKind.i64.wrap (((s.count 10 + 1 : Nat) : Int) - 1) = ((0 + s.count 10 : Nat) : Int) := by rw [wrap_id (by omega) (by omega)]; omega
  rw [hm, cond_true, w3]
  have := genSplit_loop k K k s 0 (s.count 10) (zeros (Kd.int IntKind.u8).sl ((s.count 10 + 1 : Nat) : Int)) rfl (by simp [zeros]) (by omega) (by omega)
  exact this
end Go.Proofs.YtdbnlohjjoigeaaDoor.Pvm

set_option linter.unusedVariables false
set_option linter.unusedSimpArgs false
namespace Go.Proofs.YtdbnlohjjoigeaaDoor.Pvm
open Go
def bad (c : UInt8) : Bool := oddP c.toNat
theorem oddP_high {n : Nat} (h : 128 ≤ n) : oddP n = false := by
  have h1 : decide ((n : Int) ≥ 0) = true := dec_t (by omega)
  have h2 : decide ((n : Int) < 32) = false := dec_f (by omega)
  have h3 : ((n : Int) == 127) = false := ieq_f (by omega)
  rw [oddP, h1, h2, h3]; rfl
theorem decode_low (s : ByteArray) (i : Nat) (h : (s.get! i).toNat < 128) : Utf8.decode s i = ((s.get! i).toNat, 1) := by
  unfold Utf8.decode
  simp only [Nat.add_zero]
  rw [if_pos (by omega)]
theorem decode_high (s : ByteArray) (i : Nat) (h : 128 ≤ (s.get! i).toNat) : 128 ≤ (Utf8.decode s i).1 ∧ ∀ j, i < j → j < i + (Utf8.decode s i).2 → 128 ≤ (s.get! j).toNat := by
  have ct : ∀ k, (decide (i + k < s.size) && ((s.get! (i + k)).toNat / 64 == 2)) = true → 128 ≤ (s.get! (i + k)).toNat := by
    intro k hk
    simp only [Bool.and_eq_true, beq_iff_eq] at hk
    omega
  unfold Utf8.decode
  simp only [Nat.add_zero]
  rw [if_neg (by omega)]
  split
  · next h1 =>
    simp only [Bool.and_eq_true] at h1
    have c1 := ct 1 (by simpa using h1.2)
    split
    · next h2 =>
      refine ⟨h2, fun j j1 j2 => ?_⟩
      obtain rfl : j = i + 1 := by omega
      exact c1
    · exact ⟨by decide, fun j j1 j2 => by omega⟩
  · split
    · next h1 =>
      simp only [Bool.and_eq_true] at h1
      have c1 := ct 1 (by simpa using h1.1.2)
      have c2 := ct 2 (by simpa using h1.2)
      split
      · next h2 =>
        simp only [Bool.and_eq_true, decide_eq_true_eq] at h2
        refine ⟨by omega, fun j j1 j2 => ?_⟩
        rcases (show j = i + 1 ∨ j = i + 2 by omega) with rfl | rfl
        · exact c1
        · exact c2
      · exact ⟨by decide, fun j j1 j2 => by omega⟩
    · split
      · next h1 =>
        simp only [Bool.and_eq_true] at h1
        have c1 := ct 1 (by simpa using h1.1.1.2)
        have c2 := ct 2 (by simpa using h1.1.2)
        have c3 := ct 3 (by simpa using h1.2)
        split
        · next h2 =>
          simp only [Bool.and_eq_true, decide_eq_true_eq] at h2
          refine ⟨by omega, fun j j1 j2 => ?_⟩
          rcases (show j = i + 1 ∨ j = i + 2 ∨ j = i + 3 by omega) with rfl | rfl | rfl
          · exact c1
          · exact c2
          · exact c3
        · exact ⟨by decide, fun j j1 j2 => by omega⟩
      · exact ⟨by decide, fun j j1 j2 => by omega⟩
theorem any_skip (l : List UInt8) (p : UInt8 → Bool) : ∀ (w pos : Nat), (∀ j, pos ≤ j → j < pos + w → j < l.length → p (l.getD j 0) = false) → (l.drop pos).any p = (l.drop (pos + w)).any p
  | 0, pos, h => rfl
  | w + 1, pos, h => by
    rw [show pos + (w + 1) = (pos + 1) + w by omega, ← any_skip l p w (pos + 1) fun j h1 h2 h3 => h j (by omega) (by omega) h3]
    by_cases hl : pos < l.length
    · rw [List.drop_eq_getElem_cons hl, List.any_cons]
      have := h pos (Nat.le_refl _) (by omega) hl
      simp only [List.getD, List.getElem?_eq_getElem hl, Option.getD_some] at this
      rw [this, Bool.false_or]
    · rw [List.drop_eq_nil_of_le (by omega), List.drop_eq_nil_of_le (by omega)]
theorem get_of (l : List UInt8) (i : Nat) (h : i < l.length) : (⟨l.toArray⟩ : ByteArray).get! i = l.getD i 0 := by
  show (l.toArray)[i]! = _
  rw [getElem!_pos l.toArray i (by simpa using h)]
  simp [List.getD, h]
theorem odd_from (l : List UInt8) : ∀ (f pos : Nat), l.length ≤ pos + f → decide (Lib.idxFuncFrom oddP true ⟨l.toArray⟩ f pos ≥ 0) = (l.drop pos).any bad
  | 0, pos, h => by
    rw [List.drop_eq_nil_of_le (by omega)]
    rfl
  | f + 1, pos, h => by
    rw [Lib.idxFuncFrom]
    have hsz : (⟨l.toArray⟩ : ByteArray).size = l.length := rfl
    rw [hsz]
    by_cases hl : pos < l.length
    · rw [if_pos hl]
      have hg := get_of l pos hl
      by_cases hb : (l.getD pos 0).toNat < 128
      · rw [decode_low _ _ (by rw [hg]; exact hb), hg]
        have hd : l.drop pos = l.getD pos 0 :: l.drop (pos + 1) := by
          rw [List.drop_eq_getElem_cons hl]; simp [List.getD, hl]
        rw [hd, List.any_cons]
        cases ho : oddP (l.getD pos 0).toNat with
        | true =>
          have : bad (l.getD pos 0) = true := ho
          rw [this, if_pos rfl]
          simp
        | false =>
          have : bad (l.getD pos 0) = false := ho
          rw [this, if_neg (by simp), odd_from l f (pos + 1) (by omega), Bool.false_or]
      · obtain ⟨r1, r2⟩ := decode_high ⟨l.toArray⟩ pos (by rw [hg]; omega)
        rw [oddP_high r1, if_neg (by simp), odd_from l f _ (by have := Lib.width_pos ⟨l.toArray⟩ pos; omega)]
        symm
        refine any_skip l bad _ pos fun j j1 j2 j3 => ?_
        by_cases hj : j = pos
        · subst hj; exact oddP_high (by omega)
        · have := r2 j (by omega) j2
          rw [get_of l j j3] at this
          exact oddP_high this
    · rw [if_neg hl, List.drop_eq_nil_of_le (by omega)]
      rfl
theorem idxOdd_any (l : List UInt8) : decide (idxOdd l ≥ 0) = l.any bad := odd_from l l.length 0 (by omega)
end Go.Proofs.YtdbnlohjjoigeaaDoor.Pvm

set_option maxRecDepth 1000000
set_option maxHeartbeats 0
set_option linter.unusedVariables false
namespace Go.Proofs.YtdbnlohjjoigeaaDoor.Pvm
open Go Go.Proofs
def sig_ref10_quoted : List LS := [.any, .any]
noncomputable def C_ref10_quoted (k : Nat) : CTab := ⟨fun f => [], fun f {_} ps hp K => none⟩
def wrap_ref10_quoted {R : Type} (K : (Int → Bool → Option R)) : Out → Option R
  | .ret [.v (.int .i64) y0, .v .bool y1] [] => K y0 y1
  | _ => none
def sp_ref10_quoted : RetSpec := ⟨[.any, .any], [], []⟩
def cuts_ref10_quoted : List (Nat × CutSpec) := [(1003, ⟨[(0, .any), (6, .any), (7, .any)], []⟩)]
def plans_ref10_quoted : List (Nat × Plan) := []
noncomputable def cx_ref10_quoted (k : Nat) : Ctx := ⟨tyT, cuts_ref10_quoted, C_ref10_quoted k, [], [], plans_ref10_quoted⟩
noncomputable def code_ref10_quoted : Code := Tryd.f15.body.getD .skip
def st_ref10_quoted_1003 (s0 : (List UInt8)) (s1 : Int) (s2 : Int) : St := ⟨mkT [(0, .v .str s0), (6, .v (.int .u8) s1), (7, .v (.int .i64) s2)], mkH []⟩
noncomputable def B_ref10_quoted_1003 (k : Nat) {R : Type} (E1003 : ((List UInt8) → Int → Int → Option R)) (s0 : (List UInt8)) (s1 : Int) (s2 : Int) (K : (Int → Bool → Option R)) : Option R := (@cond (@Option R) (@Decidable.decide (@LT.lt @Int @Int.instLTInt s2 (@Nat.cast @Int @instNatCastInt (@List.length @UInt8 s0))) (@Int.decLt s2 (@Nat.cast @Int @instNatCastInt (@List.length @UInt8 s0)))) (@cond (@Option R) (@Bool.or (@Bool.not (@BEq.beq (@Kd.T @Kd.bool) (@instBEqOfDecidableEq (@Kd.T @Kd.bool) @instDecidableEqBool) (@BEq.beq @Int (@instBEqOfDecidableEq @Int @Int.instDecidableEq) s1 (34 : @Int)) @Bool.true)) (@inb s2 (@Nat.cast @Int @instNatCastInt (@List.length @UInt8 s0)))) (@cond (@Option R) (@cond (@Kd.T @Kd.bool) (@BEq.beq @Int (@instBEqOfDecidableEq @Int @Int.instDecidableEq) s1 (34 : @Int)) (@BEq.beq @Int (@instBEqOfDecidableEq @Int @Int.instDecidableEq) (@Nat.cast @Int @instNatCastInt (@UInt8.toNat (@List.getD @UInt8 s0 (@Int.toNat s2) (0 : @UInt8)))) (92 : @Int)) @Bool.false) (E1003 s0 s1 (@Go.IntKind.wrap @Go.IntKind.i64 (@HAdd.hAdd @Int @Int @Int (@instHAdd @Int @Int.instAdd) (@Go.IntKind.wrap @Go.IntKind.i64 (@HAdd.hAdd @Int @Int @Int (@instHAdd @Int @Int.instAdd) s2 (1 : @Int))) (1 : @Int)))) (@cond (@Option R) (@inb s2 (@Nat.cast @Int @instNatCastInt (@List.length @UInt8 s0))) (@cond (@Option R) (@bne @Int (@instBEqOfDecidableEq @Int @Int.instDecidableEq) (@Nat.cast @Int @instNatCastInt (@UInt8.toNat (@List.getD @UInt8 s0 (@Int.toNat s2) (0 : @UInt8)))) s1) (E1003 s0 s1 (@Go.IntKind.wrap @Go.IntKind.i64 (@HAdd.hAdd @Int @Int @Int (@instHAdd @Int @Int.instAdd) s2 (1 : @Int)))) (@cond (@Option R) (@Bool.or (@Bool.not (@BEq.beq (@Kd.T @Kd.bool) (@instBEqOfDecidableEq (@Kd.T @Kd.bool) @instDecidableEqBool) (@cond (@Kd.T @Kd.bool) (@BEq.beq @Int (@instBEqOfDecidableEq @Int @Int.instDecidableEq) s1 (39 : @Int)) (@Decidable.decide (@LT.lt @Int @Int.instLTInt (@Go.IntKind.wrap @Go.IntKind.i64 (@HAdd.hAdd @Int @Int @Int (@instHAdd @Int @Int.instAdd) s2 (1 : @Int))) (@Nat.cast @Int @instNatCastInt (@List.length @UInt8 s0))) (@Int.decLt (@Go.IntKind.wrap @Go.IntKind.i64 (@HAdd.hAdd @Int @Int @Int (@instHAdd @Int @Int.instAdd) s2 (1 : @Int))) (@Nat.cast @Int @instNatCastInt (@List.length @UInt8 s0)))) @Bool.false) @Bool.true)) (@inb (@Go.IntKind.wrap @Go.IntKind.i64 (@HAdd.hAdd @Int @Int @Int (@instHAdd @Int @Int.instAdd) s2 (1 : @Int))) (@Nat.cast @Int @instNatCastInt (@List.length @UInt8 s0)))) (@cond (@Option R) (@cond (@Kd.T @Kd.bool) (@cond (@Kd.T @Kd.bool) (@BEq.beq @Int (@instBEqOfDecidableEq @Int @Int.instDecidableEq) s1 (39 : @Int)) (@Decidable.decide (@LT.lt @Int @Int.instLTInt (@Go.IntKind.wrap @Go.IntKind.i64 (@HAdd.hAdd @Int @Int @Int (@instHAdd @Int @Int.instAdd) s2 (1 : @Int))) (@Nat.cast @Int @instNatCastInt (@List.length @UInt8 s0))) (@Int.decLt (@Go.IntKind.wrap @Go.IntKind.i64 (@HAdd.hAdd @Int @Int @Int (@instHAdd @Int @Int.instAdd) s2 (1 : @Int))) (@Nat.cast @Int @instNatCastInt (@List.length @UInt8 s0)))) @Bool.false) (@BEq.beq @Int (@instBEqOfDecidableEq @Int @Int.instDecidableEq) (@Nat.cast @Int @instNatCastInt (@UInt8.toNat (@List.getD @UInt8 s0 (@Int.toNat (@Go.IntKind.wrap @Go.IntKind.i64 (@HAdd.hAdd @Int @Int @Int (@instHAdd @Int @Int.instAdd) s2 (1 : @Int)))) (0 : @UInt8)))) (39 : @Int)) @Bool.false) (E1003 s0 s1 (@Go.IntKind.wrap @Go.IntKind.i64 (@HAdd.hAdd @Int @Int @Int (@instHAdd @Int @Int.instAdd) (@Go.IntKind.wrap @Go.IntKind.i64 (@HAdd.hAdd @Int @Int @Int (@instHAdd @Int @Int.instAdd) s2 (1 : @Int))) (1 : @Int)))) (K (@Go.IntKind.wrap @Go.IntKind.i64 (@HAdd.hAdd @Int @Int @Int (@instHAdd @Int @Int.instAdd) s2 (1 : @Int))) @Bool.true)) (@Option.none R))) (@Option.none R))) (@Option.none R)) (K (0 : @Int) @Bool.false))
theorem B_ref10_quoted_1003_eq (k : Nat) {R : Type} (I : Nat → St → Option R) (s0 : (List UInt8)) (s1 : Int) (s2 : Int) (K : (Int → Bool → Option R)) : execK (cx_ref10_quoted k) k (at_ [1, 1, 0, 1, 0, 0] code_ref10_quoted) (st_ref10_quoted_1003 s0 s1 s2) (konts (cx_ref10_quoted k) k I [1, 1, 0, 1, 0, 0] code_ref10_quoted (outK (cx_ref10_quoted k) sp_ref10_quoted [.tmp 4, .tmp 5] (wrap_ref10_quoted K))) = B_ref10_quoted_1003 k (fun s0 s1 s2 => I 1003 (st_ref10_quoted_1003 s0 s1 s2)) s0 s1 s2 K := by kernel_rfl
noncomputable def A_ref10_quoted (k : Nat) {R : Type} (E1003 : ((List UInt8) → Int → Int → Option R)) (x0 : (List UInt8)) (x1 : Int) (K : (Int → Bool → Option R)) : Option R := (@cond (@Option R) (@inb x1 (@Nat.cast @Int @instNatCastInt (@List.length @UInt8 x0))) (E1003 x0 (@Nat.cast @Int @instNatCastInt (@UInt8.toNat (@List.getD @UInt8 x0 (@Int.toNat x1) (0 : @UInt8)))) (@Go.IntKind.wrap @Go.IntKind.i64 (@HAdd.hAdd @Int @Int @Int (@instHAdd @Int @Int.instAdd) x1 (1 : @Int)))) (@Option.none R))
theorem A_ref10_quoted_eq (k : Nat) {R : Type} (I : Nat → St → Option R) (x0 : (List UInt8)) (x1 : Int) (K : (Int → Bool → Option R)) : fnK (cx_ref10_quoted k) k code_ref10_quoted 54 [.tmp 4, .tmp 5] sp_ref10_quoted [.v .str x0, .v (.int .i64) x1] [] (wrap_ref10_quoted K) = A_ref10_quoted k (fun s0 s1 s2 => iter (cx_ref10_quoted k).pv (look (cx_ref10_quoted k).cuts 1003) (execK (cx_ref10_quoted k) k (at_ [1, 1, 0, 1, 0, 0] code_ref10_quoted)) k (st_ref10_quoted_1003 s0 s1 s2) (konts (cx_ref10_quoted k) k I [1, 1, 0, 1, 0] code_ref10_quoted (outK (cx_ref10_quoted k) sp_ref10_quoted [.tmp 4, .tmp 5] (wrap_ref10_quoted K)))) x0 x1 K := by kernel_rfl
noncomputable def L_ref10_quoted_1003 (k : Nat) {R : Type}  : Nat → (List UInt8) → Int → Int → (Int → Bool → Option R) → Option R
  | 0, _, _, _, _ => none
  | n + 1, s0, s1, s2, K => B_ref10_quoted_1003 k (fun s0 s1 s2 => L_ref10_quoted_1003 k  n s0 s1 s2 K) s0 s1 s2 K
theorem L_ref10_quoted_1003_eq (k : Nat) {R : Type} (I : Nat → St → Option R) (K : (Int → Bool → Option R)) : ∀ (n : Nat) (s0 : (List UInt8)) (s1 : Int) (s2 : Int), iter (cx_ref10_quoted k).pv (look (cx_ref10_quoted k).cuts 1003) (execK (cx_ref10_quoted k) k (at_ [1, 1, 0, 1, 0, 0] code_ref10_quoted)) n (st_ref10_quoted_1003 s0 s1 s2) (konts (cx_ref10_quoted k) k I [1, 1, 0, 1, 0] code_ref10_quoted (outK (cx_ref10_quoted k) sp_ref10_quoted [.tmp 4, .tmp 5] (wrap_ref10_quoted K))) = L_ref10_quoted_1003 k  n s0 s1 s2 K := by
  intro n
  induction n with
  | zero => intros; rfl
  | succ n ih =>
    intro s0 s1 s2
    let I' : Nat → St → Option R := fun id s => bif Nat.beq id 1003 then iter (cx_ref10_quoted k).pv (look (cx_ref10_quoted k).cuts 1003) (execK (cx_ref10_quoted k) k (at_ [1, 1, 0, 1, 0, 0] code_ref10_quoted)) n s (konts (cx_ref10_quoted k) k I [1, 1, 0, 1, 0] code_ref10_quoted (outK (cx_ref10_quoted k) sp_ref10_quoted [.tmp 4, .tmp 5] (wrap_ref10_quoted K))) else I id s
    have e := B_ref10_quoted_1003_eq k I' s0 s1 s2 K
    have h1003 : (fun s0 s1 s2 => I' 1003 (st_ref10_quoted_1003 s0 s1 s2)) = (fun s0 s1 s2 => L_ref10_quoted_1003 k  n s0 s1 s2 K) := by funext s0 s1 s2; exact ih s0 s1 s2
    refine Eq.trans (?_ : _ = _) (e.trans (Eq.trans ((congrArg ((fun E1003 => B_ref10_quoted_1003 k E1003 s0 s1 s2 K)) h1003)) (by rw [L_ref10_quoted_1003])))
    rfl
noncomputable def F_ref10_quoted (k : Nat) {R : Type} (x0 : (List UInt8)) (x1 : Int) (K : (Int → Bool → Option R)) : Option R := A_ref10_quoted k (fun s0 s1 s2 => L_ref10_quoted_1003 k k s0 s1 s2 K) x0 x1 K
theorem F_ref10_quoted_eq (k : Nat) {R : Type} (x0 : (List UInt8)) (x1 : Int) (K : (Int → Bool → Option R)) : fnK (cx_ref10_quoted k) k code_ref10_quoted 54 [.tmp 4, .tmp 5] sp_ref10_quoted [.v .str x0, .v (.int .i64) x1] [] (wrap_ref10_quoted K) = F_ref10_quoted k x0 x1 K := by
  let I : Nat → St → Option R := fun _ _ => none
  have h1003 : (fun s0 s1 s2 => iter (cx_ref10_quoted k).pv (look (cx_ref10_quoted k).cuts 1003) (execK (cx_ref10_quoted k) k (at_ [1, 1, 0, 1, 0, 0] code_ref10_quoted)) k (st_ref10_quoted_1003 s0 s1 s2) (konts (cx_ref10_quoted k) k I [1, 1, 0, 1, 0] code_ref10_quoted (outK (cx_ref10_quoted k) sp_ref10_quoted [.tmp 4, .tmp 5] (wrap_ref10_quoted K)))) = (fun s0 s1 s2 => L_ref10_quoted_1003 k k s0 s1 s2 K) := by funext s0 s1 s2; exact L_ref10_quoted_1003_eq k I K k s0 s1 s2
  exact (A_ref10_quoted_eq k I x0 x1 K).trans (congrArg ((fun E1003 => A_ref10_quoted k E1003 x0 x1 K)) h1003)
noncomputable def run_ref10_quoted (k : Nat) {R : Type} : List PV → List (Nm × HObj) → (Out → Option R) → Option R
  | [.v .str x0, .v (.int .i64) x1], [], K => F_ref10_quoted k x0 x1 (fun y0 y1 => K (.ret [.v (.int .i64) y0, .v .bool y1] []))
  | _, _, _ => none
theorem C_ref10_quoted_ok (k : Nat) : (C_ref10_quoted k).Ok Tryd.prog := by
  intro f ps hp R K r h
  unfold C_ref10_quoted at h
  simp only at h
  cases h
theorem D_ref10_quoted (k : Nat) {ps : List PV} {hp : List (Nm × HObj)} {R : Type} {K : Out → Option R} {r : R} (h : run_ref10_quoted k ps hp K = some r) : DoesTo Tryd.prog 15 ps hp fun out => K out = some r := by
  unfold run_ref10_quoted at h
  split at h
  · rw [← F_ref10_quoted_eq] at h
    have := fn_ok (P := Tryd.prog) (cx := cx_ref10_quoted k) (f := 15) ⟨tyT_ok, C_ref10_quoted_ok k⟩ (by kernel_rfl) (fn := Tryd.f15) (c := code_ref10_quoted) (by kernel_rfl) (by kernel_rfl) (by kernel_rfl) (rs := [.tmp 4, .tmp 5]) (by kernel_rfl) (by kernel_rfl) h
    exact this.mono fun out ho => by
      unfold wrap_ref10_quoted at ho
      split at ho <;> first | exact ho | cases ho
  · cases h
end Go.Proofs.YtdbnlohjjoigeaaDoor.Pvm

set_option linter.unusedVariables false
set_option linter.unusedSimpArgs false
namespace Go.Proofs.YtdbnlohjjoigeaaDoor.Pvm
open Go
/-- the place of a quoted text's last sign -/
def qS (c : UInt8) : List UInt8 → Nat → Option Nat
  | [], _ => none
  | [x], i => bif c == 34 && x == 92 then none else bif !(x == c) then none else some i
  | x :: y :: r, i => bif c == 34 && x == 92 then qS c r (i + 2) else bif !(x == c) then qS c (y :: r) (i + 1) else bif c == 39 && y == c then qS c r (i + 2) else some i
def qK {R : Type} (K : Int → Bool → Option R) (d : Int) : Option Nat → Option R
  | some j => K (j + d) true
  | none => K 0 false
theorem beq34 (c : UInt8) : ((c.toNat : Int) == 34) = (c == 34) := u8_beq c 34 (by omega)
theorem beq39 (c : UInt8) : ((c.toNat : Int) == 39) = (c == 39) := u8_beq c 39 (by omega)
theorem beq92 (c : UInt8) : ((c.toNat : Int) == 92) = (c == 92) := u8_beq c 92 (by omega)
theorem beq35 (c : UInt8) : ((c.toNat : Int) == 35) = (c == 35) := u8_beq c 35 (by omega)
theorem beq32 (c : UInt8) : ((c.toNat : Int) == 32) = (c == 32) := u8_beq c 32 (by omega)
theorem bne32 (c : UInt8) : ((c.toNat : Int) != 32) = !(c == 32) := u8_bne c 32 (by omega)
theorem qS_bound (c : UInt8) : ∀ (r : List UInt8) (i j : Nat), qS c r i = some j → i ≤ j ∧ j < i + r.length
  | [], i, j, h => by cases h
  | [x], i, j, h => by
    unfold qS at h
    cases h1 : (c == 34 && x == 92) <;> rw [h1] at h <;> simp only [cond_true, cond_false] at h
    · cases h2 : (x == c) <;> rw [h2] at h <;> simp at h
      simp; omega
    · cases h
  | x :: y :: r, i, j, h => by
    unfold qS at h
    cases h1 : (c == 34 && x == 92) <;> rw [h1] at h <;> simp only [cond_true, cond_false] at h
    · cases h2 : (x == c) <;> rw [h2] at h <;> simp only [Bool.not_true, Bool.not_false, cond_true, cond_false] at h
      · have := qS_bound c (y :: r) _ _ h
        simp at this ⊢; omega
      · cases h3 : (c == 39 && y == c) <;> rw [h3] at h <;> simp only [cond_true, cond_false] at h
        · cases h; simp
        · have := qS_bound c r _ _ h
          simp at this ⊢; omega
    · have := qS_bound c r _ _ h
      simp at this ⊢; omega
theorem line_quoted_loop (k : Nat) {R : Type} (s : List UInt8) (c : UInt8) (hs : s.length ≤ 1000000) (K : Int → Bool → Option R) : ∀ (n : Nat) (r : List UInt8) (i : Nat), s.drop i = r → i ≤ s.length + 1 → r.length < n →
    L_line_quoted_1003 k n s (c.toNat : Int) (i : Int) K = qK K 0 (qS c r i) := by
  intro n
  induction n with
  | zero => intro r i _ _ h; omega
  | succ n ih =>
    intro r i hr hi hn
    rw [L_line_quoted_1003]
    unfold B_line_quoted_1003
    match r, hr, hn with
    | [], hr, hn =>
      have := drop_nil hr
      simp (disch := omega) only [dec_t, dec_f, ieq_t, ieq_f, ine_t, ine_f, inb_t, bnd_t, wrap_id, wrap8_id, cond_true, cond_false, Bool.not_true, Bool.not_false, Bool.true_or, Bool.or_true, Bool.false_or, Bool.or_false, Bool.true_and, Bool.and_true, Bool.false_and, Bool.and_false, bool_eq_true', bool_eq_false', toNat_cast', qS, qK]
    | [x], hr, hn =>
      obtain ⟨h1, h2, h3⟩ := drop_cons' hr
      have h4 := drop_nil h3
      simp (disch := omega) only [dec_t, dec_f, ieq_t, ieq_f, ine_t, ine_f, inb_t, bnd_t, wrap_id, wrap8_id, cond_true, cond_false, Bool.not_true, Bool.not_false, Bool.true_or, Bool.or_true, Bool.false_or, Bool.or_false, Bool.true_and, Bool.and_true, Bool.false_and, Bool.and_false, bool_eq_true', bool_eq_false', toNat_cast', h2, beq34, beq92, beq39, u8_other]
      have e1 := ih [] (i + 1) h3 (by omega) (by simp at hn ⊢; omega)
      have e2 := ih [] (i + 2) (by rw [List.drop_eq_nil_of_le (by omega)]) (by omega) (by simp at hn ⊢; omega)
      have c1 : ((i : Int) + 1) = ((i + 1 : Nat) : Int) := by omega
      have c2 : ((i : Int) + 1 + 1) = ((i + 2 : Nat) : Int) := by omega
      rw [c2, c1, e1, e2]
      unfold qS
      have h5 : decide (((i + 1 : Nat) : Int) < (s.length : Int)) = false := dec_f (by omega)
      cases h6 : (c == 34) <;> cases h7 : (x == 92) <;> cases h8 : (x == c) <;> cases h9 : (c == 39) <;> simp [h5, qS, qK]
    | x :: y :: r, hr, hn =>
      obtain ⟨h1, h2, h3⟩ := drop_cons' hr
      obtain ⟨g1, g2, g3⟩ := drop_cons' h3
      simp (disch := omega) only [dec_t, dec_f, ieq_t, ieq_f, ine_t, ine_f, inb_t, bnd_t, wrap_id, wrap8_id, cond_true, cond_false, Bool.not_true, Bool.not_false, Bool.true_or, Bool.or_true, Bool.false_or, Bool.or_false, Bool.true_and, Bool.and_true, Bool.false_and, Bool.and_false, bool_eq_true', bool_eq_false', toNat_cast', h2, beq34, beq92, beq39, u8_other]
      have e1 := ih (y :: r) (i + 1) h3 (by omega) (by simp at hn ⊢; omega)
      have e2 := ih r (i + 2) g3 (by omega) (by simp at hn ⊢; omega)
      have c1 : ((i : Int) + 1) = ((i + 1 : Nat) : Int) := by omega
      have c2 : ((i : Int) + 1 + 1) = ((i + 2 : Nat) : Int) := by omega
      rw [c2, c1, e1, e2, toNat_cast', g2, u8_same]
      rw [qS]
      cases h6 : (c == 34) <;> cases h7 : (x == 92) <;> cases h8 : (x == c) <;> cases h9 : (c == 39) <;> cases h10 : (y == c) <;> simp [qK]
theorem ref10_quoted_loop (k : Nat) {R : Type} (s : List UInt8) (c : UInt8) (hs : s.length ≤ 1000000) (K : Int → Bool → Option R) : ∀ (n : Nat) (r : List UInt8) (i : Nat), s.drop i = r → i ≤ s.length + 1 → r.length < n →
    L_ref10_quoted_1003 k n s (c.toNat : Int) (i : Int) K = qK K 1 (qS c r i) := by
  intro n
  induction n with
  | zero => intro r i _ _ h; omega
  | succ n ih =>
    intro r i hr hi hn
    rw [L_ref10_quoted_1003]
    unfold B_ref10_quoted_1003
    match r, hr, hn with
    | [], hr, hn =>
      have := drop_nil hr
      simp (disch := omega) only [dec_t, dec_f, ieq_t, ieq_f, ine_t, ine_f, inb_t, bnd_t, wrap_id, wrap8_id, cond_true, cond_false, Bool.not_true, Bool.not_false, Bool.true_or, Bool.or_true, Bool.false_or, Bool.or_false, Bool.true_and, Bool.and_true, Bool.false_and, Bool.and_false, bool_eq_true', bool_eq_false', toNat_cast', qS, qK]
    | [x], hr, hn =>
      obtain ⟨h1, h2, h3⟩ := drop_cons' hr
      have h4 := drop_nil h3
      simp (disch := omega) only [dec_t, dec_f, ieq_t, ieq_f, ine_t, ine_f, inb_t, bnd_t, wrap_id, wrap8_id, cond_true, cond_false, Bool.not_true, Bool.not_false, Bool.true_or, Bool.or_true, Bool.false_or, Bool.or_false, Bool.true_and, Bool.and_true, Bool.false_and, Bool.and_false, bool_eq_true', bool_eq_false', toNat_cast', h2, beq34, beq92, beq39, u8_other]
      have e1 := ih [] (i + 1) h3 (by omega) (by simp at hn ⊢; omega)
      have e2 := ih [] (i + 2) (by rw [List.drop_eq_nil_of_le (by omega)]) (by omega) (by simp at hn ⊢; omega)
      have c1 : ((i : Int) + 1) = ((i + 1 : Nat) : Int) := by omega
      have c2 : ((i : Int) + 1 + 1) = ((i + 2 : Nat) : Int) := by omega
      rw [c2, c1, e1, e2]
      unfold qS
      have h5 : decide (((i + 1 : Nat) : Int) < (s.length : Int)) = false := dec_f (by omega)
      cases h6 : (c == 34) <;> cases h7 : (x == 92) <;> cases h8 : (x == c) <;> cases h9 : (c == 39) <;> simp [h5, qS, qK]
    | x :: y :: r, hr, hn =>
      obtain ⟨h1, h2, h3⟩ := drop_cons' hr
      obtain ⟨g1, g2, g3⟩ := drop_cons' h3
      simp (disch := omega) only [dec_t, dec_f, ieq_t, ieq_f, ine_t, ine_f, inb_t, bnd_t, wrap_id, wrap8_id, cond_true, cond_false, Bool.not_true, Bool.not_false, Bool.true_or, Bool.or_true, Bool.false_or, Bool.or_false, Bool.true_and, Bool.and_true, Bool.false_and, Bool.and_false, bool_eq_true', bool_eq_false', toNat_cast', h2, beq34, beq92, beq39, u8_other]
      have e1 := ih (y :: r) (i + 1) h3 (by omega) (by simp at hn ⊢; omega)
      have e2 := ih r (i + 2) g3 (by omega) (by simp at hn ⊢; omega)
      have c1 : ((i : Int) + 1) = ((i + 1 : Nat) : Int) := by omega
      have c2 : ((i : Int) + 1 + 1) = ((i + 2 : Nat) : Int) := by omega
      rw [c2, c1, e1, e2, toNat_cast', g2]
      rw [qS]
      cases h9 : (c == 39) with
      | false => cases h6 : (c == 34) <;> cases h7 : (x == 92) <;> cases h8 : (x == c) <;> simp [qK]
      | true =>
        have := beq_iff_eq.1 h9
        subst this
        cases h7 : (x == 92) <;> cases h8 : (x == 39) <;> cases h10 : (y == 39) <;> simp [qK]
/-- a quoted text's last sign, from where it begins -/
def qAt (s : List UInt8) (i : Nat) : Option Nat := qS (s.getD i 0) (s.drop (i + 1)) (i + 1)
theorem line_quoted_eq (k : Nat) {R : Type} (s : List UInt8) (i : Nat) (hs : s.length ≤ 1000000) (hi : i < s.length) (hk : s.length < k) (K : Int → Bool → Option R) : F_line_quoted k s i K = qK K 0 (qAt s i) := by
  unfold F_line_quoted A_line_quoted
  simp (disch := omega) only [dec_t, dec_f, ieq_t, ieq_f, ine_t, ine_f, inb_t, bnd_t, wrap_id, wrap8_id, cond_true, cond_false, Bool.not_true, Bool.not_false, Bool.true_or, Bool.or_true, Bool.false_or, Bool.or_false, Bool.true_and, Bool.and_true, Bool.false_and, Bool.and_false, bool_eq_true', bool_eq_false', toNat_cast']
  rw [cast_succ, line_quoted_loop k s _ hs K k _ (i + 1) rfl (by omega) (by rw [List.length_drop]; omega)]
  rfl
theorem ref10_quoted_eq (k : Nat) {R : Type} (s : List UInt8) (i : Nat) (hs : s.length ≤ 1000000) (hi : i < s.length) (hk : s.length < k) (K : Int → Bool → Option R) : F_ref10_quoted k s i K = qK K 1 (qAt s i) := by
  unfold F_ref10_quoted A_ref10_quoted
  simp (disch := omega) only [dec_t, dec_f, ieq_t, ieq_f, ine_t, ine_f, inb_t, bnd_t, wrap_id, wrap8_id, cond_true, cond_false, Bool.not_true, Bool.not_false, Bool.true_or, Bool.or_true, Bool.false_or, Bool.or_false, Bool.true_and, Bool.and_true, Bool.false_and, Bool.and_false, bool_eq_true', bool_eq_false', toNat_cast']
  rw [cast_succ, ref10_quoted_loop k s _ hs K k _ (i + 1) rfl (by omega) (by rw [List.length_drop]; omega)]
  rfl
theorem qAt_bound {s : List UInt8} {i j : Nat} (h : qAt s i = some j) : i < j ∧ j < s.length := by
  have := qS_bound _ _ _ _ h
  rw [List.length_drop] at this
  omega
end Go.Proofs.YtdbnlohjjoigeaaDoor.Pvm

set_option maxRecDepth 1000000
set_option maxHeartbeats 0
set_option linter.unusedVariables false
namespace Go.Proofs.YtdbnlohjjoigeaaDoor.Pvm
open Go Go.Proofs
def sig_ref10_Strip : List LS := [.any]
noncomputable def C_ref10_Strip (k : Nat) : CTab := ⟨fun f => bif Nat.beq f 15 then sig_ref10_quoted else [], fun f {_} ps hp K => bif Nat.beq f 15 then run_ref10_quoted k ps hp K else none⟩
def wrap_ref10_Strip {R : Type} (K : ((List UInt8) → Bool → Option R)) : Out → Option R
  | .ret [.v .str y0, .v .bool y1] [] => K y0 y1
  | _ => none
def sp_ref10_Strip : RetSpec := ⟨[.any, .any], [], []⟩
def cuts_ref10_Strip : List (Nat × CutSpec) := [(1003, ⟨[(0, .any), (4, .any), (5, .any)], []⟩), (1013, ⟨[(0, .any), (4, .any)], []⟩)]
def plans_ref10_Strip : List (Nat × Plan) := []
noncomputable def cx_ref10_Strip (k : Nat) : Ctx := ⟨tyT, cuts_ref10_Strip, C_ref10_Strip k, [], [], plans_ref10_Strip⟩
noncomputable def code_ref10_Strip : Code := Tryd.f9.body.getD .skip
def st_ref10_Strip_1003 (s0 : (List UInt8)) (s1 : Int) (s2 : Int) : St := ⟨mkT [(0, .v .str s0), (4, .v (.int .i64) s1), (5, .v (.int .i64) s2)], mkH []⟩
def st_ref10_Strip_1013 (s0 : (List UInt8)) (s1 : Int) : St := ⟨mkT [(0, .v .str s0), (4, .v (.int .i64) s1)], mkH []⟩
noncomputable def B_ref10_Strip_1003 (k : Nat) {R : Type} (E1003 : ((List UInt8) → Int → Int → Option R)) (E1013 : ((List UInt8) → Int → Option R)) (s0 : (List UInt8)) (s1 : Int) (s2 : Int) (K : ((List UInt8) → Bool → Option R)) : Option R := (@cond (@Option R) (@Decidable.decide (@LT.lt @Int @Int.instLTInt s2 s1) (@Int.decLt s2 s1)) (@cond (@Option R) (@Bool.or (@Bool.not (@BEq.beq (@Kd.T @Kd.bool) (@instBEqOfDecidableEq (@Kd.T @Kd.bool) @instDecidableEqBool) (@BEq.beq @Int (@instBEqOfDecidableEq @Int @Int.instDecidableEq) s2 (0 : @Int)) @Bool.false)) (@inb (@Go.IntKind.wrap @Go.IntKind.i64 (@HSub.hSub @Int @Int @Int (@instHSub @Int @Int.instSub) s2 (1 : @Int))) (@Nat.cast @Int @instNatCastInt (@List.length @UInt8 s0)))) (@cond (@Option R) (@Bool.or (@Bool.not (@BEq.beq (@Kd.T @Kd.bool) (@instBEqOfDecidableEq (@Kd.T @Kd.bool) @instDecidableEqBool) (@cond (@Kd.T @Kd.bool) (@BEq.beq @Int (@instBEqOfDecidableEq @Int @Int.instDecidableEq) s2 (0 : @Int)) @Bool.true (@BEq.beq @Int (@instBEqOfDecidableEq @Int @Int.instDecidableEq) (@Nat.cast @Int @instNatCastInt (@UInt8.toNat (@List.getD @UInt8 s0 (@Int.toNat (@Go.IntKind.wrap @Go.IntKind.i64 (@HSub.hSub @Int @Int @Int (@instHSub @Int @Int.instSub) s2 (1 : @Int)))) (0 : @UInt8)))) (32 : @Int))) @Bool.true)) (@inb s2 (@Nat.cast @Int @instNatCastInt (@List.length @UInt8 s0)))) (@cond (@Option R) (@cond (@Kd.T @Kd.bool) (@cond (@Kd.T @Kd.bool) (@BEq.beq @Int (@instBEqOfDecidableEq @Int @Int.instDecidableEq) s2 (0 : @Int)) @Bool.true (@BEq.beq @Int (@instBEqOfDecidableEq @Int @Int.instDecidableEq) (@Nat.cast @Int @instNatCastInt (@UInt8.toNat (@List.getD @UInt8 s0 (@Int.toNat (@Go.IntKind.wrap @Go.IntKind.i64 (@HSub.hSub @Int @Int @Int (@instHSub @Int @Int.instSub) s2 (1 : @Int)))) (0 : @UInt8)))) (32 : @Int))) (@BEq.beq @Int (@instBEqOfDecidableEq @Int @Int.instDecidableEq) (@Nat.cast @Int @instNatCastInt (@UInt8.toNat (@List.getD @UInt8 s0 (@Int.toNat s2) (0 : @UInt8)))) (35 : @Int)) @Bool.false) (E1003 s0 s2 s2) (@cond (@Option R) (@Bool.or (@Bool.not (@BEq.beq (@Kd.T @Kd.bool) (@instBEqOfDecidableEq (@Kd.T @Kd.bool) @instDecidableEqBool) (@cond (@Kd.T @Kd.bool) (@BEq.beq @Int (@instBEqOfDecidableEq @Int @Int.instDecidableEq) s2 (0 : @Int)) @Bool.true (@BEq.beq @Int (@instBEqOfDecidableEq @Int @Int.instDecidableEq) (@Nat.cast @Int @instNatCastInt (@UInt8.toNat (@List.getD @UInt8 s0 (@Int.toNat (@Go.IntKind.wrap @Go.IntKind.i64 (@HSub.hSub @Int @Int @Int (@instHSub @Int @Int.instSub) s2 (1 : @Int)))) (0 : @UInt8)))) (32 : @Int))) @Bool.true)) (@inb s2 (@Nat.cast @Int @instNatCastInt (@List.length @UInt8 s0)))) (@cond (@Option R) (@Bool.or (@Bool.not (@Bool.and (@BEq.beq (@Kd.T @Kd.bool) (@instBEqOfDecidableEq (@Kd.T @Kd.bool) @instDecidableEqBool) (@cond (@Kd.T @Kd.bool) (@BEq.beq @Int (@instBEqOfDecidableEq @Int @Int.instDecidableEq) s2 (0 : @Int)) @Bool.true (@BEq.beq @Int (@instBEqOfDecidableEq @Int @Int.instDecidableEq) (@Nat.cast @Int @instNatCastInt (@UInt8.toNat (@List.getD @UInt8 s0 (@Int.toNat (@Go.IntKind.wrap @Go.IntKind.i64 (@HSub.hSub @Int @Int @Int (@instHSub @Int @Int.instSub) s2 (1 : @Int)))) (0 : @UInt8)))) (32 : @Int))) @Bool.true) (@BEq.beq (@Kd.T @Kd.bool) (@instBEqOfDecidableEq (@Kd.T @Kd.bool) @instDecidableEqBool) (@BEq.beq @Int (@instBEqOfDecidableEq @Int @Int.instDecidableEq) (@Nat.cast @Int @instNatCastInt (@UInt8.toNat (@List.getD @UInt8 s0 (@Int.toNat s2) (0 : @UInt8)))) (39 : @Int)) @Bool.false))) (@inb s2 (@Nat.cast @Int @instNatCastInt (@List.length @UInt8 s0)))) (@cond (@Option R) (@cond (@Kd.T @Kd.bool) (@cond (@Kd.T @Kd.bool) (@BEq.beq @Int (@instBEqOfDecidableEq @Int @Int.instDecidableEq) s2 (0 : @Int)) @Bool.true (@BEq.beq @Int (@instBEqOfDecidableEq @Int @Int.instDecidableEq) (@Nat.cast @Int @instNatCastInt (@UInt8.toNat (@List.getD @UInt8 s0 (@Int.toNat (@Go.IntKind.wrap @Go.IntKind.i64 (@HSub.hSub @Int @Int @Int (@instHSub @Int @Int.instSub) s2 (1 : @Int)))) (0 : @UInt8)))) (32 : @Int))) (@cond (@Kd.T @Kd.bool) (@BEq.beq @Int (@instBEqOfDecidableEq @Int @Int.instDecidableEq) (@Nat.cast @Int @instNatCastInt (@UInt8.toNat (@List.getD @UInt8 s0 (@Int.toNat s2) (0 : @UInt8)))) (39 : @Int)) @Bool.true (@BEq.beq @Int (@instBEqOfDecidableEq @Int @Int.instDecidableEq) (@Nat.cast @Int @instNatCastInt (@UInt8.toNat (@List.getD @UInt8 s0 (@Int.toNat s2) (0 : @UInt8)))) (34 : @Int))) @Bool.false) (@F_ref10_quoted k R s0 s2 (fun (y8 : @Int) => (fun (y9 : @Bool) => (@cond (@Option R) (@Bool.not y9) (K (@List.nil @UInt8) @Bool.false) (E1003 s0 s1 y8))))) (E1003 s0 s1 (@Go.IntKind.wrap @Go.IntKind.i64 (@HAdd.hAdd @Int @Int @Int (@instHAdd @Int @Int.instAdd) s2 (1 : @Int))))) (@Option.none R)) (@Option.none R))) (@Option.none R)) (@Option.none R)) (E1013 s0 s1))
theorem B_ref10_Strip_1003_eq (k : Nat) {R : Type} (I : Nat → St → Option R) (s0 : (List UInt8)) (s1 : Int) (s2 : Int) (K : ((List UInt8) → Bool → Option R)) : execK (cx_ref10_Strip k) k (at_ [1, 1, 0, 1, 0, 0] code_ref10_Strip) (st_ref10_Strip_1003 s0 s1 s2) (konts (cx_ref10_Strip k) k I [1, 1, 0, 1, 0, 0] code_ref10_Strip (outK (cx_ref10_Strip k) sp_ref10_Strip [.tmp 2, .tmp 3] (wrap_ref10_Strip K))) = B_ref10_Strip_1003 k (fun s0 s1 s2 => I 1003 (st_ref10_Strip_1003 s0 s1 s2)) (fun s0 s1 => iter (cx_ref10_Strip k).pv (look (cx_ref10_Strip k).cuts 1013) (execK (cx_ref10_Strip k) k (at_ [1, 1, 1, 0, 0, 0] code_ref10_Strip)) k (st_ref10_Strip_1013 s0 s1) (konts (cx_ref10_Strip k) k I [1, 1, 1, 0, 0] code_ref10_Strip (outK (cx_ref10_Strip k) sp_ref10_Strip [.tmp 2, .tmp 3] (wrap_ref10_Strip K)))) s0 s1 s2 K := by kernel_rfl
noncomputable def B_ref10_Strip_1013 (k : Nat) {R : Type} (E1013 : ((List UInt8) → Int → Option R)) (s0 : (List UInt8)) (s1 : Int) (K : ((List UInt8) → Bool → Option R)) : Option R := (@cond (@Option R) (@Bool.or (@Bool.not (@BEq.beq (@Kd.T @Kd.bool) (@instBEqOfDecidableEq (@Kd.T @Kd.bool) @instDecidableEqBool) (@Decidable.decide (@GT.gt @Int @Int.instLTInt s1 (0 : @Int)) (@Int.decLt (0 : @Int) s1)) @Bool.true)) (@inb (@Go.IntKind.wrap @Go.IntKind.i64 (@HSub.hSub @Int @Int @Int (@instHSub @Int @Int.instSub) s1 (1 : @Int))) (@Nat.cast @Int @instNatCastInt (@List.length @UInt8 s0)))) (@cond (@Option R) (@cond (@Kd.T @Kd.bool) (@Decidable.decide (@GT.gt @Int @Int.instLTInt s1 (0 : @Int)) (@Int.decLt (0 : @Int) s1)) (@BEq.beq @Int (@instBEqOfDecidableEq @Int @Int.instDecidableEq) (@Nat.cast @Int @instNatCastInt (@UInt8.toNat (@List.getD @UInt8 s0 (@Int.toNat (@Go.IntKind.wrap @Go.IntKind.i64 (@HSub.hSub @Int @Int @Int (@instHSub @Int @Int.instSub) s1 (1 : @Int)))) (0 : @UInt8)))) (32 : @Int)) @Bool.false) (E1013 s0 (@Go.IntKind.wrap @Go.IntKind.i64 (@HSub.hSub @Int @Int @Int (@instHSub @Int @Int.instSub) s1 (1 : @Int)))) (@cond (@Option R) (@bnd (0 : @Int) s1 (@Nat.cast @Int @instNatCastInt (@List.length @UInt8 s0))) (K (@cut @UInt8 s0 (0 : @Int) s1) @Bool.true) (@Option.none R))) (@Option.none R))
theorem B_ref10_Strip_1013_eq (k : Nat) {R : Type} (I : Nat → St → Option R) (s0 : (List UInt8)) (s1 : Int) (K : ((List UInt8) → Bool → Option R)) : execK (cx_ref10_Strip k) k (at_ [1, 1, 1, 0, 0, 0] code_ref10_Strip) (st_ref10_Strip_1013 s0 s1) (konts (cx_ref10_Strip k) k I [1, 1, 1, 0, 0, 0] code_ref10_Strip (outK (cx_ref10_Strip k) sp_ref10_Strip [.tmp 2, .tmp 3] (wrap_ref10_Strip K))) = B_ref10_Strip_1013 k (fun s0 s1 => I 1013 (st_ref10_Strip_1013 s0 s1)) s0 s1 K := by kernel_rfl
noncomputable def A_ref10_Strip (k : Nat) {R : Type} (E1003 : ((List UInt8) → Int → Int → Option R)) (x0 : (List UInt8)) (K : ((List UInt8) → Bool → Option R)) : Option R := (E1003 x0 (@Nat.cast @Int @instNatCastInt (@List.length @UInt8 x0)) (0 : @Int))
theorem A_ref10_Strip_eq (k : Nat) {R : Type} (I : Nat → St → Option R) (x0 : (List UInt8)) (K : ((List UInt8) → Bool → Option R)) : fnK (cx_ref10_Strip k) k code_ref10_Strip 69 [.tmp 2, .tmp 3] sp_ref10_Strip [.v .str x0] [] (wrap_ref10_Strip K) = A_ref10_Strip k (fun s0 s1 s2 => iter (cx_ref10_Strip k).pv (look (cx_ref10_Strip k).cuts 1003) (execK (cx_ref10_Strip k) k (at_ [1, 1, 0, 1, 0, 0] code_ref10_Strip)) k (st_ref10_Strip_1003 s0 s1 s2) (konts (cx_ref10_Strip k) k I [1, 1, 0, 1, 0] code_ref10_Strip (outK (cx_ref10_Strip k) sp_ref10_Strip [.tmp 2, .tmp 3] (wrap_ref10_Strip K)))) x0 K := by kernel_rfl
noncomputable def L_ref10_Strip_1013 (k : Nat) {R : Type}  : Nat → (List UInt8) → Int → ((List UInt8) → Bool → Option R) → Option R
  | 0, _, _, _ => none
  | n + 1, s0, s1, K => B_ref10_Strip_1013 k (fun s0 s1 => L_ref10_Strip_1013 k  n s0 s1 K) s0 s1 K
theorem L_ref10_Strip_1013_eq (k : Nat) {R : Type} (I : Nat → St → Option R) (K : ((List UInt8) → Bool → Option R)) : ∀ (n : Nat) (s0 : (List UInt8)) (s1 : Int), iter (cx_ref10_Strip k).pv (look (cx_ref10_Strip k).cuts 1013) (execK (cx_ref10_Strip k) k (at_ [1, 1, 1, 0, 0, 0] code_ref10_Strip)) n (st_ref10_Strip_1013 s0 s1) (konts (cx_ref10_Strip k) k I [1, 1, 1, 0, 0] code_ref10_Strip (outK (cx_ref10_Strip k) sp_ref10_Strip [.tmp 2, .tmp 3] (wrap_ref10_Strip K))) = L_ref10_Strip_1013 k  n s0 s1 K := by
  intro n
  induction n with
  | zero => intros; rfl
  | succ n ih =>
    intro s0 s1
    let I' : Nat → St → Option R := fun id s => bif Nat.beq id 1013 then iter (cx_ref10_Strip k).pv (look (cx_ref10_Strip k).cuts 1013) (execK (cx_ref10_Strip k) k (at_ [1, 1, 1, 0, 0, 0] code_ref10_Strip)) n s (konts (cx_ref10_Strip k) k I [1, 1, 1, 0, 0] code_ref10_Strip (outK (cx_ref10_Strip k) sp_ref10_Strip [.tmp 2, .tmp 3] (wrap_ref10_Strip K))) else I id s
    have e := B_ref10_Strip_1013_eq k I' s0 s1 K
    have h1013 : (fun s0 s1 => I' 1013 (st_ref10_Strip_1013 s0 s1)) = (fun s0 s1 => L_ref10_Strip_1013 k  n s0 s1 K) := by funext s0 s1; exact ih s0 s1
    refine Eq.trans (?_ : _ = _) (e.trans (Eq.trans ((congrArg ((fun E1013 => B_ref10_Strip_1013 k E1013 s0 s1 K)) h1013)) (by rw [L_ref10_Strip_1013])))
    rfl
noncomputable def L_ref10_Strip_1003 (k : Nat) {R : Type}  : Nat → (List UInt8) → Int → Int → ((List UInt8) → Bool → Option R) → Option R
  | 0, _, _, _, _ => none
  | n + 1, s0, s1, s2, K => B_ref10_Strip_1003 k (fun s0 s1 s2 => L_ref10_Strip_1003 k  n s0 s1 s2 K) (fun s0 s1 => L_ref10_Strip_1013 k  k s0 s1 K) s0 s1 s2 K
theorem L_ref10_Strip_1003_eq (k : Nat) {R : Type} (I : Nat → St → Option R) (K : ((List UInt8) → Bool → Option R)) : ∀ (n : Nat) (s0 : (List UInt8)) (s1 : Int) (s2 : Int), iter (cx_ref10_Strip k).pv (look (cx_ref10_Strip k).cuts 1003) (execK (cx_ref10_Strip k) k (at_ [1, 1, 0, 1, 0, 0] code_ref10_Strip)) n (st_ref10_Strip_1003 s0 s1 s2) (konts (cx_ref10_Strip k) k I [1, 1, 0, 1, 0] code_ref10_Strip (outK (cx_ref10_Strip k) sp_ref10_Strip [.tmp 2, .tmp 3] (wrap_ref10_Strip K))) = L_ref10_Strip_1003 k  n s0 s1 s2 K := by
  intro n
  induction n with
  | zero => intros; rfl
  | succ n ih =>
    intro s0 s1 s2
    let I' : Nat → St → Option R := fun id s => bif Nat.beq id 1003 then iter (cx_ref10_Strip k).pv (look (cx_ref10_Strip k).cuts 1003) (execK (cx_ref10_Strip k) k (at_ [1, 1, 0, 1, 0, 0] code_ref10_Strip)) n s (konts (cx_ref10_Strip k) k I [1, 1, 0, 1, 0] code_ref10_Strip (outK (cx_ref10_Strip k) sp_ref10_Strip [.tmp 2, .tmp 3] (wrap_ref10_Strip K))) else I id s
    have e := B_ref10_Strip_1003_eq k I' s0 s1 s2 K
    have h1003 : (fun s0 s1 s2 => I' 1003 (st_ref10_Strip_1003 s0 s1 s2)) = (fun s0 s1 s2 => L_ref10_Strip_1003 k  n s0 s1 s2 K) := by funext s0 s1 s2; exact ih s0 s1 s2
    have h1013 : (fun s0 s1 => iter (cx_ref10_Strip k).pv (look (cx_ref10_Strip k).cuts 1013) (execK (cx_ref10_Strip k) k (at_ [1, 1, 1, 0, 0, 0] code_ref10_Strip)) k (st_ref10_Strip_1013 s0 s1) (konts (cx_ref10_Strip k) k I' [1, 1, 1, 0, 0] code_ref10_Strip (outK (cx_ref10_Strip k) sp_ref10_Strip [.tmp 2, .tmp 3] (wrap_ref10_Strip K)))) = (fun s0 s1 => L_ref10_Strip_1013 k  k s0 s1 K) := by funext s0 s1; exact (L_ref10_Strip_1013_eq k I' K k s0 s1)
    refine Eq.trans (?_ : _ = _) (e.trans (Eq.trans ((Eq.trans (congrFun (congrArg ((fun E1003 E1013 => B_ref10_Strip_1003 k E1003 E1013 s0 s1 s2 K)) h1003) _) (congrArg ((fun E1003 E1013 => B_ref10_Strip_1003 k E1003 E1013 s0 s1 s2 K) (fun s0 s1 s2 => L_ref10_Strip_1003 k  n s0 s1 s2 K)) h1013))) (by rw [L_ref10_Strip_1003])))
    rfl
noncomputable def F_ref10_Strip (k : Nat) {R : Type} (x0 : (List UInt8)) (K : ((List UInt8) → Bool → Option R)) : Option R := A_ref10_Strip k (fun s0 s1 s2 => L_ref10_Strip_1003 k k s0 s1 s2 K) x0 K
theorem F_ref10_Strip_eq (k : Nat) {R : Type} (x0 : (List UInt8)) (K : ((List UInt8) → Bool → Option R)) : fnK (cx_ref10_Strip k) k code_ref10_Strip 69 [.tmp 2, .tmp 3] sp_ref10_Strip [.v .str x0] [] (wrap_ref10_Strip K) = F_ref10_Strip k x0 K := by
  let I : Nat → St → Option R := fun _ _ => none
  have h1003 : (fun s0 s1 s2 => iter (cx_ref10_Strip k).pv (look (cx_ref10_Strip k).cuts 1003) (execK (cx_ref10_Strip k) k (at_ [1, 1, 0, 1, 0, 0] code_ref10_Strip)) k (st_ref10_Strip_1003 s0 s1 s2) (konts (cx_ref10_Strip k) k I [1, 1, 0, 1, 0] code_ref10_Strip (outK (cx_ref10_Strip k) sp_ref10_Strip [.tmp 2, .tmp 3] (wrap_ref10_Strip K)))) = (fun s0 s1 s2 => L_ref10_Strip_1003 k k s0 s1 s2 K) := by funext s0 s1 s2; exact L_ref10_Strip_1003_eq k I K k s0 s1 s2
  exact (A_ref10_Strip_eq k I x0 K).trans (congrArg ((fun E1003 => A_ref10_Strip k E1003 x0 K)) h1003)
noncomputable def run_ref10_Strip (k : Nat) {R : Type} : List PV → List (Nm × HObj) → (Out → Option R) → Option R
  | [.v .str x0], [], K => F_ref10_Strip k x0 (fun y0 y1 => K (.ret [.v .str y0, .v .bool y1] []))
  | _, _, _ => none
theorem C_ref10_Strip_ok (k : Nat) : (C_ref10_Strip k).Ok Tryd.prog := by
  intro f ps hp R K r h
  unfold C_ref10_Strip at h
  simp only at h
  cases hb15 : Nat.beq f 15 with
  | true => rw [hb15, cond_true] at h; rw [Nat.eq_of_beq_eq_true hb15]; exact D_ref10_quoted k h
  | false =>
  rw [hb15, cond_false] at h
  cases h
theorem D_ref10_Strip (k : Nat) {ps : List PV} {hp : List (Nm × HObj)} {R : Type} {K : Out → Option R} {r : R} (h : run_ref10_Strip k ps hp K = some r) : DoesTo Tryd.prog 9 ps hp fun out => K out = some r := by
  unfold run_ref10_Strip at h
  split at h
  · rw [← F_ref10_Strip_eq] at h
    have := fn_ok (P := Tryd.prog) (cx := cx_ref10_Strip k) (f := 9) ⟨tyT_ok, C_ref10_Strip_ok k⟩ (by kernel_rfl) (fn := Tryd.f9) (c := code_ref10_Strip) (by kernel_rfl) (by kernel_rfl) (by kernel_rfl) (rs := [.tmp 2, .tmp 3]) (by kernel_rfl) (by kernel_rfl) h
    exact this.mono fun out ho => by
      unfold wrap_ref10_Strip at ho
      split at ho <;> first | exact ho | cases ho
  · cases h
end Go.Proofs.YtdbnlohjjoigeaaDoor.Pvm

set_option linter.unusedVariables false
set_option linter.unusedSimpArgs false
namespace Go.Proofs.YtdbnlohjjoigeaaDoor.Pvm
open Go
/-- without the blanks at the end -/
def rt (l : List UInt8) : List UInt8 := (l.reverse.dropWhile (· == 32)).reverse
theorem rt_nil : rt [] = [] := rfl
theorem rt_cat (l : List UInt8) (x : UInt8) : rt (l ++ [x]) = bif x == 32 then rt l else l ++ [x] := by
  unfold rt
  rw [List.reverse_append, List.reverse_singleton, List.singleton_append, List.dropWhile_cons]
  cases x == 32 <;> simp
theorem getD_last (l : List UInt8) (x d : UInt8) : (l ++ [x]).getD l.length d = x := by simp [List.getD]
theorem trimR_loop (k : Nat) {R : Type} (K : List UInt8 → Option R) : ∀ (n : Nat) (l : List UInt8), l.length ≤ 1000000 → l.length < n → L_strings_trimRightByte_1001 k n l 32 K = K (rt l) := by
  intro n
  induction n with
  | zero => intro l _ h; omega
  | succ n ih =>
    intro l hl hn
    rw [L_strings_trimRightByte_1001]
    unfold B_strings_trimRightByte_1001
    rcases List.eq_nil_or_concat l with rfl | ⟨l', x, rfl⟩
    · simp [rt_nil]
    · rw [List.concat_eq_append] at *
      have hlen : (l' ++ [x]).length = l'.length + 1 := by simp
      rw [hlen] at hl hn
      simp (disch := omega) only [dec_t, dec_f, ieq_t, ieq_f, ine_t, ine_f, inb_t, bnd_t, wrap_id, wrap8_id, cond_true, cond_false, Bool.not_true, Bool.not_false, Bool.true_or, Bool.or_true, Bool.false_or, Bool.or_false, Bool.true_and, Bool.and_true, Bool.false_and, Bool.and_false, bool_eq_true', bool_eq_false', toNat_cast', hlen]
      have e1 : (((l'.length + 1 : Nat) : Int) - 1) = (l'.length : Int) := by omega
      simp (disch := omega) only [dec_t, dec_f, ieq_t, ieq_f, ine_t, ine_f, inb_t, bnd_t, wrap_id, wrap8_id, cond_true, cond_false, Bool.not_true, Bool.not_false, Bool.true_or, Bool.or_true, Bool.false_or, Bool.or_false, Bool.true_and, Bool.and_true, Bool.false_and, Bool.and_false, bool_eq_true', bool_eq_false', toNat_cast', e1, getD_last, beq32]
      rw [cut_start, List.take_left' rfl, ih l' (by omega) (by omega), rt_cat]
      cases x == 32 <;> rfl
theorem trimR_eq (k : Nat) {R : Type} (l : List UInt8) (hl : l.length ≤ 1000000) (hk : l.length < k) (K : List UInt8 → Option R) : F_strings_TrimRight k l 32 K = K (rt l) := by
  unfold F_strings_TrimRight A_strings_TrimRight F_strings_trimRightByte A_strings_trimRightByte
  cases l with
  | nil => rfl
  | cons x r =>
    have e2 : (((([32] : List UInt8).getD (Int.toNat 0) 0).toNat : Nat) : Int) = 32 := rfl
    simp only [e2, show ((x :: r) == ([] : List UInt8)) = false from rfl, show (([32] : List UInt8) == []) = false from rfl, show ((([32] : List UInt8).length : Int) == 1) = true from rfl, show decide ((32 : Int) < 128) = true from rfl, cond_false, cond_true]
    exact trimR_loop k K k _ hl hk
def fresh (s : List UInt8) (i : Nat) : Bool := i == 0 || s.getD (i - 1) 0 == 32
/-- where a line's remark begins, or where it ends; none: a quote does not end -/
def stS (s : List UInt8) : Nat → Nat → Option Nat
  | 0, _ => some s.length
  | n + 1, i => bif Nat.ble s.length i then some s.length else
    bif !fresh s i then stS s n (i + 1) else
    bif s.getD i 0 == 35 then some i else
    bif s.getD i 0 == 39 || s.getD i 0 == 34 then (match qAt s i with
      | some j => stS s n (j + 1)
      | none => none) else stS s n (i + 1)
def stK {R : Type} (s : List UInt8) (K : List UInt8 → Bool → Option R) : Option Nat → Option R
  | some e => K (rt (s.take e)) true
  | none => K [] false
theorem ble_f {a b : Nat} (h : b < a) : Nat.ble a b = false := by
  cases hb : Nat.ble a b with
  | false => rfl
  | true => have := Nat.le_of_ble_eq_true hb; omega
theorem ble_t {a b : Nat} (h : a ≤ b) : Nat.ble a b = true := Nat.ble_eq_true_of_le h
theorem line_Strip_loop (k : Nat) {R : Type} (s : List UInt8) (hs : s.length ≤ 1000000) (hk : s.length < k) (K : List UInt8 → Bool → Option R) : ∀ (n i : Nat), i ≤ s.length → s.length < i + n →
    L_line_Strip_1003 k n s (s.length : Int) (i : Int) K = stK s K (stS s n i) := by
  intro n
  induction n with
  | zero => intro i _ h; omega
  | succ n ih =>
    intro i hi hn
    rw [L_line_Strip_1003]
    unfold B_line_Strip_1003
    by_cases h : i < s.length
    · have hb := ble_f h
      rw [stS, hb, cond_false]
      have st1 := ih (i + 1) (by omega) (by omega)
      have c1 : ((i : Int) + 1) = ((i + 1 : Nat) : Int) := by omega
      have hg : bnd 0 (i : Int) (s.length : Int) = true := bnd_t (by omega) (by omega) (by omega)
      have hcut : (cut s 0 (i : Int)).length ≤ 1000000 ∧ (cut s 0 (i : Int)).length < k := by rw [cut_start, List.length_take]; omega
      have tail : (bif (s.getD i 0 : UInt8) == 35 then K (rt (s.take i)) true else bif (s.getD i 0 : UInt8) == 39 then qK (fun y7 y8 => bif !y8 then K [] false else L_line_Strip_1003 k n s (s.length : Int) (IntKind.i64.wrap (y7 + 1)) K) 0 (qAt s i) else bif (s.getD i 0 : UInt8) == 34 then qK (fun y7 y8 => bif !y8 then K [] false else L_line_Strip_1003 k n s (s.length : Int) (IntKind.i64.wrap (y7 + 1)) K) 0 (qAt s i) else L_line_Strip_1003 k n s (s.length : Int) ((i + 1 : Nat) : Int) K) =
          stK s K (bif s.getD i 0 == 35 then some i else bif s.getD i 0 == 39 || s.getD i 0 == 34 then (match qAt s i with | some j => stS s n (j + 1) | none => none) else stS s n (i + 1)) := by
        have hq : qK (fun y7 y8 => bif !y8 then K [] false else L_line_Strip_1003 k n s (s.length : Int) (IntKind.i64.wrap (y7 + 1)) K) 0 (qAt s i) = stK s K (match qAt s i with | some j => stS s n (j + 1) | none => none) := by
          cases hqa : qAt s i with
          | none => rfl
          | some j =>
            have hj := qAt_bound hqa
            simp only [qK, Bool.not_true, cond_false]
            have e : IntKind.i64.wrap ((j : Int) + 0 + 1) = ((j + 1 : Nat) : Int) := by rw [wrap_id (by omega) (by omega)]; omega
            rw [e, ih (j + 1) (by omega) (by omega)]
        rw [hq, st1]
        cases (s.getD i 0 == 35) <;> cases (s.getD i 0 == 39) <;> cases (s.getD i 0 == 34) <;> rfl
      by_cases h0 : i = 0
      · subst h0
        have hf : fresh s 0 = true := rfl
        rw [hf]
        simp (disch := omega) only [dec_t, dec_f, ieq_t, ieq_f, ine_t, ine_f, inb_t, bnd_t, wrap_id, wrap8_id, cond_true, cond_false, Bool.not_true, Bool.not_false, Bool.true_or, Bool.or_true, Bool.false_or, Bool.or_false, Bool.true_and, Bool.and_true, Bool.false_and, Bool.and_false, bool_eq_true', bool_eq_false', toNat_cast', beq35, beq39, beq34]
        rw [trimR_eq k _ hcut.1 hcut.2, cut_start, line_quoted_eq k s 0 hs h hk]
        rw [← tail]
        rfl
      · have e0 : ((i : Int) - 1) = ((i - 1 : Nat) : Int) := by omega
        have hf : fresh s i = (s.getD (i - 1) 0 == 32) := by
          have : (i == 0) = false := by simpa using h0
          simp [fresh, this]
        rw [hf]
        simp (disch := omega) only [dec_t, dec_f, ieq_t, ieq_f, ine_t, ine_f, inb_t, bnd_t, wrap_id, wrap8_id, cond_true, cond_false, Bool.not_true, Bool.not_false, Bool.true_or, Bool.or_true, Bool.false_or, Bool.or_false, Bool.true_and, Bool.and_true, Bool.false_and, Bool.and_false, bool_eq_true', bool_eq_false', toNat_cast', e0, beq35, beq39, beq34, bne32]
        rw [trimR_eq k _ hcut.1 hcut.2, cut_start, line_quoted_eq k s i hs h hk, c1]
        cases hx : (s.getD (i - 1) 0 == 32) with
        | false => rw [Bool.not_false, cond_true, cond_true]; exact st1
        | true =>
          rw [Bool.not_true, cond_false, cond_false, ← tail]
    · have hi' : i = s.length := by omega
      subst hi'
      have hcut : (cut s 0 (s.length : Int)).length ≤ 1000000 ∧ (cut s 0 (s.length : Int)).length < k := by rw [cut_start, List.length_take]; omega
      rw [stS, ble_t (Nat.le_refl _), cond_true]
      simp (disch := omega) only [dec_t, dec_f, ieq_t, ieq_f, ine_t, ine_f, inb_t, bnd_t, wrap_id, wrap8_id, cond_true, cond_false, Bool.not_true, Bool.not_false, Bool.true_or, Bool.or_true, Bool.false_or, Bool.or_false, Bool.true_and, Bool.and_true, Bool.false_and, Bool.and_false, bool_eq_true', bool_eq_false', toNat_cast']
      rw [trimR_eq k _ hcut.1 hcut.2, cut_start]
      rfl
theorem line_Strip_eq (k : Nat) {R : Type} (s : List UInt8) (hs : s.length ≤ 1000000) (hk : s.length < k) (K : List UInt8 → Bool → Option R) : F_line_Strip k s K = stK s K (stS s k 0) := by
  unfold F_line_Strip A_line_Strip
  exact line_Strip_loop k s hs hk K k 0 (by omega) (by omega)
end Go.Proofs.YtdbnlohjjoigeaaDoor.Pvm

set_option linter.unusedVariables false
set_option linter.unusedSimpArgs false
namespace Go.Proofs.YtdbnlohjjoigeaaDoor.Pvm
open Go
theorem take_succ_get {s : List UInt8} {e : Nat} (h : e < s.length) : s.take (e + 1) = s.take e ++ [s.getD e 0] := by
  rw [List.take_add_one, List.getElem?_eq_getElem h]
  simp [List.getD, h]
theorem ref10_Strip_end (k : Nat) {R : Type} (s : List UInt8) (hs : s.length ≤ 1000000) (K : List UInt8 → Bool → Option R) : ∀ (n e : Nat), e ≤ s.length → e < n →
    L_ref10_Strip_1013 k n s (e : Int) K = K (rt (s.take e)) true := by
  intro n
  induction n with
  | zero => intro e _ h; omega
  | succ n ih =>
    intro e he hn
    rw [L_ref10_Strip_1013]
    unfold B_ref10_Strip_1013
    cases e with
    | zero =>
      simp (disch := omega) only [dec_t, dec_f, ieq_t, ieq_f, ine_t, ine_f, inb_t, bnd_t, wrap_id, wrap8_id, cond_true, cond_false, Bool.not_true, Bool.not_false, Bool.true_or, Bool.or_true, Bool.false_or, Bool.or_false, Bool.true_and, Bool.and_true, Bool.false_and, Bool.and_false, bool_eq_true', bool_eq_false', toNat_cast']
      rfl
    | succ e =>
      have e1 : (((e + 1 : Nat) : Int) - 1) = (e : Int) := by omega
      simp (disch := omega) only [dec_t, dec_f, ieq_t, ieq_f, ine_t, ine_f, inb_t, bnd_t, wrap_id, wrap8_id, cond_true, cond_false, Bool.not_true, Bool.not_false, Bool.true_or, Bool.or_true, Bool.false_or, Bool.or_false, Bool.true_and, Bool.and_true, Bool.false_and, Bool.and_false, bool_eq_true', bool_eq_false', toNat_cast', e1, beq32]
      rw [cut_start, take_succ_get (by omega), rt_cat, ih e (by omega) (by omega)]
      cases (s.getD e 0 == 32) <;> rfl
theorem ref10_Strip_loop (k : Nat) {R : Type} (s : List UInt8) (hs : s.length ≤ 1000000) (hk : s.length < k) (K : List UInt8 → Bool → Option R) : ∀ (n i : Nat), i ≤ s.length → s.length < i + n →
    L_ref10_Strip_1003 k n s (s.length : Int) (i : Int) K = stK s K (stS s n i) := by
  intro n
  induction n with
  | zero => intro i _ h; omega
  | succ n ih =>
    intro i hi hn
    rw [L_ref10_Strip_1003]
    unfold B_ref10_Strip_1003
    by_cases h : i < s.length
    · have hb := ble_f h
      rw [stS, hb, cond_false]
      have st1 := ih (i + 1) (by omega) (by omega)
      have c1 : ((i : Int) + 1) = ((i + 1 : Nat) : Int) := by omega
      have hfr : (bif (i : Int) == 0 then true else ((s.getD (IntKind.i64.wrap ((i : Int) - 1)).toNat 0).toNat : Int) == 32) = fresh s i := by
        by_cases h0 : i = 0
        · subst h0; rfl
        · have e0 : ((i : Int) - 1) = ((i - 1 : Nat) : Int) := by omega
          have e2 : (i == 0) = false := by simpa using h0
          simp (disch := omega) only [dec_t, dec_f, ieq_t, ieq_f, ine_t, ine_f, inb_t, bnd_t, wrap_id, wrap8_id, cond_true, cond_false, Bool.not_true, Bool.not_false, Bool.true_or, Bool.or_true, Bool.false_or, Bool.or_false, Bool.true_and, Bool.and_true, Bool.false_and, Bool.and_false, bool_eq_true', bool_eq_false', toNat_cast', e0, beq32]
          rw [fresh, e2, Bool.false_or]
      have hin : (!((i : Int) == 0) == false || inb (IntKind.i64.wrap ((i : Int) - 1)) (s.length : Int)) = true := by
        by_cases h0 : i = 0
        · subst h0; rfl
        · simp (disch := omega) only [dec_t, dec_f, ieq_t, ieq_f, ine_t, ine_f, inb_t, bnd_t, wrap_id, wrap8_id, cond_true, cond_false, Bool.not_true, Bool.not_false, Bool.true_or, Bool.or_true, Bool.false_or, Bool.or_false, Bool.true_and, Bool.and_true, Bool.false_and, Bool.and_false, bool_eq_true', bool_eq_false', toNat_cast']
      have hash : L_ref10_Strip_1003 k n s (i : Int) (i : Int) K = K (rt (s.take i)) true := by
        obtain ⟨m, rfl⟩ : ∃ m, n = m + 1 := ⟨n - 1, by omega⟩
        rw [L_ref10_Strip_1003]
        unfold B_ref10_Strip_1003
        simp (disch := omega) only [dec_t, dec_f, ieq_t, ieq_f, ine_t, ine_f, inb_t, bnd_t, wrap_id, wrap8_id, cond_true, cond_false, Bool.not_true, Bool.not_false, Bool.true_or, Bool.or_true, Bool.false_or, Bool.or_false, Bool.true_and, Bool.and_true, Bool.false_and, Bool.and_false, bool_eq_true', bool_eq_false', toNat_cast']
        exact ref10_Strip_end k s hs K k i (by omega) (by omega)
      rw [hfr, hin]
      simp (disch := omega) only [dec_t, dec_f, ieq_t, ieq_f, ine_t, ine_f, inb_t, bnd_t, wrap_id, wrap8_id, cond_true, cond_false, Bool.not_true, Bool.not_false, Bool.true_or, Bool.or_true, Bool.false_or, Bool.or_false, Bool.true_and, Bool.and_true, Bool.false_and, Bool.and_false, bool_eq_true', bool_eq_false', toNat_cast', beq35, beq39, beq34]
      rw [hash, ref10_quoted_eq k s i hs h hk, c1, st1]
      have hq : qK (fun y8 y9 => bif !y9 then K [] false else L_ref10_Strip_1003 k n s (s.length : Int) y8 K) 1 (qAt s i) = stK s K (match qAt s i with | some j => stS s n (j + 1) | none => none) := by
        cases hqa : qAt s i with
        | none => rfl
        | some j =>
          have hj := qAt_bound hqa
          simp only [qK, Bool.not_true, cond_false]
          have e : ((j : Int) + 1) = ((j + 1 : Nat) : Int) := by omega
          rw [e, ih (j + 1) (by omega) (by omega)]
      rw [hq]
      cases fresh s i <;> cases (s.getD i 0 == 35) <;> cases (s.getD i 0 == 39) <;> cases (s.getD i 0 == 34) <;> rfl
    · have hi' : i = s.length := by omega
      subst hi'
      rw [stS, ble_t (Nat.le_refl _), cond_true]
      simp (disch := omega) only [dec_t, dec_f, ieq_t, ieq_f, ine_t, ine_f, inb_t, bnd_t, wrap_id, wrap8_id, cond_true, cond_false, Bool.not_true, Bool.not_false, Bool.true_or, Bool.or_true, Bool.false_or, Bool.or_false, Bool.true_and, Bool.and_true, Bool.false_and, Bool.and_false, bool_eq_true', bool_eq_false', toNat_cast']
      exact ref10_Strip_end k s hs K k s.length (by omega) (by omega)
theorem ref10_Strip_eq (k : Nat) {R : Type} (s : List UInt8) (hs : s.length ≤ 1000000) (hk : s.length < k) (K : List UInt8 → Bool → Option R) : F_ref10_Strip k s K = stK s K (stS s k 0) := by
  unfold F_ref10_Strip A_ref10_Strip
  exact ref10_Strip_loop k s hs hk K k 0 (by omega) (by omega)
end Go.Proofs.YtdbnlohjjoigeaaDoor.Pvm

set_option linter.unusedVariables false
set_option linter.unusedSimpArgs false
namespace Go.Proofs.YtdbnlohjjoigeaaDoor.Pvm
open Go
/-- without the blanks at the beginning -/
def lt32 (l : List UInt8) : List UInt8 := l.dropWhile (· == 32)
theorem lt32_len (l : List UInt8) : (lt32 l).length ≤ l.length := (List.dropWhile_suffix _).length_le
theorem trimL_loop (k : Nat) {R : Type} (K : List UInt8 → Option R) : ∀ (n : Nat) (l : List UInt8), l.length < n → L_strings_trimLeftByte_1001 k n l 32 K = K (lt32 l) := by
  intro n
  induction n with
  | zero => intro l h; omega
  | succ n ih =>
    intro l hn
    rw [L_strings_trimLeftByte_1001]
    unfold B_strings_trimLeftByte_1001
    cases l with
    | nil => rfl
    | cons x r =>
      have h1 : decide (((x :: r).length : Int) > 0) = true := dec_t (by simp <;> omega)
      have h2 : inb 0 ((x :: r).length : Int) = true := inb_t (by omega) (by simp <;> omega)
      have h3 : bnd 1 ((x :: r).length : Int) ((x :: r).length : Int) = true := bnd_t (by omega) (by simp <;> omega) (by omega)
      have h4 : (x :: r).getD (Int.toNat 0) 0 = x := rfl
      have h5 : cut (x :: r) 1 ((x :: r).length : Int) = r := by simp [cut]
      simp only [h1, h2, h3, h4, h5, beq32, Bool.or_true, cond_true]
      rw [ih r (by simp at hn; omega), lt32, lt32, List.dropWhile_cons]
      cases x == 32 <;> rfl
theorem trimL_eq (k : Nat) {R : Type} (l : List UInt8) (hk : l.length < k) (K : List UInt8 → Option R) : F_strings_TrimLeft k l 32 K = K (lt32 l) := by
  unfold F_strings_TrimLeft A_strings_TrimLeft F_strings_trimLeftByte A_strings_trimLeftByte
  cases l with
  | nil => rfl
  | cons x r =>
    have e2 : (((([32] : List UInt8).getD (Int.toNat 0) 0).toNat : Nat) : Int) = 32 := rfl
    simp only [e2, show ((x :: r) == ([] : List UInt8)) = false from rfl, show (([32] : List UInt8) == []) = false from rfl, show ((([32] : List UInt8).length : Int) == 1) = true from rfl, show decide ((32 : Int) < 128) = true from rfl, cond_false, cond_true]
    exact trimL_loop k K k _ hk
abbrev Row := Int × (Int × List UInt8)
/-- one line's own row -/
def rowL (k : Nat) (no : Nat) (p : List UInt8) (e : Nat) : List Row :=
  bif rt ((lt32 p).take e) == [] then [] else [((no : Int), (((p.length : Int) - ((lt32 p).length : Int)), rt ((lt32 p).take e)))]
def linesS (k : Nat) : List (List UInt8) → Nat → List Row → List Row × Int × Int
  | [], no, acc => (acc, 0, 0)
  | p :: ps, no, acc => bif p.any bad then ([], 2, (no : Int)) else match stS (lt32 p) k 0 with
    | none => ([], 3, (no : Int))
    | some e => linesS k ps (no + 1) (acc ++ rowL k no p e)
theorem rowL_len (k no : Nat) (p : List UInt8) (e : Nat) : (rowL k no p e).length ≤ 1 := by
  unfold rowL
  cases rt ((lt32 p).take e) == [] <;> simp
theorem line_Lines_loop (k : Nat) {R : Type} (K : List Row → Int → Int → Option R) (a0 a1 : Int) (ps : List (List UInt8)) (hp : ∀ p ∈ ps, p.length ≤ 20000 ∧ p.length < k) (hps : ps.length ≤ 20000) :
    ∀ (n : Nat) (r : List (List UInt8)) (i : Nat) (acc : List Row), ps.drop i = r → i ≤ ps.length → r.length < n → acc.length ≤ i →
    L_line_Lines_1005 k n a0 a1 acc (ps.map toBytes) (ps.length : Int) (i : Int) K = (linesS k r (i + 1) acc |> fun z => K z.1 z.2.1 z.2.2) := by
  intro n
  induction n with
  | zero => intro r i acc _ _ h; omega
  | succ n ih =>
    intro r i acc hr hi hn ha
    rw [L_line_Lines_1005]
    unfold B_line_Lines_1005
    cases r with
    | nil =>
      have := drop_nil hr
      simp (disch := omega) only [dec_t, dec_f, ieq_t, ieq_f, ine_t, ine_f, inb_t, bnd_t, wrap_id, wrap8_id, cond_true, cond_false, Bool.not_true, Bool.not_false, Bool.true_or, Bool.or_true, Bool.false_or, Bool.or_false, Bool.true_and, Bool.and_true, Bool.false_and, Bool.and_false, bool_eq_true', bool_eq_false', toNat_cast']
      rfl
    | cons p r =>
      obtain ⟨h1, h2, h3⟩ := drop_cons' hr
      have hml : ((ps.map toBytes).length : Int) = (ps.length : Int) := by simp
      have hg : (ps.map toBytes).getD i (Kd.int IntKind.u8).sl.zero = toBytes p := by
        have := h2 []
        simp only [List.getD, List.getElem?_map] at this ⊢
        have hx : ps[i]? = some p := by
          rw [List.getElem?_eq_getElem h1] at this ⊢
          simpa using this
        rw [hx]; rfl
      have hmem : p ∈ ps := by
        have : p ∈ ps.drop i := by rw [hr]; exact List.mem_cons_self
        exact List.mem_of_mem_drop this
      obtain ⟨hp1, hp2⟩ := hp p hmem
      have hl := lt32_len p
      simp (disch := omega) only [dec_t, dec_f, ieq_t, ieq_f, ine_t, ine_f, inb_t, bnd_t, wrap_id, wrap8_id, cond_true, cond_false, Bool.not_true, Bool.not_false, Bool.true_or, Bool.or_true, Bool.false_or, Bool.or_false, Bool.true_and, Bool.and_true, Bool.false_and, Bool.and_false, bool_eq_true', bool_eq_false', toNat_cast', hml, hg, ofBytes_toBytes]
      have hI : ∀ K' : Int → Option R, F_strings_IndexFunc k p K' = K' (idxOdd p) := fun _ => rfl
      rw [hI, idxOdd_any, trimL_eq k p hp2, line_Strip_eq k _ (by omega) (by omega)]
      rw [linesS]
      have c1 : ((i : Int) + 1) = ((i + 1 : Nat) : Int) := by omega
      cases hb : p.any bad with
      | true => simp only [cond_true, c1]
      | false =>
        simp only [cond_false]
        cases hs : stS (lt32 p) k 0 with
        | none => simp only [stK, Bool.not_false, cond_true, c1]
        | some e =>
          simp only [stK, Bool.not_true, cond_false]
          have w1 : IntKind.i64.wrap ((p.length : Int) - ((lt32 p).length : Int)) = (p.length : Int) - ((lt32 p).length : Int) := wrap_id (by omega) (by omega)
          have hf : ∀ z : Row, fits acc.length [z].length 32 = true := fun z => fits_t (by simp; omega) (by simp; omega)
          rw [w1, hf, cond_true, c1, ih r (i + 1) _ h3 (by omega) (by simp at hn; omega) (by simp; omega), ih r (i + 1) _ h3 (by omega) (by simp at hn; omega) (by omega)]
          unfold rowL
          cases rt ((lt32 p).take e) == [] <;> simp
theorem spl_len : ∀ s : List UInt8, (spl s).length ≤ s.length + 1
  | [] => by simp [spl]
  | x :: r => by
    have := spl_len r
    rw [spl]
    cases x == 10 with
    | true => simp; omega
    | false =>
      cases h : spl r with
      | nil => simp
      | cons p ps => rw [h] at this; simp at this ⊢; omega
theorem spl_mem : ∀ (s : List UInt8) (p : List UInt8), p ∈ spl s → p.length ≤ s.length
  | [], p, h => by simp [spl] at h; simp [h]
  | x :: r, p, h => by
    rw [spl] at h
    cases hx : x == 10 with
    | true =>
      rw [hx, cond_true] at h
      rcases List.mem_cons.1 h with rfl | h
      · simp
      · have := spl_mem r p h; simp; omega
    | false =>
      rw [hx, cond_false] at h
      cases hs : spl r with
      | nil => rw [hs] at h; simp at h; simp [h]
      | cons q qs =>
        rw [hs] at h
        have hq := spl_mem r
        rw [hs] at hq
        rcases List.mem_cons.1 h with rfl | h
        · have := hq q (by simp); simp; omega
        · have := hq p (by simp [h]); simp; omega
theorem line_Lines_eq (k : Nat) {R : Type} (s : List UInt8) (hk : 20000 < k) (K : List Row → Int → Int → Option R) :
    F_line_Lines k (toBytes s) K = bif decide (s.length > 16384) then K [] 1 1 else (linesS k (spl s) 1 [] |> fun z => K z.1 z.2.1 z.2.2) := by
  unfold F_line_Lines A_line_Lines
  rw [toBytes_len]
  by_cases h : s.length > 16384
  · rw [dec_t h]
    have : decide ((s.length : Int) > 16384) = true := dec_t (by omega)
    rw [this]; rfl
  · rw [dec_f h]
    have : decide ((s.length : Int) > 16384) = false := dec_f (by omega)
    have hl := spl_len s
    rw [this, cond_false, cond_false, Split_eq k s (by omega) (by omega)]
    have hml : (((spl s).map toBytes).length : Int) = ((spl s).length : Int) := by simp
    rw [hml]
    exact line_Lines_loop k K 0 0 (spl s) (fun p hp => by have := spl_mem s p hp; omega) (by omega) k _ 0 [] rfl (by omega) (by omega) (by simp)
end Go.Proofs.YtdbnlohjjoigeaaDoor.Pvm

set_option linter.unusedVariables false
set_option linter.unusedSimpArgs false
namespace Go.Proofs.YtdbnlohjjoigeaaDoor.Pvm
open Go
theorem stS_fuel (s : List UInt8) : ∀ (n m i : Nat), s.length < i + n → s.length < i + m → i ≤ s.length → stS s n i = stS s m i
  | 0, _, i, h, _, hi => by omega
  | _ + 1, 0, i, _, h, hi => by omega
  | n + 1, m + 1, i, h1, h2, hi => by
    rw [stS, stS]
    by_cases h : i < s.length
    · rw [ble_f h, cond_false, cond_false, stS_fuel s n m (i + 1) (by omega) (by omega) (by omega)]
      cases hq : qAt s i with
      | none => rfl
      | some j =>
        have := qAt_bound hq
        dsimp only
        rw [stS_fuel s n m (j + 1) (by omega) (by omega) (by omega)]
    · rw [ble_t (by omega)]; rfl
theorem linesS_fuel (k m : Nat) : ∀ (ps : List (List UInt8)) (no : Nat) (acc : List Row), (∀ p ∈ ps, p.length < k ∧ p.length < m) → linesS k ps no acc = linesS m ps no acc
  | [], no, acc, h => rfl
  | p :: ps, no, acc, h => by
    have hp := h p (by simp)
    have hl := lt32_len p
    rw [linesS, linesS, stS_fuel (lt32 p) k m 0 (by omega) (by omega) (by omega)]
    cases p.any bad with
    | true => rfl
    | false =>
      cases stS (lt32 p) m 0 with
      | none => rfl
      | some e => exact linesS_fuel k m ps _ _ fun q hq => h q (by simp [hq])
theorem Strip_at (k : Nat) {R : Type} (s : List UInt8) (hs : s.length < 200) (hk : 20000 < k) (K : List UInt8 → Bool → Option R) : F_line_Strip k s K = stK s K (stS s 200 0) := by
  rw [line_Strip_eq k s (by omega) (by omega), stS_fuel s k 200 0 (by omega) (by omega) (by omega)]
theorem Lines_at (k : Nat) {R : Type} (s : List UInt8) (hs : s.length < 200) (hk : 20000 < k) (K : List Row → Int → Int → Option R) :
    F_line_Lines k (toBytes s) K = (linesS 200 (spl s) 1 [] |> fun z => K z.1 z.2.1 z.2.2) := by
  rw [line_Lines_eq k s hk, dec_f (by omega), cond_false, linesS_fuel k 200 (spl s) 1 [] fun p hp => by have := spl_mem s p hp; omega]
theorem awake_eq (k : Nat) {R : Type} (hk : 20000 < k) (K : Bool → Option R) : F_law10_awake k K = K true := by
  unfold F_law10_awake A_law10_awake
  have e1 : stS [97, 58, 32, 39, 120, 32, 35, 32, 121, 39, 32, 35, 32, 122] 200 0 = some 11 := by kernel_rfl
  have e2 : stS [97, 32, 39, 98] 200 0 = none := by kernel_rfl
  have e3 : linesS 200 (spl [10, 32, 32, 97, 58, 32, 98, 32, 32, 35, 32, 99, 10, 35, 100, 10]) 1 [] = ([(2, 2, [97, 58, 32, 98])], 0, 0) := by kernel_rfl
  have e4 : linesS 200 (spl [97, 10, 9, 98]) 1 [] = ([], 2, 2) := by kernel_rfl
  have e5 : rt ([97, 58, 32, 39, 120, 32, 35, 32, 121, 39, 32, 35, 32, 122].take 11) = [97, 58, 32, 39, 120, 32, 35, 32, 121, 39] := by kernel_rfl
  rw [Strip_at k _ (by simp) hk, e1]
  dsimp only [stK]
  rw [e5, Strip_at k _ (by simp) hk, e2]
  dsimp only [stK]
  have t1 : ([10, 32, 32, 97, 58, 32, 98, 32, 32, 35, 32, 99, 10, 35, 100, 10] : List Int) = toBytes [10, 32, 32, 97, 58, 32, 98, 32, 32, 35, 32, 99, 10, 35, 100, 10] := rfl
  have t2 : ([97, 10, 9, 98] : List Int) = toBytes [97, 10, 9, 98] := rfl
  have h1 := Lines_at k (R := R) [10, 32, 32, 97, 58, 32, 98, 32, 32, 35, 32, 99, 10, 35, 100, 10] (by simp) hk
  have h2 := Lines_at k (R := R) [97, 10, 9, 98] (by simp) hk
  rw [e3] at h1
  rw [e4] at h2
  dsimp only at h1 h2
  refine (h1 _).trans ?_
  refine (h2 _).trans ?_
  rfl
end Go.Proofs.YtdbnlohjjoigeaaDoor.Pvm

set_option maxRecDepth 1000000
set_option maxHeartbeats 0
set_option linter.unusedVariables false
namespace Go.Proofs.YtdbnlohjjoigeaaDoor.Pvm
open Go Go.Proofs
def sig_ref10_Lines : List LS := [.sl (.int .u8)]
noncomputable def C_ref10_Lines (k : Nat) : CTab := ⟨fun f => bif Nat.beq f 9 then sig_ref10_Strip else [], fun f {_} ps hp K => bif Nat.beq f 9 then run_ref10_Strip k ps hp K else none⟩
def wrap_ref10_Lines {R : Type} (K : ((List (Int × (Int × (List UInt8)))) → Int → Int → Option R)) : Out → Option R
  | .ret [.v (.sl (.pr (.int .i64) (.pr (.int .i64) .str))) y0, .agg [.v (.int .i64) y1, .v (.int .i64) y2]] [] => K y0 y1 y2
  | _ => none
def sp_ref10_Lines : RetSpec := ⟨[.sl (.pr (.int .i64) (.pr (.int .i64) .str)), .ag [.any, .any]], [], []⟩
def cuts_ref10_Lines : List (Nat × CutSpec) := [(1006, ⟨[(0, .sl (.int .u8)), (3, .obj 13 [.any, .any]), (4, .own 100004 35 (.pr (.int .i64) (.pr (.int .i64) .str))), (5, .any), (6, .any)], []⟩), (1010, ⟨[(0, .sl (.int .u8)), (3, .obj 13 [.any, .any]), (4, .own 100004 35 (.pr (.int .i64) (.pr (.int .i64) .str))), (5, .any), (6, .any), (7, .any), (8, .any)], []⟩), (1016, ⟨[(0, .sl (.int .u8)), (3, .obj 13 [.any, .any]), (4, .own 100004 35 (.pr (.int .i64) (.pr (.int .i64) .str))), (5, .any), (6, .any), (7, .any), (9, .any)], []⟩)]
def plans_ref10_Lines : List (Nat × Plan) := []
noncomputable def cx_ref10_Lines (k : Nat) : Ctx := ⟨tyT, cuts_ref10_Lines, C_ref10_Lines k, [], [], plans_ref10_Lines⟩
noncomputable def code_ref10_Lines : Code := Tryd.f11.body.getD .skip
def st_ref10_Lines_1006 (s0 : (List Int)) (s1 : Int) (s2 : Int) (s3 : (List (Int × (Int × (List UInt8))))) (s4 : Int) (s5 : Int) : St := ⟨mkT [(0, .v (.sl (.int .u8)) s0), (3, .ptr 13 0), (4, .row 100004), (5, .v (.int .i64) s4), (6, .v (.int .i64) s5)], mkH [(13, .var 29 [.v (.int .i64) s1, .v (.int .i64) s2]), (100004, .row 35 (.pr (.int .i64) (.pr (.int .i64) .str)) s3)]⟩
def st_ref10_Lines_1010 (s0 : (List Int)) (s1 : Int) (s2 : Int) (s3 : (List (Int × (Int × (List UInt8))))) (s4 : Int) (s5 : Int) (s6 : Int) (s7 : Bool) : St := ⟨mkT [(0, .v (.sl (.int .u8)) s0), (3, .ptr 13 0), (4, .row 100004), (5, .v (.int .i64) s4), (6, .v (.int .i64) s5), (7, .v (.int .i64) s6), (8, .v .bool s7)], mkH [(13, .var 29 [.v (.int .i64) s1, .v (.int .i64) s2]), (100004, .row 35 (.pr (.int .i64) (.pr (.int .i64) .str)) s3)]⟩
def st_ref10_Lines_1016 (s0 : (List Int)) (s1 : Int) (s2 : Int) (s3 : (List (Int × (Int × (List UInt8))))) (s4 : Int) (s5 : Int) (s6 : Int) (s7 : Int) : St := ⟨mkT [(0, .v (.sl (.int .u8)) s0), (3, .ptr 13 0), (4, .row 100004), (5, .v (.int .i64) s4), (6, .v (.int .i64) s5), (7, .v (.int .i64) s6), (9, .v (.int .i64) s7)], mkH [(13, .var 29 [.v (.int .i64) s1, .v (.int .i64) s2]), (100004, .row 35 (.pr (.int .i64) (.pr (.int .i64) .str)) s3)]⟩
noncomputable def B_ref10_Lines_1006 (k : Nat) {R : Type} (E1010 : ((List Int) → Int → Int → (List (Int × (Int × (List UInt8)))) → Int → Int → Int → Bool → Option R)) (s0 : (List Int)) (s1 : Int) (s2 : Int) (s3 : (List (Int × (Int × (List UInt8))))) (s4 : Int) (s5 : Int) (K : ((List (Int × (Int × (List UInt8)))) → Int → Int → Option R)) : Option R := (@cond (@Option R) (@Decidable.decide (@LT.lt @Int @Int.instLTInt s4 (@Nat.cast @Int @instNatCastInt (@List.length (@Kd.T (@Kd.int @Go.IntKind.u8)) s0))) (@Int.decLt s4 (@Nat.cast @Int @instNatCastInt (@List.length (@Kd.T (@Kd.int @Go.IntKind.u8)) s0)))) (E1010 s0 s1 s2 s3 s4 s5 s4 @Bool.false) (K s3 (0 : (@Kd.T (@Kd.int @Go.IntKind.i64))) (0 : (@Kd.T (@Kd.int @Go.IntKind.i64)))))
theorem B_ref10_Lines_1006_eq (k : Nat) {R : Type} (I : Nat → St → Option R) (s0 : (List Int)) (s1 : Int) (s2 : Int) (s3 : (List (Int × (Int × (List UInt8))))) (s4 : Int) (s5 : Int) (K : ((List (Int × (Int × (List UInt8)))) → Int → Int → Option R)) : execK (cx_ref10_Lines k) k (at_ [1, 1, 1, 1, 0, 1, 0, 0] code_ref10_Lines) (st_ref10_Lines_1006 s0 s1 s2 s3 s4 s5) (konts (cx_ref10_Lines k) k I [1, 1, 1, 1, 0, 1, 0, 0] code_ref10_Lines (outK (cx_ref10_Lines k) sp_ref10_Lines [.tmp 2, .cell 3 29] (wrap_ref10_Lines K))) = B_ref10_Lines_1006 k (fun s0 s1 s2 s3 s4 s5 s6 s7 => iter (cx_ref10_Lines k).pv (look (cx_ref10_Lines k).cuts 1010) (execK (cx_ref10_Lines k) k (at_ [1, 1, 1, 1, 0, 1, 0, 0, 1, 0, 0, 1, 1, 0, 0, 0] code_ref10_Lines)) k (st_ref10_Lines_1010 s0 s1 s2 s3 s4 s5 s6 s7) (konts (cx_ref10_Lines k) k I [1, 1, 1, 1, 0, 1, 0, 0, 1, 0, 0, 1, 1, 0, 0] code_ref10_Lines (outK (cx_ref10_Lines k) sp_ref10_Lines [.tmp 2, .cell 3 29] (wrap_ref10_Lines K)))) s0 s1 s2 s3 s4 s5 K := by kernel_rfl
noncomputable def B_ref10_Lines_1010 (k : Nat) {R : Type} (E1010 : ((List Int) → Int → Int → (List (Int × (Int × (List UInt8)))) → Int → Int → Int → Bool → Option R)) (E1016 : ((List Int) → Int → Int → (List (Int × (Int × (List UInt8)))) → Int → Int → Int → Int → Option R)) (s0 : (List Int)) (s1 : Int) (s2 : Int) (s3 : (List (Int × (Int × (List UInt8))))) (s4 : Int) (s5 : Int) (s6 : Int) (s7 : Bool) (K : ((List (Int × (Int × (List UInt8)))) → Int → Int → Option R)) : Option R := (@cond (@Option R) (@Bool.or (@Bool.not (@BEq.beq (@Kd.T @Kd.bool) (@instBEqOfDecidableEq (@Kd.T @Kd.bool) @instDecidableEqBool) (@Decidable.decide (@LT.lt @Int @Int.instLTInt s6 (@Nat.cast @Int @instNatCastInt (@List.length (@Kd.T (@Kd.int @Go.IntKind.u8)) s0))) (@Int.decLt s6 (@Nat.cast @Int @instNatCastInt (@List.length (@Kd.T (@Kd.int @Go.IntKind.u8)) s0)))) @Bool.true)) (@inb s6 (@Nat.cast @Int @instNatCastInt (@List.length (@Kd.T (@Kd.int @Go.IntKind.u8)) s0)))) (@cond (@Option R) (@cond (@Kd.T @Kd.bool) (@Decidable.decide (@LT.lt @Int @Int.instLTInt s6 (@Nat.cast @Int @instNatCastInt (@List.length (@Kd.T (@Kd.int @Go.IntKind.u8)) s0))) (@Int.decLt s6 (@Nat.cast @Int @instNatCastInt (@List.length (@Kd.T (@Kd.int @Go.IntKind.u8)) s0)))) (@bne @Int (@instBEqOfDecidableEq @Int @Int.instDecidableEq) (@List.getD (@Kd.T (@Kd.int @Go.IntKind.u8)) s0 (@Int.toNat s6) (@Kd.zero (@Kd.int @Go.IntKind.u8))) (10 : @Int)) @Bool.false) (@cond (@Option R) (@Bool.or (@Bool.not (@BEq.beq (@Kd.T @Kd.bool) (@instBEqOfDecidableEq (@Kd.T @Kd.bool) @instDecidableEqBool) s7 @Bool.false)) (@inb s6 (@Nat.cast @Int @instNatCastInt (@List.length (@Kd.T (@Kd.int @Go.IntKind.u8)) s0)))) (@cond (@Option R) (@Bool.or (@Bool.not (@BEq.beq (@Kd.T @Kd.bool) (@instBEqOfDecidableEq (@Kd.T @Kd.bool) @instDecidableEqBool) (@cond (@Kd.T @Kd.bool) s7 @Bool.true (@Decidable.decide (@LT.lt @Int @Int.instLTInt (@List.getD (@Kd.T (@Kd.int @Go.IntKind.u8)) s0 (@Int.toNat s6) (@Kd.zero (@Kd.int @Go.IntKind.u8))) (32 : @Int)) (@Int.decLt (@List.getD (@Kd.T (@Kd.int @Go.IntKind.u8)) s0 (@Int.toNat s6) (@Kd.zero (@Kd.int @Go.IntKind.u8))) (32 : @Int)))) @Bool.false)) (@inb s6 (@Nat.cast @Int @instNatCastInt (@List.length (@Kd.T (@Kd.int @Go.IntKind.u8)) s0)))) (E1010 s0 s1 s2 s3 s4 s5 (@Go.IntKind.wrap @Go.IntKind.i64 (@HAdd.hAdd @Int @Int @Int (@instHAdd @Int @Int.instAdd) s6 (1 : @Int))) (@cond (@Kd.T @Kd.bool) (@cond (@Kd.T @Kd.bool) s7 @Bool.true (@Decidable.decide (@LT.lt @Int @Int.instLTInt (@List.getD (@Kd.T (@Kd.int @Go.IntKind.u8)) s0 (@Int.toNat s6) (@Kd.zero (@Kd.int @Go.IntKind.u8))) (32 : @Int)) (@Int.decLt (@List.getD (@Kd.T (@Kd.int @Go.IntKind.u8)) s0 (@Int.toNat s6) (@Kd.zero (@Kd.int @Go.IntKind.u8))) (32 : @Int)))) @Bool.true (@BEq.beq @Int (@instBEqOfDecidableEq @Int @Int.instDecidableEq) (@List.getD (@Kd.T (@Kd.int @Go.IntKind.u8)) s0 (@Int.toNat s6) (@Kd.zero (@Kd.int @Go.IntKind.u8))) (127 : @Int)))) (@Option.none R)) (@Option.none R)) (@cond (@Option R) s7 (K (@List.nil (@Kd.T (@Kd.pr (@Kd.int @Go.IntKind.i64) (@Kd.pr (@Kd.int @Go.IntKind.i64) @Kd.str)))) (2 : @Int) s5) (E1016 s0 s1 s2 s3 s4 s5 s6 (0 : @Int)))) (@Option.none R))
theorem B_ref10_Lines_1010_eq (k : Nat) {R : Type} (I : Nat → St → Option R) (s0 : (List Int)) (s1 : Int) (s2 : Int) (s3 : (List (Int × (Int × (List UInt8))))) (s4 : Int) (s5 : Int) (s6 : Int) (s7 : Bool) (K : ((List (Int × (Int × (List UInt8)))) → Int → Int → Option R)) : execK (cx_ref10_Lines k) k (at_ [1, 1, 1, 1, 0, 1, 0, 0, 1, 0, 0, 1, 1, 0, 0, 0] code_ref10_Lines) (st_ref10_Lines_1010 s0 s1 s2 s3 s4 s5 s6 s7) (konts (cx_ref10_Lines k) k I [1, 1, 1, 1, 0, 1, 0, 0, 1, 0, 0, 1, 1, 0, 0, 0] code_ref10_Lines (outK (cx_ref10_Lines k) sp_ref10_Lines [.tmp 2, .cell 3 29] (wrap_ref10_Lines K))) = B_ref10_Lines_1010 k (fun s0 s1 s2 s3 s4 s5 s6 s7 => I 1010 (st_ref10_Lines_1010 s0 s1 s2 s3 s4 s5 s6 s7)) (fun s0 s1 s2 s3 s4 s5 s6 s7 => iter (cx_ref10_Lines k).pv (look (cx_ref10_Lines k).cuts 1016) (execK (cx_ref10_Lines k) k (at_ [1, 1, 1, 1, 0, 1, 0, 0, 1, 0, 0, 1, 1, 1, 1, 1, 0, 0, 0] code_ref10_Lines)) k (st_ref10_Lines_1016 s0 s1 s2 s3 s4 s5 s6 s7) (konts (cx_ref10_Lines k) k I [1, 1, 1, 1, 0, 1, 0, 0, 1, 0, 0, 1, 1, 1, 1, 1, 0, 0] code_ref10_Lines (outK (cx_ref10_Lines k) sp_ref10_Lines [.tmp 2, .cell 3 29] (wrap_ref10_Lines K)))) s0 s1 s2 s3 s4 s5 s6 s7 K := by kernel_rfl
noncomputable def B_ref10_Lines_1016 (k : Nat) {R : Type} (E1006 : ((List Int) → Int → Int → (List (Int × (Int × (List UInt8)))) → Int → Int → Option R)) (E1016 : ((List Int) → Int → Int → (List (Int × (Int × (List UInt8)))) → Int → Int → Int → Int → Option R)) (s0 : (List Int)) (s1 : Int) (s2 : Int) (s3 : (List (Int × (Int × (List UInt8))))) (s4 : Int) (s5 : Int) (s6 : Int) (s7 : Int) (K : ((List (Int × (Int × (List UInt8)))) → Int → Int → Option R)) : Option R := (@cond (@Option R) (@Bool.or (@Bool.not (@BEq.beq (@Kd.T @Kd.bool) (@instBEqOfDecidableEq (@Kd.T @Kd.bool) @instDecidableEqBool) (@Decidable.decide (@LT.lt @Int @Int.instLTInt (@Go.IntKind.wrap @Go.IntKind.i64 (@HAdd.hAdd @Int @Int @Int (@instHAdd @Int @Int.instAdd) s4 s7)) s6) (@Int.decLt (@Go.IntKind.wrap @Go.IntKind.i64 (@HAdd.hAdd @Int @Int @Int (@instHAdd @Int @Int.instAdd) s4 s7)) s6)) @Bool.true)) (@inb (@Go.IntKind.wrap @Go.IntKind.i64 (@HAdd.hAdd @Int @Int @Int (@instHAdd @Int @Int.instAdd) s4 s7)) (@Nat.cast @Int @instNatCastInt (@List.length (@Kd.T (@Kd.int @Go.IntKind.u8)) s0)))) (@cond (@Option R) (@cond (@Kd.T @Kd.bool) (@Decidable.decide (@LT.lt @Int @Int.instLTInt (@Go.IntKind.wrap @Go.IntKind.i64 (@HAdd.hAdd @Int @Int @Int (@instHAdd @Int @Int.instAdd) s4 s7)) s6) (@Int.decLt (@Go.IntKind.wrap @Go.IntKind.i64 (@HAdd.hAdd @Int @Int @Int (@instHAdd @Int @Int.instAdd) s4 s7)) s6)) (@BEq.beq @Int (@instBEqOfDecidableEq @Int @Int.instDecidableEq) (@List.getD (@Kd.T (@Kd.int @Go.IntKind.u8)) s0 (@Int.toNat (@Go.IntKind.wrap @Go.IntKind.i64 (@HAdd.hAdd @Int @Int @Int (@instHAdd @Int @Int.instAdd) s4 s7))) (@Kd.zero (@Kd.int @Go.IntKind.u8))) (32 : @Int)) @Bool.false) (E1016 s0 s1 s2 s3 s4 s5 s6 (@Go.IntKind.wrap @Go.IntKind.i64 (@HAdd.hAdd @Int @Int @Int (@instHAdd @Int @Int.instAdd) s7 (1 : @Int)))) (@cond (@Option R) (@bnd (@Go.IntKind.wrap @Go.IntKind.i64 (@HAdd.hAdd @Int @Int @Int (@instHAdd @Int @Int.instAdd) s4 s7)) s6 (@Nat.cast @Int @instNatCastInt (@List.length (@Kd.T (@Kd.int @Go.IntKind.u8)) s0))) (@F_ref10_Strip k R (@ofBytes (@cut (@Kd.T (@Kd.int @Go.IntKind.u8)) s0 (@Go.IntKind.wrap @Go.IntKind.i64 (@HAdd.hAdd @Int @Int @Int (@instHAdd @Int @Int.instAdd) s4 s7)) s6)) (fun (y14 : (@List @UInt8)) => (fun (y15 : @Bool) => (@cond (@Option R) (@Bool.not y15) (K (@List.nil (@Kd.T (@Kd.pr (@Kd.int @Go.IntKind.i64) (@Kd.pr (@Kd.int @Go.IntKind.i64) @Kd.str)))) (3 : @Int) s5) (@cond (@Option R) (@Bool.not (@BEq.beq (@List @UInt8) (@List.instBEq @UInt8 (@instBEqOfDecidableEq @UInt8 @instDecidableEqUInt8)) y14 (@List.nil @UInt8))) (@cond (@Option R) (@fits (@List.length (@Kd.T (@Kd.pr (@Kd.int @Go.IntKind.i64) (@Kd.pr (@Kd.int @Go.IntKind.i64) @Kd.str))) s3) (@List.length (@Kd.T (@Kd.pr (@Kd.int @Go.IntKind.i64) (@Kd.pr (@Kd.int @Go.IntKind.i64) @Kd.str))) (@List.cons (@Kd.T (@Kd.pr (@Kd.int @Go.IntKind.i64) (@Kd.pr (@Kd.int @Go.IntKind.i64) @Kd.str))) (@Prod.mk (@Kd.T (@Kd.int @Go.IntKind.i64)) (@Kd.T (@Kd.pr (@Kd.int @Go.IntKind.i64) @Kd.str)) s5 (@Prod.mk (@Kd.T (@Kd.int @Go.IntKind.i64)) (@Kd.T @Kd.str) s7 y14)) (@List.nil (@Kd.T (@Kd.pr (@Kd.int @Go.IntKind.i64) (@Kd.pr (@Kd.int @Go.IntKind.i64) @Kd.str)))))) (32 : @Nat)) (E1006 s0 s1 s2 (@HAppend.hAppend (@Kd.T (@Kd.sl (@Kd.pr (@Kd.int @Go.IntKind.i64) (@Kd.pr (@Kd.int @Go.IntKind.i64) @Kd.str)))) (@List (@Kd.T (@Kd.pr (@Kd.int @Go.IntKind.i64) (@Kd.pr (@Kd.int @Go.IntKind.i64) @Kd.str)))) (@Kd.T (@Kd.sl (@Kd.pr (@Kd.int @Go.IntKind.i64) (@Kd.pr (@Kd.int @Go.IntKind.i64) @Kd.str)))) (@instHAppendOfAppend (@Kd.T (@Kd.sl (@Kd.pr (@Kd.int @Go.IntKind.i64) (@Kd.pr (@Kd.int @Go.IntKind.i64) @Kd.str)))) (@List.instAppend (@Kd.T (@Kd.pr (@Kd.int @Go.IntKind.i64) (@Kd.pr (@Kd.int @Go.IntKind.i64) @Kd.str))))) s3 (@List.cons (@Kd.T (@Kd.pr (@Kd.int @Go.IntKind.i64) (@Kd.pr (@Kd.int @Go.IntKind.i64) @Kd.str))) (@Prod.mk (@Kd.T (@Kd.int @Go.IntKind.i64)) (@Kd.T (@Kd.pr (@Kd.int @Go.IntKind.i64) @Kd.str)) s5 (@Prod.mk (@Kd.T (@Kd.int @Go.IntKind.i64)) (@Kd.T @Kd.str) s7 y14)) (@List.nil (@Kd.T (@Kd.pr (@Kd.int @Go.IntKind.i64) (@Kd.pr (@Kd.int @Go.IntKind.i64) @Kd.str)))))) (@Go.IntKind.wrap @Go.IntKind.i64 (@HAdd.hAdd @Int @Int @Int (@instHAdd @Int @Int.instAdd) s6 (1 : @Int))) (@Go.IntKind.wrap @Go.IntKind.i64 (@HAdd.hAdd @Int @Int @Int (@instHAdd @Int @Int.instAdd) s5 (1 : @Int)))) (@Option.none R)) (E1006 s0 s1 s2 s3 (@Go.IntKind.wrap @Go.IntKind.i64 (@HAdd.hAdd @Int @Int @Int (@instHAdd @Int @Int.instAdd) s6 (1 : @Int))) (@Go.IntKind.wrap @Go.IntKind.i64 (@HAdd.hAdd @Int @Int @Int (@instHAdd @Int @Int.instAdd) s5 (1 : @Int))))))))) (@Option.none R))) (@Option.none R))
theorem B_ref10_Lines_1016_eq (k : Nat) {R : Type} (I : Nat → St → Option R) (s0 : (List Int)) (s1 : Int) (s2 : Int) (s3 : (List (Int × (Int × (List UInt8))))) (s4 : Int) (s5 : Int) (s6 : Int) (s7 : Int) (K : ((List (Int × (Int × (List UInt8)))) → Int → Int → Option R)) : execK (cx_ref10_Lines k) k (at_ [1, 1, 1, 1, 0, 1, 0, 0, 1, 0, 0, 1, 1, 1, 1, 1, 0, 0, 0] code_ref10_Lines) (st_ref10_Lines_1016 s0 s1 s2 s3 s4 s5 s6 s7) (konts (cx_ref10_Lines k) k I [1, 1, 1, 1, 0, 1, 0, 0, 1, 0, 0, 1, 1, 1, 1, 1, 0, 0, 0] code_ref10_Lines (outK (cx_ref10_Lines k) sp_ref10_Lines [.tmp 2, .cell 3 29] (wrap_ref10_Lines K))) = B_ref10_Lines_1016 k (fun s0 s1 s2 s3 s4 s5 => I 1006 (st_ref10_Lines_1006 s0 s1 s2 s3 s4 s5)) (fun s0 s1 s2 s3 s4 s5 s6 s7 => I 1016 (st_ref10_Lines_1016 s0 s1 s2 s3 s4 s5 s6 s7)) s0 s1 s2 s3 s4 s5 s6 s7 K := by kernel_rfl
noncomputable def A_ref10_Lines (k : Nat) {R : Type} (E1006 : ((List Int) → Int → Int → (List (Int × (Int × (List UInt8)))) → Int → Int → Option R)) (x0 : (List Int)) (K : ((List (Int × (Int × (List UInt8)))) → Int → Int → Option R)) : Option R := (@cond (@Option R) (@Decidable.decide (@GT.gt @Int @Int.instLTInt (@Nat.cast @Int @instNatCastInt (@List.length (@Kd.T (@Kd.int @Go.IntKind.u8)) x0)) (16384 : @Int)) (@Int.decLt (16384 : @Int) (@Nat.cast @Int @instNatCastInt (@List.length (@Kd.T (@Kd.int @Go.IntKind.u8)) x0)))) (K (@List.nil (@Kd.T (@Kd.pr (@Kd.int @Go.IntKind.i64) (@Kd.pr (@Kd.int @Go.IntKind.i64) @Kd.str)))) (1 : @Int) (1 : @Int)) (E1006 x0 (0 : (@Kd.T (@Kd.int @Go.IntKind.i64))) (0 : (@Kd.T (@Kd.int @Go.IntKind.i64))) (@List.nil (@Kd.T (@Kd.pr (@Kd.int @Go.IntKind.i64) (@Kd.pr (@Kd.int @Go.IntKind.i64) @Kd.str)))) (0 : @Int) (1 : @Int)))
theorem A_ref10_Lines_eq (k : Nat) {R : Type} (I : Nat → St → Option R) (x0 : (List Int)) (K : ((List (Int × (Int × (List UInt8)))) → Int → Int → Option R)) : fnK (cx_ref10_Lines k) k code_ref10_Lines 98 [.tmp 2, .cell 3 29] sp_ref10_Lines [.v (.sl (.int .u8)) x0] [] (wrap_ref10_Lines K) = A_ref10_Lines k (fun s0 s1 s2 s3 s4 s5 => iter (cx_ref10_Lines k).pv (look (cx_ref10_Lines k).cuts 1006) (execK (cx_ref10_Lines k) k (at_ [1, 1, 1, 1, 0, 1, 0, 0] code_ref10_Lines)) k (st_ref10_Lines_1006 s0 s1 s2 s3 s4 s5) (konts (cx_ref10_Lines k) k I [1, 1, 1, 1, 0, 1, 0] code_ref10_Lines (outK (cx_ref10_Lines k) sp_ref10_Lines [.tmp 2, .cell 3 29] (wrap_ref10_Lines K)))) x0 K := by kernel_rfl
noncomputable def L_ref10_Lines_1016 (k : Nat) {R : Type} (J1006 : ((List Int) → Int → Int → (List (Int × (Int × (List UInt8)))) → Int → Int → Option R)) : Nat → (List Int) → Int → Int → (List (Int × (Int × (List UInt8)))) → Int → Int → Int → Int → ((List (Int × (Int × (List UInt8)))) → Int → Int → Option R) → Option R
  | 0, _, _, _, _, _, _, _, _, _ => none
  | n + 1, s0, s1, s2, s3, s4, s5, s6, s7, K => B_ref10_Lines_1016 k J1006 (fun s0 s1 s2 s3 s4 s5 s6 s7 => L_ref10_Lines_1016 k J1006 n s0 s1 s2 s3 s4 s5 s6 s7 K) s0 s1 s2 s3 s4 s5 s6 s7 K
theorem L_ref10_Lines_1016_eq (k : Nat) {R : Type} (I : Nat → St → Option R) (K : ((List (Int × (Int × (List UInt8)))) → Int → Int → Option R)) : ∀ (n : Nat) (s0 : (List Int)) (s1 : Int) (s2 : Int) (s3 : (List (Int × (Int × (List UInt8))))) (s4 : Int) (s5 : Int) (s6 : Int) (s7 : Int), iter (cx_ref10_Lines k).pv (look (cx_ref10_Lines k).cuts 1016) (execK (cx_ref10_Lines k) k (at_ [1, 1, 1, 1, 0, 1, 0, 0, 1, 0, 0, 1, 1, 1, 1, 1, 0, 0, 0] code_ref10_Lines)) n (st_ref10_Lines_1016 s0 s1 s2 s3 s4 s5 s6 s7) (konts (cx_ref10_Lines k) k I [1, 1, 1, 1, 0, 1, 0, 0, 1, 0, 0, 1, 1, 1, 1, 1, 0, 0] code_ref10_Lines (outK (cx_ref10_Lines k) sp_ref10_Lines [.tmp 2, .cell 3 29] (wrap_ref10_Lines K))) = L_ref10_Lines_1016 k (fun s0 s1 s2 s3 s4 s5 => I 1006 (st_ref10_Lines_1006 s0 s1 s2 s3 s4 s5)) n s0 s1 s2 s3 s4 s5 s6 s7 K := by
  intro n
  induction n with
  | zero => intros; rfl
  | succ n ih =>
    intro s0 s1 s2 s3 s4 s5 s6 s7
    let I' : Nat → St → Option R := fun id s => bif Nat.beq id 1016 then iter (cx_ref10_Lines k).pv (look (cx_ref10_Lines k).cuts 1016) (execK (cx_ref10_Lines k) k (at_ [1, 1, 1, 1, 0, 1, 0, 0, 1, 0, 0, 1, 1, 1, 1, 1, 0, 0, 0] code_ref10_Lines)) n s (konts (cx_ref10_Lines k) k I [1, 1, 1, 1, 0, 1, 0, 0, 1, 0, 0, 1, 1, 1, 1, 1, 0, 0] code_ref10_Lines (outK (cx_ref10_Lines k) sp_ref10_Lines [.tmp 2, .cell 3 29] (wrap_ref10_Lines K))) else I id s
    have e := B_ref10_Lines_1016_eq k I' s0 s1 s2 s3 s4 s5 s6 s7 K
    have h1016 : (fun s0 s1 s2 s3 s4 s5 s6 s7 => I' 1016 (st_ref10_Lines_1016 s0 s1 s2 s3 s4 s5 s6 s7)) = (fun s0 s1 s2 s3 s4 s5 s6 s7 => L_ref10_Lines_1016 k (fun s0 s1 s2 s3 s4 s5 => I 1006 (st_ref10_Lines_1006 s0 s1 s2 s3 s4 s5)) n s0 s1 s2 s3 s4 s5 s6 s7 K) := by funext s0 s1 s2 s3 s4 s5 s6 s7; exact ih s0 s1 s2 s3 s4 s5 s6 s7
    refine Eq.trans (?_ : _ = _) (e.trans (Eq.trans ((congrArg ((fun E1016 => B_ref10_Lines_1016 k (fun s0 s1 s2 s3 s4 s5 => I 1006 (st_ref10_Lines_1006 s0 s1 s2 s3 s4 s5)) E1016 s0 s1 s2 s3 s4 s5 s6 s7 K)) h1016)) (by rw [L_ref10_Lines_1016])))
    rfl
noncomputable def L_ref10_Lines_1010 (k : Nat) {R : Type} (J1006 : ((List Int) → Int → Int → (List (Int × (Int × (List UInt8)))) → Int → Int → Option R)) : Nat → (List Int) → Int → Int → (List (Int × (Int × (List UInt8)))) → Int → Int → Int → Bool → ((List (Int × (Int × (List UInt8)))) → Int → Int → Option R) → Option R
  | 0, _, _, _, _, _, _, _, _, _ => none
  | n + 1, s0, s1, s2, s3, s4, s5, s6, s7, K => B_ref10_Lines_1010 k (fun s0 s1 s2 s3 s4 s5 s6 s7 => L_ref10_Lines_1010 k J1006 n s0 s1 s2 s3 s4 s5 s6 s7 K) (fun s0 s1 s2 s3 s4 s5 s6 s7 => L_ref10_Lines_1016 k J1006 k s0 s1 s2 s3 s4 s5 s6 s7 K) s0 s1 s2 s3 s4 s5 s6 s7 K
theorem L_ref10_Lines_1010_eq (k : Nat) {R : Type} (I : Nat → St → Option R) (K : ((List (Int × (Int × (List UInt8)))) → Int → Int → Option R)) : ∀ (n : Nat) (s0 : (List Int)) (s1 : Int) (s2 : Int) (s3 : (List (Int × (Int × (List UInt8))))) (s4 : Int) (s5 : Int) (s6 : Int) (s7 : Bool), iter (cx_ref10_Lines k).pv (look (cx_ref10_Lines k).cuts 1010) (execK (cx_ref10_Lines k) k (at_ [1, 1, 1, 1, 0, 1, 0, 0, 1, 0, 0, 1, 1, 0, 0, 0] code_ref10_Lines)) n (st_ref10_Lines_1010 s0 s1 s2 s3 s4 s5 s6 s7) (konts (cx_ref10_Lines k) k I [1, 1, 1, 1, 0, 1, 0, 0, 1, 0, 0, 1, 1, 0, 0] code_ref10_Lines (outK (cx_ref10_Lines k) sp_ref10_Lines [.tmp 2, .cell 3 29] (wrap_ref10_Lines K))) = L_ref10_Lines_1010 k (fun s0 s1 s2 s3 s4 s5 => I 1006 (st_ref10_Lines_1006 s0 s1 s2 s3 s4 s5)) n s0 s1 s2 s3 s4 s5 s6 s7 K := by
  intro n
  induction n with
  | zero => intros; rfl
  | succ n ih =>
    intro s0 s1 s2 s3 s4 s5 s6 s7
    let I' : Nat → St → Option R := fun id s => bif Nat.beq id 1010 then iter (cx_ref10_Lines k).pv (look (cx_ref10_Lines k).cuts 1010) (execK (cx_ref10_Lines k) k (at_ [1, 1, 1, 1, 0, 1, 0, 0, 1, 0, 0, 1, 1, 0, 0, 0] code_ref10_Lines)) n s (konts (cx_ref10_Lines k) k I [1, 1, 1, 1, 0, 1, 0, 0, 1, 0, 0, 1, 1, 0, 0] code_ref10_Lines (outK (cx_ref10_Lines k) sp_ref10_Lines [.tmp 2, .cell 3 29] (wrap_ref10_Lines K))) else I id s
    have e := B_ref10_Lines_1010_eq k I' s0 s1 s2 s3 s4 s5 s6 s7 K
    have h1010 : (fun s0 s1 s2 s3 s4 s5 s6 s7 => I' 1010 (st_ref10_Lines_1010 s0 s1 s2 s3 s4 s5 s6 s7)) = (fun s0 s1 s2 s3 s4 s5 s6 s7 => L_ref10_Lines_1010 k (fun s0 s1 s2 s3 s4 s5 => I 1006 (st_ref10_Lines_1006 s0 s1 s2 s3 s4 s5)) n s0 s1 s2 s3 s4 s5 s6 s7 K) := by funext s0 s1 s2 s3 s4 s5 s6 s7; exact ih s0 s1 s2 s3 s4 s5 s6 s7
    have h1016 : (fun s0 s1 s2 s3 s4 s5 s6 s7 => iter (cx_ref10_Lines k).pv (look (cx_ref10_Lines k).cuts 1016) (execK (cx_ref10_Lines k) k (at_ [1, 1, 1, 1, 0, 1, 0, 0, 1, 0, 0, 1, 1, 1, 1, 1, 0, 0, 0] code_ref10_Lines)) k (st_ref10_Lines_1016 s0 s1 s2 s3 s4 s5 s6 s7) (konts (cx_ref10_Lines k) k I' [1, 1, 1, 1, 0, 1, 0, 0, 1, 0, 0, 1, 1, 1, 1, 1, 0, 0] code_ref10_Lines (outK (cx_ref10_Lines k) sp_ref10_Lines [.tmp 2, .cell 3 29] (wrap_ref10_Lines K)))) = (fun s0 s1 s2 s3 s4 s5 s6 s7 => L_ref10_Lines_1016 k (fun s0 s1 s2 s3 s4 s5 => I 1006 (st_ref10_Lines_1006 s0 s1 s2 s3 s4 s5)) k s0 s1 s2 s3 s4 s5 s6 s7 K) := by funext s0 s1 s2 s3 s4 s5 s6 s7; exact (L_ref10_Lines_1016_eq k I' K k s0 s1 s2 s3 s4 s5 s6 s7)
    refine Eq.trans (?_ : _ = _) (e.trans (Eq.trans ((Eq.trans (congrFun (congrArg ((fun E1010 E1016 => B_ref10_Lines_1010 k E1010 E1016 s0 s1 s2 s3 s4 s5 s6 s7 K)) h1010) _) (congrArg ((fun E1010 E1016 => B_ref10_Lines_1010 k E1010 E1016 s0 s1 s2 s3 s4 s5 s6 s7 K) (fun s0 s1 s2 s3 s4 s5 s6 s7 => L_ref10_Lines_1010 k (fun s0 s1 s2 s3 s4 s5 => I 1006 (st_ref10_Lines_1006 s0 s1 s2 s3 s4 s5)) n s0 s1 s2 s3 s4 s5 s6 s7 K)) h1016))) (by rw [L_ref10_Lines_1010])))
    rfl
noncomputable def L_ref10_Lines_1006 (k : Nat) {R : Type}  : Nat → (List Int) → Int → Int → (List (Int × (Int × (List UInt8)))) → Int → Int → ((List (Int × (Int × (List UInt8)))) → Int → Int → Option R) → Option R
  | 0, _, _, _, _, _, _, _ => none
  | n + 1, s0, s1, s2, s3, s4, s5, K => B_ref10_Lines_1006 k (fun s0 s1 s2 s3 s4 s5 s6 s7 => L_ref10_Lines_1010 k (fun s0 s1 s2 s3 s4 s5 => L_ref10_Lines_1006 k  n s0 s1 s2 s3 s4 s5 K) k s0 s1 s2 s3 s4 s5 s6 s7 K) s0 s1 s2 s3 s4 s5 K
theorem L_ref10_Lines_1006_eq (k : Nat) {R : Type} (I : Nat → St → Option R) (K : ((List (Int × (Int × (List UInt8)))) → Int → Int → Option R)) : ∀ (n : Nat) (s0 : (List Int)) (s1 : Int) (s2 : Int) (s3 : (List (Int × (Int × (List UInt8))))) (s4 : Int) (s5 : Int), iter (cx_ref10_Lines k).pv (look (cx_ref10_Lines k).cuts 1006) (execK (cx_ref10_Lines k) k (at_ [1, 1, 1, 1, 0, 1, 0, 0] code_ref10_Lines)) n (st_ref10_Lines_1006 s0 s1 s2 s3 s4 s5) (konts (cx_ref10_Lines k) k I [1, 1, 1, 1, 0, 1, 0] code_ref10_Lines (outK (cx_ref10_Lines k) sp_ref10_Lines [.tmp 2, .cell 3 29] (wrap_ref10_Lines K))) = L_ref10_Lines_1006 k  n s0 s1 s2 s3 s4 s5 K := by
  intro n
  induction n with
  | zero => intros; rfl
  | succ n ih =>
    intro s0 s1 s2 s3 s4 s5
    let I' : Nat → St → Option R := fun id s => bif Nat.beq id 1006 then iter (cx_ref10_Lines k).pv (look (cx_ref10_Lines k).cuts 1006) (execK (cx_ref10_Lines k) k (at_ [1, 1, 1, 1, 0, 1, 0, 0] code_ref10_Lines)) n s (konts (cx_ref10_Lines k) k I [1, 1, 1, 1, 0, 1, 0] code_ref10_Lines (outK (cx_ref10_Lines k) sp_ref10_Lines [.tmp 2, .cell 3 29] (wrap_ref10_Lines K))) else I id s
    have e := B_ref10_Lines_1006_eq k I' s0 s1 s2 s3 s4 s5 K
    have h1006 : (fun s0 s1 s2 s3 s4 s5 => I' 1006 (st_ref10_Lines_1006 s0 s1 s2 s3 s4 s5)) = (fun s0 s1 s2 s3 s4 s5 => L_ref10_Lines_1006 k  n s0 s1 s2 s3 s4 s5 K) := by funext s0 s1 s2 s3 s4 s5; exact ih s0 s1 s2 s3 s4 s5
    have h1010 : (fun s0 s1 s2 s3 s4 s5 s6 s7 => iter (cx_ref10_Lines k).pv (look (cx_ref10_Lines k).cuts 1010) (execK (cx_ref10_Lines k) k (at_ [1, 1, 1, 1, 0, 1, 0, 0, 1, 0, 0, 1, 1, 0, 0, 0] code_ref10_Lines)) k (st_ref10_Lines_1010 s0 s1 s2 s3 s4 s5 s6 s7) (konts (cx_ref10_Lines k) k I' [1, 1, 1, 1, 0, 1, 0, 0, 1, 0, 0, 1, 1, 0, 0] code_ref10_Lines (outK (cx_ref10_Lines k) sp_ref10_Lines [.tmp 2, .cell 3 29] (wrap_ref10_Lines K)))) = (fun s0 s1 s2 s3 s4 s5 s6 s7 => L_ref10_Lines_1010 k (fun s0 s1 s2 s3 s4 s5 => L_ref10_Lines_1006 k  n s0 s1 s2 s3 s4 s5 K) k s0 s1 s2 s3 s4 s5 s6 s7 K) := by funext s0 s1 s2 s3 s4 s5 s6 s7; exact (L_ref10_Lines_1010_eq k I' K k s0 s1 s2 s3 s4 s5 s6 s7).trans (congrArg (fun (JJ : ((List Int) → Int → Int → (List (Int × (Int × (List UInt8)))) → Int → Int → Option R)) => L_ref10_Lines_1010 k JJ k s0 s1 s2 s3 s4 s5 s6 s7 K) h1006)
    refine Eq.trans (?_ : _ = _) (e.trans (Eq.trans ((congrArg ((fun E1010 => B_ref10_Lines_1006 k E1010 s0 s1 s2 s3 s4 s5 K)) h1010)) (by rw [L_ref10_Lines_1006])))
    rfl
noncomputable def F_ref10_Lines (k : Nat) {R : Type} (x0 : (List Int)) (K : ((List (Int × (Int × (List UInt8)))) → Int → Int → Option R)) : Option R := A_ref10_Lines k (fun s0 s1 s2 s3 s4 s5 => L_ref10_Lines_1006 k k s0 s1 s2 s3 s4 s5 K) x0 K
theorem F_ref10_Lines_eq (k : Nat) {R : Type} (x0 : (List Int)) (K : ((List (Int × (Int × (List UInt8)))) → Int → Int → Option R)) : fnK (cx_ref10_Lines k) k code_ref10_Lines 98 [.tmp 2, .cell 3 29] sp_ref10_Lines [.v (.sl (.int .u8)) x0] [] (wrap_ref10_Lines K) = F_ref10_Lines k x0 K := by
  let I : Nat → St → Option R := fun _ _ => none
  have h1006 : (fun s0 s1 s2 s3 s4 s5 => iter (cx_ref10_Lines k).pv (look (cx_ref10_Lines k).cuts 1006) (execK (cx_ref10_Lines k) k (at_ [1, 1, 1, 1, 0, 1, 0, 0] code_ref10_Lines)) k (st_ref10_Lines_1006 s0 s1 s2 s3 s4 s5) (konts (cx_ref10_Lines k) k I [1, 1, 1, 1, 0, 1, 0] code_ref10_Lines (outK (cx_ref10_Lines k) sp_ref10_Lines [.tmp 2, .cell 3 29] (wrap_ref10_Lines K)))) = (fun s0 s1 s2 s3 s4 s5 => L_ref10_Lines_1006 k k s0 s1 s2 s3 s4 s5 K) := by funext s0 s1 s2 s3 s4 s5; exact L_ref10_Lines_1006_eq k I K k s0 s1 s2 s3 s4 s5
  exact (A_ref10_Lines_eq k I x0 K).trans (congrArg ((fun E1006 => A_ref10_Lines k E1006 x0 K)) h1006)
noncomputable def run_ref10_Lines (k : Nat) {R : Type} : List PV → List (Nm × HObj) → (Out → Option R) → Option R
  | [.v (.sl (.int .u8)) x0], [], K => F_ref10_Lines k x0 (fun y0 y1 y2 => K (.ret [.v (.sl (.pr (.int .i64) (.pr (.int .i64) .str))) y0, .agg [.v (.int .i64) y1, .v (.int .i64) y2]] []))
  | _, _, _ => none
theorem C_ref10_Lines_ok (k : Nat) : (C_ref10_Lines k).Ok Tryd.prog := by
  intro f ps hp R K r h
  unfold C_ref10_Lines at h
  simp only at h
  cases hb9 : Nat.beq f 9 with
  | true => rw [hb9, cond_true] at h; rw [Nat.eq_of_beq_eq_true hb9]; exact D_ref10_Strip k h
  | false =>
  rw [hb9, cond_false] at h
  cases h
theorem D_ref10_Lines (k : Nat) {ps : List PV} {hp : List (Nm × HObj)} {R : Type} {K : Out → Option R} {r : R} (h : run_ref10_Lines k ps hp K = some r) : DoesTo Tryd.prog 11 ps hp fun out => K out = some r := by
  unfold run_ref10_Lines at h
  split at h
  · rw [← F_ref10_Lines_eq] at h
    have := fn_ok (P := Tryd.prog) (cx := cx_ref10_Lines k) (f := 11) ⟨tyT_ok, C_ref10_Lines_ok k⟩ (by kernel_rfl) (fn := Tryd.f11) (c := code_ref10_Lines) (by kernel_rfl) (by kernel_rfl) (by kernel_rfl) (rs := [.tmp 2, .cell 3 29]) (by kernel_rfl) (by kernel_rfl) h
    exact this.mono fun out ho => by
      unfold wrap_ref10_Lines at ho
      split at ho <;> first | exact ho | cases ho
  · cases h
end Go.Proofs.YtdbnlohjjoigeaaDoor.Pvm

set_option linter.unusedVariables false
set_option linter.unusedSimpArgs false
namespace Go.Proofs.YtdbnlohjjoigeaaDoor.Pvm
open Go
theorem beq10 (c : UInt8) : ((c.toNat : Int) != 10) = !(c == 10) := u8_bne c 10 (by omega)
theorem getB (t : List UInt8) (n : Nat) (d : Int) (h : n < t.length) : (toBytes t).getD n d = ((t.getD n 0).toNat : Int) := by
  simp [toBytes, List.getD, h]
theorem bad_at (b : Bool) (c : UInt8) : (bif (bif b then true else decide ((c.toNat : Int) < 32)) then true else (c.toNat : Int) == 127) = (b || bad c) := by
  have h1 : decide ((c.toNat : Int) ≥ 0) = true := dec_t (by omega)
  unfold bad oddP
  rw [h1, cond_true]
  cases b <;> cases decide ((c.toNat : Int) < 32) <;> cases ((c.toNat : Int) == 127) <;> rfl
theorem scan_loop (k : Nat) {R : Type} (J : List Int → Int → Int → List Row → Int → Int → Option R) (K : List Row → Int → Int → Option R) (t : List UInt8) (ht : t.length ≤ 20000) (acc : List Row) (at' no : Int) :
    ∀ (n : Nat) (q : List UInt8) (e : Nat) (b : Bool), t.drop e = q → e ≤ t.length → q.length < n →
    L_ref10_Lines_1010 k J n (toBytes t) 0 0 acc at' no (e : Int) b K = bif b || (q.take (upto 10 q)).any bad then K [] 2 no else L_ref10_Lines_1016 k J k (toBytes t) 0 0 acc at' no ((e + upto 10 q : Nat) : Int) 0 K := by
  intro n
  induction n with
  | zero => intro q e b _ _ h; omega
  | succ n ih =>
    intro q e b hq he hn
    rw [L_ref10_Lines_1010]
    unfold B_ref10_Lines_1010
    rw [toBytes_len]
    cases q with
    | nil =>
      have := drop_nil hq
      simp (disch := omega) only [dec_t, dec_f, ieq_t, ieq_f, ine_t, ine_f, inb_t, bnd_t, wrap_id, wrap8_id, cond_true, cond_false, Bool.not_true, Bool.not_false, Bool.true_or, Bool.or_true, Bool.false_or, Bool.or_false, Bool.true_and, Bool.and_true, Bool.false_and, Bool.and_false, bool_eq_true', bool_eq_false', toNat_cast']
      simp [upto]
    | cons x q =>
      obtain ⟨h1, h2, h3⟩ := drop_cons' hq
      have hg : (toBytes t).getD e (Kd.int IntKind.u8).zero = (x.toNat : Int) := by rw [getB t e _ h1, h2]
      simp (disch := omega) only [dec_t, dec_f, ieq_t, ieq_f, ine_t, ine_f, inb_t, bnd_t, wrap_id, wrap8_id, cond_true, cond_false, Bool.not_true, Bool.not_false, Bool.true_or, Bool.or_true, Bool.false_or, Bool.or_false, Bool.true_and, Bool.and_true, Bool.false_and, Bool.and_false, bool_eq_true', bool_eq_false', toNat_cast', hg, beq10, bad_at]
      rw [cast_succ, ih q (e + 1) _ h3 (by omega) (by simp at hn; omega), upto]
      cases hx : x == 10 with
      | true => simp
      | false =>
        simp only [Bool.not_false, cond_true, cond_false, List.take_succ_cons, List.any_cons]
        rw [show e + 1 + upto 10 q = e + (upto 10 q + 1) by omega, Bool.or_assoc]
/-- a line, its blanks ahead counted -/
def finL (k : Nat) {R : Type} (J : List Row → Option R) (K : List Row → Int → Int → Option R) (acc : List Row) (no : Nat) (p : List UInt8) : Option R :=
  match stS (lt32 p) k 0 with
  | none => K [] 3 (no : Int)
  | some e => J (acc ++ rowL k no p e)
theorem blank_loop (k : Nat) {R : Type} (J : List Int → Int → Int → List Row → Int → Int → Option R) (K : List Row → Int → Int → Option R) (t : List UInt8) (ht : t.length ≤ 20000) (hk : 20000 < k) (acc : List Row) (ha : acc.length ≤ 20000) (at' no u : Nat)
    (hno : no ≤ 30000) (hat : at' + u ≤ t.length) (p : List UInt8) (hp : (t.drop at').take u = p) :
    ∀ (n m : Nat) (q : List UInt8), p.drop m = q → m ≤ p.length → q.length < n → lt32 p = lt32 q →
    L_ref10_Lines_1016 k J n (toBytes t) 0 0 acc (at' : Int) (no : Int) ((at' + u : Nat) : Int) (m : Int) K = finL k (fun a => J (toBytes t) 0 0 a ((at' + u + 1 : Nat) : Int) ((no + 1 : Nat) : Int)) K acc no p := by
  have hpl : p.length = u := by rw [← hp, List.length_take, List.length_drop]; omega
  intro n
  induction n with
  | zero => intro m q _ _ h; omega
  | succ n ih =>
    intro m q hq hm hn hlt
    rw [L_ref10_Lines_1016]
    unfold B_ref10_Lines_1016
    have w1 : IntKind.i64.wrap ((at' : Int) + (m : Int)) = ((at' + m : Nat) : Int) := by rw [wrap_id (by omega) (by omega)]; omega
    have hcut : cut (toBytes t) ((at' + m : Nat) : Int) ((at' + u : Nat) : Int) = toBytes q := by
      rw [← hq, ← hp]
      simp only [cut, toBytes, Int.toNat_natCast, List.map_drop, List.map_take]
      rw [List.drop_take, List.drop_take, List.drop_drop, show at' + u - (at' + m) = u - m by omega]
    have hend : (lt32 q = q) → (F_ref10_Strip k (ofBytes (cut (toBytes t) ((at' + m : Nat) : Int) ((at' + u : Nat) : Int))) fun y14 y15 =>
            bif !y15 then K [] 3 (no : Int)
            else
              bif !(y14 == []) then
                bif fits acc.length [((no : Int), ((m : Int), y14))].length 32 then
                  J (toBytes t) 0 0 (acc ++ [((no : Int), ((m : Int), y14))]) (((at' + u : Nat) : Int) + 1) ((no : Int) + 1)
                else none
              else J (toBytes t) 0 0 acc (((at' + u : Nat) : Int) + 1) ((no : Int) + 1)) = finL k (fun a => J (toBytes t) 0 0 a ((at' + u + 1 : Nat) : Int) ((no + 1 : Nat) : Int)) K acc no p := by
      intro hlq
      have hql : q.length = p.length - m := by rw [← hq, List.length_drop]
      rw [hcut, ofBytes_toBytes, ref10_Strip_eq k q (by omega) (by omega)]
      have w2 : ((at' + u : Nat) : Int) + 1 = ((at' + u + 1 : Nat) : Int) := by omega
      have w3 : (no : Int) + 1 = ((no + 1 : Nat) : Int) := by omega
      have hf : ∀ z : Row, fits acc.length [z].length 32 = true := fun z => fits_t (by simp; omega) (by simp; omega)
      rw [finL, hlt, hlq]
      cases hs : stS q k 0 with
      | none => simp [stK]
      | some e =>
        have hd : (p.length : Int) - (q.length : Int) = (m : Int) := by omega
        simp only [stK, Bool.not_true, cond_false, w2, w3, hf, cond_true]
        unfold rowL
        rw [hlt, hlq, hd]
        cases rt (q.take e) == [] <;> simp
    rw [w1, toBytes_len]
    by_cases hmu : m < u
    · obtain ⟨x, q', rfl⟩ : ∃ x q', q = x :: q' := by
        cases q with
        | nil => have := drop_nil hq; omega
        | cons x q' => exact ⟨x, q', rfl⟩
      obtain ⟨h1, h2, h3⟩ := drop_cons' hq
      have hx : t.getD (at' + m) 0 = x := by
        have := h2 0
        rw [← hp] at this
        simpa [List.getD, List.getElem?_take, List.getElem?_drop, hmu] using this
      have hg : (toBytes t).getD (at' + m) (Kd.int IntKind.u8).zero = (x.toNat : Int) := by rw [getB t _ _ (by omega), hx]
      simp (disch := omega) only [dec_t, dec_f, ieq_t, ieq_f, ine_t, ine_f, inb_t, bnd_t, wrap_id, wrap8_id, cond_true, cond_false, Bool.not_true, Bool.not_false, Bool.true_or, Bool.or_true, Bool.false_or, Bool.or_false, Bool.true_and, Bool.and_true, Bool.false_and, Bool.and_false, bool_eq_true', bool_eq_false', toNat_cast', hg, beq32]
      cases hb : x == 32 with
      | true =>
        rw [cond_true, cast_succ]
        refine ih (m + 1) q' h3 (by omega) (by simp at hn; omega) ?_
        rw [hlt, lt32, List.dropWhile_cons, hb]; rfl
      | false =>
        rw [cond_false]
        exact hend (by rw [lt32, List.dropWhile_cons, hb]; rfl)
    · have : q = [] := by rw [← hq, List.drop_eq_nil_of_le (by omega)]
      subst this
      simp (disch := omega) only [dec_t, dec_f, ieq_t, ieq_f, ine_t, ine_f, inb_t, bnd_t, wrap_id, wrap8_id, cond_true, cond_false, Bool.not_true, Bool.not_false, Bool.true_or, Bool.or_true, Bool.false_or, Bool.or_false, Bool.true_and, Bool.and_true, Bool.false_and, Bool.and_false, bool_eq_true', bool_eq_false', toNat_cast']
      exact hend rfl
theorem linesS_one (k no : Nat) (acc : List Row) (hk : 0 < k) : linesS k [[]] no acc = (acc, 0, 0) := by
  obtain ⟨m, rfl⟩ : ∃ m, k = m + 1 := ⟨k - 1, by omega⟩
  rw [linesS]
  have h1 : stS (lt32 []) (m + 1) 0 = some 0 := rfl
  have h2 : ([] : List UInt8).any bad = false := rfl
  rw [h1, h2]
  show linesS (m + 1) [] (no + 1) (acc ++ []) = _
  rw [linesS, List.append_nil]
end Go.Proofs.YtdbnlohjjoigeaaDoor.Pvm

set_option linter.unusedVariables false
set_option linter.unusedSimpArgs false
namespace Go.Proofs.YtdbnlohjjoigeaaDoor.Pvm
open Go
theorem ref10_Lines_loop (k : Nat) {R : Type} (K : List Row → Int → Int → Option R) (t : List UInt8) (ht : t.length ≤ 16384) (hk : 20000 < k) :
    ∀ (n : Nat) (r : List UInt8) (at' no : Nat) (acc : List Row), t.drop at' = r → r.length < n → no ≤ at' + 1 → acc.length ≤ at' → at' ≤ t.length + 1 →
    L_ref10_Lines_1006 k n (toBytes t) 0 0 acc (at' : Int) (no : Int) K = (linesS k (spl r) no acc |> fun z => K z.1 z.2.1 z.2.2) := by
  intro n
  induction n with
  | zero => intro r at' no acc _ h; omega
  | succ n ih =>
    intro r at' no acc hr hn hno ha hat
    rw [L_ref10_Lines_1006]
    unfold B_ref10_Lines_1006
    rw [toBytes_len]
    by_cases hl : at' < t.length
    · rw [dec_t (by omega : (at' : Int) < (t.length : Int)), cond_true]
      dsimp only
      have hrl : r.length = t.length - at' := by rw [← hr, List.length_drop]
      have hu := upto_le 10 r
      rw [scan_loop k _ K t (by omega) acc at' no k r at' false hr (by omega) (by omega), Bool.false_or, spl_upto]
      have hp : (t.drop at').take (upto 10 r) = r.take (upto 10 r) := by rw [hr]
      have hnext := ih (r.drop (upto 10 r + 1)) (at' + upto 10 r + 1) (no + 1)
      have hdrop : t.drop (at' + upto 10 r + 1) = r.drop (upto 10 r + 1) := by rw [← hr, List.drop_drop, Nat.add_assoc]
      have hbl := blank_loop k (fun s0 s1 s2 s3 s4 s5 => L_ref10_Lines_1006 k n s0 s1 s2 s3 s4 s5 K) K t (by omega) hk acc (by omega) at' no (upto 10 r) (by omega) (by omega) _ hp k 0 _ rfl (by omega) (by rw [List.length_drop, List.length_take]; omega) rfl
      have hz : ((0 : Nat) : Int) = 0 := rfl
      rw [hz] at hbl
      rw [hbl]
      by_cases hlt : upto 10 r < r.length
      · rw [if_pos hlt, linesS]
        cases hb : (r.take (upto 10 r)).any bad with
        | true => rfl
        | false =>
          rw [cond_false, cond_false, finL]
          cases hs : stS (lt32 (r.take (upto 10 r))) k 0 with
          | none => rfl
          | some e =>
            dsimp only
            have := rowL_len k no (r.take (upto 10 r)) e
            exact hnext _ hdrop (by rw [List.length_drop]; omega) (by omega) (by rw [List.length_append]; omega) (by omega)
      · have hfull : r.take (upto 10 r) = r := List.take_of_length_le (by omega)
        rw [if_neg hlt, linesS, hfull]
        cases hb : r.any bad with
        | true => rfl
        | false =>
          rw [cond_false, cond_false, finL]
          cases hs : stS (lt32 r) k 0 with
          | none => rfl
          | some e =>
            dsimp only
            have := rowL_len k no r e
            have h2 := hnext (acc ++ rowL k no r e) hdrop (by rw [List.length_drop]; omega) (by omega) (by rw [List.length_append]; omega) (by omega)
            rw [List.drop_eq_nil_of_le (by omega)] at h2
            rw [h2]
            have : spl [] = [[]] := rfl
            rw [this, linesS_one k _ _ (by omega), linesS]
    · have : r = [] := by rw [← hr, List.drop_eq_nil_of_le (by omega)]
      subst this
      rw [dec_f (by omega : ¬ (at' : Int) < (t.length : Int)), cond_false]
      have : spl [] = [[]] := rfl
      rw [this, linesS_one k _ _ (by omega)]
theorem ref10_Lines_eq (k : Nat) {R : Type} (s : List UInt8) (hk : 20000 < k) (K : List Row → Int → Int → Option R) :
    F_ref10_Lines k (toBytes s) K = bif decide (s.length > 16384) then K [] 1 1 else (linesS k (spl s) 1 [] |> fun z => K z.1 z.2.1 z.2.2) := by
  unfold F_ref10_Lines A_ref10_Lines
  rw [toBytes_len]
  by_cases h : s.length > 16384
  · rw [dec_t h]
    have : decide ((s.length : Int) > 16384) = true := dec_t (by omega)
    rw [this]; rfl
  · rw [dec_f h]
    have : decide ((s.length : Int) > 16384) = false := dec_f (by omega)
    rw [this, cond_false, cond_false]
    exact ref10_Lines_loop k K s (by omega) hk k s 0 1 [] rfl (by omega) (by omega) (by simp) (by omega)
theorem lines_loop (k : Nat) {R : Type} (K : Bool → Option R) (l : List Row) (hl : l.length ≤ 1000000) : ∀ (n i : Nat), i ≤ l.length → l.length < i + n → L_law10_lines_1004 k n l l (i : Int) K = K true := by
  intro n
  induction n with
  | zero => intro i _ h; omega
  | succ n ih =>
    intro i hi hn
    rw [L_law10_lines_1004]
    unfold B_law10_lines_1004
    by_cases h : i < l.length
    · simp (disch := omega) only [dec_t, dec_f, ieq_t, ieq_f, ine_t, ine_f, inb_t, bnd_t, wrap_id, wrap8_id, cond_true, cond_false, Bool.not_true, Bool.not_false, Bool.true_or, Bool.or_true, Bool.false_or, Bool.or_false, Bool.true_and, Bool.and_true, Bool.false_and, Bool.and_false, bool_eq_true', bool_eq_false', toNat_cast']
      simp only [beq_self_eq_true, Bool.and_self, Bool.not_true, cond_false]
      rw [cast_succ]
      exact ih (i + 1) (by omega) (by omega)
    · simp (disch := omega) only [dec_t, dec_f, ieq_t, ieq_f, ine_t, ine_f, inb_t, bnd_t, wrap_id, wrap8_id, cond_true, cond_false, Bool.not_true, Bool.not_false, Bool.true_or, Bool.or_true, Bool.false_or, Bool.or_false, Bool.true_and, Bool.and_true, Bool.false_and, Bool.and_false, bool_eq_true', bool_eq_false', toNat_cast']
theorem lines_eq (k : Nat) {R : Type} (K : Bool → Option R) (l : List Row) (hl : l.length ≤ 1000000) (hk : l.length < k) : F_law10_lines k l l K = K true := by
  unfold F_law10_lines A_law10_lines
  rw [ine_f rfl, cond_false]
  exact lines_loop k K l hl k 0 (by omega) (by omega)
theorem linesS_len (k : Nat) : ∀ (ps : List (List UInt8)) (no : Nat) (acc : List Row), (linesS k ps no acc).1.length ≤ acc.length + ps.length
  | [], no, acc => by simp [linesS]
  | p :: ps, no, acc => by
    rw [linesS]
    cases p.any bad with
    | true => simp
    | false =>
      cases stS (lt32 p) k 0 with
      | none => simp
      | some e =>
        have := linesS_len k ps (no + 1) (acc ++ rowL k no p e)
        have h2 := rowL_len k no p e
        simp only [cond_false, List.length_append, List.length_cons] at this ⊢
        omega
end Go.Proofs.YtdbnlohjjoigeaaDoor.Pvm

set_option linter.unusedVariables false
set_option linter.unusedSimpArgs false
namespace Go.Proofs.YtdbnlohjjoigeaaDoor.Pvm
open Go
/-- lines, each with its end -/
def cat : List (List UInt8) → List UInt8
  | [] => []
  | l :: ls => l ++ 10 :: cat ls
theorem spl_line : ∀ (l z : List UInt8), (10 : UInt8) ∉ l → spl (l ++ 10 :: z) = l :: spl z
  | [], z, _ => by simp [spl]
  | x :: l, z, h => by
    have hx : (x == 10) = false := by
      have : x ≠ 10 := fun e => h (by rw [e]; exact List.mem_cons_self)
      simpa using this
    rw [List.cons_append, spl, hx, cond_false, spl_line l z fun hm => h (List.mem_cons_of_mem _ hm)]
theorem spl_cat : ∀ (ls : List (List UInt8)) (z : List UInt8), (∀ l ∈ ls, (10 : UInt8) ∉ l) → spl (cat ls ++ z) = ls ++ spl z
  | [], z, _ => rfl
  | l :: ls, z, h => by
    rw [cat, List.append_assoc, List.cons_append, spl_line _ _ (h l (by simp)), spl_cat ls z fun q hq => h q (by simp [hq])]
    rfl
theorem cut_lines : ∀ t : List UInt8, ∃ (ls : List (List UInt8)) (tl : List UInt8), t = cat ls ++ tl ∧ (∀ l ∈ ls, (10 : UInt8) ∉ l) ∧ (10 : UInt8) ∉ tl ∧ ls.length = t.count 10
  | [] => ⟨[], [], rfl, by simp, by simp, rfl⟩
  | x :: t => by
    obtain ⟨ls, tl, h1, h2, h3, h4⟩ := cut_lines t
    by_cases hx : x = 10
    · subst hx
      exact ⟨[] :: ls, tl, by rw [h1]; rfl, fun l hl => by
        rcases List.mem_cons.1 hl with rfl | hl
        · simp
        · exact h2 l hl, h3, by simp [h4]⟩
    · have hc : (x :: t).count 10 = t.count 10 := by rw [List.count_cons]; simp [hx]
      cases ls with
      | nil => exact ⟨[], x :: tl, by rw [h1]; rfl, by simp, by simp [h3, Ne.symm hx], by rw [hc]; exact h4⟩
      | cons l ls => exact ⟨(x :: l) :: ls, tl, by rw [h1]; rfl, fun q hq => by
          rcases List.mem_cons.1 hq with rfl | hq
          · have := h2 l (by simp)
            simp [this, Ne.symm hx]
          · exact h2 q (by simp [hq]), h3, by rw [hc]; exact h4⟩
theorem cat_last : ∀ (ls : List (List UInt8)), ls ≠ [] → (cat ls).getLast? = some 10
  | [], h => absurd rfl h
  | [l], _ => by simp [cat]
  | l :: m :: ls, _ => by
    rw [cat, List.getLast?_append, List.getLast?_cons, cat_last (m :: ls) (by simp)]
    rfl
/-- a text that is empty or ends with a line's end -/
theorem whole_lines (t : List UInt8) (h : t = [] ∨ t.getLast? = some 10) : ∃ ls : List (List UInt8), t = cat ls ∧ (∀ l ∈ ls, (10 : UInt8) ∉ l) ∧ ls.length = t.count 10 := by
  obtain ⟨ls, tl, h1, h2, h3, h4⟩ := cut_lines t
  have : tl = [] := by
    rcases h with h | h
    · rw [h] at h1
      have := (List.append_eq_nil_iff.1 h1.symm).2
      exact this
    · cases tl with
      | nil => rfl
      | cons x r =>
        exfalso
        rw [h1, List.getLast?_append, List.getLast?_eq_some_getLast (List.cons_ne_nil x r)] at h
        simp only [Option.some_or, Option.some.injEq] at h
        exact h3 (h ▸ List.getLast_mem (List.cons_ne_nil x r))
  subst this
  exact ⟨ls, by rw [h1]; simp, h2, h4⟩
theorem linesS_app (k : Nat) : ∀ (ps qs : List (List UInt8)) (no : Nat) (acc : List Row), linesS k (ps ++ qs) no acc = if (linesS k ps no acc).2.1 = 0 then linesS k qs (no + ps.length) (linesS k ps no acc).1 else linesS k ps no acc
  | [], qs, no, acc => by simp [linesS]
  | p :: ps, qs, no, acc => by
    rw [List.cons_append, linesS, linesS]
    cases p.any bad with
    | true => simp
    | false =>
      cases stS (lt32 p) k 0 with
      | none => simp
      | some e =>
        simp only [cond_false]
        rw [linesS_app k ps qs, List.length_cons]
        rw [show no + 1 + ps.length = no + (ps.length + 1) by omega]
/-- rows of later lines, moved by one -/
def mv (no : Nat) (r : Row) : Row := if r.1 > (no : Int) then (r.1 + 1, r.2) else r
theorem rowL_mv (k no m : Nat) (h : no < m) (p : List UInt8) (e : Nat) : rowL k (m + 1) p e = (rowL k m p e).map (mv no) := by
  unfold rowL
  cases rt ((lt32 p).take e) == [] with
  | true => rfl
  | false =>
    have : ((m : Int) > (no : Int)) := by omega
    simp [mv, this]
theorem linesS_mv (k no : Nat) : ∀ (qs : List (List UInt8)) (m : Nat) (acc : List Row), no < m →
    linesS k qs (m + 1) (acc.map (mv no)) = ((linesS k qs m acc).1.map (mv no), (linesS k qs m acc).2.1, if (linesS k qs m acc).2.2 > (no : Int) then (linesS k qs m acc).2.2 + 1 else (linesS k qs m acc).2.2)
  | [], m, acc, h => by
    have : ¬ ((0 : Int) > (no : Int)) := by omega
    show (acc.map (mv no), (0 : Int), (0 : Int)) = (acc.map (mv no), (0 : Int), if (0 : Int) > (no : Int) then (0 : Int) + 1 else (0 : Int))
    rw [if_neg this]
  | p :: qs, m, acc, h => by
    rw [linesS, linesS]
    have h1 : ((m : Int) > (no : Int)) := by omega
    cases p.any bad with
    | true => simp [h1]
    | false =>
      cases stS (lt32 p) k 0 with
      | none => simp [h1]
      | some e =>
        simp only [cond_false]
        rw [rowL_mv k no m h, ← List.map_append]
        exact linesS_mv k no qs (m + 1) _ (by omega)
theorem linesS_low (k no : Nat) : ∀ (ps : List (List UInt8)) (m : Nat) (acc : List Row), m + ps.length ≤ no + 1 → acc.map (mv no) = acc →
    (linesS k ps m acc).1.map (mv no) = (linesS k ps m acc).1 ∧ (linesS k ps m acc).2.2 ≤ (no : Int)
  | [], m, acc, h, ha => ⟨ha, by simp only [linesS]; omega⟩
  | p :: ps, m, acc, h, ha => by
    rw [linesS]
    simp only [List.length_cons] at h
    cases p.any bad with
    | true => simp; omega
    | false =>
      cases stS (lt32 p) k 0 with
      | none => simp; omega
      | some e =>
        simp only [cond_false]
        refine linesS_low k no ps (m + 1) _ (by omega) ?_
        rw [List.map_append, ha]
        congr 1
        unfold rowL
        cases rt ((lt32 p).take e) == [] with
        | true => rfl
        | false =>
          have : ¬ ((m : Int) > (no : Int)) := by omega
          simp [mv, this]
/-- a line that says nothing -/
def mute (k : Nat) (p : List UInt8) : Prop := p.any bad = false ∧ ∃ e, stS (lt32 p) k 0 = some e ∧ rt ((lt32 p).take e) = []
theorem linesS_mute (k no : Nat) (p : List UInt8) (h : mute k p) (qs : List (List UInt8)) (acc : List Row) : linesS k (p :: qs) no acc = linesS k qs (no + 1) acc := by
  obtain ⟨h1, e, h2, h3⟩ := h
  rw [linesS, h1, h2]
  simp only [cond_false]
  unfold rowL
  rw [h3]
  simp
theorem mute_rem (k n : Nat) (hk : 0 < k) (q : List UInt8) (hq : q = [] ∨ ∃ r, q = 35 :: r) (hb : q.any bad = false) : mute k (List.replicate n 32 ++ q) := by
  have hlt : lt32 (List.replicate n 32 ++ q) = q := by
    unfold lt32
    rw [List.dropWhile_append_of_pos (by intro x hx; rw [List.eq_of_mem_replicate hx]; rfl)]
    rcases hq with rfl | ⟨r, rfl⟩ <;> rfl
  refine ⟨?_, 0, ?_, by simp [rt]⟩
  · rw [List.any_append, hb, Bool.or_false]
    have : bad 32 = false := by decide +kernel
    rw [List.any_eq_false]
    intro x hx
    rw [List.eq_of_mem_replicate hx, this]; simp
  · rw [hlt]
    obtain ⟨m, rfl⟩ : ∃ m, k = m + 1 := ⟨k - 1, by omega⟩
    rcases hq with rfl | ⟨r, rfl⟩
    · rfl
    · rw [stS, ble_f (by simp), cond_false]
      rfl
/-- what is told with a mute line put in -/
theorem remark_in (k : Nat) (pre post more : List UInt8) (hpre : pre = [] ∨ pre.getLast? = some 10) (hm : mute k more) (h10 : (10 : UInt8) ∉ more) :
    linesS k (spl (pre ++ (more ++ 10 :: post))) 1 [] = ((linesS k (spl (pre ++ post)) 1 []).1.map (mv (pre.count 10)), (linesS k (spl (pre ++ post)) 1 []).2.1,
      if (linesS k (spl (pre ++ post)) 1 []).2.2 > ((pre.count 10 : Nat) : Int) then (linesS k (spl (pre ++ post)) 1 []).2.2 + 1 else (linesS k (spl (pre ++ post)) 1 []).2.2) := by
  obtain ⟨ls, h1, h2, h3⟩ := whole_lines pre hpre
  rw [← h3, h1, spl_cat _ _ h2, spl_cat _ _ h2, spl_line _ _ h10, linesS_app, linesS_app]
  obtain ⟨l1, l2⟩ := linesS_low k ls.length ls 1 [] (by omega) rfl
  by_cases hz : (linesS k ls 1 []).2.1 = 0
  · rw [if_pos hz, if_pos hz, linesS_mute k _ more hm]
    conv => lhs; rw [← l1]
    exact linesS_mv k ls.length (spl post) (1 + ls.length) _ (by omega)
  · rw [if_neg hz, if_neg hz, l1, if_neg (by omega)]
end Go.Proofs.YtdbnlohjjoigeaaDoor.Pvm

set_option linter.unusedVariables false
set_option linter.unusedSimpArgs false
namespace Go.Proofs.YtdbnlohjjoigeaaDoor.Pvm
open Go
theorem both_self {R : Type} (a : Option R) : both a a = a := by unfold both; exact if_pos rfl
theorem toBytes_snoc (l : List UInt8) (c : UInt8) : toBytes l ++ [(c.toNat : Int)] = toBytes (l ++ [c]) := by simp [toBytes]
def fillB (N i : Nat) : List UInt8 := List.replicate i 32 ++ List.replicate (N - i) 0
theorem fillB_len (N i : Nat) (h : i ≤ N) : (toBytes (fillB N i)).length = N := by
  rw [toBytes_len, fillB, List.length_append, List.length_replicate, List.length_replicate]; omega
theorem fillB_set (N i : Nat) (h : i < N) : (toBytes (fillB N i)).set i 32 = toBytes (fillB N (i + 1)) := by
  obtain ⟨j, hj⟩ : ∃ j, N - i = j + 1 := ⟨N - i - 1, by omega⟩
  have e2 : N - (i + 1) = j := by omega
  unfold fillB
  rw [hj, e2, List.replicate_succ (n := j), List.replicate_succ' (n := i)]
  simp only [toBytes, List.map_append, List.map_cons, List.map_replicate, List.map_nil]
  rw [List.set_append_right _ _ (by simp)]
  simp
def remH (r : List UInt8) : List UInt8 := bif decide (0 < r.length) then [35] else []
theorem fill_loop (k : Nat) {R : Type} (K : Bool → Option R) (t r : List UInt8) (a : Int) (N : Nat) (hN : N ≤ 50) (hr : r.length ≤ 200) :
    ∀ (n i : Nat), i ≤ N → N < i + n → L_law10_LineRemarks_1005 k n (toBytes t) a (N : Int) (toBytes r) (toBytes (fillB N i)) (i : Int) K = L_law10_LineRemarks_1011 k k (toBytes t) a (toBytes r) (toBytes (List.replicate N 32 ++ remH r)) 0 K := by
  intro n
  induction n with
  | zero => intro i _ h; omega
  | succ n ih =>
    intro i hi hn
    rw [L_law10_LineRemarks_1005]
    unfold B_law10_LineRemarks_1005
    have hl := fillB_len N i hi
    by_cases h : i < N
    · have hl' : ((toBytes (fillB N i)).length : Int) = (N : Int) := by rw [hl]
      simp (disch := omega) only [dec_t, dec_f, ieq_t, ieq_f, ine_t, ine_f, inb_t, bnd_t, wrap_id, wrap8_id, cond_true, cond_false, Bool.not_true, Bool.not_false, Bool.true_or, Bool.or_true, Bool.false_or, Bool.or_false, Bool.true_and, Bool.and_true, Bool.false_and, Bool.and_false, bool_eq_true', bool_eq_false', toNat_cast', hl', fillB_set N i h, cast_succ]
      exact ih (i + 1) (by omega) (by omega)
    · have hi' : i = N := by omega
      subst hi'
      have e : fillB i i = List.replicate i 32 := by simp [fillB]
      have f1 : fits (toBytes (List.replicate i 32)).length ([35] : List Int).length 1 = true := fits_t (by rw [toBytes_len, List.length_replicate]; simp; omega) (by rw [toBytes_len, List.length_replicate]; simp; omega)
      have hd : decide ((i : Int) < (i : Int)) = false := dec_f (by omega)
      rw [hd, cond_false, e, f1, cond_true, toBytes_len]
      unfold remH
      by_cases hz : 0 < r.length
      · rw [dec_t (by omega : (r.length : Int) > 0), dec_t hz, cond_true, cond_true]
        have := toBytes_snoc (List.replicate i 32) 35
        exact congrArg (fun z => L_law10_LineRemarks_1011 k k (toBytes t) a (toBytes r) z 0 K) this
      · rw [dec_f (by omega : ¬ (r.length : Int) > 0), dec_f hz, cond_false, cond_false, List.append_nil]
theorem vis_eq (c : UInt8) : (bif decide ((c.toNat : Int) ≥ 32) then ((c.toNat : Int) != 127) else false) = !bad c := by
  have h1 : decide ((c.toNat : Int) ≥ 0) = true := dec_t (by omega)
  have h2 : decide ((c.toNat : Int) ≥ 32) = !decide ((c.toNat : Int) < 32) := by
    by_cases h : (c.toNat : Int) < 32
    · rw [dec_t h, dec_f (by omega)]; rfl
    · rw [dec_f h, dec_t (by omega)]; rfl
  unfold bad oddP
  rw [h1, cond_true, h2]
  cases decide ((c.toNat : Int) < 32) with
  | true => rfl
  | false =>
    have : ((c.toNat : Int) != 127) = !((c.toNat : Int) == 127) := rfl
    rw [this]
    cases ((c.toNat : Int) == 127) <;> rfl
def visS (r : List UInt8) : List UInt8 := r.filter fun c => !bad c
theorem visS_len (r : List UInt8) : (visS r).length ≤ r.length := List.length_filter_le _ _
theorem rem_loop (k : Nat) {R : Type} (K : Bool → Option R) (t r : List UInt8) (a : Int) (hr : r.length ≤ 200) :
    ∀ (n : Nat) (q : List UInt8) (i : Nat) (acc : List UInt8), r.drop i = q → i ≤ r.length → q.length < n → acc.length ≤ 100 + i →
    L_law10_LineRemarks_1011 k n (toBytes t) a (toBytes r) (toBytes acc) (i : Int) K = L_law10_LineRemarks_1016 k k (toBytes t) a (toBytes (acc ++ visS q)) 0 0 K := by
  intro n
  induction n with
  | zero => intro q i acc _ _ h; omega
  | succ n ih =>
    intro q i acc hq hi hn ha
    rw [L_law10_LineRemarks_1011]
    unfold B_law10_LineRemarks_1011
    rw [toBytes_len]
    cases q with
    | nil =>
      have := drop_nil hq
      simp (disch := omega) only [dec_t, dec_f, ieq_t, ieq_f, ine_t, ine_f, inb_t, bnd_t, wrap_id, wrap8_id, cond_true, cond_false, Bool.not_true, Bool.not_false, Bool.true_or, Bool.or_true, Bool.false_or, Bool.or_false, Bool.true_and, Bool.and_true, Bool.false_and, Bool.and_false, bool_eq_true', bool_eq_false', toNat_cast']
      simp [visS]
    | cons c q =>
      obtain ⟨h1, h2, h3⟩ := drop_cons' hq
      have hg : (toBytes r).getD i (Kd.int IntKind.u8).zero = (c.toNat : Int) := by rw [getB r i _ h1, h2]
      have f1 : fits (toBytes acc).length ([(c.toNat : Int)] : List Int).length 1 = true := fits_t (by rw [toBytes_len]; simp; omega) (by rw [toBytes_len]; simp; omega)
      simp (disch := omega) only [dec_t, dec_f, ieq_t, ieq_f, ine_t, ine_f, inb_t, bnd_t, wrap_id, wrap8_id, cond_true, cond_false, Bool.not_true, Bool.not_false, Bool.true_or, Bool.or_true, Bool.false_or, Bool.or_false, Bool.true_and, Bool.and_true, Bool.false_and, Bool.and_false, bool_eq_true', bool_eq_false', toNat_cast', hg, vis_eq, f1, cast_succ, toBytes_snoc]
      simp only [List.length_cons] at hn
      cases hb : bad c with
      | true =>
        simp only [Bool.not_true, cond_false]
        rw [ih q (i + 1) acc h3 (by omega) (by omega) (by omega)]
        have : visS (c :: q) = visS q := by simp [visS, hb]
        rw [this]
      | false =>
        simp only [Bool.not_false, cond_true]
        rw [ih q (i + 1) _ h3 (by omega) (by omega) (by simp; omega)]
        have : visS (c :: q) = c :: visS q := by simp [visS, hb]
        rw [this, List.append_assoc]; rfl
theorem linesS_bnd (k B : Nat) : ∀ (ps : List (List UInt8)) (no : Nat) (acc : List Row), no + ps.length ≤ B + 1 → (∀ r ∈ acc, 0 ≤ r.1 ∧ r.1 ≤ (B : Int)) →
    (∀ r ∈ (linesS k ps no acc).1, 0 ≤ r.1 ∧ r.1 ≤ (B : Int)) ∧ 0 ≤ (linesS k ps no acc).2.2 ∧ (linesS k ps no acc).2.2 ≤ (B : Int)
  | [], no, acc, h, ha => ⟨ha, by simp [linesS], by simp [linesS]⟩
  | p :: ps, no, acc, h, ha => by
    rw [linesS]
    simp only [List.length_cons] at h
    cases p.any bad with
    | true => simp; omega
    | false =>
      cases stS (lt32 p) k 0 with
      | none => simp; omega
      | some e =>
        simp only [cond_false]
        refine linesS_bnd k B ps (no + 1) _ (by omega) fun r hr => ?_
        rcases List.mem_append.1 hr with hr | hr
        · exact ha r hr
        · unfold rowL at hr
          cases hz : rt ((lt32 p).take e) == [] with
          | true => rw [hz] at hr; cases hr
          | false =>
            rw [hz] at hr
            simp at hr
            subst hr
            constructor
            · show (0 : Int) ≤ (no : Int); omega
            · show (no : Int) ≤ (B : Int); omega
theorem want_loop (k no : Nat) {R : Type} (K : Bool → Option R) (x y : List Row) (f0 f1 g0 g1 : Int) (hx : x.length ≤ 20000) (hb : ∀ r ∈ x, 0 ≤ r.1 ∧ r.1 ≤ (30000 : Int)) :
    ∀ (n : Nat) (q : List Row) (i : Nat), x.drop i = q → i ≤ x.length → q.length < n →
    L_law10_LineRemarks_1027 k n (no : Int) x f0 f1 y g0 g1 ((x.take i).map (mv no)) (i : Int) K = bif decide (f1 > (no : Int)) then
      F_law10_lines k y (x.map (mv no)) fun y16 => bif (bif y16 then f0 == g0 && IntKind.i64.wrap (f1 + 1) == g1 else false) == true then F_law10_awake k fun y17 => K y17 else K false
    else F_law10_lines k y (x.map (mv no)) fun y16 => bif (bif y16 then f0 == g0 && f1 == g1 else false) == true then F_law10_awake k fun y17 => K y17 else K false := by
  intro n
  induction n with
  | zero => intro q i _ _ h; omega
  | succ n ih =>
    intro q i hq hi hn
    rw [L_law10_LineRemarks_1027]
    unfold B_law10_LineRemarks_1027
    cases q with
    | nil =>
      have hz := drop_nil hq
      have ht : x.take i = x := List.take_of_length_le (by omega)
      have hd : decide ((i : Int) < (x.length : Int)) = false := dec_f (by omega)
      rw [hd, cond_false, ht]
    | cons c q =>
      obtain ⟨h1, h2, h3⟩ := drop_cons' hq
      have hmem : c ∈ x := by
        have : c ∈ x.drop i := by rw [hq]; exact List.mem_cons_self
        exact List.mem_of_mem_drop this
      obtain ⟨b1, b2⟩ := hb c hmem
      have hml : ((x.take i).map (mv no)).length = i := by rw [List.length_map, List.length_take]; omega
      have hf : ∀ z : Row, fits ((x.take i).map (mv no)).length [z].length 32 = true := fun z => fits_t (by rw [hml]; simp; omega) (by rw [hml]; simp; omega)
      have htk : x.take (i + 1) = x.take i ++ [c] := by
        rw [List.take_add_one]
        have : x[i]? = some c := by
          have := h2 c
          rw [List.getD, List.getElem?_eq_getElem h1] at this
          rw [List.getElem?_eq_getElem h1]
          simpa using this
        rw [this]; rfl
      have hsn : ∀ z : Row, mv no c = z → (x.take i).map (mv no) ++ [z] = (x.take (i + 1)).map (mv no) := by
        intro z hz
        rw [htk, List.map_append, ← hz]; rfl
      simp (disch := omega) only [dec_t, inb_t, cond_true, h2, toNat_cast', hf, wrap_id, cast_succ]
      simp only [List.length_cons] at hn
      by_cases hc : c.1 > (no : Int)
      · rw [dec_t hc, cond_true, hsn (c.1 + 1, c.2.1, c.2.2) (by unfold mv; rw [if_pos hc])]
        exact ih q (i + 1) h3 (by omega) (by omega)
      · rw [dec_f hc, cond_false, hsn (c.1, c.2.1, c.2.2) (by unfold mv; rw [if_neg hc])]
        exact ih q (i + 1) h3 (by omega) (by omega)
theorem at_cut (k : Nat) (t more : List UInt8) (ht : t.length ≤ 5000) (hm : more.length ≤ 300) (hk : 20000 < k) (hmu : mute k more) (h10 : (10 : UInt8) ∉ more) (i : Nat) (hi : i ≤ t.length) (hpre : t.take i = [] ∨ (t.take i).getLast? = some 10) :
    (F_line_Lines k (toBytes t) fun y12 y13 y14 => F_line_Lines k ([] ++ cut (toBytes t) 0 (i : Int) ++ toBytes more ++ [10] ++ cut (toBytes t) (i : Int) (t.length : Int))
      fun y15 y16 y17 => L_law10_LineRemarks_1027 k k (((t.take i).count 10 : Nat) : Int) y12 y13 y14 y15 y16 y17 [] 0 fun b => some b) = some true := by
  have hall : [] ++ cut (toBytes t) 0 (i : Int) ++ toBytes more ++ [10] ++ cut (toBytes t) (i : Int) (t.length : Int) = toBytes (t.take i ++ (more ++ 10 :: t.drop i)) := by
    have e1 : cut (toBytes t) (i : Int) (t.length : Int) = toBytes (t.drop i) := by
      have := cut_end (toBytes t) i
      rw [toBytes_len] at this
      rw [this, toBytes_drop]
    rw [e1, cut_start, toBytes_take]
    simp [toBytes]
  have hlen : (t.take i ++ (more ++ 10 :: t.drop i)).length ≤ 5301 := by simp; omega
  rw [line_Lines_eq k t hk, dec_f (by omega), cond_false]
  dsimp only
  rw [hall, line_Lines_eq k _ hk, dec_f (by omega), cond_false]
  dsimp only
  have hr := remark_in k (t.take i) (t.drop i) more hpre hmu h10
  rw [List.take_append_drop] at hr
  rw [hr]
  have hs := spl_len t
  have hn := linesS_len k (spl t) 1 []
  simp only [List.length_nil] at hn
  obtain ⟨hb1, hb2, hb3⟩ := linesS_bnd k 30000 (spl t) 1 [] (by omega) (by simp)
  have hw := want_loop k ((t.take i).count 10) (fun b => some b) (linesS k (spl t) 1 []).1 ((linesS k (spl t) 1 []).1.map (mv ((t.take i).count 10))) (linesS k (spl t) 1 []).2.1 (linesS k (spl t) 1 []).2.2 (linesS k (spl t) 1 []).2.1
    (if (linesS k (spl t) 1 []).2.2 > (((t.take i).count 10 : Nat) : Int) then (linesS k (spl t) 1 []).2.2 + 1 else (linesS k (spl t) 1 []).2.2) (by omega) hb1 k _ 0 rfl (by omega) (by simp; omega)
  refine hw.trans ?_
  rw [lines_eq k _ _ (by rw [List.length_map]; omega) (by rw [List.length_map]; omega), lines_eq k _ _ (by rw [List.length_map]; omega) (by rw [List.length_map]; omega)]
  by_cases hc : (linesS k (spl t) 1 []).2.2 > (((t.take i).count 10 : Nat) : Int)
  · rw [dec_t hc, cond_true, if_pos hc, wrap_id (by omega) (by omega)]
    simp only [beq_self_eq_true, Bool.and_self, cond_true]
    rw [awake_eq k (by omega)]
  · rw [dec_f hc, cond_false, if_neg hc]
    simp only [beq_self_eq_true, Bool.and_self, cond_true]
    rw [awake_eq k (by omega)]
theorem last_take (t : List UInt8) (i : Nat) (h : i < t.length) : (t.take (i + 1)).getLast? = some (t.getD i 0) := by
  have e : t.getD i 0 = t[i] := by simp [List.getD, h]
  rw [List.take_add_one, List.getElem?_eq_getElem h, e]
  show (t.take i ++ [t[i]]).getLast? = _
  rw [List.getLast?_concat]
theorem bne10 (c : UInt8) : ((c.toNat : Int) != 10) = !(c == 10) := u8_bne c 10 (by omega)
theorem search_loop (k : Nat) (t more : List UInt8) (a : Int) (ht : t.length ≤ 5000) (hm : more.length ≤ 300) (hk : 20000 < k) (hmu : mute k more) (h10 : (10 : UInt8) ∉ more) :
    ∀ (n i : Nat), i ≤ t.length → t.length < i + n → L_law10_LineRemarks_1016 k n (toBytes t) a (toBytes more) (((t.take i).count 10 : Nat) : Int) (i : Int) (fun b => some b) = some true := by
  intro n
  induction n with
  | zero => intro i _ h; omega
  | succ n ih =>
    intro i hi hn
    rw [L_law10_LineRemarks_1016]
    unfold B_law10_LineRemarks_1016
    rw [toBytes_len]
    have hcnt : (t.take i).count 10 ≤ i := Nat.le_trans List.count_le_length (by rw [List.length_take]; omega)
    have hfin : (t.take i = [] ∨ (t.take i).getLast? = some 10) → both
                (both
                  (bif fits ([] : List Int).length (cut (toBytes t) 0 (i : Int)).length 1 then
                    dupT (Shp.o.b Shp.o)
                      (bif fits (List.length ([] ++ cut (toBytes t) 0 (i : Int))) (toBytes more).length 1 then
                        bif fits (List.length ([] ++ cut (toBytes t) 0 (i : Int) ++ toBytes more)) ([10] : List Int).length 1 then
                          bif fits (List.length ([] ++ cut (toBytes t) 0 (i : Int) ++ toBytes more ++ [10])) (cut (toBytes t) (i : Int) (t.length : Int)).length 1 then
                            F_line_Lines k (toBytes t) fun y12 y13 y14 =>
                              F_line_Lines k ([] ++ cut (toBytes t) 0 (i : Int) ++ toBytes more ++ [10] ++ cut (toBytes t) (i : Int) (t.length : Int))
                                fun y15 y16 y17 => L_law10_LineRemarks_1027 k k (((t.take i).count 10 : Nat) : Int) y12 y13 y14 y15 y16 y17 [] 0 fun b => some b
                          else none
                        else none
                      else none)
                  else none)
                  (bif fits ([] : List Int).length (cut (toBytes t) 0 (i : Int)).length 1 then
                    bif fits (List.length ([] ++ cut (toBytes t) 0 (i : Int))) (toBytes more).length 1 then
                      bif fits (List.length ([] ++ cut (toBytes t) 0 (i : Int) ++ toBytes more)) ([10] : List Int).length 1 then
                        bif fits (List.length ([] ++ cut (toBytes t) 0 (i : Int) ++ toBytes more ++ [10])) (cut (toBytes t) (i : Int) (t.length : Int)).length 1 then
                          F_line_Lines k (toBytes t) fun y12 y13 y14 =>
                            F_line_Lines k ([] ++ cut (toBytes t) 0 (i : Int) ++ toBytes more ++ [10] ++ cut (toBytes t) (i : Int) (t.length : Int)) fun y15 y16 y17 =>
                              L_law10_LineRemarks_1027 k k (((t.take i).count 10 : Nat) : Int) y12 y13 y14 y15 y16 y17 [] 0 fun b => some b
                        else none
                      else none
                    else none
                  else none))
                (bif fits ([] : List Int).length (cut (toBytes t) 0 (i : Int)).length 1 then
                  bif fits (List.length ([] ++ cut (toBytes t) 0 (i : Int))) (toBytes more).length 1 then
                    bif fits (List.length ([] ++ cut (toBytes t) 0 (i : Int) ++ toBytes more)) ([10] : List Int).length 1 then
                      bif fits (List.length ([] ++ cut (toBytes t) 0 (i : Int) ++ toBytes more ++ [10])) (cut (toBytes t) (i : Int) (t.length : Int)).length 1 then
                        F_line_Lines k (toBytes t) fun y12 y13 y14 =>
                          F_line_Lines k ([] ++ cut (toBytes t) 0 (i : Int) ++ toBytes more ++ [10] ++ cut (toBytes t) (i : Int) (t.length : Int)) fun y15 y16 y17 =>
                            L_law10_LineRemarks_1027 k k (((t.take i).count 10 : Nat) : Int) y12 y13 y14 y15 y16 y17 [] 0 fun b => some b
                      else none
                    else none
                  else none
                else none) = some true := by
      intro hpre
      have l1 : (cut (toBytes t) 0 (i : Int)).length ≤ 5000 := by rw [cut_start, List.length_take, toBytes_len]; omega
      have l2 : (cut (toBytes t) (i : Int) (t.length : Int)).length ≤ 5000 := by
        unfold cut
        rw [List.length_drop, List.length_take, toBytes_len]; omega
      have l3 : (toBytes more).length ≤ 300 := by rw [toBytes_len]; omega
      have f1 : fits ([] : List Int).length (cut (toBytes t) 0 (i : Int)).length 1 = true := fits_t (by simp; omega) (by simp; omega)
      have f2 : fits (List.length ([] ++ cut (toBytes t) 0 (i : Int))) (toBytes more).length 1 = true := fits_t (by simp; omega) (by simp; omega)
      have f3 : fits (List.length ([] ++ cut (toBytes t) 0 (i : Int) ++ toBytes more)) ([10] : List Int).length 1 = true := fits_t (by simp; omega) (by simp; omega)
      have f4 : fits (List.length ([] ++ cut (toBytes t) 0 (i : Int) ++ toBytes more ++ [10])) (cut (toBytes t) (i : Int) (t.length : Int)).length 1 = true := fits_t (by simp; omega) (by simp; omega)
      rw [f1, f2, f3, f4]
      simp only [cond_true, dupT_eq]
      rw [both_self, both_self]
      exact at_cut k t more ht hm hk hmu h10 i hi hpre
    have hb0 : bnd 0 (i : Int) (t.length : Int) = true := bnd_t (by omega) (by omega) (by omega)
    have hb1 : bnd (i : Int) (t.length : Int) (t.length : Int) = true := bnd_t (by omega) (by omega) (by omega)
    by_cases h0 : i = 0
    · subst h0
      have hz : t.take 0 = [] := rfl
      have d2 : decide (((0 : Nat) : Int) > 0) = false := dec_f (by omega)
      have hpre := hfin (.inl rfl)
      have nx := ih 1
      by_cases hl : 0 < t.length
      · have hstep : (t.take 1).count 10 = if t.getD 0 0 = 10 then 1 else 0 := by
          cases t with
          | nil => simp at hl
          | cons c t =>
            by_cases hc : c = 10
            · subst hc; simp
            · simp [hc]
        have hg : (toBytes t).getD (((0 : Nat) : Int)).toNat (Kd.int IntKind.u8).zero = ((t.getD 0 0).toNat : Int) := getB t 0 _ hl
        have i0 : inb ((0 : Nat) : Int) (t.length : Int) = true := inb_t (by omega) (by omega)
        have d1 : decide (((0 : Nat) : Int) < (t.length : Int)) = true := dec_t (by omega)
        have w1 : IntKind.i64.wrap (((0 : Nat) : Int) + 1) = ((1 : Nat) : Int) := by rw [wrap_id (by omega) (by omega)]; omega
        have w2 : IntKind.i64.wrap ((((t.take 0).count 10 : Nat) : Int) + 1) = ((1 : Nat) : Int) := by rw [hz]; rfl
        have hbq : (((t.getD 0 0).toNat : Int) == 10) = (t.getD 0 0 == 10) := u8_beq _ 10 (by omega)
        have e0 : ((((0 : Nat) : Int) == (t.length : Int))) = false := by
          have : ¬ ((0 : Nat) : Int) = (t.length : Int) := by omega
          simpa using this
        simp only [d1, d2, i0, w1, w2, hg, hbq, e0, hb0, hb1, cond_true, cond_false, Bool.and_false, Bool.not_false, Bool.true_or, Bool.or_true, Bool.false_and, beq_self_eq_true]
        by_cases ha : ((0 : Nat) : Int) < a
        · rw [dec_t ha]
          simp only [cond_true]
          rw [hstep] at nx
          cases hb : t.getD 0 0 == 10 with
          | true =>
            have := beq_iff_eq.1 hb
            rw [if_pos this] at nx
            simp only [cond_true]
            exact nx (by omega) (by omega)
          | false =>
            have : ¬ t.getD 0 0 = 10 := by simpa using hb
            rw [if_neg this] at nx
            simp only [cond_false]
            exact nx (by omega) (by omega)
        · rw [dec_f ha]
          simp only [cond_false]
          exact hpre
      · have d1 : decide (((0 : Nat) : Int) < (t.length : Int)) = false := dec_f (by omega)
        have e0 : ((((0 : Nat) : Int) == (t.length : Int))) = true := by
          have : ((0 : Nat) : Int) = (t.length : Int) := by omega
          simpa using this
        simp only [d1, d2, e0, hb0, hb1, cond_true, cond_false, Bool.and_false, Bool.not_false, Bool.true_or, Bool.or_true, Bool.false_and, Bool.not_true, beq_self_eq_true, show ((false == true) : Bool) = false from rfl]
        exact hpre
    · have d2 : decide ((i : Int) > 0) = true := dec_t (by omega)
      have w0 : IntKind.i64.wrap ((i : Int) - 1) = ((i - 1 : Nat) : Int) := by rw [wrap_id (by omega) (by omega)]; omega
      have i0 : inb ((i - 1 : Nat) : Int) (t.length : Int) = true := inb_t (by omega) (by omega)
      have hg0 : (toBytes t).getD (((i - 1 : Nat) : Int)).toNat (Kd.int IntKind.u8).zero = ((t.getD (i - 1) 0).toNat : Int) := getB t (i - 1) _ (by omega)
      have hlast : (t.take i).getLast? = some (t.getD (i - 1) 0) := by
        have := last_take t (i - 1) (by omega)
        rwa [show i - 1 + 1 = i by omega] at this
      by_cases hl : i < t.length
      · have hstep : (t.take (i + 1)).count 10 = (t.take i).count 10 + if t.getD i 0 = 10 then 1 else 0 := by
          rw [List.take_add_one, List.getElem?_eq_getElem hl, List.count_append]
          have : t.getD i 0 = t[i] := by simp [List.getD, hl]
          rw [this]
          by_cases hc : t[i] = 10 <;> simp [hc]
        have nx := ih (i + 1) (by omega) (by omega)
        have hg : (toBytes t).getD (i : Int).toNat (Kd.int IntKind.u8).zero = ((t.getD i 0).toNat : Int) := getB t i _ hl
        have i1 : inb (i : Int) (t.length : Int) = true := inb_t (by omega) (by omega)
        have d1 : decide ((i : Int) < (t.length : Int)) = true := dec_t (by omega)
        have w1 : IntKind.i64.wrap ((i : Int) + 1) = ((i + 1 : Nat) : Int) := by rw [wrap_id (by omega) (by omega)]; omega
        have w2 : IntKind.i64.wrap ((((t.take i).count 10 : Nat) : Int) + 1) = (((t.take i).count 10 + 1 : Nat) : Int) := by rw [wrap_id (by omega) (by omega)]; omega
        have hbq : (((t.getD i 0).toNat : Int) == 10) = (t.getD i 0 == 10) := u8_beq _ 10 (by omega)
        have e0 : (((i : Int) == (t.length : Int))) = false := by
          have : ¬ (i : Int) = (t.length : Int) := by omega
          simpa using this
        have go : (bif t.getD i 0 == 10 then L_law10_LineRemarks_1016 k n (toBytes t) a (toBytes more) (((t.take i).count 10 + 1 : Nat) : Int) ((i + 1 : Nat) : Int) (fun b => some b) else L_law10_LineRemarks_1016 k n (toBytes t) a (toBytes more) (((t.take i).count 10 : Nat) : Int) ((i + 1 : Nat) : Int) (fun b => some b)) = some true := by
          rw [hstep] at nx
          cases hb : t.getD i 0 == 10 with
          | true =>
            have := beq_iff_eq.1 hb
            rw [if_pos this] at nx
            exact nx
          | false =>
            have : ¬ t.getD i 0 = 10 := by simpa using hb
            rw [if_neg this] at nx
            exact nx
        simp only [d1, d2, i0, i1, w0, w1, w2, hg, hg0, hbq, bne10, e0, hb0, hb1, cond_true, cond_false, Bool.not_false, Bool.true_or, Bool.or_true]
        by_cases ha : (i : Int) < a
        · rw [dec_t ha]
          simp only [cond_true]
          exact go
        · rw [dec_f ha]
          simp only [cond_false]
          cases hb : t.getD (i - 1) 0 == 10 with
          | true =>
            simp only [Bool.not_true, cond_false]
            exact hfin (.inr (by rw [hlast, beq_iff_eq.1 hb]))
          | false =>
            simp only [Bool.not_false, cond_true]
            exact go
      · have hie : i = t.length := by omega
        have d1 : decide ((i : Int) < (t.length : Int)) = false := dec_f (by omega)
        have e0 : (((i : Int) == (t.length : Int))) = true := by
          have : (i : Int) = (t.length : Int) := by omega
          simpa using this
        simp only [d1, d2, i0, w0, hg0, bne10, e0, hb0, hb1, cond_true, cond_false, Bool.not_false, Bool.true_or, Bool.or_true]
        cases hb : t.getD (i - 1) 0 == 10 with
        | true =>
          simp only [Bool.not_true, cond_false]
          exact hfin (.inr (by rw [hlast, beq_iff_eq.1 hb]))
        | false =>
          simp only [Bool.not_false, cond_true]
          rw [awake_eq k (by omega)]
theorem LineRemarks_aux (t : List UInt8) (a i : Int) (r : List UInt8) : ∃ k, F_law10_LineRemarks k (toBytes t) a i (toBytes r) (fun b => some b) = some true := by
  obtain ⟨k, hk⟩ : ∃ k : Nat, k = 30000 := ⟨_, rfl⟩
  refine ⟨k, ?_⟩
  unfold F_law10_LineRemarks A_law10_LineRemarks
  rw [toBytes_len, toBytes_len]
  by_cases hg : t.length > 5000 ∨ i < 0 ∨ i > 50 ∨ r.length > 200
  · have : (bif bif bif decide ((t.length : Int) > 5000) then true else decide (i < 0) then true else decide (i > 50) then true else decide ((r.length : Int) > 200)) = true := by
      simp only [Bool.cond_true_left, Bool.or_eq_true, decide_eq_true_eq]
      omega
    rw [this, cond_true, awake_eq k (by omega)]
  · have : (bif bif bif decide ((t.length : Int) > 5000) then true else decide (i < 0) then true else decide (i > 50) then true else decide ((r.length : Int) > 200)) = false := by
      rw [Bool.eq_false_iff]
      simp only [Bool.cond_true_left, ne_eq, Bool.or_eq_true, decide_eq_true_eq]
      omega
    obtain ⟨N, rfl⟩ : ∃ N : Nat, i = N := ⟨i.toNat, by omega⟩
    have hm : mkB (N : Int) (N : Int) 1 = true := by
      simp only [mkB, Bool.and_eq_true, decide_eq_true_eq]; omega
    have hz : zeros (Kd.int IntKind.u8) (N : Int) = toBytes (fillB N 0) := by
      simp [zeros, fillB, toBytes, Kd.zero]
    rw [this, cond_false, hm, cond_true, hz]
    have h1 := fill_loop k (fun b => some b) t r a N (by omega) (by omega) k 0 (by omega) (by omega)
    refine h1.trans ?_
    have hrl : (remH r).length ≤ 1 := by unfold remH; cases decide (0 < r.length) <;> simp
    have h2 := rem_loop k (fun b => some b) t r a (by omega) k r 0 (List.replicate N 32 ++ remH r) rfl (by omega) (by omega) (by rw [List.length_append, List.length_replicate]; omega)
    refine h2.trans ?_
    have hvl := visS_len r
    have hb35 : bad 35 = false := by decide +kernel
    have hvb : (visS r).any bad = false := by
      rw [List.any_eq_false]
      intro x hx
      have := (List.mem_filter.1 hx).2
      simpa using this
    have h10 : (10 : UInt8) ∉ visS r := fun hx => by
      have := (List.mem_filter.1 hx).2
      have h : bad 10 = true := by decide +kernel
      rw [h] at this; cases this
    have hmu : mute k (List.replicate N 32 ++ remH r ++ visS r) := by
      rw [List.append_assoc]
      refine mute_rem k N (by omega) _ ?_ ?_
      · unfold remH
        by_cases hz : 0 < r.length
        · rw [dec_t hz]; exact .inr ⟨_, rfl⟩
        · have : r = [] := List.eq_nil_of_length_eq_zero (by omega)
          subst this
          exact .inl rfl
      · rw [List.any_append, hvb, Bool.or_false]
        unfold remH
        cases decide (0 < r.length)
        · rfl
        · simp [hb35]
    refine search_loop k t (List.replicate N 32 ++ remH r ++ visS r) a (by omega) (by simp only [List.length_append, List.length_replicate]; omega) (by omega) hmu ?_ k 0 (by omega) (by omega)
    intro hx
    rcases List.mem_append.1 hx with hx | hx
    · rcases List.mem_append.1 hx with hx | hx
      · have := List.eq_of_mem_replicate hx
        cases this
      · unfold remH at hx
        cases hd : decide (0 < r.length) with
        | true => rw [hd] at hx; simp at hx
        | false => rw [hd] at hx; cases hx
    · exact h10 hx
theorem LineRemarks_pure (x : (Kd.sl (.int .u8)).T) (a i : (Kd.int .i64).T) (r : (Kd.sl (.int .u8)).T) (h : Wf (.sl (.int .u8)) x) (_ : Wf (.int .i64) a) (_ : Wf (.int .i64) i) (h' : Wf (.sl (.int .u8)) r) : ∃ k, F_law10_LineRemarks k x a i r (fun b => some b) = some true := by
  obtain ⟨t, ht⟩ := bytes_wf (x := x) (fun y hy => h.2 y hy)
  obtain ⟨q, hq⟩ := bytes_wf (x := r) (fun y hy => h'.2 y hy)
  rw [ht, hq]
  exact LineRemarks_aux t a i q
end Go.Proofs.YtdbnlohjjoigeaaDoor.Pvm

set_option linter.unusedVariables false
namespace Go.Proofs.YtdbnlohjjoigeaaDoor.lineRemarks
open Go Go.Proofs Go.ChangeShapes Go.WideShapes Go.ChangeAt Go.RowKit Go.Proofs.YtdbnlohjjoigeaaDoor.Pvm
theorem own : ownKnob Tryd.prog.godebug = none := by kernel_rfl
theorem laidOut : laidOutB Tryd.prog = true := by kernel_rfl
set_option maxRecDepth 100000 in
theorem lifted (os : Os) (started : os.Started) (H : Type) (enc : TypeId × Value → H) :
    ReturnsInHanded {} Tryd.checked os 6 .any (fun w args => (Rows.lineRemarksSpec.pre enc Tryd.prog Tryd.f6 Rows.lineRemarksRow.domain false w args ∧ laidMetH Tryd.prog Rows.lineRemarksRow.laid w) ∧ sizedMet enc Tryd.prog Tryd.f6 (OpenSpec.ofChange Rows.lineRemarksSpec) false w args) (Rows.lineRemarksSpec.post enc Tryd.prog Tryd.f6 false true false false) := by
  refine returnsInHanded_of_change_and (C := Tryd.checked) (X := fun w _ => laidMetH Tryd.prog Rows.lineRemarksRow.laid w) (fun _ _ _ hh h => h.of_heap hh) own started (by kernel_rfl) Tryd.func6
    (ChangeSpec.witness_shaped (enc := enc) (C := Tryd.checked) (os := os) (X := fun w _ => laidMetH Tryd.prog Rows.lineRemarksRow.laid w) false (World.laidAll Tryd.prog os Rows.lineRemarksRow.laid) #[.slice none 0 0, .int .i64 0, .int .i64 0, .slice none 0 0] 8 (World.laidAll_os _ _ _)
      (World.shaped_of_ZipB (by kernel_rfl) (by kernel_rfl)) (by kernel_rfl) (by kernel_rfl) (by kernel_rfl)
      (by rw [MakeChecks.laidMetH_plain _ _ _ (by kernel_rfl)]; exact laidMet_laidAll _ (by kernel_rfl) (by kernel_rfl))) ?_
  intro W base args ds gs before hval0 hW hcnd hsz0 hL _
  have hsz : (DataW.weightsEach Tryd.prog (Tryd.f6.params.toList ++ Rows.lineRemarksSpec.plain.varTypes Tryd.prog) (ds ++ gs)).all (· ≤ reachBytes) = true := hsz0
  have hval : ∀ (j : Nat) t v, Tryd.f6.params[j]? = some t → args[j]? = some v → Value.okWide Tryd.prog W .any base t v := hval0
  have hW' := hW
  obtain ⟨p, q, hA0, hV, rfl, hfz, hnd⟩ := hW
  have hA : DataW.TrodAll enc Tryd.prog W 0 (fun _ => true) true Tryd.f6.params.toList args.toList ds p := hA0
  rw [Tryd.params6] at hA hval hsz
  obtain ⟨v0, vs0, d0, ds0, p0, q0, hargs, rfl, rfl, h0, r0⟩ := trodAll_cons hA
  obtain ⟨v1, vs1, d1, ds1, p1, q1, rfl, rfl, rfl, h1, r1⟩ := trodAll_cons r0
  obtain ⟨v2, vs2, d2, ds2, p2, q2, rfl, rfl, rfl, h2, r2⟩ := trodAll_cons r1
  obtain ⟨v3, vs3, d3, ds3, p3, q3, rfl, rfl, rfl, h3, r3⟩ := trodAll_cons r2
  obtain ⟨rfl, rfl, rfl⟩ := trodAll_nil r3
  obtain rfl : args = #[v0, v1, v2, v3] := by cases args; simp_all
  obtain ⟨rfl, rfl⟩ := trodVars_none hV
  have hws := weights_of (P := Tryd.prog) hsz
  have k0 := h0
  have lt0 : ∀ x ∈ p0, x.block < W.heap.size := by obtain ⟨m, hm⟩ := k0; exact DataW.trod_lt m _ _ _ hm
  obtain ⟨x0, wf0, rv0⟩ := arg_data tyT_ok (n := 9) (K := (.sl (.int .u8))) (by kernel_rfl) (by kernel_rfl) (hval 0 26 v0 rfl rfl) h0 (hws 0 26 d0 rfl rfl) (h := mkH []) (G := G0) (fun _ => rfl) (fun _ h => h)
  have k1 := h1
  have lt1 : ∀ x ∈ p1, x.block < W.heap.size := by obtain ⟨m, hm⟩ := k1; exact DataW.trod_lt m _ _ _ hm
  obtain ⟨x1, wf1, rv1⟩ := arg_data tyT_ok (n := 9) (K := (.int .i64)) (by kernel_rfl) (by kernel_rfl) (hval 1 3 v1 rfl rfl) h1 (hws 1 3 d1 rfl rfl) (h := mkH []) (G := G0) (fun _ => rfl) (fun _ h => h)
  have k2 := h2
  have lt2 : ∀ x ∈ p2, x.block < W.heap.size := by obtain ⟨m, hm⟩ := k2; exact DataW.trod_lt m _ _ _ hm
  obtain ⟨x2, wf2, rv2⟩ := arg_data tyT_ok (n := 9) (K := (.int .i64)) (by kernel_rfl) (by kernel_rfl) (hval 2 3 v2 rfl rfl) h2 (hws 2 3 d2 rfl rfl) (h := mkH []) (G := G0) (fun _ => rfl) (fun _ h => h)
  have k3 := h3
  have lt3 : ∀ x ∈ p3, x.block < W.heap.size := by obtain ⟨m, hm⟩ := k3; exact DataW.trod_lt m _ _ _ hm
  obtain ⟨x3, wf3, rv3⟩ := arg_data tyT_ok (n := 9) (K := (.sl (.int .u8))) (by kernel_rfl) (by kernel_rfl) (hval 3 26 v3 rfl rfl) h3 (hws 3 26 d3 rfl rfl) (h := mkH []) (G := G0) (fun _ => rfl) (fun _ h => h)
  obtain ⟨k, hk⟩ := LineRemarks_pure x0 x1 x2 x3 wf0 wf1 wf2 wf3
  have hrun : run_law10_LineRemarks k [.v (.sl (.int .u8)) x0, .v (.int .i64) x1, .v (.int .i64) x2, .v (.sl (.int .u8)) x3] [] lawK = some true := hk
  refine (law_calls (fn := Tryd.f6) (c := Tryd.f6.body.getD .skip) (by kernel_rfl) (by kernel_rfl) (by kernel_rfl) (D_law10_LineRemarks k hrun) (vals := [v0, v1, v2, v3]) ⟨v0, _, rfl, rv0, ⟨v1, _, rfl, rv1, ⟨v2, _, rfl, rv2, ⟨v3, _, rfl, rv3, rfl⟩⟩⟩⟩).mono fun e W' ⟨he, bel⟩ => ?_
  subst he
  exact ⟨_, rfl, _, _, _, [], _, [], hW', trodAll_mk1 (shut_bool Tryd.underlying4 _), (trodAll_cons_mk (Below.trod laidOut (by kernel_rfl) (of_decide_eq_true (by kernel_rfl)) k0 bel lt0) (trodAll_cons_mk (Below.trod laidOut (by kernel_rfl) (of_decide_eq_true (by kernel_rfl)) k1 bel lt1) (trodAll_cons_mk (Below.trod laidOut (by kernel_rfl) (of_decide_eq_true (by kernel_rfl)) k2 bel lt2) (trodAll_cons_mk (Below.trod laidOut (by kernel_rfl) (of_decide_eq_true (by kernel_rfl)) k3 bel lt3) trodAll_mk0)))), rfl, bel.frame _, fun h => by cases h⟩
theorem over : Rows.lineRemarksRow.holds Tryd.pinned (OpenSpec.ofChange Rows.lineRemarksSpec) :=
  OpenClaim.holds_of_wide 6 Tryd.f6 rfl rfl rfl rfl rfl rfl rfl ⟨rfl, rfl, rfl, rfl, rfl⟩ rfl rfl rfl rfl rfl (by kernel_rfl) Tryd.func6 (by kernel_rfl)
    (of_decide_eq_true (by kernel_rfl)) (by unfold Func.isWrapper; first | (rw [if_pos (by decide +kernel)]; kernel_rfl) | (rw [if_neg (by decide +kernel)]; exact ⟨rfl, rfl⟩))
    (fun os started H enc _ => lifted os started H enc)
theorem tied : Rows.LineRemarksCardSaid :=
  Claim7.holds_tied_plain_at .later [] [.data, .pinned] true (true, "0932244c124e6fc7e814d405ee82d3b53ff1dcee37c1454ede2257adf2efed17") false over (fun _ h => by cases h) (by kernel_rfl) (fun _ h => by cases h) lineRemarks_row_tie rfl ⟨rfl, rfl⟩ (by kernel_rfl) rfl
    (fun f fn hf hfn => by
      obtain rfl : f = 6 := Option.some.inj ((show Tryd.prog.funcNamed Rows.lineRemarksRow.func = some 6 by kernel_rfl).symm.trans hf) |>.symm
      obtain rfl : fn = Tryd.f6 := (Option.some.inj (Tryd.func6.symm.trans hfn)).symm
      exact ⟨by kernel_rfl, fun j t ht => by
        rw [Tryd.params6] at ht
        have hm : t ∈ [26, 3, 3, 26] := by simpa using Array.mem_of_getElem? ht
        have hall : ([26, 3, 3, 26].all fun u => !Tryd.prog.wantsStandIn u) = true := by kernel_rfl
        exact (show Tryd.prog.wantsStandIn t = false by simpa using List.all_eq_true.1 hall t hm)⟩)
    (by kernel_rfl)
#print axioms tied
end Go.Proofs.YtdbnlohjjoigeaaDoor.lineRemarks
namespace Go.Proofs.YtdbnlohjjoigeaaDoor
/-- The tied card, under a short name. -/
theorem lineRemarks_holds : Rows.LineRemarksCardSaid := lineRemarks.tied
end Go.Proofs.YtdbnlohjjoigeaaDoor
