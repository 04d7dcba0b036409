/- Any text of at most 200 bytes, as chapter 13 writes it in double quotes, is read by lex.Row as one quoted text of these bytes, at every line number and every place from 0 to 1000; beyond these bounds (more than 200 bytes, a place below 0 or above 1000) the statement says nothing of it. -/
import Derived.Test.YtfbagjjnfpgjkaaRows
import Derived.Test.YtfbagjjnfpgjkaaLexQuotedM0
import Derived.Test.YtfbagjjnfpgjkaaLexQuotedM1
import Derived.Test.YtfbagjjnfpgjkaaLexQuotedM2
import Derived.Test.YtfbagjjnfpgjkaaLexQuotedM3
import Derived.Test.YtfbagjjnfpgjkaaLexQuotedM4
set_option linter.unusedVariables false
set_option linter.unusedSimpArgs false
set_option linter.unusedSectionVars false
set_option linter.unusedVariables false
set_option linter.unusedSimpArgs false
namespace Go.Proofs.Ytfbagjjnfpgjkaa.Pvm
open Go
/-- a byte as it is written between double quotes -/
def escB (c : UInt8) : List UInt8 :=
  bif c == 92 || c == 34 then [92, c] else bif c == 10 then [92, 110] else bif c == 9 then [92, 116] else bif decide (c.toNat < 32) || c == 127 then [92, 120, hexL.getD (c.toNat / 16) 0, hexL.getD (c.toNat % 16) 0] else [c]
def escS : List UInt8 → List UInt8
  | [] => []
  | c :: r => escB c ++ escS r
theorem escB_len (c : UInt8) : (escB c).length ≤ 4 := by
  unfold escB
  cases (c == 92 || c == 34) <;> simp only [cond_true, cond_false]
  · cases c == 10 <;> simp only [cond_true, cond_false]
    · cases c == 9 <;> simp only [cond_true, cond_false]
      · cases (decide (c.toNat < 32) || c == 127) <;> simp
      · simp
    · simp
  · simp
theorem escS_len : ∀ s : List UInt8, (escS s).length ≤ 4 * s.length
  | [] => by simp [escS]
  | c :: r => by
    have := escB_len c
    have := escS_len r
    rw [escS, List.length_append, List.length_cons]; omega
theorem hex_back (c : UInt8) : hexv (hexL.getD (c.toNat / 16) 0) = some (c.toNat / 16) ∧ hexv (hexL.getD (c.toNat % 16) 0) = some (c.toNat % 16) := by
  have := all_u8 (fun c => hexv (hexL.getD (c.toNat / 16) 0) == some (c.toNat / 16) && hexv (hexL.getD (c.toNat % 16) 0) == some (c.toNat % 16)) (by kernel_rfl) c
  simp only [Bool.and_eq_true, beq_iff_eq] at this
  exact this
theorem dbl_esc (f : Nat) (acc : List UInt8) (c : UInt8) (r : List UInt8) : dbl (f + 1) acc (escB c ++ r) = dbl f (acc ++ [c]) r := by
  unfold escB
  cases h1 : c == 92 with
  | true => have := beq_iff_eq.1 h1; subst this; rfl
  | false =>
    cases h2 : c == 34 with
    | true => have := beq_iff_eq.1 h2; subst this; rfl
    | false =>
      cases h3 : c == 10 with
      | true => have := beq_iff_eq.1 h3; subst this; rfl
      | false =>
        cases h4 : c == 9 with
        | true => have := beq_iff_eq.1 h4; subst this; rfl
        | false =>
          cases h5 : (decide (c.toNat < 32) || c == 127) with
          | true =>
            obtain ⟨e1, e2⟩ := hex_back c
            simp only [Bool.or_false, cond_true, cond_false, List.cons_append, List.nil_append, dbl]
            have e92 : ((92 : UInt8) == 34) = false := rfl
            have e92' : ((92 : UInt8) == 92) = true := rfl
            have t1 : tak (120 :: hexL.getD (c.toNat / 16) 0 :: hexL.getD (c.toNat % 16) 0 :: r) = some (c, 3) := by
              have g1 : ((120 : UInt8) == 92) = false := rfl
              have g2 : ((120 : UInt8) == 34) = false := rfl
              have g3 : ((120 : UInt8) == 110) = false := rfl
              have g4 : ((120 : UInt8) == 116) = false := rfl
              have g5 : ((120 : UInt8) == 120) = true := rfl
              simp only [tak, g1, g2, g3, g4, g5, cond_true, cond_false, e1, e2]
              have : 16 * (c.toNat / 16) + c.toNat % 16 = c.toNat := by omega
              rw [this, UInt8.ofNat_toNat]
            rw [e92, e92', cond_false, cond_true, t1]
            rfl
          | false =>
            simp only [Bool.or_false, cond_false, List.cons_append, List.nil_append, dbl, h1, h2]
theorem dbl_escS : ∀ (s : List UInt8) (f : Nat) (acc : List UInt8), s.length < f → dbl f acc (escS s ++ [34]) = some (acc ++ s, [])
  | s, 0, acc, h => by omega
  | [], f + 1, acc, h => by simp [escS, dbl]
  | c :: r, f + 1, acc, h => by
    rw [escS, List.append_assoc, dbl_esc, dbl_escS r f _ (by simpa using h)]
    simp
theorem quote_loop (k : Nat) {R : Type} (s : List UInt8) (hs : s.length ≤ 1000000) (K : List Int → Option R) : ∀ (t : List UInt8) (n m : Nat) (acc : List UInt8), s.drop n = t → t.length < m → n ≤ s.length → acc.length ≤ 4 * n + 1 →
    L_ref10_quote_1003 k m s (toBytes acc) (n : Int) K = K (toBytes (acc ++ escS t ++ [34]))
  | t, n, 0, acc, _, hm, _, _ => by omega
  | [], n, m + 1, acc, hd, hm, hn, ha => by
    have := drop_nil hd
    rw [L_ref10_quote_1003, B_ref10_quote_1003]
    have f1 : fits (toBytes acc).length 1 1 = true := fits_t (by rw [toBytes_len]; omega) (by rw [toBytes_len]; omega)
    simp (disch := omega) only [dec_t, dec_f, ieq_t, ieq_f, ine_t, ine_f, inb_t, bnd_t, wrap_id, wrap8_id, cond_true, cond_false, Bool.not_true, Bool.not_false, Bool.true_or, Bool.or_true, Bool.false_or, Bool.or_false, Bool.true_and, Bool.and_true, Bool.false_and, Bool.and_false, bool_eq_true', bool_eq_false', toNat_cast', List.length_singleton, f1, escS, List.append_nil]
    exact congrArg K (toBytes_snoc acc 34)
  | c :: r, n, m + 1, acc, hd, hm, hn, ha => by
    obtain ⟨hlt, hc, hr⟩ := drop_cons' hd
    have hcl := c.toNat_lt
    have e1 : ((c.toNat : Int) == 92) = (c == 92) := u8_beq c 92 (by omega)
    have e2 : ((c.toNat : Int) == 34) = (c == 34) := u8_beq c 34 (by omega)
    have e3 : ((c.toNat : Int) == 10) = (c == 10) := u8_beq c 10 (by omega)
    have e4 : ((c.toNat : Int) == 9) = (c == 9) := u8_beq c 9 (by omega)
    have e5 : ((c.toNat : Int) == 127) = (c == 127) := u8_beq c 127 (by omega)
    have e6 : decide ((c.toNat : Int) < 32) = decide (c.toNat < 32) := by rw [Bool.eq_iff_iff]; simp; omega
    have d1 : (c.toNat : Int).tdiv 16 = ((c.toNat / 16 : Nat) : Int) := rfl
    have d2 : (c.toNat : Int).tmod 16 = ((c.toNat % 16 : Nat) : Int) := rfl
    have h16 : ([48, 49, 50, 51, 52, 53, 54, 55, 56, 57, 97, 98, 99, 100, 101, 102] : List UInt8).length = 16 := rfl
    have fa : ∀ j, j ≤ 4 → fits (toBytes acc).length j 1 = true := fun j hj => fits_t (by rw [toBytes_len]; omega) (by rw [toBytes_len]; omega)
    have hl := escB_len c
    simp only [List.length_cons] at hm
    have go : ∀ x : List Int, x = toBytes (escB c) → L_ref10_quote_1003 k m s (toBytes acc ++ x) ((n + 1 : Nat) : Int) K = K (toBytes (acc ++ escS (c :: r) ++ [34])) := by
      intro x hx
      subst hx
      have : toBytes acc ++ toBytes (escB c) = toBytes (acc ++ escB c) := by simp [toBytes]
      rw [this, quote_loop k s hs K r (n + 1) m (acc ++ escB c) hr (by omega) (by omega) (by simp; omega), escS, List.append_assoc acc]
    rw [L_ref10_quote_1003, B_ref10_quote_1003]
    simp (disch := omega) only [dec_t, dec_f, ieq_t, ieq_f, ine_t, ine_f, inb_t, bnd_t, wrap_id, wrap8_id, cond_true, cond_false, Bool.not_true, Bool.not_false, Bool.true_or, Bool.or_true, Bool.false_or, Bool.or_false, Bool.true_and, Bool.and_true, Bool.false_and, Bool.and_false, bool_eq_true', bool_eq_false', toNat_cast', hc, e1, e2, e3, e4, e5, e6, d1, d2, h16, cast_succ, List.length_cons, List.length_nil, Nat.zero_add, fa]
    unfold escB at go
    cases h1 : c == 92 with
    | true => rw [h1] at go; have := beq_iff_eq.1 h1; subst this; exact go _ rfl
    | false =>
      cases h2 : c == 34 with
      | true => rw [h1, h2] at go; have := beq_iff_eq.1 h2; subst this; exact go _ rfl
      | false =>
        rw [h1, h2] at go
        cases h3 : c == 10 with
        | true => rw [h3] at go; exact go _ rfl
        | false =>
          rw [h3] at go
          cases h4 : c == 9 with
          | true => rw [h4] at go; exact go _ rfl
          | false =>
            rw [h4] at go
            cases h5 : (decide (c.toNat < 32) || c == 127) with
            | true =>
              rw [h5] at go
              have : (bif decide (c.toNat < 32) then true else c == 127) = true := by rw [Bool.cond_true_left]; exact h5
              rw [this]
              exact go _ rfl
            | false =>
              rw [h5] at go
              have : (bif decide (c.toNat < 32) then true else c == 127) = false := by rw [Bool.cond_true_left]; exact h5
              rw [this]
              exact go _ rfl
theorem quote_eq (k : Nat) {R : Type} (s : List UInt8) (hs : s.length ≤ 1000000) (hk : s.length < k) (K : List Int → Option R) : F_ref10_quote k s K = K (toBytes (34 :: (escS s ++ [34]))) := by
  unfold F_ref10_quote A_ref10_quote
  exact quote_loop k s hs K s 0 k [34] rfl hk (Nat.zero_le _) (by simp)
theorem text_one (k : Nat) {R : Type} (s : List UInt8) (hs : s.length ≤ 200) (hk : 300 ≤ k) (K : List Int → Int → Option R) : F_ref10_Text k [(1, 0, s, true, [], [])] K = K (toBytes (34 :: (escS s ++ [34])) ++ [10]) 0 := by
  obtain ⟨j, rfl⟩ : ∃ j, k = j + 1 := ⟨k - 1, by omega⟩
  have hl := escS_len s
  have hw : ∀ (K : Int → Option R), F_ref10_walk (j + 1) [(1, 0, s, true, [], [])] 0 1 K = K 1 := by
    intro K
    obtain ⟨i, rfl⟩ : ∃ i, j = i + 1 := ⟨j - 1, by omega⟩
    rw [F_ref10_walk, FR_ref10_walk]
    unfold A_ref10_walk F_ref10_fits A_ref10_fits
    have e1 : decide ((s.length : Int) ≤ 200) = true := dec_t (by omega)
    simp [inb, e1]
    rw [L_ref10_walk_1005, B_ref10_walk_1005]
    simp [inb, wrap_id]
  have hsh : ∀ (K : List Int → Option R), F_ref10_show (j + 1) [] [(1, 0, s, true, [], [])] 0 0 K = K (toBytes (34 :: (escS s ++ [34])) ++ [10]) := by
    intro K
    rw [F_ref10_show, FR_ref10_show]
    unfold A_ref10_show
    simp [inb]
    rw [quote_eq j s (by omega) (by omega)]
    have h1 : (toBytes (34 :: (escS s ++ [34]))).length ≤ 802 := by rw [toBytes_len]; simp; omega
    rw [fits_t (by omega) (by omega), cond_true, fits_t (by simp; omega) (by simp; omega), cond_true]
  unfold F_ref10_Text A_ref10_Text F_ref10_Check A_ref10_Check
  have g : ∀ K' : Bool → Option R, (bif (bif decide ((([(1, 0, s, true, [], [])] : List (Int × Int × List UInt8 × Bool × List (List UInt8) × List Int)).length : Int) ≥ 1) then decide ((([(1, 0, s, true, [], [])] : List (Int × Int × List UInt8 × Bool × List (List UInt8) × List Int)).length : Int) ≤ 2000) else false) == true then F_ref10_walk (j + 1) [(1, 0, s, true, [], [])] 0 1 fun y4 => K' (y4 == (([(1, 0, s, true, [], [])] : List (Int × Int × List UInt8 × Bool × List (List UInt8) × List Int)).length : Int)) else K' false) = K' true := by
    intro K'
    rw [hw]
    rfl
  refine Eq.trans (g fun y4 => bif !y4 then K [] 1 else F_ref10_show (j + 1) [] [(1, 0, s, true, [], [])] 0 0 fun y5 => bif decide ((y5.length : Int) > 60000) then K [] 4 else K y5 0) ?_
  simp only [Bool.not_true, cond_false]
  rw [hsh]
  have h1 : (toBytes (34 :: (escS s ++ [34])) ++ [10]).length ≤ 803 := by rw [List.length_append, toBytes_len]; simp; omega
  rw [dec_f (by omega), cond_false]
theorem escS_ge : ∀ s : List UInt8, s.length ≤ (escS s).length := by
  intro s
  induction s with
  | nil => simp [escS]
  | cons c r ih =>
    rw [escS, List.length_append, List.length_cons]
    have : 1 ≤ (escB c).length := by
      unfold escB
      cases (c == 92 || c == 34) <;> simp only [cond_true, cond_false]
      · cases c == 10 <;> simp only [cond_true, cond_false]
        · cases c == 9 <;> simp only [cond_true, cond_false]
          · cases (decide (c.toNat < 32) || c == 127) <;> simp
          · simp
        · simp
      · simp
    omega
theorem row_quoted (no ind : Int) (s : List UInt8) (hs : s.length ≤ 200) (h0 : 0 ≤ ind) (h1 : ind ≤ 16384) : rowR no ind (34 :: (escS s ++ [34])) = ([(3, no, ind, s, true)], 0, 0) := by
  have e1 : (decide (ind < 0) || decide (16384 < ind)) = false := by simp; omega
  have e2 : nb (34 :: (escS s ++ [34])) = 0 := by rw [nb_cons]; rfl
  have e3 : dsh (34 :: (escS s ++ [34])) = false := by
    cases h : escS s ++ [34] with
    | nil => rfl
    | cons d r => rfl
  have e4 : kS (34 :: (escS s ++ [34])) = 0 := by
    have hw : (34 :: (escS s ++ [34])).takeWhile sgn = [] := by rw [List.takeWhile_cons]; rfl
    have hd : (34 :: (escS s ++ [34])).drop ((34 :: (escS s ++ [34])).takeWhile sgn).length = 34 :: (escS s ++ [34]) := by rw [hw]; rfl
    rw [kS_at hd]; rfl
  unfold rowR
  rw [e1, cond_false, e2, rowS, List.drop_zero, e3, cond_false, endS, e4]
  have e5 : decide (0 < 0) = false := rfl
  rw [e5, cond_false]
  unfold txtS
  dsimp only
  have e6 : ((34 : UInt8) == 39) = false := rfl
  have e7 : ((34 : UInt8) == 34) = true := rfl
  rw [e6, e7, cond_false, cond_true, dbl_escS s _ [] (by have := escS_ge s; simp; omega)]
  unfold finQ
  have e8 : decide (200 < s.length) = false := dec_f (by omega)
  simp
  rw [e8]
  rfl
theorem LexQuoted_aux (x : List UInt8) (y : Int) : ∃ k, F_law11_LexQuoted k x y (fun b => some b) = some true := by
  obtain ⟨k, hk⟩ : ∃ k : Nat, k = 4000 := ⟨_, rfl⟩
  refine ⟨k, ?_⟩
  unfold F_law11_LexQuoted A_law11_LexQuoted
  by_cases h1 : 200 < x.length
  · simp (disch := omega) only [dec_t, dec_f, ieq_t, ieq_f, ine_t, ine_f, inb_t, bnd_t, wrap_id, wrap8_id, cond_true, cond_false, Bool.not_true, Bool.not_false, Bool.true_or, Bool.or_true, Bool.false_or, Bool.or_false, Bool.true_and, Bool.and_true, Bool.false_and, Bool.and_false, bool_eq_true', bool_eq_false', toNat_cast']
    rw [awake_eq k _ (by omega)]
  · by_cases h2 : y < 0
    · simp (disch := omega) only [dec_t, dec_f, ieq_t, ieq_f, ine_t, ine_f, inb_t, bnd_t, wrap_id, wrap8_id, cond_true, cond_false, Bool.not_true, Bool.not_false, Bool.true_or, Bool.or_true, Bool.false_or, Bool.or_false, Bool.true_and, Bool.and_true, Bool.false_and, Bool.and_false, bool_eq_true', bool_eq_false', toNat_cast']
      rw [awake_eq k _ (by omega)]
    · by_cases h3 : y > 1000
      · simp (disch := omega) only [dec_t, dec_f, ieq_t, ieq_f, ine_t, ine_f, inb_t, bnd_t, wrap_id, wrap8_id, cond_true, cond_false, Bool.not_true, Bool.not_false, Bool.true_or, Bool.or_true, Bool.false_or, Bool.or_false, Bool.true_and, Bool.and_true, Bool.false_and, Bool.and_false, bool_eq_true', bool_eq_false', toNat_cast']
        rw [awake_eq k _ (by omega)]
      · simp (disch := omega) only [dec_t, dec_f, ieq_t, ieq_f, ine_t, ine_f, inb_t, bnd_t, wrap_id, wrap8_id, cond_true, cond_false, Bool.not_true, Bool.not_false, Bool.true_or, Bool.or_true, Bool.false_or, Bool.or_false, Bool.true_and, Bool.and_true, Bool.false_and, Bool.and_false, bool_eq_true', bool_eq_false', toNat_cast']
        rw [text_one k x (by omega) (by omega)]
        have hl := escS_len x
        have hL : (toBytes (34 :: (escS x ++ [34])) ++ [10]).length = (escS x).length + 3 := by rw [List.length_append, toBytes_len]; simp
        have hc : cut (toBytes (34 :: (escS x ++ [34])) ++ [10]) 0 (((escS x).length + 2 : Nat) : Int) = toBytes (34 :: (escS x ++ [34])) := by
          rw [cut_start, List.take_left' (by rw [toBytes_len]; simp)]
        simp (disch := omega) only [dec_t, dec_f, ieq_t, ieq_f, ine_t, ine_f, inb_t, bnd_t, wrap_id, wrap8_id, cond_true, cond_false, Bool.not_true, Bool.not_false, Bool.true_or, Bool.or_true, Bool.false_or, Bool.or_false, Bool.true_and, Bool.and_true, Bool.false_and, Bool.and_false, bool_eq_true', bool_eq_false', toNat_cast', hL]
        have e : (((escS x).length + 3 : Nat) : Int) - 1 = (((escS x).length + 2 : Nat) : Int) := by omega
        rw [e, hc, ofBytes_toBytes]
        rw [lex_Row_eq k 1 y _ _ (by simp; omega) (by simp; omega), row_quoted 1 y x (by omega) (by omega) (by omega)]
        have e2 : (((0 : Int) == 0 && (0 : Int) == 0)) = true := rfl
        rw [e2, cond_true, same_eq k _ (by simp) (by simp; omega), cond_true, awake_eq k _ (by omega)]
theorem LexQuoted_pure (x : (Kd.str).T) (y : (Kd.int .i64).T) (_ : Wf .str x) (_ : Wf (.int .i64) y) : ∃ k, F_law11_LexQuoted k x y (fun b => some b) = some true := LexQuoted_aux x y
end Go.Proofs.Ytfbagjjnfpgjkaa.Pvm

set_option linter.unusedVariables false
namespace Go.Proofs.Ytfbagjjnfpgjkaa.lexQuoted
open Go Go.Proofs Go.ChangeShapes Go.WideShapes Go.ChangeAt Go.RowKit Go.Proofs.Ytfbagjjnfpgjkaa.Pvm
theorem own : ownKnob Try.prog.godebug = none := by kernel_rfl
theorem laidOut : laidOutB Try.prog = true := by kernel_rfl
set_option maxRecDepth 100000 in
theorem lifted (os : Os) (started : os.Started) (H : Type) (enc : TypeId × Value → H) :
    ReturnsInHanded {} Try.checked os 6 .any (Rows.lexQuotedSpec.pre6 enc Try.prog Try.f6 Rows.lexQuotedRow.domain false) (Rows.lexQuotedSpec.post enc Try.prog Try.f6 false true false false) := by
  refine returnsInHanded_of_change_sized (C := Try.checked) own started (by kernel_rfl) Try.func6
    (ChangeSpec.witness6 (enc := enc) (C := Try.checked) false ⟨#[], #[.string ByteArray.empty, .int .i64 0], []⟩ 8 (by kernel_rfl) (by kernel_rfl) (by kernel_rfl) (by kernel_rfl)) ?_
  intro W base args ds gs before hval0 hW hcnd hsz0 _
  have hsz : (DataW.weightsEach Try.prog (Try.f6.params.toList ++ Rows.lexQuotedSpec.plain.varTypes Try.prog) (ds ++ gs)).all (· ≤ reachBytes) = true := hsz0
  have hval : ∀ (j : Nat) t v, Try.f6.params[j]? = some t → args[j]? = some v → Value.okWide Try.prog W .any base t v := hval0
  have hW' := hW
  obtain ⟨p, q, hA0, hV, rfl, hfz, hnd⟩ := hW
  have hA : DataW.TrodAll enc Try.prog W 0 (fun _ => true) true Try.f6.params.toList args.toList ds p := hA0
  rw [Try.params6] at hA hval hsz
  obtain ⟨v0, vs0, d0, ds0, p0, q0, hargs, rfl, rfl, h0, r0⟩ := trodAll_cons hA
  obtain ⟨v1, vs1, d1, ds1, p1, q1, rfl, rfl, rfl, h1, r1⟩ := trodAll_cons r0
  obtain ⟨rfl, rfl, rfl⟩ := trodAll_nil r1
  obtain rfl : args = #[v0, v1] := by cases args; simp_all
  obtain ⟨rfl, rfl⟩ := trodVars_none hV
  have hws := weights_of (P := Try.prog) hsz
  have k0 := h0
  have lt0 : ∀ x ∈ p0, x.block < W.heap.size := by obtain ⟨m, hm⟩ := k0; exact DataW.trod_lt m _ _ _ hm
  obtain ⟨x0, wf0, rv0⟩ := arg_data tyT_ok (n := 9) (K := .str) (by kernel_rfl) (by kernel_rfl) (hval 0 9 v0 rfl rfl) h0 (hws 0 9 d0 rfl rfl) (h := mkH []) (G := G0) (fun _ => rfl) (fun _ h => h)
  have k1 := h1
  have lt1 : ∀ x ∈ p1, x.block < W.heap.size := by obtain ⟨m, hm⟩ := k1; exact DataW.trod_lt m _ _ _ hm
  obtain ⟨x1, wf1, rv1⟩ := arg_data tyT_ok (n := 9) (K := (.int .i64)) (by kernel_rfl) (by kernel_rfl) (hval 1 3 v1 rfl rfl) h1 (hws 1 3 d1 rfl rfl) (h := mkH []) (G := G0) (fun _ => rfl) (fun _ h => h)
  obtain ⟨k, hk⟩ := LexQuoted_pure x0 x1 wf0 wf1
  have hrun : run_law11_LexQuoted k [.v .str x0, .v (.int .i64) x1] [] lawK = some true := hk
  refine (law_calls (fn := Try.f6) (c := Try.f6.body.getD .skip) (by kernel_rfl) (by kernel_rfl) (by kernel_rfl) (D_law11_LexQuoted k hrun) (vals := [v0, v1]) ⟨v0, _, rfl, rv0, ⟨v1, _, rfl, rv1, rfl⟩⟩).mono fun e W' ⟨he, bel⟩ => ?_
  subst he
  exact ⟨_, rfl, _, _, _, [], _, [], hW', trodAll_mk1 (shut_bool Try.underlying4 _), (trodAll_cons_mk (Below.trod laidOut (by kernel_rfl) (of_decide_eq_true (by kernel_rfl)) k0 bel lt0) (trodAll_cons_mk (Below.trod laidOut (by kernel_rfl) (of_decide_eq_true (by kernel_rfl)) k1 bel lt1) trodAll_mk0)), rfl, bel.frame _, fun h => by cases h⟩
theorem over : Rows.lexQuotedRow.holds Try.pinned (OpenSpec.ofChange Rows.lexQuotedSpec) :=
  OpenClaim.holds_of_wide 6 Try.f6 rfl rfl rfl rfl rfl rfl rfl ⟨rfl, rfl, rfl, rfl, rfl⟩ rfl rfl rfl rfl rfl (by kernel_rfl) Try.func6 (by kernel_rfl)
    (of_decide_eq_true (by kernel_rfl)) (by unfold Func.isWrapper; first | (rw [if_pos (by decide +kernel)]; kernel_rfl) | (rw [if_neg (by decide +kernel)]; exact ⟨rfl, rfl⟩))
    (fun os started H enc _ => lifted os started H enc)
theorem proved : Rows.LexQuotedSaid := over
#print axioms proved
end Go.Proofs.Ytfbagjjnfpgjkaa.lexQuoted
namespace Go.Proofs.Ytfbagjjnfpgjkaa
/-- The row, under a short name. -/
theorem lexQuoted_holds : Rows.LexQuotedSaid := lexQuoted.proved
end Go.Proofs.Ytfbagjjnfpgjkaa
