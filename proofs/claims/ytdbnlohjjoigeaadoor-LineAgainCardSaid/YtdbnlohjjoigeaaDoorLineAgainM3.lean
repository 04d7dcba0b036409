/- For every string the law LineAgain answers true: what a line of at most 5000 bytes was stripped to is as it is, stripped again, and is a beginning of what it was; of a longer string only the fixed texts by hand are asked. -/
import Derived.Test.YtdbnlohjjoigeaaDoorCards
import Derived.Test.YtdbnlohjjoigeaaDoorTie
import Derived.LaidMore
import Derived.Lay
import Derived.SevenTiedAt
import Derived.Stop.Joined
import Derived.Test.YtdbnlohjjoigeaaDoorRows
import Derived.Test.YtdbnlohjjoigeaaDoorLineAgainM0
import Derived.Test.YtdbnlohjjoigeaaDoorLineAgainM1
import Derived.Test.YtdbnlohjjoigeaaDoorLineAgainM2
set_option linter.unusedVariables false
set_option linter.unusedSimpArgs false
set_option linter.unusedSectionVars false
set_option linter.unusedVariables false
set_option linter.unusedSimpArgs false
namespace Go.Proofs.YtdbnlohjjoigeaaDoor.Pvm
open Go
theorem rt_prefix (l : List UInt8) : ∃ z : List UInt8, l = rt l ++ z ∧ z.all (· == 32) = true := by
  refine ⟨(l.reverse.takeWhile (· == 32)).reverse, ?_, ?_⟩
  · unfold rt
    rw [← List.reverse_append, List.takeWhile_append_dropWhile, List.reverse_reverse]
  · rw [List.all_reverse]
    exact List.all_takeWhile
theorem dw_idem (p : UInt8 → Bool) : ∀ l : List UInt8, (l.dropWhile p).dropWhile p = l.dropWhile p
  | [] => rfl
  | x :: r => by
    rw [List.dropWhile_cons]
    cases h : p x with
    | true => exact dw_idem p r
    | false =>
      simp only [Bool.false_eq_true, if_false]
      rw [List.dropWhile_cons, h]; rfl
theorem rt_idem (l : List UInt8) : rt (rt l) = rt l := by
  unfold rt
  rw [List.reverse_reverse, dw_idem]
theorem qS_take (c : UInt8) : ∀ (r : List UInt8) (i j n : Nat), qS c r i = some j → j < i + n → qS c (r.take n) i = some j
  | [], i, j, n, h, _ => by cases h
  | [x], i, j, 0, h, hj => by have := qS_bound c _ _ _ h; omega
  | [x], i, j, n + 1, h, hj => by simpa using h
  | x :: y :: r, i, j, 0, h, hj => by have := qS_bound c _ _ _ h; omega
  | x :: y :: r, i, j, 1, h, hj => by
    rw [qS] at h
    show qS c [x] i = some j
    rw [qS]
    cases h1 : (c == 34 && x == 92) <;> rw [h1] at h <;> simp only [cond_true, cond_false] at h ⊢
    · cases h2 : (x == c) <;> rw [h2] at h <;> simp only [Bool.not_true, Bool.not_false, cond_true, cond_false] at h ⊢
      · have := qS_bound c _ _ _ h; omega
      · cases h3 : (c == 39 && y == c) <;> rw [h3] at h <;> simp only [cond_true, cond_false] at h
        · exact h
        · have := qS_bound c _ _ _ h; omega
    · have := qS_bound c _ _ _ h; omega
  | x :: y :: r, i, j, n + 2, h, hj => by
    rw [qS] at h
    show qS c (x :: y :: r.take n) i = some j
    rw [qS]
    cases h1 : (c == 34 && x == 92) <;> rw [h1] at h <;> simp only [cond_true, cond_false] at h ⊢
    · cases h2 : (x == c) <;> rw [h2] at h <;> simp only [Bool.not_true, Bool.not_false, cond_true, cond_false] at h ⊢
      · exact qS_take c (y :: r) (i + 1) j (n + 1) h (by omega)
      · cases h3 : (c == 39 && y == c) <;> rw [h3] at h <;> simp only [cond_true, cond_false] at h ⊢
        · exact h
        · exact qS_take c r (i + 2) j n h (by omega)
    · exact qS_take c r (i + 2) j n h (by omega)
/-- the place of a quoted text's last sign holds its sign -/
theorem qS_sign (c : UInt8) (s : List UInt8) : ∀ (r : List UInt8) (i j : Nat), s.drop i = r → qS c r i = some j → s.getD j 0 = c
  | [], i, j, _, h => by cases h
  | [x], i, j, hs, h => by
    obtain ⟨_, g, _⟩ := drop_cons' hs
    rw [qS] at h
    cases h1 : (c == 34 && x == 92) <;> rw [h1] at h <;> simp only [cond_true, cond_false] at h
    · cases h2 : (x == c) <;> rw [h2] at h <;> simp at h
      rw [← h, g]; exact beq_iff_eq.1 h2
    · cases h
  | x :: y :: r, i, j, hs, h => by
    obtain ⟨_, g, g2⟩ := drop_cons' hs
    obtain ⟨_, _, g3⟩ := drop_cons' g2
    rw [qS] at h
    cases h1 : (c == 34 && x == 92) <;> rw [h1] at h <;> simp only [cond_true, cond_false] at h
    · cases h2 : (x == c) <;> rw [h2] at h <;> simp only [Bool.not_true, Bool.not_false, cond_true, cond_false] at h
      · exact qS_sign c s (y :: r) (i + 1) j g2 h
      · cases h3 : (c == 39 && y == c) <;> rw [h3] at h <;> simp only [cond_true, cond_false] at h
        · cases h; rw [g]; exact beq_iff_eq.1 h2
        · exact qS_sign c s r (i + 2) j g3 h
    · exact qS_sign c s r (i + 2) j g3 h
theorem take_getD {s : List UInt8} {m i : Nat} (h : i < m) : (s.take m).getD i 0 = s.getD i 0 := by
  simp [List.getD, List.getElem?_take, h]
theorem qAt_take {s : List UInt8} {i j m : Nat} (h : qAt s i = some j) (hj : j < m) (hi : i < m) : qAt (s.take m) i = some j := by
  unfold qAt at h ⊢
  rw [take_getD hi, List.drop_take]
  exact qS_take _ _ _ _ _ h (by omega)
theorem fresh_take {s : List UInt8} {m i : Nat} (h : i ≤ m) : fresh (s.take m) i = fresh s i := by
  unfold fresh
  by_cases h0 : i = 0
  · subst h0; rfl
  · rw [take_getD (by omega)]
theorem stS_ge (s : List UInt8) : ∀ (n i e : Nat), stS s n i = some e → e = s.length ∨ i ≤ e
  | 0, i, e, h => by cases h; exact .inl rfl
  | n + 1, i, e, h => by
    rw [stS] at h
    cases h1 : Nat.ble s.length i <;> rw [h1] at h <;> simp only [cond_true, cond_false] at h
    · cases h2 : fresh s i <;> rw [h2] at h <;> simp only [Bool.not_true, Bool.not_false, cond_true, cond_false] at h
      · rcases stS_ge s n _ _ h with h | h
        · exact .inl h
        · exact .inr (by omega)
      · cases h3 : (s.getD i 0 == 35) <;> rw [h3] at h <;> simp only [cond_true, cond_false] at h
        · cases h4 : (s.getD i 0 == 39 || s.getD i 0 == 34) <;> rw [h4] at h <;> simp only [cond_true, cond_false] at h
          · rcases stS_ge s n _ _ h with h | h
            · exact .inl h
            · exact .inr (by omega)
          · cases hq : qAt s i with
            | none => rw [hq] at h; cases h
            | some j =>
              rw [hq] at h
              have := qAt_bound hq
              rcases stS_ge s n _ _ h with h | h
              · exact .inl h
              · exact .inr (by omega)
        · cases h; exact .inr (Nat.le_refl _)
    · cases h; exact .inl rfl
theorem stS_take (s : List UInt8) (m e : Nat) (hm : m ≤ e) (he : e ≤ s.length) (hz : ∀ j, m ≤ j → j < e → s.getD j 0 = 32) : ∀ (n i : Nat), stS s n i = some e → i ≤ m → s.length < i + n → stS (s.take m) n i = some m := by
  have hml : (s.take m).length = m := by rw [List.length_take]; omega
  intro n
  induction n with
  | zero => intro i _ hi hn; omega
  | succ n ih =>
    intro i h hi hn
    rw [stS] at h ⊢
    rw [hml]
    by_cases hl : i < m
    · rw [ble_f hl, cond_false]
      rw [ble_f (by omega), cond_false] at h
      rw [fresh_take hi, take_getD hl]
      cases hf : fresh s i with
      | false =>
        rw [hf, Bool.not_false, cond_true] at h
        rw [Bool.not_false, cond_true]
        exact ih (i + 1) h (by omega) (by omega)
      | true =>
        rw [hf, Bool.not_true, cond_false] at h
        rw [Bool.not_true, cond_false]
        cases h35 : s.getD i 0 == 35 with
        | true => rw [h35, cond_true] at h; cases h; omega
        | false =>
          rw [h35, cond_false] at h
          rw [cond_false]
          cases hq : (s.getD i 0 == 39 || s.getD i 0 == 34) with
          | false =>
            rw [hq, cond_false] at h
            rw [cond_false]
            exact ih (i + 1) h (by omega) (by omega)
          | true =>
            rw [hq, cond_true] at h
            rw [cond_true]
            cases ha : qAt s i with
            | none => rw [ha] at h; cases h
            | some j =>
              rw [ha] at h
              dsimp only at h
              have hb := qAt_bound ha
              have hsg := qS_sign _ s _ (i + 1) j rfl ha
              have hne : s.getD j 0 ≠ 32 := by
                rw [hsg]
                intro e32
                rw [e32] at hq
                cases hq
              have hje : j + 1 ≤ e := by
                refine Classical.byContradiction fun hno => ?_
                have := stS_ge s n (j + 1) e h
                omega
              have hjm : j < m := by
                refine Classical.byContradiction fun hno => ?_
                exact hne (hz j (by omega) (by omega))
              rw [qAt_take ha hjm hl]
              exact ih (j + 1) h (by omega) (by omega)
    · rw [ble_t (by omega), cond_true]
theorem stS_le (s : List UInt8) : ∀ (n i e : Nat), stS s n i = some e → i ≤ s.length → e ≤ s.length
  | 0, i, e, h, hi => by cases h; exact Nat.le_refl _
  | n + 1, i, e, h, hi => by
    rw [stS] at h
    by_cases hl : i < s.length
    · rw [ble_f hl, cond_false] at h
      cases h2 : fresh s i <;> rw [h2] at h <;> simp only [Bool.not_true, Bool.not_false, cond_true, cond_false] at h
      · exact stS_le s n _ _ h (by omega)
      · cases h3 : (s.getD i 0 == 35) <;> rw [h3] at h <;> simp only [cond_true, cond_false] at h
        · cases h4 : (s.getD i 0 == 39 || s.getD i 0 == 34) <;> rw [h4] at h <;> simp only [cond_true, cond_false] at h
          · exact stS_le s n _ _ h (by omega)
          · cases hq : qAt s i with
            | none => rw [hq] at h; cases h
            | some j =>
              rw [hq] at h
              have := qAt_bound hq
              exact stS_le s n _ _ h (by omega)
        · cases h; omega
    · rw [ble_t (by omega), cond_true] at h
      cases h; exact Nat.le_refl _
theorem again (k : Nat) (s : List UInt8) (e : Nat) (hk : s.length < k) (h : stS s k 0 = some e) :
    ∃ m, m ≤ s.length ∧ rt (s.take e) = s.take m ∧ stS (s.take m) k 0 = some m ∧ rt (s.take m) = s.take m := by
  have he := stS_le s k 0 e h (by omega)
  obtain ⟨z, h1, h2⟩ := rt_prefix (s.take e)
  have hlen := congrArg List.length h1
  rw [List.length_append, List.length_take] at hlen
  have hx : rt (s.take e) = s.take (rt (s.take e)).length := by
    have := congrArg (List.take (rt (s.take e)).length) h1
    rw [List.take_left' rfl, List.take_take] at this
    rw [show min (rt (s.take e)).length e = (rt (s.take e)).length by omega] at this
    exact this.symm
  refine ⟨(rt (s.take e)).length, by omega, hx, ?_, by rw [← hx, rt_idem]⟩
  refine stS_take s _ e (by omega) he (fun j h3 h4 => ?_) k 0 h (by omega) (by omega)
  have hj : (s.take e).getD j 0 = z.getD (j - (rt (s.take e)).length) 0 := by
    conv => lhs; rw [h1]
    simp only [List.getD]
    rw [List.getElem?_append_right h3]
  rw [take_getD h4] at hj
  rw [hj]
  have hlt : j - (rt (s.take e)).length < z.length := by omega
  have := List.all_eq_true.1 h2 (z.getD (j - (rt (s.take e)).length) 0) (by
    rw [List.getD, List.getElem?_eq_getElem hlt]
    exact List.getElem_mem hlt)
  exact beq_iff_eq.1 this
theorem LineAgain_aux (x : List UInt8) : ∃ k, F_law10_LineAgain k x (fun b => some b) = some true := by
  obtain ⟨k, hk⟩ : ∃ k : Nat, k = 30000 := ⟨_, rfl⟩
  refine ⟨k, ?_⟩
  unfold F_law10_LineAgain A_law10_LineAgain
  by_cases h1 : 5000 < x.length
  · simp (disch := omega) only [dec_t, dec_f, ieq_t, ieq_f, ine_t, ine_f, inb_t, bnd_t, wrap_id, wrap8_id, cond_true, cond_false, Bool.not_true, Bool.not_false, Bool.true_or, Bool.or_true, Bool.false_or, Bool.or_false, Bool.true_and, Bool.and_true, Bool.false_and, Bool.and_false, bool_eq_true', bool_eq_false', toNat_cast']
    rw [awake_eq k (by omega)]
  · simp (disch := omega) only [dec_t, dec_f, ieq_t, ieq_f, ine_t, ine_f, inb_t, bnd_t, wrap_id, wrap8_id, cond_true, cond_false, Bool.not_true, Bool.not_false, Bool.true_or, Bool.or_true, Bool.false_or, Bool.or_false, Bool.true_and, Bool.and_true, Bool.false_and, Bool.and_false, bool_eq_true', bool_eq_false', toNat_cast']
    rw [line_Strip_eq k x (by omega) (by omega)]
    cases h : stS x k 0 with
    | none =>
      dsimp only [stK]
      simp only [Bool.not_false, beq_self_eq_true, cond_true]
      rw [awake_eq k (by omega)]
    | some e =>
      obtain ⟨m, m1, m2, m3, m4⟩ := again k x e (by omega) h
      have hl : (x.take m).length = m := by rw [List.length_take]; omega
      dsimp only [stK]
      rw [m2, Bool.not_true, cond_false, line_Strip_eq k (x.take m) (by omega) (by omega), m3]
      dsimp only [stK]
      rw [List.take_take, Nat.min_self, m4, hl, cut_start]
      have hb : bnd 0 (m : Int) (x.length : Int) = true := bnd_t (by omega) (by omega) (by omega)
      have hd : decide ((m : Int) ≤ (x.length : Int)) = true := dec_t (by omega)
      simp only [hb, hd, beq_self_eq_true, Bool.or_true, cond_true]
      rw [awake_eq k (by omega)]
theorem LineAgain_pure (x : (Kd.str).T) (_ : Wf .str x) : ∃ k, F_law10_LineAgain k x (fun b => some b) = some true := LineAgain_aux x
end Go.Proofs.YtdbnlohjjoigeaaDoor.Pvm

set_option linter.unusedVariables false
namespace Go.Proofs.YtdbnlohjjoigeaaDoor.lineAgain
open Go Go.Proofs Go.ChangeShapes Go.WideShapes Go.ChangeAt Go.RowKit Go.Proofs.YtdbnlohjjoigeaaDoor.Pvm
theorem own : ownKnob Tryd.prog.godebug = none := by kernel_rfl
theorem laidOut : laidOutB Tryd.prog = true := by kernel_rfl
set_option maxRecDepth 100000 in
theorem lifted (os : Os) (started : os.Started) (H : Type) (enc : TypeId × Value → H) :
    ReturnsInHanded {} Tryd.checked os 4 .any (fun w args => (Rows.lineAgainSpec.pre enc Tryd.prog Tryd.f4 Rows.lineAgainRow.domain false w args ∧ laidMetH Tryd.prog Rows.lineAgainRow.laid w) ∧ sizedMet enc Tryd.prog Tryd.f4 (OpenSpec.ofChange Rows.lineAgainSpec) false w args) (Rows.lineAgainSpec.post enc Tryd.prog Tryd.f4 false true false false) := by
  refine returnsInHanded_of_change_and (C := Tryd.checked) (X := fun w _ => laidMetH Tryd.prog Rows.lineAgainRow.laid w) (fun _ _ _ hh h => h.of_heap hh) own started (by kernel_rfl) Tryd.func4
    (ChangeSpec.witness_shaped (enc := enc) (C := Tryd.checked) (os := os) (X := fun w _ => laidMetH Tryd.prog Rows.lineAgainRow.laid w) false (World.laidAll Tryd.prog os Rows.lineAgainRow.laid) #[.string ByteArray.empty] 8 (World.laidAll_os _ _ _)
      (World.shaped_of_ZipB (by kernel_rfl) (by kernel_rfl)) (by kernel_rfl) (by kernel_rfl) (by kernel_rfl)
      (by rw [MakeChecks.laidMetH_plain _ _ _ (by kernel_rfl)]; exact laidMet_laidAll _ (by kernel_rfl) (by kernel_rfl))) ?_
  intro W base args ds gs before hval0 hW hcnd hsz0 hL _
  have hsz : (DataW.weightsEach Tryd.prog (Tryd.f4.params.toList ++ Rows.lineAgainSpec.plain.varTypes Tryd.prog) (ds ++ gs)).all (· ≤ reachBytes) = true := hsz0
  have hval : ∀ (j : Nat) t v, Tryd.f4.params[j]? = some t → args[j]? = some v → Value.okWide Tryd.prog W .any base t v := hval0
  have hW' := hW
  obtain ⟨p, q, hA0, hV, rfl, hfz, hnd⟩ := hW
  have hA : DataW.TrodAll enc Tryd.prog W 0 (fun _ => true) true Tryd.f4.params.toList args.toList ds p := hA0
  rw [Tryd.params4] at hA hval hsz
  obtain ⟨v0, vs0, d0, ds0, p0, q0, hargs, rfl, rfl, h0, r0⟩ := trodAll_cons hA
  obtain ⟨rfl, rfl, rfl⟩ := trodAll_nil r0
  obtain rfl : args = #[v0] := by cases args; simp_all
  obtain ⟨rfl, rfl⟩ := trodVars_none hV
  have hws := weights_of (P := Tryd.prog) hsz
  have k0 := h0
  have lt0 : ∀ x ∈ p0, x.block < W.heap.size := by obtain ⟨m, hm⟩ := k0; exact DataW.trod_lt m _ _ _ hm
  obtain ⟨x0, wf0, rv0⟩ := arg_data tyT_ok (n := 9) (K := .str) (by kernel_rfl) (by kernel_rfl) (hval 0 9 v0 rfl rfl) h0 (hws 0 9 d0 rfl rfl) (h := mkH []) (G := G0) (fun _ => rfl) (fun _ h => h)
  obtain ⟨k, hk⟩ := LineAgain_pure x0 wf0
  have hrun : run_law10_LineAgain k [.v .str x0] [] lawK = some true := hk
  refine (law_calls (fn := Tryd.f4) (c := Tryd.f4.body.getD .skip) (by kernel_rfl) (by kernel_rfl) (by kernel_rfl) (D_law10_LineAgain k hrun) (vals := [v0]) ⟨v0, _, rfl, rv0, rfl⟩).mono fun e W' ⟨he, bel⟩ => ?_
  subst he
  exact ⟨_, rfl, _, _, _, [], _, [], hW', trodAll_mk1 (shut_bool Tryd.underlying4 _), (trodAll_cons_mk (Below.trod laidOut (by kernel_rfl) (of_decide_eq_true (by kernel_rfl)) k0 bel lt0) trodAll_mk0), rfl, bel.frame _, fun h => by cases h⟩
theorem over : Rows.lineAgainRow.holds Tryd.pinned (OpenSpec.ofChange Rows.lineAgainSpec) :=
  OpenClaim.holds_of_wide 4 Tryd.f4 rfl rfl rfl rfl rfl rfl rfl ⟨rfl, rfl, rfl, rfl, rfl⟩ rfl rfl rfl rfl rfl (by kernel_rfl) Tryd.func4 (by kernel_rfl)
    (of_decide_eq_true (by kernel_rfl)) (by unfold Func.isWrapper; first | (rw [if_pos (by decide +kernel)]; kernel_rfl) | (rw [if_neg (by decide +kernel)]; exact ⟨rfl, rfl⟩))
    (fun os started H enc _ => lifted os started H enc)
theorem tied : Rows.LineAgainCardSaid :=
  Claim7.holds_tied_plain_at .later [] [.data, .pinned] true (true, "0932244c124e6fc7e814d405ee82d3b53ff1dcee37c1454ede2257adf2efed17") false over (fun _ h => by cases h) (by kernel_rfl) (fun _ h => by cases h) lineAgain_row_tie rfl ⟨rfl, rfl⟩ (by kernel_rfl) rfl
    (fun f fn hf hfn => by
      obtain rfl : f = 4 := Option.some.inj ((show Tryd.prog.funcNamed Rows.lineAgainRow.func = some 4 by kernel_rfl).symm.trans hf) |>.symm
      obtain rfl : fn = Tryd.f4 := (Option.some.inj (Tryd.func4.symm.trans hfn)).symm
      exact ⟨by kernel_rfl, fun j t ht => by
        rw [Tryd.params4] at ht
        have hm : t ∈ [9] := by simpa using Array.mem_of_getElem? ht
        have hall : ([9].all fun u => !Tryd.prog.wantsStandIn u) = true := by kernel_rfl
        exact (show Tryd.prog.wantsStandIn t = false by simpa using List.all_eq_true.1 hall t hm)⟩)
    (by kernel_rfl)
#print axioms tied
end Go.Proofs.YtdbnlohjjoigeaaDoor.lineAgain
namespace Go.Proofs.YtdbnlohjjoigeaaDoor
/-- The tied card, under a short name. -/
theorem lineAgain_holds : Rows.LineAgainCardSaid := lineAgain.tied
end Go.Proofs.YtdbnlohjjoigeaaDoor
