/- The Go function ShowRead answers true for every input: the text of any document that may be is read as it; no further condition. -/
import Derived.Lib.TrimU
import Derived.Test.YtdfhgimidmfgfaaGreatDoorCards
import Derived.Test.YtdfhgimidmfgfaaGreatDoorTie
import Derived.LaidMore
import Derived.Lay
import Derived.SevenTiedAt
import Derived.Stop.Joined
import Derived.Test.YtdfhgimidmfgfaaGreatDoorRows
import Derived.Test.YtdfhgimidmfgfaaGreatDoorShowReadM0
import Derived.Test.YtdfhgimidmfgfaaGreatDoorShowReadM1
import Derived.Test.YtdfhgimidmfgfaaGreatDoorShowReadM2
import Derived.Test.YtdfhgimidmfgfaaGreatDoorShowReadM3
import Derived.Test.YtdfhgimidmfgfaaGreatDoorShowReadM4
set_option linter.unusedVariables false
set_option linter.unusedSimpArgs false
set_option linter.unusedSectionVars false
noncomputable section
namespace Go.Proofs.YtdfhgimidmfgfaaGreatDoor.Pvm
open Go
theorem wq1bq (no col : Int) (out : List Pc) (x : Option (List UInt8 × List UInt8)) (h : (finQ no col out x).2.1 = 0) : ∃ a, (finQ no col out x).1 = out ++ [(3, no, col, a, true)] := by
  unfold finQ at h ⊢
  cases x with
  | none => exact absurd h (by simp)
  | some p =>
    obtain ⟨a, r⟩ := p
    dsimp only at h ⊢
    cases h1 : !(r == []) with
    | true => rw [h1, cond_true] at h; cases h
    | false =>
      cases h2 : decide (200 < a.length) with
      | true => rw [h1, h2, cond_false, cond_true] at h; cases h
      | false => exact ⟨a, rfl⟩
theorem wq16g (no ind : Int) (n : Nat) (s : List UInt8) (out : List Pc) (h : (txtS no ind n s out).2.1 = 0) :
    (s = [] ∧ (txtS no ind n s out).1 = out) ∨ (∃ a, (txtS no ind n s out).1 = out ++ [(3, no, ind + (n : Int), a, true)]) ∨
    (∃ c t, s = c :: t ∧ (c == 39) = false ∧ (c == 34) = false ∧ oddB c = false ∧ dsh (c :: t) = false ∧ kS (c :: t) = 0 ∧ (c :: t).length ≤ 200 ∧ (txtS no ind n s out).1 = out ++ [(3, no, ind + (n : Int), c :: t, false)]) := by
  cases s with
  | nil => exact .inl ⟨rfl, rfl⟩
  | cons c t =>
    unfold txtS at h ⊢
    dsimp only at h ⊢
    cases h1 : c == 39 with
    | true =>
      rw [h1, cond_true] at h
      obtain ⟨a, ha⟩ := wq1bq _ _ _ _ h
      exact .inr (.inl ⟨a, ha⟩)
    | false =>
      cases h2 : c == 34 with
      | true =>
        rw [h1, h2, cond_false, cond_true] at h
        obtain ⟨a, ha⟩ := wq1bq _ _ _ _ h
        exact .inr (.inl ⟨a, ha⟩)
      | false =>
        rw [h1, h2, cond_false, cond_false] at h
        cases h3 : (oddB c || (dsh (c :: t) || decide (0 < kS (c :: t)))) with
        | true => rw [h3, cond_true] at h; cases h
        | false =>
          rw [h3, cond_false] at h
          cases h4 : decide (200 < (c :: t).length) with
          | true => rw [h4, cond_true] at h; cases h
          | false =>
            simp only [Bool.or_eq_false_iff] at h3
            obtain ⟨h5, h6, h7⟩ := h3
            have h7 := of_decide_eq_false h7
            have h4 := of_decide_eq_false h4
            exact .inr (.inr ⟨c, t, rfl, h1, h2, h5, h6, by omega, by omega, rfl⟩)
theorem wq1br (no ind : Int) (n : Nat) (s : List UInt8) (out : List Pc) (h : (endS no ind n s out).2.1 = 0) :
    (kS s = 0 ∧ endS no ind n s out = txtS no ind n s out) ∨ ∃ q, (endS no ind n s out).1 = out ++ (2, no, ind + (n : Int), s.take (kS s), false) :: q := by
  unfold endS at h ⊢
  cases h1 : decide (0 < kS s) with
  | false =>
    have h1 := of_decide_eq_false h1
    exact .inl ⟨by omega, rfl⟩
  | true =>
    rw [h1, cond_true] at h
    cases h2 : decide (64 < kS s) with
    | true => rw [h2, cond_true] at h; cases h
    | false =>
      rw [h2, cond_false] at h
      rw [cond_true, cond_false]
      refine .inr ?_
      rcases wq16g _ _ _ _ _ h with ⟨_, e⟩ | ⟨a, e⟩ | ⟨c, t, _, _, _, _, _, _, _, e⟩
      · exact ⟨[], by rw [e]⟩
      · exact ⟨_, by rw [e, List.append_assoc]; rfl⟩
      · exact ⟨_, by rw [e, List.append_assoc]; rfl⟩
theorem wq1bs (no ind : Int) : ∀ (f n : Nat) (s : List UInt8) (out : List Pc), (rowS no ind f n s out).2.1 = 0 → ∃ q, (rowS no ind f n s out).1 = out ++ q
  | 0, n, s, out, _ => ⟨[], by rw [rowS]; simp⟩
  | f + 1, n, s, out, h => by
    rw [rowS] at h ⊢
    cases h1 : dsh s with
    | true =>
      rw [h1, cond_true] at h
      obtain ⟨q, hq⟩ := wq1bs no ind f _ _ _ h
      exact ⟨_, by rw [cond_true, hq, List.append_assoc]⟩
    | false =>
      rw [h1, cond_false] at h
      rw [cond_false]
      rcases wq1br _ _ _ _ _ h with ⟨_, e⟩ | ⟨q, e⟩
      · rw [e] at h ⊢
        rcases wq16g _ _ _ _ _ h with ⟨_, e⟩ | ⟨a, e⟩ | ⟨c, t, _, _, _, _, _, _, _, e⟩
        · exact ⟨[], by rw [e]; simp⟩
        · exact ⟨_, e⟩
        · exact ⟨_, e⟩
      · exact ⟨_, e⟩
structure PL (s : List UInt8) : Prop where
  q1 : ∃ c t, s = c :: t ∧ (c == 39) = false ∧ (c == 34) = false ∧ oddB c = false
  d : dsh s = false
  k : kS s = 0
  n : nb s = 0
  len : s.length ≤ 200
theorem wq1bt {s : List UInt8} (h : plainS s = true) : PL s ∧ noCtl s = true ∧ s ≠ [] ∧ stripB s = true := by
  simp only [plainS, Bool.and_eq_true, Bool.not_eq_true', beq_eq_false_iff_ne] at h
  obtain ⟨h1, h2, h3, h4⟩ := h
  refine ⟨?_, h1, h2, h3⟩
  unfold rowB at h4
  simp only [Bool.and_eq_true, beq_iff_eq] at h4
  obtain ⟨h5, h6⟩ := h4
  unfold rowR at h5 h6
  have e0 : (decide ((0 : Int) < 0) || decide ((16384 : Int) < 0)) = false := rfl
  rw [e0, cond_false] at h5 h6
  have nbl := nb_le s
  rw [rowS] at h5 h6
  cases h7 : dsh (s.drop (nb s)) with
  | true =>
    rw [h7, cond_true] at h5 h6
    obtain ⟨q, hq⟩ := wq1bs _ _ _ _ _ _ h5
    rw [hq] at h6
    cases q with
    | nil => cases h6
    | cons x q => cases h6
  | false =>
    rw [h7, cond_false] at h5 h6
    rcases wq1br _ _ _ _ _ h5 with ⟨h8, e⟩ | ⟨q, e⟩
    · rw [e] at h5 h6
      rcases wq16g _ _ _ _ _ h5 with ⟨_, e⟩ | ⟨a, e⟩ | ⟨c, t, hs, g1, g2, g3, g4, g5, g6, e⟩
      · rw [e] at h6; cases h6
      · rw [e] at h6
        simp [oneP] at h6
      · rw [e] at h6
        simp only [List.nil_append, oneP, Bool.and_eq_true, beq_iff_eq] at h6
        obtain ⟨_, h9, _⟩ := h6
        have hn : nb s = 0 := by
          have : (s.drop (nb s)).length = s.length := by rw [hs, h9]
          rw [List.length_drop] at this
          have : 0 < s.length := List.length_pos_iff.2 h2
          omega
        rw [hn, List.drop_zero] at h7 h8
        exact ⟨⟨c, t, h9.symm, g1, g2, g3⟩, h7, h8, hn, by rw [← h9]; exact g6⟩
    · rw [e] at h6
      cases q with
      | nil => simp [oneP] at h6
      | cons x q => cases h6
theorem stS_le (s : List UInt8) : ∀ (f i e : Nat), stS s f i = some e → e ≤ s.length
  | 0, i, e, h => by rw [stS] at h; cases h; exact Nat.le_refl _
  | f + 1, i, e, h => by
    rw [stS] at h
    by_cases hi : i < s.length
    · rw [ble_f hi, cond_false] at h
      cases h1 : !fresh s i with
      | true => rw [h1, cond_true] at h; exact stS_le s f _ e h
      | false =>
        rw [h1, cond_false] at h
        cases h2 : s.getD i 0 == 35 with
        | true => rw [h2, cond_true] at h; cases h; omega
        | false =>
          rw [h2, cond_false] at h
          cases h3 : (s.getD i 0 == 39 || s.getD i 0 == 34) with
          | true =>
            rw [h3, cond_true] at h
            cases hq : qAt s i with
            | none => rw [hq] at h; cases h
            | some j => rw [hq] at h; exact stS_le s f _ e h
          | false => rw [h3, cond_false] at h; exact stS_le s f _ e h
    · rw [ble_t (by omega), cond_true] at h; cases h; exact Nat.le_refl _
theorem wq199 {s : List UInt8} (h : stripB s = true) : stS s (s.length + 1) 0 = some s.length ∧ rt s = s := by
  unfold stripB at h
  cases hs : stS s (s.length + 1) 0 with
  | none => rw [hs] at h; cases h
  | some e =>
    rw [hs] at h
    dsimp only at h
    have h : rt (s.take e) = s := by simpa using h
    have h1 := stS_le s _ _ _ hs
    have h2 := rt_len (s.take e)
    rw [h, List.length_take] at h2
    have h3 : e = s.length := by omega
    subst h3
    rw [List.take_length] at h
    exact ⟨rfl, h⟩
theorem nb_lt {s : List UInt8} (h : nb s = 0) : lt32 s = s := by
  cases s with
  | nil => rfl
  | cons c r =>
    rw [wqtw] at h
    cases hc : c == 32 with
    | true => rw [hc, cond_true] at h; omega
    | false => exact wqrk hc
theorem lt_nb {s : List UInt8} (h : lt32 s = s) : nb s = 0 := by
  cases s with
  | nil => rfl
  | cons c r =>
    rw [wqtw]
    cases hc : c == 32 with
    | false => rfl
    | true =>
      unfold lt32 at h
      rw [List.dropWhile_cons, hc] at h
      have := (List.dropWhile_suffix (p := (· == (32 : UInt8))) (l := r)).length_le
      have e : (List.dropWhile (· == (32 : UInt8)) r).length = (c :: r).length := by rw [← h]; rfl
      simp at e
      omega
theorem wq1fe {s : List UInt8} (h : plainS s = true) : GL s := by
  obtain ⟨p, h1, h2, h3⟩ := wq1bt h
  obtain ⟨h4, h5⟩ := wq199 h3
  exact ⟨h1, h2, nb_lt p.n, h5, h4⟩
theorem wqxj (c : UInt8) : noCtl (escB c) = true ∧ (escB c = [c] ∧ (c == 34) = false ∧ (c == 92) = false ∨ ∃ d r, escB c = 92 :: d :: r ∧ r.all (fun x => !(x == 34) && !(x == 92)) = true) := by
  have h1 := all_u8 (fun c => noCtl (escB c)) (by kernel_rfl) c
  refine ⟨h1, ?_⟩
  have hx : ∀ n, n < 16 → (!(hexL.getD n 0 == 34) && !(hexL.getD n 0 == 92)) = true := by decide +kernel
  unfold escB
  cases h2 : (c == 92 || c == 34) with
  | true => exact .inr ⟨c, [], rfl, rfl⟩
  | false =>
    simp only [Bool.or_eq_false_iff] at h2
    simp only [cond_false]
    cases c == 10 with
    | true => exact .inr ⟨110, [], rfl, rfl⟩
    | false =>
      simp only [cond_false]
      cases c == 9 with
      | true => exact .inr ⟨116, [], rfl, rfl⟩
      | false =>
        simp only [cond_false]
        cases (decide (c.toNat < 32) || c == 127) with
        | false => exact .inl ⟨rfl, h2.2, h2.1⟩
        | true =>
          have hc := c.toNat_lt
          refine .inr ⟨120, _, rfl, ?_⟩
          rw [List.all_cons, List.all_cons, hx _ (by omega), hx _ (by omega)]
          rfl
theorem wq17s : ∀ s : List UInt8, noCtl (escS s) = true
  | [] => rfl
  | c :: r => by rw [escS, wqhu, (wqxj c).1, wq17s r]; rfl
theorem wq1dp {x : UInt8} (h1 : (x == 34) = false) (h2 : (x == 92) = false) {r : List UInt8} (hr : r ≠ []) (i : Nat) : qS 34 (x :: r) i = qS 34 r (i + 1) := by
  cases r with
  | nil => exact absurd rfl hr
  | cons y r => rw [qS, h1, h2]; rfl
theorem wq1bu : ∀ (l r : List UInt8) (i : Nat), l.all (fun x => !(x == 34) && !(x == 92)) = true → r ≠ [] → qS 34 (l ++ r) i = qS 34 r (i + l.length)
  | [], r, i, _, _ => rfl
  | x :: l, r, i, h, hr => by
    rw [List.all_cons, Bool.and_eq_true] at h
    have hx := h.1
    simp only [Bool.and_eq_true, Bool.not_eq_true'] at hx
    rw [List.cons_append, wq1dp hx.1 hx.2 (by simp [hr]), wq1bu l r (i + 1) h.2 hr, List.length_cons]
    congr 1
    omega
theorem qS_esc : ∀ (s : List UInt8) (i : Nat), qS 34 (escS s ++ [34]) i = some (i + (escS s).length)
  | [], i => rfl
  | c :: r, i => by
    have hne : escS r ++ [34] ≠ [] := by simp
    rw [escS, List.append_assoc, List.length_append]
    rcases (wqxj c).2 with ⟨e, h1, h2⟩ | ⟨d, q, e, hq⟩
    · rw [e, List.singleton_append, wq1dp h1 h2 hne, qS_esc r (i + 1), List.length_singleton]
      congr 1
      omega
    · rw [e]
      have : qS 34 (92 :: d :: q ++ (escS r ++ [34])) i = qS 34 (q ++ (escS r ++ [34])) (i + 2) := by
        rw [List.cons_append, List.cons_append, qS]; rfl
      rw [this, wq1bu q _ _ hq hne, qS_esc r]
      simp only [List.length_cons]
      congr 1
      omega
theorem GL_quo (s : List UInt8) : GL (quoS s) := by
  refine ⟨?_, by simp [quoS], wqrk rfl, ?_, ?_⟩
  · unfold quoS
    have : (34 :: (escS s ++ [34]) : List UInt8) = [34] ++ escS s ++ [34] := rfl
    rw [this, wqhu, wqhu, wq17s]; rfl
  · have : quoS s = (34 :: escS s) ++ [34] := rfl
    rw [this]
    exact wq1do _ 34 rfl
  · have hl : (quoS s).length = (escS s).length + 2 := by simp [quoS]
    have hq : qAt (quoS s) 0 = some (1 + (escS s).length) := by
      have : qAt (quoS s) 0 = qS 34 (escS s ++ [34]) 1 := rfl
      rw [this, qS_esc]
    rw [hl, stS, ble_f (by omega)]
    have h1 : (!fresh (quoS s) 0) = false := rfl
    have h2 : (quoS s).getD 0 0 = 34 := rfl
    rw [h1, h2, hq]
    have h3 : ((34 : UInt8) == 35) = false := rfl
    have h4 : ((34 : UInt8) == 39 || (34 : UInt8) == 34) = true := rfl
    rw [h3, h4, cond_false, cond_false, cond_false, cond_true]
    dsimp only
    rw [show (escS s).length + 2 = ((escS s).length + 1) + 1 by omega, stS, ble_t (by omega), cond_true, hl]
theorem wq1cv (c : UInt8) : hexv (hexL.getD (c.toNat / 16) 0) = some (c.toNat / 16) ∧ hexv (hexL.getD (c.toNat % 16) 0) = some (c.toNat % 16) := by
  have := all_u8 (fun c => hexv (hexL.getD (c.toNat / 16) 0) == some (c.toNat / 16) && hexv (hexL.getD (c.toNat % 16) 0) == some (c.toNat % 16)) (by kernel_rfl) c
  simp only [Bool.and_eq_true, beq_iff_eq] at this
  exact this
theorem wq1gx (f : Nat) (acc : List UInt8) (c : UInt8) (r : List UInt8) : dbl (f + 1) acc (escB c ++ r) = dbl f (acc ++ [c]) r := by
  unfold escB
  cases h1 : c == 92 with
  | true => have := beq_iff_eq.1 h1; subst this; rfl
  | false =>
    cases h2 : c == 34 with
    | true => have := beq_iff_eq.1 h2; subst this; rfl
    | false =>
      cases h3 : c == 10 with
      | true => have := beq_iff_eq.1 h3; subst this; rfl
      | false =>
        cases h4 : c == 9 with
        | true => have := beq_iff_eq.1 h4; subst this; rfl
        | false =>
          cases h5 : (decide (c.toNat < 32) || c == 127) with
          | true =>
            obtain ⟨e1, e2⟩ := wq1cv c
            simp only [Bool.or_false, cond_true, cond_false, List.cons_append, List.nil_append, dbl]
            have e92 : ((92 : UInt8) == 34) = false := rfl
            have e92' : ((92 : UInt8) == 92) = true := rfl
            have t1 : tak (120 :: hexL.getD (c.toNat / 16) 0 :: hexL.getD (c.toNat % 16) 0 :: r) = some (c, 3) := by
              have g1 : ((120 : UInt8) == 92) = false := rfl
              have g2 : ((120 : UInt8) == 34) = false := rfl
              have g3 : ((120 : UInt8) == 110) = false := rfl
              have g4 : ((120 : UInt8) == 116) = false := rfl
              have g5 : ((120 : UInt8) == 120) = true := rfl
              simp only [tak, g1, g2, g3, g4, g5, cond_true, cond_false, e1, e2]
              have : 16 * (c.toNat / 16) + c.toNat % 16 = c.toNat := by omega
              rw [this, UInt8.ofNat_toNat]
            rw [e92, e92', cond_false, cond_true, t1]
            rfl
          | false =>
            simp only [Bool.or_false, cond_false, List.cons_append, List.nil_append, dbl, h1, h2]
theorem wq1bv : ∀ (s : List UInt8) (f : Nat) (acc : List UInt8), s.length < f → dbl f acc (escS s ++ [34]) = some (acc ++ s, [])
  | s, 0, acc, h => by omega
  | [], f + 1, acc, h => by simp [escS, dbl]
  | c :: r, f + 1, acc, h => by
    rw [escS, List.append_assoc, wq1gx, wq1bv r f _ (by simpa using h)]
    simp
theorem wq1dq : ∀ s : List UInt8, s.length ≤ (escS s).length
  | [] => Nat.zero_le _
  | c :: r => by
    have := wq1dq r
    have h1 : 1 ≤ (escB c).length := by
      rcases (wqxj c).2 with ⟨e, _⟩ | ⟨d, q, e, _⟩ <;> rw [e] <;> simp
    rw [escS, List.length_append, List.length_cons]; omega
theorem wq17t {x : Nd} (h : fitN x = true) (h1 : (x.1 == 1) = true) : GL (txtN x) ∧ dsh (txtN x) = false ∧ kS (txtN x) = 0 ∧ ∀ (no ind : Int) (n : Nat) (out : List Pc), txtS no ind n (txtN x) out = (out ++ [(3, no, ind + (n : Int), x.2.2.1, x.2.2.2.1)], 0, 0) := by
  obtain ⟨_, _, hl, hq⟩ := wqmh h h1
  unfold txtN
  cases hb : x.2.2.2.1 with
  | true =>
    rw [cond_true]
    refine ⟨GL_quo _, ?_, rfl, fun no ind n out => ?_⟩
    · cases hh : escS x.2.2.1 ++ [34] with
      | nil => unfold quoS; rw [hh]; rfl
      | cons y z => unfold quoS; rw [hh]; rfl
    · have e1 : quoS x.2.2.1 = 34 :: (escS x.2.2.1 ++ [34]) := rfl
      have hge := wq1dq x.2.2.1
      rw [e1, txtS]
      have e2 : ((34 : UInt8) == 39) = false := rfl
      have e3 : ((34 : UInt8) == 34) = true := rfl
      rw [e2, e3, cond_false, cond_true, wq1bv _ _ _ (by simp; omega), finQ, dec_f (by simpa using hl)]
      rfl
  | false =>
    rw [cond_false]
    rw [hb] at hq
    have hp : plainS x.2.2.1 = true := by simpa using hq
    obtain ⟨p, _⟩ := wq1bt hp
    refine ⟨wq1fe hp, p.d, p.k, fun no ind n out => ?_⟩
    obtain ⟨c, t, e, g1, g2, g3⟩ := p.q1
    have p1 := p.d
    have p2 := p.k
    have p3 := p.len
    rw [e] at p1 p2 p3 ⊢
    rw [txtS, g1, g2, g3, p1, p2, dec_f (show ¬ 200 < (c :: t).length by omega)]
    rfl
theorem wq17u (no ind : Int) : ∀ (f f' n : Nat) (s : List UInt8) (out : List Pc), s.length < f → s.length < f' → rowS no ind f n s out = rowS no ind f' n s out
  | 0, _, n, s, out, h, _ => by omega
  | f + 1, 0, n, s, out, _, h => by omega
  | f + 1, f' + 1, n, s, out, h, h' => by
    rw [rowS, rowS]
    cases hd : dsh s with
    | false => rfl
    | true =>
      rw [cond_true, cond_true]
      cases s with
      | nil => cases hd
      | cons c r =>
        have hl : (((c :: r).drop 1).drop (nb ((c :: r).drop 1))).length ≤ r.length := by simp
        simp only [List.length_cons] at h h'
        exact wq17u no ind f f' _ _ _ (by omega) (by omega)
theorem wq17v (no col : Int) (o out : List Pc) (x : Option (List UInt8 × List UInt8)) (h : (finQ no col out x).2.1 = 0) : (finQ no col (o ++ out) x).1 = o ++ (finQ no col out x).1 ∧ (finQ no col (o ++ out) x).2.1 = 0 := by
  unfold finQ at h ⊢
  cases x with
  | none => exact absurd h (by simp)
  | some p =>
    obtain ⟨a, r⟩ := p
    dsimp only at h ⊢
    cases h1 : !(r == []) with
    | true => rw [h1, cond_true] at h; cases h
    | false =>
      cases h2 : decide (200 < a.length) with
      | true => rw [h1, h2, cond_false, cond_true] at h; cases h
      | false => simp only [cond_false]; exact ⟨by rw [List.append_assoc], trivial⟩
theorem wq17w (no ind : Int) (n m : Nat) (s : List UInt8) (o out : List Pc) (h : (txtS no (ind + (m : Int)) n s out).2.1 = 0) : (txtS no ind (n + m) s (o ++ out)).1 = o ++ (txtS no (ind + (m : Int)) n s out).1 ∧ (txtS no ind (n + m) s (o ++ out)).2.1 = 0 := by
  have e : ind + ((n + m : Nat) : Int) = ind + (m : Int) + (n : Int) := by omega
  cases s with
  | nil => exact ⟨rfl, rfl⟩
  | cons c t =>
    unfold txtS at h ⊢
    dsimp only at h ⊢
    rw [e]
    cases h1 : c == 39 with
    | true => rw [h1, cond_true] at h; simp only [cond_true]; exact wq17v _ _ _ _ _ h
    | false =>
      cases h2 : c == 34 with
      | true => rw [h1, h2, cond_false, cond_true] at h; simp only [cond_true, cond_false]; exact wq17v _ _ _ _ _ h
      | false =>
        rw [h1, h2, cond_false, cond_false] at h
        cases h3 : (oddB c || (dsh (c :: t) || decide (0 < kS (c :: t)))) with
        | true => rw [h3, cond_true] at h; cases h
        | false =>
          rw [h3, cond_false] at h
          cases h4 : decide (200 < (c :: t).length) with
          | true => rw [h4, cond_true] at h; cases h
          | false => simp only [cond_false]; exact ⟨by rw [List.append_assoc], trivial⟩
theorem wq1cw (no ind : Int) (n m : Nat) (s : List UInt8) (o out : List Pc) (h : (endS no (ind + (m : Int)) n s out).2.1 = 0) : (endS no ind (n + m) s (o ++ out)).1 = o ++ (endS no (ind + (m : Int)) n s out).1 ∧ (endS no ind (n + m) s (o ++ out)).2.1 = 0 := by
  have e : ind + ((n + m : Nat) : Int) = ind + (m : Int) + (n : Int) := by omega
  unfold endS at h ⊢
  cases h1 : decide (0 < kS s) with
  | false => rw [h1, cond_false] at h; simp only [cond_false]; exact wq17w no ind n m s o out h
  | true =>
    rw [h1, cond_true] at h
    cases h2 : decide (64 < kS s) with
    | true => rw [h2, cond_true] at h; cases h
    | false =>
      rw [h2, cond_false] at h
      simp only [cond_true, cond_false]
      rw [e, List.append_assoc, show n + m + (kS s + 1) + nb (s.drop (kS s + 1)) = n + (kS s + 1) + nb (s.drop (kS s + 1)) + m by omega]
      exact wq17w no ind _ m _ o _ h
theorem wq17x (no ind : Int) (m : Nat) : ∀ (f n : Nat) (s : List UInt8) (o out : List Pc), (rowS no (ind + (m : Int)) f n s out).2.1 = 0 → (rowS no ind f (n + m) s (o ++ out)).1 = o ++ (rowS no (ind + (m : Int)) f n s out).1 ∧ (rowS no ind f (n + m) s (o ++ out)).2.1 = 0
  | 0, n, s, o, out, h => by rw [rowS, rowS]; exact ⟨rfl, rfl⟩
  | f + 1, n, s, o, out, h => by
    have e : ind + ((n + m : Nat) : Int) = ind + (m : Int) + (n : Int) := by omega
    rw [rowS] at h
    rw [rowS, rowS]
    cases h1 : dsh s with
    | false => rw [h1, cond_false] at h; simp only [cond_false]; exact wq1cw no ind n m s o out h
    | true =>
      rw [h1, cond_true] at h
      simp only [cond_true]
      rw [e, List.append_assoc, show n + m + 1 + nb (s.drop 1) = n + 1 + nb (s.drop 1) + m by omega]
      exact wq17x no ind m f _ _ o _ h
theorem wq17y {ind : Int} (h0 : 0 ≤ ind) (h1 : ind ≤ 16384) (no : Int) (s : List UInt8) : rowR no ind s = rowS no ind (s.length + 1) (nb s) (s.drop (nb s)) [] := by
  unfold rowR
  rw [dec_f (by omega), dec_f (by omega)]; rfl
theorem wq1ff {c : List UInt8} (g : GL c) (col : Nat) (hc : col ≤ 1000) (h : (rowR 0 ((col + 2 : Nat) : Int) c).2.1 = 0) :
    (rowR 0 (col : Int) (45 :: 32 :: c)).1 = (1, 0, (col : Int), [], false) :: (rowR 0 ((col + 2 : Nat) : Int) c).1 ∧ (rowR 0 (col : Int) (45 :: 32 :: c)).2.1 = 0 := by
  have hn := lt_nb g.lt
  rw [wq17y (by omega) (by omega)] at h ⊢
  rw [wq17y (by omega) (by omega)]
  rw [hn, List.drop_zero] at h ⊢
  have e1 : nb (45 :: 32 :: c) = 0 := by rw [wqtw]; rfl
  have e2 : dsh (45 :: 32 :: c) = true := rfl
  have e3 : nb ((45 :: 32 :: c).drop 1) = 1 := by
    have : (45 :: 32 :: c).drop 1 = 32 :: c := rfl
    rw [this, wqtw, hn]; rfl
  have e4 : ((45 :: 32 :: c).drop 1).drop 1 = c := rfl
  rw [e1, List.drop_zero, rowS, e2, cond_true, e3, e4, wq17u 0 (col : Int) (45 :: 32 :: c).length (c.length + 1) _ _ _ (by simp only [List.length_cons]; omega) (by omega)]
  have e5 : ((col + 2 : Nat) : Int) = (col : Int) + ((2 : Nat) : Int) := by omega
  rw [e5] at h ⊢
  have := wq17x 0 (col : Int) 2 (c.length + 1) 0 c [(1, 0, (col : Int), [], false)] [] h
  rw [List.append_nil] at this
  have e6 : (col : Int) + ((0 : Nat) : Int) = (col : Int) := by omega
  rw [e6]
  exact this
theorem kS_key {t r : List UInt8} (h : keyB t = true) (hr : hd32 r = true) : kS (t ++ 58 :: r) = t.length := by
  obtain ⟨_, _, _, hs, _, _⟩ := wqmi h
  have e : ((t ++ 58 :: r).takeWhile sgn) = t := by
    rw [List.takeWhile_append_of_pos hs, List.takeWhile_cons, sgn58]; simp
  have e2 : (t ++ 58 :: r).drop ((t ++ 58 :: r).takeWhile sgn).length = 58 :: r := by rw [e]; simp
  rw [kS_at e2, e, hr]; rfl
theorem wq1gy {t r : List UInt8} (h : keyB t = true) : dsh (t ++ 58 :: r) = false := by
  obtain ⟨h1, _, _, _, hx, _⟩ := wqmi h
  match t, h1, hx with
  | [c], _, _ =>
    show (c == 45 && (58 : UInt8) == 32) = false
    rw [show ((58 : UInt8) == 32) = false from rfl, Bool.and_false]
  | c :: d :: t, _, hx =>
    show (c == 45 && d == 32) = false
    rw [hx d (by simp), Bool.and_false]
theorem nb_key {t r : List UInt8} (h : keyB t = true) : nb (t ++ 58 :: r) = 0 := by
  obtain ⟨h1, _, _, _, hx, _⟩ := wqmi h
  cases t with
  | nil => exact absurd rfl h1
  | cons c t => rw [List.cons_append, wqtw, hx c (by simp)]; rfl
theorem wq1dr {t r : List UInt8} (h : keyB t = true) (hr : hd32 r = true) (col : Nat) (hc : col ≤ 1000) :
    rowR 0 (col : Int) (t ++ 58 :: r) = txtS 0 (col : Int) (t.length + 1 + nb r) (r.drop (nb r)) [(2, 0, (col : Int), t, false)] := by
  obtain ⟨h1, _, _, _, _, h6⟩ := wqmi h
  have hpos : 0 < t.length := List.length_pos_iff.2 h1
  rw [wq17y (by omega) (by omega), nb_key h, List.drop_zero, rowS, wq1gy h, cond_false, endS, kS_key h hr, dec_t hpos, dec_f (by omega), cond_true, cond_false]
  have e1 : (t ++ 58 :: r).drop (t.length + 1) = r := by
    rw [List.drop_append, List.drop_eq_nil_of_le (by omega)]; simp
  have e2 : (t ++ 58 :: r).take t.length = t := by simp
  rw [e1, e2, Nat.zero_add]
  have e6 : (col : Int) + ((0 : Nat) : Int) = (col : Int) := by omega
  rw [e6]; rfl
def txA (nd : List Nd) (n : Nat) : List UInt8 :=
  match nd[n]? with
  | some x => txtN x
  | none => []
def tqA (nd : List Nd) (n : Nat) : List UInt8 × Bool :=
  match nd[n]? with
  | some x => (x.2.2.1, x.2.2.2.1)
  | none => ([], false)
def preL (col : Nat) : List Raw → List Raw
  | [] => []
  | r :: rs => (col, 45 :: 32 :: r.2) :: rs
def lnL (g : Nat → List Raw) (col : Nat) : List Int → List Raw
  | [] => []
  | k :: r => preL col (g k.toNat) ++ lnL g col r
def lnM (g : Nat → List Raw) (t : Nat → Bool) (tx : Nat → List UInt8) (col : Nat) : List (List UInt8) → List Int → List Raw
  | key :: ks, k :: r => (bif t k.toNat then [(col, key ++ 58 :: 32 :: tx k.toNat)] else (col, key ++ [58]) :: g k.toNat) ++ lnM g t tx col ks r
  | _, _ => []
def lnS : Nat → List Nd → Nat → Nat → List Raw
  | 0, _, _, _ => []
  | f + 1, nd, n, col => match nd[n]? with
    | none => []
    | some x => bif x.1 == 1 then [(col, txtN x)] else bif x.1 == 2 then lnL (fun k => lnS f nd k (col + 2)) col x.2.2.2.2.2
      else lnM (fun k => lnS f nd k (col + 2)) (isT nd) (txA nd) col x.2.2.2.2.1 x.2.2.2.2.2
def pcL (g : Nat → List Pc) (col : Nat) : List Int → List Pc
  | [] => []
  | k :: r => (1, 0, (col : Int), [], false) :: (g k.toNat ++ pcL g col r)
def pcM (g : Nat → List Pc) (t : Nat → Bool) (tq : Nat → List UInt8 × Bool) (col : Nat) : List (List UInt8) → List Int → List Pc
  | key :: ks, k :: r => (2, 0, (col : Int), key, false) :: ((bif t k.toNat then [(3, 0, ((col + (key.length + 2) : Nat) : Int), (tq k.toNat).1, (tq k.toNat).2)] else g k.toNat) ++ pcM g t tq col ks r)
  | _, _ => []
def pcS : Nat → List Nd → Nat → Nat → List Pc
  | 0, _, _, _ => []
  | f + 1, nd, n, col => match nd[n]? with
    | none => []
    | some x => bif x.1 == 1 then [(3, 0, (col : Int), x.2.2.1, x.2.2.2.1)] else bif x.1 == 2 then pcL (fun k => pcS f nd k (col + 2)) col x.2.2.2.2.2
      else pcM (fun k => pcS f nd k (col + 2)) (isT nd) (tqA nd) col x.2.2.2.2.1 x.2.2.2.2.2
theorem wq1bw : ∀ (a b : List Ln) (out : List Pc), (allS a out).2.1 = 0 → allS (a ++ b) out = allS b (allS a out).1
  | [], b, out, _ => rfl
  | l :: a, b, out, h => by
    rw [List.cons_append, allS]
    rw [allS] at h ⊢
    cases h1 : (rowR l.1 l.2.1 l.2.2).2.1 != 0 with
    | true =>
      rw [h1, cond_true] at h
      dsimp only at h
      rw [h] at h1; cases h1
    | false =>
      rw [h1, cond_false] at h
      simp only [cond_false]
      exact wq1bw a b _ h
def AP (ls : List Raw) (q : List Pc) : Prop := ∀ out, allS (ls.map rawE) out = (out ++ q, 0, 0)
theorem AP.app {a b : List Raw} {q q' : List Pc} (h : AP a q) (h' : AP b q') : AP (a ++ b) (q ++ q') := by
  intro out
  rw [List.map_append, wq1bw _ _ _ (by rw [h out]), h out, h' _, List.append_assoc]
theorem AP.nil : AP [] [] := fun out => by rw [List.map_nil, allS, List.append_nil]
theorem AP.one {i : Nat} {c : List UInt8} {q : List Pc} (h1 : (rowR 0 (i : Int) c).1 = q) (h2 : (rowR 0 (i : Int) c).2.1 = 0) : AP [(i, c)] q := by
  intro out
  have e : [((i, c) : Raw)].map rawE = [(0, ((i : Int), c))] := rfl
  rw [e, allS]
  dsimp only
  rw [h2, h1]; rfl
theorem AP.dash {col : Nat} {c : List UInt8} {rs : List Raw} {q : List Pc} (g : GL c) (hc : col ≤ 1000) (h : AP ((col + 2, c) :: rs) q) : AP ((col, 45 :: 32 :: c) :: rs) ((1, 0, (col : Int), [], false) :: q) := by
  have hk : (rowR 0 ((col + 2 : Nat) : Int) c).2.1 = 0 := by
    have := h []
    rw [List.map_cons, allS] at this
    cases h1 : (rowR (rawE (col + 2, c)).1 (rawE (col + 2, c)).2.1 (rawE (col + 2, c)).2.2).2.1 != 0 with
    | false => exact (show ∀ z : Int, (z != 0) = false → z = 0 from fun z hz => by simpa using hz) _ h1
    | true =>
      rw [h1, cond_true] at this
      have := congrArg (fun r : Res => r.2.1) this
      dsimp only at this
      rw [this] at h1; cases h1
  obtain ⟨r1, r2⟩ := wq1ff g col hc hk
  intro out
  have h3 := h (out ++ [(1, 0, (col : Int), [], false)])
  rw [List.map_cons, allS] at h3 ⊢
  have e1 : rowR (rawE (col + 2, c)).1 (rawE (col + 2, c)).2.1 (rawE (col + 2, c)).2.2 = rowR 0 ((col + 2 : Nat) : Int) c := rfl
  have e2 : rowR (rawE (col, 45 :: 32 :: c)).1 (rawE (col, 45 :: 32 :: c)).2.1 (rawE (col, 45 :: 32 :: c)).2.2 = rowR 0 (col : Int) (45 :: 32 :: c) := rfl
  rw [e1, hk] at h3
  rw [e2, r2, r1]
  have e3 : ((0 : Int) != 0) = false := rfl
  rw [e3, cond_false] at h3 ⊢
  rw [List.append_assoc] at h3
  rw [show out ++ (1, 0, (col : Int), [], false) :: (rowR 0 ((col + 2 : Nat) : Int) c).1 = out ++ ([(1, 0, (col : Int), [], false)] ++ (rowR 0 ((col + 2 : Nat) : Int) c).1) from rfl, h3, List.append_assoc]
  rfl
structure BP (col : Nat) (ls : List Raw) (tx : List UInt8) (ps : List Pc) : Prop where
  ex : ∃ c rs, ls = (col, c) :: rs
  cat : blS col ++ tx = catL (ls.map full)
  good : ∀ r ∈ ls, GL r.2
  ap : AP ls ps
theorem wq1ds {gl : Nat → List Raw} {gt : Nat → List UInt8} {gp : Nat → List Pc} {w : Nat → Option Nat} {col : Nat} (hc : col ≤ 1000) (hg : ∀ n m, w n = some m → BP (col + 2) (gl n) (gt n) (gp n)) :
    ∀ (l : List Int) (n m : Nat), kidsW w l n = some m → (l ≠ [] → ∃ c rs, lnL gl col l = (col, c) :: rs) ∧ lstS gt col false l = catL ((lnL gl col l).map full) ∧ (∀ r ∈ lnL gl col l, GL r.2) ∧ AP (lnL gl col l) (pcL gp col l)
  | [], n, m, h => by
    refine ⟨fun h => absurd rfl h, rfl, ?_, AP.nil⟩
    intro r hr
    cases hr
  | k :: r, n, m, h => by
    rw [kidsW] at h
    cases h1 : k == (n : Int) with
    | false => rw [h1] at h; cases h
    | true =>
      rw [h1, cond_true] at h
      cases h2 : w n with
      | none => rw [h2] at h; cases h
      | some j =>
        rw [h2] at h
        have e : k = (n : Int) := by simpa using h1
        subst e
        obtain ⟨⟨c, rs, e1⟩, b2, b3, b4⟩ := hg n j h2
        obtain ⟨_, i2, i3, i4⟩ := wq1ds hc hg r j m h
        have gc : GL c := b3 (col + 2, c) (by rw [e1]; simp)
        have e2 : lnL gl col ((n : Int) :: r) = ((col, 45 :: 32 :: c) :: rs) ++ lnL gl col r := by rw [lnL, Int.toNat_natCast, e1]; rfl
        refine ⟨fun _ => ⟨45 :: 32 :: c, rs ++ lnL gl col r, by rw [e2]; rfl⟩, ?_, ?_, ?_⟩
        · have hb : blS (col + 2) ++ gt n = blS (col + 2) ++ (c ++ 10 :: catL (rs.map full)) := by
            rw [b2, e1, List.map_cons, catL]
            unfold full
            rw [List.append_assoc]
          have hb := List.append_cancel_left hb
          rw [lstS, Int.toNat_natCast, cond_false, hb, i2, e2, List.map_append, wq11n, List.map_cons, catL]
          unfold full
          simp [List.append_assoc]
        · intro x hx
          rw [e2] at hx
          rcases List.mem_append.1 hx with hx | hx
          · rcases List.mem_cons.1 hx with rfl | hx
            · exact wq1gw gc
            · exact b3 x (by rw [e1]; simp [hx])
          · exact i3 x hx
        · rw [e2, pcL, Int.toNat_natCast]
          rw [e1] at b4
          exact (AP.dash gc hc b4).app i4
theorem map_bp {gl : Nat → List Raw} {gt : Nat → List UInt8} {gp : Nat → List Pc} {t : Nat → Bool} {tx : Nat → List UInt8} {tq : Nat → List UInt8 × Bool} {w : Nat → Option Nat} {col : Nat} (hc : col ≤ 900)
    (hg : ∀ n m, w n = some m → t n = false → BP (col + 2) (gl n) (gt n) (gp n))
    (ht : ∀ n m, w n = some m → t n = true → gt n = tx n ++ [10] ∧ GL (tx n) ∧ ∀ (no ind : Int) (j : Nat) (out : List Pc), txtS no ind j (tx n) out = (out ++ [(3, no, ind + (j : Int), (tq n).1, (tq n).2)], 0, 0)) :
    ∀ (keys : List (List UInt8)) (l : List Int) (n m : Nat), kidsW w l n = some m → keys.length = l.length → (∀ q ∈ keys, keyB q = true) →
      (l ≠ [] → ∃ c rs, lnM gl t tx col keys l = (col, c) :: rs) ∧ mapS gt t col false keys l = catL ((lnM gl t tx col keys l).map full) ∧ (∀ r ∈ lnM gl t tx col keys l, GL r.2) ∧ AP (lnM gl t tx col keys l) (pcM gp t tq col keys l)
  | [], [], n, m, h, _, _ => by
    refine ⟨fun h => absurd rfl h, rfl, ?_, AP.nil⟩
    intro r hr
    cases hr
  | key :: ks, [], n, m, h, hl, _ => by cases hl
  | [], k :: r, n, m, h, hl, _ => by cases hl
  | key :: ks, k :: r, n, m, h, hl, hk => by
    have hkey := hk key (by simp)
    rw [kidsW] at h
    cases h1 : k == (n : Int) with
    | false => rw [h1] at h; cases h
    | true =>
      rw [h1, cond_true] at h
      cases h2 : w n with
      | none => rw [h2] at h; cases h
      | some j =>
        rw [h2] at h
        have e : k = (n : Int) := by simpa using h1
        subst e
        obtain ⟨_, i2, i3, i4⟩ := map_bp hc hg ht ks r j m h (by simpa using hl) fun q hq => hk q (List.mem_cons_of_mem _ hq)
        have e0 : lnM gl t tx col (key :: ks) ((n : Int) :: r) = (bif t n then [(col, key ++ 58 :: 32 :: tx n)] else (col, key ++ [58]) :: gl n) ++ lnM gl t tx col ks r := by rw [lnM, Int.toNat_natCast]
        have e9 : pcM gp t tq col (key :: ks) ((n : Int) :: r) = (2, 0, (col : Int), key, false) :: ((bif t n then [(3, 0, ((col + (key.length + 2) : Nat) : Int), (tq n).1, (tq n).2)] else gp n) ++ pcM gp t tq col ks r) := by rw [pcM, Int.toNat_natCast]
        rw [e0, e9, mapS, Int.toNat_natCast, cond_false, i2]
        cases htn : t n with
        | true =>
          obtain ⟨t1, t2, t3⟩ := ht n j h2 htn
          simp only [cond_true]
          refine ⟨fun _ => ⟨_, _, rfl⟩, ?_, ?_, ?_⟩
          · rw [t1, List.map_append, wq11n]
            simp [catL, full, List.append_assoc]
          · intro x hx
            rcases List.mem_append.1 hx with hx | hx
            · rw [List.mem_singleton] at hx
              subst hx
              exact wq1fd hkey t2
            · exact i3 x hx
          · have hr := wq1dr (r := 32 :: tx n) hkey rfl col (by omega)
            have hn := lt_nb t2.lt
            have n1 : nb (32 :: tx n) = 1 := by rw [wqtw, hn]; rfl
            have n2 : (32 :: tx n).drop 1 = tx n := rfl
            rw [n1, n2, t3] at hr
            have e5 : (col : Int) + ((key.length + 1 + 1 : Nat) : Int) = ((col + (key.length + 2) : Nat) : Int) := by omega
            rw [e5] at hr
            exact (AP.one (q := [(2, 0, (col : Int), key, false), (3, 0, ((col + (key.length + 2) : Nat) : Int), (tq n).1, (tq n).2)]) (by rw [hr]; rfl) (by rw [hr])).app i4
        | false =>
          obtain ⟨⟨c, rs, e1⟩, b2, b3, b4⟩ := hg n j h2 htn
          simp only [cond_false]
          refine ⟨fun _ => ⟨_, _, rfl⟩, ?_, ?_, ?_⟩
          · rw [List.map_append, wq11n, List.map_cons, catL, ← b2]
            simp [full, List.append_assoc]
          · intro x hx
            rcases List.mem_append.1 hx with hx | hx
            · rcases List.mem_cons.1 hx with rfl | hx
              · exact GL_key hkey
              · exact b3 x hx
            · exact i3 x hx
          · have hr := wq1dr (r := []) hkey rfl col (by omega)
            have n2 : ([] : List UInt8).drop (nb []) = [] := rfl
            rw [n2] at hr
            have hr2 : rowR 0 (col : Int) (key ++ [58]) = ([(2, 0, (col : Int), key, false)], 0, 0) := hr
            have := (AP.one (i := col) (c := key ++ [58]) (q := [(2, 0, (col : Int), key, false)]) (by rw [hr2]) (by rw [hr2])).app (b4.app i4)
            exact this
theorem isT_at {nd : List Nd} {n : Nat} {x : Nd} (h : nd[n]? = some x) : isT nd n = (x.1 == 1) := by unfold isT; rw [h]
theorem wq1bx : ∀ (f : Nat) (nd : List Nd) (n m col : Nat), walkS f nd n = some m → col + 2 * f ≤ 58 → BP col (lnS f nd n col) (textS f nd n col) (pcS f nd n col)
  | 0, nd, n, m, col, h, hc => by rw [walkS] at h; cases h
  | f + 1, nd, n, m, col, h, hc => by
    obtain ⟨x, hx, hf, h⟩ := wqk2 h
    rw [lnS, textS, pcS, hx]
    dsimp only
    cases h1 : x.1 == 1 with
    | true =>
      obtain ⟨t1, t2, t3, t4⟩ := wq17t hf h1
      simp only [cond_true]
      have hr : rowR 0 (col : Int) (txtN x) = ([(3, 0, (col : Int), x.2.2.1, x.2.2.2.1)], 0, 0) := by
        rw [wq17y (by omega) (by omega), lt_nb t1.lt, List.drop_zero, rowS, t2, cond_false, endS, t3, t4]
        have e6 : (col : Int) + ((0 : Nat) : Int) = (col : Int) := by omega
        rw [e6]; rfl
      refine ⟨⟨_, _, rfl⟩, ?_, ?_, AP.one (by rw [hr]) (by rw [hr])⟩
      · simp [catL, full]
      · intro r hr
        rw [List.mem_singleton] at hr
        subst hr
        exact t1
    | false =>
      simp only [cond_false]
      have ih : ∀ a b, walkS f nd a = some b → BP (col + 2) (lnS f nd a (col + 2)) (textS f nd a (col + 2)) (pcS f nd a (col + 2)) := fun a b hab => wq1bx f nd a b (col + 2) hab (by omega)
      cases h2 : x.1 == 2 with
      | true =>
        simp only [cond_true]
        obtain ⟨_, l2, _, _⟩ := wq11m hf h2
        obtain ⟨i1, i2, i3, i4⟩ := wq1ds (by omega) ih _ _ _ h
        refine ⟨i1 l2, ?_, i3, i4⟩
        rw [← i2]
        cases hk : x.2.2.2.2.2 with
        | nil => exact absurd hk l2
        | cons k r => simp [lstS, List.append_assoc]
      | false =>
        simp only [cond_false]
        obtain ⟨_, k2, k3, _, _, k6⟩ := wqxi hf h1 h2
        obtain ⟨i1, i2, i3, i4⟩ := map_bp (t := isT nd) (tx := txA nd) (tq := tqA nd) (by omega) (fun a b hab _ => ih a b hab) (fun a b hab hta => by
          cases f with
          | zero => rw [walkS] at hab; cases hab
          | succ f =>
            obtain ⟨y, hy, hfy, _⟩ := wqk2 hab
            rw [isT_at hy] at hta
            obtain ⟨t1, _, _, t4⟩ := wq17t hfy hta
            unfold txA tqA
            rw [textS, hy]
            dsimp only
            rw [hta, cond_true]
            exact ⟨rfl, t1, t4⟩) x.2.2.2.2.1 x.2.2.2.2.2 _ _ h k2 (wqrj _ _ k6)
        refine ⟨i1 k3, ?_, i3, i4⟩
        rw [← i2]
        cases hk : x.2.2.2.2.2 with
        | nil => exact absurd hk k3
        | cons k r =>
          rw [hk] at k2
          cases hq : x.2.2.2.2.1 with
          | nil => rw [hq] at k2; cases k2
          | cons key ks => simp [mapS, List.append_assoc]
def slN (nd : List Nd) (a b : Nat) : List Nd := ((nd.drop a).take (b - a)).map erN
theorem wq1dt {nd : List Nd} {a b : Nat} (h : b ≤ nd.length) : (slN nd a b).length = b - a := by
  unfold slN
  rw [List.length_map, List.length_take, List.length_drop]; omega
theorem wq1by {nd : List Nd} {a b c : Nat} (h1 : a ≤ b) (h2 : b ≤ c) : slN nd a b ++ slN nd b c = slN nd a c := by
  unfold slN
  rw [← List.map_append]
  congr 1
  have e1 : nd.drop b = (nd.drop a).drop (b - a) := by rw [List.drop_drop]; congr 1; omega
  have e2 : c - a = (b - a) + (c - b) := by omega
  rw [e1, e2, List.take_add]
theorem wq1bz (nd : List Nd) (a : Nat) : slN nd a a = [] := by unfold slN; simp
theorem wq1du {nd : List Nd} {n : Nat} {x : Nd} (h : nd[n]? = some x) : slN nd n (n + 1) = [erN x] := by
  unfold slN
  have hl := (List.getElem?_eq_some_iff.1 h).1
  have e : nd.drop n = x :: nd.drop (n + 1) := by
    rw [List.drop_eq_getElem_cons hl]
    congr 1
    exact (List.getElem?_eq_some_iff.1 h).2
  rw [e, show n + 1 - n = 1 by omega]; rfl
def OutC (col : Nat) (rest : List Pc) : Prop := ∀ y r, rest = y :: r → y.2.2.1 < (col : Int)
theorem wq1c0 {col : Nat} {rest : List Pc} (h : OutC col rest) (kd : Int) : nextS rest kd (col : Int) = false := by
  cases rest with
  | nil => rfl
  | cons y r =>
    have := h y r rfl
    show ((y.1 == kd) && (y.2.2.1 == (col : Int))) = false
    have e : (y.2.2.1 == (col : Int)) = false := ieq_f (by omega)
    rw [e, Bool.and_false]
theorem wq16h {nd : List Nd} {w : Nat → Option Nat} (hw : ∀ n m, w n = some m → n ≤ m ∧ m ≤ nd.length) : ∀ (l : List Int) (n m : Nat), kidsW w l n = some m → n ≤ m
  | [], n, m, h => by rw [kidsW] at h; cases h; exact Nat.le_refl _
  | k :: r, n, m, h => by
    rw [kidsW] at h
    cases h1 : k == (n : Int) with
    | false => rw [h1] at h; cases h
    | true =>
      rw [h1, cond_true] at h
      cases h2 : w n with
      | none => rw [h2] at h; cases h
      | some j =>
        rw [h2] at h
        have := (hw n j h2).1
        have := wq16h hw r j m h
        omega
theorem wq1dv {nd : List Nd} {gp : Nat → List Pc} {w : Nat → Option Nat} {col d : Nat} (hw : ∀ n m, w n = some m → n ≤ m ∧ m ≤ nd.length) (hh : ∀ n m, w n = some m → ∃ p r, gp n = p :: r ∧ p.2.2.1 = ((col + 2 : Nat) : Int))
    (hk : ∀ (n m F : Nat) (rest : List Pc) (acc : List Nd), w n = some m → acc.length = n → 2 * (gp n).length + 2 ≤ F → OutC (col + 2) rest → blkS F (gp n ++ rest) acc (d + 1) = .inr (rest, acc ++ slN nd n m)) :
    ∀ (l : List Int) (n m F n0 : Nat) (rest : List Pc) (acc : List Nd) (kids0 : List Int), kidsW w l n = some m → acc.length = n → n0 < n → 2 * (pcL gp col l).length + 1 ≤ F → OutC col rest →
      kidsS F 1 0 (col : Int) n0 d (pcL gp col l ++ rest) acc [] kids0 = .inr (rest, (acc ++ slN nd n m).set n0 (2, 0, [], false, [], kids0 ++ l))
  | [], n, m, 0, n0, rest, acc, kids0, h, ha, h0, hF, ho => by omega
  | k :: r, n, m, 0, n0, rest, acc, kids0, h, ha, h0, hF, ho => by omega
  | [], n, m, F + 1, n0, rest, acc, kids0, h, ha, h0, hF, ho => by
    rw [kidsW] at h; cases h
    rw [pcL, List.nil_append, wqbl, wq1c0 ho, cond_false, wq1bz, List.append_nil, List.append_nil]
    rfl
  | k :: r, n, m, F + 1, n0, rest, acc, kids0, h, ha, h0, hF, ho => by
    rw [kidsW] at h
    cases h1 : k == (n : Int) with
    | false => rw [h1] at h; cases h
    | true =>
      rw [h1, cond_true] at h
      cases h2 : w n with
      | none => rw [h2] at h; cases h
      | some j =>
        rw [h2] at h
        have e : k = (n : Int) := by simpa using h1
        subst e
        obtain ⟨w1, w2⟩ := hw n j h2
        obtain ⟨p, q, hp, hpc⟩ := hh n j h2
        rw [pcL, Int.toNat_natCast] at hF ⊢
        simp only [List.length_cons, List.length_append] at hF
        have hnx : nextS ((1, 0, (col : Int), [], false) :: (gp n ++ pcL gp col r) ++ rest) 1 (col : Int) = true := by
          show ((1 : Int) == 1 && (col : Int) == (col : Int)) = true
          simp
        have hdp : deepS (gp n ++ pcL gp col r ++ rest) (col : Int) = true := by
          rw [hp]
          show decide ((col : Int) < p.2.2.1) = true
          rw [hpc]; exact dec_t (by omega)
        have ho' : OutC (col + 2) (pcL gp col r ++ rest) := by
          intro y z hyz
          cases r with
          | nil => have := ho y z hyz; omega
          | cons k' r' =>
            rw [pcL, List.cons_append] at hyz
            injection hyz with hy hz
            subst hy
            show (col : Int) < _
            omega
        have hb := hk n j F (pcL gp col r ++ rest) acc h2 ha (by omega) ho'
        rw [wqbl, hnx, cond_true]
        dsimp only [List.cons_append]
        have e1 : ((1 : Int) == 2) = false := rfl
        rw [e1, Bool.false_and, cond_false, hdp, cond_true, List.append_assoc, hb]
        dsimp only
        rw [cond_false, ha, wq1dv hw hh hk r j m F n0 rest _ _ h (by rw [List.length_append, wq1dt w2, ha]; omega) (by omega) (by omega) ho, List.append_assoc, List.append_assoc]
        have hjm := wq16h hw r j m h
        rw [wq1by w1 hjm]
        rfl
theorem map_pc {nd : List Nd} (hnd : nd.length ≤ 2000) {gp : Nat → List Pc} {w : Nat → Option Nat} {col d : Nat} (hd : d + 1 ≤ 24) (hw : ∀ n m, w n = some m → n < m ∧ m ≤ nd.length) (hh : ∀ n m, w n = some m → ∃ p r, gp n = p :: r ∧ p.2.2.1 = ((col + 2 : Nat) : Int))
    (ht : ∀ n m, w n = some m → isT nd n = true → ∃ y, nd[n]? = some y ∧ y.1 = 1 ∧ fitN y = true ∧ m = n + 1)
    (hk : ∀ (n m F : Nat) (rest : List Pc) (acc : List Nd), w n = some m → acc.length = n → 2 * (gp n).length + 2 ≤ F → OutC (col + 2) rest → blkS F (gp n ++ rest) acc (d + 1) = .inr (rest, acc ++ slN nd n m)) :
    ∀ (ks : List (List UInt8)) (l : List Int) (n m F n0 : Nat) (rest : List Pc) (acc : List Nd) (keys0 : List (List UInt8)) (kids0 : List Int), kidsW w l n = some m → ks.length = l.length → keysB keys0 ks = true → acc.length = n → n0 < n → 2 * (pcM gp (isT nd) (tqA nd) col ks l).length + 1 ≤ F → OutC col rest →
      kidsS F 2 0 (col : Int) n0 d (pcM gp (isT nd) (tqA nd) col ks l ++ rest) acc keys0 kids0 = .inr (rest, (acc ++ slN nd n m).set n0 (3, 0, [], false, keys0 ++ ks, kids0 ++ l))
  | ks, l, n, m, 0, n0, rest, acc, keys0, kids0, h, hl, hb, ha, h0, hF, ho => by omega
  | [], k :: r, n, m, F + 1, n0, rest, acc, keys0, kids0, h, hl, hb, ha, h0, hF, ho => by cases hl
  | key :: ks, [], n, m, F + 1, n0, rest, acc, keys0, kids0, h, hl, hb, ha, h0, hF, ho => by cases hl
  | [], [], n, m, F + 1, n0, rest, acc, keys0, kids0, h, hl, hb, ha, h0, hF, ho => by
    rw [kidsW] at h; cases h
    rw [pcM, List.nil_append, wqbl, wq1c0 ho, cond_false, wq1bz, List.append_nil, List.append_nil, List.append_nil]
    · rfl
    · intro _ _ _ _ h; cases h
  | key :: ks, k :: r, n, m, F + 1, n0, rest, acc, keys0, kids0, h, hl, hb, ha, h0, hF, ho => by
    rw [kidsW] at h
    cases h1 : k == (n : Int) with
    | false => rw [h1] at h; cases h
    | true =>
      rw [h1, cond_true] at h
      cases h2 : w n with
      | none => rw [h2] at h; cases h
      | some j =>
        rw [h2] at h
        have e : k = (n : Int) := by simpa using h1
        subst e
        obtain ⟨w1, w2⟩ := hw n j h2
        rw [keysB] at hb
        simp only [Bool.and_eq_true, Bool.not_eq_true'] at hb
        obtain ⟨_, hb2, hb3⟩ := hb
        have hjm := wq16h (nd := nd) (fun a b hab => ⟨Nat.le_of_lt (hw a b hab).1, (hw a b hab).2⟩) r j m h
        rw [pcM, Int.toNat_natCast] at hF ⊢
        have ho' : OutC (col + 2) (pcM gp (isT nd) (tqA nd) col ks r ++ rest) := by
          intro y z hyz
          cases ks with
          | nil =>
            cases r with
            | nil => have := ho y z hyz; omega
            | cons k' r' => cases hl
          | cons key' ks' =>
            cases r with
            | nil => cases hl
            | cons k' r' =>
              rw [pcM, List.cons_append] at hyz
              injection hyz with hy hz
              subst hy
              show (col : Int) < _
              omega
        have hnx : ∀ X, nextS (((2, 0, (col : Int), key, false) : Pc) :: X) 2 (col : Int) = true := fun X => by
          show ((2 : Int) == 2 && (col : Int) == (col : Int)) = true
          simp
        have e1 : ((2 : Int) == 2) = true := rfl
        have fin : ∀ (X : List Pc), deepS (X ++ (pcM gp (isT nd) (tqA nd) col ks r ++ rest)) (col : Int) = true → 2 * (pcM gp (isT nd) (tqA nd) col ks r).length + 1 ≤ F → blkS F (X ++ (pcM gp (isT nd) (tqA nd) col ks r ++ rest)) acc (d + 1) = .inr (pcM gp (isT nd) (tqA nd) col ks r ++ rest, acc ++ slN nd n j) →
            kidsS (F + 1) 2 0 (col : Int) n0 d (((2, 0, (col : Int), key, false) :: (X ++ pcM gp (isT nd) (tqA nd) col ks r)) ++ rest) acc keys0 kids0 = .inr (rest, (acc ++ slN nd n m).set n0 (3, 0, [], false, keys0 ++ key :: ks, kids0 ++ (n : Int) :: r)) := by
          intro X hX hF2 hB
          rw [List.cons_append, wqbl, hnx, cond_true]
          dsimp only
          rw [e1, Bool.true_and, hb2, cond_false, List.append_assoc, hX, cond_true, hB]
          dsimp only
          rw [cond_true, ha, map_pc hnd hd hw hh ht hk ks r j m F n0 rest _ _ _ h (by simpa using hl) hb3 (by rw [List.length_append, wq1dt w2, ha]; omega) (by omega) hF2 ho, List.append_assoc, List.append_assoc, List.append_assoc]
          rw [wq1by (Nat.le_of_lt w1) hjm]
          rfl
        cases htn : isT nd n with
        | true =>
          rw [htn, cond_true] at hF
          simp only [List.length_cons, List.length_append, List.length_nil] at hF
          rw [cond_true]
          obtain ⟨y, hy, hy1, hyf, rfl⟩ := ht n j h2 htn
          obtain ⟨y2, y3, _, _⟩ := wqmh hyf (by rw [hy1]; rfl)
          have hn := (List.getElem?_eq_some_iff.1 hy).1
          refine fin _ ?_ (by omega) ?_
          · show decide ((col : Int) < ((col + (key.length + 2) : Nat) : Int)) = true
            exact dec_t (by omega)
          · obtain ⟨G, rfl⟩ : ∃ G, F = G + 1 := ⟨F - 1, by omega⟩
            rw [List.singleton_append, blkS]
            have c1 : (decide ((3 : Int) < 1) || decide ((3 : Int) > 3)) = false := rfl
            have c2 : decide (24 < d + 1) = false := dec_f (by omega)
            have c3 : decide (2000 ≤ acc.length) = false := dec_f (by omega)
            have c4 : ((3 : Int) == 3) = true := rfl
            dsimp only
            rw [c1, c2, c3, c4, cond_false, cond_false, cond_false, cond_true, wq1du hy]
            have c5 : erN y = (1, 0, (tqA nd n).1, (tqA nd n).2, [], []) := by
              obtain ⟨a, b, c, e, f, g⟩ := y
              unfold tqA
              rw [hy]
              dsimp only at hy1 y2 y3
              subst hy1 y2 y3
              rfl
            rw [c5]
        | false =>
          rw [htn, cond_false] at hF
          simp only [List.length_cons, List.length_append] at hF
          rw [cond_false]
          obtain ⟨p, q, hp, hpc⟩ := hh n j h2
          refine fin _ ?_ (by omega) (hk n j F _ acc h2 ha (by omega) ho')
          rw [hp]
          show decide ((col : Int) < p.2.2.1) = true
          rw [hpc]; exact dec_t (by omega)
theorem wq1c1 : ∀ (f : Nat) (nd : List Nd) (n m col : Nat), walkS f nd n = some m → ∃ p r, pcS f nd n col = p :: r ∧ p.2.2.1 = (col : Int) ∧ 1 ≤ p.1 ∧ p.1 ≤ 3
  | 0, nd, n, m, col, h => by rw [walkS] at h; cases h
  | f + 1, nd, n, m, col, h => by
    obtain ⟨x, hx, hf, h⟩ := wqk2 h
    rw [pcS, hx]
    dsimp only
    cases h1 : x.1 == 1 with
    | true => exact ⟨_, _, rfl, rfl, (show (1 : Int) ≤ 3 from by decide), (show (3 : Int) ≤ 3 from by decide)⟩
    | false =>
      simp only [cond_false]
      cases h2 : x.1 == 2 with
      | true =>
        obtain ⟨_, l2, _, _⟩ := wq11m hf h2
        cases hk : x.2.2.2.2.2 with
        | nil => exact absurd hk l2
        | cons k r => simp only [cond_true, pcL]; exact ⟨_, _, rfl, rfl, (show (1 : Int) ≤ 1 from by decide), (show (1 : Int) ≤ 3 from by decide)⟩
      | false =>
        obtain ⟨_, k2, k3, _, _, k6⟩ := wqxi hf h1 h2
        cases hk : x.2.2.2.2.2 with
        | nil => exact absurd hk k3
        | cons k r =>
          rw [hk] at k2
          cases hq : x.2.2.2.2.1 with
          | nil => rw [hq] at k2; cases k2
          | cons key ks => simp only [cond_false, pcM]; exact ⟨_, _, rfl, rfl, (show (1 : Int) ≤ 2 from by decide), (show (2 : Int) ≤ 3 from by decide)⟩
theorem set_at {acc X : List Nd} {ph z : Nd} {n : Nat} (h : acc.length = n) : ((acc ++ [ph]) ++ X).set n z = acc ++ z :: X := by
  subst h
  rw [List.append_assoc, List.set_append_right _ _ (Nat.le_refl _), Nat.sub_self]
  rfl
theorem wq1c2 : ∀ (f : Nat) (nd : List Nd) (hnd : nd.length ≤ 2000) (n m col d F : Nat) (rest : List Pc) (acc : List Nd), walkS f nd n = some m → acc.length = n → d + f = 25 → 2 * (pcS f nd n col).length + 2 ≤ F → OutC col rest →
    blkS F (pcS f nd n col ++ rest) acc d = .inr (rest, acc ++ slN nd n m)
  | 0, nd, hnd, n, m, col, d, F, rest, acc, h, ha, hd, hF, ho => by rw [walkS] at h; cases h
  | f + 1, nd, hnd, n, m, col, d, 0, rest, acc, h, ha, hd, hF, ho => by omega
  | f + 1, nd, hnd, n, m, col, d, F + 1, rest, acc, h, ha, hd, hF, ho => by
    have hle := wqpn _ _ _ _ h
    obtain ⟨p, q, hp, hpc, hp1, hp3⟩ := wq1c1 (f + 1) nd n m col h
    obtain ⟨x, hx, hf, h⟩ := wqk2 h
    have hn := (List.getElem?_eq_some_iff.1 hx).1
    have c1 : (decide (p.1 < 1) || decide (p.1 > 3)) = false := by rw [dec_f (by omega), dec_f (by omega)]; rfl
    have c2 : decide (24 < d) = false := dec_f (by omega)
    have c3 : decide (2000 ≤ acc.length) = false := dec_f (by omega)
    have hnm := wqxh (fun a b => wqt2 f nd a b) _ _ _ h
    have hcut : slN nd n m = erN x :: slN nd (n + 1) m := by rw [← wq1by (b := n + 1) (by omega) (by omega), wq1du hx]; rfl
    have hw : ∀ a b, walkS f nd a = some b → a < b ∧ b ≤ nd.length := fun a b hab => ⟨wqt2 f nd a b hab, wqpn f nd a b hab⟩
    have hh : ∀ a b, walkS f nd a = some b → ∃ p r, pcS f nd a (col + 2) = p :: r ∧ p.2.2.1 = ((col + 2 : Nat) : Int) := fun a b hab => by
      obtain ⟨p, r, e1, e2, _⟩ := wq1c1 f nd a b (col + 2) hab
      exact ⟨p, r, e1, e2⟩
    have hk : ∀ (a b F : Nat) (rest : List Pc) (acc : List Nd), walkS f nd a = some b → acc.length = a → 2 * (pcS f nd a (col + 2)).length + 2 ≤ F → OutC (col + 2) rest → blkS F (pcS f nd a (col + 2) ++ rest) acc (d + 1) = .inr (rest, acc ++ slN nd a b) :=
      fun a b F rest acc h1 h2 h3 h4 => wq1c2 f nd hnd a b (col + 2) (d + 1) F rest acc h1 h2 (by omega) h3 h4
    have hpc0 : pcS (f + 1) nd n col = bif x.1 == 1 then [(3, 0, (col : Int), x.2.2.1, x.2.2.2.1)] else bif x.1 == 2 then pcL (fun k => pcS f nd k (col + 2)) col x.2.2.2.2.2
      else pcM (fun k => pcS f nd k (col + 2)) (isT nd) (tqA nd) col x.2.2.2.2.1 x.2.2.2.2.2 := by rw [pcS, hx]
    rw [hp, List.cons_append, blkS, c1, c2, c3, cond_false, cond_false, cond_false, hcut]
    cases h1 : x.1 == 1 with
    | true =>
      obtain ⟨y2, y3, _, _⟩ := wqmh hf h1
      rw [hp, h1, cond_true] at hpc0
      injection hpc0 with e1 e2
      subst e1 e2
      have c4 : ((3 : Int) == 3) = true := rfl
      dsimp only
      rw [c4, cond_true]
      have hm : m = n + 1 := by rw [y3, kidsW] at h; cases h; rfl
      have c5 : erN x = (1, 0, x.2.2.1, x.2.2.2.1, [], []) := by
        obtain ⟨a, b, c, e, f, g⟩ := x
        have : a = 1 := by simpa using h1
        dsimp only at y2 y3
        subst this y2 y3
        rfl
      rw [c5, hm, wq1bz]
      rfl
    | false =>
      cases h2 : x.1 == 2 with
      | true =>
        obtain ⟨l1, l2, l3, l4⟩ := wq11m hf h2
        rw [h1, h2, cond_false, cond_true] at hpc0
        have hF' : 2 * (pcL (fun k => pcS f nd k (col + 2)) col x.2.2.2.2.2).length + 1 ≤ F := by rw [← hpc0]; omega
        have := wq1dv (nd := nd) (gp := fun k => pcS f nd k (col + 2)) (w := walkS f nd) (col := col) (d := d) (fun a b hab => ⟨Nat.le_of_lt (hw a b hab).1, (hw a b hab).2⟩) hh hk x.2.2.2.2.2 (n + 1) m F n rest (acc ++ [(0, 0, [], false, [], [])]) [] h (by simp [ha]) (by omega) hF' ho
        rw [← hpc0, hp] at this
        have e3 : p = (1, 0, (col : Int), [], false) := by
          rw [hp] at hpc0
          cases hkk : x.2.2.2.2.2 with
          | nil => exact absurd hkk l2
          | cons k r => rw [hkk, pcL] at hpc0; injection hpc0
        subst e3
        have c4 : ((1 : Int) == 3) = false := rfl
        dsimp only
        rw [c4, cond_false, ha]
        refine Eq.trans this ?_
        rw [set_at ha]
        have c5 : erN x = (2, 0, [], false, [], x.2.2.2.2.2) := by
          obtain ⟨a, b, c, e, f, g⟩ := x
          have : a = 2 := by simpa using h2
          dsimp only at l1 l3 l4
          subst this l1 l3 l4
          rfl
        rw [c5]; rfl
      | false =>
        obtain ⟨k1, k2, k3, k4, k5, k6⟩ := wqxi hf h1 h2
        rw [h1, h2, cond_false, cond_false] at hpc0
        have hF' : 2 * (pcM (fun k => pcS f nd k (col + 2)) (isT nd) (tqA nd) col x.2.2.2.2.1 x.2.2.2.2.2).length + 1 ≤ F := by rw [← hpc0]; omega
        have ht : ∀ a b, walkS f nd a = some b → isT nd a = true → ∃ y, nd[a]? = some y ∧ y.1 = 1 ∧ fitN y = true ∧ b = a + 1 := by
          intro a b hab hta
          cases f with
          | zero => rw [walkS] at hab; cases hab
          | succ f =>
            obtain ⟨y, hy, hfy, hb⟩ := wqk2 hab
            rw [isT_at hy] at hta
            obtain ⟨_, y3, _, _⟩ := wqmh hfy hta
            rw [y3, kidsW] at hb
            cases hb
            exact ⟨y, hy, by simpa using hta, hfy, rfl⟩
        cases f with
        | zero =>
          exfalso
          cases hkk : x.2.2.2.2.2 with
          | nil => exact absurd hkk k3
          | cons k r =>
            rw [hkk, kidsW] at h
            cases h5 : k == ((n + 1 : Nat) : Int) with
            | false => rw [h5] at h; cases h
            | true => rw [h5, cond_true, walkS] at h; cases h
        | succ f =>
        have := map_pc hnd (gp := fun k => pcS (f + 1) nd k (col + 2)) (w := walkS (f + 1) nd) (col := col) (d := d) (by omega) hw hh ht hk x.2.2.2.2.1 x.2.2.2.2.2 (n + 1) m F n rest (acc ++ [(0, 0, [], false, [], [])]) [] [] h k2 k6 (by simp [ha]) (by omega) hF' ho
        rw [← hpc0, hp] at this
        have e3 : ∃ t, p = (2, 0, (col : Int), t, false) := by
          rw [hp] at hpc0
          cases hkk : x.2.2.2.2.2 with
          | nil => exact absurd hkk k3
          | cons k r =>
            cases hq : x.2.2.2.2.1 with
            | nil => rw [hq, hkk] at k2; cases k2
            | cons key ks => rw [hkk, hq, pcM] at hpc0; injection hpc0 with e _; exact ⟨_, e⟩
        obtain ⟨t, rfl⟩ := e3
        have c4 : ((2 : Int) == 3) = false := rfl
        dsimp only
        rw [c4, cond_false, ha]
        refine Eq.trans this ?_
        rw [set_at ha]
        have c5 : erN x = (3, 0, [], false, x.2.2.2.2.1, x.2.2.2.2.2) := by
          obtain ⟨a, b, c, e, f, g⟩ := x
          dsimp only at k1 k4 k5
          subst k1 k4 k5
          rfl
        rw [c5]; rfl
theorem wq1dw : ∀ {ls : List (List UInt8)} {l : List UInt8}, l ∈ ls → l.length ≤ (catL ls).length
  | a :: ls, l, h => by
    rw [catL, List.length_append, List.length_cons]
    rcases List.mem_cons.1 h with rfl | h
    · omega
    · have := wq1dw h; omega
theorem wq1cx (k : Nat) (nd : List Nd) (hc : checkS nd = true) (hl : (textS 24 nd 0 0).length < k) : ∃ x, docS (linesS k (spl (textS 24 nd 0 0)) 1 []) = .inr x ∧ x.map erN = nd.map erN := by
  have hc1 := hc
  unfold checkS at hc1
  simp only [Bool.and_eq_true, decide_eq_true_eq, beq_iff_eq] at hc1
  obtain ⟨_, hnd, hw⟩ := hc1
  obtain ⟨_, b2, b3, b4⟩ := wq1bx 24 nd 0 nd.length 0 hw (by omega)
  have e0 : blS 0 = [] := rfl
  rw [e0, List.nil_append] at b2
  have hgood : ∀ r ∈ lnS 24 nd 0 0, GL r.2 ∧ r.2.length < k := by
    intro r hr
    refine ⟨b3 r hr, ?_⟩
    have := wq1dw (List.mem_map_of_mem (f := full) hr)
    rw [← b2] at this
    have e : (full r).length = r.1 + r.2.length := by unfold full blS; simp
    omega
  rw [b2, wq1bm _ (by
    intro l hl
    obtain ⟨r, hr, rfl⟩ := List.mem_map.1 hl
    unfold full
    exact wq1f9 (by rw [wqhu, wq1bn, (b3 r hr).ctl]; rfl)), wq147 k (by omega) _ 1 [] hgood, List.nil_append]
  have ha := wq1dm (rawR 1 (lnS 24 nd 0 0)) []
  rw [wq1dn, List.map_nil] at ha
  have hb := b4 []
  rw [hb, List.nil_append] at ha
  have h1 : (allS (rawR 1 (lnS 24 nd 0 0)) []).2.1 = 0 := (congrArg (fun r : Res => r.2.1) ha).symm
  have h2 : (allS (rawR 1 (lnS 24 nd 0 0)) []).1.map er = pcS 24 nd 0 0 := (congrArg (fun r : Res => r.1) ha).symm
  unfold docS
  have e3 : ((0 : Int) != 0) = false := rfl
  dsimp only
  rw [h1, e3, cond_false]
  refine ofS_er ?_
  rw [h2]
  obtain ⟨p, q, hp, _⟩ := wq1c1 24 nd 0 nd.length 0 hw
  have hbl := wq1c2 24 nd hnd 0 nd.length 0 1 (2 * (q.length + 1) + 2) [] [] hw rfl (by omega) (by rw [hp, List.length_cons]; omega) (fun y r h => by cases h)
  rw [hp] at hbl ⊢
  rw [List.append_nil] at hbl
  rw [ofS, hbl]
  dsimp only
  have : slN nd 0 nd.length = nd.map erN := by unfold slN; simp
  rw [List.nil_append, this]
theorem wq1dx : ∀ {x y : List Nd}, x.map erN = y.map erN → sameS x y = true
  | [], [], _ => rfl
  | [], _ :: _, h => by cases h
  | _ :: _, [], h => by cases h
  | a :: x, b :: y, h => by
    rw [List.map_cons, List.map_cons] at h
    injection h with h1 h2
    obtain ⟨a1, a2, a3⟩ := a
    obtain ⟨b1, b2, b3⟩ := b
    simp only [erN, Prod.mk.injEq] at h1
    obtain ⟨rfl, _, rfl⟩ := h1
    rw [sameS, wq1dx h2]
    simp [sameN]
theorem ctl_at (c : UInt8) : (bif decide ((c.toNat : Int) < 32) then true else (c.toNat : Int) == 127) = ctl c := by
  have e5 : ((c.toNat : Int) == 127) = (c == 127) := u8_beq c 127 (by omega)
  have e6 : decide ((c.toNat : Int) < 32) = decide (c.toNat < 32) := by rw [Bool.eq_iff_iff]; simp; omega
  rw [e5, e6, Bool.cond_true_left]; rfl
theorem wq17z {R : Type} (k : Nat) (s : List UInt8) (hs : s.length ≤ 200) (hk : 300 < k) (K : List UInt8 → Bool → Option R) : stK s K (stS s k 0) = stK s K (stS s (s.length + 1) 0) := by
  rw [wq11l s k (s.length + 1) 0 (by omega) (by omega) (by omega)]
theorem wqni (k : Nat) {R : Type} (s : List UInt8) (hs : s.length ≤ 200) (hk : 300 < k) (K : Bool → Option R) : ∀ (t : List UInt8) (n m : Nat), s.drop n = t → t.length < m → n ≤ s.length →
    wq55 k m s (s.length : Int) (n : Int) K = K (noCtl t && (!(s == []) && (stripB s && rowB s)))
  | t, n, 0, _, hm, _ => by omega
  | [], n, m + 1, hd, hm, hn => by
    have := wq1a hd
    rw [wq55, wq9p, wqty k s (by omega) (by omega), wq17z k s hs hk]
    simp (disch := omega) only [dec_t, dec_f, ieq_t, ieq_f, ine_t, ine_f, inb_t, bnd_t, wqb, wq5, cond_true, cond_false, Bool.not_true, Bool.not_false, Bool.true_or, Bool.or_true, Bool.false_or, Bool.or_false, Bool.true_and, Bool.and_true, Bool.false_and, Bool.and_false, wq1, wq0, wq2]
    have e0 : noCtl [] = true := rfl
    rw [e0, Bool.true_and]
    unfold stripB
    cases hst : stS s (s.length + 1) 0 with
    | none => simp only [stK]; cases s == [] <;> rfl
    | some e =>
      simp only [stK]
      cases h1 : s == [] with
      | true => rfl
      | false =>
        cases h2 : rt (s.take e) == s with
        | false => rfl
        | true =>
          simp only [Bool.not_true, Bool.not_false, cond_true, cond_false, Bool.true_and]
          rw [wq140 k 0 0 s _ (by omega) (by omega)]
          unfold rowB
          obtain ⟨l, a, b⟩ := rowR 0 0 s
          dsimp only
          cases h3 : a == 0 with
          | false => rfl
          | true =>
            match l with
            | [] => rfl
            | [p] =>
              have e1 : ((([p] : List Pc).length : Int) == 1) = true := rfl
              have e2 : inb 0 (([p] : List Pc).length : Int) = true := rfl
              have e3 : ∀ z, ([p] : List Pc).getD (Int.toNat 0) z = p := fun _ => rfl
              simp only [e1, e2, e3, cond_true, Bool.or_true, oneP, Bool.true_and]
              cases p.1 == 3 <;> cases p.2.2.2.1 == s <;> rfl
            | p :: q :: r =>
              have e1 : (((p :: q :: r : List Pc).length : Int) == 1) = false := ieq_f (by simp; omega)
              simp only [e1, cond_true, cond_false]
              rfl
  | c :: r, n, m + 1, hd, hm, hn => by
    obtain ⟨hlt, hc, hr⟩ := wqg hd
    rw [wq55, wq9p]
    simp (disch := omega) only [dec_t, dec_f, ieq_t, ieq_f, ine_t, ine_f, inb_t, bnd_t, wqb, wq5, cond_true, cond_false, Bool.not_true, Bool.not_false, Bool.true_or, Bool.or_true, Bool.false_or, Bool.or_false, Bool.true_and, Bool.and_true, Bool.false_and, Bool.and_false, wq1, wq0, wq2, hc, ctl_at, wq16]
    have e0 : noCtl (c :: r) = (!ctl c && noCtl r) := rfl
    rw [e0]
    cases ctl c with
    | true => rfl
    | false =>
      simp only [cond_false, Bool.not_false, Bool.true_and]
      exact wqni k s hs hk K r (n + 1) m hr (by simp at hm; omega) (by omega)
theorem wq148 (k : Nat) {R : Type} (s : List UInt8) (hs : s.length ≤ 200) (hk : 300 < k) (K : Bool → Option R) : wqgt k s K = K (plainS s) := by
  unfold wqgt wqop
  exact wqni k s hs hk K s 0 k rfl (by omega) (by omega)
theorem wqm1 (k : Nat) {R : Type} (s : List UInt8) (hs : s.length ≤ 200) (hk : 300 < k) (K : Bool → Option R) : ∀ (t : List UInt8) (n m : Nat), s.drop n = t → t.length < m → n ≤ s.length →
    wq4j k m s (n : Int) K = K (noCtl t && (stripB s && rowB s))
  | t, n, 0, _, hm, _ => by omega
  | [], n, m + 1, hd, hm, hn => by
    have := wq1a hd
    rw [wq4j, wq8y, wq11k k s (by omega) (by omega), wq17z k s hs hk]
    simp (disch := omega) only [dec_t, dec_f, ieq_t, ieq_f, ine_t, ine_f, inb_t, bnd_t, wqb, wq5, cond_true, cond_false, Bool.not_true, Bool.not_false, Bool.true_or, Bool.or_true, Bool.false_or, Bool.or_false, Bool.true_and, Bool.and_true, Bool.false_and, Bool.and_false, wq1, wq0, wq2]
    have e0 : noCtl [] = true := rfl
    rw [e0, Bool.true_and]
    unfold stripB
    cases hst : stS s (s.length + 1) 0 with
    | none => simp only [stK]; rw [wqxc k 0 0 s _ (by omega) (by omega)]; rfl
    | some e =>
      simp only [stK]
      rw [wqxc k 0 0 s _ (by omega) (by omega)]
      cases h2 : rt (s.take e) == s with
      | false => rfl
      | true =>
        unfold rowB
        obtain ⟨l, a, b⟩ := rowR 0 0 s
        dsimp only
        cases h3 : a == 0 with
        | false => rfl
        | true =>
          match l with
          | [] => rfl
          | [p] =>
            have e1 : ((([p] : List Pc).length : Int) == 1) = true := rfl
            have e2 : inb 0 (([p] : List Pc).length : Int) = true := rfl
            have e3 : ∀ z, ([p] : List Pc).getD (Int.toNat 0) z = p := fun _ => rfl
            simp only [e1, e2, e3, cond_true, Bool.or_true, oneP, Bool.true_and]
            cases p.1 == 3 <;> cases p.2.2.2.1 == s <;> rfl
          | p :: q :: r =>
            have e1 : (((p :: q :: r : List Pc).length : Int) == 1) = false := ieq_f (by simp; omega)
            simp only [e1, cond_true, cond_false]
            rfl
  | c :: r, n, m + 1, hd, hm, hn => by
    obtain ⟨hlt, hc, hr⟩ := wqg hd
    rw [wq4j, wq8y]
    simp (disch := omega) only [dec_t, dec_f, ieq_t, ieq_f, ine_t, ine_f, inb_t, bnd_t, wqb, wq5, cond_true, cond_false, Bool.not_true, Bool.not_false, Bool.true_or, Bool.or_true, Bool.false_or, Bool.or_false, Bool.true_and, Bool.and_true, Bool.false_and, Bool.and_false, wq1, wq0, wq2, hc, ctl_at, wq16]
    have e0 : noCtl (c :: r) = (!ctl c && noCtl r) := rfl
    rw [e0]
    cases ctl c with
    | true => rfl
    | false =>
      simp only [cond_false, Bool.not_false, Bool.true_and]
      exact wqm1 k s hs hk K r (n + 1) m hr (by simp at hm; omega) (by omega)
theorem wq11o (k : Nat) {R : Type} (s : List UInt8) (hs : s.length ≤ 200) (hk : 300 < k) (K : Bool → Option R) : wqe3 k s K = K (plainS s) := by
  unfold wqe3 wqlv plainS
  have h0 : decide ((s.length : Int) > 200) = false := dec_f (by omega)
  rw [h0]
  cases h1 : s == [] with
  | true => simp only [cond_true, Bool.not_true, Bool.false_and, Bool.and_false]
  | false =>
    simp only [cond_false, Bool.not_false, Bool.true_and]
    exact wqm1 k s hs hk K s 0 k rfl (by omega) (by omega)
theorem wq180 (t q : List UInt8) : ∀ l : List (List UInt8), anyK t (l ++ [q]) = (anyK t l || (t == q))
  | [] => by simp [anyK]
  | x :: l => by rw [List.cons_append, anyK, anyK, wq180 t q l, Bool.or_assoc]
theorem wq181 (key t : List UInt8) : ∀ es : List (List UInt8 × Bool), mget .bool t (mset .bool key true es) = (mget .bool t es || (t == key))
  | [] => by
    rw [mset, mget, mget]
    cases t == key <;> rfl
  | (k, x) :: r => by
    rw [mset]
    cases h1 : key == k with
    | true =>
      have : key = k := by simpa using h1
      subst this
      rw [cond_true, mget, mget]
      cases t == key <;> simp
    | false =>
      rw [cond_false, mget, mget, wq181 key t r]
      cases h2 : t == k with
      | false => rfl
      | true =>
        have : t = k := by simpa using h2
        subst this
        have : (t == key) = false := by
          rw [beq_eq_false_iff_ne] at h1 ⊢
          exact fun e => h1 e.symm
        rw [this]; simp
theorem wqnj (k : Nat) {R : Type} (keys : List (List UInt8)) (hk : keys.length ≤ 4000) (hq : ∀ q ∈ keys, q.length ≤ 4000) (hk2 : 5000 < k) (K : Bool → Option R) : ∀ (t : List (List UInt8)) (n m : Nat) (es : List (List UInt8 × Bool)) (l : List (List UInt8)),
    keys.drop n = t → t.length < m → n ≤ keys.length → (∀ q, mget .bool q es = anyK q l) → wq54 k m es keys (keys.length : Int) (n : Int) K = K (keysB l t)
  | t, n, 0, es, l, _, hm, _, _ => by omega
  | [], n, m + 1, es, l, hd, hm, hn, he => by
    have := wq1a hd
    rw [wq54, wq9o]
    simp (disch := omega) only [dec_t, dec_f, ieq_t, ieq_f, ine_t, ine_f, inb_t, bnd_t, wqb, wq5, cond_true, cond_false, Bool.not_true, Bool.not_false, Bool.true_or, Bool.or_true, Bool.false_or, Bool.or_false, Bool.true_and, Bool.and_true, Bool.false_and, Bool.and_false, wq1, wq0, wq2]
    rfl
  | c :: r, n, m + 1, es, l, hd, hm, hn, he => by
    obtain ⟨hlt, hc, hr⟩ := wqg hd
    have hcl := hq c (List.mem_of_mem_drop (by rw [hd]; simp))
    rw [wq54, wq9o]
    simp (disch := omega) only [dec_t, dec_f, ieq_t, ieq_f, ine_t, ine_f, inb_t, bnd_t, wqb, wq5, cond_true, cond_false, Bool.not_true, Bool.not_false, Bool.true_or, Bool.or_true, Bool.false_or, Bool.or_false, Bool.true_and, Bool.and_true, Bool.false_and, Bool.and_false, wq1, wq0, wq2, hc, wq16]
    rw [wqpk k c _ (by omega) (by omega), keysB, keyB]
    cases h1 : (c.all sgn && !(c == [])) with
    | false => rfl
    | true =>
      by_cases h2 : (c.length : Int) > 64
      · have h3 : decide (c.length ≤ 64) = false := dec_f (by omega)
        rw [dec_t h2, h3]; rfl
      · have h3 : decide (c.length ≤ 64) = true := dec_t (by omega)
        rw [dec_f h2, h3]
        simp only [Bool.not_true, cond_false, wq0, Bool.not_false, cond_true, Bool.true_and, he]
        cases h4 : anyK c l with
        | true => rfl
        | false =>
          simp only [cond_false, Bool.not_false, Bool.true_and]
          exact wqnj k keys hk hq hk2 K r (n + 1) m _ (l ++ [c]) hr (by simp at hm; omega) (by omega) (fun q => by rw [wq181, he, wq180])
theorem wq149 (k : Nat) {R : Type} (keys : List (List UInt8)) (hk : keys.length ≤ 4000) (hq : ∀ q ∈ keys, q.length ≤ 4000) (hk2 : 5000 < k) (K : Bool → Option R) : wqgs k keys K = K (keysB [] keys) := by
  unfold wqgs wqom
  exact wqnj k keys hk hq hk2 K keys 0 k [] [] rfl (by omega) (by omega) (fun _ => rfl)
theorem wqrl (k : Nat) {R : Type} (s : List UInt8) (hs : s.length ≤ 200) (K : Bool → Option R) : ∀ (t : List UInt8) (n m : Nat), s.drop n = t → t.length < m → n ≤ s.length → wq6i k m s (n : Int) K = K (t.all sgn)
  | t, n, 0, _, hm, _ => by omega
  | [], n, m + 1, hd, hm, hn => by
    have := wq1a hd
    rw [wq6i, wqb6]
    simp (disch := omega) only [dec_t, dec_f, ieq_t, ieq_f, ine_t, ine_f, inb_t, bnd_t, wqb, wq5, cond_true, cond_false, Bool.not_true, Bool.not_false, Bool.true_or, Bool.or_true, Bool.false_or, Bool.or_false, Bool.true_and, Bool.and_true, Bool.false_and, Bool.and_false, wq1, wq0, wq2]
    rfl
  | c :: r, n, m + 1, hd, hm, hn => by
    obtain ⟨hlt, hc, hr⟩ := wqg hd
    rw [wq6i, wqb6]
    simp (disch := omega) only [dec_t, dec_f, ieq_t, ieq_f, ine_t, ine_f, inb_t, bnd_t, wqb, wq5, cond_true, cond_false, Bool.not_true, Bool.not_false, Bool.true_or, Bool.or_true, Bool.false_or, Bool.or_false, Bool.true_and, Bool.and_true, Bool.false_and, Bool.and_false, wq1, wq0, wq2, hc, wq16, wqtv]
    have e : sgnI (c.toNat : Int) = sgn c := rfl
    rw [e, List.all_cons]
    cases sgn c with
    | false => rfl
    | true =>
      simp only [Bool.not_true, cond_false, Bool.true_and]
      exact wqrl k s hs K r (n + 1) m hr (by simp at hm; omega) (by omega)
theorem wq16i (k : Nat) {R : Type} (s : List UInt8) (hk : 300 < k) (K : Bool → Option R) : wqiy k s K = K (keyB s) := by
  unfold wqiy wqsw keyB
  cases h1 : s == [] with
  | true => simp only [cond_true, Bool.not_true, Bool.and_false, Bool.false_and]
  | false =>
    by_cases h : s.length > 64
    · have h3 : decide (s.length ≤ 64) = false := dec_f (by omega)
      have h4 : decide ((s.length : Int) > 64) = true := dec_t (by omega)
      rw [h3, h4]
      simp only [cond_false, cond_true, Bool.and_false]
    · have h3 : decide (s.length ≤ 64) = true := dec_t (by omega)
      have h4 : decide ((s.length : Int) > 64) = false := dec_f (by omega)
      rw [h3, h4]
      simp only [cond_false, Bool.not_false, Bool.and_true]
      exact wqrl k s (by omega) K s 0 k rfl (by omega) (by omega)
theorem wqtz (k : Nat) {R : Type} (keys : List (List UInt8)) (hk : keys.length ≤ 4000) (J : List (List UInt8) → Int → Option R) (K : Bool → Option R) (i : Nat) (c : List UInt8) (hi : i < keys.length) (hc : ∀ d, keys.getD i d = c) : ∀ (t : List (List UInt8)) (n m : Nat),
    (keys.take i).drop n = t → t.length < m → n ≤ i → wq56 k J m keys (i : Int) (n : Int) K = bif anyK c t then K false else J keys (((i : Nat) + 1 : Nat) : Int)
  | t, n, 0, _, hm, _ => by omega
  | [], n, m + 1, hd, hm, hn => by
    have h0 := wq1a hd
    rw [List.length_take] at h0
    rw [wq56, wq9u]
    simp (disch := omega) only [dec_t, dec_f, ieq_t, ieq_f, ine_t, ine_f, inb_t, bnd_t, wqb, wq5, cond_true, cond_false, Bool.not_true, Bool.not_false, Bool.true_or, Bool.or_true, Bool.false_or, Bool.or_false, Bool.true_and, Bool.and_true, Bool.false_and, Bool.and_false, wq1, wq0, wq2, wq16]
    rfl
  | q :: r, n, m + 1, hd, hm, hn => by
    obtain ⟨hlt, hq, hr⟩ := wqg hd
    rw [List.length_take] at hlt
    have hq' : ∀ d, keys.getD n d = q := by
      intro d
      have := hq d
      rw [List.getD, List.getElem?_take, if_pos (by omega)] at this
      exact this
    rw [wq56, wq9u]
    simp (disch := omega) only [dec_t, dec_f, ieq_t, ieq_f, ine_t, ine_f, inb_t, bnd_t, wqb, wq5, cond_true, cond_false, Bool.not_true, Bool.not_false, Bool.true_or, Bool.or_true, Bool.false_or, Bool.or_false, Bool.true_and, Bool.and_true, Bool.false_and, Bool.and_false, wq1, wq0, wq2, wq16, hq', hc]
    rw [anyK]
    have e : (q == c) = (c == q) := by rw [Bool.eq_iff_iff]; simp; exact eq_comm
    rw [e]
    cases c == q with
    | true => rfl
    | false =>
      simp only [cond_false, Bool.false_or]
      exact wqtz k keys hk J K i c hi hc r (n + 1) m hr (by simp at hm; omega) (by omega)
theorem wqnk (k : Nat) {R : Type} (keys : List (List UInt8)) (hk : keys.length ≤ 4000) (hk2 : 5000 < k) (K : Bool → Option R) : ∀ (t : List (List UInt8)) (n m : Nat),
    keys.drop n = t → t.length < m → n ≤ keys.length → wq3y k m keys (n : Int) K = K (keysB (keys.take n) t)
  | t, n, 0, _, hm, _ => by omega
  | [], n, m + 1, hd, hm, hn => by
    have := wq1a hd
    rw [wq3y, wq9t]
    simp (disch := omega) only [dec_t, dec_f, ieq_t, ieq_f, ine_t, ine_f, inb_t, bnd_t, wqb, wq5, cond_true, cond_false, Bool.not_true, Bool.not_false, Bool.true_or, Bool.or_true, Bool.false_or, Bool.or_false, Bool.true_and, Bool.and_true, Bool.false_and, Bool.and_false, wq1, wq0, wq2]
    rfl
  | c :: r, n, m + 1, hd, hm, hn => by
    obtain ⟨hlt, hc, hr⟩ := wqg hd
    rw [wq3y, wq9t]
    simp (disch := omega) only [dec_t, dec_f, ieq_t, ieq_f, ine_t, ine_f, inb_t, bnd_t, wqb, wq5, cond_true, cond_false, Bool.not_true, Bool.not_false, Bool.true_or, Bool.or_true, Bool.false_or, Bool.or_false, Bool.true_and, Bool.and_true, Bool.false_and, Bool.and_false, wq1, wq0, wq2, hc, wq16]
    rw [wq16i k c (by omega), keysB]
    cases h1 : keyB c with
    | false => rfl
    | true =>
      simp only [Bool.not_true, cond_false, Bool.true_and]
      have := wqtz k keys hk (fun s0 s1 => wq3y k m s0 s1 K) K n c hlt hc (keys.take n) 0 k rfl (by simp; omega) (by omega)
      refine Eq.trans this ?_
      cases h4 : anyK c (keys.take n) with
      | true => rfl
      | false =>
        simp only [cond_false, Bool.not_false, Bool.true_and]
        have e : keys.take n ++ [c] = keys.take (n + 1) := by
          have hg : keys[n]? = some c := by
            have := hc []
            rw [List.getD, List.getElem?_eq_getElem hlt] at this
            rw [List.getElem?_eq_getElem hlt]
            exact congrArg some this
          rw [List.take_add_one, hg]; rfl
        rw [e]
        exact wqnk k keys hk hk2 K r (n + 1) m hr (by simp at hm; omega) (by omega)
theorem wq14a (k : Nat) {R : Type} (keys : List (List UInt8)) (hk : keys.length ≤ 4000) (hk2 : 5000 < k) (K : Bool → Option R) : wqgx k keys K = K (keysB [] keys) := by
  unfold wqgx wqp2
  exact wqnk k keys hk hk2 K keys 0 k rfl (by omega) (by omega)
def okD (x : Nd) : Prop := x.2.2.1.length ≤ 4000 ∧ x.2.2.2.2.1.length ≤ 4000 ∧ x.2.2.2.2.2.length ≤ 4000 ∧ ∀ q ∈ x.2.2.2.2.1, q.length ≤ 4000
theorem len0 {α : Type} (l : List α) [BEq α] : ((l.length : Int) == 0) = (l == []) := by
  cases l with
  | nil => rfl
  | cons x r => exact ieq_f (by simp <;> omega)
theorem lenP {α : Type} (l : List α) [BEq α] : decide ((l.length : Int) > 0) = !(l == []) := by
  cases l with
  | nil => rfl
  | cons x r => exact dec_t (by simp <;> omega)
theorem lenE {a b : Nat} : ((a : Int) == (b : Int)) = decide (a = b) := by
  rw [Bool.eq_iff_iff]; simp; omega
theorem wq19a (k : Nat) {R : Type} (x : Nd) (hx : okD x) (hk : 5000 < k) (K : Bool → Option R) : wqlf k x.1 x.2.1 x.2.2.1 x.2.2.2.1 x.2.2.2.2.1 x.2.2.2.2.2 K = K (fitN x) := by
  obtain ⟨a, ln, t, q, ks, kd⟩ := x
  obtain ⟨h1, h2, h3, h4⟩ := hx
  dsimp only at h1 h2 h3 h4
  unfold wqlf wq138 fitN
  dsimp only
  rw [len0, len0, lenP, lenE]
  cases a == 1 with
  | true =>
    simp only [cond_true]
    cases ks == [] with
    | false => rfl
    | true =>
      cases kd == [] with
      | false => rfl
      | true =>
        by_cases hl : t.length ≤ 200
        · rw [dec_t hl, dec_t (show ((t.length : Nat) : Int) ≤ 200 by omega)]
          cases q with
          | true => rfl
          | false =>
            simp only [cond_true, Bool.true_and, Bool.false_or, beq_self_eq_true]
            exact wq148 k t hl (by omega) K
        · rw [dec_f hl, dec_f (show ¬ ((t.length : Nat) : Int) ≤ 200 by omega)]
          rfl
  | false =>
    simp only [cond_false]
    cases a == 2 with
    | true => cases ks == [] <;> cases kd == [] <;> cases t == [] <;> cases q <;> rfl
    | false =>
      simp only [cond_false]
      cases a == 3 with
      | false => rfl
      | true =>
        rw [wq149 k ks h2 h4 hk]
        cases decide (ks.length = kd.length) <;> cases kd == [] <;> cases t == [] <;> cases q <;> rfl
theorem wq14b (k : Nat) {R : Type} (x : Nd) (hx : okD x) (hk : 5000 < k) (K : Bool → Option R) : wqh1 k x.1 x.2.1 x.2.2.1 x.2.2.2.1 x.2.2.2.2.1 x.2.2.2.2.2 K = K (fitN x) := by
  obtain ⟨a, ln, t, q, ks, kd⟩ := x
  obtain ⟨h1, h2, h3, h4⟩ := hx
  dsimp only at h1 h2 h3 h4
  unfold wqh1 wqx4 fitN
  dsimp only
  rw [len0, len0, lenP, lenE]
  cases a == 1 with
  | true =>
    simp only [cond_true]
    cases ks == [] with
    | false => rfl
    | true =>
      cases kd == [] with
      | false => rfl
      | true =>
        by_cases hl : t.length ≤ 200
        · rw [dec_t hl, dec_t (show ((t.length : Nat) : Int) ≤ 200 by omega)]
          cases q with
          | true => rfl
          | false =>
            simp only [cond_true, Bool.true_and, Bool.false_or, beq_self_eq_true]
            exact wq11o k t hl (by omega) K
        · rw [dec_f hl, dec_f (show ¬ ((t.length : Nat) : Int) ≤ 200 by omega)]
          rfl
  | false =>
    simp only [cond_false]
    cases a == 2 with
    | true => cases ks == [] <;> cases kd == [] <;> cases t == [] <;> cases q <;> rfl
    | false =>
      simp only [cond_false]
      cases a == 3 with
      | false => rfl
      | true =>
        rw [wq14a k ks h2 hk]
        cases decide (ks.length = kd.length) <;> cases kd == [] <;> cases t == [] <;> cases q <;> rfl
def numI : Option Nat → Int
  | none => -1
  | some m => (m : Int)
theorem nd_at {nd : List Nd} {n : Nat} (h : n < nd.length) : ∃ x, nd[n]? = some x ∧ (∀ z, nd.getD n z = x) ∧ x ∈ nd := ⟨nd[n], List.getElem?_eq_getElem h, fun z => by rw [List.getD, List.getElem?_eq_getElem h]; rfl, List.getElem_mem _⟩
theorem wqrm (k : Nat) {R : Type} (X) (nd : List Nd) (hn : nd.length ≤ 4000) (K : Int → Option R) (d : Nat) (hd : d ≤ 100) (w : Nat → Option Nat) (hw : ∀ (n : Nat) (K : Int → Option R), n ≤ 4001 → X R nd (n : Int) ((d + 1 : Nat) : Int) K = K (numI (w n))) (hm : ∀ n m, w n = some m → m ≤ nd.length) (kids : List Int) (hl : kids.length ≤ 4000) :
    ∀ (q : List Int) (i n m : Nat), kids.drop i = q → q.length < m → i ≤ kids.length → n ≤ 4001 → wq69 k X m (d : Int) nd (n : Int) kids (kids.length : Int) (i : Int) K = K (numI (kidsW w q n))
  | q, i, n, 0, _, h, _, _ => by omega
  | [], i, n, m + 1, hq, h, hi, hn' => by
    have := wq1a hq
    rw [wq69, wqax]
    simp (disch := omega) only [dec_t, dec_f, ieq_t, ieq_f, ine_t, ine_f, inb_t, bnd_t, wqb, wq5, cond_true, cond_false, Bool.not_true, Bool.not_false, Bool.true_or, Bool.or_true, Bool.false_or, Bool.or_false, Bool.true_and, Bool.and_true, Bool.false_and, Bool.and_false, wq1, wq0, wq2]
    rfl
  | c :: q, i, n, m + 1, hq, h, hi, hn' => by
    obtain ⟨hlt, hc, hr⟩ := wqg hq
    rw [wq69, wqax]
    simp (disch := omega) only [dec_t, dec_f, ieq_t, ieq_f, ine_t, ine_f, inb_t, bnd_t, wqb, wq5, cond_true, cond_false, Bool.not_true, Bool.not_false, Bool.true_or, Bool.or_true, Bool.false_or, Bool.or_false, Bool.true_and, Bool.and_true, Bool.false_and, Bool.and_false, wq1, wq0, wq2, hc, wq16]
    rw [kidsW]
    have e : (c != (n : Int)) = !(c == (n : Int)) := rfl
    rw [e]
    cases h1 : c == (n : Int) with
    | false => rfl
    | true =>
      have h1 : c = (n : Int) := by simpa using h1
      subst h1
      simp only [Bool.not_true, cond_false, cond_true]
      rw [hw n _ hn']
      cases h2 : w n with
      | none => rfl
      | some j =>
        have := hm n j h2
        have e2 : decide (numI (some j) < 0) = false := dec_f (by simp [numI])
        rw [e2, cond_false]
        exact wqrm k X nd hn K d hd w hw hm kids hl q (i + 1) j m hr (by simp at h; omega) (by omega) (by omega)
theorem wqxk {R : Type} (nd : List Nd) (hn : nd.length ≤ 4000) (ho : ∀ x ∈ nd, okD x) : ∀ (f k d n : Nat) (K : Int → Option R), 5000 + f < k → d + f = 25 → n ≤ 4001 → wq3v k R nd (n : Int) (d : Int) K = K (numI (walkS f nd n))
  | f, 0, d, n, K, hk, hd, hn' => by omega
  | 0, k + 1, d, n, K, hk, hd, hn' => by
    rw [wq3v]
    unfold wqmg
    have e : decide ((d : Int) > 24) = true := dec_t (by omega)
    have e2 : (bif decide ((n : Int) ≥ (nd.length : Int)) then true else true) = true := by cases decide ((n : Int) ≥ (nd.length : Int)) <;> rfl
    rw [e, e2]
    rfl
  | f + 1, k + 1, d, n, K, hk, hd, hn' => by
    rw [wq3v]
    unfold wqmg
    have e : decide ((d : Int) > 24) = false := dec_f (by omega)
    rw [e, walkS]
    by_cases h : n < nd.length
    · obtain ⟨x, hx, hg, hm⟩ := nd_at h
      have e3 : decide ((n : Int) ≥ (nd.length : Int)) = false := dec_f (by omega)
      have e4 : inb (n : Int) (nd.length : Int) = true := inb_t (by omega) (by omega)
      rw [e3, hx]
      simp (disch := omega) only [dec_t, dec_f, ieq_t, ieq_f, ine_t, ine_f, inb_t, bnd_t, wqb, wq5, cond_true, cond_false, Bool.not_true, Bool.not_false, Bool.true_or, Bool.or_true, Bool.false_or, Bool.or_false, Bool.true_and, Bool.and_true, Bool.false_and, Bool.and_false, wq1, wq0, wq2, e4, hg]
      rw [wq19a k x (ho x hm) (by omega)]
      cases fitN x with
      | false => rfl
      | true =>
        simp (disch := omega) only [dec_t, dec_f, ieq_t, ieq_f, ine_t, ine_f, inb_t, bnd_t, wqb, wq5, cond_true, cond_false, Bool.not_true, Bool.not_false, Bool.true_or, Bool.or_true, Bool.false_or, Bool.or_false, Bool.true_and, Bool.and_true, Bool.false_and, Bool.and_false, wq1, wq0, wq2, wq16]
        obtain ⟨_, _, h3, _⟩ := ho x hm
        exact wqrm k _ nd hn K d (by omega) (walkS f nd) (fun a K ha => wqxk nd hn ho f k (d + 1) a K (by omega) (by omega) ha) (fun a b hab => wqpn f nd a b hab) x.2.2.2.2.2 h3 x.2.2.2.2.2 0 (n + 1) k rfl (by omega) (by omega) (by omega)
    · have e3 : decide ((n : Int) ≥ (nd.length : Int)) = true := dec_t (by omega)
      rw [e3, List.getElem?_eq_none (by omega)]
      rfl
theorem wqnl (k : Nat) {R : Type} (X) (nd : List Nd) (hn : nd.length ≤ 4000) (K : Int → Option R) (d : Nat) (hd : d ≤ 100) (w : Nat → Option Nat) (hw : ∀ (n : Nat) (K : Int → Option R), n ≤ 4001 → X R nd (n : Int) ((d + 1 : Nat) : Int) K = K (numI (w n))) (hm : ∀ n m, w n = some m → m ≤ nd.length) (j0 : Nat) (hj : j0 < nd.length) (x : Nd) (hx : ∀ z, nd.getD j0 z = x) (hl : x.2.2.2.2.2.length ≤ 4000) :
    ∀ (q : List Int) (i n m : Nat), x.2.2.2.2.2.drop i = q → q.length < m → i ≤ x.2.2.2.2.2.length → n ≤ 4001 → wq57 k X m (j0 : Int) (d : Int) nd (n : Int) (i : Int) K = K (numI (kidsW w q n))
  | q, i, n, 0, _, h, _, _ => by omega
  | [], i, n, m + 1, hq, h, hi, hn' => by
    have := wq1a hq
    rw [wq57, wq9z]
    simp (disch := omega) only [dec_t, dec_f, ieq_t, ieq_f, ine_t, ine_f, inb_t, bnd_t, wqb, wq5, cond_true, cond_false, Bool.not_true, Bool.not_false, Bool.true_or, Bool.or_true, Bool.false_or, Bool.or_false, Bool.true_and, Bool.and_true, Bool.false_and, Bool.and_false, wq1, wq0, wq2, hx]
    rfl
  | c :: q, i, n, m + 1, hq, h, hi, hn' => by
    obtain ⟨hlt, hc, hr⟩ := wqg hq
    rw [wq57, wq9z]
    simp (disch := omega) only [dec_t, dec_f, ieq_t, ieq_f, ine_t, ine_f, inb_t, bnd_t, wqb, wq5, cond_true, cond_false, Bool.not_true, Bool.not_false, Bool.true_or, Bool.or_true, Bool.false_or, Bool.or_false, Bool.true_and, Bool.and_true, Bool.false_and, Bool.and_false, wq1, wq0, wq2, hx, hc, wq16]
    rw [kidsW]
    have e : (c != (n : Int)) = !(c == (n : Int)) := rfl
    rw [e]
    cases h1 : c == (n : Int) with
    | false => rfl
    | true =>
      simp only [Bool.not_true, cond_false, cond_true]
      rw [hw n _ hn']
      cases h2 : w n with
      | none => rfl
      | some j =>
        have := hm n j h2
        have e2 : decide (numI (some j) < 0) = false := dec_f (by simp [numI])
        rw [e2, cond_false]
        exact wqnl k X nd hn K d hd w hw hm j0 hj x hx hl q (i + 1) j m hr (by simp at h; omega) (by omega) (by omega)
theorem wqu0 {R : Type} (nd : List Nd) (hn : nd.length ≤ 4000) (ho : ∀ x ∈ nd, okD x) : ∀ (f k d n : Nat) (K : Int → Option R), 5000 + f < k → d + f = 25 → n ≤ 4001 → wq30 k R nd (n : Int) (d : Int) K = K (numI (walkS f nd n))
  | f, 0, d, n, K, hk, hd, hn' => by omega
  | 0, k + 1, d, n, K, hk, hd, hn' => by
    rw [wq30]
    unfold wqk1
    have e : decide ((d : Int) > 24) = true := dec_t (by omega)
    have e2 : (bif decide ((n : Int) ≥ (nd.length : Int)) then true else true) = true := by cases decide ((n : Int) ≥ (nd.length : Int)) <;> rfl
    rw [e, e2]
    rfl
  | f + 1, k + 1, d, n, K, hk, hd, hn' => by
    rw [wq30]
    unfold wqk1
    have e : decide ((d : Int) > 24) = false := dec_f (by omega)
    rw [e, walkS]
    by_cases h : n < nd.length
    · obtain ⟨x, hx, hg, hm⟩ := nd_at h
      have e3 : decide ((n : Int) ≥ (nd.length : Int)) = false := dec_f (by omega)
      have e4 : inb (n : Int) (nd.length : Int) = true := inb_t (by omega) (by omega)
      rw [e3, hx]
      simp (disch := omega) only [dec_t, dec_f, ieq_t, ieq_f, ine_t, ine_f, inb_t, bnd_t, wqb, wq5, cond_true, cond_false, Bool.not_true, Bool.not_false, Bool.true_or, Bool.or_true, Bool.false_or, Bool.or_false, Bool.true_and, Bool.and_true, Bool.false_and, Bool.and_false, wq1, wq0, wq2, e4, hg]
      rw [wq14b k x (ho x hm) (by omega)]
      cases fitN x with
      | false => rfl
      | true =>
        simp (disch := omega) only [dec_t, dec_f, ieq_t, ieq_f, ine_t, ine_f, inb_t, bnd_t, wqb, wq5, cond_true, cond_false, Bool.not_true, Bool.not_false, Bool.true_or, Bool.or_true, Bool.false_or, Bool.or_false, Bool.true_and, Bool.and_true, Bool.false_and, Bool.and_false, wq1, wq0, wq2, wq16]
        obtain ⟨_, _, h3, _⟩ := ho x hm
        exact wqnl k _ nd hn K d (by omega) (walkS f nd) (fun a K ha => wqu0 nd hn ho f k (d + 1) a K (by omega) (by omega) ha) (fun a b hab => wqpn f nd a b hab) n h x hg h3 x.2.2.2.2.2 0 (n + 1) k rfl (by omega) (by omega) (by omega)
    · have e3 : decide ((n : Int) ≥ (nd.length : Int)) = true := dec_t (by omega)
      rw [e3, List.getElem?_eq_none (by omega)]
      rfl
theorem wq1dy (o : Option Nat) (n : Nat) : (numI o == (n : Int)) = (o == some n) := by
  cases o with
  | none => exact ieq_f (by simp only [numI]; omega)
  | some m => rw [Bool.eq_iff_iff]; simp [numI]; omega
theorem wqu1 (k : Nat) {R : Type} (nd : List Nd) (hn : nd.length ≤ 4000) (ho : ∀ x ∈ nd, okD x) (hk : 5100 < k) (K : Int → Option R) : wqc6 k nd K = K (bif checkS nd then 0 else 1) := by
  unfold wqc6 wqwn wqit checkS
  by_cases h1 : nd.length < 1
  · rw [dec_t (show ((nd.length : Nat) : Int) < 1 by omega), dec_f (show ¬ 1 ≤ nd.length by omega)]; rfl
  · rw [dec_f (show ¬ ((nd.length : Nat) : Int) < 1 by omega), dec_t (show 1 ≤ nd.length by omega)]
    by_cases h2 : nd.length > 2000
    · rw [dec_t (show ((nd.length : Nat) : Int) > 2000 by omega), dec_f (show ¬ nd.length ≤ 2000 by omega)]; rfl
    · rw [dec_f (show ¬ ((nd.length : Nat) : Int) > 2000 by omega), dec_t (show nd.length ≤ 2000 by omega)]
      simp only [cond_false, wq0, Bool.not_false, cond_true, Bool.true_and]
      refine Eq.trans (wqxk nd hn ho 24 k 1 0 _ (by omega) (by omega) (by omega)) ?_
      have e : (numI (walkS 24 nd 0) != (nd.length : Int)) = !(numI (walkS 24 nd 0) == (nd.length : Int)) := rfl
      rw [e, wq1dy]
      cases walkS 24 nd 0 == some nd.length <;> rfl
theorem wqrn (k : Nat) {R : Type} (nd : List Nd) (hn : nd.length ≤ 4000) (ho : ∀ x ∈ nd, okD x) (hk : 5100 < k) (K : Bool → Option R) : wqe4 k nd K = K (checkS nd) := by
  unfold wqe4 wqtt wqh2 checkS
  by_cases h1 : nd.length < 1
  · rw [dec_f (show ¬ ((nd.length : Nat) : Int) ≥ 1 by omega), dec_f (show ¬ 1 ≤ nd.length by omega)]; rfl
  · rw [dec_t (show ((nd.length : Nat) : Int) ≥ 1 by omega), dec_t (show 1 ≤ nd.length by omega)]
    by_cases h2 : nd.length > 2000
    · rw [dec_f (show ¬ ((nd.length : Nat) : Int) ≤ 2000 by omega), dec_f (show ¬ nd.length ≤ 2000 by omega)]; rfl
    · rw [dec_t (show ((nd.length : Nat) : Int) ≤ 2000 by omega), dec_t (show nd.length ≤ 2000 by omega)]
      simp only [cond_true, wq1, Bool.true_and]
      refine Eq.trans (wqu0 nd hn ho 24 k 1 0 _ (by omega) (by omega) (by omega)) ?_
      rw [wq1dy]
theorem wq1c3 {a b : List UInt8} (h : a.length + b.length ≤ 100000000) : joins a b = true := dec_t (by simp only [maxN]; omega)
theorem wqro (k : Nat) {R : Type} (l s : List UInt8) (K : List Int → Int → Option R) (hl : l.length + s.length ≤ 100000000) : wqw k (wqn l) s K = K (wqn (l ++ s)) (s.length : Int) := by
  unfold wqw wq7z wq26
  dsimp only
  have e : wqn l ++ wqn s = wqn (l ++ s) := by simp [wqn]
  rw [fits_t (by rw [wq1k, wq1k]; omega) (by rw [wq1k, wq1k]; omega), cond_true, e]
theorem hexHi (c : UInt8) : bnd (ishr .u8 (c.toNat : Int) 4) (IntKind.u8.wrap (ishr .u8 (c.toNat : Int) 4 + 1)) ((([48, 49, 50, 51, 52, 53, 54, 55, 56, 57, 97, 98, 99, 100, 101, 102] : List UInt8).length : Nat) : Int) = true ∧
    cut ([48, 49, 50, 51, 52, 53, 54, 55, 56, 57, 97, 98, 99, 100, 101, 102] : List UInt8) (ishr .u8 (c.toNat : Int) 4) (IntKind.u8.wrap (ishr .u8 (c.toNat : Int) 4 + 1)) = [hexL.getD (c.toNat / 16) 0] := by
  have := all_u8 (fun c => bnd (ishr .u8 (c.toNat : Int) 4) (IntKind.u8.wrap (ishr .u8 (c.toNat : Int) 4 + 1)) ((([48, 49, 50, 51, 52, 53, 54, 55, 56, 57, 97, 98, 99, 100, 101, 102] : List UInt8).length : Nat) : Int) &&
    (cut ([48, 49, 50, 51, 52, 53, 54, 55, 56, 57, 97, 98, 99, 100, 101, 102] : List UInt8) (ishr .u8 (c.toNat : Int) 4) (IntKind.u8.wrap (ishr .u8 (c.toNat : Int) 4 + 1)) == [hexL.getD (c.toNat / 16) 0])) (by kernel_rfl) c
  simp only [Bool.and_eq_true, beq_iff_eq] at this
  exact this
theorem hexLo (c : UInt8) : bnd (ibits .and .u8 (c.toNat : Int) 15) (IntKind.u8.wrap (ibits .and .u8 (c.toNat : Int) 15 + 1)) ((([48, 49, 50, 51, 52, 53, 54, 55, 56, 57, 97, 98, 99, 100, 101, 102] : List UInt8).length : Nat) : Int) = true ∧
    cut ([48, 49, 50, 51, 52, 53, 54, 55, 56, 57, 97, 98, 99, 100, 101, 102] : List UInt8) (ibits .and .u8 (c.toNat : Int) 15) (IntKind.u8.wrap (ibits .and .u8 (c.toNat : Int) 15 + 1)) = [hexL.getD (c.toNat % 16) 0] := by
  have := all_u8 (fun c => bnd (ibits .and .u8 (c.toNat : Int) 15) (IntKind.u8.wrap (ibits .and .u8 (c.toNat : Int) 15 + 1)) ((([48, 49, 50, 51, 52, 53, 54, 55, 56, 57, 97, 98, 99, 100, 101, 102] : List UInt8).length : Nat) : Int) &&
    (cut ([48, 49, 50, 51, 52, 53, 54, 55, 56, 57, 97, 98, 99, 100, 101, 102] : List UInt8) (ibits .and .u8 (c.toNat : Int) 15) (IntKind.u8.wrap (ibits .and .u8 (c.toNat : Int) 15 + 1)) == [hexL.getD (c.toNat % 16) 0])) (by kernel_rfl) c
  simp only [Bool.and_eq_true, beq_iff_eq] at this
  exact this
theorem wqnm (k : Nat) {R : Type} (s : List UInt8) (hs : s.length ≤ 1000000) (K : List UInt8 → Option R) : ∀ (t : List UInt8) (n m : Nat) (acc : List UInt8), s.drop n = t → t.length < m → n ≤ s.length → acc.length ≤ 4 * n + 1 →
    wq3x k m s (wqn acc) (s.length : Int) (n : Int) K = K (acc ++ escS t ++ [34])
  | t, n, 0, acc, _, hm, _, _ => by omega
  | [], n, m + 1, acc, hd, hm, hn, ha => by
    have := wq1a hd
    rw [wq3x, wq9r]
    simp (disch := omega) only [dec_t, dec_f, ieq_t, ieq_f, ine_t, ine_f, inb_t, bnd_t, wqb, wq5, cond_true, cond_false, Bool.not_true, Bool.not_false, Bool.true_or, Bool.or_true, Bool.false_or, Bool.or_false, Bool.true_and, Bool.and_true, Bool.false_and, Bool.and_false, wq1, wq0, wq2, escS, List.append_nil]
    rw [wqa9 k acc 34 34 _ rfl (by omega), wqut]
  | c :: r, n, m + 1, acc, hd, hm, hn, ha => by
    obtain ⟨hlt, hc, hr⟩ := wqg hd
    have hcl := c.toNat_lt
    have e1 : ((c.toNat : Int) == 92) = (c == 92) := u8_beq c 92 (by omega)
    have e2 : ((c.toNat : Int) == 34) = (c == 34) := u8_beq c 34 (by omega)
    have e3 : ((c.toNat : Int) == 10) = (c == 10) := u8_beq c 10 (by omega)
    have e4 : ((c.toNat : Int) == 9) = (c == 9) := u8_beq c 9 (by omega)
    have e5 : ((c.toNat : Int) == 127) = (c == 127) := u8_beq c 127 (by omega)
    have e6 : decide ((c.toNat : Int) < 32) = decide (c.toNat < 32) := by rw [Bool.eq_iff_iff]; simp; omega
    have hl := wq1bj c
    simp only [List.length_cons] at hm
    have go : ∀ x : List UInt8, x = escB c → (wqw k (wqn acc) x fun y8 y9 => wq3x k m s y8 (s.length : Int) ((n + 1 : Nat) : Int) K) = K (acc ++ escS (c :: r) ++ [34]) := by
      intro x hx
      subst hx
      rw [wqro k acc _ _ (by omega), wqnm k s hs K r (n + 1) m (acc ++ escB c) hr (by omega) (by omega) (by simp; omega), escS, List.append_assoc acc]
    obtain ⟨b1, c1⟩ := hexHi c
    obtain ⟨b2, c2⟩ := hexLo c
    rw [wq3x, wq9r]
    simp (disch := omega) only [dec_t, dec_f, ieq_t, ieq_f, ine_t, ine_f, inb_t, bnd_t, wqb, wq5, cond_true, cond_false, Bool.not_true, Bool.not_false, Bool.true_or, Bool.or_true, Bool.false_or, Bool.or_false, Bool.true_and, Bool.and_true, Bool.false_and, Bool.and_false, wq1, wq0, wq2, hc, e1, e2, e3, e4, e5, e6, wq16, b1, b2, c1, c2]
    unfold escB at go
    cases h1 : c == 92 with
    | true => rw [h1] at go; have := beq_iff_eq.1 h1; subst this; exact go _ rfl
    | false =>
      cases h2 : c == 34 with
      | true => rw [h1, h2] at go; have := beq_iff_eq.1 h2; subst this; exact go _ rfl
      | false =>
        rw [h1, h2] at go
        cases h3 : c == 10 with
        | true => rw [h3] at go; exact go _ rfl
        | false =>
          rw [h3] at go
          cases h4 : c == 9 with
          | true => rw [h4] at go; exact go _ rfl
          | false =>
            rw [h4] at go
            cases h5 : (decide (c.toNat < 32) || c == 127) with
            | true =>
              rw [h5] at go
              have : (bif decide (c.toNat < 32) then true else c == 127) = true := by rw [Bool.cond_true_left]; exact h5
              rw [this]
              exact go _ rfl
            | false =>
              rw [h5] at go
              have : (bif decide (c.toNat < 32) then true else c == 127) = false := by rw [Bool.cond_true_left]; exact h5
              rw [this]
              have g := go [c] rfl
              rw [wqro k acc _ _ (by simp; omega)] at g
              simp only [cond_true, cond_false]
              rw [wqa9 k acc c _ _ rfl (by omega)]
              exact g
theorem wq14c (k : Nat) {R : Type} (s : List UInt8) (hs : s.length ≤ 1000000) (hk : s.length < k) (K : List UInt8 → Option R) : wqgv k s K = K (quoS s) := by
  unfold wqgv wqou
  have : ([] : List Int) = wqn [] := rfl
  rw [this, wqa9 k [] 34 34 _ rfl (by simp)]
  exact wqnm k s hs K s 0 k [34] rfl hk (Nat.zero_le _) (by simp)
theorem WS_sw (k : Nat) {R : Type} (nd : List Nd) (l s : List UInt8) (K : List Nd → List Int → Int → Option R) (hl : l.length + s.length ≤ 100000000) : wqh k nd (wqn l) s K = K nd (wqn (l ++ s)) (s.length : Int) := by
  unfold wqh wq6e wq1q
  dsimp only
  have e : wqn l ++ wqn s = wqn (l ++ s) := by simp [wqn]
  rw [fits_t (by rw [wq1k, wq1k]; omega) (by rw [wq1k, wq1k]; omega), cond_true, e]
theorem WB_sw (k : Nat) {R : Type} (nd : List Nd) (l : List UInt8) (c : UInt8) (x : Int) (hx : x = (c.toNat : Int)) (K : List Nd → List Int → Option R) (hl : l.length ≤ 100000000) : wq1d k nd (wqn l) x K = K nd (wqn (l ++ [c])) := by
  subst hx
  unfold wq1d wq7h wq1q
  dsimp only
  rw [fits_t (by rw [wq1k]; simp; omega) (by rw [wq1k]; simp; omega), cond_true, wq7a]
theorem wq1dz : ∀ n : Nat, repS [32] n = blS n
  | 0 => rfl
  | n + 1 => by
    have : repS [32] (n + 1) = [32] ++ repS [32] n := rfl
    rw [this, wq1dz n]; rfl
theorem in_eq (k : Nat) {R : Type} (nd : List Nd) (l : List UInt8) (n : Nat) (hn : n ≤ 1000) (hl : l.length ≤ 10000000) (K : List Nd → List Int → Option R) : wq4p k nd (wqn l) (n : Int) K = K nd (wqn (l ++ blS n)) := by
  unfold wq4p wqlj wqaz
  rw [dec_t (show (0 : Int) ≤ (n : Int) by omega), dec_t (show (n : Int) ≤ 1000000 by omega), dec_t (show ([32] : List UInt8).length ≤ 1000000 by simp), wq2, wq1dz]
  simp only [Bool.and_self, cond_true]
  rw [WS_sw k nd l _ _ (by simp [blS]; omega)]
theorem wq11p (k : Nat) {R : Type} (Xb Xp) (nd : List Nd) (col : Nat) (hc : col ≤ 58) (g : Nat → List UInt8) (w : Nat → Option Nat) (K : List Nd → List Int → Option R)
    (hg : ∀ n m, w n = some m → n < m ∧ (g n).length + 200 ≤ 1100 * (m - n))
    (B : Nat) (hB : B ≤ 6000000) (hX : ∀ (n m : Nat) (acc : List UInt8) (K : List Nd → List Int → Option R), w n = some m → acc.length + 1100 * (m - n) ≤ B + 130 → Xb R nd (wqn acc) (n : Int) ((col + 2 : Nat) : Int) K = K nd (wqn (acc ++ g n)))
    (kids : List Int) (hl : kids.length ≤ 4000) :
    ∀ (q : List Int) (i n e m : Nat) (acc : List UInt8), kids.drop i = q → q.length < m → i ≤ kids.length → kidsW w q n = some e → acc.length + 1100 * (e - n) ≤ B →
      wq23 k Xb Xp m nd (wqn acc) (col : Int) kids (kids.length : Int) (i : Int) K = K nd (wqn (acc ++ lstS g col (i == 0) q))
  | q, i, n, e, 0, acc, _, h, _, _, _ => by omega
  | [], i, n, e, m + 1, acc, hq, h, hi, hw, ha => by
    have := wq1a hq
    rw [wq23, wq48]
    simp (disch := omega) only [dec_t, dec_f, ieq_t, ieq_f, ine_t, ine_f, inb_t, bnd_t, wqb, wq5, cond_true, cond_false, Bool.not_true, Bool.not_false, Bool.true_or, Bool.or_true, Bool.false_or, Bool.or_false, Bool.true_and, Bool.and_true, Bool.false_and, Bool.and_false, wq1, wq0, wq2, lstS, List.append_nil]
  | c :: q, i, n, e, m + 1, acc, hq, h, hi, hw, ha => by
    obtain ⟨hlt, hc', hr⟩ := wqg hq
    rw [kidsW] at hw
    cases h1 : c == (n : Int) with
    | false => rw [h1] at hw; cases hw
    | true =>
      rw [h1, cond_true] at hw
      have h1 : c = (n : Int) := by simpa using h1
      subst h1
      cases h2 : w n with
      | none => rw [h2] at hw; cases hw
      | some j =>
        rw [h2] at hw
        dsimp only at hw
        obtain ⟨g1, g2⟩ := hg n j h2
        have g3 := (wq146 (g := g) (col := col) (by omega) hg q false j e hw).1
        have ec : IntKind.i64.wrap ((col : Int) + 2) = ((col + 2 : Nat) : Int) := by rw [wqb (by omega) (by omega)]; omega
        rw [wq23, wq48, lstS]
        simp (disch := omega) only [dec_t, dec_f, ieq_t, ieq_f, ine_t, ine_f, inb_t, bnd_t, wqb, wq5, cond_true, cond_false, Bool.not_true, Bool.not_false, Bool.true_or, Bool.or_true, Bool.false_or, Bool.or_false, Bool.true_and, Bool.and_true, Bool.false_and, Bool.and_false, wq1, wq0, wq2, hc', wq16, ec]
        by_cases h0 : i = 0
        · subst h0
          have e1 : decide (((0 : Nat) : Int) > 0) = false := rfl
          simp only [e1, cond_false, cond_true, beq_self_eq_true, List.nil_append]
          rw [WS_sw k nd acc _ _ (by simp; omega), hX n j _ _ h2 (by simp; omega)]
          rw [wq11p k Xb Xp nd col hc g w K hg B hB hX kids hl q (0 + 1) j e m _ hr (by simp at h; omega) (by omega) hw (by simp; omega)]
          simp [List.append_assoc]
        · have e1 : decide ((i : Int) > 0) = true := dec_t (by omega)
          have e2 : (i == 0) = false := by simpa using h0
          simp only [e1, e2, cond_false, cond_true]
          rw [in_eq k nd acc col (by omega) (by omega), WS_sw k nd _ _ _ (by simp [blS]; omega), hX n j _ _ h2 (by simp [blS]; omega)]
          rw [wq11p k Xb Xp nd col hc g w K hg B hB hX kids hl q (i + 1) j e m _ hr (by simp at h; omega) (by omega) hw (by simp [blS]; omega)]
          simp [List.append_assoc]
theorem wq16j (k : Nat) {R : Type} (Xb Xp) (nd : List Nd) (col : Nat) (hc : col ≤ 58) (g : Nat → List UInt8) (t : Nat → Bool) (w : Nat → Option Nat) (K : List Nd → List Int → Option R)
    (hg : ∀ n m, w n = some m → n < m ∧ (g n).length + 200 ≤ 1100 * (m - n))
    (B : Nat) (hB : B ≤ 6000000) (hX : ∀ (n m : Nat) (acc : List UInt8) (K : List Nd → List Int → Option R), w n = some m → acc.length + 1100 * (m - n) ≤ B + 130 → Xp R nd (wqn acc) (n : Int) (col : Int) K = K nd (wqn (acc ++ (bif t n then [32] else 10 :: blS (col + 2)) ++ g n)))
    (s3 s4 : Int) (s5 : List UInt8) (s6 : Bool) (keys : List (List UInt8)) (s8 kids : List Int) (hl : kids.length ≤ 4000) (hk : keys.length = kids.length) (hkl : ∀ q ∈ keys, q.length ≤ 64) :
    ∀ (q : List Int) (ks : List (List UInt8)) (i n e m : Nat) (acc : List UInt8), kids.drop i = q → keys.drop i = ks → q.length < m → i ≤ kids.length → kidsW w q n = some e → acc.length + 1100 * (e - n) ≤ B →
      wq22 k Xb Xp m nd (wqn acc) (col : Int) s3 s4 s5 s6 keys s8 kids (kids.length : Int) (i : Int) K = K nd (wqn (acc ++ mapS g t col (i == 0) ks q))
  | q, ks, i, n, e, 0, acc, _, _, h, _, _, _ => by omega
  | [], ks, i, n, e, m + 1, acc, hq, hks, h, hi, hw, ha => by
    have := wq1a hq
    have hm : mapS g t col (i == 0) ks [] = [] := by cases ks <;> simp [mapS]
    rw [wq22, wq49, hm]
    simp (disch := omega) only [dec_t, dec_f, ieq_t, ieq_f, ine_t, ine_f, inb_t, bnd_t, wqb, wq5, cond_true, cond_false, Bool.not_true, Bool.not_false, Bool.true_or, Bool.or_true, Bool.false_or, Bool.or_false, Bool.true_and, Bool.and_true, Bool.false_and, Bool.and_false, wq1, wq0, wq2, List.append_nil]
  | c :: q, [], i, n, e, m + 1, acc, hq, hks, h, hi, hw, ha => by
    have h1 := wq1a hks
    obtain ⟨hlt, _, _⟩ := wqg hq
    omega
  | c :: q, key :: ks, i, n, e, m + 1, acc, hq, hks, h, hi, hw, ha => by
    obtain ⟨hlt, hc', hr⟩ := wqg hq
    obtain ⟨klt, hkc, hkr⟩ := wqg hks
    have hkey := hkl key (List.mem_of_mem_drop (by rw [hks]; simp))
    rw [kidsW] at hw
    cases h1 : c == (n : Int) with
    | false => rw [h1] at hw; cases hw
    | true =>
      rw [h1, cond_true] at hw
      have h1 : c = (n : Int) := by simpa using h1
      subst h1
      cases h2 : w n with
      | none => rw [h2] at hw; cases hw
      | some j =>
        rw [h2] at hw
        dsimp only at hw
        obtain ⟨g1, g2⟩ := hg n j h2
        have g3 := (wq146 (g := g) (col := col) (by omega) hg q false j e hw).1
        have hb2 : (bif t n then [32] else 10 :: blS (col + 2)).length ≤ 61 := by cases t n <;> simp [blS] <;> omega
        rw [wq22, wq49, mapS]
        simp (disch := omega) only [dec_t, dec_f, ieq_t, ieq_f, ine_t, ine_f, inb_t, bnd_t, wqb, wq5, cond_true, cond_false, Bool.not_true, Bool.not_false, Bool.true_or, Bool.or_true, Bool.false_or, Bool.or_false, Bool.true_and, Bool.and_true, Bool.false_and, Bool.and_false, wq1, wq0, wq2, hc', hkc, wq16]
        rw [wq1c3 (by simp; omega), cond_true]
        by_cases h0 : i = 0
        · subst h0
          have e1 : decide (((0 : Nat) : Int) > 0) = false := rfl
          simp only [e1, cond_false, cond_true, beq_self_eq_true, List.nil_append]
          rw [WS_sw k nd acc _ _ (by simp; omega), hX n j _ _ h2 (by simp; omega)]
          rw [wq16j k Xb Xp nd col hc g t w K hg B hB hX s3 s4 s5 s6 keys s8 kids hl hk hkl q ks (0 + 1) j e m _ hr hkr (by simp at h; omega) (by omega) hw (by simp only [List.length_append, List.length_cons, List.length_nil]; omega)]
          simp [List.append_assoc]
        · have e1 : decide ((i : Int) > 0) = true := dec_t (by omega)
          have e2 : (i == 0) = false := by simpa using h0
          have hb : (blS col).length = col := by simp [blS]
          simp only [e1, e2, cond_false, cond_true]
          rw [in_eq k nd acc col (by omega) (by omega), WS_sw k nd _ _ _ (by simp [blS]; omega), hX n j _ _ h2 (by simp [blS]; omega)]
          rw [wq16j k Xb Xp nd col hc g t w K hg B hB hX s3 s4 s5 s6 keys s8 kids hl hk hkl q ks (i + 1) j e m _ hr hkr (by simp at h; omega) (by omega) hw (by simp only [List.length_append, List.length_cons, List.length_nil, hb]; omega)]
          simp [List.append_assoc]
theorem wq11q {R : Type} (nd : List Nd) (hn : nd.length ≤ 4000) (ho : ∀ x ∈ nd, okD x) : ∀ (f k n m col : Nat) (acc : List UInt8) (K : List Nd → List Int → Option R), 5000 + 2 * f < k → walkS f nd n = some m → col + 2 * f ≤ 58 → acc.length + 1100 * (m - n) + 200 * f ≤ 6000000 →
    wqt k R nd (wqn acc) (n : Int) (col : Int) K = K nd (wqn (acc ++ textS f nd n col))
  | f, 0, n, m, col, acc, K, hk, hw, hc, ha => by omega
  | 0, k + 1, n, m, col, acc, K, hk, hw, hc, ha => by rw [walkS] at hw; cases hw
  | f + 1, 1, n, m, col, acc, K, hk, hw, hc, ha => by omega
  | f + 1, k + 2, n, m, col, acc, K, hk, hw, hc, ha => by
    have hlt := wqt2 _ _ _ _ hw
    have hle := wqpn _ _ _ _ hw
    obtain ⟨x, hx, hf, hw⟩ := wqk2 hw
    have hn1 := (List.getElem?_eq_some_iff.1 hx).1
    have hmem := List.mem_of_getElem? hx
    have hg : ∀ z, nd.getD n z = x := fun z => by rw [List.getD, hx]; rfl
    have e4 : inb (n : Int) (nd.length : Int) = true := inb_t (by omega) (by omega)
    have ind : ∀ (k' : Nat), 5000 + 2 * f < k' → ∀ (n m : Nat) (acc : List UInt8) (K : List Nd → List Int → Option R), walkS f nd n = some m → acc.length + 1100 * (m - n) ≤ 6000000 - 200 * (f + 1) + 130 → wqt k' R nd (wqn acc) (n : Int) ((col + 2 : Nat) : Int) K = K nd (wqn (acc ++ textS f nd n (col + 2))) :=
      fun k' hk' n m acc K h1 h2 => wq11q nd hn ho f k' n m (col + 2) acc K hk' h1 (by omega) (by omega)
    have lens : ∀ n m, walkS f nd n = some m → n < m ∧ (textS f nd n (col + 2)).length + 200 ≤ 1100 * (m - n) := fun a b hab => wq16d f nd a b (col + 2) hab (by omega)
    rw [wqt]
    unfold wqb0
    rw [textS, hx, e4]
    simp (disch := omega) only [dec_t, dec_f, ieq_t, ieq_f, ine_t, ine_f, inb_t, bnd_t, wqb, wq5, cond_true, cond_false, Bool.not_true, Bool.not_false, Bool.true_or, Bool.or_true, Bool.false_or, Bool.or_false, Bool.true_and, Bool.and_true, Bool.false_and, Bool.and_false, wq1, wq0, wq2, hg]
    cases h1 : x.1 == 1 with
    | true =>
      obtain ⟨_, _, hl, _⟩ := wqmh hf h1
      have hlen := wq1bl hl
      simp only [cond_true]
      unfold txtN at hlen ⊢
      cases hq : x.2.2.2.1 with
      | true =>
        rw [hq, cond_true] at hlen
        simp only [cond_true]
        rw [wq14c _ _ (by omega) (by omega), wq1c3 (by simp; omega), cond_true, WS_sw _ nd acc _ _ (by simp; omega)]
      | false =>
        rw [hq, cond_false] at hlen
        simp only [cond_false]
        rw [wq1c3 (by simp; omega), cond_true, WS_sw _ nd acc _ _ (by simp; omega)]
    | false =>
      simp only [cond_false]
      obtain ⟨_, _, h3, h3'⟩ := ho x hmem
      cases h2 : x.1 == 2 with
      | true =>
        simp only [cond_true]
        exact wq11p (k + 1) _ _ nd col (by omega) (fun k => textS f nd k (col + 2)) (walkS f nd) K lens (6000000 - 200 * (f + 1)) (by omega) (ind (k + 1) (by omega)) x.2.2.2.2.2 h3 x.2.2.2.2.2 0 (n + 1) m (k + 1) acc rfl (by omega) (by omega) hw (by omega)
      | false =>
        obtain ⟨k3, kl, _, _, _, kb⟩ := wqxi hf h1 h2
        have e3 : (x.1 == 3) = true := by rw [k3]; rfl
        simp only [e3, cond_true, cond_false]
        refine wq16j (k + 1) _ _ nd col (by omega) (fun k => textS f nd k (col + 2)) (isT nd) (walkS f nd) K lens (6000000 - 200 * (f + 1)) (by omega) ?_ _ _ _ _ x.2.2.2.2.1 _ x.2.2.2.2.2 h3 kl (fun q hq => by
          have := wqrj _ _ kb q hq
          simp only [keyB, Bool.and_eq_true, decide_eq_true_eq] at this
          exact this.2) x.2.2.2.2.2 x.2.2.2.2.1 0 (n + 1) m (k + 1) acc rfl rfl (by omega) (by omega) hw (by omega)
        intro n' m' acc' K' hw' ha'
        have hlt' := wqt2 _ _ _ _ hw'
        have hle' := wqpn _ _ _ _ hw'
        obtain ⟨y, hy, hgy, _⟩ := nd_at (nd := nd) (n := n') (by omega)
        have e5 : inb (n' : Int) (nd.length : Int) = true := inb_t (by omega) (by omega)
        have ec : IntKind.i64.wrap ((col : Int) + 2) = ((col + 2 : Nat) : Int) := by rw [wqb (by omega) (by omega)]; omega
        rw [FR_show_writer_pair]
        unfold wqiv isT
        rw [hy, e5]
        simp (disch := omega) only [dec_t, dec_f, ieq_t, ieq_f, ine_t, ine_f, inb_t, bnd_t, wqb, wq5, cond_true, cond_false, Bool.not_true, Bool.not_false, Bool.true_or, Bool.or_true, Bool.false_or, Bool.or_false, Bool.true_and, Bool.and_true, Bool.false_and, Bool.and_false, wq1, wq0, wq2, hgy, ec]
        have hk2 : 5000 + 2 * f < k := by omega
        have hb : (blS (col + 2)).length = col + 2 := by simp [blS]
        cases y.1 == 1 with
        | true =>
          simp only [cond_true]
          rw [WB_sw _ nd acc' 32 32 rfl _ (by omega)]
          refine Eq.trans (wq11q nd hn ho f k n' m' (col + 2) _ _ hk2 hw' (by omega) (by simp only [List.length_append, List.length_cons, List.length_nil]; omega)) ?_
          simp [List.append_assoc]
        | false =>
          simp only [cond_false]
          rw [WB_sw _ nd acc' 10 10 rfl _ (by omega), in_eq _ nd _ (col + 2) (by omega) (by simp; omega)]
          refine Eq.trans (wq11q nd hn ho f k n' m' (col + 2) _ _ hk2 hw' (by omega) (by simp only [List.length_append, List.length_cons, List.length_nil, hb]; omega)) ?_
          simp [List.append_assoc]
def outT {R : Type} (K : List Int → Int → Option R) (nd : List Nd) : Option R :=
  bif checkS nd then bif decide ((textS 24 nd 0 0).length > 60000) then K [] 4 else K (wqn (textS 24 nd 0 0)) 0 else K [] 1
theorem wq1cy {nd : List Nd} (h : checkS nd = true) : nd.length ≤ 2000 ∧ walkS 24 nd 0 = some nd.length := by
  unfold checkS at h
  simp only [Bool.and_eq_true, decide_eq_true_eq, beq_iff_eq] at h
  exact h.2
theorem wqpo (k : Nat) {R : Type} (nd : List Nd) (hn : nd.length ≤ 4000) (ho : ∀ x ∈ nd, okD x) (hk : 5100 < k) (K : List Int → Int → Option R) : wqce k nd K = outT K nd := by
  unfold wqce wqze outT wq5j
  rw [wqu1 k nd hn ho hk]
  cases hc : checkS nd with
  | false => rfl
  | true =>
    obtain ⟨h1, h2⟩ := wq1cy hc
    have e0 : ((0 : Int) != 0) = false := rfl
    have en : ([] : List Int) = wqn [] := rfl
    simp only [cond_true, e0, cond_false]
    rw [en]
    refine Eq.trans (wq11q nd hn ho 24 k 0 nd.length 0 [] _ (by omega) h2 (by omega) (by simp; omega)) ?_
    unfold wq4a wqb1 wq32
    dsimp only
    rw [wqpm, wq4e, wq1k, List.nil_append]
    by_cases hb : (textS 24 nd 0 0).length > 60000
    · rw [dec_t hb, dec_t (show ((textS 24 nd 0 0).length : Int) > 60000 by omega)]; rfl
    · rw [dec_f hb, dec_f (show ¬ ((textS 24 nd 0 0).length : Int) > 60000 by omega)]; rfl
theorem wq16k {α : Type} [BEq α] [LawfulBEq α] {R : Type} (z : α) (L : Nat → List α → List α → Int → Int → Option R) (K : Bool → Option R) (x y : List α) (hx : x.length ≤ 4000) (hxy : x.length = y.length)
    (step : ∀ n i, L (n + 1) x y (x.length : Int) i = bif decide (i < (x.length : Int)) then bif inb i (x.length : Int) then bif inb i (y.length : Int) then bif !(x.getD i.toNat z == y.getD i.toNat z) then K false else L n x y (x.length : Int) (IntKind.i64.wrap (i + 1)) else none else none else K true) :
    ∀ (p q : List α) (i m : Nat), x.drop i = p → y.drop i = q → p.length < m → i ≤ x.length → L m x y (x.length : Int) (i : Int) = K (p == q)
  | p, q, i, 0, _, _, h, _ => by omega
  | [], q, i, m + 1, hp, hq, h, hi => by
    have h1 := wq1a hp
    have h2 : q = [] := by rw [← hq]; simp; omega
    subst h2
    rw [step]
    simp (disch := omega) only [dec_t, dec_f, ieq_t, ieq_f, ine_t, ine_f, inb_t, bnd_t, wqb, wq5, cond_true, cond_false, Bool.not_true, Bool.not_false, Bool.true_or, Bool.or_true, Bool.false_or, Bool.or_false, Bool.true_and, Bool.and_true, Bool.false_and, Bool.and_false, wq1, wq0, wq2]
    rfl
  | a :: p, [], i, m + 1, hp, hq, h, hi => by
    obtain ⟨h1, _, _⟩ := wqg hp
    have := wq1a hq
    omega
  | a :: p, b :: q, i, m + 1, hp, hq, h, hi => by
    obtain ⟨h1, h2, h3⟩ := wqg hp
    obtain ⟨g1, g2, g3⟩ := wqg hq
    rw [step]
    simp (disch := omega) only [dec_t, dec_f, ieq_t, ieq_f, ine_t, ine_f, inb_t, bnd_t, wqb, wq5, cond_true, cond_false, Bool.not_true, Bool.not_false, Bool.true_or, Bool.or_true, Bool.false_or, Bool.or_false, Bool.true_and, Bool.and_true, Bool.false_and, Bool.and_false, wq1, wq0, wq2, h2, g2, wq16]
    have e : ((a :: p) == (b :: q)) = ((a == b) && (p == q)) := rfl
    rw [e]
    cases a == b with
    | false => rfl
    | true =>
      simp only [Bool.not_true, cond_false, Bool.true_and]
      exact wq16k z L K x y hx hxy step p q (i + 1) m h3 g3 (by simp at h; omega) (by omega)
theorem len_ne {α : Type} [BEq α] [LawfulBEq α] {x y : List α} (h : x.length ≠ y.length) : (x == y) = false := by
  rw [beq_eq_false_iff_ne]
  exact fun e => h (by rw [e])
theorem wq16l (k : Nat) {R : Type} (x y : List (List UInt8)) (hx : x.length ≤ 4000) (hk : 4000 < k) (K : Bool → Option R) : wq1p k x y K = K (x == y) := by
  unfold wq1p wq3w
  by_cases h : x.length = y.length
  · rw [ine_f (by omega), cond_false]
    exact wq16k ([] : List UInt8) (fun m a b c d => wq1c k m a b c d K) K x y hx h (fun n i => by rw [wq1c]; rfl) x y 0 k rfl rfl (by omega) (by omega)
  · rw [ine_t (by omega), cond_true, len_ne h]
theorem wq16m (k : Nat) {R : Type} (x y : List Int) (hx : x.length ≤ 4000) (hk : 4000 < k) (K : Bool → Option R) : wq2w k x y K = K (x == y) := by
  unfold wq2w wq73
  by_cases h : x.length = y.length
  · rw [ine_f (by omega), cond_false]
    exact wq16k (0 : Int) (fun m a b c d => wq1s k m a b c d K) K x y hx h (fun n i => by rw [wq1s]; rfl) x y 0 k rfl rfl (by omega) (by omega)
  · rw [ine_t (by omega), cond_true, len_ne h]
theorem wq11r (k : Nat) {R : Type} (x y : Nd) (hx : okD x) (hk : 4000 < k) (K : Bool → Option R) : wqdu k x.1 x.2.1 x.2.2.1 x.2.2.2.1 x.2.2.2.2.1 x.2.2.2.2.2 y.1 y.2.1 y.2.2.1 y.2.2.2.1 y.2.2.2.2.1 y.2.2.2.2.2 K = K (sameN x y) := by
  unfold wqdu wqto sameN
  obtain ⟨_, h2, h3, _⟩ := hx
  rw [wq16l k _ _ h2 hk, wq16m k _ _ h3 hk]
  cases x.1 == y.1 <;> cases x.2.2.1 == y.2.2.1 <;> cases x.2.2.2.1 == y.2.2.2.1 <;> cases x.2.2.2.2.1 == y.2.2.2.2.1 <;> rfl
theorem wqrp (k : Nat) {R : Type} (x y : List Nd) (hx : x.length ≤ 4000) (ho : ∀ z ∈ x, okD z) (hxy : x.length = y.length) (hk : 4000 < k) (K : Bool → Option R) : ∀ (p q : List Nd) (i m : Nat), x.drop i = p → y.drop i = q → p.length < m → i ≤ x.length →
    wqd k m y x (x.length : Int) (i : Int) K = K (sameS p q)
  | p, q, i, 0, _, _, h, _ => by omega
  | [], q, i, m + 1, hp, hq, h, hi => by
    have h1 := wq1a hp
    have h2 : q = [] := by rw [← hq]; simp; omega
    subst h2
    rw [wqd, wqo]
    simp (disch := omega) only [dec_t, dec_f, ieq_t, ieq_f, ine_t, ine_f, inb_t, bnd_t, wqb, wq5, cond_true, cond_false, Bool.not_true, Bool.not_false, Bool.true_or, Bool.or_true, Bool.false_or, Bool.or_false, Bool.true_and, Bool.and_true, Bool.false_and, Bool.and_false, wq1, wq0, wq2]
    rfl
  | a :: p, [], i, m + 1, hp, hq, h, hi => by
    obtain ⟨h1, _, _⟩ := wqg hp
    have := wq1a hq
    omega
  | a :: p, b :: q, i, m + 1, hp, hq, h, hi => by
    obtain ⟨h1, h2, h3⟩ := wqg hp
    obtain ⟨g1, g2, g3⟩ := wqg hq
    have hm := ho a (List.mem_of_mem_drop (by rw [hp]; simp))
    rw [wqd, wqo]
    simp (disch := omega) only [dec_t, dec_f, ieq_t, ieq_f, ine_t, ine_f, inb_t, bnd_t, wqb, wq5, cond_true, cond_false, Bool.not_true, Bool.not_false, Bool.true_or, Bool.or_true, Bool.false_or, Bool.or_false, Bool.true_and, Bool.and_true, Bool.false_and, Bool.and_false, wq1, wq0, wq2, h2, g2, wq16]
    rw [wq11r k a b hm hk, sameS]
    cases sameN a b with
    | false => rfl
    | true =>
      simp only [Bool.not_true, cond_false, Bool.true_and]
      exact wqrp k x y hx ho hxy hk K p q (i + 1) m h3 g3 (by simp at h; omega) (by omega)
theorem wq11s : ∀ {x y : List Nd}, x.length ≠ y.length → sameS x y = false
  | [], [], h => absurd rfl h
  | [], _ :: _, _ => rfl
  | _ :: _, [], _ => rfl
  | a :: x, b :: y, h => by rw [sameS, wq11s (by simpa using h), Bool.and_false]
theorem wqxl (k : Nat) {R : Type} (x y : List Nd) (hx : x.length ≤ 4000) (ho : ∀ z ∈ x, okD z) (hk : 4000 < k) (K : Bool → Option R) : wqfz k x y K = K (sameS x y) := by
  unfold wqfz wqzd wqu wq14
  by_cases h : x.length = y.length
  · rw [ine_f (by omega), cond_false]
    exact wqrp k x y hx ho h hk _ x y 0 k rfl rfl (by omega) (by omega)
  · rw [ine_t (by omega), cond_true, wq11s h]
theorem wq14d (k : Nat) {R : Type} (J : List Nd → List Nd → Int → Option R) (K : Bool → Option R) (s0 s1 : List Nd) (s2 s3 s4 : Int) (s5 : List UInt8) (s6 : Bool) (x : List (List UInt8)) (hx : x.length ≤ 4000) (s8 : List Int) (s9 s10 : Int) (s11 : List UInt8) (s12 : Bool) (y : List (List UInt8)) (hxy : x.length = y.length) (s14 : List Int) :
    ∀ (p q : List (List UInt8)) (i m : Nat), x.drop i = p → y.drop i = q → p.length < m → i ≤ x.length → wq58 k J m s0 s1 s2 s3 s4 s5 s6 x s8 s9 s10 s11 s12 y s14 (i : Int) K = bif p == q then wq3z k J k s0 s1 s2 s3 s4 s5 s6 x s8 s9 s10 s11 s12 y s14 0 K else K false
  | p, q, i, 0, _, _, h, _ => by omega
  | [], q, i, m + 1, hp, hq, h, hi => by
    have h1 := wq1a hp
    have h2 : q = [] := by rw [← hq]; simp; omega
    subst h2
    rw [wq58, wqa1]
    simp (disch := omega) only [dec_t, dec_f, ieq_t, ieq_f, ine_t, ine_f, inb_t, bnd_t, wqb, wq5, cond_true, cond_false, Bool.not_true, Bool.not_false, Bool.true_or, Bool.or_true, Bool.false_or, Bool.or_false, Bool.true_and, Bool.and_true, Bool.false_and, Bool.and_false, wq1, wq0, wq2]
    rfl
  | a :: p, [], i, m + 1, hp, hq, h, hi => by
    obtain ⟨h1, _, _⟩ := wqg hp
    have := wq1a hq
    omega
  | a :: p, b :: q, i, m + 1, hp, hq, h, hi => by
    obtain ⟨h1, h2, h3⟩ := wqg hp
    obtain ⟨g1, g2, g3⟩ := wqg hq
    rw [wq58, wqa1]
    simp (disch := omega) only [dec_t, dec_f, ieq_t, ieq_f, ine_t, ine_f, inb_t, bnd_t, wqb, wq5, cond_true, cond_false, Bool.not_true, Bool.not_false, Bool.true_or, Bool.or_true, Bool.false_or, Bool.or_false, Bool.true_and, Bool.and_true, Bool.false_and, Bool.and_false, wq1, wq0, wq2, h2, g2, wq16]
    have e : ((a :: p) == (b :: q)) = ((a == b) && (p == q)) := rfl
    rw [e]
    cases a == b with
    | false => rfl
    | true =>
      simp only [Bool.not_true, cond_false, Bool.true_and]
      exact wq14d k J K s0 s1 s2 s3 s4 s5 s6 x hx s8 s9 s10 s11 s12 y hxy s14 p q (i + 1) m h3 g3 (by simp at h; omega) (by omega)
theorem wq14e (k : Nat) {R : Type} (J : List Nd → List Nd → Int → Option R) (K : Bool → Option R) (s0 s1 : List Nd) (n : Nat) (hn : n ≤ 4000) (s3 s4 : Int) (s5 : List UInt8) (s6 : Bool) (s7 : List (List UInt8)) (x : List Int) (hx : x.length ≤ 4000) (s9 s10 : Int) (s11 : List UInt8) (s12 : Bool) (s13 : List (List UInt8)) (y : List Int) (hxy : x.length = y.length) :
    ∀ (p q : List Int) (i m : Nat), x.drop i = p → y.drop i = q → p.length < m → i ≤ x.length → wq3z k J m s0 s1 (n : Int) s3 s4 s5 s6 s7 x s9 s10 s11 s12 s13 y (i : Int) K = bif p == q then J s0 s1 ((n + 1 : Nat) : Int) else K false
  | p, q, i, 0, _, _, h, _ => by omega
  | [], q, i, m + 1, hp, hq, h, hi => by
    have h1 := wq1a hp
    have h2 : q = [] := by rw [← hq]; simp; omega
    subst h2
    rw [wq3z, wqa2]
    simp (disch := omega) only [dec_t, dec_f, ieq_t, ieq_f, ine_t, ine_f, inb_t, bnd_t, wqb, wq5, cond_true, cond_false, Bool.not_true, Bool.not_false, Bool.true_or, Bool.or_true, Bool.false_or, Bool.or_false, Bool.true_and, Bool.and_true, Bool.false_and, Bool.and_false, wq1, wq0, wq2, wq16]
    rfl
  | a :: p, [], i, m + 1, hp, hq, h, hi => by
    obtain ⟨h1, _, _⟩ := wqg hp
    have := wq1a hq
    omega
  | a :: p, b :: q, i, m + 1, hp, hq, h, hi => by
    obtain ⟨h1, h2, h3⟩ := wqg hp
    obtain ⟨g1, g2, g3⟩ := wqg hq
    rw [wq3z, wqa2]
    simp (disch := omega) only [dec_t, dec_f, ieq_t, ieq_f, ine_t, ine_f, inb_t, bnd_t, wqb, wq5, cond_true, cond_false, Bool.not_true, Bool.not_false, Bool.true_or, Bool.or_true, Bool.false_or, Bool.or_false, Bool.true_and, Bool.and_true, Bool.false_and, Bool.and_false, wq1, wq0, wq2, h2, g2, wq16]
    have e : ((a :: p) == (b :: q)) = ((a == b) && (p == q)) := rfl
    have e2 : (a != b) = !(a == b) := rfl
    rw [e, e2]
    cases a == b with
    | false => rfl
    | true =>
      simp only [Bool.not_true, cond_false, Bool.true_and]
      exact wq14e k J K s0 s1 n hn s3 s4 s5 s6 s7 x hx s9 s10 s11 s12 s13 y hxy p q (i + 1) m h3 g3 (by simp at h; omega) (by omega)
theorem wq14f (k : Nat) {R : Type} (x y : List Nd) (hx : x.length ≤ 4000) (ho : ∀ z ∈ x, okD z) (hxy : x.length = y.length) (hk : 4000 < k) (K : Bool → Option R) : ∀ (p q : List Nd) (i m : Nat), x.drop i = p → y.drop i = q → p.length < m → i ≤ x.length →
    wq59 k m x y (i : Int) K = K (sameS p q)
  | p, q, i, 0, _, _, h, _ => by omega
  | [], q, i, m + 1, hp, hq, h, hi => by
    have h1 := wq1a hp
    have h2 : q = [] := by rw [← hq]; simp; omega
    subst h2
    rw [wq59, wqa0]
    simp (disch := omega) only [dec_t, dec_f, ieq_t, ieq_f, ine_t, ine_f, inb_t, bnd_t, wqb, wq5, cond_true, cond_false, Bool.not_true, Bool.not_false, Bool.true_or, Bool.or_true, Bool.false_or, Bool.or_false, Bool.true_and, Bool.and_true, Bool.false_and, Bool.and_false, wq1, wq0, wq2]
    rfl
  | a :: p, [], i, m + 1, hp, hq, h, hi => by
    obtain ⟨h1, _, _⟩ := wqg hp
    have := wq1a hq
    omega
  | a :: p, b :: q, i, m + 1, hp, hq, h, hi => by
    obtain ⟨h1, h2, h3⟩ := wqg hp
    obtain ⟨g1, g2, g3⟩ := wqg hq
    obtain ⟨_, o2, o3, _⟩ := ho a (List.mem_of_mem_drop (by rw [hp]; simp))
    have ih := wq14f k x y hx ho hxy hk K p q (i + 1) m h3 g3 (by simp at h; omega) (by omega)
    rw [wq59, wqa0]
    simp (disch := omega) only [dec_t, dec_f, ieq_t, ieq_f, ine_t, ine_f, inb_t, bnd_t, wqb, wq5, cond_true, cond_false, Bool.not_true, Bool.not_false, Bool.true_or, Bool.or_true, Bool.false_or, Bool.or_false, Bool.true_and, Bool.and_true, Bool.false_and, Bool.and_false, wq1, wq0, wq2, h2, g2, wq16, wq1ai]
    rw [sameS, sameN]
    have e1 : (a.1 != b.1) = !(a.1 == b.1) := rfl
    rw [e1]
    cases a.1 == b.1 with
    | false => rfl
    | true =>
      cases a.2.2.1 == b.2.2.1 with
      | false => rfl
      | true =>
        cases a.2.2.2.1 == b.2.2.2.1 with
        | false => rfl
        | true =>
          by_cases l1 : a.2.2.2.2.1.length = b.2.2.2.2.1.length
          · by_cases l2 : a.2.2.2.2.2.length = b.2.2.2.2.2.length
            · rw [ine_f (show (a.2.2.2.2.1.length : Int) = b.2.2.2.2.1.length by omega), ine_f (show (a.2.2.2.2.2.length : Int) = b.2.2.2.2.2.length by omega)]
              simp only [Bool.not_true, cond_false, Bool.true_and]
              refine Eq.trans (wq14d k _ K x y _ _ _ _ _ a.2.2.2.2.1 o2 _ _ _ _ _ b.2.2.2.2.1 l1 _ a.2.2.2.2.1 b.2.2.2.2.1 0 k rfl rfl (by omega) (by omega)) ?_
              cases a.2.2.2.2.1 == b.2.2.2.2.1 with
              | false => rfl
              | true =>
                rw [cond_true]
                refine Eq.trans (wq14e k _ K x y i (by omega) _ _ _ _ _ a.2.2.2.2.2 o3 _ _ _ _ _ b.2.2.2.2.2 l2 a.2.2.2.2.2 b.2.2.2.2.2 0 k rfl rfl (by omega) (by omega)) ?_
                cases a.2.2.2.2.2 == b.2.2.2.2.2 with
                | false => rfl
                | true => simpa using ih
            · rw [ine_f (show (a.2.2.2.2.1.length : Int) = b.2.2.2.2.1.length by omega), ine_t (show (a.2.2.2.2.2.length : Int) ≠ b.2.2.2.2.2.length by omega), len_ne l2, Bool.and_false]
              rfl
          · rw [ine_t (show (a.2.2.2.2.1.length : Int) ≠ b.2.2.2.2.1.length by omega), len_ne l1]
            rfl
theorem wq14g (k : Nat) {R : Type} (x y : List Nd) (hx : x.length ≤ 4000) (ho : ∀ z ∈ x, okD z) (hk : 4000 < k) (K : Bool → Option R) : wqcp k x y K = K (sameS x y) := by
  unfold wqcp wqpe
  by_cases h : x.length = y.length
  · rw [ine_f (by omega), cond_false]
    exact wq14f k x y hx ho h hk _ x y 0 k rfl rfl (by omega) (by omega)
  · rw [ine_t (by omega), cond_true, wq11s h]
def mn (n : Nat) : Nat := if 4001 < n then 4001 else n
theorem mn_eq (n : Nat) : (if (4001 : Int) < (n : Int) then 4001 else (n : Int)) = (mn n : Int) := by
  unfold mn
  split <;> split <;> omega
def hvK : Nat → List (List UInt8) → Nat
  | a, [] => a
  | a, q :: r => if a ≤ 4000 then hvK (a + mn q.length) r else a
def hvN : Nat → List Nd → Nat
  | a, [] => a
  | a, x :: r => if a ≤ 4000 then hvN (hvK (a + mn x.2.2.1.length + mn x.2.2.2.2.1.length + mn x.2.2.2.2.2.length) x.2.2.2.2.1) r else a
theorem mn_le (n : Nat) : mn n ≤ 4001 := by unfold mn; split <;> omega
theorem mn_ok {n : Nat} (h : mn n ≤ 4000) : n ≤ 4000 := by unfold mn at h; split at h <;> omega
theorem hvK_le : ∀ (r : List (List UInt8)) (a : Nat), a ≤ hvK a r ∧ hvK a r ≤ max a 8001
  | [], a => by rw [hvK]; omega
  | q :: r, a => by
    rw [hvK]
    have h0 := mn_le q.length
    split
    · have := hvK_le r (a + mn q.length)
      omega
    · omega
theorem hvK_ok : ∀ (r : List (List UInt8)) (a : Nat), hvK a r ≤ 4000 → ∀ q ∈ r, q.length ≤ 4000
  | [], a, _, q, hq => by cases hq
  | x :: r, a, h, q, hq => by
    have ha := (hvK_le (x :: r) a).1
    have ha : a ≤ 4000 := by omega
    rw [hvK, if_pos ha] at h
    have hb := (hvK_le r (a + mn x.length)).1
    rcases List.mem_cons.1 hq with rfl | hq
    · exact mn_ok (by omega)
    · exact hvK_ok r _ h q hq
theorem hvN_le : ∀ (r : List Nd) (a : Nat), a ≤ hvN a r
  | [], a => by rw [hvN]; omega
  | x :: r, a => by
    rw [hvN]
    split
    · have h1 := hvN_le r (hvK (a + mn x.2.2.1.length + mn x.2.2.2.2.1.length + mn x.2.2.2.2.2.length) x.2.2.2.2.1)
      have h2 := (hvK_le x.2.2.2.2.1 (a + mn x.2.2.1.length + mn x.2.2.2.2.1.length + mn x.2.2.2.2.2.length)).1
      omega
    · omega
theorem hvN_ok : ∀ (r : List Nd) (a : Nat), hvN a r ≤ 4000 → a ≤ 4000 ∧ ∀ x ∈ r, okD x
  | [], a, h => ⟨by rw [hvN] at h; exact h, fun x hx => by cases hx⟩
  | y :: r, a, h => by
    have ha := hvN_le (y :: r) a
    have ha : a ≤ 4000 := by omega
    rw [hvN, if_pos ha] at h
    obtain ⟨h1, h2⟩ := hvN_ok r _ h
    have h3 := (hvK_le y.2.2.2.2.1 (a + mn y.2.2.1.length + mn y.2.2.2.2.1.length + mn y.2.2.2.2.2.length)).1
    refine ⟨by omega, fun x hx => ?_⟩
    rcases List.mem_cons.1 hx with rfl | hx
    · exact ⟨mn_ok (by omega), mn_ok (by omega), mn_ok (by omega), hvK_ok _ _ h1⟩
    · exact h2 x hx
theorem wq14h (k : Nat) {R : Type} (J : List Nd → Int → Int → Option R) (K : Bool → Option R) (nd : List Nd) (i : Nat) (hi : i ≤ 140737488351232) (s3 s4 : Int) (s5 : List UInt8) (s6 : Bool) (keys : List (List UInt8)) (hk : keys.length ≤ 140737488351232) (s8 : List Int) :
    ∀ (p : List (List UInt8)) (j m a : Nat), keys.drop j = p → p.length < m → j ≤ keys.length → a ≤ 100000 → wq4f k J m nd (a : Int) (i : Int) s3 s4 s5 s6 keys s8 (j : Int) K = J nd (hvK a p : Int) ((i + 1 : Nat) : Int)
  | p, j, 0, a, _, h, _, _ => by omega
  | [], j, m + 1, a, hp, h, hj, ha => by
    have h1 := wq1a hp
    rw [wq4f, wq8u]
    simp (disch := omega) only [dec_t, dec_f, ieq_t, ieq_f, ine_t, ine_f, inb_t, bnd_t, wqb, wq5, cond_true, cond_false, Bool.not_true, Bool.not_false, Bool.true_or, Bool.or_true, Bool.false_or, Bool.or_false, Bool.true_and, Bool.and_true, Bool.false_and, Bool.and_false, wq1, wq0, wq2, wq16]
    rw [hvK]
  | q :: p, j, m + 1, a, hp, h, hj, ha => by
    obtain ⟨h1, h2, h3⟩ := wqg hp
    rw [wq4f, wq8u, hvK]
    by_cases hc : a ≤ 4000
    · have h0 := mn_le q.length
      rw [if_pos hc]
      simp (disch := omega) only [dec_t, dec_f, ieq_t, ieq_f, ine_t, ine_f, inb_t, bnd_t, wqb, wq5, cond_true, cond_false, Bool.not_true, Bool.not_false, Bool.true_or, Bool.or_true, Bool.false_or, Bool.or_false, Bool.true_and, Bool.and_true, Bool.false_and, Bool.and_false, wq1, wq0, wq2, h2, wq16, mn_eq, wqpl]
      exact wq14h k J K nd i hi s3 s4 s5 s6 keys hk s8 p (j + 1) m (a + mn q.length) h3 (by simp at h; omega) (by omega) (by omega)
    · rw [if_neg hc]
      simp (disch := omega) only [dec_t, dec_f, ieq_t, ieq_f, ine_t, ine_f, inb_t, bnd_t, wqb, wq5, cond_true, cond_false, Bool.not_true, Bool.not_false, Bool.true_or, Bool.or_true, Bool.false_or, Bool.or_false, Bool.true_and, Bool.and_true, Bool.false_and, Bool.and_false, wq1, wq0, wq2, wq16]
theorem wq14i (k : Nat) {R : Type} (K : Bool → Option R) (nd : List Nd) (hn : nd.length ≤ 140737488351232) (ho : ∀ x ∈ nd, x.2.2.2.2.1.length ≤ 140737488351232 ∧ x.2.2.2.2.1.length < k) :
    ∀ (p : List Nd) (i m a : Nat), nd.drop i = p → p.length < m → i ≤ nd.length → a ≤ 140737488351232 → wq4g k m nd (a : Int) (i : Int) K = K (decide (hvN a p > 4000))
  | p, i, 0, a, _, h, _, _ => by omega
  | [], i, m + 1, a, hp, h, hi, ha => by
    have h1 := wq1a hp
    rw [wq4g, wq8t, hvN]
    simp (disch := omega) only [dec_t, dec_f, ieq_t, ieq_f, ine_t, ine_f, inb_t, bnd_t, wqb, wq5, cond_true, cond_false, Bool.not_true, Bool.not_false, Bool.true_or, Bool.or_true, Bool.false_or, Bool.or_false, Bool.true_and, Bool.and_true, Bool.false_and, Bool.and_false, wq1, wq0, wq2]
    congr 1
    rw [Bool.eq_iff_iff]; simp; omega
  | x :: p, i, m + 1, a, hp, h, hi, ha => by
    obtain ⟨h1, h2, h3⟩ := wqg hp
    obtain ⟨o1, o2⟩ := ho x (List.mem_of_mem_drop (by rw [hp]; simp))
    rw [wq4g, wq8t, hvN]
    by_cases hc : a ≤ 4000
    · have m1 := mn_le x.2.2.1.length
      have m2 := mn_le x.2.2.2.2.1.length
      have m3 := mn_le x.2.2.2.2.2.length
      have m4 := hvK_le x.2.2.2.2.1 (a + mn x.2.2.1.length + mn x.2.2.2.2.1.length + mn x.2.2.2.2.2.length)
      rw [if_pos hc]
      simp (disch := omega) only [dec_t, dec_f, ieq_t, ieq_f, ine_t, ine_f, inb_t, bnd_t, wqb, wq5, cond_true, cond_false, Bool.not_true, Bool.not_false, Bool.true_or, Bool.or_true, Bool.false_or, Bool.or_false, Bool.true_and, Bool.and_true, Bool.false_and, Bool.and_false, wq1, wq0, wq2, h2, wq16, mn_eq, wqpl]
      refine Eq.trans (wq14h k _ K nd i (by omega) _ _ _ _ x.2.2.2.2.1 o1 _ x.2.2.2.2.1 0 k _ rfl o2 (by omega) (by omega)) ?_
      exact wq14i k K nd hn ho p (i + 1) m _ h3 (by simp at h; omega) (by omega) (by omega)
    · rw [if_neg hc]
      simp (disch := omega) only [dec_t, dec_f, ieq_t, ieq_f, ine_t, ine_f, inb_t, bnd_t, wqb, wq5, cond_true, cond_false, Bool.not_true, Bool.not_false, Bool.true_or, Bool.or_true, Bool.false_or, Bool.or_false, Bool.true_and, Bool.and_true, Bool.false_and, Bool.and_false, wq1, wq0, wq2]
theorem wq1fg (k : Nat) {R : Type} (K : Bool → Option R) (nd : List Nd) (hn : nd.length ≤ 140737488351232) (hk : nd.length < k) (ho : ∀ x ∈ nd, x.2.2.2.2.1.length ≤ 140737488351232 ∧ x.2.2.2.2.1.length < k) : wqdz k nd K = K (decide (hvN nd.length nd > 4000)) := by
  unfold wqdz wqln
  exact wq14i k K nd hn ho nd 0 k nd.length rfl hk (by omega) hn
def bigK : List Nd → Nat
  | [] => 0
  | x :: r => x.2.2.2.2.1.length + bigK r
theorem wq1c4 : ∀ {r : List Nd} {x : Nd}, x ∈ r → x.2.2.2.2.1.length ≤ bigK r
  | y :: r, x, h => by
    rw [bigK]
    rcases List.mem_cons.1 h with rfl | h
    · omega
    · have := wq1c4 h; omega
theorem nd_wf {nd : List Nd} (h : Wf (.sl kNd) nd) : nd.length ≤ 140737488351232 ∧ ∀ x ∈ nd, x.2.2.2.2.1.length ≤ 140737488351232 := by
  obtain ⟨h1, h2⟩ := h
  have e1 : kNd.lob = 81 := rfl
  have e2 : Kd.lob .str = 16 := rfl
  rw [e1] at h1
  refine ⟨by omega, fun x hx => ?_⟩
  obtain ⟨_, _, _, _, h3, _⟩ := h2 x hx
  have h4 := h3.1
  rw [e2] at h4
  have h5 : x.2.2.2.2.1.length * 16 ≤ 140737488351232 := h4
  omega
def dA : List Nd := [(3, 0, [], false, [[97]], [1]), (2, 0, [], false, [], [2, 3]), (1, 0, [98], false, [], []), (1, 0, [99], true, [], [])]
theorem wqm2 (k : Nat) {R : Type} (hk : 5100 < k) (K : Bool → Option R) : wq6p k K = K true := by
  have oA : ∀ x ∈ dA, okD x := by
    intro x hx
    simp only [dA, List.mem_cons, List.not_mem_nil, or_false] at hx
    rcases hx with rfl | rfl | rfl | rfl <;> exact ⟨by decide, by decide, by decide, by decide⟩
  have o0 : ∀ x ∈ ([] : List Nd), okD x := fun x hx => by cases hx
  have c1 : checkS dA = true := by decide +kernel
  have c2 : textS 24 dA 0 0 = [97, 58, 10, 32, 32, 45, 32, 98, 10, 32, 32, 45, 32, 34, 99, 34, 10] := by decide +kernel
  have c3 : checkS [] = false := rfl
  unfold wq6p wqtr
  have eA : ([(3, 0, [], false, [[97]], [1]), (2, 0, [], false, [], [2, 3]), (1, 0, [98], false, [], []), (1, 0, [99], true, [], [])] : List Nd) = dA := rfl
  rw [eA, wqpo k dA (by decide) oA hk, outT, c1, c2, cond_true]
  have c4 : decide (([97, 58, 10, 32, 32, 45, 32, 98, 10, 32, 32, 45, 32, 34, 99, 34, 10] : List UInt8).length > 60000) = false := by decide
  rw [c4, cond_false, wqpo k [] (by decide) o0 hk, outT, c3, cond_false, wqu1 k dA (by decide) oA hk, c1, wq4e, wqxl k dA dA (by decide) oA (by omega), wqxl k dA [] (by decide) oA (by omega)]
  rfl
theorem er_ok {x y : List Nd} (h : x.map erN = y.map erN) (hy : ∀ z ∈ y, okD z) : ∀ z ∈ x, okD z := by
  intro z hz
  have h1 : erN z ∈ y.map erN := by rw [← h]; exact List.mem_map_of_mem hz
  obtain ⟨v, hv, he⟩ := List.mem_map.1 h1
  have := hy v hv
  obtain ⟨a1, a2, a3⟩ := z
  obtain ⟨b1, b2, b3⟩ := v
  simp only [erN, Prod.mk.injEq] at he
  obtain ⟨rfl, _, rfl⟩ := he
  exact this
theorem wq1cz (k : Nat) {R : Type} (nd : List Nd) (hn : nd.length ≤ 4000) (ho : ∀ z ∈ nd, okD z) (hc : checkS nd = true) (hl : (textS 24 nd 0 0).length ≤ 16384) (hk : 200000 < k) (A : Bool → Option R) (B : Option R) :
    (wqfy k (wqn (textS 24 nd 0 0)) fun y7 y8 y9 => bif (y8 == 0 && y9 == 0) == true then wqcp k y7 nd A else B) = A true := by
  obtain ⟨x, hx, he⟩ := wq1cx k nd hc (by omega)
  have hlen : x.length = nd.length := by have := congrArg List.length he; simpa using this
  rw [wq16c k _ hl hk, hx]
  simp only [outD]
  have e : (((0 : Int) == 0 && (0 : Int) == 0) == true) = true := rfl
  rw [e, cond_true, wq14g k x nd (by omega) (er_ok he ho) (by omega), wq1dx he]
theorem wq16n (x : List Nd) (hx : x.length ≤ 140737488351232 ∧ ∀ z ∈ x, z.2.2.2.2.1.length ≤ 140737488351232) : ∃ k, wq8g k x (fun b => some b) = some true := by
  obtain ⟨k, hk⟩ : ∃ k : Nat, k = 300000 + (x.length + bigK x) := ⟨_, rfl⟩
  refine ⟨k, ?_⟩
  unfold wq8g wqlz
  rw [wq1fg k _ x hx.1 (by omega) fun z hz => ⟨hx.2 z hz, by have := wq1c4 hz; omega⟩]
  by_cases h1 : hvN x.length x > 4000
  · rw [dec_t h1]
    exact wqm2 k (by omega) _
  rw [dec_f h1, cond_false]
  obtain ⟨n1, o1⟩ := hvN_ok x x.length (by omega)
  rw [wqpo k x n1 o1 (by omega)]
  unfold outT
  have e0 : ((0 : Int) != 0) = false := rfl
  have e1 : ((1 : Int) != 0) = true := rfl
  have e4 : ((4 : Int) != 0) = true := rfl
  have f1 : (((1 : Int) == 0) == false) = true := rfl
  have f4 : (((4 : Int) == 0) == false) = true := rfl
  have g4 : ((4 : Int) == 4) = true := rfl
  have f0 : (((0 : Int) == 0) == false) = false := rfl
  cases hc : checkS x with
  | false =>
    simp only [cond_false, cond_true, e1, f1]
    rw [wqrn k x n1 o1 (by omega), hc]
    exact wqm2 k (by omega) _
  | true =>
    simp only [cond_true]
    cases hb : decide ((textS 24 x 0 0).length > 60000) with
    | true =>
      simp only [cond_true, e4, f4]
      rw [wqrn k x n1 o1 (by omega), hc]
      exact wqm2 k (by omega) _
    | false =>
      simp only [cond_false, e0, f0, wq1k]
      by_cases hl : (textS 24 x 0 0).length > 16384
      · rw [dec_t (show ((textS 24 x 0 0).length : Int) > 16384 by omega), cond_true]
        exact wqm2 k (by omega) _
      · rw [dec_f (show ¬ ((textS 24 x 0 0).length : Int) > 16384 by omega), cond_false, wq1cz k x n1 o1 hc (by omega) (by omega)]
        exact wqm2 k (by omega) _
theorem wq14j (x : (Kd.sl (.pr (.int .i64) (.pr (.int .i64) (.pr .str (.pr .bool (.pr (.sl .str) (.sl (.int .i64)))))))).T) (hx : Wf (.sl (.pr (.int .i64) (.pr (.int .i64) (.pr .str (.pr .bool (.pr (.sl .str) (.sl (.int .i64)))))))) x) : ∃ k, wq8g k x (fun b => some b) = some true := wq16n x (nd_wf hx)
end Go.Proofs.YtdfhgimidmfgfaaGreatDoor.Pvm
namespace Go.Proofs.YtdfhgimidmfgfaaGreatDoor.showRead
open Go Go.Proofs Go.ChangeShapes Go.WideShapes Go.ChangeAt Go.RowKit Go.Proofs.YtdfhgimidmfgfaaGreatDoor.Pvm
theorem own : ownKnob Tryz.prog.godebug = none := by kernel_rfl
theorem laidOut : laidOutB Tryz.prog = true := by kernel_rfl
set_option maxRecDepth 100000 in
theorem lifted (os : Os) (started : os.Started) (H : Type) (enc : TypeId × Value → H) :
    ReturnsInHanded {} Tryz.checked os 4 .any (fun w args => (Rows.showReadSpec.pre enc Tryz.prog Tryz.f4 Rows.showReadRow.domain false w args ∧ laidMetH Tryz.prog Rows.showReadRow.laid w) ∧ sizedMet enc Tryz.prog Tryz.f4 (OpenSpec.ofChange Rows.showReadSpec) false w args) (Rows.showReadSpec.post enc Tryz.prog Tryz.f4 false true false false) := by
  refine returnsInHanded_of_change_and (C := Tryz.checked) (X := fun w _ => laidMetH Tryz.prog Rows.showReadRow.laid w) (fun _ _ _ hh h => h.of_heap hh) own started (by kernel_rfl) Tryz.func4
    (ChangeSpec.witness_shaped (enc := enc) (C := Tryz.checked) (os := os) (X := fun w _ => laidMetH Tryz.prog Rows.showReadRow.laid w) false (World.laidAll Tryz.prog os Rows.showReadRow.laid) #[.agg #[.slice none 0 0]] 8 (World.laidAll_os _ _ _)
      (World.shaped_of_ZipB (by kernel_rfl) (by kernel_rfl)) (by kernel_rfl) (by kernel_rfl) (by kernel_rfl)
      (by rw [MakeChecks.laidMetH_plain _ _ _ (by kernel_rfl)]; exact laidMet_laidAll _ (by kernel_rfl) (by kernel_rfl))) ?_
  intro W base args ds gs before hval0 hW hcnd hsz0 hL _
  have hsz : (DataW.weightsEach Tryz.prog (Tryz.f4.params.toList ++ Rows.showReadSpec.plain.varTypes Tryz.prog) (ds ++ gs)).all (· ≤ reachBytes) = true := hsz0
  have hval : ∀ (j : Nat) t v, Tryz.f4.params[j]? = some t → args[j]? = some v → Value.okWide Tryz.prog W .any base t v := hval0
  have hW' := hW
  obtain ⟨p, q, hA0, hV, rfl, hfz, hnd⟩ := hW
  have hA : DataW.TrodAll enc Tryz.prog W 0 (fun _ => true) true Tryz.f4.params.toList args.toList ds p := hA0
  rw [Tryz.params4] at hA hval hsz
  obtain ⟨v0, vs0, d0, ds0, p0, q0, hargs, rfl, rfl, h0, r0⟩ := trodAll_cons hA
  obtain ⟨rfl, rfl, rfl⟩ := trodAll_nil r0
  obtain rfl : args = #[v0] := by cases args; simp_all
  obtain ⟨rfl, rfl⟩ := trodVars_none hV
  have hws := wq1an (P := Tryz.prog) hsz
  have k0 := h0
  have lt0 : ∀ x ∈ p0, x.block < W.heap.size := by obtain ⟨m, hm⟩ := k0; exact DataW.trod_lt m _ _ _ hm
  obtain ⟨x0, wf0, rv0⟩ := wq1am tyT_ok (n := 9) (K := (.sl (.pr (.int .i64) (.pr (.int .i64) (.pr .str (.pr .bool (.pr (.sl .str) (.sl (.int .i64))))))))) (by kernel_rfl) (by kernel_rfl) (hval 0 26 v0 rfl rfl) h0 (hws 0 26 d0 rfl rfl) (h := mkH []) (G := G0) (fun _ => rfl) (fun _ h => h)
  obtain ⟨k, hk⟩ := wq14j x0 wf0
  have hrun : wq92 k [.agg (Kd.cells (.sl (.pr (.int .i64) (.pr (.int .i64) (.pr .str (.pr .bool (.pr (.sl .str) (.sl (.int .i64)))))))) x0)] [] lawK = some true := hk
  refine (wq17f (fn := Tryz.f4) (c := Tryz.f4.body.getD .skip) (by kernel_rfl) (by kernel_rfl) (by kernel_rfl) (wqx6 k _ _ _ _ _ hrun) (vals := [v0]) ⟨v0, _, rfl, rv0, rfl⟩).mono fun e W' ⟨he, bel⟩ => ?_
  subst he
  exact ⟨_, rfl, _, _, _, [], _, [], hW', trodAll_mk1 (shut_bool Tryz.underlying4 _), (trodAll_cons_mk (Below.trod laidOut (by kernel_rfl) (of_decide_eq_true (by kernel_rfl)) k0 bel lt0) trodAll_mk0), rfl, bel.frame _, fun h => by cases h⟩
theorem over : Rows.showReadRow.holds Tryz.pinned (OpenSpec.ofChange Rows.showReadSpec) :=
  OpenClaim.holds_of_wide 4 Tryz.f4 rfl rfl rfl rfl rfl rfl rfl ⟨rfl, rfl, rfl, rfl, rfl⟩ rfl rfl rfl rfl rfl (by kernel_rfl) Tryz.func4 (by kernel_rfl)
    (of_decide_eq_true (by kernel_rfl)) (by unfold Func.isWrapper; first | (rw [if_pos (by decide +kernel)]; kernel_rfl) | (rw [if_neg (by decide +kernel)]; exact ⟨rfl, rfl⟩))
    (fun os started H enc _ => lifted os started H enc)
theorem tied : Rows.ShowReadCardSaid :=
  Claim7.holds_tied_plain_at .later [] [.data, .pinned] true (true, "8ff0b22b0140463e1ef15f244f75513c33ffd89a2d0735e6014609e75edaf140") true over (fun _ h => by cases h) (by kernel_rfl) (fun _ h => by cases h) showRead_row_tie rfl ⟨rfl, rfl⟩ (by kernel_rfl) rfl
    (fun f fn hf hfn => by
      obtain rfl : f = 4 := Option.some.inj ((show Tryz.prog.funcNamed Rows.showReadRow.func = some 4 by kernel_rfl).symm.trans hf) |>.symm
      obtain rfl : fn = Tryz.f4 := (Option.some.inj (Tryz.func4.symm.trans hfn)).symm
      exact ⟨by kernel_rfl, fun j t ht => by
        rw [Tryz.params4] at ht
        have hm : t ∈ [26] := by simpa using Array.mem_of_getElem? ht
        have hall : ([26].all fun u => !Tryz.prog.wantsStandIn u) = true := by kernel_rfl
        exact (show Tryz.prog.wantsStandIn t = false by simpa using List.all_eq_true.1 hall t hm)⟩)
    (by kernel_rfl)
#print axioms tied
end Go.Proofs.YtdfhgimidmfgfaaGreatDoor.showRead
namespace Go.Proofs.YtdfhgimidmfgfaaGreatDoor
theorem showRead_holds : Rows.ShowReadCardSaid := showRead.tied
end Go.Proofs.YtdfhgimidmfgfaaGreatDoor
end
