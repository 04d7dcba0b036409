/- The Go function ShowParsed answers true for every input: what a text is parsed as has a text, which is parsed as the same; no further condition. -/
import Derived.Lib.TrimU
import Derived.Test.YtdfhgimidmfgfaaGreatDoorCards
import Derived.Test.YtdfhgimidmfgfaaGreatDoorTie
import Derived.LaidMore
import Derived.Lay
import Derived.SevenTiedAt
import Derived.Stop.Joined
import Derived.Test.YtdfhgimidmfgfaaGreatDoorRows
import Derived.Test.YtdfhgimidmfgfaaGreatDoorShowParsedM0
import Derived.Test.YtdfhgimidmfgfaaGreatDoorShowParsedM1
import Derived.Test.YtdfhgimidmfgfaaGreatDoorShowParsedM2
import Derived.Test.YtdfhgimidmfgfaaGreatDoorShowParsedM3
import Derived.Test.YtdfhgimidmfgfaaGreatDoorShowParsedM4
set_option linter.unusedVariables false
set_option linter.unusedSimpArgs false
set_option linter.unusedSectionVars false
noncomputable section
namespace Go.Proofs.YtdfhgimidmfgfaaGreatDoor.Pvm
open Go
def er (x : Pc) : Pc := (x.1, 0, x.2.2)
def erS (r : Res) : Res := (r.1.map er, r.2.1, 0)
def erR (r : Row) : Row := (0, r.2)
def erN (x : Nd) : Nd := (x.1, 0, x.2.2)
theorem wq1di (no c : Int) (out : List Pc) (x : Option (List UInt8 × List UInt8)) : finQ 0 c (out.map er) x = erS (finQ no c out x) := by
  unfold finQ
  split
  · rfl
  · next a r =>
    cases !(r == []) <;> simp only [cond_true, cond_false]
    · cases decide (200 < a.length) <;> simp only [cond_true, cond_false]
      · simp [erS, er]
      · rfl
    · rfl
theorem wq1dj (no ind : Int) (n : Nat) (s : List UInt8) (out : List Pc) : txtS 0 ind n s (out.map er) = erS (txtS no ind n s out) := by
  unfold txtS
  split
  · rfl
  · next c t =>
    rw [wq1di no, wq1di no]
    cases c == 39 <;> simp only [cond_true, cond_false]
    · cases c == 34 <;> simp only [cond_true, cond_false]
      · cases (oddB c || (dsh (c :: t) || decide (0 < kS (c :: t)))) <;> simp only [cond_true, cond_false]
        · cases decide (200 < (c :: t).length) <;> simp only [cond_true, cond_false]
          · simp [erS, er]
          · rfl
        · rfl
theorem wq1h5 (no ind : Int) (n : Nat) (s : List UInt8) (out : List Pc) : endS 0 ind n s (out.map er) = erS (endS no ind n s out) := by
  unfold endS
  cases decide (0 < kS s) <;> simp only [cond_true, cond_false]
  · exact wq1dj no ind n s out
  · cases decide (64 < kS s) <;> simp only [cond_true, cond_false]
    · have : out.map er ++ [((2 : Int), ((0 : Int), (ind + (n : Int), (s.take (kS s), false))))] = (out ++ [((2 : Int), (no, (ind + (n : Int), (s.take (kS s), false))))]).map er := by simp [er]
      rw [this]
      exact wq1dj no ind _ _ _
    · rfl
theorem wq1dk (no ind : Int) : ∀ (f n : Nat) (s : List UInt8) (out : List Pc), rowS 0 ind f n s (out.map er) = erS (rowS no ind f n s out)
  | 0, n, s, out => rfl
  | f + 1, n, s, out => by
    rw [rowS, rowS]
    cases dsh s <;> simp only [cond_true, cond_false]
    · exact wq1h5 no ind n s out
    · have : out.map er ++ [((1 : Int), ((0 : Int), (ind + (n : Int), (([] : List UInt8), false))))] = (out ++ [((1 : Int), (no, (ind + (n : Int), (([] : List UInt8), false))))]).map er := by simp [er]
      rw [this]
      exact wq1dk no ind f _ _ _
theorem wq1h6 (no ind : Int) (s : List UInt8) : rowR 0 ind s = erS (rowR no ind s) := by
  unfold rowR
  cases (decide (ind < 0) || decide (16384 < ind)) <;> simp only [cond_true, cond_false]
  · exact wq1dk no ind _ _ _ []
  · rfl
theorem wq1dl : ∀ (ls : List Ln) (out : List Pc), allS (ls.map erR) (out.map er) = erS (allS ls out)
  | [], out => rfl
  | l :: r, out => by
    rw [List.map_cons, allS, allS]
    have e : rowR (erR l).1 (erR l).2.1 (erR l).2.2 = erS (rowR l.1 l.2.1 l.2.2) := wq1h6 l.1 l.2.1 l.2.2
    rw [e]
    have e1 : (erS (rowR l.1 l.2.1 l.2.2)).2.1 = (rowR l.1 l.2.1 l.2.2).2.1 := rfl
    have e2 : out.map er ++ (erS (rowR l.1 l.2.1 l.2.2)).1 = (out ++ (rowR l.1 l.2.1 l.2.2).1).map er := by simp [erS]
    rw [e1, e2, wq1dl r]
    cases (rowR l.1 l.2.1 l.2.2).2.1 != 0 <;> rfl
theorem wq1fg (l : List Pce) (kd col : Int) : nextS (l.map er) kd col = nextS l kd col := by cases l <;> rfl
theorem wq1fh (l : List Pce) (col : Int) : deepS (l.map er) col = deepS l col := by cases l <;> rfl
def erD : RsD → RsD
  | .inl e => .inl (e.1, 0)
  | .inr p => .inr (p.1.map er, p.2.map erN)
theorem wq1h7 : ∀ f : Nat,
    (∀ l nd dp, blkS f (l.map er) (nd.map erN) dp = erD (blkS f l nd dp)) ∧
    (∀ kd ln col n dp l nd keys kids, kidsS f kd 0 col n dp (l.map er) (nd.map erN) keys kids = erD (kidsS f kd ln col n dp l nd keys kids)) := by
  intro f
  induction f with
  | zero => exact ⟨fun l nd dp => by rw [blkS, blkS]; rfl, fun kd ln col n dp l nd keys kids => by rw [kidsS, kidsS]; rfl⟩
  | succ f ih =>
    obtain ⟨ihb, ihk⟩ := ih
    constructor
    · intro l nd dp
      cases l with
      | nil => rw [List.map_nil, blkS, blkS]; rfl
      | cons x r =>
        rw [List.map_cons, blkS, blkS, List.length_map]
        have e1 : (er x).1 = x.1 := rfl
        have e2 : (er x).2.1 = 0 := rfl
        have e3 : (er x).2.2 = x.2.2 := rfl
        rw [e1, e2, e3]
        cases (decide (x.1 < 1) || decide (x.1 > 3)) <;> simp only [cond_true, cond_false]
        · cases decide (24 < dp) <;> simp only [cond_true, cond_false]
          · cases decide (2000 ≤ nd.length) <;> simp only [cond_true, cond_false]
            · cases x.1 == 3 <;> simp only [cond_true, cond_false]
              · have := ihk x.1 x.2.1 x.2.2.1 nd.length dp (x :: r) (nd ++ [(0, x.2.1, [], false, [], [])]) [] []
                rw [List.map_cons, List.map_append] at this
                exact this
              · simp [erD, erN]
            · rfl
          · rfl
        · rfl
    · intro kd ln col n dp l nd keys kids
      rw [wq7v, wq7v, wq1fg]
      cases h1 : nextS l kd col with
      | false =>
        simp only [cond_false, erD, List.map_set]
        rfl
      | true =>
        obtain ⟨x, r, rfl, hx1, hx2⟩ := wqh7 h1
        simp only [cond_true]
        rw [List.map_cons]
        dsimp only
        have e2 : (er x).2.1 = 0 := rfl
        have e3 : (er x).2.2 = x.2.2 := rfl
        rw [e2, e3, wq1fh, ihb]
        cases (kd == 2 && anyK x.2.2.2.1 keys) <;> simp only [cond_true, cond_false]
        · cases deepS r x.2.2.1 <;> simp only [cond_true, cond_false]
          · rfl
          · cases blkS f r nd (dp + 1) with
            | inl e => rfl
            | inr p =>
              simp only [erD, List.length_map]
              exact ihk _ _ _ _ _ _ _ _ _
        · rfl
theorem ofS_er {l : List Pce} {nd0 : List Nd} (h : ofS (l.map er) = .inr nd0) : ∃ nd, ofS l = .inr nd ∧ nd.map erN = nd0 := by
  cases l with
  | nil => cases h
  | cons x r =>
    have e := (wq1h7 (2 * (r.length + 1) + 2)).1 (x :: r) [] 1
    rw [List.map_cons, ofS, List.length_map] at h
    rw [List.map_cons, List.map_nil] at e
    rw [e] at h
    rw [ofS]
    cases hb : blkS (2 * (r.length + 1) + 2) (x :: r) [] 1 with
    | inl e => rw [hb] at h; cases h
    | inr p =>
      obtain ⟨l', nd'⟩ := p
      rw [hb] at h
      cases l' with
      | nil => cases h; exact ⟨nd', rfl, rfl⟩
      | cons y l' => cases h
abbrev Raw := Nat × List UInt8
def full (r : Raw) : List UInt8 := blS r.1 ++ r.2
def catL : List (List UInt8) → List UInt8
  | [] => []
  | l :: ls => l ++ 10 :: catL ls
theorem wq11c : ∀ a b : List (List UInt8), catL (a ++ b) = catL a ++ catL b
  | [], b => rfl
  | l :: a, b => by rw [List.cons_append, catL, catL, wq11c a b]; simp
theorem wq17d : ∀ (l z : List UInt8), (10 : UInt8) ∉ l → spl (l ++ 10 :: z) = l :: spl z
  | [], z, _ => by simp [spl]
  | x :: l, z, h => by
    have hx : (x == 10) = false := by
      have : x ≠ 10 := fun e => h (by rw [e]; exact List.mem_cons_self)
      simpa using this
    rw [List.cons_append, spl, hx, cond_false, wq17d l z fun hm => h (List.mem_cons_of_mem _ hm)]
theorem wq1be : ∀ ls : List (List UInt8), (∀ l ∈ ls, (10 : UInt8) ∉ l) → spl (catL ls) = ls ++ [[]]
  | [], _ => rfl
  | l :: ls, h => by
    rw [catL, wq17d l _ (h l (by simp)), wq1be ls fun x hx => h x (by simp [hx])]; rfl
structure GL (c : List UInt8) : Prop where
  ctl : noCtl c = true
  ne : c ≠ []
  lt : lt32 c = c
  rt : rt c = c
  st : stS c (c.length + 1) 0 = some c.length
theorem wq1dm (c : UInt8) : bad c = ctl c := by
  have := all_u8 (fun c => bad c == ctl c) (by kernel_rfl) c
  simpa using this
theorem wq1cq {c : List UInt8} (h : noCtl c = true) : c.any bad = false := by
  rw [List.any_eq_false]
  intro x hx
  have := List.all_eq_true.1 h x hx
  rw [wq1dm]
  simpa using this
theorem wq1fi {c : List UInt8} (h : noCtl c = true) : (10 : UInt8) ∉ c := fun hm => by
  have := List.all_eq_true.1 h 10 hm
  cases this
theorem wqfv (a b : List UInt8) : noCtl (a ++ b) = (noCtl a && noCtl b) := List.all_append
theorem wq1bf (n : Nat) : noCtl (blS n) = true := by
  rw [noCtl, List.all_eq_true]
  intro x hx
  rw [List.eq_of_mem_replicate hx]; rfl
theorem wq1fj (d : Nat) (p : List UInt8) : lt32 (blS d ++ p) = lt32 p := by
  unfold lt32 blS
  rw [List.dropWhile_append_of_pos (by intro x hx; rw [List.eq_of_mem_replicate hx]; rfl)]
def rawR (no : Nat) : List Raw → List Row
  | [] => []
  | r :: rs => ((no : Int), ((r.1 : Int), r.2)) :: rawR (no + 1) rs
def rawE (r : Raw) : Row := (0, ((r.1 : Int), r.2))
theorem wq1dn : ∀ (rs : List Raw) (no : Nat), (rawR no rs).map erR = rs.map rawE
  | [], no => rfl
  | r :: rs, no => by rw [rawR, List.map_cons, List.map_cons, wq1dn rs]; rfl
theorem wq13z (k : Nat) (hk : 0 < k) : ∀ (rs : List Raw) (no : Nat) (acc : List Row), (∀ r ∈ rs, GL r.2 ∧ r.2.length < k) → linesS k (rs.map full ++ [[]]) no acc = (acc ++ rawR no rs, 0, 0)
  | [], no, acc, h => by
    have h1 : ([] : List UInt8).any bad = false := rfl
    have h2 : lt32 [] = [] := rfl
    have h3 : stS [] k 0 = some 0 := by
      cases k with
      | zero => omega
      | succ k => rfl
    rw [List.map_nil, List.nil_append, linesS, h1, h2, h3, cond_false]
    simp only [linesS, rawR, List.append_nil]
    have : rowL k no [] 0 = [] := rfl
    rw [this, List.append_nil]
  | r :: rs, no, acc, h => by
    obtain ⟨g, hl⟩ := h r (by simp)
    have h1 : (full r).any bad = false := wq1cq (by unfold full; rw [wqfv, wq1bf, g.ctl]; rfl)
    have h2 : lt32 (full r) = r.2 := by unfold full; rw [wq1fj, g.lt]
    have h3 : stS r.2 k 0 = some r.2.length := by rw [wqx8 r.2 k (r.2.length + 1) 0 (by omega) (by omega) (by omega), g.st]
    rw [List.map_cons, List.cons_append, linesS, h1, h2, h3, cond_false]
    dsimp only
    have h4 : rowL k no (full r) r.2.length = [((no : Int), ((r.1 : Int), r.2))] := by
      unfold rowL
      have h5 : (r.2 == []) = false := by have := g.ne; simpa using this
      rw [h2, List.take_length, g.rt, h5, cond_false]
      have : ((full r).length : Int) - (r.2.length : Int) = (r.1 : Int) := by unfold full blS; simp
      rw [this]
    rw [h4, wq13z k hk rs (no + 1) _ fun x hx => h x (by simp [hx]), rawR]
    simp
theorem wq1bg (c : UInt8) (m : Nat) : ∀ (r : List UInt8) (i : Nat), qS c r (i + m) = (qS c r i).map (· + m)
  | [], i => rfl
  | [x], i => by
    unfold qS
    cases (c == 34 && x == 92) <;> simp only [cond_true, cond_false]
    · cases !(x == c) <;> rfl
    · rfl
  | x :: y :: r, i => by
    rw [qS, qS]
    have e1 : i + m + 2 = i + 2 + m := by omega
    have e2 : i + m + 1 = i + 1 + m := by omega
    rw [e1, e2, wq1bg c m r (i + 2), wq1bg c m (y :: r) (i + 1)]
    cases (c == 34 && x == 92) <;> simp only [cond_true, cond_false]
    · cases !(x == c) <;> simp only [cond_true, cond_false]
      · cases (c == 39 && y == c) <;> rfl
theorem wq1bh {p c : List UInt8} {p' : List UInt8} (hp : p = p' ++ [32]) (i : Nat) : fresh (p ++ c) (p.length + i) = fresh c i := by
  subst hp
  unfold fresh
  have e0 : ((p' ++ [32]).length + i == 0) = false := by simp
  rw [e0, Bool.false_or]
  cases i with
  | zero =>
    have : (p' ++ [32] ++ c).getD ((p' ++ [32]).length + 0 - 1) 0 = 32 := by
      simp [List.getD]
    rw [this]; rfl
  | succ i =>
    have : (p' ++ [32] ++ c).getD ((p' ++ [32]).length + (i + 1) - 1) 0 = c.getD i 0 := by
      rw [List.getD, List.getD, List.getElem?_append_right (by omega)]
      congr 2
      omega
    rw [this]
    have e : (i + 1 == 0) = false := rfl
    rw [e, Bool.false_or]; rfl
theorem wq17e (p c : List UInt8) (i : Nat) : (p ++ c).getD (p.length + i) 0 = c.getD i 0 := by
  rw [List.getD, List.getD, List.getElem?_append_right (by omega)]
  congr 2
  omega
theorem wq1fk (p c : List UInt8) (i : Nat) : qAt (p ++ c) (p.length + i) = (qAt c i).map (· + p.length) := by
  unfold qAt
  rw [wq17e]
  have : (p ++ c).drop (p.length + i + 1) = c.drop (i + 1) := by
    rw [List.drop_append, List.drop_eq_nil_of_le (by omega), List.nil_append]
    congr 1
    omega
  rw [this, show p.length + i + 1 = i + 1 + p.length by omega, wq1bg]
theorem wq11d {p c p' : List UInt8} (hp : p = p' ++ [32]) : ∀ (f i : Nat), stS (p ++ c) f (p.length + i) = (stS c f i).map (· + p.length)
  | 0, i => by rw [stS, stS]; simp; omega
  | f + 1, i => by
    rw [stS, stS, wq1bh hp, wq17e, wq1fk]
    have e1 : Nat.ble (p ++ c).length (p.length + i) = Nat.ble c.length i := by
      rw [Bool.eq_iff_iff, Nat.ble_eq, Nat.ble_eq]; simp
    have e2 : p.length + i + 1 = p.length + (i + 1) := by omega
    rw [e1, e2, wq11d hp f (i + 1)]
    cases Nat.ble c.length i <;> simp only [cond_true, cond_false]
    · cases !fresh c i <;> simp only [cond_true, cond_false]
      · cases c.getD i 0 == 35 <;> simp only [cond_true, cond_false]
        · cases (c.getD i 0 == 39 || c.getD i 0 == 34) <;> simp only [cond_true, cond_false]
          · cases qAt c i with
            | none => rfl
            | some j =>
              simp only [Option.map_some]
              rw [show j + p.length + 1 = p.length + (j + 1) by omega, wq11d hp f (j + 1)]
        · simp; omega
    · simp; omega
def mild (c : UInt8) : Bool := !(c == 35) && (!(c == 39) && !(c == 34))
theorem wq11e (s : List UInt8) : ∀ (m f i : Nat), (∀ j, i ≤ j → j < i + m → mild (s.getD j 0) = true) → i + m ≤ s.length → stS s (f + m) i = stS s f (i + m)
  | 0, f, i, _, _ => rfl
  | m + 1, f, i, h, hl => by
    have hi := h i (by omega) (by omega)
    simp only [mild, Bool.and_eq_true, Bool.not_eq_true'] at hi
    obtain ⟨h1, h2, h3⟩ := hi
    have hr := wq11e s m f (i + 1) (fun j h1 h2 => h j (by omega) (by omega)) (by omega)
    rw [show f + (m + 1) = (f + m) + 1 by omega, stS, ble_f (by omega), h1, h2, h3, hr]
    rw [show i + 1 + m = i + (m + 1) by omega]
    cases !fresh s i <;> rfl
theorem wq1do (l : List UInt8) (x : UInt8) (h : (x == 32) = false) : rt (l ++ [x]) = l ++ [x] := by rw [rt_cat, h]; rfl
theorem wq1h8 (p : List UInt8) {c : List UInt8} (hc : c ≠ []) (h : rt c = c) : rt (p ++ c) = p ++ c := by
  obtain ⟨l, x, rfl⟩ : ∃ l x, c = l ++ [x] := ⟨c.dropLast, c.getLast hc, (List.dropLast_concat_getLast hc).symm⟩
  rw [rt_cat] at h
  rw [← List.append_assoc, rt_cat]
  cases hx : x == 32 with
  | false => rfl
  | true =>
    rw [hx, cond_true] at h
    have := rt_len l
    rw [h] at this
    simp at this
    omega
theorem wqrl {c : UInt8} {r : List UInt8} (h : (c == 32) = false) : lt32 (c :: r) = c :: r := by unfold lt32; rw [List.dropWhile_cons, h]; rfl
theorem wq17f {p p' c : List UInt8} (hp : p = p' ++ [32]) (hm : p.all mild = true) (hn : noCtl p = true) (hh : ∃ x r, p = x :: r ∧ (x == 32) = false) (g : GL c) : GL (p ++ c) := by
  obtain ⟨x, r, hx, hx2⟩ := hh
  refine ⟨by rw [wqfv, hn, g.ctl]; rfl, by rw [hx]; simp, by rw [hx, List.cons_append]; exact wqrl hx2, wq1h8 p g.ne g.rt, ?_⟩
  have hg : ∀ j, j < p.length → mild ((p ++ c).getD j 0) = true := by
    intro j hj
    rw [List.getD, List.getElem?_append_left hj, List.getElem?_eq_getElem hj]
    exact List.all_eq_true.1 hm _ (List.getElem_mem _)
  have e := wq11e (p ++ c) p.length (c.length + 1) 0 (fun j _ hj => hg j (by omega)) (by simp)
  rw [List.length_append, show p.length + c.length + 1 = c.length + 1 + p.length by omega, e, Nat.zero_add]
  have e2 : stS (p ++ c) (c.length + 1) p.length = _ := wq11d (c := c) hp (c.length + 1) 0
  rw [e2, g.st]
  simp; omega
theorem wq1h9 {c : List UInt8} (g : GL c) : GL (45 :: 32 :: c) := wq17f (p := [45, 32]) (p' := [45]) rfl (by decide) (by decide) ⟨45, [32], rfl, rfl⟩ g
theorem wq1fl (c : UInt8) : (!sgn c || (mild c && (!ctl c && !(c == 32)))) = true := all_u8 (fun c => !sgn c || (mild c && (!ctl c && !(c == 32)))) (by kernel_rfl) c
theorem wqhz {t : List UInt8} (h : keyB t = true) : t ≠ [] ∧ t.all mild = true ∧ noCtl t = true ∧ (∀ x ∈ t, sgn x = true) ∧ (∀ x ∈ t, (x == 32) = false) ∧ t.length ≤ 64 := by
  simp only [keyB, Bool.and_eq_true, decide_eq_true_eq, Bool.not_eq_true', beq_eq_false_iff_ne] at h
  obtain ⟨⟨h1, h2⟩, h3⟩ := h
  have hs : ∀ x ∈ t, sgn x = true := List.all_eq_true.1 h1
  have hx : ∀ x ∈ t, mild x = true ∧ ctl x = false ∧ (x == 32) = false := by
    intro x hx
    have := wq1fl x
    rw [hs x hx] at this
    simp only [Bool.not_true, Bool.false_or, Bool.and_eq_true, Bool.not_eq_true'] at this
    exact this
  exact ⟨h2, List.all_eq_true.2 fun x h => (hx x h).1, List.all_eq_true.2 fun x h => by rw [(hx x h).2.1]; rfl, hs, fun x h => (hx x h).2.2, h3⟩
theorem wq1fm {t c : List UInt8} (h : keyB t = true) (g : GL c) : GL (t ++ 58 :: 32 :: c) := by
  obtain ⟨h1, h2, h3, _, h4, _⟩ := wqhz h
  have e : t ++ 58 :: 32 :: c = (t ++ [58, 32]) ++ c := by simp
  rw [e]
  refine wq17f (p' := t ++ [58]) (by simp) (by rw [List.all_append, h2]; rfl) (by rw [wqfv, h3]; rfl) ?_ g
  cases t with
  | nil => exact absurd rfl h1
  | cons x r => exact ⟨x, r ++ [58, 32], rfl, h4 x (by simp)⟩
theorem GL_key {t : List UInt8} (h : keyB t = true) : GL (t ++ [58]) := by
  obtain ⟨h1, h2, h3, _, h4, _⟩ := wqhz h
  refine ⟨by rw [wqfv, h3]; rfl, by simp, ?_, wq1do t 58 rfl, ?_⟩
  · cases t with
    | nil => exact absurd rfl h1
    | cons x r => exact wqrl (h4 x (by simp))
  · have hg : ∀ j, j < (t ++ [58]).length → mild ((t ++ [58]).getD j 0) = true := by
      intro j hj
      rw [List.getD, List.getElem?_eq_getElem hj]
      have : (t ++ [58]).all mild = true := by rw [List.all_append, h2]; rfl
      exact List.all_eq_true.1 this _ (List.getElem_mem _)
    have e := wq11e (t ++ [58]) (t ++ [58]).length 1 0 (fun j _ hj => hg j (by omega)) (by omega)
    have e9 : (t ++ [58]).length + 1 = 1 + (t ++ [58]).length := Nat.add_comm _ _
    rw [e9, e, Nat.zero_add, stS, ble_t (Nat.le_refl _)]; rfl
theorem wq1bi (no col : Int) (out : List Pc) (x : Option (List UInt8 × List UInt8)) (h : (finQ no col out x).2.1 = 0) : ∃ a, (finQ no col out x).1 = out ++ [(3, no, col, a, true)] := by
  unfold finQ at h ⊢
  cases x with
  | none => exact absurd h (by simp)
  | some p =>
    obtain ⟨a, r⟩ := p
    dsimp only at h ⊢
    cases h1 : !(r == []) with
    | true => rw [h1, cond_true] at h; cases h
    | false =>
      cases h2 : decide (200 < a.length) with
      | true => rw [h1, h2, cond_false, cond_true] at h; cases h
      | false => exact ⟨a, rfl⟩
theorem wq11f (no ind : Int) (n : Nat) (s : List UInt8) (out : List Pc) (h : (txtS no ind n s out).2.1 = 0) :
    (s = [] ∧ (txtS no ind n s out).1 = out) ∨ (∃ a, (txtS no ind n s out).1 = out ++ [(3, no, ind + (n : Int), a, true)]) ∨
    (∃ c t, s = c :: t ∧ (c == 39) = false ∧ (c == 34) = false ∧ oddB c = false ∧ dsh (c :: t) = false ∧ kS (c :: t) = 0 ∧ (c :: t).length ≤ 200 ∧ (txtS no ind n s out).1 = out ++ [(3, no, ind + (n : Int), c :: t, false)]) := by
  cases s with
  | nil => exact .inl ⟨rfl, rfl⟩
  | cons c t =>
    unfold txtS at h ⊢
    dsimp only at h ⊢
    cases h1 : c == 39 with
    | true =>
      rw [h1, cond_true] at h
      obtain ⟨a, ha⟩ := wq1bi _ _ _ _ h
      exact .inr (.inl ⟨a, ha⟩)
    | false =>
      cases h2 : c == 34 with
      | true =>
        rw [h1, h2, cond_false, cond_true] at h
        obtain ⟨a, ha⟩ := wq1bi _ _ _ _ h
        exact .inr (.inl ⟨a, ha⟩)
      | false =>
        rw [h1, h2, cond_false, cond_false] at h
        cases h3 : (oddB c || (dsh (c :: t) || decide (0 < kS (c :: t)))) with
        | true => rw [h3, cond_true] at h; cases h
        | false =>
          rw [h3, cond_false] at h
          cases h4 : decide (200 < (c :: t).length) with
          | true => rw [h4, cond_true] at h; cases h
          | false =>
            simp only [Bool.or_eq_false_iff] at h3
            obtain ⟨h5, h6, h7⟩ := h3
            have h7 := of_decide_eq_false h7
            have h4 := of_decide_eq_false h4
            exact .inr (.inr ⟨c, t, rfl, h1, h2, h5, h6, by omega, by omega, rfl⟩)
theorem wq1bj (no ind : Int) (n : Nat) (s : List UInt8) (out : List Pc) (h : (endS no ind n s out).2.1 = 0) :
    (kS s = 0 ∧ endS no ind n s out = txtS no ind n s out) ∨ ∃ q, (endS no ind n s out).1 = out ++ (2, no, ind + (n : Int), s.take (kS s), false) :: q := by
  unfold endS at h ⊢
  cases h1 : decide (0 < kS s) with
  | false =>
    have h1 := of_decide_eq_false h1
    exact .inl ⟨by omega, rfl⟩
  | true =>
    rw [h1, cond_true] at h
    cases h2 : decide (64 < kS s) with
    | true => rw [h2, cond_true] at h; cases h
    | false =>
      rw [h2, cond_false] at h
      rw [cond_true, cond_false]
      refine .inr ?_
      rcases wq11f _ _ _ _ _ h with ⟨_, e⟩ | ⟨a, e⟩ | ⟨c, t, _, _, _, _, _, _, _, e⟩
      · exact ⟨[], by rw [e]⟩
      · exact ⟨_, by rw [e, List.append_assoc]; rfl⟩
      · exact ⟨_, by rw [e, List.append_assoc]; rfl⟩
theorem wq1bk (no ind : Int) : ∀ (f n : Nat) (s : List UInt8) (out : List Pc), (rowS no ind f n s out).2.1 = 0 → ∃ q, (rowS no ind f n s out).1 = out ++ q
  | 0, n, s, out, _ => ⟨[], by rw [rowS]; simp⟩
  | f + 1, n, s, out, h => by
    rw [rowS] at h ⊢
    cases h1 : dsh s with
    | true =>
      rw [h1, cond_true] at h
      obtain ⟨q, hq⟩ := wq1bk no ind f _ _ _ h
      exact ⟨_, by rw [cond_true, hq, List.append_assoc]⟩
    | false =>
      rw [h1, cond_false] at h
      rw [cond_false]
      rcases wq1bj _ _ _ _ _ h with ⟨_, e⟩ | ⟨q, e⟩
      · rw [e] at h ⊢
        rcases wq11f _ _ _ _ _ h with ⟨_, e⟩ | ⟨a, e⟩ | ⟨c, t, _, _, _, _, _, _, _, e⟩
        · exact ⟨[], by rw [e]; simp⟩
        · exact ⟨_, e⟩
        · exact ⟨_, e⟩
      · exact ⟨_, e⟩
structure PL (s : List UInt8) : Prop where
  q1 : ∃ c t, s = c :: t ∧ (c == 39) = false ∧ (c == 34) = false ∧ oddB c = false
  d : dsh s = false
  k : kS s = 0
  n : nb s = 0
  len : s.length ≤ 200
theorem wq1bl {s : List UInt8} (h : plainS s = true) : PL s ∧ noCtl s = true ∧ s ≠ [] ∧ stripB s = true := by
  simp only [plainS, Bool.and_eq_true, Bool.not_eq_true', beq_eq_false_iff_ne] at h
  obtain ⟨h1, h2, h3, h4⟩ := h
  refine ⟨?_, h1, h2, h3⟩
  unfold rowB at h4
  simp only [Bool.and_eq_true, beq_iff_eq] at h4
  obtain ⟨h5, h6⟩ := h4
  unfold rowR at h5 h6
  have e0 : (decide ((0 : Int) < 0) || decide ((16384 : Int) < 0)) = false := rfl
  rw [e0, cond_false] at h5 h6
  have nbl := nb_le s
  rw [rowS] at h5 h6
  cases h7 : dsh (s.drop (nb s)) with
  | true =>
    rw [h7, cond_true] at h5 h6
    obtain ⟨q, hq⟩ := wq1bk _ _ _ _ _ _ h5
    rw [hq] at h6
    cases q with
    | nil => cases h6
    | cons x q => cases h6
  | false =>
    rw [h7, cond_false] at h5 h6
    rcases wq1bj _ _ _ _ _ h5 with ⟨h8, e⟩ | ⟨q, e⟩
    · rw [e] at h5 h6
      rcases wq11f _ _ _ _ _ h5 with ⟨_, e⟩ | ⟨a, e⟩ | ⟨c, t, hs, g1, g2, g3, g4, g5, g6, e⟩
      · rw [e] at h6; cases h6
      · rw [e] at h6
        simp [oneP] at h6
      · rw [e] at h6
        simp only [List.nil_append, oneP, Bool.and_eq_true, beq_iff_eq] at h6
        obtain ⟨_, h9, _⟩ := h6
        have hn : nb s = 0 := by
          have : (s.drop (nb s)).length = s.length := by rw [hs, h9]
          rw [List.length_drop] at this
          have : 0 < s.length := List.length_pos_iff.2 h2
          omega
        rw [hn, List.drop_zero] at h7 h8
        exact ⟨⟨c, t, h9.symm, g1, g2, g3⟩, h7, h8, hn, by rw [← h9]; exact g6⟩
    · rw [e] at h6
      cases q with
      | nil => simp [oneP] at h6
      | cons x q => cases h6
theorem wq17g (s : List UInt8) : ∀ (f i e : Nat), stS s f i = some e → e ≤ s.length
  | 0, i, e, h => by rw [stS] at h; cases h; exact Nat.le_refl _
  | f + 1, i, e, h => by
    rw [stS] at h
    by_cases hi : i < s.length
    · rw [ble_f hi, cond_false] at h
      cases h1 : !fresh s i with
      | true => rw [h1, cond_true] at h; exact wq17g s f _ e h
      | false =>
        rw [h1, cond_false] at h
        cases h2 : s.getD i 0 == 35 with
        | true => rw [h2, cond_true] at h; cases h; omega
        | false =>
          rw [h2, cond_false] at h
          cases h3 : (s.getD i 0 == 39 || s.getD i 0 == 34) with
          | true =>
            rw [h3, cond_true] at h
            cases hq : qAt s i with
            | none => rw [hq] at h; cases h
            | some j => rw [hq] at h; exact wq17g s f _ e h
          | false => rw [h3, cond_false] at h; exact wq17g s f _ e h
    · rw [ble_t (by omega), cond_true] at h; cases h; exact Nat.le_refl _
theorem wq190 {s : List UInt8} (h : stripB s = true) : stS s (s.length + 1) 0 = some s.length ∧ rt s = s := by
  unfold stripB at h
  cases hs : stS s (s.length + 1) 0 with
  | none => rw [hs] at h; cases h
  | some e =>
    rw [hs] at h
    dsimp only at h
    have h : rt (s.take e) = s := by simpa using h
    have h1 := wq17g s _ _ _ hs
    have h2 := rt_len (s.take e)
    rw [h, List.length_take] at h2
    have h3 : e = s.length := by omega
    subst h3
    rw [List.take_length] at h
    exact ⟨rfl, h⟩
theorem nb_lt {s : List UInt8} (h : nb s = 0) : lt32 s = s := by
  cases s with
  | nil => rfl
  | cons c r =>
    rw [wqhy] at h
    cases hc : c == 32 with
    | true => rw [hc, cond_true] at h; omega
    | false => exact wqrl hc
theorem lt_nb {s : List UInt8} (h : lt32 s = s) : nb s = 0 := by
  cases s with
  | nil => rfl
  | cons c r =>
    rw [wqhy]
    cases hc : c == 32 with
    | false => rfl
    | true =>
      unfold lt32 at h
      rw [List.dropWhile_cons, hc] at h
      have := (List.dropWhile_suffix (p := (· == (32 : UInt8))) (l := r)).length_le
      have e : (List.dropWhile (· == (32 : UInt8)) r).length = (c :: r).length := by rw [← h]; rfl
      simp at e
      omega
theorem wq1fn {s : List UInt8} (h : plainS s = true) : GL s := by
  obtain ⟨p, h1, h2, h3⟩ := wq1bl h
  obtain ⟨h4, h5⟩ := wq190 h3
  exact ⟨h1, h2, nb_lt p.n, h5, h4⟩
theorem wqxb (c : UInt8) : noCtl (escB c) = true ∧ (escB c = [c] ∧ (c == 34) = false ∧ (c == 92) = false ∨ ∃ d r, escB c = 92 :: d :: r ∧ r.all (fun x => !(x == 34) && !(x == 92)) = true) := by
  have h1 := all_u8 (fun c => noCtl (escB c)) (by kernel_rfl) c
  refine ⟨h1, ?_⟩
  have hx : ∀ n, n < 16 → (!(hexL.getD n 0 == 34) && !(hexL.getD n 0 == 92)) = true := by decide +kernel
  unfold escB
  cases h2 : (c == 92 || c == 34) with
  | true => exact .inr ⟨c, [], rfl, rfl⟩
  | false =>
    simp only [Bool.or_eq_false_iff] at h2
    simp only [cond_false]
    cases c == 10 with
    | true => exact .inr ⟨110, [], rfl, rfl⟩
    | false =>
      simp only [cond_false]
      cases c == 9 with
      | true => exact .inr ⟨116, [], rfl, rfl⟩
      | false =>
        simp only [cond_false]
        cases (decide (c.toNat < 32) || c == 127) with
        | false => exact .inl ⟨rfl, h2.2, h2.1⟩
        | true =>
          have hc := c.toNat_lt
          refine .inr ⟨120, _, rfl, ?_⟩
          rw [List.all_cons, List.all_cons, hx _ (by omega), hx _ (by omega)]
          rfl
theorem wq17h : ∀ s : List UInt8, noCtl (escS s) = true
  | [] => rfl
  | c :: r => by rw [escS, wqfv, (wqxb c).1, wq17h r]; rfl
theorem wq1dp {x : UInt8} (h1 : (x == 34) = false) (h2 : (x == 92) = false) {r : List UInt8} (hr : r ≠ []) (i : Nat) : qS 34 (x :: r) i = qS 34 r (i + 1) := by
  cases r with
  | nil => exact absurd rfl hr
  | cons y r => rw [qS, h1, h2]; rfl
theorem wq1bm : ∀ (l r : List UInt8) (i : Nat), l.all (fun x => !(x == 34) && !(x == 92)) = true → r ≠ [] → qS 34 (l ++ r) i = qS 34 r (i + l.length)
  | [], r, i, _, _ => rfl
  | x :: l, r, i, h, hr => by
    rw [List.all_cons, Bool.and_eq_true] at h
    have hx := h.1
    simp only [Bool.and_eq_true, Bool.not_eq_true'] at hx
    rw [List.cons_append, wq1dp hx.1 hx.2 (by simp [hr]), wq1bm l r (i + 1) h.2 hr, List.length_cons]
    congr 1
    omega
theorem qS_esc : ∀ (s : List UInt8) (i : Nat), qS 34 (escS s ++ [34]) i = some (i + (escS s).length)
  | [], i => rfl
  | c :: r, i => by
    have hne : escS r ++ [34] ≠ [] := by simp
    rw [escS, List.append_assoc, List.length_append]
    rcases (wqxb c).2 with ⟨e, h1, h2⟩ | ⟨d, q, e, hq⟩
    · rw [e, List.singleton_append, wq1dp h1 h2 hne, qS_esc r (i + 1), List.length_singleton]
      congr 1
      omega
    · rw [e]
      have : qS 34 (92 :: d :: q ++ (escS r ++ [34])) i = qS 34 (q ++ (escS r ++ [34])) (i + 2) := by
        rw [List.cons_append, List.cons_append, qS]; rfl
      rw [this, wq1bm q _ _ hq hne, qS_esc r]
      simp only [List.length_cons]
      congr 1
      omega
theorem GL_quo (s : List UInt8) : GL (quoS s) := by
  refine ⟨?_, by simp [quoS], wqrl rfl, ?_, ?_⟩
  · unfold quoS
    have : (34 :: (escS s ++ [34]) : List UInt8) = [34] ++ escS s ++ [34] := rfl
    rw [this, wqfv, wqfv, wq17h]; rfl
  · have : quoS s = (34 :: escS s) ++ [34] := rfl
    rw [this]
    exact wq1do _ 34 rfl
  · have hl : (quoS s).length = (escS s).length + 2 := by simp [quoS]
    have hq : qAt (quoS s) 0 = some (1 + (escS s).length) := by
      have : qAt (quoS s) 0 = qS 34 (escS s ++ [34]) 1 := rfl
      rw [this, qS_esc]
    rw [hl, stS, ble_f (by omega)]
    have h1 : (!fresh (quoS s) 0) = false := rfl
    have h2 : (quoS s).getD 0 0 = 34 := rfl
    rw [h1, h2, hq]
    have h3 : ((34 : UInt8) == 35) = false := rfl
    have h4 : ((34 : UInt8) == 39 || (34 : UInt8) == 34) = true := rfl
    rw [h3, h4, cond_false, cond_false, cond_false, cond_true]
    dsimp only
    rw [show (escS s).length + 2 = ((escS s).length + 1) + 1 by omega, stS, ble_t (by omega), cond_true, hl]
theorem wq1cr (c : UInt8) : hexv (hexL.getD (c.toNat / 16) 0) = some (c.toNat / 16) ∧ hexv (hexL.getD (c.toNat % 16) 0) = some (c.toNat % 16) := by
  have := all_u8 (fun c => hexv (hexL.getD (c.toNat / 16) 0) == some (c.toNat / 16) && hexv (hexL.getD (c.toNat % 16) 0) == some (c.toNat % 16)) (by kernel_rfl) c
  simp only [Bool.and_eq_true, beq_iff_eq] at this
  exact this
theorem wq1ha (f : Nat) (acc : List UInt8) (c : UInt8) (r : List UInt8) : dbl (f + 1) acc (escB c ++ r) = dbl f (acc ++ [c]) r := by
  unfold escB
  cases h1 : c == 92 with
  | true => have := beq_iff_eq.1 h1; subst this; rfl
  | false =>
    cases h2 : c == 34 with
    | true => have := beq_iff_eq.1 h2; subst this; rfl
    | false =>
      cases h3 : c == 10 with
      | true => have := beq_iff_eq.1 h3; subst this; rfl
      | false =>
        cases h4 : c == 9 with
        | true => have := beq_iff_eq.1 h4; subst this; rfl
        | false =>
          cases h5 : (decide (c.toNat < 32) || c == 127) with
          | true =>
            obtain ⟨e1, e2⟩ := wq1cr c
            simp only [Bool.or_false, cond_true, cond_false, List.cons_append, List.nil_append, dbl]
            have e92 : ((92 : UInt8) == 34) = false := rfl
            have e92' : ((92 : UInt8) == 92) = true := rfl
            have t1 : tak (120 :: hexL.getD (c.toNat / 16) 0 :: hexL.getD (c.toNat % 16) 0 :: r) = some (c, 3) := by
              have g1 : ((120 : UInt8) == 92) = false := rfl
              have g2 : ((120 : UInt8) == 34) = false := rfl
              have g3 : ((120 : UInt8) == 110) = false := rfl
              have g4 : ((120 : UInt8) == 116) = false := rfl
              have g5 : ((120 : UInt8) == 120) = true := rfl
              simp only [tak, g1, g2, g3, g4, g5, cond_true, cond_false, e1, e2]
              have : 16 * (c.toNat / 16) + c.toNat % 16 = c.toNat := by omega
              rw [this, UInt8.ofNat_toNat]
            rw [e92, e92', cond_false, cond_true, t1]
            rfl
          | false =>
            simp only [Bool.or_false, cond_false, List.cons_append, List.nil_append, dbl, h1, h2]
theorem wq1bn : ∀ (s : List UInt8) (f : Nat) (acc : List UInt8), s.length < f → dbl f acc (escS s ++ [34]) = some (acc ++ s, [])
  | s, 0, acc, h => by omega
  | [], f + 1, acc, h => by simp [escS, dbl]
  | c :: r, f + 1, acc, h => by
    rw [escS, List.append_assoc, wq1ha, wq1bn r f _ (by simpa using h)]
    simp
theorem wq1dq : ∀ s : List UInt8, s.length ≤ (escS s).length
  | [] => Nat.zero_le _
  | c :: r => by
    have := wq1dq r
    have h1 : 1 ≤ (escB c).length := by
      rcases (wqxb c).2 with ⟨e, _⟩ | ⟨d, q, e, _⟩ <;> rw [e] <;> simp
    rw [escS, List.length_append, List.length_cons]; omega
theorem wq17i {x : Nd} (h : fitN x = true) (h1 : (x.1 == 1) = true) : GL (txtN x) ∧ dsh (txtN x) = false ∧ kS (txtN x) = 0 ∧ ∀ (no ind : Int) (n : Nat) (out : List Pc), txtS no ind n (txtN x) out = (out ++ [(3, no, ind + (n : Int), x.2.2.1, x.2.2.2.1)], 0, 0) := by
  obtain ⟨_, _, hl, hq⟩ := wqk9 h h1
  unfold txtN
  cases hb : x.2.2.2.1 with
  | true =>
    rw [cond_true]
    refine ⟨GL_quo _, ?_, rfl, fun no ind n out => ?_⟩
    · cases hh : escS x.2.2.1 ++ [34] with
      | nil => unfold quoS; rw [hh]; rfl
      | cons y z => unfold quoS; rw [hh]; rfl
    · have e1 : quoS x.2.2.1 = 34 :: (escS x.2.2.1 ++ [34]) := rfl
      have hge := wq1dq x.2.2.1
      rw [e1, txtS]
      have e2 : ((34 : UInt8) == 39) = false := rfl
      have e3 : ((34 : UInt8) == 34) = true := rfl
      rw [e2, e3, cond_false, cond_true, wq1bn _ _ _ (by simp; omega), finQ, dec_f (by simpa using hl)]
      rfl
  | false =>
    rw [cond_false]
    rw [hb] at hq
    have hp : plainS x.2.2.1 = true := by simpa using hq
    obtain ⟨p, _⟩ := wq1bl hp
    refine ⟨wq1fn hp, p.d, p.k, fun no ind n out => ?_⟩
    obtain ⟨c, t, e, g1, g2, g3⟩ := p.q1
    have p1 := p.d
    have p2 := p.k
    have p3 := p.len
    rw [e] at p1 p2 p3 ⊢
    rw [txtS, g1, g2, g3, p1, p2, dec_f (show ¬ 200 < (c :: t).length by omega)]
    rfl
theorem wq17j (no ind : Int) : ∀ (f f' n : Nat) (s : List UInt8) (out : List Pc), s.length < f → s.length < f' → rowS no ind f n s out = rowS no ind f' n s out
  | 0, _, n, s, out, h, _ => by omega
  | f + 1, 0, n, s, out, _, h => by omega
  | f + 1, f' + 1, n, s, out, h, h' => by
    rw [rowS, rowS]
    cases hd : dsh s with
    | false => rfl
    | true =>
      rw [cond_true, cond_true]
      cases s with
      | nil => cases hd
      | cons c r =>
        have hl : (((c :: r).drop 1).drop (nb ((c :: r).drop 1))).length ≤ r.length := by simp
        simp only [List.length_cons] at h h'
        exact wq17j no ind f f' _ _ _ (by omega) (by omega)
theorem wq17k (no col : Int) (o out : List Pc) (x : Option (List UInt8 × List UInt8)) (h : (finQ no col out x).2.1 = 0) : (finQ no col (o ++ out) x).1 = o ++ (finQ no col out x).1 ∧ (finQ no col (o ++ out) x).2.1 = 0 := by
  unfold finQ at h ⊢
  cases x with
  | none => exact absurd h (by simp)
  | some p =>
    obtain ⟨a, r⟩ := p
    dsimp only at h ⊢
    cases h1 : !(r == []) with
    | true => rw [h1, cond_true] at h; cases h
    | false =>
      cases h2 : decide (200 < a.length) with
      | true => rw [h1, h2, cond_false, cond_true] at h; cases h
      | false => simp only [cond_false]; exact ⟨by rw [List.append_assoc], trivial⟩
theorem wq17l (no ind : Int) (n m : Nat) (s : List UInt8) (o out : List Pc) (h : (txtS no (ind + (m : Int)) n s out).2.1 = 0) : (txtS no ind (n + m) s (o ++ out)).1 = o ++ (txtS no (ind + (m : Int)) n s out).1 ∧ (txtS no ind (n + m) s (o ++ out)).2.1 = 0 := by
  have e : ind + ((n + m : Nat) : Int) = ind + (m : Int) + (n : Int) := by omega
  cases s with
  | nil => exact ⟨rfl, rfl⟩
  | cons c t =>
    unfold txtS at h ⊢
    dsimp only at h ⊢
    rw [e]
    cases h1 : c == 39 with
    | true => rw [h1, cond_true] at h; simp only [cond_true]; exact wq17k _ _ _ _ _ h
    | false =>
      cases h2 : c == 34 with
      | true => rw [h1, h2, cond_false, cond_true] at h; simp only [cond_true, cond_false]; exact wq17k _ _ _ _ _ h
      | false =>
        rw [h1, h2, cond_false, cond_false] at h
        cases h3 : (oddB c || (dsh (c :: t) || decide (0 < kS (c :: t)))) with
        | true => rw [h3, cond_true] at h; cases h
        | false =>
          rw [h3, cond_false] at h
          cases h4 : decide (200 < (c :: t).length) with
          | true => rw [h4, cond_true] at h; cases h
          | false => simp only [cond_false]; exact ⟨by rw [List.append_assoc], trivial⟩
theorem wq1cs (no ind : Int) (n m : Nat) (s : List UInt8) (o out : List Pc) (h : (endS no (ind + (m : Int)) n s out).2.1 = 0) : (endS no ind (n + m) s (o ++ out)).1 = o ++ (endS no (ind + (m : Int)) n s out).1 ∧ (endS no ind (n + m) s (o ++ out)).2.1 = 0 := by
  have e : ind + ((n + m : Nat) : Int) = ind + (m : Int) + (n : Int) := by omega
  unfold endS at h ⊢
  cases h1 : decide (0 < kS s) with
  | false => rw [h1, cond_false] at h; simp only [cond_false]; exact wq17l no ind n m s o out h
  | true =>
    rw [h1, cond_true] at h
    cases h2 : decide (64 < kS s) with
    | true => rw [h2, cond_true] at h; cases h
    | false =>
      rw [h2, cond_false] at h
      simp only [cond_true, cond_false]
      rw [e, List.append_assoc, show n + m + (kS s + 1) + nb (s.drop (kS s + 1)) = n + (kS s + 1) + nb (s.drop (kS s + 1)) + m by omega]
      exact wq17l no ind _ m _ o _ h
theorem wq17m (no ind : Int) (m : Nat) : ∀ (f n : Nat) (s : List UInt8) (o out : List Pc), (rowS no (ind + (m : Int)) f n s out).2.1 = 0 → (rowS no ind f (n + m) s (o ++ out)).1 = o ++ (rowS no (ind + (m : Int)) f n s out).1 ∧ (rowS no ind f (n + m) s (o ++ out)).2.1 = 0
  | 0, n, s, o, out, h => by rw [rowS, rowS]; exact ⟨rfl, rfl⟩
  | f + 1, n, s, o, out, h => by
    have e : ind + ((n + m : Nat) : Int) = ind + (m : Int) + (n : Int) := by omega
    rw [rowS] at h
    rw [rowS, rowS]
    cases h1 : dsh s with
    | false => rw [h1, cond_false] at h; simp only [cond_false]; exact wq1cs no ind n m s o out h
    | true =>
      rw [h1, cond_true] at h
      simp only [cond_true]
      rw [e, List.append_assoc, show n + m + 1 + nb (s.drop 1) = n + 1 + nb (s.drop 1) + m by omega]
      exact wq17m no ind m f _ _ o _ h
theorem wq140 {ind : Int} (h0 : 0 ≤ ind) (h1 : ind ≤ 16384) (no : Int) (s : List UInt8) : rowR no ind s = rowS no ind (s.length + 1) (nb s) (s.drop (nb s)) [] := by
  unfold rowR
  rw [dec_f (by omega), dec_f (by omega)]; rfl
theorem wq1fo {c : List UInt8} (g : GL c) (col : Nat) (hc : col ≤ 1000) (h : (rowR 0 ((col + 2 : Nat) : Int) c).2.1 = 0) :
    (rowR 0 (col : Int) (45 :: 32 :: c)).1 = (1, 0, (col : Int), [], false) :: (rowR 0 ((col + 2 : Nat) : Int) c).1 ∧ (rowR 0 (col : Int) (45 :: 32 :: c)).2.1 = 0 := by
  have hn := lt_nb g.lt
  rw [wq140 (by omega) (by omega)] at h ⊢
  rw [wq140 (by omega) (by omega)]
  rw [hn, List.drop_zero] at h ⊢
  have e1 : nb (45 :: 32 :: c) = 0 := by rw [wqhy]; rfl
  have e2 : dsh (45 :: 32 :: c) = true := rfl
  have e3 : nb ((45 :: 32 :: c).drop 1) = 1 := by
    have : (45 :: 32 :: c).drop 1 = 32 :: c := rfl
    rw [this, wqhy, hn]; rfl
  have e4 : ((45 :: 32 :: c).drop 1).drop 1 = c := rfl
  rw [e1, List.drop_zero, rowS, e2, cond_true, e3, e4, wq17j 0 (col : Int) (45 :: 32 :: c).length (c.length + 1) _ _ _ (by simp only [List.length_cons]; omega) (by omega)]
  have e5 : ((col + 2 : Nat) : Int) = (col : Int) + ((2 : Nat) : Int) := by omega
  rw [e5] at h ⊢
  have := wq17m 0 (col : Int) 2 (c.length + 1) 0 c [(1, 0, (col : Int), [], false)] [] h
  rw [List.append_nil] at this
  have e6 : (col : Int) + ((0 : Nat) : Int) = (col : Int) := by omega
  rw [e6]
  exact this
theorem kS_key {t r : List UInt8} (h : keyB t = true) (hr : hd32 r = true) : kS (t ++ 58 :: r) = t.length := by
  obtain ⟨_, _, _, hs, _, _⟩ := wqhz h
  have e : ((t ++ 58 :: r).takeWhile sgn) = t := by
    rw [List.takeWhile_append_of_pos hs, List.takeWhile_cons, sgn58]; simp
  have e2 : (t ++ 58 :: r).drop ((t ++ 58 :: r).takeWhile sgn).length = 58 :: r := by rw [e]; simp
  rw [kS_at e2, e, hr]; rfl
theorem wq1hb {t r : List UInt8} (h : keyB t = true) : dsh (t ++ 58 :: r) = false := by
  obtain ⟨h1, _, _, _, hx, _⟩ := wqhz h
  match t, h1, hx with
  | [c], _, _ =>
    show (c == 45 && (58 : UInt8) == 32) = false
    rw [show ((58 : UInt8) == 32) = false from rfl, Bool.and_false]
  | c :: d :: t, _, hx =>
    show (c == 45 && d == 32) = false
    rw [hx d (by simp), Bool.and_false]
theorem nb_key {t r : List UInt8} (h : keyB t = true) : nb (t ++ 58 :: r) = 0 := by
  obtain ⟨h1, _, _, _, hx, _⟩ := wqhz h
  cases t with
  | nil => exact absurd rfl h1
  | cons c t => rw [List.cons_append, wqhy, hx c (by simp)]; rfl
theorem wq1dr {t r : List UInt8} (h : keyB t = true) (hr : hd32 r = true) (col : Nat) (hc : col ≤ 1000) :
    rowR 0 (col : Int) (t ++ 58 :: r) = txtS 0 (col : Int) (t.length + 1 + nb r) (r.drop (nb r)) [(2, 0, (col : Int), t, false)] := by
  obtain ⟨h1, _, _, _, _, h6⟩ := wqhz h
  have hpos : 0 < t.length := List.length_pos_iff.2 h1
  rw [wq140 (by omega) (by omega), nb_key h, List.drop_zero, rowS, wq1hb h, cond_false, endS, kS_key h hr, dec_t hpos, dec_f (by omega), cond_true, cond_false]
  have e1 : (t ++ 58 :: r).drop (t.length + 1) = r := by
    rw [List.drop_append, List.drop_eq_nil_of_le (by omega)]; simp
  have e2 : (t ++ 58 :: r).take t.length = t := by simp
  rw [e1, e2, Nat.zero_add]
  have e6 : (col : Int) + ((0 : Nat) : Int) = (col : Int) := by omega
  rw [e6]; rfl
def txA (nd : List Nd) (n : Nat) : List UInt8 :=
  match nd[n]? with
  | some x => txtN x
  | none => []
def tqA (nd : List Nd) (n : Nat) : List UInt8 × Bool :=
  match nd[n]? with
  | some x => (x.2.2.1, x.2.2.2.1)
  | none => ([], false)
def preL (col : Nat) : List Raw → List Raw
  | [] => []
  | r :: rs => (col, 45 :: 32 :: r.2) :: rs
def lnL (g : Nat → List Raw) (col : Nat) : List Int → List Raw
  | [] => []
  | k :: r => preL col (g k.toNat) ++ lnL g col r
def lnM (g : Nat → List Raw) (t : Nat → Bool) (tx : Nat → List UInt8) (col : Nat) : List (List UInt8) → List Int → List Raw
  | key :: ks, k :: r => (bif t k.toNat then [(col, key ++ 58 :: 32 :: tx k.toNat)] else (col, key ++ [58]) :: g k.toNat) ++ lnM g t tx col ks r
  | _, _ => []
def lnS : Nat → List Nd → Nat → Nat → List Raw
  | 0, _, _, _ => []
  | f + 1, nd, n, col => match nd[n]? with
    | none => []
    | some x => bif x.1 == 1 then [(col, txtN x)] else bif x.1 == 2 then lnL (fun k => lnS f nd k (col + 2)) col x.2.2.2.2.2
      else lnM (fun k => lnS f nd k (col + 2)) (isT nd) (txA nd) col x.2.2.2.2.1 x.2.2.2.2.2
def pcL (g : Nat → List Pc) (col : Nat) : List Int → List Pc
  | [] => []
  | k :: r => (1, 0, (col : Int), [], false) :: (g k.toNat ++ pcL g col r)
def pcM (g : Nat → List Pc) (t : Nat → Bool) (tq : Nat → List UInt8 × Bool) (col : Nat) : List (List UInt8) → List Int → List Pc
  | key :: ks, k :: r => (2, 0, (col : Int), key, false) :: ((bif t k.toNat then [(3, 0, ((col + (key.length + 2) : Nat) : Int), (tq k.toNat).1, (tq k.toNat).2)] else g k.toNat) ++ pcM g t tq col ks r)
  | _, _ => []
def pcS : Nat → List Nd → Nat → Nat → List Pc
  | 0, _, _, _ => []
  | f + 1, nd, n, col => match nd[n]? with
    | none => []
    | some x => bif x.1 == 1 then [(3, 0, (col : Int), x.2.2.1, x.2.2.2.1)] else bif x.1 == 2 then pcL (fun k => pcS f nd k (col + 2)) col x.2.2.2.2.2
      else pcM (fun k => pcS f nd k (col + 2)) (isT nd) (tqA nd) col x.2.2.2.2.1 x.2.2.2.2.2
theorem wq1bo : ∀ (a b : List Ln) (out : List Pc), (allS a out).2.1 = 0 → allS (a ++ b) out = allS b (allS a out).1
  | [], b, out, _ => rfl
  | l :: a, b, out, h => by
    rw [List.cons_append, allS]
    rw [allS] at h ⊢
    cases h1 : (rowR l.1 l.2.1 l.2.2).2.1 != 0 with
    | true =>
      rw [h1, cond_true] at h
      dsimp only at h
      rw [h] at h1; cases h1
    | false =>
      rw [h1, cond_false] at h
      simp only [cond_false]
      exact wq1bo a b _ h
def AP (ls : List Raw) (q : List Pc) : Prop := ∀ out, allS (ls.map rawE) out = (out ++ q, 0, 0)
theorem AP.app {a b : List Raw} {q q' : List Pc} (h : AP a q) (h' : AP b q') : AP (a ++ b) (q ++ q') := by
  intro out
  rw [List.map_append, wq1bo _ _ _ (by rw [h out]), h out, h' _, List.append_assoc]
theorem AP.nil : AP [] [] := fun out => by rw [List.map_nil, allS, List.append_nil]
theorem AP.one {i : Nat} {c : List UInt8} {q : List Pc} (h1 : (rowR 0 (i : Int) c).1 = q) (h2 : (rowR 0 (i : Int) c).2.1 = 0) : AP [(i, c)] q := by
  intro out
  have e : [((i, c) : Raw)].map rawE = [(0, ((i : Int), c))] := rfl
  rw [e, allS]
  dsimp only
  rw [h2, h1]; rfl
theorem AP.dash {col : Nat} {c : List UInt8} {rs : List Raw} {q : List Pc} (g : GL c) (hc : col ≤ 1000) (h : AP ((col + 2, c) :: rs) q) : AP ((col, 45 :: 32 :: c) :: rs) ((1, 0, (col : Int), [], false) :: q) := by
  have hk : (rowR 0 ((col + 2 : Nat) : Int) c).2.1 = 0 := by
    have := h []
    rw [List.map_cons, allS] at this
    cases h1 : (rowR (rawE (col + 2, c)).1 (rawE (col + 2, c)).2.1 (rawE (col + 2, c)).2.2).2.1 != 0 with
    | false => exact (show ∀ z : Int, (z != 0) = false → z = 0 from fun z hz => by simpa using hz) _ h1
    | true =>
      rw [h1, cond_true] at this
      have := congrArg (fun r : Res => r.2.1) this
      dsimp only at this
      rw [this] at h1; cases h1
  obtain ⟨r1, r2⟩ := wq1fo g col hc hk
  intro out
  have h3 := h (out ++ [(1, 0, (col : Int), [], false)])
  rw [List.map_cons, allS] at h3 ⊢
  have e1 : rowR (rawE (col + 2, c)).1 (rawE (col + 2, c)).2.1 (rawE (col + 2, c)).2.2 = rowR 0 ((col + 2 : Nat) : Int) c := rfl
  have e2 : rowR (rawE (col, 45 :: 32 :: c)).1 (rawE (col, 45 :: 32 :: c)).2.1 (rawE (col, 45 :: 32 :: c)).2.2 = rowR 0 (col : Int) (45 :: 32 :: c) := rfl
  rw [e1, hk] at h3
  rw [e2, r2, r1]
  have e3 : ((0 : Int) != 0) = false := rfl
  rw [e3, cond_false] at h3 ⊢
  rw [List.append_assoc] at h3
  rw [show out ++ (1, 0, (col : Int), [], false) :: (rowR 0 ((col + 2 : Nat) : Int) c).1 = out ++ ([(1, 0, (col : Int), [], false)] ++ (rowR 0 ((col + 2 : Nat) : Int) c).1) from rfl, h3, List.append_assoc]
  rfl
structure BP (col : Nat) (ls : List Raw) (tx : List UInt8) (ps : List Pc) : Prop where
  ex : ∃ c rs, ls = (col, c) :: rs
  cat : blS col ++ tx = catL (ls.map full)
  good : ∀ r ∈ ls, GL r.2
  ap : AP ls ps
theorem wq1ds {gl : Nat → List Raw} {gt : Nat → List UInt8} {gp : Nat → List Pc} {w : Nat → Option Nat} {col : Nat} (hc : col ≤ 1000) (hg : ∀ n m, w n = some m → BP (col + 2) (gl n) (gt n) (gp n)) :
    ∀ (l : List Int) (n m : Nat), kidsW w l n = some m → (l ≠ [] → ∃ c rs, lnL gl col l = (col, c) :: rs) ∧ lstS gt col false l = catL ((lnL gl col l).map full) ∧ (∀ r ∈ lnL gl col l, GL r.2) ∧ AP (lnL gl col l) (pcL gp col l)
  | [], n, m, h => by
    refine ⟨fun h => absurd rfl h, rfl, ?_, AP.nil⟩
    intro r hr
    cases hr
  | k :: r, n, m, h => by
    rw [kidsW] at h
    cases h1 : k == (n : Int) with
    | false => rw [h1] at h; cases h
    | true =>
      rw [h1, cond_true] at h
      cases h2 : w n with
      | none => rw [h2] at h; cases h
      | some j =>
        rw [h2] at h
        have e : k = (n : Int) := by simpa using h1
        subst e
        obtain ⟨⟨c, rs, e1⟩, b2, b3, b4⟩ := hg n j h2
        obtain ⟨_, i2, i3, i4⟩ := wq1ds hc hg r j m h
        have gc : GL c := b3 (col + 2, c) (by rw [e1]; simp)
        have e2 : lnL gl col ((n : Int) :: r) = ((col, 45 :: 32 :: c) :: rs) ++ lnL gl col r := by rw [lnL, Int.toNat_natCast, e1]; rfl
        refine ⟨fun _ => ⟨45 :: 32 :: c, rs ++ lnL gl col r, by rw [e2]; rfl⟩, ?_, ?_, ?_⟩
        · have hb : blS (col + 2) ++ gt n = blS (col + 2) ++ (c ++ 10 :: catL (rs.map full)) := by
            rw [b2, e1, List.map_cons, catL]
            unfold full
            rw [List.append_assoc]
          have hb := List.append_cancel_left hb
          rw [lstS, Int.toNat_natCast, cond_false, hb, i2, e2, List.map_append, wq11c, List.map_cons, catL]
          unfold full
          simp [List.append_assoc]
        · intro x hx
          rw [e2] at hx
          rcases List.mem_append.1 hx with hx | hx
          · rcases List.mem_cons.1 hx with rfl | hx
            · exact wq1h9 gc
            · exact b3 x (by rw [e1]; simp [hx])
          · exact i3 x hx
        · rw [e2, pcL, Int.toNat_natCast]
          rw [e1] at b4
          exact (AP.dash gc hc b4).app i4
theorem map_bp {gl : Nat → List Raw} {gt : Nat → List UInt8} {gp : Nat → List Pc} {t : Nat → Bool} {tx : Nat → List UInt8} {tq : Nat → List UInt8 × Bool} {w : Nat → Option Nat} {col : Nat} (hc : col ≤ 900)
    (hg : ∀ n m, w n = some m → t n = false → BP (col + 2) (gl n) (gt n) (gp n))
    (ht : ∀ n m, w n = some m → t n = true → gt n = tx n ++ [10] ∧ GL (tx n) ∧ ∀ (no ind : Int) (j : Nat) (out : List Pc), txtS no ind j (tx n) out = (out ++ [(3, no, ind + (j : Int), (tq n).1, (tq n).2)], 0, 0)) :
    ∀ (keys : List (List UInt8)) (l : List Int) (n m : Nat), kidsW w l n = some m → keys.length = l.length → (∀ q ∈ keys, keyB q = true) →
      (l ≠ [] → ∃ c rs, lnM gl t tx col keys l = (col, c) :: rs) ∧ mapS gt t col false keys l = catL ((lnM gl t tx col keys l).map full) ∧ (∀ r ∈ lnM gl t tx col keys l, GL r.2) ∧ AP (lnM gl t tx col keys l) (pcM gp t tq col keys l)
  | [], [], n, m, h, _, _ => by
    refine ⟨fun h => absurd rfl h, rfl, ?_, AP.nil⟩
    intro r hr
    cases hr
  | key :: ks, [], n, m, h, hl, _ => by cases hl
  | [], k :: r, n, m, h, hl, _ => by cases hl
  | key :: ks, k :: r, n, m, h, hl, hk => by
    have hkey := hk key (by simp)
    rw [kidsW] at h
    cases h1 : k == (n : Int) with
    | false => rw [h1] at h; cases h
    | true =>
      rw [h1, cond_true] at h
      cases h2 : w n with
      | none => rw [h2] at h; cases h
      | some j =>
        rw [h2] at h
        have e : k = (n : Int) := by simpa using h1
        subst e
        obtain ⟨_, i2, i3, i4⟩ := map_bp hc hg ht ks r j m h (by simpa using hl) fun q hq => hk q (List.mem_cons_of_mem _ hq)
        have e0 : lnM gl t tx col (key :: ks) ((n : Int) :: r) = (bif t n then [(col, key ++ 58 :: 32 :: tx n)] else (col, key ++ [58]) :: gl n) ++ lnM gl t tx col ks r := by rw [lnM, Int.toNat_natCast]
        have e9 : pcM gp t tq col (key :: ks) ((n : Int) :: r) = (2, 0, (col : Int), key, false) :: ((bif t n then [(3, 0, ((col + (key.length + 2) : Nat) : Int), (tq n).1, (tq n).2)] else gp n) ++ pcM gp t tq col ks r) := by rw [pcM, Int.toNat_natCast]
        rw [e0, e9, mapS, Int.toNat_natCast, cond_false, i2]
        cases htn : t n with
        | true =>
          obtain ⟨t1, t2, t3⟩ := ht n j h2 htn
          simp only [cond_true]
          refine ⟨fun _ => ⟨_, _, rfl⟩, ?_, ?_, ?_⟩
          · rw [t1, List.map_append, wq11c]
            simp [catL, full, List.append_assoc]
          · intro x hx
            rcases List.mem_append.1 hx with hx | hx
            · rw [List.mem_singleton] at hx
              subst hx
              exact wq1fm hkey t2
            · exact i3 x hx
          · have hr := wq1dr (r := 32 :: tx n) hkey rfl col (by omega)
            have hn := lt_nb t2.lt
            have n1 : nb (32 :: tx n) = 1 := by rw [wqhy, hn]; rfl
            have n2 : (32 :: tx n).drop 1 = tx n := rfl
            rw [n1, n2, t3] at hr
            have e5 : (col : Int) + ((key.length + 1 + 1 : Nat) : Int) = ((col + (key.length + 2) : Nat) : Int) := by omega
            rw [e5] at hr
            exact (AP.one (q := [(2, 0, (col : Int), key, false), (3, 0, ((col + (key.length + 2) : Nat) : Int), (tq n).1, (tq n).2)]) (by rw [hr]; rfl) (by rw [hr])).app i4
        | false =>
          obtain ⟨⟨c, rs, e1⟩, b2, b3, b4⟩ := hg n j h2 htn
          simp only [cond_false]
          refine ⟨fun _ => ⟨_, _, rfl⟩, ?_, ?_, ?_⟩
          · rw [List.map_append, wq11c, List.map_cons, catL, ← b2]
            simp [full, List.append_assoc]
          · intro x hx
            rcases List.mem_append.1 hx with hx | hx
            · rcases List.mem_cons.1 hx with rfl | hx
              · exact GL_key hkey
              · exact b3 x hx
            · exact i3 x hx
          · have hr := wq1dr (r := []) hkey rfl col (by omega)
            have n2 : ([] : List UInt8).drop (nb []) = [] := rfl
            rw [n2] at hr
            have hr2 : rowR 0 (col : Int) (key ++ [58]) = ([(2, 0, (col : Int), key, false)], 0, 0) := hr
            have := (AP.one (i := col) (c := key ++ [58]) (q := [(2, 0, (col : Int), key, false)]) (by rw [hr2]) (by rw [hr2])).app (b4.app i4)
            exact this
theorem isT_at {nd : List Nd} {n : Nat} {x : Nd} (h : nd[n]? = some x) : isT nd n = (x.1 == 1) := by unfold isT; rw [h]
theorem wq1bp : ∀ (f : Nat) (nd : List Nd) (n m col : Nat), walkS f nd n = some m → col + 2 * f ≤ 58 → BP col (lnS f nd n col) (textS f nd n col) (pcS f nd n col)
  | 0, nd, n, m, col, h, hc => by rw [walkS] at h; cases h
  | f + 1, nd, n, m, col, h, hc => by
    obtain ⟨x, hx, hf, h⟩ := wqh8 h
    rw [lnS, textS, pcS, hx]
    dsimp only
    cases h1 : x.1 == 1 with
    | true =>
      obtain ⟨t1, t2, t3, t4⟩ := wq17i hf h1
      simp only [cond_true]
      have hr : rowR 0 (col : Int) (txtN x) = ([(3, 0, (col : Int), x.2.2.1, x.2.2.2.1)], 0, 0) := by
        rw [wq140 (by omega) (by omega), lt_nb t1.lt, List.drop_zero, rowS, t2, cond_false, endS, t3, t4]
        have e6 : (col : Int) + ((0 : Nat) : Int) = (col : Int) := by omega
        rw [e6]; rfl
      refine ⟨⟨_, _, rfl⟩, ?_, ?_, AP.one (by rw [hr]) (by rw [hr])⟩
      · simp [catL, full]
      · intro r hr
        rw [List.mem_singleton] at hr
        subst hr
        exact t1
    | false =>
      simp only [cond_false]
      have ih : ∀ a b, walkS f nd a = some b → BP (col + 2) (lnS f nd a (col + 2)) (textS f nd a (col + 2)) (pcS f nd a (col + 2)) := fun a b hab => wq1bp f nd a b (col + 2) hab (by omega)
      cases h2 : x.1 == 2 with
      | true =>
        simp only [cond_true]
        obtain ⟨_, l2, _, _⟩ := wqun hf h2
        obtain ⟨i1, i2, i3, i4⟩ := wq1ds (by omega) ih _ _ _ h
        refine ⟨i1 l2, ?_, i3, i4⟩
        rw [← i2]
        cases hk : x.2.2.2.2.2 with
        | nil => exact absurd hk l2
        | cons k r => simp [lstS, List.append_assoc]
      | false =>
        simp only [cond_false]
        obtain ⟨_, k2, k3, _, _, k6⟩ := wqt1 hf h1 h2
        obtain ⟨i1, i2, i3, i4⟩ := map_bp (t := isT nd) (tx := txA nd) (tq := tqA nd) (by omega) (fun a b hab _ => ih a b hab) (fun a b hab hta => by
          cases f with
          | zero => rw [walkS] at hab; cases hab
          | succ f =>
            obtain ⟨y, hy, hfy, _⟩ := wqh8 hab
            rw [isT_at hy] at hta
            obtain ⟨t1, _, _, t4⟩ := wq17i hfy hta
            unfold txA tqA
            rw [textS, hy]
            dsimp only
            rw [hta, cond_true]
            exact ⟨rfl, t1, t4⟩) x.2.2.2.2.1 x.2.2.2.2.2 _ _ h k2 (wqme _ _ k6)
        refine ⟨i1 k3, ?_, i3, i4⟩
        rw [← i2]
        cases hk : x.2.2.2.2.2 with
        | nil => exact absurd hk k3
        | cons k r =>
          rw [hk] at k2
          cases hq : x.2.2.2.2.1 with
          | nil => rw [hq] at k2; cases k2
          | cons key ks => simp [mapS, List.append_assoc]
def slN (nd : List Nd) (a b : Nat) : List Nd := ((nd.drop a).take (b - a)).map erN
theorem wq1dt {nd : List Nd} {a b : Nat} (h : b ≤ nd.length) : (slN nd a b).length = b - a := by
  unfold slN
  rw [List.length_map, List.length_take, List.length_drop]; omega
theorem wq1bq {nd : List Nd} {a b c : Nat} (h1 : a ≤ b) (h2 : b ≤ c) : slN nd a b ++ slN nd b c = slN nd a c := by
  unfold slN
  rw [← List.map_append]
  congr 1
  have e1 : nd.drop b = (nd.drop a).drop (b - a) := by rw [List.drop_drop]; congr 1; omega
  have e2 : c - a = (b - a) + (c - b) := by omega
  rw [e1, e2, List.take_add]
theorem wq1br (nd : List Nd) (a : Nat) : slN nd a a = [] := by unfold slN; simp
theorem wq1du {nd : List Nd} {n : Nat} {x : Nd} (h : nd[n]? = some x) : slN nd n (n + 1) = [erN x] := by
  unfold slN
  have hl := (List.getElem?_eq_some_iff.1 h).1
  have e : nd.drop n = x :: nd.drop (n + 1) := by
    rw [List.drop_eq_getElem_cons hl]
    congr 1
    exact (List.getElem?_eq_some_iff.1 h).2
  rw [e, show n + 1 - n = 1 by omega]; rfl
def OutC (col : Nat) (rest : List Pc) : Prop := ∀ y r, rest = y :: r → y.2.2.1 < (col : Int)
theorem wq1bs {col : Nat} {rest : List Pc} (h : OutC col rest) (kd : Int) : nextS rest kd (col : Int) = false := by
  cases rest with
  | nil => rfl
  | cons y r =>
    have := h y r rfl
    show ((y.1 == kd) && (y.2.2.1 == (col : Int))) = false
    have e : (y.2.2.1 == (col : Int)) = false := ieq_f (by omega)
    rw [e, Bool.and_false]
theorem wq166 {nd : List Nd} {w : Nat → Option Nat} (hw : ∀ n m, w n = some m → n ≤ m ∧ m ≤ nd.length) : ∀ (l : List Int) (n m : Nat), kidsW w l n = some m → n ≤ m
  | [], n, m, h => by rw [kidsW] at h; cases h; exact Nat.le_refl _
  | k :: r, n, m, h => by
    rw [kidsW] at h
    cases h1 : k == (n : Int) with
    | false => rw [h1] at h; cases h
    | true =>
      rw [h1, cond_true] at h
      cases h2 : w n with
      | none => rw [h2] at h; cases h
      | some j =>
        rw [h2] at h
        have := (hw n j h2).1
        have := wq166 hw r j m h
        omega
theorem wq1dv {nd : List Nd} {gp : Nat → List Pc} {w : Nat → Option Nat} {col d : Nat} (hw : ∀ n m, w n = some m → n ≤ m ∧ m ≤ nd.length) (hh : ∀ n m, w n = some m → ∃ p r, gp n = p :: r ∧ p.2.2.1 = ((col + 2 : Nat) : Int))
    (hk : ∀ (n m F : Nat) (rest : List Pc) (acc : List Nd), w n = some m → acc.length = n → 2 * (gp n).length + 2 ≤ F → OutC (col + 2) rest → blkS F (gp n ++ rest) acc (d + 1) = .inr (rest, acc ++ slN nd n m)) :
    ∀ (l : List Int) (n m F n0 : Nat) (rest : List Pc) (acc : List Nd) (kids0 : List Int), kidsW w l n = some m → acc.length = n → n0 < n → 2 * (pcL gp col l).length + 1 ≤ F → OutC col rest →
      kidsS F 1 0 (col : Int) n0 d (pcL gp col l ++ rest) acc [] kids0 = .inr (rest, (acc ++ slN nd n m).set n0 (2, 0, [], false, [], kids0 ++ l))
  | [], n, m, 0, n0, rest, acc, kids0, h, ha, h0, hF, ho => by omega
  | k :: r, n, m, 0, n0, rest, acc, kids0, h, ha, h0, hF, ho => by omega
  | [], n, m, F + 1, n0, rest, acc, kids0, h, ha, h0, hF, ho => by
    rw [kidsW] at h; cases h
    rw [pcL, List.nil_append, wq7v, wq1bs ho, cond_false, wq1br, List.append_nil, List.append_nil]
    rfl
  | k :: r, n, m, F + 1, n0, rest, acc, kids0, h, ha, h0, hF, ho => by
    rw [kidsW] at h
    cases h1 : k == (n : Int) with
    | false => rw [h1] at h; cases h
    | true =>
      rw [h1, cond_true] at h
      cases h2 : w n with
      | none => rw [h2] at h; cases h
      | some j =>
        rw [h2] at h
        have e : k = (n : Int) := by simpa using h1
        subst e
        obtain ⟨w1, w2⟩ := hw n j h2
        obtain ⟨p, q, hp, hpc⟩ := hh n j h2
        rw [pcL, Int.toNat_natCast] at hF ⊢
        simp only [List.length_cons, List.length_append] at hF
        have hnx : nextS ((1, 0, (col : Int), [], false) :: (gp n ++ pcL gp col r) ++ rest) 1 (col : Int) = true := by
          show ((1 : Int) == 1 && (col : Int) == (col : Int)) = true
          simp
        have hdp : deepS (gp n ++ pcL gp col r ++ rest) (col : Int) = true := by
          rw [hp]
          show decide ((col : Int) < p.2.2.1) = true
          rw [hpc]; exact dec_t (by omega)
        have ho' : OutC (col + 2) (pcL gp col r ++ rest) := by
          intro y z hyz
          cases r with
          | nil => have := ho y z hyz; omega
          | cons k' r' =>
            rw [pcL, List.cons_append] at hyz
            injection hyz with hy hz
            subst hy
            show (col : Int) < _
            omega
        have hb := hk n j F (pcL gp col r ++ rest) acc h2 ha (by omega) ho'
        rw [wq7v, hnx, cond_true]
        dsimp only [List.cons_append]
        have e1 : ((1 : Int) == 2) = false := rfl
        rw [e1, Bool.false_and, cond_false, hdp, cond_true, List.append_assoc, hb]
        dsimp only
        rw [cond_false, ha, wq1dv hw hh hk r j m F n0 rest _ _ h (by rw [List.length_append, wq1dt w2, ha]; omega) (by omega) (by omega) ho, List.append_assoc, List.append_assoc]
        have hjm := wq166 hw r j m h
        rw [wq1bq w1 hjm]
        rfl
theorem map_pc {nd : List Nd} (hnd : nd.length ≤ 2000) {gp : Nat → List Pc} {w : Nat → Option Nat} {col d : Nat} (hd : d + 1 ≤ 24) (hw : ∀ n m, w n = some m → n < m ∧ m ≤ nd.length) (hh : ∀ n m, w n = some m → ∃ p r, gp n = p :: r ∧ p.2.2.1 = ((col + 2 : Nat) : Int))
    (ht : ∀ n m, w n = some m → isT nd n = true → ∃ y, nd[n]? = some y ∧ y.1 = 1 ∧ fitN y = true ∧ m = n + 1)
    (hk : ∀ (n m F : Nat) (rest : List Pc) (acc : List Nd), w n = some m → acc.length = n → 2 * (gp n).length + 2 ≤ F → OutC (col + 2) rest → blkS F (gp n ++ rest) acc (d + 1) = .inr (rest, acc ++ slN nd n m)) :
    ∀ (ks : List (List UInt8)) (l : List Int) (n m F n0 : Nat) (rest : List Pc) (acc : List Nd) (keys0 : List (List UInt8)) (kids0 : List Int), kidsW w l n = some m → ks.length = l.length → keysB keys0 ks = true → acc.length = n → n0 < n → 2 * (pcM gp (isT nd) (tqA nd) col ks l).length + 1 ≤ F → OutC col rest →
      kidsS F 2 0 (col : Int) n0 d (pcM gp (isT nd) (tqA nd) col ks l ++ rest) acc keys0 kids0 = .inr (rest, (acc ++ slN nd n m).set n0 (3, 0, [], false, keys0 ++ ks, kids0 ++ l))
  | ks, l, n, m, 0, n0, rest, acc, keys0, kids0, h, hl, hb, ha, h0, hF, ho => by omega
  | [], k :: r, n, m, F + 1, n0, rest, acc, keys0, kids0, h, hl, hb, ha, h0, hF, ho => by cases hl
  | key :: ks, [], n, m, F + 1, n0, rest, acc, keys0, kids0, h, hl, hb, ha, h0, hF, ho => by cases hl
  | [], [], n, m, F + 1, n0, rest, acc, keys0, kids0, h, hl, hb, ha, h0, hF, ho => by
    rw [kidsW] at h; cases h
    rw [pcM, List.nil_append, wq7v, wq1bs ho, cond_false, wq1br, List.append_nil, List.append_nil, List.append_nil]
    · rfl
    · intro _ _ _ _ h; cases h
  | key :: ks, k :: r, n, m, F + 1, n0, rest, acc, keys0, kids0, h, hl, hb, ha, h0, hF, ho => by
    rw [kidsW] at h
    cases h1 : k == (n : Int) with
    | false => rw [h1] at h; cases h
    | true =>
      rw [h1, cond_true] at h
      cases h2 : w n with
      | none => rw [h2] at h; cases h
      | some j =>
        rw [h2] at h
        have e : k = (n : Int) := by simpa using h1
        subst e
        obtain ⟨w1, w2⟩ := hw n j h2
        rw [keysB] at hb
        simp only [Bool.and_eq_true, Bool.not_eq_true'] at hb
        obtain ⟨_, hb2, hb3⟩ := hb
        have hjm := wq166 (nd := nd) (fun a b hab => ⟨Nat.le_of_lt (hw a b hab).1, (hw a b hab).2⟩) r j m h
        rw [pcM, Int.toNat_natCast] at hF ⊢
        have ho' : OutC (col + 2) (pcM gp (isT nd) (tqA nd) col ks r ++ rest) := by
          intro y z hyz
          cases ks with
          | nil =>
            cases r with
            | nil => have := ho y z hyz; omega
            | cons k' r' => cases hl
          | cons key' ks' =>
            cases r with
            | nil => cases hl
            | cons k' r' =>
              rw [pcM, List.cons_append] at hyz
              injection hyz with hy hz
              subst hy
              show (col : Int) < _
              omega
        have hnx : ∀ X, nextS (((2, 0, (col : Int), key, false) : Pc) :: X) 2 (col : Int) = true := fun X => by
          show ((2 : Int) == 2 && (col : Int) == (col : Int)) = true
          simp
        have e1 : ((2 : Int) == 2) = true := rfl
        have fin : ∀ (X : List Pc), deepS (X ++ (pcM gp (isT nd) (tqA nd) col ks r ++ rest)) (col : Int) = true → 2 * (pcM gp (isT nd) (tqA nd) col ks r).length + 1 ≤ F → blkS F (X ++ (pcM gp (isT nd) (tqA nd) col ks r ++ rest)) acc (d + 1) = .inr (pcM gp (isT nd) (tqA nd) col ks r ++ rest, acc ++ slN nd n j) →
            kidsS (F + 1) 2 0 (col : Int) n0 d (((2, 0, (col : Int), key, false) :: (X ++ pcM gp (isT nd) (tqA nd) col ks r)) ++ rest) acc keys0 kids0 = .inr (rest, (acc ++ slN nd n m).set n0 (3, 0, [], false, keys0 ++ key :: ks, kids0 ++ (n : Int) :: r)) := by
          intro X hX hF2 hB
          rw [List.cons_append, wq7v, hnx, cond_true]
          dsimp only
          rw [e1, Bool.true_and, hb2, cond_false, List.append_assoc, hX, cond_true, hB]
          dsimp only
          rw [cond_true, ha, map_pc hnd hd hw hh ht hk ks r j m F n0 rest _ _ _ h (by simpa using hl) hb3 (by rw [List.length_append, wq1dt w2, ha]; omega) (by omega) hF2 ho, List.append_assoc, List.append_assoc, List.append_assoc]
          rw [wq1bq (Nat.le_of_lt w1) hjm]
          rfl
        cases htn : isT nd n with
        | true =>
          rw [htn, cond_true] at hF
          simp only [List.length_cons, List.length_append, List.length_nil] at hF
          rw [cond_true]
          obtain ⟨y, hy, hy1, hyf, rfl⟩ := ht n j h2 htn
          obtain ⟨y2, y3, _, _⟩ := wqk9 hyf (by rw [hy1]; rfl)
          have hn := (List.getElem?_eq_some_iff.1 hy).1
          refine fin _ ?_ (by omega) ?_
          · show decide ((col : Int) < ((col + (key.length + 2) : Nat) : Int)) = true
            exact dec_t (by omega)
          · obtain ⟨G, rfl⟩ : ∃ G, F = G + 1 := ⟨F - 1, by omega⟩
            rw [List.singleton_append, blkS]
            have c1 : (decide ((3 : Int) < 1) || decide ((3 : Int) > 3)) = false := rfl
            have c2 : decide (24 < d + 1) = false := dec_f (by omega)
            have c3 : decide (2000 ≤ acc.length) = false := dec_f (by omega)
            have c4 : ((3 : Int) == 3) = true := rfl
            dsimp only
            rw [c1, c2, c3, c4, cond_false, cond_false, cond_false, cond_true, wq1du hy]
            have c5 : erN y = (1, 0, (tqA nd n).1, (tqA nd n).2, [], []) := by
              obtain ⟨a, b, c, e, f, g⟩ := y
              unfold tqA
              rw [hy]
              dsimp only at hy1 y2 y3
              subst hy1 y2 y3
              rfl
            rw [c5]
        | false =>
          rw [htn, cond_false] at hF
          simp only [List.length_cons, List.length_append] at hF
          rw [cond_false]
          obtain ⟨p, q, hp, hpc⟩ := hh n j h2
          refine fin _ ?_ (by omega) (hk n j F _ acc h2 ha (by omega) ho')
          rw [hp]
          show decide ((col : Int) < p.2.2.1) = true
          rw [hpc]; exact dec_t (by omega)
theorem wq1bt : ∀ (f : Nat) (nd : List Nd) (n m col : Nat), walkS f nd n = some m → ∃ p r, pcS f nd n col = p :: r ∧ p.2.2.1 = (col : Int) ∧ 1 ≤ p.1 ∧ p.1 ≤ 3
  | 0, nd, n, m, col, h => by rw [walkS] at h; cases h
  | f + 1, nd, n, m, col, h => by
    obtain ⟨x, hx, hf, h⟩ := wqh8 h
    rw [pcS, hx]
    dsimp only
    cases h1 : x.1 == 1 with
    | true => exact ⟨_, _, rfl, rfl, (show (1 : Int) ≤ 3 from by decide), (show (3 : Int) ≤ 3 from by decide)⟩
    | false =>
      simp only [cond_false]
      cases h2 : x.1 == 2 with
      | true =>
        obtain ⟨_, l2, _, _⟩ := wqun hf h2
        cases hk : x.2.2.2.2.2 with
        | nil => exact absurd hk l2
        | cons k r => simp only [cond_true, pcL]; exact ⟨_, _, rfl, rfl, (show (1 : Int) ≤ 1 from by decide), (show (1 : Int) ≤ 3 from by decide)⟩
      | false =>
        obtain ⟨_, k2, k3, _, _, k6⟩ := wqt1 hf h1 h2
        cases hk : x.2.2.2.2.2 with
        | nil => exact absurd hk k3
        | cons k r =>
          rw [hk] at k2
          cases hq : x.2.2.2.2.1 with
          | nil => rw [hq] at k2; cases k2
          | cons key ks => simp only [cond_false, pcM]; exact ⟨_, _, rfl, rfl, (show (1 : Int) ≤ 2 from by decide), (show (2 : Int) ≤ 3 from by decide)⟩
theorem set_at {acc X : List Nd} {ph z : Nd} {n : Nat} (h : acc.length = n) : ((acc ++ [ph]) ++ X).set n z = acc ++ z :: X := by
  subst h
  rw [List.append_assoc, List.set_append_right _ _ (Nat.le_refl _), Nat.sub_self]
  rfl
theorem wq1bu : ∀ (f : Nat) (nd : List Nd) (hnd : nd.length ≤ 2000) (n m col d F : Nat) (rest : List Pc) (acc : List Nd), walkS f nd n = some m → acc.length = n → d + f = 25 → 2 * (pcS f nd n col).length + 2 ≤ F → OutC col rest →
    blkS F (pcS f nd n col ++ rest) acc d = .inr (rest, acc ++ slN nd n m)
  | 0, nd, hnd, n, m, col, d, F, rest, acc, h, ha, hd, hF, ho => by rw [walkS] at h; cases h
  | f + 1, nd, hnd, n, m, col, d, 0, rest, acc, h, ha, hd, hF, ho => by omega
  | f + 1, nd, hnd, n, m, col, d, F + 1, rest, acc, h, ha, hd, hF, ho => by
    have hle := wqpt _ _ _ _ h
    obtain ⟨p, q, hp, hpc, hp1, hp3⟩ := wq1bt (f + 1) nd n m col h
    obtain ⟨x, hx, hf, h⟩ := wqh8 h
    have hn := (List.getElem?_eq_some_iff.1 hx).1
    have c1 : (decide (p.1 < 1) || decide (p.1 > 3)) = false := by rw [dec_f (by omega), dec_f (by omega)]; rfl
    have c2 : decide (24 < d) = false := dec_f (by omega)
    have c3 : decide (2000 ≤ acc.length) = false := dec_f (by omega)
    have hnm := wqrk (fun a b => wqps f nd a b) _ _ _ h
    have hcut : slN nd n m = erN x :: slN nd (n + 1) m := by rw [← wq1bq (b := n + 1) (by omega) (by omega), wq1du hx]; rfl
    have hw : ∀ a b, walkS f nd a = some b → a < b ∧ b ≤ nd.length := fun a b hab => ⟨wqps f nd a b hab, wqpt f nd a b hab⟩
    have hh : ∀ a b, walkS f nd a = some b → ∃ p r, pcS f nd a (col + 2) = p :: r ∧ p.2.2.1 = ((col + 2 : Nat) : Int) := fun a b hab => by
      obtain ⟨p, r, e1, e2, _⟩ := wq1bt f nd a b (col + 2) hab
      exact ⟨p, r, e1, e2⟩
    have hk : ∀ (a b F : Nat) (rest : List Pc) (acc : List Nd), walkS f nd a = some b → acc.length = a → 2 * (pcS f nd a (col + 2)).length + 2 ≤ F → OutC (col + 2) rest → blkS F (pcS f nd a (col + 2) ++ rest) acc (d + 1) = .inr (rest, acc ++ slN nd a b) :=
      fun a b F rest acc h1 h2 h3 h4 => wq1bu f nd hnd a b (col + 2) (d + 1) F rest acc h1 h2 (by omega) h3 h4
    have hpc0 : pcS (f + 1) nd n col = bif x.1 == 1 then [(3, 0, (col : Int), x.2.2.1, x.2.2.2.1)] else bif x.1 == 2 then pcL (fun k => pcS f nd k (col + 2)) col x.2.2.2.2.2
      else pcM (fun k => pcS f nd k (col + 2)) (isT nd) (tqA nd) col x.2.2.2.2.1 x.2.2.2.2.2 := by rw [pcS, hx]
    rw [hp, List.cons_append, blkS, c1, c2, c3, cond_false, cond_false, cond_false, hcut]
    cases h1 : x.1 == 1 with
    | true =>
      obtain ⟨y2, y3, _, _⟩ := wqk9 hf h1
      rw [hp, h1, cond_true] at hpc0
      injection hpc0 with e1 e2
      subst e1 e2
      have c4 : ((3 : Int) == 3) = true := rfl
      dsimp only
      rw [c4, cond_true]
      have hm : m = n + 1 := by rw [y3, kidsW] at h; cases h; rfl
      have c5 : erN x = (1, 0, x.2.2.1, x.2.2.2.1, [], []) := by
        obtain ⟨a, b, c, e, f, g⟩ := x
        have : a = 1 := by simpa using h1
        dsimp only at y2 y3
        subst this y2 y3
        rfl
      rw [c5, hm, wq1br]
      rfl
    | false =>
      cases h2 : x.1 == 2 with
      | true =>
        obtain ⟨l1, l2, l3, l4⟩ := wqun hf h2
        rw [h1, h2, cond_false, cond_true] at hpc0
        have hF' : 2 * (pcL (fun k => pcS f nd k (col + 2)) col x.2.2.2.2.2).length + 1 ≤ F := by rw [← hpc0]; omega
        have := wq1dv (nd := nd) (gp := fun k => pcS f nd k (col + 2)) (w := walkS f nd) (col := col) (d := d) (fun a b hab => ⟨Nat.le_of_lt (hw a b hab).1, (hw a b hab).2⟩) hh hk x.2.2.2.2.2 (n + 1) m F n rest (acc ++ [(0, 0, [], false, [], [])]) [] h (by simp [ha]) (by omega) hF' ho
        rw [← hpc0, hp] at this
        have e3 : p = (1, 0, (col : Int), [], false) := by
          rw [hp] at hpc0
          cases hkk : x.2.2.2.2.2 with
          | nil => exact absurd hkk l2
          | cons k r => rw [hkk, pcL] at hpc0; injection hpc0
        subst e3
        have c4 : ((1 : Int) == 3) = false := rfl
        dsimp only
        rw [c4, cond_false, ha]
        refine Eq.trans this ?_
        rw [set_at ha]
        have c5 : erN x = (2, 0, [], false, [], x.2.2.2.2.2) := by
          obtain ⟨a, b, c, e, f, g⟩ := x
          have : a = 2 := by simpa using h2
          dsimp only at l1 l3 l4
          subst this l1 l3 l4
          rfl
        rw [c5]; rfl
      | false =>
        obtain ⟨k1, k2, k3, k4, k5, k6⟩ := wqt1 hf h1 h2
        rw [h1, h2, cond_false, cond_false] at hpc0
        have hF' : 2 * (pcM (fun k => pcS f nd k (col + 2)) (isT nd) (tqA nd) col x.2.2.2.2.1 x.2.2.2.2.2).length + 1 ≤ F := by rw [← hpc0]; omega
        have ht : ∀ a b, walkS f nd a = some b → isT nd a = true → ∃ y, nd[a]? = some y ∧ y.1 = 1 ∧ fitN y = true ∧ b = a + 1 := by
          intro a b hab hta
          cases f with
          | zero => rw [walkS] at hab; cases hab
          | succ f =>
            obtain ⟨y, hy, hfy, hb⟩ := wqh8 hab
            rw [isT_at hy] at hta
            obtain ⟨_, y3, _, _⟩ := wqk9 hfy hta
            rw [y3, kidsW] at hb
            cases hb
            exact ⟨y, hy, by simpa using hta, hfy, rfl⟩
        cases f with
        | zero =>
          exfalso
          cases hkk : x.2.2.2.2.2 with
          | nil => exact absurd hkk k3
          | cons k r =>
            rw [hkk, kidsW] at h
            cases h5 : k == ((n + 1 : Nat) : Int) with
            | false => rw [h5] at h; cases h
            | true => rw [h5, cond_true, walkS] at h; cases h
        | succ f =>
        have := map_pc hnd (gp := fun k => pcS (f + 1) nd k (col + 2)) (w := walkS (f + 1) nd) (col := col) (d := d) (by omega) hw hh ht hk x.2.2.2.2.1 x.2.2.2.2.2 (n + 1) m F n rest (acc ++ [(0, 0, [], false, [], [])]) [] [] h k2 k6 (by simp [ha]) (by omega) hF' ho
        rw [← hpc0, hp] at this
        have e3 : ∃ t, p = (2, 0, (col : Int), t, false) := by
          rw [hp] at hpc0
          cases hkk : x.2.2.2.2.2 with
          | nil => exact absurd hkk k3
          | cons k r =>
            cases hq : x.2.2.2.2.1 with
            | nil => rw [hq, hkk] at k2; cases k2
            | cons key ks => rw [hkk, hq, pcM] at hpc0; injection hpc0 with e _; exact ⟨_, e⟩
        obtain ⟨t, rfl⟩ := e3
        have c4 : ((2 : Int) == 3) = false := rfl
        dsimp only
        rw [c4, cond_false, ha]
        refine Eq.trans this ?_
        rw [set_at ha]
        have c5 : erN x = (3, 0, [], false, x.2.2.2.2.1, x.2.2.2.2.2) := by
          obtain ⟨a, b, c, e, f, g⟩ := x
          dsimp only at k1 k4 k5
          subst k1 k4 k5
          rfl
        rw [c5]; rfl
theorem wq1dw : ∀ {ls : List (List UInt8)} {l : List UInt8}, l ∈ ls → l.length ≤ (catL ls).length
  | a :: ls, l, h => by
    rw [catL, List.length_append, List.length_cons]
    rcases List.mem_cons.1 h with rfl | h
    · omega
    · have := wq1dw h; omega
theorem wq1ct (k : Nat) (nd : List Nd) (hc : checkS nd = true) (hl : (textS 24 nd 0 0).length < k) : ∃ x, docS (linesS k (spl (textS 24 nd 0 0)) 1 []) = .inr x ∧ x.map erN = nd.map erN := by
  have hc1 := hc
  unfold checkS at hc1
  simp only [Bool.and_eq_true, decide_eq_true_eq, beq_iff_eq] at hc1
  obtain ⟨_, hnd, hw⟩ := hc1
  obtain ⟨_, b2, b3, b4⟩ := wq1bp 24 nd 0 nd.length 0 hw (by omega)
  have e0 : blS 0 = [] := rfl
  rw [e0, List.nil_append] at b2
  have hgood : ∀ r ∈ lnS 24 nd 0 0, GL r.2 ∧ r.2.length < k := by
    intro r hr
    refine ⟨b3 r hr, ?_⟩
    have := wq1dw (List.mem_map_of_mem (f := full) hr)
    rw [← b2] at this
    have e : (full r).length = r.1 + r.2.length := by unfold full blS; simp
    omega
  rw [b2, wq1be _ (by
    intro l hl
    obtain ⟨r, hr, rfl⟩ := List.mem_map.1 hl
    unfold full
    exact wq1fi (by rw [wqfv, wq1bf, (b3 r hr).ctl]; rfl)), wq13z k (by omega) _ 1 [] hgood, List.nil_append]
  have ha := wq1dl (rawR 1 (lnS 24 nd 0 0)) []
  rw [wq1dn, List.map_nil] at ha
  have hb := b4 []
  rw [hb, List.nil_append] at ha
  have h1 : (allS (rawR 1 (lnS 24 nd 0 0)) []).2.1 = 0 := (congrArg (fun r : Res => r.2.1) ha).symm
  have h2 : (allS (rawR 1 (lnS 24 nd 0 0)) []).1.map er = pcS 24 nd 0 0 := (congrArg (fun r : Res => r.1) ha).symm
  unfold docS
  have e3 : ((0 : Int) != 0) = false := rfl
  dsimp only
  rw [h1, e3, cond_false]
  refine ofS_er ?_
  rw [h2]
  obtain ⟨p, q, hp, _⟩ := wq1bt 24 nd 0 nd.length 0 hw
  have hbl := wq1bu 24 nd hnd 0 nd.length 0 1 (2 * (q.length + 1) + 2) [] [] hw rfl (by omega) (by rw [hp, List.length_cons]; omega) (fun y r h => by cases h)
  rw [hp] at hbl ⊢
  rw [List.append_nil] at hbl
  rw [ofS, hbl]
  dsimp only
  have : slN nd 0 nd.length = nd.map erN := by unfold slN; simp
  rw [List.nil_append, this]
theorem wq1dx : ∀ {x y : List Nd}, x.map erN = y.map erN → sameS x y = true
  | [], [], _ => rfl
  | [], _ :: _, h => by cases h
  | _ :: _, [], h => by cases h
  | a :: x, b :: y, h => by
    rw [List.map_cons, List.map_cons] at h
    injection h with h1 h2
    obtain ⟨a1, a2, a3⟩ := a
    obtain ⟨b1, b2, b3⟩ := b
    simp only [erN, Prod.mk.injEq] at h1
    obtain ⟨rfl, _, rfl⟩ := h1
    rw [sameS, wq1dx h2]
    simp [sameN]
theorem wq1cu (l : List UInt8) : ∃ z : List UInt8, l = rt l ++ z ∧ z.all (· == 32) = true := by
  refine ⟨(l.reverse.takeWhile (· == 32)).reverse, ?_, ?_⟩
  · unfold rt
    rw [← List.reverse_append, List.takeWhile_append_dropWhile, List.reverse_reverse]
  · rw [List.all_reverse]
    exact List.all_takeWhile
theorem wq1dy (p : UInt8 → Bool) : ∀ l : List UInt8, (l.dropWhile p).dropWhile p = l.dropWhile p
  | [] => rfl
  | x :: r => by
    rw [List.dropWhile_cons]
    cases h : p x with
    | true => exact wq1dy p r
    | false =>
      simp only [Bool.false_eq_true, if_false]
      rw [List.dropWhile_cons, h]; rfl
theorem wq1hc (l : List UInt8) : rt (rt l) = rt l := by
  unfold rt
  rw [List.reverse_reverse, wq1dy]
theorem wq17n (c : UInt8) : ∀ (r : List UInt8) (i j n : Nat), qS c r i = some j → j < i + n → qS c (r.take n) i = some j
  | [], i, j, n, h, _ => by cases h
  | [x], i, j, 0, h, hj => by have := wqk8 c _ _ _ h; omega
  | [x], i, j, n + 1, h, hj => by simpa using h
  | x :: y :: r, i, j, 0, h, hj => by have := wqk8 c _ _ _ h; omega
  | x :: y :: r, i, j, 1, h, hj => by
    rw [qS] at h
    show qS c [x] i = some j
    rw [qS]
    cases h1 : (c == 34 && x == 92) <;> rw [h1] at h <;> simp only [cond_true, cond_false] at h ⊢
    · cases h2 : (x == c) <;> rw [h2] at h <;> simp only [Bool.not_true, Bool.not_false, cond_true, cond_false] at h ⊢
      · have := wqk8 c _ _ _ h; omega
      · cases h3 : (c == 39 && y == c) <;> rw [h3] at h <;> simp only [cond_true, cond_false] at h
        · exact h
        · have := wqk8 c _ _ _ h; omega
    · have := wqk8 c _ _ _ h; omega
  | x :: y :: r, i, j, n + 2, h, hj => by
    rw [qS] at h
    show qS c (x :: y :: r.take n) i = some j
    rw [qS]
    cases h1 : (c == 34 && x == 92) <;> rw [h1] at h <;> simp only [cond_true, cond_false] at h ⊢
    · cases h2 : (x == c) <;> rw [h2] at h <;> simp only [Bool.not_true, Bool.not_false, cond_true, cond_false] at h ⊢
      · exact wq17n c (y :: r) (i + 1) j (n + 1) h (by omega)
      · cases h3 : (c == 39 && y == c) <;> rw [h3] at h <;> simp only [cond_true, cond_false] at h ⊢
        · exact h
        · exact wq17n c r (i + 2) j n h (by omega)
    · exact wq17n c r (i + 2) j n h (by omega)
theorem wq17o (c : UInt8) (s : List UInt8) : ∀ (r : List UInt8) (i j : Nat), s.drop i = r → qS c r i = some j → s.getD j 0 = c
  | [], i, j, _, h => by cases h
  | [x], i, j, hs, h => by
    obtain ⟨_, g, _⟩ := wqi hs
    rw [qS] at h
    cases h1 : (c == 34 && x == 92) <;> rw [h1] at h <;> simp only [cond_true, cond_false] at h
    · cases h2 : (x == c) <;> rw [h2] at h <;> simp at h
      rw [← h, g]; exact beq_iff_eq.1 h2
    · cases h
  | x :: y :: r, i, j, hs, h => by
    obtain ⟨_, g, g2⟩ := wqi hs
    obtain ⟨_, _, g3⟩ := wqi g2
    rw [qS] at h
    cases h1 : (c == 34 && x == 92) <;> rw [h1] at h <;> simp only [cond_true, cond_false] at h
    · cases h2 : (x == c) <;> rw [h2] at h <;> simp only [Bool.not_true, Bool.not_false, cond_true, cond_false] at h
      · exact wq17o c s (y :: r) (i + 1) j g2 h
      · cases h3 : (c == 39 && y == c) <;> rw [h3] at h <;> simp only [cond_true, cond_false] at h
        · cases h; rw [g]; exact beq_iff_eq.1 h2
        · exact wq17o c s r (i + 2) j g3 h
    · exact wq17o c s r (i + 2) j g3 h
theorem wquo {s : List UInt8} {m i : Nat} (h : i < m) : (s.take m).getD i 0 = s.getD i 0 := by
  simp [List.getD, List.getElem?_take, h]
theorem wq1fp {s : List UInt8} {i j m : Nat} (h : qAt s i = some j) (hj : j < m) (hi : i < m) : qAt (s.take m) i = some j := by
  unfold qAt at h ⊢
  rw [wquo hi, List.drop_take]
  exact wq17n _ _ _ _ _ h (by omega)
theorem wq1bv {s : List UInt8} {m i : Nat} (h : i ≤ m) : fresh (s.take m) i = fresh s i := by
  unfold fresh
  by_cases h0 : i = 0
  · subst h0; rfl
  · rw [wquo (by omega)]
theorem stS_ge (s : List UInt8) : ∀ (n i e : Nat), stS s n i = some e → e = s.length ∨ i ≤ e
  | 0, i, e, h => by cases h; exact .inl rfl
  | n + 1, i, e, h => by
    rw [stS] at h
    cases h1 : Nat.ble s.length i <;> rw [h1] at h <;> simp only [cond_true, cond_false] at h
    · cases h2 : fresh s i <;> rw [h2] at h <;> simp only [Bool.not_true, Bool.not_false, cond_true, cond_false] at h
      · rcases stS_ge s n _ _ h with h | h
        · exact .inl h
        · exact .inr (by omega)
      · cases h3 : (s.getD i 0 == 35) <;> rw [h3] at h <;> simp only [cond_true, cond_false] at h
        · cases h4 : (s.getD i 0 == 39 || s.getD i 0 == 34) <;> rw [h4] at h <;> simp only [cond_true, cond_false] at h
          · rcases stS_ge s n _ _ h with h | h
            · exact .inl h
            · exact .inr (by omega)
          · cases hq : qAt s i with
            | none => rw [hq] at h; cases h
            | some j =>
              rw [hq] at h
              have := wqmu hq
              rcases stS_ge s n _ _ h with h | h
              · exact .inl h
              · exact .inr (by omega)
        · cases h; exact .inr (Nat.le_refl _)
    · cases h; exact .inl rfl
theorem wq1fq (s : List UInt8) (m e : Nat) (hm : m ≤ e) (he : e ≤ s.length) (hz : ∀ j, m ≤ j → j < e → s.getD j 0 = 32) : ∀ (n i : Nat), stS s n i = some e → i ≤ m → s.length < i + n → stS (s.take m) n i = some m := by
  have hml : (s.take m).length = m := by rw [List.length_take]; omega
  intro n
  induction n with
  | zero => intro i _ hi hn; omega
  | succ n ih =>
    intro i h hi hn
    rw [stS] at h ⊢
    rw [hml]
    by_cases hl : i < m
    · rw [ble_f hl, cond_false]
      rw [ble_f (by omega), cond_false] at h
      rw [wq1bv hi, wquo hl]
      cases hf : fresh s i with
      | false =>
        rw [hf, Bool.not_false, cond_true] at h
        rw [Bool.not_false, cond_true]
        exact ih (i + 1) h (by omega) (by omega)
      | true =>
        rw [hf, Bool.not_true, cond_false] at h
        rw [Bool.not_true, cond_false]
        cases h35 : s.getD i 0 == 35 with
        | true => rw [h35, cond_true] at h; cases h; omega
        | false =>
          rw [h35, cond_false] at h
          rw [cond_false]
          cases hq : (s.getD i 0 == 39 || s.getD i 0 == 34) with
          | false =>
            rw [hq, cond_false] at h
            rw [cond_false]
            exact ih (i + 1) h (by omega) (by omega)
          | true =>
            rw [hq, cond_true] at h
            rw [cond_true]
            cases ha : qAt s i with
            | none => rw [ha] at h; cases h
            | some j =>
              rw [ha] at h
              dsimp only at h
              have hb := wqmu ha
              have hsg := wq17o _ s _ (i + 1) j rfl ha
              have hne : s.getD j 0 ≠ 32 := by
                rw [hsg]
                intro e32
                rw [e32] at hq
                cases hq
              have hje : j + 1 ≤ e := by
                refine Classical.byContradiction fun hno => ?_
                have := stS_ge s n (j + 1) e h
                omega
              have hjm : j < m := by
                refine Classical.byContradiction fun hno => ?_
                exact hne (hz j (by omega) (by omega))
              rw [wq1fp ha hjm hl]
              exact ih (j + 1) h (by omega) (by omega)
    · rw [ble_t (by omega), cond_true]
theorem stS_le (s : List UInt8) : ∀ (n i e : Nat), stS s n i = some e → i ≤ s.length → e ≤ s.length
  | 0, i, e, h, hi => by cases h; exact Nat.le_refl _
  | n + 1, i, e, h, hi => by
    rw [stS] at h
    by_cases hl : i < s.length
    · rw [ble_f hl, cond_false] at h
      cases h2 : fresh s i <;> rw [h2] at h <;> simp only [Bool.not_true, Bool.not_false, cond_true, cond_false] at h
      · exact stS_le s n _ _ h (by omega)
      · cases h3 : (s.getD i 0 == 35) <;> rw [h3] at h <;> simp only [cond_true, cond_false] at h
        · cases h4 : (s.getD i 0 == 39 || s.getD i 0 == 34) <;> rw [h4] at h <;> simp only [cond_true, cond_false] at h
          · exact stS_le s n _ _ h (by omega)
          · cases hq : qAt s i with
            | none => rw [hq] at h; cases h
            | some j =>
              rw [hq] at h
              have := wqmu hq
              exact stS_le s n _ _ h (by omega)
        · cases h; omega
    · rw [ble_t (by omega), cond_true] at h
      cases h; exact Nat.le_refl _
theorem again (k : Nat) (s : List UInt8) (e : Nat) (hk : s.length < k) (h : stS s k 0 = some e) :
    ∃ m, m ≤ s.length ∧ rt (s.take e) = s.take m ∧ stS (s.take m) k 0 = some m ∧ rt (s.take m) = s.take m := by
  have he := stS_le s k 0 e h (by omega)
  obtain ⟨z, h1, h2⟩ := wq1cu (s.take e)
  have hlen := congrArg List.length h1
  rw [List.length_append, List.length_take] at hlen
  have hx : rt (s.take e) = s.take (rt (s.take e)).length := by
    have := congrArg (List.take (rt (s.take e)).length) h1
    rw [List.take_left' rfl, List.take_take] at this
    rw [show min (rt (s.take e)).length e = (rt (s.take e)).length by omega] at this
    exact this.symm
  refine ⟨(rt (s.take e)).length, by omega, hx, ?_, by rw [← hx, wq1hc]⟩
  refine wq1fq s _ e (by omega) he (fun j h3 h4 => ?_) k 0 h (by omega) (by omega)
  have hj : (s.take e).getD j 0 = z.getD (j - (rt (s.take e)).length) 0 := by
    conv => lhs; rw [h1]
    simp only [List.getD]
    rw [List.getElem?_append_right h3]
  rw [wquo h4] at hj
  rw [hj]
  have hlt : j - (rt (s.take e)).length < z.length := by omega
  have := List.all_eq_true.1 h2 (z.getD (j - (rt (s.take e)).length) 0) (by
    rw [List.getD, List.getElem?_eq_getElem hlt]
    exact List.getElem_mem hlt)
  exact beq_iff_eq.1 this
structure SL (c : List UInt8) : Prop where
  ctl : noCtl c = true
  rt : rt c = c
  st : stS c (c.length + 1) 0 = some c.length
theorem wq167 {p : List UInt8} (h : p.any bad = false) : noCtl p = true := by
  rw [noCtl, List.all_eq_true]
  intro x hx
  have := List.any_eq_false.1 h x hx
  rw [wq1dm] at this
  simpa using this
theorem wq1cv {p q : List UInt8} (h : noCtl p = true) (hs : ∀ x ∈ q, x ∈ p) : noCtl q = true := by
  rw [noCtl, List.all_eq_true] at h ⊢
  exact fun x hx => h x (hs x hx)
theorem wq1bw (k : Nat) : ∀ (ps : List (List UInt8)) (no : Nat) (acc : List Row), (∀ p ∈ ps, p.length < k) → (∀ r ∈ acc, SL r.2.2) → ∀ r ∈ (linesS k ps no acc).1, SL r.2.2
  | [], no, acc, hp, h => h
  | p :: ps, no, acc, hp, h => by
    rw [linesS]
    cases hb : p.any bad with
    | true => rw [cond_true]; intro r hr; cases hr
    | false =>
      rw [cond_false]
      have hl := wq161 p
      have hpk := hp p (by simp)
      cases hs : stS (lt32 p) k 0 with
      | none => intro r hr; cases hr
      | some e =>
        refine wq1bw k ps (no + 1) _ (fun q hq => hp q (by simp [hq])) fun r hr => ?_
        rcases List.mem_append.1 hr with hr | hr
        · exact h r hr
        · unfold rowL at hr
          cases hn : rt ((lt32 p).take e) == [] with
          | true => rw [hn] at hr; cases hr
          | false =>
            rw [hn, cond_false, List.mem_singleton] at hr
            subst hr
            obtain ⟨m, m1, m2, m3, m4⟩ := again k (lt32 p) e (by omega) hs
            have hlen : ((lt32 p).take m).length = m := by rw [List.length_take]; omega
            refine ⟨?_, ?_, ?_⟩
            · show noCtl (rt ((lt32 p).take e)) = true
              rw [m2]
              exact wq1cv (wq167 hb) fun x hx => (List.dropWhile_suffix (p := (· == (32 : UInt8)))).subset (List.mem_of_mem_take hx)
            · show rt (rt ((lt32 p).take e)) = rt ((lt32 p).take e)
              rw [m2, m4]
            · show stS (rt ((lt32 p).take e)) ((rt ((lt32 p).take e)).length + 1) 0 = some (rt ((lt32 p).take e)).length
              rw [m2, hlen, ← m3]
              exact wqx8 _ _ _ 0 (by omega) (by omega) (by omega)
theorem wq1cw {p c : List UInt8} (hp : p = [] ∨ ∃ p', p = p' ++ [32] ∧ p.all mild = true) (hc : c ≠ []) (h : SL (p ++ c)) : SL c := by
  rcases hp with rfl | ⟨p', hp, hm⟩
  · exact h
  · have h1 := h.ctl
    rw [wqfv, Bool.and_eq_true] at h1
    refine ⟨h1.2, ?_, ?_⟩
    · obtain ⟨l, x, rfl⟩ : ∃ l x, c = l ++ [x] := ⟨c.dropLast, c.getLast hc, (List.dropLast_concat_getLast hc).symm⟩
      have h2 := h.rt
      rw [← List.append_assoc, rt_cat] at h2
      rw [rt_cat]
      cases hx : x == 32 with
      | false => rfl
      | true =>
        rw [hx, cond_true] at h2
        have := rt_len (p ++ l)
        rw [h2] at this
        simp at this
        omega
    · have hg : ∀ j, j < p.length → mild ((p ++ c).getD j 0) = true := by
        intro j hj
        rw [List.getD, List.getElem?_append_left hj, List.getElem?_eq_getElem hj]
        exact List.all_eq_true.1 hm _ (List.getElem_mem _)
      have e := wq11e (p ++ c) p.length (c.length + 1) 0 (fun j _ hj => hg j (by omega)) (by simp)
      have e2 : stS (p ++ c) (c.length + 1) p.length = _ := wq11d (c := c) hp (c.length + 1) 0
      have h3 := h.st
      rw [List.length_append, show p.length + c.length + 1 = c.length + 1 + p.length by omega, e, Nat.zero_add, e2] at h3
      cases hs : stS c (c.length + 1) 0 with
      | none => rw [hs] at h3; cases h3
      | some x =>
        rw [hs] at h3
        simp only [Option.map_some, Option.some.injEq] at h3
        congr 1
        omega
theorem wq1dz : ∀ s : List UInt8, nb (s.drop (nb s)) = 0
  | [] => rfl
  | c :: r => by
    cases hc : c == 32 with
    | true =>
      have e : nb (c :: r) = nb r + 1 := by rw [wqhy, hc]; rfl
      rw [e, List.drop_succ_cons]
      exact wq1dz r
    | false =>
      have e : nb (c :: r) = 0 := by rw [wqhy, hc]; rfl
      rw [e, List.drop_zero, e]
theorem wq1e0 : ∀ s : List UInt8, s.take (nb s) = blS (nb s)
  | [] => rfl
  | c :: r => by
    cases hc : c == 32 with
    | true =>
      have e : nb (c :: r) = nb r + 1 := by rw [wqhy, hc]; rfl
      have : c = 32 := by simpa using hc
      rw [e, List.take_succ_cons, wq1e0 r, this]; rfl
    | false =>
      have e : nb (c :: r) = 0 := by rw [wqhy, hc]; rfl
      rw [e]; rfl
theorem wq1hd (n : Nat) : blS (n + 1) = blS n ++ [32] := List.replicate_succ'
theorem wq1he (n : Nat) : (blS n).all mild = true := List.all_eq_true.2 fun x hx => by rw [List.eq_of_mem_replicate hx]; rfl
def SF (s : List UInt8) : Prop := s = [] ∨ SL s
theorem wq1bx {p r : List UInt8} (hm : p.all mild = true) (hb : p = [] ∨ r = [] ∨ nb r ≠ 0) (h : SF (p ++ r)) : SF (r.drop (nb r)) ∧ nb (r.drop (nb r)) = 0 := by
  refine ⟨?_, wq1dz r⟩
  by_cases hr : r.drop (nb r) = []
  · exact .inl hr
  · refine .inr ?_
    have hs : SL (p ++ r) := by
      rcases h with h | h
      · have : r = [] := by have := congrArg List.length h; simp at this; exact this.2
        subst this
        exact absurd rfl hr
      · exact h
    have e : p ++ r = (p ++ r.take (nb r)) ++ r.drop (nb r) := by rw [List.append_assoc, List.take_append_drop]
    rw [e] at hs
    refine wq1cw ?_ hr hs
    rw [wq1e0]
    cases hn : nb r with
    | zero =>
      rcases hb with rfl | rfl | hb
      · exact .inl rfl
      · exact absurd rfl hr
      · exact absurd hn hb
    | succ n => exact .inr ⟨p ++ blS n, by rw [wq1hd, List.append_assoc], by rw [List.all_append, hm, wq1he]; rfl⟩
def PI (p : Pc) : Prop := p.1 = 1 ∨ (p.1 = 2 ∧ keyB p.2.2.2.1 = true) ∨ (p.1 = 3 ∧ p.2.2.2.1.length ≤ 200 ∧ (p.2.2.2.2 = true ∨ plainS p.2.2.2.1 = true))
theorem wq1fr {c : UInt8} {t : List UInt8} (h1 : (c == 39) = false) (h2 : (c == 34) = false) (h3 : oddB c = false) (h4 : dsh (c :: t) = false) (h5 : kS (c :: t) = 0) (h6 : (c :: t).length ≤ 200) (h7 : SL (c :: t)) (h8 : nb (c :: t) = 0) : plainS (c :: t) = true := by
  have e1 : stripB (c :: t) = true := by
    unfold stripB
    rw [h7.st]
    dsimp only
    rw [List.take_length, h7.rt]; simp
  have e2 : rowB (c :: t) = true := by
    have : rowR 0 0 (c :: t) = ([(3, 0, 0 + ((0 : Nat) : Int), c :: t, false)], 0, 0) := by
      rw [wq140 (by omega) (by omega), h8, List.drop_zero, rowS, h4, cond_false, endS, h5, txtS, h1, h2, h3, h4, h5, dec_f (show ¬ (0 : Nat) < 0 by omega), dec_f (show ¬ 200 < (c :: t).length by omega)]
      rfl
    unfold rowB
    rw [this]
    simp [oneP]
  unfold plainS
  rw [h7.ctl, e1, e2]; rfl
theorem wq1e1 (no col : Int) (out : List Pc) (x : Option (List UInt8 × List UInt8)) (ho : ∀ p ∈ out, PI p) : ∀ p ∈ (finQ no col out x).1, PI p := by
  unfold finQ
  cases x with
  | none => intro p hp; cases hp
  | some z =>
    obtain ⟨a, r⟩ := z
    dsimp only
    cases h1 : !(r == []) with
    | true => intro p hp; cases hp
    | false =>
      cases h2 : decide (200 < a.length) with
      | true => intro p hp; cases hp
      | false =>
        intro p hp
        simp only [cond_false] at hp
        rcases List.mem_append.1 hp with hp | hp
        · exact ho p hp
        · rw [List.mem_singleton] at hp
          subst hp
          have := of_decide_eq_false h2
          exact .inr (.inr ⟨rfl, by show a.length ≤ 200; omega, .inl rfl⟩)
theorem wq1e2 (no ind : Int) (n : Nat) (s : List UInt8) (out : List Pc) (hs : SF s) (hn : nb s = 0) (ho : ∀ p ∈ out, PI p) : ∀ p ∈ (txtS no ind n s out).1, PI p := by
  by_cases hk : (txtS no ind n s out).2.1 = 0
  · cases s with
    | nil => exact ho
    | cons c t =>
      cases h1 : c == 39 with
      | true => unfold txtS; dsimp only; rw [h1, cond_true]; exact wq1e1 _ _ _ _ ho
      | false =>
        cases h2 : c == 34 with
        | true => unfold txtS; dsimp only; rw [h1, h2, cond_false, cond_true]; exact wq1e1 _ _ _ _ ho
        | false =>
          rcases wq11f _ _ _ _ _ hk with ⟨h, _⟩ | ⟨a, e⟩ | ⟨c', t', hh, g1, g2, g3, g4, g5, g6, e⟩
          · cases h
          · exfalso
            unfold txtS at hk e
            dsimp only at hk e
            rw [h1, h2, cond_false, cond_false] at hk e
            cases h3 : (oddB c || (dsh (c :: t) || decide (0 < kS (c :: t)))) with
            | true => rw [h3, cond_true] at hk; cases hk
            | false =>
              rw [h3, cond_false] at hk e
              cases h4 : decide (200 < (c :: t).length) with
              | true => rw [h4, cond_true] at hk; cases hk
              | false =>
                rw [h4, cond_false] at e
                have := List.append_cancel_left e
                simp at this
          · injection hh with e1 e2
            subst e1 e2
            rw [e]
            intro p hp
            rcases List.mem_append.1 hp with hp | hp
            · exact ho p hp
            · rw [List.mem_singleton] at hp
              subst hp
              rcases hs with hs | hs
              · cases hs
              · exact .inr (.inr ⟨rfl, g6, .inr (wq1fr g1 g2 g3 g4 g5 g6 hs hn)⟩)
  · intro p hp
    exfalso
    unfold txtS at hk hp
    cases s with
    | nil => exact hk rfl
    | cons c t =>
      dsimp only at hk hp
      have fq : ∀ x, (finQ no (ind + (n : Int)) out x).2.1 ≠ 0 → (finQ no (ind + (n : Int)) out x).1 = [] := by
        intro x hx
        unfold finQ at hx ⊢
        cases x with
        | none => rfl
        | some z =>
          obtain ⟨a, r⟩ := z
          dsimp only at hx ⊢
          cases h1 : !(r == []) with
          | true => rfl
          | false =>
            cases h2 : decide (200 < a.length) with
            | true => rfl
            | false => rw [h1, h2, cond_false, cond_false] at hx; exact absurd rfl hx
      cases h1 : c == 39 with
      | true => rw [h1, cond_true] at hk hp; rw [fq _ hk] at hp; cases hp
      | false =>
        cases h2 : c == 34 with
        | true => rw [h1, h2, cond_false, cond_true] at hk hp; rw [fq _ hk] at hp; cases hp
        | false =>
          rw [h1, h2, cond_false, cond_false] at hk hp
          cases h3 : (oddB c || (dsh (c :: t) || decide (0 < kS (c :: t)))) with
          | true => rw [h3, cond_true] at hp; cases hp
          | false =>
            rw [h3, cond_false] at hk hp
            cases h4 : decide (200 < (c :: t).length) with
            | true => rw [h4, cond_true] at hp; cases hp
            | false => rw [h4, cond_false] at hk; exact hk rfl
theorem kS_pos {s : List UInt8} (h : 0 < kS s) : ∃ key r, s = key ++ 58 :: r ∧ kS s = key.length ∧ key.all sgn = true ∧ hd32 r = true := by
  cases hd : s.drop (s.takeWhile sgn).length with
  | nil => rw [kS_end hd] at h; omega
  | cons c r =>
    have e := kS_at hd
    cases hc : (c == 58 && hd32 r) with
    | false => rw [hc, cond_false] at e; omega
    | true =>
      rw [hc, cond_true] at e
      simp only [Bool.and_eq_true, beq_iff_eq] at hc
      obtain ⟨rfl, h2⟩ := hc
      refine ⟨s.takeWhile sgn, r, ?_, e, ?_, h2⟩
      · have h3 : s.takeWhile sgn = s.take (s.takeWhile sgn).length := List.prefix_iff_eq_take.1 (List.takeWhile_prefix sgn)
        conv => lhs; rw [← List.take_append_drop (s.takeWhile sgn).length s, hd]
        rw [← h3]
      · rw [List.all_eq_true]
        intro x hx
        obtain ⟨i, hi, rfl⟩ := List.mem_iff_getElem.1 hx
        have := tw_sgn s i hi
        rw [List.getD, List.getElem?_eq_getElem (Nat.lt_of_lt_of_le hi (tw_len s))] at this
        have e3 : (s.takeWhile sgn)[i]? = s[i]? := by
          have h3 : s.takeWhile sgn = s.take (s.takeWhile sgn).length := List.prefix_iff_eq_take.1 (List.takeWhile_prefix sgn)
          conv => lhs; rw [h3]
          rw [List.getElem?_take, if_pos hi]
        rw [List.getElem?_eq_getElem hi, List.getElem?_eq_getElem (Nat.lt_of_lt_of_le hi (tw_len s))] at e3
        injection e3 with e3
        rw [e3]
        exact this
theorem wq1hf (no ind : Int) (n : Nat) (s : List UInt8) (out : List Pc) (hs : SF s) (hn : nb s = 0) (ho : ∀ p ∈ out, PI p) : ∀ p ∈ (endS no ind n s out).1, PI p := by
  unfold endS
  cases h1 : decide (0 < kS s) with
  | false => rw [cond_false]; exact wq1e2 _ _ _ _ _ hs hn ho
  | true =>
    rw [cond_true]
    cases h2 : decide (64 < kS s) with
    | true => intro p hp; cases hp
    | false =>
      rw [cond_false]
      obtain ⟨key, r, e, e2, e3, e4⟩ := kS_pos (of_decide_eq_true h1)
      have hk : keyB key = true := by
        have h3 := of_decide_eq_true h1
        have h4 := of_decide_eq_false h2
        have h5 : (key == []) = false := by
          rw [beq_eq_false_iff_ne]
          intro h
          rw [h] at e2
          simp at e2
          omega
        unfold keyB
        rw [e3, h5, dec_t (by omega)]; rfl
      have hd : s.drop (kS s + 1) = r := by rw [e2, e, List.drop_append, List.drop_eq_nil_of_le (by omega)]; simp
      have ht : s.take (kS s) = key := by rw [e2, e]; simp
      rw [hd, ht]
      have hx : SF ((key ++ [58]) ++ r) := by rw [List.append_assoc, List.singleton_append, ← e]; exact hs
      obtain ⟨f1, f2⟩ := wq1bx (by rw [List.all_append, (wqhz hk).2.1]; rfl) (by
        cases r with
        | nil => exact .inr (.inl rfl)
        | cons c r =>
          have : c = 32 := by simpa [hd32] using e4
          subst this
          refine .inr (.inr ?_)
          rw [wqhy]
          show nb r + 1 ≠ 0
          omega) hx
      refine wq1e2 _ _ _ _ _ f1 f2 fun p hp => ?_
      rcases List.mem_append.1 hp with hp | hp
      · exact ho p hp
      · rw [List.mem_singleton] at hp
        subst hp
        exact .inr (.inl ⟨rfl, hk⟩)
theorem wq1e3 (no ind : Int) : ∀ (f n : Nat) (s : List UInt8) (out : List Pc), SF s → nb s = 0 → (∀ p ∈ out, PI p) → ∀ p ∈ (rowS no ind f n s out).1, PI p
  | 0, n, s, out, hs, hn, ho => ho
  | f + 1, n, s, out, hs, hn, ho => by
    rw [rowS]
    cases hd : dsh s with
    | false => rw [cond_false]; exact wq1hf _ _ _ _ _ hs hn ho
    | true =>
      rw [cond_true]
      obtain ⟨r, e, hr⟩ : ∃ r, s = 45 :: r ∧ hd32 r = true := by
        match s, hd with
        | [c], hd => have : c = 45 := by simpa [dsh] using hd
                     subst this; exact ⟨[], rfl, rfl⟩
        | c :: d :: r, hd =>
          simp only [dsh, Bool.and_eq_true, beq_iff_eq] at hd
          obtain ⟨rfl, rfl⟩ := hd
          exact ⟨_, rfl, rfl⟩
      subst e
      have e1 : (45 :: r).drop 1 = r := rfl
      rw [e1]
      obtain ⟨f1, f2⟩ := wq1bx (p := [45]) rfl (by
        cases r with
        | nil => exact .inr (.inl rfl)
        | cons c r =>
          have : c = 32 := by simpa [hd32] using hr
          subst this
          refine .inr (.inr ?_)
          rw [wqhy]
          show nb r + 1 ≠ 0
          omega) hs
      refine wq1e3 no ind f _ _ _ f1 f2 fun p hp => ?_
      rcases List.mem_append.1 hp with hp | hp
      · exact ho p hp
      · rw [List.mem_singleton] at hp
        subst hp
        exact .inl rfl
theorem wq1hg (no ind : Int) (s : List UInt8) (hs : SL s) : ∀ p ∈ (rowR no ind s).1, PI p := by
  unfold rowR
  cases (decide (ind < 0) || decide (16384 < ind)) with
  | true => intro p hp; cases hp
  | false =>
    rw [cond_false]
    obtain ⟨f1, f2⟩ := wq1bx (p := []) (r := s) rfl (.inl rfl) (.inr hs)
    exact wq1e3 no ind _ _ _ _ f1 f2 fun p hp => by cases hp
theorem wq1e4 : ∀ (ls : List Ln) (out : List Pc), (∀ l ∈ ls, SL l.2.2) → (∀ p ∈ out, PI p) → ∀ p ∈ (allS ls out).1, PI p
  | [], out, _, ho => ho
  | l :: r, out, h, ho => by
    rw [allS]
    cases (rowR l.1 l.2.1 l.2.2).2.1 != 0 with
    | true => intro p hp; cases hp
    | false =>
      rw [cond_false]
      refine wq1e4 r _ (fun x hx => h x (by simp [hx])) fun p hp => ?_
      rcases List.mem_append.1 hp with hp | hp
      · exact ho p hp
      · exact wq1hg _ _ _ (h l (by simp)) p hp
def Agr (N acc : List Nd) (a b : Nat) : Prop := ∀ i, a ≤ i → i < b → N[i]? = acc[i]?
theorem wq191 {acc acc' : List Nd} (h : acc'.take acc.length = acc) {i : Nat} (hi : i < acc.length) : acc'[i]? = acc[i]? := by
  conv => rhs; rw [← h]
  rw [List.getElem?_take, if_pos hi]
theorem wq1cx : ∀ f : Nat,
    (∀ l acc d l' acc', blkS f l acc d = .inr (l', acc') → (∀ p ∈ l, PI p) → acc.length ≤ 2000 → (∀ p ∈ l', p ∈ l) ∧ ∀ N, Agr N acc' acc.length acc'.length → walkS (25 - d) N acc.length = some acc'.length) ∧
    (∀ kd ln col n d l acc keys kids l' acc', kidsS f kd ln col n d l acc keys kids = .inr (l', acc') → (kd = 1 ∨ kd = 2) → (∀ p ∈ l, PI p) → n < acc.length → acc.length ≤ 2000 →
      (∀ p ∈ l', p ∈ l) ∧ (∀ i, i ≠ n → i < acc.length → acc'[i]? = acc[i]?) ∧ ∃ nk nd, acc'[n]? = some ((bif kd == 2 then 3 else 2 : Int), ln, [], false, keys ++ nk, kids ++ nd) ∧ (kd = 1 → nk = []) ∧ (kd = 2 → keysB keys nk = true ∧ nk.length = nd.length) ∧
        (nextS l kd col = true → nd ≠ []) ∧ ∀ N, Agr N acc' acc.length acc'.length → kidsW (walkS (24 - d) N) nd acc.length = some acc'.length) := by
  intro f
  induction f with
  | zero => exact ⟨fun l acc d l' acc' h => (by rw [blkS] at h; cases h), fun kd ln col n d l acc keys kids l' acc' h => (by rw [kidsS] at h; cases h)⟩
  | succ f ih =>
    obtain ⟨ihb, ihk⟩ := ih
    constructor
    · intro l acc d l' acc' h hp hl
      cases l with
      | nil => rw [blkS] at h; cases h
      | cons x r =>
        rw [blkS] at h
        cases h1 : (decide (x.1 < 1) || decide (x.1 > 3)) with
        | true => rw [h1, cond_true] at h; cases h
        | false =>
          rw [h1, cond_false] at h
          by_cases h2 : 24 < d
          · rw [dec_t h2, cond_true] at h; cases h
          · rw [dec_f h2, cond_false] at h
            by_cases h3 : 2000 ≤ acc.length
            · rw [dec_t h3, cond_true] at h; cases h
            · rw [dec_f h3, cond_false] at h
              have hd : 25 - d = (24 - d) + 1 := by omega
              cases h4 : x.1 == 3 with
              | true =>
                rw [h4, cond_true] at h
                cases h
                refine ⟨fun p hp' => List.mem_cons_of_mem _ hp', fun N hN => ?_⟩
                have hx := hN acc.length (Nat.le_refl _) (by simp)
                rw [List.getElem?_append_right (Nat.le_refl _), Nat.sub_self] at hx
                rw [hd, walkS, hx]
                have e3 : x.1 = 3 := by simpa using h4
                have hfit : fitN (1, x.2.1, x.2.2.2.1, x.2.2.2.2, [], []) = true := by
                  rcases hp x (by simp) with h5 | ⟨h5, _⟩ | ⟨_, h6, h7⟩
                  · rw [e3] at h5; cases h5
                  · rw [e3] at h5; cases h5
                  · show (true && (true && (decide (x.2.2.2.1.length ≤ 200) && (x.2.2.2.2 || plainS x.2.2.2.1)))) = true
                    rw [dec_t h6]
                    rcases h7 with h7 | h7 <;> rw [h7] <;> simp
                show (bif fitN (1, x.2.1, x.2.2.2.1, x.2.2.2.2, [], []) then _ else none) = _
                rw [hfit, cond_true, kidsW]
                simp
              | false =>
                rw [h4, cond_false] at h
                have hk12 : x.1 = 1 ∨ x.1 = 2 := by
                  simp only [Bool.or_eq_false_iff, decide_eq_false_iff_not, beq_eq_false_iff_ne] at h1 h4
                  omega
                have ha1 : (acc ++ [((0 : Int), x.2.1, ([] : List UInt8), false, ([] : List (List UInt8)), ([] : List Int))]).length = acc.length + 1 := by simp
                obtain ⟨k1, k2, nk, nd, k3, k4, k5, k6, k7⟩ := ihk _ _ _ _ _ _ _ _ _ _ _ h hk12 hp (by rw [ha1]; omega) (by rw [ha1]; omega)
                obtain ⟨_, g2, _, _, _⟩ := (wqmb f).2 _ _ _ _ _ _ _ _ _ _ _ h (by rw [ha1]; omega) (by rw [ha1]; omega)
                rw [ha1] at g2 k7
                refine ⟨k1, fun N hN => ?_⟩
                have hx := hN acc.length (Nat.le_refl _) (by omega)
                rw [k3] at hx
                have hne := k6 (by simp [nextS])
                rw [hd, walkS, hx]
                have hfit : fitN ((bif x.1 == 2 then 3 else 2 : Int), x.2.1, [], false, [] ++ nk, [] ++ nd) = true := by
                  have hn2 : (nd == []) = false := by simpa using hne
                  rcases hk12 with e | e
                  · rw [e, k4 e]
                    show (true && (!(nd == []) && (true && !false))) = true
                    rw [hn2]; rfl
                  · obtain ⟨b1, b2⟩ := k5 e
                    rw [e]
                    show (decide (nk.length = nd.length) && (!(nd == []) && (true && (!false && keysB [] nk)))) = true
                    rw [hn2, b1, dec_t b2]; rfl
                show (bif fitN ((bif x.1 == 2 then 3 else 2 : Int), x.2.1, [], false, [] ++ nk, [] ++ nd) then _ else none) = _
                rw [hfit, cond_true]
                exact k7 N fun i h1 h2 => hN i (by omega) h2
    · intro kd ln col n d l acc keys kids l' acc' h hkd hp hn hl
      rw [wq7v] at h
      cases h1 : nextS l kd col with
      | false =>
        rw [h1, cond_false] at h
        cases h
        refine ⟨fun p hp => hp, fun i hi hi2 => List.getElem?_set_ne (Ne.symm hi), [], [], ?_, fun _ => rfl, fun _ => ⟨rfl, rfl⟩, (fun hh => by cases hh), fun N hN => ?_⟩
        · rw [List.getElem?_set_self hn, List.append_nil, List.append_nil]
        · rw [kidsW, List.length_set]
      | true =>
        obtain ⟨x, r, rfl, hx1, hx2⟩ := wqh7 h1
        rw [h1, cond_true] at h
        dsimp only at h
        cases h2 : (kd == 2 && anyK x.2.2.2.1 keys) with
        | true => rw [h2, cond_true] at h; cases h
        | false =>
          rw [h2, cond_false] at h
          cases h3 : deepS r x.2.2.1 with
          | false => rw [h3, cond_false] at h; cases h
          | true =>
            rw [h3, cond_true] at h
            cases hb : blkS f r acc (d + 1) with
            | inl e => rw [hb] at h; cases h
            | inr q =>
              obtain ⟨l1, acc1⟩ := q
              rw [hb] at h
              dsimp only at h
              obtain ⟨b1, b2, b3, b4⟩ := (wqmb f).1 _ _ _ _ _ hb hl
              obtain ⟨c1, c2⟩ := ihb _ _ _ _ _ hb (fun p hp' => hp p (List.mem_cons_of_mem _ hp')) hl
              obtain ⟨k1, k2, nk, nd, k3, k4, k5, k6, k7⟩ := ihk _ _ _ _ _ _ _ _ _ _ _ h hkd (fun p hp' => hp p (List.mem_cons_of_mem _ (c1 p hp'))) (by omega) b3
              obtain ⟨_, g2, _, _, _⟩ := (wqmb f).2 _ _ _ _ _ _ _ _ _ _ _ h (by omega) b3
              refine ⟨fun p hp' => List.mem_cons_of_mem _ (c1 p (k1 p hp')), fun i hi hi2 => (k2 i hi (by omega)).trans (wq191 b4 hi2), ?_⟩
              have fin : ∀ N, Agr N acc' acc.length acc'.length → kidsW (walkS (24 - d) N) ((acc.length : Int) :: nd) acc.length = some acc'.length := by
                intro N hN
                have e1 : walkS (24 - d) N acc.length = some acc1.length := by
                  have := c2 N fun i hi1 hi2 => (hN i hi1 (by omega)).trans (k2 i (by omega) hi2)
                  rw [show 25 - (d + 1) = 24 - d by omega] at this
                  exact this
                rw [kidsW, show (((acc.length : Nat) : Int) == ((acc.length : Nat) : Int)) = true by simp, cond_true, e1]
                exact k7 N fun i hi1 hi2 => hN i (by omega) hi2
              rcases hkd with e | e
              · subst e
                have e21 : ((1 : Int) == 2) = false := rfl
                rw [e21, cond_false] at k3
                refine ⟨nk, (acc.length : Int) :: nd, ?_, k4, ?_, ?_, fin⟩
                · rw [k3, List.append_assoc]; rfl
                · intro h; cases h
                · intro _ h; cases h
              · subst e
                have e21 : ((2 : Int) == 2) = true := rfl
                rw [e21, cond_true, cond_true] at k3
                rw [e21, Bool.true_and] at h2
                obtain ⟨d1, d2⟩ := k5 rfl
                rw [e21, cond_true] at d1
                refine ⟨x.2.2.2.1 :: nk, (acc.length : Int) :: nd, ?_, ?_, ?_, ?_, fin⟩
                · rw [k3, List.append_assoc, List.append_assoc]; rfl
                · intro h; cases h
                rotate_left
                · intro _ h; cases h
                · intro _
                  refine ⟨?_, by simp [d2]⟩
                  have hkey : keyB x.2.2.2.1 = true := by
                    rcases hp x (by simp) with h5 | ⟨_, h5⟩ | ⟨h5, _⟩
                    · rw [hx1] at h5; cases h5
                    · exact h5
                    · rw [hx1] at h5; cases h5
                  rw [keysB, hkey, h2, d1]; rfl
theorem wq192 (k : Nat) (s : List UInt8) (hs : s.length < k) {nd : List Nd} (h : docS (linesS k (spl s) 1 []) = .inr nd) : checkS nd = true := by
  unfold docS at h
  cases h1 : (linesS k (spl s) 1 []).2.1 != 0 with
  | true => rw [h1, cond_true] at h; cases h
  | false =>
    rw [h1, cond_false] at h
    cases h2 : (allS (linesS k (spl s) 1 []).1 []).2.1 != 0 with
    | true => rw [h2, cond_true] at h; cases h
    | false =>
      rw [h2, cond_false] at h
      have hp : ∀ p ∈ (allS (linesS k (spl s) 1 []).1 []).1, PI p := wq1e4 _ _ (wq1bw k _ _ _ (fun p hp => Nat.lt_of_le_of_lt (wq17b s p hp) hs) (fun r hr => by cases hr)) (fun p hp => by cases hp)
      unfold ofS at h
      cases hl : (allS (linesS k (spl s) 1 []).1 []).1 with
      | nil => rw [hl] at h; cases h
      | cons x r =>
        rw [hl] at h hp
        dsimp only at h
        cases hb : blkS (2 * (r.length + 1) + 2) (x :: r) [] 1 with
        | inl e => rw [hb] at h; cases h
        | inr q =>
          obtain ⟨l', nd'⟩ := q
          rw [hb] at h
          cases l' with
          | cons y l' => cases h
          | nil =>
            have e : nd' = nd := by injection h
            subst e
            obtain ⟨b1, b2, b3, b4⟩ := (wqmb _).1 _ _ _ _ _ hb (by simp)
            have hw := ((wq1cx _).1 _ _ _ _ _ hb hp (by simp)).2 nd' (fun i _ _ => rfl)
            simp only [List.length_nil] at b2 hw
            unfold checkS
            rw [dec_t (show 1 ≤ nd'.length by omega), dec_t b3]
            show (true && (true && (walkS 24 nd' 0 == some nd'.length))) = true
            rw [show (25 - 1 : Nat) = 24 from rfl] at hw
            rw [hw]; simp
theorem wq1e5 {w : Nat → Option Nat} : ∀ (l : List Int) (n m i : Nat), kidsW w l n = some m → n ≤ i → i < m → ∃ a b, w a = some b ∧ a ≤ i ∧ i < b
  | [], n, m, i, h, h1, h2 => by rw [kidsW] at h; cases h; omega
  | k :: r, n, m, i, h, h1, h2 => by
    rw [kidsW] at h
    cases hk : k == (n : Int) with
    | false => rw [hk] at h; cases h
    | true =>
      rw [hk, cond_true] at h
      cases hw : w n with
      | none => rw [hw] at h; cases h
      | some j =>
        rw [hw] at h
        by_cases hi : i < j
        · exact ⟨n, j, hw, h1, hi⟩
        · exact wq1e5 r j m i h (by omega) h2
theorem wq1e6 : ∀ (f : Nat) (nd : List Nd) (n m i : Nat), walkS f nd n = some m → n ≤ i → i < m → ∃ f' m', walkS (f' + 1) nd i = some m'
  | 0, nd, n, m, i, h, _, _ => by rw [walkS] at h; cases h
  | f + 1, nd, n, m, i, h, h1, h2 => by
    by_cases hi : i = n
    · subst hi; exact ⟨f, m, h⟩
    · obtain ⟨x, hx, hf, h⟩ := wqh8 h
      obtain ⟨a, b, e1, e2, e3⟩ := wq1e5 _ _ _ _ h (by omega) h2
      exact wq1e6 f nd a b i e1 e2 e3
theorem wq1fs {nd : List Nd} (h : checkS nd = true) : nd.length ≤ 2000 ∧ ∀ x ∈ nd, x.2.2.1.length ≤ 200 ∧ x.2.2.2.2.1.length ≤ 2000 ∧ x.2.2.2.2.2.length ≤ 2000 ∧ (∀ q ∈ x.2.2.2.2.1, q.length ≤ 64) := by
  unfold checkS at h
  simp only [Bool.and_eq_true, decide_eq_true_eq, beq_iff_eq] at h
  obtain ⟨_, h2, h3⟩ := h
  refine ⟨h2, fun x hx => ?_⟩
  obtain ⟨i, hi, rfl⟩ := List.mem_iff_getElem.1 hx
  obtain ⟨f', m', hw⟩ := wq1e6 _ _ _ _ i h3 (Nat.zero_le _) hi
  have hle := wqpt _ _ _ _ hw
  obtain ⟨y, hy, hf, hk⟩ := wqh8 hw
  have e : nd[i] = y := by rw [List.getElem?_eq_getElem hi] at hy; injection hy
  rw [e]
  have hm := wqrk (fun a b => wqps f' nd a b) _ _ _ hk
  cases h4 : y.1 == 1 with
  | true =>
    obtain ⟨a1, a2, a3, _⟩ := wqk9 hf h4
    rw [a1, a2]
    exact ⟨a3, by simp, by simp, fun q hq => by cases hq⟩
  | false =>
    cases h5 : y.1 == 2 with
    | true =>
      obtain ⟨a1, _, a3, _⟩ := wqun hf h5
      rw [a1, a3]
      exact ⟨by simp, by simp, by omega, fun q hq => by cases hq⟩
    | false =>
      obtain ⟨_, a2, _, a4, _, a6⟩ := wqt1 hf h4 h5
      rw [a4]
      exact ⟨by simp, by omega, by omega, fun q hq => (wqhz (wqme _ _ a6 q hq)).2.2.2.2.2⟩
end Go.Proofs.YtdfhgimidmfgfaaGreatDoor.Pvm
set_option maxRecDepth 1000000
set_option maxHeartbeats 0
noncomputable section
namespace Go.Proofs.YtdfhgimidmfgfaaGreatDoor.Pvm
open Go Go.Proofs
end Go.Proofs.YtdfhgimidmfgfaaGreatDoor.Pvm
end


noncomputable section
namespace Go.Proofs.YtdfhgimidmfgfaaGreatDoor.Pvm
open Go Go.Proofs
end Go.Proofs.YtdfhgimidmfgfaaGreatDoor.Pvm
end


noncomputable section
namespace Go.Proofs.YtdfhgimidmfgfaaGreatDoor.Pvm
open Go Go.Proofs
end Go.Proofs.YtdfhgimidmfgfaaGreatDoor.Pvm
end


noncomputable section
namespace Go.Proofs.YtdfhgimidmfgfaaGreatDoor.Pvm
open Go Go.Proofs
end Go.Proofs.YtdfhgimidmfgfaaGreatDoor.Pvm
end


noncomputable section
namespace Go.Proofs.YtdfhgimidmfgfaaGreatDoor.Pvm
open Go Go.Proofs
end Go.Proofs.YtdfhgimidmfgfaaGreatDoor.Pvm
end


noncomputable section
namespace Go.Proofs.YtdfhgimidmfgfaaGreatDoor.Pvm
open Go Go.Proofs
end Go.Proofs.YtdfhgimidmfgfaaGreatDoor.Pvm
end


namespace Go.Proofs.YtdfhgimidmfgfaaGreatDoor.Pvm
open Go
theorem ctl_at (c : UInt8) : (bif decide ((c.toNat : Int) < 32) then true else (c.toNat : Int) == 127) = ctl c := by
  have e5 : ((c.toNat : Int) == 127) = (c == 127) := u8_beq c 127 (by omega)
  have e6 : decide ((c.toNat : Int) < 32) = decide (c.toNat < 32) := by rw [Bool.eq_iff_iff]; simp; omega
  rw [e5, e6, Bool.cond_true_left]; rfl
theorem wq1cy {R : Type} (k : Nat) (s : List UInt8) (hs : s.length ≤ 200) (hk : 300 < k) (K : List UInt8 → Bool → Option R) : stK s K (stS s k 0) = stK s K (stS s (s.length + 1) 0) := by
  rw [wqx8 s k (s.length + 1) 0 (by omega) (by omega) (by omega)]
theorem wqnw (k : Nat) {R : Type} (s : List UInt8) (hs : s.length ≤ 200) (hk : 300 < k) (K : Bool → Option R) : ∀ (t : List UInt8) (n m : Nat), s.drop n = t → t.length < m → n ≤ s.length →
    wq5j k m s (s.length : Int) (n : Int) K = K (noCtl t && (!(s == []) && (stripB s && rowB s)))
  | t, n, 0, _, hm, _ => by omega
  | [], n, m + 1, hd, hm, hn => by
    have := wq1f hd
    rw [wq5j, wq9y, wqtv k s (by omega) (by omega), wq1cy k s hs hk]
    simp (disch := omega) only [dec_t, dec_f, ieq_t, ieq_f, ine_t, ine_f, inb_t, bnd_t, wqd, wqb, cond_true, cond_false, Bool.not_true, Bool.not_false, Bool.true_or, Bool.or_true, Bool.false_or, Bool.or_false, Bool.true_and, Bool.and_true, Bool.false_and, Bool.and_false, wq1, wq0, wq2]
    have e0 : noCtl [] = true := rfl
    rw [e0, Bool.true_and]
    unfold stripB
    cases hst : stS s (s.length + 1) 0 with
    | none => simp only [stK]; cases s == [] <;> rfl
    | some e =>
      simp only [stK]
      cases h1 : s == [] with
      | true => rfl
      | false =>
        cases h2 : rt (s.take e) == s with
        | false => rfl
        | true =>
          simp only [Bool.not_true, Bool.not_false, cond_true, cond_false, Bool.true_and]
          rw [wq13s k 0 0 s _ (by omega) (by omega)]
          unfold rowB
          obtain ⟨l, a, b⟩ := rowR 0 0 s
          dsimp only
          cases h3 : a == 0 with
          | false => rfl
          | true =>
            match l with
            | [] => rfl
            | [p] =>
              have e1 : ((([p] : List Pc).length : Int) == 1) = true := rfl
              have e2 : inb 0 (([p] : List Pc).length : Int) = true := rfl
              have e3 : ∀ z, ([p] : List Pc).getD (Int.toNat 0) z = p := fun _ => rfl
              simp only [e1, e2, e3, cond_true, Bool.or_true, oneP, Bool.true_and]
              cases p.1 == 3 <;> cases p.2.2.2.1 == s <;> rfl
            | p :: q :: r =>
              have e1 : (((p :: q :: r : List Pc).length : Int) == 1) = false := ieq_f (by simp; omega)
              simp only [e1, cond_true, cond_false]
              rfl
  | c :: r, n, m + 1, hd, hm, hn => by
    obtain ⟨hlt, hc, hr⟩ := wqi hd
    rw [wq5j, wq9y]
    simp (disch := omega) only [dec_t, dec_f, ieq_t, ieq_f, ine_t, ine_f, inb_t, bnd_t, wqd, wqb, cond_true, cond_false, Bool.not_true, Bool.not_false, Bool.true_or, Bool.or_true, Bool.false_or, Bool.or_false, Bool.true_and, Bool.and_true, Bool.false_and, Bool.and_false, wq1, wq0, wq2, hc, ctl_at, wq1l]
    have e0 : noCtl (c :: r) = (!ctl c && noCtl r) := rfl
    rw [e0]
    cases ctl c with
    | true => rfl
    | false =>
      simp only [cond_false, Bool.not_false, Bool.true_and]
      exact wqnw k s hs hk K r (n + 1) m hr (by simp at hm; omega) (by omega)
theorem wq141 (k : Nat) {R : Type} (s : List UInt8) (hs : s.length ≤ 200) (hk : 300 < k) (K : Bool → Option R) : wqgv k s K = K (plainS s) := by
  unfold wqgv wqp1
  exact wqnw k s hs hk K s 0 k rfl (by omega) (by omega)
theorem wq17p (t q : List UInt8) : ∀ l : List (List UInt8), anyK t (l ++ [q]) = (anyK t l || (t == q))
  | [] => by simp [anyK]
  | x :: l => by rw [List.cons_append, anyK, anyK, wq17p t q l, Bool.or_assoc]
theorem wq17q (key t : List UInt8) : ∀ es : List (List UInt8 × Bool), mget .bool t (mset .bool key true es) = (mget .bool t es || (t == key))
  | [] => by
    rw [mset, mget, mget]
    cases t == key <;> rfl
  | (k, x) :: r => by
    rw [mset]
    cases h1 : key == k with
    | true =>
      have : key = k := by simpa using h1
      subst this
      rw [cond_true, mget, mget]
      cases t == key <;> simp
    | false =>
      rw [cond_false, mget, mget, wq17q key t r]
      cases h2 : t == k with
      | false => rfl
      | true =>
        have : t = k := by simpa using h2
        subst this
        have : (t == key) = false := by
          rw [beq_eq_false_iff_ne] at h1 ⊢
          exact fun e => h1 e.symm
        rw [this]; simp
theorem wqnx (k : Nat) {R : Type} (keys : List (List UInt8)) (hk : keys.length ≤ 4000) (hq : ∀ q ∈ keys, q.length ≤ 4000) (hk2 : 5000 < k) (K : Bool → Option R) : ∀ (t : List (List UInt8)) (n m : Nat) (es : List (List UInt8 × Bool)) (l : List (List UInt8)),
    keys.drop n = t → t.length < m → n ≤ keys.length → (∀ q, mget .bool q es = anyK q l) → wq5i k m es keys (keys.length : Int) (n : Int) K = K (keysB l t)
  | t, n, 0, es, l, _, hm, _, _ => by omega
  | [], n, m + 1, es, l, hd, hm, hn, he => by
    have := wq1f hd
    rw [wq5i, wq9x]
    simp (disch := omega) only [dec_t, dec_f, ieq_t, ieq_f, ine_t, ine_f, inb_t, bnd_t, wqd, wqb, cond_true, cond_false, Bool.not_true, Bool.not_false, Bool.true_or, Bool.or_true, Bool.false_or, Bool.or_false, Bool.true_and, Bool.and_true, Bool.false_and, Bool.and_false, wq1, wq0, wq2]
    rfl
  | c :: r, n, m + 1, es, l, hd, hm, hn, he => by
    obtain ⟨hlt, hc, hr⟩ := wqi hd
    have hcl := hq c (List.mem_of_mem_drop (by rw [hd]; simp))
    rw [wq5i, wq9x]
    simp (disch := omega) only [dec_t, dec_f, ieq_t, ieq_f, ine_t, ine_f, inb_t, bnd_t, wqd, wqb, cond_true, cond_false, Bool.not_true, Bool.not_false, Bool.true_or, Bool.or_true, Bool.false_or, Bool.or_false, Bool.true_and, Bool.and_true, Bool.false_and, Bool.and_false, wq1, wq0, wq2, hc, wq1l]
    rw [wqpp k c _ (by omega) (by omega), keysB, keyB]
    cases h1 : (c.all sgn && !(c == [])) with
    | false => rfl
    | true =>
      by_cases h2 : (c.length : Int) > 64
      · have h3 : decide (c.length ≤ 64) = false := dec_f (by omega)
        rw [dec_t h2, h3]; rfl
      · have h3 : decide (c.length ≤ 64) = true := dec_t (by omega)
        rw [dec_f h2, h3]
        simp only [Bool.not_true, cond_false, wq0, Bool.not_false, cond_true, Bool.true_and, he]
        cases h4 : anyK c l with
        | true => rfl
        | false =>
          simp only [cond_false, Bool.not_false, Bool.true_and]
          exact wqnx k keys hk hq hk2 K r (n + 1) m _ (l ++ [c]) hr (by simp at hm; omega) (by omega) (fun q => by rw [wq17q, he, wq17p])
theorem wq142 (k : Nat) {R : Type} (keys : List (List UInt8)) (hk : keys.length ≤ 4000) (hq : ∀ q ∈ keys, q.length ≤ 4000) (hk2 : 5000 < k) (K : Bool → Option R) : wqgu k keys K = K (keysB [] keys) := by
  unfold wqgu wqoy
  exact wqnx k keys hk hq hk2 K keys 0 k [] [] rfl (by omega) (by omega) (fun _ => rfl)
def okD (x : Nd) : Prop := x.2.2.1.length ≤ 4000 ∧ x.2.2.2.2.1.length ≤ 4000 ∧ x.2.2.2.2.2.length ≤ 4000 ∧ ∀ q ∈ x.2.2.2.2.1, q.length ≤ 4000
theorem len0 {α : Type} (l : List α) [BEq α] : ((l.length : Int) == 0) = (l == []) := by
  cases l with
  | nil => rfl
  | cons x r => exact ieq_f (by simp <;> omega)
theorem lenP {α : Type} (l : List α) [BEq α] : decide ((l.length : Int) > 0) = !(l == []) := by
  cases l with
  | nil => rfl
  | cons x r => exact dec_t (by simp <;> omega)
theorem lenE {a b : Nat} : ((a : Int) == (b : Int)) = decide (a = b) := by
  rw [Bool.eq_iff_iff]; simp; omega
theorem wq193 (k : Nat) {R : Type} (x : Nd) (hx : okD x) (hk : 5000 < k) (K : Bool → Option R) : wqlp k x.1 x.2.1 x.2.2.1 x.2.2.2.1 x.2.2.2.2.1 x.2.2.2.2.2 K = K (fitN x) := by
  obtain ⟨a, ln, t, q, ks, kd⟩ := x
  obtain ⟨h1, h2, h3, h4⟩ := hx
  dsimp only at h1 h2 h3 h4
  unfold wqlp wq131 fitN
  dsimp only
  rw [len0, len0, lenP, lenE]
  cases a == 1 with
  | true =>
    simp only [cond_true]
    cases ks == [] with
    | false => rfl
    | true =>
      cases kd == [] with
      | false => rfl
      | true =>
        by_cases hl : t.length ≤ 200
        · rw [dec_t hl, dec_t (show ((t.length : Nat) : Int) ≤ 200 by omega)]
          cases q with
          | true => rfl
          | false =>
            simp only [cond_true, Bool.true_and, Bool.false_or, beq_self_eq_true]
            exact wq141 k t hl (by omega) K
        · rw [dec_f hl, dec_f (show ¬ ((t.length : Nat) : Int) ≤ 200 by omega)]
          rfl
  | false =>
    simp only [cond_false]
    cases a == 2 with
    | true => cases ks == [] <;> cases kd == [] <;> cases t == [] <;> cases q <;> rfl
    | false =>
      simp only [cond_false]
      cases a == 3 with
      | false => rfl
      | true =>
        rw [wq142 k ks h2 h4 hk]
        cases decide (ks.length = kd.length) <;> cases kd == [] <;> cases t == [] <;> cases q <;> rfl
def numI : Option Nat → Int
  | none => -1
  | some m => (m : Int)
theorem nd_at {nd : List Nd} {n : Nat} (h : n < nd.length) : ∃ x, nd[n]? = some x ∧ (∀ z, nd.getD n z = x) ∧ x ∈ nd := ⟨nd[n], List.getElem?_eq_getElem h, fun z => by rw [List.getD, List.getElem?_eq_getElem h]; rfl, List.getElem_mem _⟩
theorem wqrm (k : Nat) {R : Type} (X) (nd : List Nd) (hn : nd.length ≤ 4000) (K : Int → Option R) (d : Nat) (hd : d ≤ 100) (w : Nat → Option Nat) (hw : ∀ (n : Nat) (K : Int → Option R), n ≤ 4001 → X R nd (n : Int) ((d + 1 : Nat) : Int) K = K (numI (w n))) (hm : ∀ n m, w n = some m → m ≤ nd.length) (kids : List Int) (hl : kids.length ≤ 4000) :
    ∀ (q : List Int) (i n m : Nat), kids.drop i = q → q.length < m → i ≤ kids.length → n ≤ 4001 → wq6h k X m (d : Int) nd (n : Int) kids (kids.length : Int) (i : Int) K = K (numI (kidsW w q n))
  | q, i, n, 0, _, h, _, _ => by omega
  | [], i, n, m + 1, hq, h, hi, hn' => by
    have := wq1f hq
    rw [wq6h, wqb7]
    simp (disch := omega) only [dec_t, dec_f, ieq_t, ieq_f, ine_t, ine_f, inb_t, bnd_t, wqd, wqb, cond_true, cond_false, Bool.not_true, Bool.not_false, Bool.true_or, Bool.or_true, Bool.false_or, Bool.or_false, Bool.true_and, Bool.and_true, Bool.false_and, Bool.and_false, wq1, wq0, wq2]
    rfl
  | c :: q, i, n, m + 1, hq, h, hi, hn' => by
    obtain ⟨hlt, hc, hr⟩ := wqi hq
    rw [wq6h, wqb7]
    simp (disch := omega) only [dec_t, dec_f, ieq_t, ieq_f, ine_t, ine_f, inb_t, bnd_t, wqd, wqb, cond_true, cond_false, Bool.not_true, Bool.not_false, Bool.true_or, Bool.or_true, Bool.false_or, Bool.or_false, Bool.true_and, Bool.and_true, Bool.false_and, Bool.and_false, wq1, wq0, wq2, hc, wq1l]
    rw [kidsW]
    have e : (c != (n : Int)) = !(c == (n : Int)) := rfl
    rw [e]
    cases h1 : c == (n : Int) with
    | false => rfl
    | true =>
      have h1 : c = (n : Int) := by simpa using h1
      subst h1
      simp only [Bool.not_true, cond_false, cond_true]
      rw [hw n _ hn']
      cases h2 : w n with
      | none => rfl
      | some j =>
        have := hm n j h2
        have e2 : decide (numI (some j) < 0) = false := dec_f (by simp [numI])
        rw [e2, cond_false]
        exact wqrm k X nd hn K d hd w hw hm kids hl q (i + 1) j m hr (by simp at h; omega) (by omega) (by omega)
theorem wqxc {R : Type} (nd : List Nd) (hn : nd.length ≤ 4000) (ho : ∀ x ∈ nd, okD x) : ∀ (f k d n : Nat) (K : Int → Option R), 5000 + f < k → d + f = 25 → n ≤ 4001 → wq49 k R nd (n : Int) (d : Int) K = K (numI (walkS f nd n))
  | f, 0, d, n, K, hk, hd, hn' => by omega
  | 0, k + 1, d, n, K, hk, hd, hn' => by
    rw [wq49]
    unfold wqmt
    have e : decide ((d : Int) > 24) = true := dec_t (by omega)
    have e2 : (bif decide ((n : Int) ≥ (nd.length : Int)) then true else true) = true := by cases decide ((n : Int) ≥ (nd.length : Int)) <;> rfl
    rw [e, e2]
    rfl
  | f + 1, k + 1, d, n, K, hk, hd, hn' => by
    rw [wq49]
    unfold wqmt
    have e : decide ((d : Int) > 24) = false := dec_f (by omega)
    rw [e, walkS]
    by_cases h : n < nd.length
    · obtain ⟨x, hx, hg, hm⟩ := nd_at h
      have e3 : decide ((n : Int) ≥ (nd.length : Int)) = false := dec_f (by omega)
      have e4 : inb (n : Int) (nd.length : Int) = true := inb_t (by omega) (by omega)
      rw [e3, hx]
      simp (disch := omega) only [dec_t, dec_f, ieq_t, ieq_f, ine_t, ine_f, inb_t, bnd_t, wqd, wqb, cond_true, cond_false, Bool.not_true, Bool.not_false, Bool.true_or, Bool.or_true, Bool.false_or, Bool.or_false, Bool.true_and, Bool.and_true, Bool.false_and, Bool.and_false, wq1, wq0, wq2, e4, hg]
      rw [wq193 k x (ho x hm) (by omega)]
      cases fitN x with
      | false => rfl
      | true =>
        simp (disch := omega) only [dec_t, dec_f, ieq_t, ieq_f, ine_t, ine_f, inb_t, bnd_t, wqd, wqb, cond_true, cond_false, Bool.not_true, Bool.not_false, Bool.true_or, Bool.or_true, Bool.false_or, Bool.or_false, Bool.true_and, Bool.and_true, Bool.false_and, Bool.and_false, wq1, wq0, wq2, wq1l]
        obtain ⟨_, _, h3, _⟩ := ho x hm
        exact wqrm k _ nd hn K d (by omega) (walkS f nd) (fun a K ha => wqxc nd hn ho f k (d + 1) a K (by omega) (by omega) ha) (fun a b hab => wqpt f nd a b hab) x.2.2.2.2.2 h3 x.2.2.2.2.2 0 (n + 1) k rfl (by omega) (by omega) (by omega)
    · have e3 : decide ((n : Int) ≥ (nd.length : Int)) = true := dec_t (by omega)
      rw [e3, List.getElem?_eq_none (by omega)]
      rfl
theorem wq1hh (o : Option Nat) (n : Nat) : (numI o == (n : Int)) = (o == some n) := by
  cases o with
  | none => exact ieq_f (by simp only [numI]; omega)
  | some m => rw [Bool.eq_iff_iff]; simp [numI]; omega
theorem wqi0 (k : Nat) {R : Type} (nd : List Nd) (hn : nd.length ≤ 4000) (ho : ∀ x ∈ nd, okD x) (hk : 5100 < k) (K : Int → Option R) : wq8r k nd K = K (bif checkS nd then 0 else 1) := by
  unfold wq8r wqwi wqj1 checkS
  by_cases h1 : nd.length < 1
  · rw [dec_t (show ((nd.length : Nat) : Int) < 1 by omega), dec_f (show ¬ 1 ≤ nd.length by omega)]; rfl
  · rw [dec_f (show ¬ ((nd.length : Nat) : Int) < 1 by omega), dec_t (show 1 ≤ nd.length by omega)]
    by_cases h2 : nd.length > 2000
    · rw [dec_t (show ((nd.length : Nat) : Int) > 2000 by omega), dec_f (show ¬ nd.length ≤ 2000 by omega)]; rfl
    · rw [dec_f (show ¬ ((nd.length : Nat) : Int) > 2000 by omega), dec_t (show nd.length ≤ 2000 by omega)]
      simp only [cond_false, wq0, Bool.not_false, cond_true, Bool.true_and]
      refine Eq.trans (wqxc nd hn ho 24 k 1 0 _ (by omega) (by omega) (by omega)) ?_
      have e : (numI (walkS 24 nd 0) != (nd.length : Int)) = !(numI (walkS 24 nd 0) == (nd.length : Int)) := rfl
      rw [e, wq1hh]
      cases walkS 24 nd 0 == some nd.length <;> rfl
theorem wq1by {a b : List UInt8} (h : a.length + b.length ≤ 100000000) : joins a b = true := dec_t (by simp only [maxN]; omega)
theorem wqrn (k : Nat) {R : Type} (l s : List UInt8) (K : List Int → Int → Option R) (hl : l.length + s.length ≤ 100000000) : wq13 k (wqj l) s K = K (wqj (l ++ s)) (s.length : Int) := by
  unfold wq13 wq8c wq2d
  dsimp only
  have e : wqj l ++ wqj s = wqj (l ++ s) := by simp [wqj]
  rw [fits_t (by rw [wq1d, wq1d]; omega) (by rw [wq1d, wq1d]; omega), cond_true, e]
theorem hexHi (c : UInt8) : bnd (ishr .u8 (c.toNat : Int) 4) (IntKind.u8.wrap (ishr .u8 (c.toNat : Int) 4 + 1)) ((([48, 49, 50, 51, 52, 53, 54, 55, 56, 57, 97, 98, 99, 100, 101, 102] : List UInt8).length : Nat) : Int) = true ∧
    cut ([48, 49, 50, 51, 52, 53, 54, 55, 56, 57, 97, 98, 99, 100, 101, 102] : List UInt8) (ishr .u8 (c.toNat : Int) 4) (IntKind.u8.wrap (ishr .u8 (c.toNat : Int) 4 + 1)) = [hexL.getD (c.toNat / 16) 0] := by
  have := all_u8 (fun c => bnd (ishr .u8 (c.toNat : Int) 4) (IntKind.u8.wrap (ishr .u8 (c.toNat : Int) 4 + 1)) ((([48, 49, 50, 51, 52, 53, 54, 55, 56, 57, 97, 98, 99, 100, 101, 102] : List UInt8).length : Nat) : Int) &&
    (cut ([48, 49, 50, 51, 52, 53, 54, 55, 56, 57, 97, 98, 99, 100, 101, 102] : List UInt8) (ishr .u8 (c.toNat : Int) 4) (IntKind.u8.wrap (ishr .u8 (c.toNat : Int) 4 + 1)) == [hexL.getD (c.toNat / 16) 0])) (by kernel_rfl) c
  simp only [Bool.and_eq_true, beq_iff_eq] at this
  exact this
theorem hexLo (c : UInt8) : bnd (ibits .and .u8 (c.toNat : Int) 15) (IntKind.u8.wrap (ibits .and .u8 (c.toNat : Int) 15 + 1)) ((([48, 49, 50, 51, 52, 53, 54, 55, 56, 57, 97, 98, 99, 100, 101, 102] : List UInt8).length : Nat) : Int) = true ∧
    cut ([48, 49, 50, 51, 52, 53, 54, 55, 56, 57, 97, 98, 99, 100, 101, 102] : List UInt8) (ibits .and .u8 (c.toNat : Int) 15) (IntKind.u8.wrap (ibits .and .u8 (c.toNat : Int) 15 + 1)) = [hexL.getD (c.toNat % 16) 0] := by
  have := all_u8 (fun c => bnd (ibits .and .u8 (c.toNat : Int) 15) (IntKind.u8.wrap (ibits .and .u8 (c.toNat : Int) 15 + 1)) ((([48, 49, 50, 51, 52, 53, 54, 55, 56, 57, 97, 98, 99, 100, 101, 102] : List UInt8).length : Nat) : Int) &&
    (cut ([48, 49, 50, 51, 52, 53, 54, 55, 56, 57, 97, 98, 99, 100, 101, 102] : List UInt8) (ibits .and .u8 (c.toNat : Int) 15) (IntKind.u8.wrap (ibits .and .u8 (c.toNat : Int) 15 + 1)) == [hexL.getD (c.toNat % 16) 0])) (by kernel_rfl) c
  simp only [Bool.and_eq_true, beq_iff_eq] at this
  exact this
theorem wqny (k : Nat) {R : Type} (s : List UInt8) (hs : s.length ≤ 1000000) (K : List UInt8 → Option R) : ∀ (t : List UInt8) (n m : Nat) (acc : List UInt8), s.drop n = t → t.length < m → n ≤ s.length → acc.length ≤ 4 * n + 1 →
    wq4b k m s (wqj acc) (s.length : Int) (n : Int) K = K (acc ++ escS t ++ [34])
  | t, n, 0, acc, _, hm, _, _ => by omega
  | [], n, m + 1, acc, hd, hm, hn, ha => by
    have := wq1f hd
    rw [wq4b, wqa0]
    simp (disch := omega) only [dec_t, dec_f, ieq_t, ieq_f, ine_t, ine_f, inb_t, bnd_t, wqd, wqb, cond_true, cond_false, Bool.not_true, Bool.not_false, Bool.true_or, Bool.or_true, Bool.false_or, Bool.or_false, Bool.true_and, Bool.and_true, Bool.false_and, Bool.and_false, wq1, wq0, wq2, escS, List.append_nil]
    rw [wqai k acc 34 34 _ rfl (by omega), wqum]
  | c :: r, n, m + 1, acc, hd, hm, hn, ha => by
    obtain ⟨hlt, hc, hr⟩ := wqi hd
    have hcl := c.toNat_lt
    have e1 : ((c.toNat : Int) == 92) = (c == 92) := u8_beq c 92 (by omega)
    have e2 : ((c.toNat : Int) == 34) = (c == 34) := u8_beq c 34 (by omega)
    have e3 : ((c.toNat : Int) == 10) = (c == 10) := u8_beq c 10 (by omega)
    have e4 : ((c.toNat : Int) == 9) = (c == 9) := u8_beq c 9 (by omega)
    have e5 : ((c.toNat : Int) == 127) = (c == 127) := u8_beq c 127 (by omega)
    have e6 : decide ((c.toNat : Int) < 32) = decide (c.toNat < 32) := by rw [Bool.eq_iff_iff]; simp; omega
    have hl := wq1bb c
    simp only [List.length_cons] at hm
    have go : ∀ x : List UInt8, x = escB c → (wq13 k (wqj acc) x fun y8 y9 => wq4b k m s y8 (s.length : Int) ((n + 1 : Nat) : Int) K) = K (acc ++ escS (c :: r) ++ [34]) := by
      intro x hx
      subst hx
      rw [wqrn k acc _ _ (by omega), wqny k s hs K r (n + 1) m (acc ++ escB c) hr (by omega) (by omega) (by simp; omega), escS, List.append_assoc acc]
    obtain ⟨b1, c1⟩ := hexHi c
    obtain ⟨b2, c2⟩ := hexLo c
    rw [wq4b, wqa0]
    simp (disch := omega) only [dec_t, dec_f, ieq_t, ieq_f, ine_t, ine_f, inb_t, bnd_t, wqd, wqb, cond_true, cond_false, Bool.not_true, Bool.not_false, Bool.true_or, Bool.or_true, Bool.false_or, Bool.or_false, Bool.true_and, Bool.and_true, Bool.false_and, Bool.and_false, wq1, wq0, wq2, hc, e1, e2, e3, e4, e5, e6, wq1l, b1, b2, c1, c2]
    unfold escB at go
    cases h1 : c == 92 with
    | true => rw [h1] at go; have := beq_iff_eq.1 h1; subst this; exact go _ rfl
    | false =>
      cases h2 : c == 34 with
      | true => rw [h1, h2] at go; have := beq_iff_eq.1 h2; subst this; exact go _ rfl
      | false =>
        rw [h1, h2] at go
        cases h3 : c == 10 with
        | true => rw [h3] at go; exact go _ rfl
        | false =>
          rw [h3] at go
          cases h4 : c == 9 with
          | true => rw [h4] at go; exact go _ rfl
          | false =>
            rw [h4] at go
            cases h5 : (decide (c.toNat < 32) || c == 127) with
            | true =>
              rw [h5] at go
              have : (bif decide (c.toNat < 32) then true else c == 127) = true := by rw [Bool.cond_true_left]; exact h5
              rw [this]
              exact go _ rfl
            | false =>
              rw [h5] at go
              have : (bif decide (c.toNat < 32) then true else c == 127) = false := by rw [Bool.cond_true_left]; exact h5
              rw [this]
              have g := go [c] rfl
              rw [wqrn k acc _ _ (by simp; omega)] at g
              simp only [cond_true, cond_false]
              rw [wqai k acc c _ _ rfl (by omega)]
              exact g
theorem wq143 (k : Nat) {R : Type} (s : List UInt8) (hs : s.length ≤ 1000000) (hk : s.length < k) (K : List UInt8 → Option R) : wqgx k s K = K (quoS s) := by
  unfold wqgx wqp7
  have : ([] : List Int) = wqj [] := rfl
  rw [this, wqai k [] 34 34 _ rfl (by simp)]
  exact wqny k s hs K s 0 k [34] rfl hk (Nat.zero_le _) (by simp)
theorem WS_sw (k : Nat) {R : Type} (nd : List Nd) (l s : List UInt8) (K : List Nd → List Int → Int → Option R) (hl : l.length + s.length ≤ 100000000) : wql k nd (wqj l) s K = K nd (wqj (l ++ s)) (s.length : Int) := by
  unfold wql wq6m wq1x
  dsimp only
  have e : wqj l ++ wqj s = wqj (l ++ s) := by simp [wqj]
  rw [fits_t (by rw [wq1d, wq1d]; omega) (by rw [wq1d, wq1d]; omega), cond_true, e]
theorem WB_sw (k : Nat) {R : Type} (nd : List Nd) (l : List UInt8) (c : UInt8) (x : Int) (hx : x = (c.toNat : Int)) (K : List Nd → List Int → Option R) (hl : l.length ≤ 100000000) : wq1i k nd (wqj l) x K = K nd (wqj (l ++ [c])) := by
  subst hx
  unfold wq1i wq7u wq1x
  dsimp only
  rw [fits_t (by rw [wq1d]; simp; omega) (by rw [wq1d]; simp; omega), cond_true, wq7n]
theorem wq1e7 : ∀ n : Nat, repS [32] n = blS n
  | 0 => rfl
  | n + 1 => by
    have : repS [32] (n + 1) = [32] ++ repS [32] n := rfl
    rw [this, wq1e7 n]; rfl
theorem in_eq (k : Nat) {R : Type} (nd : List Nd) (l : List UInt8) (n : Nat) (hn : n ≤ 1000) (hl : l.length ≤ 10000000) (K : List Nd → List Int → Option R) : wq53 k nd (wqj l) (n : Int) K = K nd (wqj (l ++ blS n)) := by
  unfold wq53 wqlt wqb8
  rw [dec_t (show (0 : Int) ≤ (n : Int) by omega), dec_t (show (n : Int) ≤ 1000000 by omega), dec_t (show ([32] : List UInt8).length ≤ 1000000 by simp), wq2, wq1e7]
  simp only [Bool.and_self, cond_true]
  rw [WS_sw k nd l _ _ (by simp [blS]; omega)]
theorem wq11g (k : Nat) {R : Type} (Xb Xp) (nd : List Nd) (col : Nat) (hc : col ≤ 58) (g : Nat → List UInt8) (w : Nat → Option Nat) (K : List Nd → List Int → Option R)
    (hg : ∀ n m, w n = some m → n < m ∧ (g n).length + 200 ≤ 1100 * (m - n))
    (B : Nat) (hB : B ≤ 6000000) (hX : ∀ (n m : Nat) (acc : List UInt8) (K : List Nd → List Int → Option R), w n = some m → acc.length + 1100 * (m - n) ≤ B + 130 → Xb R nd (wqj acc) (n : Int) ((col + 2 : Nat) : Int) K = K nd (wqj (acc ++ g n)))
    (kids : List Int) (hl : kids.length ≤ 4000) :
    ∀ (q : List Int) (i n e m : Nat) (acc : List UInt8), kids.drop i = q → q.length < m → i ≤ kids.length → kidsW w q n = some e → acc.length + 1100 * (e - n) ≤ B →
      wq2a k Xb Xp m nd (wqj acc) (col : Int) kids (kids.length : Int) (i : Int) K = K nd (wqj (acc ++ lstS g col (i == 0) q))
  | q, i, n, e, 0, acc, _, h, _, _, _ => by omega
  | [], i, n, e, m + 1, acc, hq, h, hi, hw, ha => by
    have := wq1f hq
    rw [wq2a, wq4n]
    simp (disch := omega) only [dec_t, dec_f, ieq_t, ieq_f, ine_t, ine_f, inb_t, bnd_t, wqd, wqb, cond_true, cond_false, Bool.not_true, Bool.not_false, Bool.true_or, Bool.or_true, Bool.false_or, Bool.or_false, Bool.true_and, Bool.and_true, Bool.false_and, Bool.and_false, wq1, wq0, wq2, lstS, List.append_nil]
  | c :: q, i, n, e, m + 1, acc, hq, h, hi, hw, ha => by
    obtain ⟨hlt, hc', hr⟩ := wqi hq
    rw [kidsW] at hw
    cases h1 : c == (n : Int) with
    | false => rw [h1] at hw; cases hw
    | true =>
      rw [h1, cond_true] at hw
      have h1 : c = (n : Int) := by simpa using h1
      subst h1
      cases h2 : w n with
      | none => rw [h2] at hw; cases hw
      | some j =>
        rw [h2] at hw
        dsimp only at hw
        obtain ⟨g1, g2⟩ := hg n j h2
        have g3 := (wq13y (g := g) (col := col) (by omega) hg q false j e hw).1
        have ec : IntKind.i64.wrap ((col : Int) + 2) = ((col + 2 : Nat) : Int) := by rw [wqd (by omega) (by omega)]; omega
        rw [wq2a, wq4n, lstS]
        simp (disch := omega) only [dec_t, dec_f, ieq_t, ieq_f, ine_t, ine_f, inb_t, bnd_t, wqd, wqb, cond_true, cond_false, Bool.not_true, Bool.not_false, Bool.true_or, Bool.or_true, Bool.false_or, Bool.or_false, Bool.true_and, Bool.and_true, Bool.false_and, Bool.and_false, wq1, wq0, wq2, hc', wq1l, ec]
        by_cases h0 : i = 0
        · subst h0
          have e1 : decide (((0 : Nat) : Int) > 0) = false := rfl
          simp only [e1, cond_false, cond_true, beq_self_eq_true, List.nil_append]
          rw [WS_sw k nd acc _ _ (by simp; omega), hX n j _ _ h2 (by simp; omega)]
          rw [wq11g k Xb Xp nd col hc g w K hg B hB hX kids hl q (0 + 1) j e m _ hr (by simp at h; omega) (by omega) hw (by simp; omega)]
          simp [List.append_assoc]
        · have e1 : decide ((i : Int) > 0) = true := dec_t (by omega)
          have e2 : (i == 0) = false := by simpa using h0
          simp only [e1, e2, cond_false, cond_true]
          rw [in_eq k nd acc col (by omega) (by omega), WS_sw k nd _ _ _ (by simp [blS]; omega), hX n j _ _ h2 (by simp [blS]; omega)]
          rw [wq11g k Xb Xp nd col hc g w K hg B hB hX kids hl q (i + 1) j e m _ hr (by simp at h; omega) (by omega) hw (by simp [blS]; omega)]
          simp [List.append_assoc]
theorem wq168 (k : Nat) {R : Type} (Xb Xp) (nd : List Nd) (col : Nat) (hc : col ≤ 58) (g : Nat → List UInt8) (t : Nat → Bool) (w : Nat → Option Nat) (K : List Nd → List Int → Option R)
    (hg : ∀ n m, w n = some m → n < m ∧ (g n).length + 200 ≤ 1100 * (m - n))
    (B : Nat) (hB : B ≤ 6000000) (hX : ∀ (n m : Nat) (acc : List UInt8) (K : List Nd → List Int → Option R), w n = some m → acc.length + 1100 * (m - n) ≤ B + 130 → Xp R nd (wqj acc) (n : Int) (col : Int) K = K nd (wqj (acc ++ (bif t n then [32] else 10 :: blS (col + 2)) ++ g n)))
    (s3 s4 : Int) (s5 : List UInt8) (s6 : Bool) (keys : List (List UInt8)) (s8 kids : List Int) (hl : kids.length ≤ 4000) (hk : keys.length = kids.length) (hkl : ∀ q ∈ keys, q.length ≤ 64) :
    ∀ (q : List Int) (ks : List (List UInt8)) (i n e m : Nat) (acc : List UInt8), kids.drop i = q → keys.drop i = ks → q.length < m → i ≤ kids.length → kidsW w q n = some e → acc.length + 1100 * (e - n) ≤ B →
      wq29 k Xb Xp m nd (wqj acc) (col : Int) s3 s4 s5 s6 keys s8 kids (kids.length : Int) (i : Int) K = K nd (wqj (acc ++ mapS g t col (i == 0) ks q))
  | q, ks, i, n, e, 0, acc, _, _, h, _, _, _ => by omega
  | [], ks, i, n, e, m + 1, acc, hq, hks, h, hi, hw, ha => by
    have := wq1f hq
    have hm : mapS g t col (i == 0) ks [] = [] := by cases ks <;> simp [mapS]
    rw [wq29, wq4o, hm]
    simp (disch := omega) only [dec_t, dec_f, ieq_t, ieq_f, ine_t, ine_f, inb_t, bnd_t, wqd, wqb, cond_true, cond_false, Bool.not_true, Bool.not_false, Bool.true_or, Bool.or_true, Bool.false_or, Bool.or_false, Bool.true_and, Bool.and_true, Bool.false_and, Bool.and_false, wq1, wq0, wq2, List.append_nil]
  | c :: q, [], i, n, e, m + 1, acc, hq, hks, h, hi, hw, ha => by
    have h1 := wq1f hks
    obtain ⟨hlt, _, _⟩ := wqi hq
    omega
  | c :: q, key :: ks, i, n, e, m + 1, acc, hq, hks, h, hi, hw, ha => by
    obtain ⟨hlt, hc', hr⟩ := wqi hq
    obtain ⟨klt, hkc, hkr⟩ := wqi hks
    have hkey := hkl key (List.mem_of_mem_drop (by rw [hks]; simp))
    rw [kidsW] at hw
    cases h1 : c == (n : Int) with
    | false => rw [h1] at hw; cases hw
    | true =>
      rw [h1, cond_true] at hw
      have h1 : c = (n : Int) := by simpa using h1
      subst h1
      cases h2 : w n with
      | none => rw [h2] at hw; cases hw
      | some j =>
        rw [h2] at hw
        dsimp only at hw
        obtain ⟨g1, g2⟩ := hg n j h2
        have g3 := (wq13y (g := g) (col := col) (by omega) hg q false j e hw).1
        have hb2 : (bif t n then [32] else 10 :: blS (col + 2)).length ≤ 61 := by cases t n <;> simp [blS] <;> omega
        rw [wq29, wq4o, mapS]
        simp (disch := omega) only [dec_t, dec_f, ieq_t, ieq_f, ine_t, ine_f, inb_t, bnd_t, wqd, wqb, cond_true, cond_false, Bool.not_true, Bool.not_false, Bool.true_or, Bool.or_true, Bool.false_or, Bool.or_false, Bool.true_and, Bool.and_true, Bool.false_and, Bool.and_false, wq1, wq0, wq2, hc', hkc, wq1l]
        rw [wq1by (by simp; omega), cond_true]
        by_cases h0 : i = 0
        · subst h0
          have e1 : decide (((0 : Nat) : Int) > 0) = false := rfl
          simp only [e1, cond_false, cond_true, beq_self_eq_true, List.nil_append]
          rw [WS_sw k nd acc _ _ (by simp; omega), hX n j _ _ h2 (by simp; omega)]
          rw [wq168 k Xb Xp nd col hc g t w K hg B hB hX s3 s4 s5 s6 keys s8 kids hl hk hkl q ks (0 + 1) j e m _ hr hkr (by simp at h; omega) (by omega) hw (by simp only [List.length_append, List.length_cons, List.length_nil]; omega)]
          simp [List.append_assoc]
        · have e1 : decide ((i : Int) > 0) = true := dec_t (by omega)
          have e2 : (i == 0) = false := by simpa using h0
          have hb : (blS col).length = col := by simp [blS]
          simp only [e1, e2, cond_false, cond_true]
          rw [in_eq k nd acc col (by omega) (by omega), WS_sw k nd _ _ _ (by simp [blS]; omega), hX n j _ _ h2 (by simp [blS]; omega)]
          rw [wq168 k Xb Xp nd col hc g t w K hg B hB hX s3 s4 s5 s6 keys s8 kids hl hk hkl q ks (i + 1) j e m _ hr hkr (by simp at h; omega) (by omega) hw (by simp only [List.length_append, List.length_cons, List.length_nil, hb]; omega)]
          simp [List.append_assoc]
theorem wq11h {R : Type} (nd : List Nd) (hn : nd.length ≤ 4000) (ho : ∀ x ∈ nd, okD x) : ∀ (f k n m col : Nat) (acc : List UInt8) (K : List Nd → List Int → Option R), 5000 + 2 * f < k → walkS f nd n = some m → col + 2 * f ≤ 58 → acc.length + 1100 * (m - n) + 200 * f ≤ 6000000 →
    wqx k R nd (wqj acc) (n : Int) (col : Int) K = K nd (wqj (acc ++ textS f nd n col))
  | f, 0, n, m, col, acc, K, hk, hw, hc, ha => by omega
  | 0, k + 1, n, m, col, acc, K, hk, hw, hc, ha => by rw [walkS] at hw; cases hw
  | f + 1, 1, n, m, col, acc, K, hk, hw, hc, ha => by omega
  | f + 1, k + 2, n, m, col, acc, K, hk, hw, hc, ha => by
    have hlt := wqps _ _ _ _ hw
    have hle := wqpt _ _ _ _ hw
    obtain ⟨x, hx, hf, hw⟩ := wqh8 hw
    have hn1 := (List.getElem?_eq_some_iff.1 hx).1
    have hmem := List.mem_of_getElem? hx
    have hg : ∀ z, nd.getD n z = x := fun z => by rw [List.getD, hx]; rfl
    have e4 : inb (n : Int) (nd.length : Int) = true := inb_t (by omega) (by omega)
    have ind : ∀ (k' : Nat), 5000 + 2 * f < k' → ∀ (n m : Nat) (acc : List UInt8) (K : List Nd → List Int → Option R), walkS f nd n = some m → acc.length + 1100 * (m - n) ≤ 6000000 - 200 * (f + 1) + 130 → wqx k' R nd (wqj acc) (n : Int) ((col + 2 : Nat) : Int) K = K nd (wqj (acc ++ textS f nd n (col + 2))) :=
      fun k' hk' n m acc K h1 h2 => wq11h nd hn ho f k' n m (col + 2) acc K hk' h1 (by omega) (by omega)
    have lens : ∀ n m, walkS f nd n = some m → n < m ∧ (textS f nd n (col + 2)).length + 200 ≤ 1100 * (m - n) := fun a b hab => wq165 f nd a b (col + 2) hab (by omega)
    rw [wqx]
    unfold wqb9
    rw [textS, hx, e4]
    simp (disch := omega) only [dec_t, dec_f, ieq_t, ieq_f, ine_t, ine_f, inb_t, bnd_t, wqd, wqb, cond_true, cond_false, Bool.not_true, Bool.not_false, Bool.true_or, Bool.or_true, Bool.false_or, Bool.or_false, Bool.true_and, Bool.and_true, Bool.false_and, Bool.and_false, wq1, wq0, wq2, hg]
    cases h1 : x.1 == 1 with
    | true =>
      obtain ⟨_, _, hl, _⟩ := wqk9 hf h1
      have hlen := wq1bd hl
      simp only [cond_true]
      unfold txtN at hlen ⊢
      cases hq : x.2.2.2.1 with
      | true =>
        rw [hq, cond_true] at hlen
        simp only [cond_true]
        rw [wq143 _ _ (by omega) (by omega), wq1by (by simp; omega), cond_true, WS_sw _ nd acc _ _ (by simp; omega)]
      | false =>
        rw [hq, cond_false] at hlen
        simp only [cond_false]
        rw [wq1by (by simp; omega), cond_true, WS_sw _ nd acc _ _ (by simp; omega)]
    | false =>
      simp only [cond_false]
      obtain ⟨_, _, h3, h3'⟩ := ho x hmem
      cases h2 : x.1 == 2 with
      | true =>
        simp only [cond_true]
        exact wq11g (k + 1) _ _ nd col (by omega) (fun k => textS f nd k (col + 2)) (walkS f nd) K lens (6000000 - 200 * (f + 1)) (by omega) (ind (k + 1) (by omega)) x.2.2.2.2.2 h3 x.2.2.2.2.2 0 (n + 1) m (k + 1) acc rfl (by omega) (by omega) hw (by omega)
      | false =>
        obtain ⟨k3, kl, _, _, _, kb⟩ := wqt1 hf h1 h2
        have e3 : (x.1 == 3) = true := by rw [k3]; rfl
        simp only [e3, cond_true, cond_false]
        refine wq168 (k + 1) _ _ nd col (by omega) (fun k => textS f nd k (col + 2)) (isT nd) (walkS f nd) K lens (6000000 - 200 * (f + 1)) (by omega) ?_ _ _ _ _ x.2.2.2.2.1 _ x.2.2.2.2.2 h3 kl (fun q hq => by
          have := wqme _ _ kb q hq
          simp only [keyB, Bool.and_eq_true, decide_eq_true_eq] at this
          exact this.2) x.2.2.2.2.2 x.2.2.2.2.1 0 (n + 1) m (k + 1) acc rfl rfl (by omega) (by omega) hw (by omega)
        intro n' m' acc' K' hw' ha'
        have hlt' := wqps _ _ _ _ hw'
        have hle' := wqpt _ _ _ _ hw'
        obtain ⟨y, hy, hgy, _⟩ := nd_at (nd := nd) (n := n') (by omega)
        have e5 : inb (n' : Int) (nd.length : Int) = true := inb_t (by omega) (by omega)
        have ec : IntKind.i64.wrap ((col : Int) + 2) = ((col + 2 : Nat) : Int) := by rw [wqd (by omega) (by omega)]; omega
        rw [FR_show_writer_pair]
        unfold wqj3 isT
        rw [hy, e5]
        simp (disch := omega) only [dec_t, dec_f, ieq_t, ieq_f, ine_t, ine_f, inb_t, bnd_t, wqd, wqb, cond_true, cond_false, Bool.not_true, Bool.not_false, Bool.true_or, Bool.or_true, Bool.false_or, Bool.or_false, Bool.true_and, Bool.and_true, Bool.false_and, Bool.and_false, wq1, wq0, wq2, hgy, ec]
        have hk2 : 5000 + 2 * f < k := by omega
        have hb : (blS (col + 2)).length = col + 2 := by simp [blS]
        cases y.1 == 1 with
        | true =>
          simp only [cond_true]
          rw [WB_sw _ nd acc' 32 32 rfl _ (by omega)]
          refine Eq.trans (wq11h nd hn ho f k n' m' (col + 2) _ _ hk2 hw' (by omega) (by simp only [List.length_append, List.length_cons, List.length_nil]; omega)) ?_
          simp [List.append_assoc]
        | false =>
          simp only [cond_false]
          rw [WB_sw _ nd acc' 10 10 rfl _ (by omega), in_eq _ nd _ (col + 2) (by omega) (by simp; omega)]
          refine Eq.trans (wq11h nd hn ho f k n' m' (col + 2) _ _ hk2 hw' (by omega) (by simp only [List.length_append, List.length_cons, List.length_nil, hb]; omega)) ?_
          simp [List.append_assoc]
def outT {R : Type} (K : List Int → Int → Option R) (nd : List Nd) : Option R :=
  bif checkS nd then bif decide ((textS 24 nd 0 0).length > 60000) then K [] 4 else K (wqj (textS 24 nd 0 0)) 0 else K [] 1
theorem wq1cz {nd : List Nd} (h : checkS nd = true) : nd.length ≤ 2000 ∧ walkS 24 nd 0 = some nd.length := by
  unfold checkS at h
  simp only [Bool.and_eq_true, decide_eq_true_eq, beq_iff_eq] at h
  exact h.2
theorem wqpu (k : Nat) {R : Type} (nd : List Nd) (hn : nd.length ≤ 4000) (ho : ∀ x ∈ nd, okD x) (hk : 5100 < k) (K : List Int → Int → Option R) : wqam k nd K = outT K nd := by
  unfold wqam wqz4 outT wq5v
  rw [wqi0 k nd hn ho hk]
  cases hc : checkS nd with
  | false => rfl
  | true =>
    obtain ⟨h1, h2⟩ := wq1cz hc
    have e0 : ((0 : Int) != 0) = false := rfl
    have en : ([] : List Int) = wqj [] := rfl
    simp only [cond_true, e0, cond_false]
    rw [en]
    refine Eq.trans (wq11h nd hn ho 24 k 0 nd.length 0 [] _ (by omega) h2 (by omega) (by simp; omega)) ?_
    unfold wq4p wqba wq3a
    dsimp only
    rw [wqpq, wq3m, wq1d, List.nil_append]
    by_cases hb : (textS 24 nd 0 0).length > 60000
    · rw [dec_t hb, dec_t (show ((textS 24 nd 0 0).length : Int) > 60000 by omega)]; rfl
    · rw [dec_f hb, dec_f (show ¬ ((textS 24 nd 0 0).length : Int) > 60000 by omega)]; rfl
end Go.Proofs.YtdfhgimidmfgfaaGreatDoor.Pvm
noncomputable section
namespace Go.Proofs.YtdfhgimidmfgfaaGreatDoor.Pvm
open Go Go.Proofs
end Go.Proofs.YtdfhgimidmfgfaaGreatDoor.Pvm
end


namespace Go.Proofs.YtdfhgimidmfgfaaGreatDoor.Pvm
open Go
theorem wq169 {α : Type} [BEq α] [LawfulBEq α] {R : Type} (z : α) (L : Nat → List α → List α → Int → Int → Option R) (K : Bool → Option R) (x y : List α) (hx : x.length ≤ 4000) (hxy : x.length = y.length)
    (step : ∀ n i, L (n + 1) x y (x.length : Int) i = bif decide (i < (x.length : Int)) then bif inb i (x.length : Int) then bif inb i (y.length : Int) then bif !(x.getD i.toNat z == y.getD i.toNat z) then K false else L n x y (x.length : Int) (IntKind.i64.wrap (i + 1)) else none else none else K true) :
    ∀ (p q : List α) (i m : Nat), x.drop i = p → y.drop i = q → p.length < m → i ≤ x.length → L m x y (x.length : Int) (i : Int) = K (p == q)
  | p, q, i, 0, _, _, h, _ => by omega
  | [], q, i, m + 1, hp, hq, h, hi => by
    have h1 := wq1f hp
    have h2 : q = [] := by rw [← hq]; simp; omega
    subst h2
    rw [step]
    simp (disch := omega) only [dec_t, dec_f, ieq_t, ieq_f, ine_t, ine_f, inb_t, bnd_t, wqd, wqb, cond_true, cond_false, Bool.not_true, Bool.not_false, Bool.true_or, Bool.or_true, Bool.false_or, Bool.or_false, Bool.true_and, Bool.and_true, Bool.false_and, Bool.and_false, wq1, wq0, wq2]
    rfl
  | a :: p, [], i, m + 1, hp, hq, h, hi => by
    obtain ⟨h1, _, _⟩ := wqi hp
    have := wq1f hq
    omega
  | a :: p, b :: q, i, m + 1, hp, hq, h, hi => by
    obtain ⟨h1, h2, h3⟩ := wqi hp
    obtain ⟨g1, g2, g3⟩ := wqi hq
    rw [step]
    simp (disch := omega) only [dec_t, dec_f, ieq_t, ieq_f, ine_t, ine_f, inb_t, bnd_t, wqd, wqb, cond_true, cond_false, Bool.not_true, Bool.not_false, Bool.true_or, Bool.or_true, Bool.false_or, Bool.or_false, Bool.true_and, Bool.and_true, Bool.false_and, Bool.and_false, wq1, wq0, wq2, h2, g2, wq1l]
    have e : ((a :: p) == (b :: q)) = ((a == b) && (p == q)) := rfl
    rw [e]
    cases a == b with
    | false => rfl
    | true =>
      simp only [Bool.not_true, cond_false, Bool.true_and]
      exact wq169 z L K x y hx hxy step p q (i + 1) m h3 g3 (by simp at h; omega) (by omega)
theorem len_ne {α : Type} [BEq α] [LawfulBEq α] {x y : List α} (h : x.length ≠ y.length) : (x == y) = false := by
  rw [beq_eq_false_iff_ne]
  exact fun e => h (by rw [e])
theorem wq16a (k : Nat) {R : Type} (x y : List (List UInt8)) (hx : x.length ≤ 4000) (hk : 4000 < k) (K : Bool → Option R) : wq1w k x y K = K (x == y) := by
  unfold wq1w wq4a
  by_cases h : x.length = y.length
  · rw [ine_f (by omega), cond_false]
    exact wq169 ([] : List UInt8) (fun m a b c d => wq1h k m a b c d K) K x y hx h (fun n i => by rw [wq1h]; rfl) x y 0 k rfl rfl (by omega) (by omega)
  · rw [ine_t (by omega), cond_true, len_ne h]
theorem wq16b (k : Nat) {R : Type} (x y : List Int) (hx : x.length ≤ 4000) (hk : 4000 < k) (K : Bool → Option R) : wq36 k x y K = K (x == y) := by
  unfold wq36 wq7b
  by_cases h : x.length = y.length
  · rw [ine_f (by omega), cond_false]
    exact wq169 (0 : Int) (fun m a b c d => wq20 k m a b c d K) K x y hx h (fun n i => by rw [wq20]; rfl) x y 0 k rfl rfl (by omega) (by omega)
  · rw [ine_t (by omega), cond_true, len_ne h]
theorem wq11i (k : Nat) {R : Type} (x y : Nd) (hx : okD x) (hk : 4000 < k) (K : Bool → Option R) : wqe1 k x.1 x.2.1 x.2.2.1 x.2.2.2.1 x.2.2.2.2.1 x.2.2.2.2.2 y.1 y.2.1 y.2.2.1 y.2.2.2.1 y.2.2.2.2.1 y.2.2.2.2.2 K = K (sameN x y) := by
  unfold wqe1 wqtn sameN
  obtain ⟨_, h2, h3, _⟩ := hx
  rw [wq16a k _ _ h2 hk, wq16b k _ _ h3 hk]
  cases x.1 == y.1 <;> cases x.2.2.1 == y.2.2.1 <;> cases x.2.2.2.1 == y.2.2.2.1 <;> cases x.2.2.2.2.1 == y.2.2.2.2.1 <;> rfl
theorem wqro (k : Nat) {R : Type} (x y : List Nd) (hx : x.length ≤ 4000) (ho : ∀ z ∈ x, okD z) (hxy : x.length = y.length) (hk : 4000 < k) (K : Bool → Option R) : ∀ (p q : List Nd) (i m : Nat), x.drop i = p → y.drop i = q → p.length < m → i ≤ x.length →
    wqf k m y x (x.length : Int) (i : Int) K = K (sameS p q)
  | p, q, i, 0, _, _, h, _ => by omega
  | [], q, i, m + 1, hp, hq, h, hi => by
    have h1 := wq1f hp
    have h2 : q = [] := by rw [← hq]; simp; omega
    subst h2
    rw [wqf, wqr]
    simp (disch := omega) only [dec_t, dec_f, ieq_t, ieq_f, ine_t, ine_f, inb_t, bnd_t, wqd, wqb, cond_true, cond_false, Bool.not_true, Bool.not_false, Bool.true_or, Bool.or_true, Bool.false_or, Bool.or_false, Bool.true_and, Bool.and_true, Bool.false_and, Bool.and_false, wq1, wq0, wq2]
    rfl
  | a :: p, [], i, m + 1, hp, hq, h, hi => by
    obtain ⟨h1, _, _⟩ := wqi hp
    have := wq1f hq
    omega
  | a :: p, b :: q, i, m + 1, hp, hq, h, hi => by
    obtain ⟨h1, h2, h3⟩ := wqi hp
    obtain ⟨g1, g2, g3⟩ := wqi hq
    have hm := ho a (List.mem_of_mem_drop (by rw [hp]; simp))
    rw [wqf, wqr]
    simp (disch := omega) only [dec_t, dec_f, ieq_t, ieq_f, ine_t, ine_f, inb_t, bnd_t, wqd, wqb, cond_true, cond_false, Bool.not_true, Bool.not_false, Bool.true_or, Bool.or_true, Bool.false_or, Bool.or_false, Bool.true_and, Bool.and_true, Bool.false_and, Bool.and_false, wq1, wq0, wq2, h2, g2, wq1l]
    rw [wq11i k a b hm hk, sameS]
    cases sameN a b with
    | false => rfl
    | true =>
      simp only [Bool.not_true, cond_false, Bool.true_and]
      exact wqro k x y hx ho hxy hk K p q (i + 1) m h3 g3 (by simp at h; omega) (by omega)
theorem wq11j : ∀ {x y : List Nd}, x.length ≠ y.length → sameS x y = false
  | [], [], h => absurd rfl h
  | [], _ :: _, _ => rfl
  | _ :: _, [], _ => rfl
  | a :: x, b :: y, h => by rw [sameS, wq11j (by simpa using h), Bool.and_false]
theorem wqxd (k : Nat) {R : Type} (x y : List Nd) (hx : x.length ≤ 4000) (ho : ∀ z ∈ x, okD z) (hk : 4000 < k) (K : Bool → Option R) : wqg1 k x y K = K (sameS x y) := by
  unfold wqg1 wqz3 wq10 wq1a
  by_cases h : x.length = y.length
  · rw [ine_f (by omega), cond_false]
    exact wqro k x y hx ho h hk _ x y 0 k rfl rfl (by omega) (by omega)
  · rw [ine_t (by omega), cond_true, wq11j h]
theorem wq144 (k : Nat) {R : Type} (J : List Nd → List Nd → Int → Option R) (K : Bool → Option R) (s0 s1 : List Nd) (s2 s3 s4 : Int) (s5 : List UInt8) (s6 : Bool) (x : List (List UInt8)) (hx : x.length ≤ 4000) (s8 : List Int) (s9 s10 : Int) (s11 : List UInt8) (s12 : Bool) (y : List (List UInt8)) (hxy : x.length = y.length) (s14 : List Int) :
    ∀ (p q : List (List UInt8)) (i m : Nat), x.drop i = p → y.drop i = q → p.length < m → i ≤ x.length → wq5k k J m s0 s1 s2 s3 s4 s5 s6 x s8 s9 s10 s11 s12 y s14 (i : Int) K = bif p == q then wq4c k J k s0 s1 s2 s3 s4 s5 s6 x s8 s9 s10 s11 s12 y s14 0 K else K false
  | p, q, i, 0, _, _, h, _ => by omega
  | [], q, i, m + 1, hp, hq, h, hi => by
    have h1 := wq1f hp
    have h2 : q = [] := by rw [← hq]; simp; omega
    subst h2
    rw [wq5k, wqa7]
    simp (disch := omega) only [dec_t, dec_f, ieq_t, ieq_f, ine_t, ine_f, inb_t, bnd_t, wqd, wqb, cond_true, cond_false, Bool.not_true, Bool.not_false, Bool.true_or, Bool.or_true, Bool.false_or, Bool.or_false, Bool.true_and, Bool.and_true, Bool.false_and, Bool.and_false, wq1, wq0, wq2]
    rfl
  | a :: p, [], i, m + 1, hp, hq, h, hi => by
    obtain ⟨h1, _, _⟩ := wqi hp
    have := wq1f hq
    omega
  | a :: p, b :: q, i, m + 1, hp, hq, h, hi => by
    obtain ⟨h1, h2, h3⟩ := wqi hp
    obtain ⟨g1, g2, g3⟩ := wqi hq
    rw [wq5k, wqa7]
    simp (disch := omega) only [dec_t, dec_f, ieq_t, ieq_f, ine_t, ine_f, inb_t, bnd_t, wqd, wqb, cond_true, cond_false, Bool.not_true, Bool.not_false, Bool.true_or, Bool.or_true, Bool.false_or, Bool.or_false, Bool.true_and, Bool.and_true, Bool.false_and, Bool.and_false, wq1, wq0, wq2, h2, g2, wq1l]
    have e : ((a :: p) == (b :: q)) = ((a == b) && (p == q)) := rfl
    rw [e]
    cases a == b with
    | false => rfl
    | true =>
      simp only [Bool.not_true, cond_false, Bool.true_and]
      exact wq144 k J K s0 s1 s2 s3 s4 s5 s6 x hx s8 s9 s10 s11 s12 y hxy s14 p q (i + 1) m h3 g3 (by simp at h; omega) (by omega)
theorem wq145 (k : Nat) {R : Type} (J : List Nd → List Nd → Int → Option R) (K : Bool → Option R) (s0 s1 : List Nd) (n : Nat) (hn : n ≤ 4000) (s3 s4 : Int) (s5 : List UInt8) (s6 : Bool) (s7 : List (List UInt8)) (x : List Int) (hx : x.length ≤ 4000) (s9 s10 : Int) (s11 : List UInt8) (s12 : Bool) (s13 : List (List UInt8)) (y : List Int) (hxy : x.length = y.length) :
    ∀ (p q : List Int) (i m : Nat), x.drop i = p → y.drop i = q → p.length < m → i ≤ x.length → wq4c k J m s0 s1 (n : Int) s3 s4 s5 s6 s7 x s9 s10 s11 s12 s13 y (i : Int) K = bif p == q then J s0 s1 ((n + 1 : Nat) : Int) else K false
  | p, q, i, 0, _, _, h, _ => by omega
  | [], q, i, m + 1, hp, hq, h, hi => by
    have h1 := wq1f hp
    have h2 : q = [] := by rw [← hq]; simp; omega
    subst h2
    rw [wq4c, wqa8]
    simp (disch := omega) only [dec_t, dec_f, ieq_t, ieq_f, ine_t, ine_f, inb_t, bnd_t, wqd, wqb, cond_true, cond_false, Bool.not_true, Bool.not_false, Bool.true_or, Bool.or_true, Bool.false_or, Bool.or_false, Bool.true_and, Bool.and_true, Bool.false_and, Bool.and_false, wq1, wq0, wq2, wq1l]
    rfl
  | a :: p, [], i, m + 1, hp, hq, h, hi => by
    obtain ⟨h1, _, _⟩ := wqi hp
    have := wq1f hq
    omega
  | a :: p, b :: q, i, m + 1, hp, hq, h, hi => by
    obtain ⟨h1, h2, h3⟩ := wqi hp
    obtain ⟨g1, g2, g3⟩ := wqi hq
    rw [wq4c, wqa8]
    simp (disch := omega) only [dec_t, dec_f, ieq_t, ieq_f, ine_t, ine_f, inb_t, bnd_t, wqd, wqb, cond_true, cond_false, Bool.not_true, Bool.not_false, Bool.true_or, Bool.or_true, Bool.false_or, Bool.or_false, Bool.true_and, Bool.and_true, Bool.false_and, Bool.and_false, wq1, wq0, wq2, h2, g2, wq1l]
    have e : ((a :: p) == (b :: q)) = ((a == b) && (p == q)) := rfl
    have e2 : (a != b) = !(a == b) := rfl
    rw [e, e2]
    cases a == b with
    | false => rfl
    | true =>
      simp only [Bool.not_true, cond_false, Bool.true_and]
      exact wq145 k J K s0 s1 n hn s3 s4 s5 s6 s7 x hx s9 s10 s11 s12 s13 y hxy p q (i + 1) m h3 g3 (by simp at h; omega) (by omega)
theorem wq146 (k : Nat) {R : Type} (x y : List Nd) (hx : x.length ≤ 4000) (ho : ∀ z ∈ x, okD z) (hxy : x.length = y.length) (hk : 4000 < k) (K : Bool → Option R) : ∀ (p q : List Nd) (i m : Nat), x.drop i = p → y.drop i = q → p.length < m → i ≤ x.length →
    wq5l k m x y (i : Int) K = K (sameS p q)
  | p, q, i, 0, _, _, h, _ => by omega
  | [], q, i, m + 1, hp, hq, h, hi => by
    have h1 := wq1f hp
    have h2 : q = [] := by rw [← hq]; simp; omega
    subst h2
    rw [wq5l, wqa6]
    simp (disch := omega) only [dec_t, dec_f, ieq_t, ieq_f, ine_t, ine_f, inb_t, bnd_t, wqd, wqb, cond_true, cond_false, Bool.not_true, Bool.not_false, Bool.true_or, Bool.or_true, Bool.false_or, Bool.or_false, Bool.true_and, Bool.and_true, Bool.false_and, Bool.and_false, wq1, wq0, wq2]
    rfl
  | a :: p, [], i, m + 1, hp, hq, h, hi => by
    obtain ⟨h1, _, _⟩ := wqi hp
    have := wq1f hq
    omega
  | a :: p, b :: q, i, m + 1, hp, hq, h, hi => by
    obtain ⟨h1, h2, h3⟩ := wqi hp
    obtain ⟨g1, g2, g3⟩ := wqi hq
    obtain ⟨_, o2, o3, _⟩ := ho a (List.mem_of_mem_drop (by rw [hp]; simp))
    have ih := wq146 k x y hx ho hxy hk K p q (i + 1) m h3 g3 (by simp at h; omega) (by omega)
    rw [wq5l, wqa6]
    simp (disch := omega) only [dec_t, dec_f, ieq_t, ieq_f, ine_t, ine_f, inb_t, bnd_t, wqd, wqb, cond_true, cond_false, Bool.not_true, Bool.not_false, Bool.true_or, Bool.or_true, Bool.false_or, Bool.or_false, Bool.true_and, Bool.and_true, Bool.false_and, Bool.and_false, wq1, wq0, wq2, h2, g2, wq1l, wq1ab]
    rw [sameS, sameN]
    have e1 : (a.1 != b.1) = !(a.1 == b.1) := rfl
    rw [e1]
    cases a.1 == b.1 with
    | false => rfl
    | true =>
      cases a.2.2.1 == b.2.2.1 with
      | false => rfl
      | true =>
        cases a.2.2.2.1 == b.2.2.2.1 with
        | false => rfl
        | true =>
          by_cases l1 : a.2.2.2.2.1.length = b.2.2.2.2.1.length
          · by_cases l2 : a.2.2.2.2.2.length = b.2.2.2.2.2.length
            · rw [ine_f (show (a.2.2.2.2.1.length : Int) = b.2.2.2.2.1.length by omega), ine_f (show (a.2.2.2.2.2.length : Int) = b.2.2.2.2.2.length by omega)]
              simp only [Bool.not_true, cond_false, Bool.true_and]
              refine Eq.trans (wq144 k _ K x y _ _ _ _ _ a.2.2.2.2.1 o2 _ _ _ _ _ b.2.2.2.2.1 l1 _ a.2.2.2.2.1 b.2.2.2.2.1 0 k rfl rfl (by omega) (by omega)) ?_
              cases a.2.2.2.2.1 == b.2.2.2.2.1 with
              | false => rfl
              | true =>
                rw [cond_true]
                refine Eq.trans (wq145 k _ K x y i (by omega) _ _ _ _ _ a.2.2.2.2.2 o3 _ _ _ _ _ b.2.2.2.2.2 l2 a.2.2.2.2.2 b.2.2.2.2.2 0 k rfl rfl (by omega) (by omega)) ?_
                cases a.2.2.2.2.2 == b.2.2.2.2.2 with
                | false => rfl
                | true => simpa using ih
            · rw [ine_f (show (a.2.2.2.2.1.length : Int) = b.2.2.2.2.1.length by omega), ine_t (show (a.2.2.2.2.2.length : Int) ≠ b.2.2.2.2.2.length by omega), len_ne l2, Bool.and_false]
              rfl
          · rw [ine_t (show (a.2.2.2.2.1.length : Int) ≠ b.2.2.2.2.1.length by omega), len_ne l1]
            rfl
theorem wq147 (k : Nat) {R : Type} (x y : List Nd) (hx : x.length ≤ 4000) (ho : ∀ z ∈ x, okD z) (hk : 4000 < k) (K : Bool → Option R) : wqah k x y K = K (sameS x y) := by
  unfold wqah wqpl
  by_cases h : x.length = y.length
  · rw [ine_f (by omega), cond_false]
    exact wq146 k x y hx ho h hk _ x y 0 k rfl rfl (by omega) (by omega)
  · rw [ine_t (by omega), cond_true, wq11j h]
def dA : List Nd := [(3, 0, [], false, [[97]], [1]), (2, 0, [], false, [], [2, 3]), (1, 0, [98], false, [], []), (1, 0, [99], true, [], [])]
theorem wqmf (k : Nat) {R : Type} (hk : 5100 < k) (K : Bool → Option R) : wq4s k K = K true := by
  have oA : ∀ x ∈ dA, okD x := by
    intro x hx
    simp only [dA, List.mem_cons, List.not_mem_nil, or_false] at hx
    rcases hx with rfl | rfl | rfl | rfl <;> exact ⟨by decide, by decide, by decide, by decide⟩
  have o0 : ∀ x ∈ ([] : List Nd), okD x := fun x hx => by cases hx
  have c1 : checkS dA = true := by decide +kernel
  have c2 : textS 24 dA 0 0 = [97, 58, 10, 32, 32, 45, 32, 98, 10, 32, 32, 45, 32, 34, 99, 34, 10] := by decide +kernel
  have c3 : checkS [] = false := rfl
  unfold wq4s wqtq
  have eA : ([(3, 0, [], false, [[97]], [1]), (2, 0, [], false, [], [2, 3]), (1, 0, [98], false, [], []), (1, 0, [99], true, [], [])] : List Nd) = dA := rfl
  rw [eA, wqpu k dA (by decide) oA hk, outT, c1, c2, cond_true]
  have c4 : decide (([97, 58, 10, 32, 32, 45, 32, 98, 10, 32, 32, 45, 32, 34, 99, 34, 10] : List UInt8).length > 60000) = false := by decide
  rw [c4, cond_false, wqpu k [] (by decide) o0 hk, outT, c3, cond_false, wqi0 k dA (by decide) oA hk, c1, wq3m, wqxd k dA dA (by decide) oA (by omega), wqxd k dA [] (by decide) oA (by omega)]
  rfl
theorem er_ok {x y : List Nd} (h : x.map erN = y.map erN) (hy : ∀ z ∈ y, okD z) : ∀ z ∈ x, okD z := by
  intro z hz
  have h1 : erN z ∈ y.map erN := by rw [← h]; exact List.mem_map_of_mem hz
  obtain ⟨v, hv, he⟩ := List.mem_map.1 h1
  have := hy v hv
  obtain ⟨a1, a2, a3⟩ := z
  obtain ⟨b1, b2, b3⟩ := v
  simp only [erN, Prod.mk.injEq] at he
  obtain ⟨rfl, _, rfl⟩ := he
  exact this
theorem wq1d0 (k : Nat) {R : Type} (nd : List Nd) (hn : nd.length ≤ 4000) (ho : ∀ z ∈ nd, okD z) (hc : checkS nd = true) (hl : (textS 24 nd 0 0).length ≤ 16384) (hk : 200000 < k) (A : Bool → Option R) (B : Option R) :
    (wqcg k (wqj (textS 24 nd 0 0)) fun y7 y8 y9 => bif (y8 == 0 && y9 == 0) == true then wqah k y7 nd A else B) = A true := by
  obtain ⟨x, hx, he⟩ := wq1ct k nd hc (by omega)
  have hlen : x.length = nd.length := by have := congrArg List.length he; simpa using this
  rw [wq164 k _ hl hk, hx]
  simp only [outD]
  have e : (((0 : Int) == 0 && (0 : Int) == 0) == true) = true := rfl
  rw [e, cond_true, wq147 k x nd (by omega) (er_ok he ho) (by omega), wq1dx he]
theorem wq11k (k : Nat) {R : Type} (s : List UInt8) (hs : s.length ≤ 16384) (hk : 200000 < k) (K : List Nd → Int → Int → Option R) : wqe9 k (wqj s) K = outD K (docS (linesS k (spl s) 1 [])) := by
  unfold wqe9 wqtt
  have h1 := wq17a s
  have h2 := wqxa k (spl s) 1 []
  have h3 := wqpr k (spl s) 1 []
  have h4 := wq1b9 s
  have h5 := wq163 (linesS k (spl s) 1 []).1 []
  simp only [List.length_nil, total] at h2 h3 h5
  rw [wq11b k s (by omega), dec_f (by omega), cond_false, docS]
  dsimp only
  cases hz : (linesS k (spl s) 1 []).2.1 != 0 with
  | true => rfl
  | false =>
    simp only [cond_false]
    rw [wqyf k _ _ (by omega) (by omega) (by omega) (by omega)]
    cases hy : (allS (linesS k (spl s) 1 []).1 []).2.1 != 0 with
    | true => rfl
    | false =>
      simp only [cond_false]
      exact wq18w k _ (by omega) (by omega) K
theorem wq1ft : ∀ f : Nat,
    (∀ l acc d e, l ≠ [] → 2 * l.length + 2 ≤ f → acc.length ≤ 2000 → blkS f l acc d = .inl e → e.1 ≠ 0) ∧
    (∀ kd ln col n d l acc keys kids e, 2 * l.length + 1 ≤ f → n < acc.length → acc.length ≤ 2000 → kidsS f kd ln col n d l acc keys kids = .inl e → e.1 ≠ 0) := by
  intro f
  induction f with
  | zero => exact ⟨fun l acc d e _ h => by omega, fun kd ln col n d l acc keys kids e h => by omega⟩
  | succ f ih =>
    obtain ⟨ihb, ihk⟩ := ih
    constructor
    · intro l acc d e hl hf ha h
      cases l with
      | nil => exact absurd rfl hl
      | cons x r =>
        rw [blkS] at h
        cases h1 : (decide (x.1 < 1) || decide (x.1 > 3)) with
        | true => rw [h1, cond_true] at h; cases h; simp
        | false =>
          rw [h1, cond_false] at h
          by_cases h2 : 24 < d
          · rw [dec_t h2, cond_true] at h; cases h; simp
          · rw [dec_f h2, cond_false] at h
            by_cases h3 : 2000 ≤ acc.length
            · rw [dec_t h3, cond_true] at h; cases h; simp
            · rw [dec_f h3, cond_false] at h
              cases h4 : x.1 == 3 with
              | true => rw [h4, cond_true] at h; cases h
              | false =>
                rw [h4, cond_false] at h
                exact ihk _ _ _ _ _ _ _ _ _ _ (by omega) (by simp) (by simp; omega) h
    · intro kd ln col n d l acc keys kids e hf hn ha h
      rw [wq7v] at h
      cases h1 : nextS l kd col with
      | false => rw [h1, cond_false] at h; cases h
      | true =>
        obtain ⟨x, r, rfl, hx1, hx2⟩ := wqh7 h1
        rw [h1, cond_true] at h
        dsimp only at h
        simp only [List.length_cons] at hf
        cases h2 : (kd == 2 && anyK x.2.2.2.1 keys) with
        | true => rw [h2, cond_true] at h; cases h; simp
        | false =>
          rw [h2, cond_false] at h
          cases h3 : deepS r x.2.2.1 with
          | false => rw [h3, cond_false] at h; cases h; simp
          | true =>
            rw [h3, cond_true] at h
            have hr : r ≠ [] := fun e => by rw [e] at h3; cases h3
            cases hb : blkS f r acc (d + 1) with
            | inl e' =>
              rw [hb] at h
              have : e' = e := by injection h
              subst this
              exact ihb _ _ _ _ hr (by omega) ha hb
            | inr q =>
              obtain ⟨l1, acc1⟩ := q
              rw [hb] at h
              dsimp only at h
              obtain ⟨b1, b2, b3, b4⟩ := (wqmb f).1 _ _ _ _ _ hb ha
              exact ihk _ _ _ _ _ _ _ _ _ _ (by omega) (by omega) b3 h
theorem wq1d1 (k : Nat) (s : List UInt8) (e : Int × Int) (he : e.1 = 0) : docS (linesS k (spl s) 1 []) ≠ .inl e := by
  intro h
  unfold docS at h
  cases h1 : (linesS k (spl s) 1 []).2.1 != 0 with
  | true =>
    rw [h1, cond_true] at h
    injection h with h
    subst h
    dsimp only at he
    rw [he] at h1; cases h1
  | false =>
    rw [h1, cond_false] at h
    cases h2 : (allS (linesS k (spl s) 1 []).1 []).2.1 != 0 with
    | true =>
      rw [h2, cond_true] at h
      injection h with h
      subst h
      dsimp only at he
      rw [he] at h2; cases h2
    | false =>
      rw [h2, cond_false] at h
      unfold ofS at h
      cases hl : (allS (linesS k (spl s) 1 []).1 []).1 with
      | nil => rw [hl] at h; injection h with h; subst h; cases he
      | cons x r =>
        rw [hl] at h
        dsimp only at h
        cases hb : blkS (2 * (r.length + 1) + 2) (x :: r) [] 1 with
        | inl e' =>
          rw [hb] at h
          injection h with h
          subst h
          exact (wq1ft _).1 _ _ _ _ (by simp) (by simp) (by simp) hb he
        | inr q =>
          obtain ⟨l', nd'⟩ := q
          rw [hb] at h
          cases l' with
          | nil => cases h
          | cons y l' => injection h with h; subst h; cases he
theorem wq11l (t : List UInt8) : ∃ k, wq6w k (wqj t) (fun b => some b) = some true := by
  obtain ⟨k, hk⟩ : ∃ k : Nat, k = 300000 := ⟨_, rfl⟩
  refine ⟨k, ?_⟩
  unfold wq6w wqj7
  rw [wq1d]
  by_cases h : t.length > 4000
  · rw [dec_t (by omega), cond_true, wqmf k (by omega)]
  rw [dec_f (by omega), cond_false, wq11k k t (by omega) (by omega)]
  have fin : ∀ nd : List Nd, checkS nd = true → (wqam k nd fun y7 y8 => wq8r k nd fun y9 =>
      bif bif y9 != 0 then true else bif y8 != 0 then y8 != 4 else false then some false
      else bif bif y8 != 0 then true else decide ((y7.length : Int) > 16384) then wq4s k fun y10 => some y10
        else wqcg k y7 fun y10 y11 y12 => bif (y11 == 0 && y12 == 0) == true then wqah k y10 nd fun y13 => bif y13 == true then wq4s k fun y14 => some y14 else some false else some false) = some true := by
    intro nd hc
    obtain ⟨n1, o1⟩ := wq1fs hc
    have o2 : ∀ x ∈ nd, okD x := fun x hx => by
      obtain ⟨a, b, c, d⟩ := o1 x hx
      exact ⟨by omega, by omega, by omega, fun q hq => by have := d q hq; omega⟩
    have e0 : ((0 : Int) != 0) = false := rfl
    have e4 : ((4 : Int) != 0) = true := rfl
    have e44 : ((4 : Int) != 4) = false := rfl
    rw [wqpu k nd (by omega) o2 (by omega)]
    unfold outT
    rw [hc, cond_true]
    cases hb : decide ((textS 24 nd 0 0).length > 60000) with
    | true =>
      simp only [cond_true]
      rw [wqi0 k nd (by omega) o2 (by omega), hc]
      simp only [cond_true, cond_false, e0, e4, e44]
      exact wqmf k (by omega) _
    | false =>
      simp only [cond_false]
      rw [wqi0 k nd (by omega) o2 (by omega), hc]
      simp only [cond_true, cond_false, e0, wq1d]
      by_cases hl : (textS 24 nd 0 0).length > 16384
      · rw [dec_t (show ((textS 24 nd 0 0).length : Int) > 16384 by omega), cond_true]
        exact wqmf k (by omega) _
      · rw [dec_f (show ¬ ((textS 24 nd 0 0).length : Int) > 16384 by omega), cond_false, wq1d0 k nd (by omega) o2 hc (by omega) (by omega)]
        exact wqmf k (by omega) _
  cases hs : docS (linesS k (spl t) 1 []) with
  | inl e =>
    simp only [outD]
    cases he : e.1 != 0 with
    | true => rw [cond_true, wqmf k (by omega)]
    | false =>
      exact absurd hs (wq1d1 k t e (by simpa using he))
  | inr nd =>
    simp only [outD]
    have e0 : ((0 : Int) != 0) = false := rfl
    rw [e0, cond_false]
    exact fin nd (wq192 k t (by omega) hs)
theorem wqyj (x : (Kd.sl (.int .u8)).T) (hw : Wf (.sl (.int .u8)) x) : ∃ k, wq6w k x (fun b => some b) = some true := by
  obtain ⟨t, ht⟩ := wq1fc (x := x) (fun y hy => hw.2 y hy)
  rw [ht]
  exact wq11l t
end Go.Proofs.YtdfhgimidmfgfaaGreatDoor.Pvm
namespace Go.Proofs.YtdfhgimidmfgfaaGreatDoor.showParsed
open Go Go.Proofs Go.ChangeShapes Go.WideShapes Go.ChangeAt Go.RowKit Go.Proofs.YtdfhgimidmfgfaaGreatDoor.Pvm
theorem own : ownKnob Tryz.prog.godebug = none := by kernel_rfl
theorem laidOut : laidOutB Tryz.prog = true := by kernel_rfl
set_option maxRecDepth 100000 in
theorem lifted (os : Os) (started : os.Started) (H : Type) (enc : TypeId × Value → H) :
    ReturnsInHanded {} Tryz.checked os 5 .any (fun w args => (Rows.showParsedSpec.pre enc Tryz.prog Tryz.f5 Rows.showParsedRow.domain false w args ∧ laidMetH Tryz.prog Rows.showParsedRow.laid w) ∧ sizedMet enc Tryz.prog Tryz.f5 (OpenSpec.ofChange Rows.showParsedSpec) false w args) (Rows.showParsedSpec.post enc Tryz.prog Tryz.f5 false true false false) := by
  refine returnsInHanded_of_change_and (C := Tryz.checked) (X := fun w _ => laidMetH Tryz.prog Rows.showParsedRow.laid w) (fun _ _ _ hh h => h.of_heap hh) own started (by kernel_rfl) Tryz.func5
    (ChangeSpec.witness_shaped (enc := enc) (C := Tryz.checked) (os := os) (X := fun w _ => laidMetH Tryz.prog Rows.showParsedRow.laid w) false (World.laidAll Tryz.prog os Rows.showParsedRow.laid) #[.slice none 0 0] 8 (World.laidAll_os _ _ _)
      (World.shaped_of_ZipB (by kernel_rfl) (by kernel_rfl)) (by kernel_rfl) (by kernel_rfl) (by kernel_rfl)
      (by rw [MakeChecks.laidMetH_plain _ _ _ (by kernel_rfl)]; exact laidMet_laidAll _ (by kernel_rfl) (by kernel_rfl))) ?_
  intro W base args ds gs before hval0 hW hcnd hsz0 hL _
  have hsz : (DataW.weightsEach Tryz.prog (Tryz.f5.params.toList ++ Rows.showParsedSpec.plain.varTypes Tryz.prog) (ds ++ gs)).all (· ≤ reachBytes) = true := hsz0
  have hval : ∀ (j : Nat) t v, Tryz.f5.params[j]? = some t → args[j]? = some v → Value.okWide Tryz.prog W .any base t v := hval0
  have hW' := hW
  obtain ⟨p, q, hA0, hV, rfl, hfz, hnd⟩ := hW
  have hA : DataW.TrodAll enc Tryz.prog W 0 (fun _ => true) true Tryz.f5.params.toList args.toList ds p := hA0
  rw [Tryz.params5] at hA hval hsz
  obtain ⟨v0, vs0, d0, ds0, p0, q0, hargs, rfl, rfl, h0, r0⟩ := trodAll_cons hA
  obtain ⟨rfl, rfl, rfl⟩ := trodAll_nil r0
  obtain rfl : args = #[v0] := by cases args; simp_all
  obtain ⟨rfl, rfl⟩ := trodVars_none hV
  have hws := wq1ag (P := Tryz.prog) hsz
  have k0 := h0
  have lt0 : ∀ x ∈ p0, x.block < W.heap.size := by obtain ⟨m, hm⟩ := k0; exact DataW.trod_lt m _ _ _ hm
  obtain ⟨x0, wf0, rv0⟩ := wq1el tyT_ok (n := 9) (K := (.sl (.int .u8))) (by kernel_rfl) (by kernel_rfl) (hval 0 35 v0 rfl rfl) h0 (hws 0 35 d0 rfl rfl) (h := mkH []) (G := G0) (fun _ => rfl) (fun _ h => h)
  obtain ⟨k, hk⟩ := wqyj x0 wf0
  have hrun : wq7m k [.v (.sl (.int .u8)) x0] [] lawK = some true := hk
  refine (wq172 (fn := Tryz.f5) (c := Tryz.f5.body.getD .skip) (by kernel_rfl) (by kernel_rfl) (by kernel_rfl) (wqsx k _ _ _ _ _ hrun) (vals := [v0]) ⟨v0, _, rfl, rv0, rfl⟩).mono fun e W' ⟨he, bel⟩ => ?_
  subst he
  exact ⟨_, rfl, _, _, _, [], _, [], hW', trodAll_mk1 (shut_bool Tryz.underlying4 _), (trodAll_cons_mk (Below.trod laidOut (by kernel_rfl) (of_decide_eq_true (by kernel_rfl)) k0 bel lt0) trodAll_mk0), rfl, bel.frame _, fun h => by cases h⟩
theorem over : Rows.showParsedRow.holds Tryz.pinned (OpenSpec.ofChange Rows.showParsedSpec) :=
  OpenClaim.holds_of_wide 5 Tryz.f5 rfl rfl rfl rfl rfl rfl rfl ⟨rfl, rfl, rfl, rfl, rfl⟩ rfl rfl rfl rfl rfl (by kernel_rfl) Tryz.func5 (by kernel_rfl)
    (of_decide_eq_true (by kernel_rfl)) (by unfold Func.isWrapper; first | (rw [if_pos (by decide +kernel)]; kernel_rfl) | (rw [if_neg (by decide +kernel)]; exact ⟨rfl, rfl⟩))
    (fun os started H enc _ => lifted os started H enc)
theorem tied : Rows.ShowParsedCardSaid :=
  Claim7.holds_tied_plain_at .later [] [.data, .pinned] true (true, "8ff0b22b0140463e1ef15f244f75513c33ffd89a2d0735e6014609e75edaf140") true over (fun _ h => by cases h) (by kernel_rfl) (fun _ h => by cases h) showParsed_row_tie rfl ⟨rfl, rfl⟩ (by kernel_rfl) rfl
    (fun f fn hf hfn => by
      obtain rfl : f = 5 := Option.some.inj ((show Tryz.prog.funcNamed Rows.showParsedRow.func = some 5 by kernel_rfl).symm.trans hf) |>.symm
      obtain rfl : fn = Tryz.f5 := (Option.some.inj (Tryz.func5.symm.trans hfn)).symm
      exact ⟨by kernel_rfl, fun j t ht => by
        rw [Tryz.params5] at ht
        have hm : t ∈ [35] := by simpa using Array.mem_of_getElem? ht
        have hall : ([35].all fun u => !Tryz.prog.wantsStandIn u) = true := by kernel_rfl
        exact (show Tryz.prog.wantsStandIn t = false by simpa using List.all_eq_true.1 hall t hm)⟩)
    (by kernel_rfl)
#print axioms tied
end Go.Proofs.YtdfhgimidmfgfaaGreatDoor.showParsed
namespace Go.Proofs.YtdfhgimidmfgfaaGreatDoor
theorem showParsed_holds : Rows.ShowParsedCardSaid := showParsed.tied
end Go.Proofs.YtdfhgimidmfgfaaGreatDoor
end
