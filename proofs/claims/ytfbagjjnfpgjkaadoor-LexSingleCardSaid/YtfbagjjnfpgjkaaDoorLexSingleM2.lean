/- The Go function LexSingle answers true for every text and with or without a key ahead, on any machine and under any order of evaluation that Go allows; with no condition besides the statement's own, the card's own ties to the pruned copy of the project included. -/
import Derived.WalkKit
import Derived.ProofKit
import Derived.OpenShut
import Derived.ShutString
import Derived.ChangeOld
import Derived.Below
import Derived.SizedLaws
import Derived.ChangeArms
import Derived.Test.YtfbagjjnfpgjkaaDoorProg
import Derived.KernelRfl
import Derived.Test.YtfbagjjnfpgjkaaDoorChecked
import Derived.WalkSpells
import Derived.WalkLawsBesides
import Derived.Lib.Builder
import Derived.Lib.AppendStr
import Derived.Lib.UnsafeStr
import Derived.Laws.Externs
import Derived.Shelf.RegionOpenPlain
import Derived.Deep.Heap
import Derived.Test.YtfbagjjnfpgjkaaDoorLexSingleM0
import Derived.Test.YtfbagjjnfpgjkaaDoorLexSingleM1
set_option linter.unusedVariables false
set_option linter.unusedSimpArgs false
set_option linter.unusedSectionVars false
set_option linter.unusedSimpArgs false
set_option linter.unusedVariables false
set_option linter.unusedSectionVars false
namespace Go.Proofs.YtfbagjjnfpgjkaaDoor.Pvm
open Go Go.RowKit

/-- at least so many bytes -/
def Kd.lob : Kd → Nat
  | .int k => k.bits / 8
  | .bool => 1
  | .str => 16
  | .flt => 8
  | .sl _ => 24
  | .pr a b => a.lob + b.lob
  | .nil => 0
/-- what is known of data that came in -/
def Wf : (K : Kd) → K.T → Prop
  | .int k, x => k.min ≤ x ∧ x ≤ k.max
  | .bool, _ => True
  | .str, x => x.length ≤ 140737488351232
  | .flt, x => x < 2 ^ 64
  | .sl e, x => x.length * e.lob ≤ 140737488351232 ∧ ∀ y ∈ x, Wf e y
  | .pr a b, x => Wf a x.1 ∧ Wf b x.2
  | .nil, _ => True

def readFs (ty : TypeId → Option TI) (f : TypeId → Kd → Bool) : Nat → List (Nat × TypeId) → Kd → Bool
  | off, [(o, t)], K => Nat.beq o off && f t K && (match ty t with | some ti => Nat.beq ti.size K.sz | none => false)
  | off, (o, t) :: fs, .pr a b => Nat.beq o off && f t a && (match ty t with | some ti => Nat.beq ti.size a.sz | none => false) && readFs ty f (off + a.sz) fs b
  | _, _, _ => false
/-- may a type's values be read as data of a kind? -/
def readB (ty : TypeId → Option TI) : Nat → TypeId → Kd → Bool
  | 0, _, _ => false
  | n + 1, t, K => match ty t with
    | none => false
    | some ti => match ti.k, K with
      | .int k, .int k' => decide (k = k')
      | .bool, .bool => true
      | .str, .str => true
      | .flt, .flt => true
      | .slice, .sl e => (match ty ti.el with | some ei => Nat.blt 0 ei.size && Nat.beq ei.size e.sz && Nat.ble e.lob ei.bytes | none => false) && readB ty n ti.el e
      | .struct, K => readFs ty (readB ty n) 0 ti.fs K && Nat.beq ti.size K.sz
      | _, _ => false

section
variable {P : Program} {ty : TypeId → Option TI} {H : Type} {enc : TypeId × Value → H} {w : World} {spare : Nat → Bool} {held : Bool}

theorem TiOk.cellsOf {t : TypeId} {ti : TI} (h : TiOk P t ti) : P.cellsOf t = ti.size := by
  obtain ⟨i, z, h1, h2, _⟩ := h.info
  simp [Program.cellsOf, h1, h2]
theorem TiOk.bytesOf {t : TypeId} {ti : TI} (h : TiOk P t ti) : P.bytesOf t = ti.bytes := by
  obtain ⟨i, z, h1, _, h2, _⟩ := h.info
  simp [Program.bytesOf, h1, h2]

def ReadAt (P : Program) (enc : TypeId × Value → H) (w : World) (spare : Nat → Bool) (held : Bool) (t : TypeId) (K : Kd) : Prop :=
  ∀ (fuel : Nat) (cs : List Value) (d : DataW H) (ps : List MemPlace), DataW.trod enc P w 0 spare held fuel t cs = some (d, ps) → (∀ m ∈ DataW.weights P t d, m ≤ reachBytes) →
    ∃ x : K.T, RD w (fun _ => True) K x cs ∧ Wf K x

theorem readFs_ok (T : TyOk P ty) {f : TypeId → Kd → Bool} (hf : ∀ t K, f t K = true → ReadAt P enc w spare held t K) {n : Nat} {cs : List Value} :
    ∀ (fl : List Field) (tfs : List (Nat × TypeId)) (off : Nat) (K : Kd) (xs : List (DataW H × List MemPlace)), fl.map (fun g => (g.offset, g.type)) = tfs → readFs ty f off tfs K = true →
      (∀ (i : Nat) (g : Field), fl[i]? = some g → DataW.trod enc P w 0 spare held n g.type ((cs.drop g.offset).take (P.cellsOf g.type)) = xs[i]?) → xs.length = fl.length →
      (∀ m ∈ DataW.weightsEach P (fl.map (·.type)) (xs.map (·.1)), m ≤ reachBytes) → cs.length = off + K.sz →
      ∃ x : K.T, RD w (fun _ => True) K x (cs.drop off) ∧ Wf K x
  | [], tfs, off, K, xs, ht, hr, _, _, _, _ => by subst ht; simp [readFs] at hr
  | g :: fl, tfs, off, K, xs, ht, hr, hx, hl, hw, hc => by
    cases xs with
    | nil => simp at hl
    | cons x xs =>
      have h0 := hx 0 g (by simp)
      have key : ∀ a : Kd, Nat.beq g.offset off = true → f g.type a = true → (match ty g.type with | some ti => Nat.beq ti.size a.sz | none => false) = true → a.sz ≤ cs.length - off →
          ∃ y : a.T, RD w (fun _ => True) a y ((cs.drop off).take a.sz) ∧ Wf a y := by
        intro a h1 h2 h3 h4
        split at h3
        · next ti hti =>
          have hsz : P.cellsOf g.type = a.sz := by rw [(T _ _ hti).cellsOf]; exact beqN.1 h3
          rw [beqN.1 h1, hsz] at h0
          obtain ⟨d, ps⟩ := x
          refine hf _ _ h2 n _ d ps (by simpa using h0) fun m hm => hw m ?_
          simp [DataW.weightsEach, hm]
        · cases h3
      cases fl with
      | nil =>
        subst ht
        simp only [List.map_cons, List.map_nil, readFs, Bool.and_eq_true] at hr
        obtain ⟨⟨h1, h2⟩, h3⟩ := hr
        obtain ⟨y, hy1, hy2⟩ := key K h1 h2 h3 (by omega)
        refine ⟨y, ?_, hy2⟩
        rw [List.take_of_length_le (by rw [List.length_drop]; omega)] at hy1
        exact hy1
      | cons g2 fl =>
        subst ht
        cases K with
        | pr a b =>
          simp only [List.map_cons, readFs, Bool.and_eq_true] at hr
          obtain ⟨⟨⟨h1, h2⟩, h3⟩, h4⟩ := hr
          rw [Kd.sz] at hc
          obtain ⟨y, hy1, hy2⟩ := key a h1 h2 h3 (by omega)
          obtain ⟨z, hz1, hz2⟩ := readFs_ok T hf (n := n) (g2 :: fl) _ (off + a.sz) b xs rfl h4 (fun i g' hg' => by simpa using hx (i + 1) g' (by simpa using hg')) (by simpa using hl)
            (fun m hm => hw m (by simp [DataW.weightsEach] at hm ⊢; exact .inr hm)) (by omega)
          refine ⟨(y, z), ⟨(cs.drop off).take a.sz, (cs.drop off).drop a.sz, (List.take_append_drop _ _).symm, hy1, ?_⟩, hy2, hz2⟩
          rw [List.drop_drop]; exact hz1
        | _ => simp [readFs] at hr

theorem weightsAll_mem {e : TypeId} : ∀ {l : List (DataW H)} {d : DataW H}, d ∈ l → ∀ m ∈ DataW.weights P e d, m ∈ DataW.weightsAll P e l
  | a :: r, d, h, m, hm => by
    rw [DataW.weightsAll]
    rcases List.mem_cons.1 h with rfl | h
    · exact List.mem_append_left _ hm
    · exact List.mem_append_right _ (weightsAll_mem h m hm)
  | [], d, h, m, hm => by cases h

theorem cells_all {P : Program} {w : World} {a : Addr} {n : Nat} {cs : List Value} (h : w.cells? 0 a n = some cs) : cs.length = n ∧ ∀ (j : Nat) (u : Value), cs[j]? = some u → w.cell? (a.add j) = some u := by
  unfold World.cells? at h
  rw [if_pos (Nat.zero_le _)] at h
  have key : ∀ (l : List Nat) (cs : List Value), l.mapM (fun i => w.cell? (a.add i)) = some cs → cs.length = l.length ∧ ∀ (j : Nat) (u : Value), cs[j]? = some u → ∃ i, l[j]? = some i ∧ w.cell? (a.add i) = some u := by
    intro l
    induction l with
    | nil => intro cs h; simp at h; subst h; exact ⟨rfl, fun j u hj => by simp at hj⟩
    | cons i l ih =>
      intro cs h
      rw [List.mapM_cons] at h
      cases hc : w.cell? (a.add i) with
      | none => rw [hc] at h; simp at h
      | some v =>
        cases hl : l.mapM (fun i => w.cell? (a.add i)) with
        | none => rw [hc, hl] at h; simp at h
        | some r =>
          rw [hc, hl] at h
          simp at h
          subst h
          obtain ⟨h1, h2⟩ := ih r hl
          refine ⟨by simp [h1], fun j u hj => ?_⟩
          cases j with
          | zero => simp at hj; subst hj; exact ⟨i, by simp, hc⟩
          | succ j => obtain ⟨i', h3, h4⟩ := h2 j u (by simpa using hj); exact ⟨i', by simpa using h3, h4⟩
  obtain ⟨h1, h2⟩ := key _ _ h
  refine ⟨by simpa using h1, fun j u hj => ?_⟩
  obtain ⟨i, h3, h4⟩ := h2 j u hj
  have hlt := (List.getElem?_eq_some_iff.1 h3).1
  have : i = j := by
    obtain ⟨_, e⟩ := List.getElem?_eq_some_iff.1 h3
    simpa using e.symm
  subst this
  exact h4

theorem read_ok (T : TyOk P ty) : ∀ (n : Nat) (t : TypeId) (K : Kd), readB ty n t K = true → ReadAt P enc w spare held t K
  | 0, t, K, h => by simp [readB] at h
  | n + 1, t, K, h => by
    intro fuel cs d ps ht hw
    rw [readB] at h
    split at h
    · cases h
    · next ti hti =>
      have hT := T _ _ hti
      obtain ⟨td, hu, hk⟩ := hT.kind
      split at h
      · next k k' hk1 =>
        have : k = k' := by simpa using h
        subst this
        rw [hk1] at hk; simp only at hk; subst hk
        obtain ⟨m, rfl, _, hwf⟩ := DataW.trod_int hu ht
        simp only [Lit.wf, Bool.and_eq_true, decide_eq_true_eq] at hwf
        exact ⟨m, rfl, hwf⟩
      · next hk1 =>
        rw [hk1] at hk; simp only at hk; subst hk
        obtain ⟨b, rfl, _⟩ := DataW.trod_bool hu ht
        exact ⟨b, rfl, trivial⟩
      · next hk1 =>
        rw [hk1] at hk; simp only at hk; subst hk
        obtain ⟨s, rfl, hx, _⟩ := DataW.trod_string hu ht
        cases hx
        refine ⟨s.data.toList, rfl, ?_⟩
        have := hw _ (by rw [DataW.weights]; exact List.mem_cons_self)
        simpa [Wf, reachBytes] using this
      · next hk1 =>
        rw [hk1] at hk; simp only at hk; subst hk
        cases fuel with
        | zero => simp [DataW.trod] at ht
        | succ m =>
          unfold DataW.trod at ht
          rw [hu] at ht
          split at ht
          case h_3 k k' b e1 =>
            simp only [Option.some.injEq, TypeDesc.float.injEq] at e1
            subst e1
            split at ht
            · next hh =>
              obtain ⟨rfl, hwf⟩ := hh
              refine ⟨b, rfl, ?_⟩
              simpa [Lit.wf, Wf] using hwf
            · cases ht
          all_goals simp_all
      · next e hk1 =>
        rw [hk1] at hk; simp only at hk; subst hk
        simp only [Bool.and_eq_true] at h
        obtain ⟨h1, h2⟩ := h
        split at h1
        · next ei hei =>
          simp only [Bool.and_eq_true] at h1
          obtain ⟨⟨h3, h4⟩, h5⟩ := h1
          have h3 : 0 < ei.size := Nat.le_of_ble_eq_true h3
          have h4 := beqN.1 h4
          have h5 := Nat.le_of_ble_eq_true h5
          have hE := T _ _ hei
          rcases DataW.trod_slice hu ht with ⟨rfl, _⟩ | ⟨a, len, cap, elems, rest, m, rfl, rfl, hx, _, hlc, hcm, hel, hat, _⟩
          · exact ⟨[], ⟨none, 0, rfl, Nat.le_refl _, .inl rfl⟩, by simp, fun y hy => by cases hy⟩
          · cases hx
            rw [DataW.weights, hu] at hw
            simp only at hw
            have hlen := hw _ List.mem_cons_self
            rw [List.length_map, List.length_map, hE.bytesOf] at hlen
            rw [hE.cellsOf, h4] at hat
            have ih := read_ok T n _ _ h2
            -- each element
            have each : ∀ i, i < len → ∃ (y : e.T) (c : List Value), RD w (fun _ => True) e y c ∧ Wf e y ∧ ∀ (j : Nat) (u : Value), c[j]? = some u → w.cell? (a.add (i * e.sz + j)) = some u := by
              intro i hi
              have h6 := hat i hi
              have h7 : elems[i]? = some elems[i] := by simp [hel, hi]
              rw [h7] at h6
              cases hc : w.cells? 0 (a.add (i * e.sz)) e.sz with
              | none => rw [hc] at h6; simp at h6
              | some c =>
                rw [hc, Option.bind_some] at h6
                obtain ⟨y, hy1, hy2⟩ := ih m c elems[i].1 elems[i].2 (by rw [h6]) (fun q hq => hw q (List.mem_cons_of_mem _ (List.mem_append_left _ (weightsAll_mem (List.mem_map.2 ⟨elems[i], List.getElem_mem _, rfl⟩) q hq))))
                obtain ⟨_, hcell⟩ := cells_all (P := P) hc
                refine ⟨y, c, hy1, hy2, fun j u hj => ?_⟩
                rw [← Addr.add_add]; exact hcell j u hj
            -- all of them
            have all : ∃ l : List e.T, l.length = len ∧ (∀ y ∈ l, Wf e y) ∧ ∀ (i : Nat) (y : e.T), l[i]? = some y → ∃ c, RD w (fun _ => True) e y c ∧ ∀ (j : Nat) (u : Value), c[j]? = some u → w.cell? (a.add (i * e.sz + j)) = some u := by
              have key : ∀ k, k ≤ len → ∃ l : List e.T, l.length = k ∧ (∀ y ∈ l, Wf e y) ∧ ∀ (i : Nat) (y : e.T), l[i]? = some y → ∃ c, RD w (fun _ => True) e y c ∧ ∀ (j : Nat) (u : Value), c[j]? = some u → w.cell? (a.add (i * e.sz + j)) = some u := by
                intro k
                induction k with
                | zero => intro _; exact ⟨[], rfl, fun y hy => (by cases hy), fun i y hi => by simp at hi⟩
                | succ k ihk =>
                  intro hk
                  obtain ⟨l, hl1, hl2, hl3⟩ := ihk (by omega)
                  obtain ⟨y, c, e1, e2, e3⟩ := each k (by omega)
                  refine ⟨l ++ [y], by simp [hl1], fun z hz => ?_, fun i z hz => ?_⟩
                  · rcases List.mem_append.1 hz with hz | hz
                    · exact hl2 z hz
                    · simp at hz; subst hz; exact e2
                  · by_cases hi : i < l.length
                    · rw [List.getElem?_append_left hi] at hz; exact hl3 i z hz
                    · rw [List.getElem?_append_right (by omega)] at hz
                      have hi2 : i = k := by
                        have := (List.getElem?_eq_some_iff.1 hz).1
                        simp at this; omega
                      subst hi2
                      simp [hl1] at hz; subst hz
                      exact ⟨c, e1, e3⟩
              exact key len (Nat.le_refl _)
            obtain ⟨l, hl1, hl2, hl3⟩ := all
            refine ⟨l, ⟨some a, cap, by rw [hl1], by omega, ?_⟩, ?_, hl2⟩
            · by_cases hnil : l = []
              · exact .inl hnil
              · refine .inr ⟨a, rfl, trivial, ?_, hl3⟩
                have hpos : 0 < l.length := List.length_pos_iff.2 hnil
                obtain ⟨c, hc, hu'⟩ := hl3 0 l[0] (by simp)
                have hcl := hc.len
                have h0c : 0 < c.length := by omega
                have := hu' 0 c[0] (by simp [h0c])
                simp only [Nat.zero_mul, Nat.add_zero, Addr.add_zero'] at this
                refine Classical.byContradiction fun hno => ?_
                simp [World.cell?, Array.getElem?_eq_none (Nat.le_of_not_lt hno)] at this
            · rw [hl1, ← hel]
              refine Nat.le_trans (Nat.mul_le_mul_left _ h5) ?_
              refine Nat.le_trans (Nat.mul_le_mul_right _ (Nat.le_add_right _ rest.length)) ?_
              simpa [reachBytes] using hlen
        · cases h1
      · next hk1 =>
        rw [hk1] at hk; simp only at hk
        obtain ⟨fs, rfl, hfs, _⟩ := hk
        simp only [Bool.and_eq_true] at h
        obtain ⟨h1, h2⟩ := h
        obtain ⟨xs, m, rfl, hx, hcl, hxl, hat⟩ := DataW.trod_struct hu ht
        cases hx
        rw [DataW.weights, hu] at hw
        simp only at hw
        rw [hT.cellsOf, beqN.1 h2] at hcl
        have := readFs_ok (enc := enc) (w := w) (spare := spare) (held := held) T (f := readB ty n) (fun t K h => read_ok T n t K h) (n := m) (cs := cs) fs.toList ti.fs 0 _ xs hfs h1 (fun i g hg => hat i g (by simpa using hg)) (by simpa using hxl) hw (by omega)
        rwa [List.drop_zero] at this
      · cases h

/-! ### arguments -/
theorem okT {h : Heap} {G : Gh} (hh : ∀ n, h n = none) (hX : ∀ b, ¬ G.X b) {b : Nat} : okB h G b := ⟨fun n hn => by simp [blkOf, hh n] at hn, hX b⟩
theorem arg_data (T : TyOk P ty) {n base : Nat} {r : Reach} {t : TypeId} {K : Kd} (hr : readB ty n t K = true) (hs : (match ty t with | some ti => (match ti.k with | .struct => false | _ => true) | none => false) = true) {v : Value} {d : DataW H} {p : List MemPlace} (hval : Value.okWide P w r base t v) (hd : DataW.Trod enc P w 0 spare held t v d p)
    (hw : ∀ m ∈ DataW.weights P t d, m ≤ reachBytes) {h : Heap} {G : Gh} (hh : ∀ n, h n = none) (hX : ∀ b, ¬ G.X b) : ∃ x : K.T, Wf K x ∧ RV h G w (.v K x) v := by
  obtain ⟨fuel, hf⟩ := hd
  obtain ⟨x, h1, h2⟩ := read_ok T n t K hr fuel _ d p hf hw
  refine ⟨x, h2, ?_⟩
  have hc : v.cells.toList = [v] := by
    split at hs
    · next ti hti =>
      obtain ⟨td, hu, hk⟩ := (T _ _ hti).kind
      rw [readB.eq_def] at hr
      cases n with
      | zero => simp at hr
      | succ n =>
        simp only [hti] at hr
        split at hr
        · next hk1 => rw [hk1] at hk; simp only at hk; subst hk; obtain ⟨m, rfl⟩ := WideShapes.okWide_int hu hval; rfl
        · next hk1 => rw [hk1] at hk; simp only at hk; subst hk; simp only [Value.okWide, hu, Cell.okWide] at hval; cases v <;> simp_all [Cell.ok, Value.cells]
        · next hk1 => rw [hk1] at hk; simp only at hk; subst hk; obtain ⟨m, rfl⟩ := WideShapes.okWide_string hu hval; rfl
        · next hk1 => rw [hk1] at hk; simp only at hk; subst hk; simp only [Value.okWide, hu, Cell.okWide] at hval; cases v <;> simp_all [Cell.ok, Value.cells]
        · next hk1 => rw [hk1] at hk; simp only at hk; subst hk; obtain ⟨a, l, c, rfl⟩ := WideShapes.okWide_slice hu hval; rfl
        · next hk1 => rw [hk1] at hs; cases hs
        · cases hr
    · cases hs
  show RD w (okB h G) K x [v]
  rw [← hc]
  exact h1.mono fun b _ _ => ⟨okT hh hX, rfl⟩
theorem arg_struct (T : TyOk P ty) {n base : Nat} {r : Reach} {t : TypeId} {K : Kd} (hr : readB ty n t K = true) (hs : (match ty t with | some ti => (match ti.k with | .struct => true | _ => false) | none => false) = true) {v : Value} {d : DataW H} {p : List MemPlace} (hval : Value.okWide P w r base t v) (hd : DataW.Trod enc P w 0 spare held t v d p)
    (hw : ∀ m ∈ DataW.weights P t d, m ≤ reachBytes) {h : Heap} {G : Gh} (hh : ∀ n, h n = none) (hX : ∀ b, ¬ G.X b) : ∃ x : K.T, Wf K x ∧ RV h G w (.agg (K.cells x)) v := by
  obtain ⟨fuel, hf⟩ := hd
  obtain ⟨x, h1, h2⟩ := read_ok T n t K hr fuel _ d p hf hw
  refine ⟨x, h2, ?_⟩
  split at hs
  · next ti hti =>
    split at hs
    · next hk1 =>
      obtain ⟨td, hu, hk⟩ := (T _ _ hti).kind
      rw [hk1] at hk; simp only at hk
      obtain ⟨fs, rfl, _⟩ := hk
      obtain ⟨cs, rfl, _⟩ := WideShapes.okWide_struct hu hval
      refine ⟨cs.toList, by simp, ?_⟩
      have : RD w (okB h G) K x cs.toList := h1.mono fun b _ _ => ⟨okT hh hX, rfl⟩
      exact cells_RVs this
    · cases hs
  · cases hs

/-! ### a law's call -/
def lawK : Out → Option Bool
  | .ret [.v .bool y] [] => some y
  | _ => none
def G0 : Gh := ⟨fun _ => 0, fun _ => .nilIface, fun _ => False⟩
theorem enters {f : FuncId} {fn : Func} {c : Code} (hfn : P.funcs[f]? = some fn) (hb : fn.body = some c) (hname : (fn.name == "runtime.NumGoroutine") = false) (args : Array Value) (w : World) : (callFunc f args).run P w = .ok (.enter f args) w := by
  have hn2 : ¬ fn.name = "runtime.NumGoroutine" := by simpa using hname
  simp [callFunc, program, Sem.run, hfn, hn2, hb]
theorem law_calls {f : FuncId} {fn : Func} {c : Code} (hfn : P.funcs[f]? = some fn) (hb : fn.body = some c) (hname : (fn.name == "runtime.NumGoroutine") = false) {ps : List PV} {b : Bool} (h : DoesTo P f ps [] fun out => lawK out = some b) {vals : List Value} (hv : RVs (mkH []) G0 w ps vals) :
    Calls P f vals.toArray w fun e w' => e = .returned (.bool b) ∧ Below w.heap.size w w' := by
  have := h G0 w vals hv (fun n o hn => by cases hn) ⟨fun n m b hn => by simp [blkOf, mkH, look] at hn, fun n b hn => by simp [blkOf, mkH, look] at hn, fun b hb => hb.elim⟩
  unfold Does at this
  rw [enters hfn hb hname] at this
  refine Calls.mono this fun e w' hh => ?_
  obtain ⟨out, ho, G', hout, F⟩ := hh
  unfold lawK at ho
  split at ho
  · cases ho
    obtain ⟨v, rfl, hv⟩ := hout
    have hv : RD _ _ .bool b [v] := hv
    simp only [RD, List.cons.injEq, and_true] at hv
    subst hv
    exact ⟨rfl, F.os, F.tape, F.out, F.grow, fun k hk => F.blk k hk fun n hn => by simp [blkOf, mkH, look] at hn⟩
  · cases ho
theorem fin_below {G : Gh} {w w' : World} (b : Below w.heap.size w w') : Fin [] [] G w G w' :=
  ⟨fun n o h => (by cases h), fun n m b h => (by simp [blkOf, mkH, look] at h), fun n t cs h => (by cases h), fun k hk _ => b.block k hk, rfl, fun n b h => (by simp [blkOf, mkH, look] at h), b.size, b.os, b.tape, b.output⟩
theorem weights_of {ts : List TypeId} {ds : List (DataW H)} {vt : List TypeId} {gs : List (DataW H)} (h : (DataW.weightsEach P (ts ++ vt) (ds ++ gs)).all (· ≤ reachBytes) = true) : ∀ (i : Nat) (t : TypeId) (d : DataW H), ts[i]? = some t → ds[i]? = some d → ∀ m ∈ DataW.weights P t d, m ≤ reachBytes := by
  have key : ∀ (ts : List TypeId) (ds : List (DataW H)), (∀ m ∈ DataW.weightsEach P (ts ++ vt) (ds ++ gs), m ≤ reachBytes) → ∀ (i : Nat) (t : TypeId) (d : DataW H), ts[i]? = some t → ds[i]? = some d → ∀ m ∈ DataW.weights P t d, m ≤ reachBytes := by
    intro ts
    induction ts with
    | nil => intro ds _ i t d ht; simp at ht
    | cons t0 ts ih =>
      intro ds hw i t d ht hd m hm
      cases ds with
      | nil => simp at hd
      | cons d0 ds =>
        simp only [List.cons_append, DataW.weightsEach] at hw
        cases i with
        | zero => simp at ht hd; subst ht hd; exact hw m (List.mem_append_left _ hm)
        | succ i => exact ih ds (fun m hm => hw m (List.mem_append_right _ hm)) i t d (by simpa using ht) (by simpa using hd) m hm
  exact key ts ds (by simpa using h)
end
end Go.Proofs.YtfbagjjnfpgjkaaDoor.Pvm

set_option maxRecDepth 100000
namespace Go.Proofs.YtfbagjjnfpgjkaaDoor.Pvm
open Go Go.Proofs

/-- func() -/
def ti1 : TI := ⟨.other, 1, 8, none, [.un], [], 0, false⟩
theorem ti1_ok : TiOk Tryd.prog 1 ti1 := TiOk.of (z := Go.Value.nilFunc) (d := (@Go.TypeDesc.func (@Array.mk Nat (@List.nil Nat)) (@Array.mk Nat (@List.nil Nat)) Bool.false)) (by kernel_rfl) (by kernel_rfl) (by kernel_rfl) trivial rfl trivial (by kernel_rfl) (fun h => nomatch h)
/-- int64 -/
def ti2 : TI := ⟨.int .i64, 1, 8, some (.int .i64), [.v (.int .i64) 0], [], 0, false⟩
theorem ti2_ok : TiOk Tryd.prog 2 ti2 := TiOk.of (z := (@Go.Value.int Go.IntKind.i64 (@Int.ofNat 0))) (d := (@Go.TypeDesc.int Go.IntKind.i64)) (by kernel_rfl) (by kernel_rfl) (by kernel_rfl) ⟨by kernel_rfl, by kernel_rfl⟩ rfl rfl (by kernel_rfl) (fun h => nomatch h)
/-- int -/
def ti3 : TI := ⟨.int .i64, 1, 8, some (.int .i64), [.v (.int .i64) 0], [], 0, false⟩
theorem ti3_ok : TiOk Tryd.prog 3 ti3 := TiOk.of (z := (@Go.Value.int Go.IntKind.i64 (@Int.ofNat 0))) (d := (@Go.TypeDesc.int Go.IntKind.i64)) (by kernel_rfl) (by kernel_rfl) (by kernel_rfl) ⟨by kernel_rfl, by kernel_rfl⟩ rfl rfl (by kernel_rfl) (fun h => nomatch h)
/-- bool -/
def ti4 : TI := ⟨.bool, 1, 1, some .bool, [.v .bool false], [], 0, false⟩
theorem ti4_ok : TiOk Tryd.prog 4 ti4 := TiOk.of (z := (@Go.Value.bool Bool.false)) (d := Go.TypeDesc.bool) (by kernel_rfl) (by kernel_rfl) (by kernel_rfl) ⟨by kernel_rfl, by kernel_rfl⟩ rfl rfl (by kernel_rfl) (fun h => nomatch h)
/-- uint8 -/
def ti5 : TI := ⟨.int .u8, 1, 1, some (.int .u8), [.v (.int .u8) 0], [], 0, false⟩
theorem ti5_ok : TiOk Tryd.prog 5 ti5 := TiOk.of (z := (@Go.Value.int Go.IntKind.u8 (@Int.ofNat 0))) (d := (@Go.TypeDesc.int Go.IntKind.u8)) (by kernel_rfl) (by kernel_rfl) (by kernel_rfl) ⟨by kernel_rfl, by kernel_rfl⟩ rfl rfl (by kernel_rfl) (fun h => nomatch h)
/-- abi.BoundsErrorCode -/
def ti6 : TI := ⟨.int .u8, 1, 1, some (.int .u8), [.v (.int .u8) 0], [], 0, false⟩
theorem ti6_ok : TiOk Tryd.prog 6 ti6 := TiOk.of (z := (@Go.Value.int Go.IntKind.u8 (@Int.ofNat 0))) (d := (@Go.TypeDesc.int Go.IntKind.u8)) (by kernel_rfl) (by kernel_rfl) (by kernel_rfl) ⟨by kernel_rfl, by kernel_rfl⟩ rfl rfl (by kernel_rfl) (fun h => nomatch h)
/-- struct { x int64; y int; signed bool; code abi.BoundsErrorCode } -/
def ti7 : TI := ⟨.struct, 4, 24, some (.pr (.int .i64) (.pr (.int .i64) (.pr .bool (.int .u8)))), [.v (.int .i64) 0, .v (.int .i64) 0, .v .bool false, .v (.int .u8) 0], [(0, 2), (1, 3), (2, 4), (3, 6)], 0, true⟩
theorem ti7_ok : TiOk Tryd.prog 7 ti7 := TiOk.of (z := (@Go.Value.agg (@Array.mk Go.Value (@List.cons Go.Value (@Go.Value.int Go.IntKind.i64 (@Int.ofNat 0)) (@List.cons Go.Value (@Go.Value.int Go.IntKind.i64 (@Int.ofNat 0)) (@List.cons Go.Value (@Go.Value.bool Bool.false) (@List.cons Go.Value (@Go.Value.int Go.IntKind.u8 (@Int.ofNat 0)) (@List.nil Go.Value)))))))) (d := (@Go.TypeDesc.struct (@Array.mk Go.Field (@List.cons Go.Field (@Go.Field.mk "x" 2 0 Bool.false "" "runtime" 0) (@List.cons Go.Field (@Go.Field.mk "y" 3 1 Bool.false "" "runtime" 8) (@List.cons Go.Field (@Go.Field.mk "signed" 4 2 Bool.false "" "runtime" 16) (@List.cons Go.Field (@Go.Field.mk "code" 6 3 Bool.false "" "runtime" 17) (@List.nil Go.Field)))))))) (by kernel_rfl) (by kernel_rfl) (by kernel_rfl) ⟨by kernel_rfl, by kernel_rfl⟩ ⟨_, rfl⟩ ⟨_, rfl, by kernel_rfl, by kernel_rfl⟩ (by kernel_rfl) (fun _ _ => by kernel_rfl)
/-- runtime.boundsError -/
def ti8 : TI := ⟨.struct, 4, 24, some (.pr (.int .i64) (.pr (.int .i64) (.pr .bool (.int .u8)))), [.v (.int .i64) 0, .v (.int .i64) 0, .v .bool false, .v (.int .u8) 0], [(0, 2), (1, 3), (2, 4), (3, 6)], 0, true⟩
theorem ti8_ok : TiOk Tryd.prog 8 ti8 := TiOk.of (z := (@Go.Value.agg (@Array.mk Go.Value (@List.cons Go.Value (@Go.Value.int Go.IntKind.i64 (@Int.ofNat 0)) (@List.cons Go.Value (@Go.Value.int Go.IntKind.i64 (@Int.ofNat 0)) (@List.cons Go.Value (@Go.Value.bool Bool.false) (@List.cons Go.Value (@Go.Value.int Go.IntKind.u8 (@Int.ofNat 0)) (@List.nil Go.Value)))))))) (d := (@Go.TypeDesc.struct (@Array.mk Go.Field (@List.cons Go.Field (@Go.Field.mk "x" 2 0 Bool.false "" "runtime" 0) (@List.cons Go.Field (@Go.Field.mk "y" 3 1 Bool.false "" "runtime" 8) (@List.cons Go.Field (@Go.Field.mk "signed" 4 2 Bool.false "" "runtime" 16) (@List.cons Go.Field (@Go.Field.mk "code" 6 3 Bool.false "" "runtime" 17) (@List.nil Go.Field)))))))) (by kernel_rfl) (by kernel_rfl) (by kernel_rfl) ⟨by kernel_rfl, by kernel_rfl⟩ ⟨_, rfl⟩ ⟨_, rfl, by kernel_rfl, by kernel_rfl⟩ (by kernel_rfl) (fun _ _ => by kernel_rfl)
/-- string -/
def ti9 : TI := ⟨.str, 1, 16, some .str, [.v .str []], [], 0, false⟩
theorem ti9_ok : TiOk Tryd.prog 9 ti9 := TiOk.of (z := (@Go.Value.string (@ByteArray.mk (@Array.mk UInt8 (@List.nil UInt8))))) (d := Go.TypeDesc.string) (by kernel_rfl) (by kernel_rfl) (by kernel_rfl) ⟨by kernel_rfl, by kernel_rfl⟩ rfl rfl (by kernel_rfl) (fun h => nomatch h)
/-- runtime.errorString -/
def ti10 : TI := ⟨.str, 1, 16, some .str, [.v .str []], [], 0, false⟩
theorem ti10_ok : TiOk Tryd.prog 10 ti10 := TiOk.of (z := (@Go.Value.string (@ByteArray.mk (@Array.mk UInt8 (@List.nil UInt8))))) (d := Go.TypeDesc.string) (by kernel_rfl) (by kernel_rfl) (by kernel_rfl) ⟨by kernel_rfl, by kernel_rfl⟩ rfl rfl (by kernel_rfl) (fun h => nomatch h)
/-- runtime.plainError -/
def ti11 : TI := ⟨.str, 1, 16, some .str, [.v .str []], [], 0, false⟩
theorem ti11_ok : TiOk Tryd.prog 11 ti11 := TiOk.of (z := (@Go.Value.string (@ByteArray.mk (@Array.mk UInt8 (@List.nil UInt8))))) (d := Go.TypeDesc.string) (by kernel_rfl) (by kernel_rfl) (by kernel_rfl) ⟨by kernel_rfl, by kernel_rfl⟩ rfl rfl (by kernel_rfl) (fun h => nomatch h)
/-- uintptr -/
def ti12 : TI := ⟨.int .u64, 1, 8, some (.int .u64), [.v (.int .u64) 0], [], 0, false⟩
theorem ti12_ok : TiOk Tryd.prog 12 ti12 := TiOk.of (z := (@Go.Value.int Go.IntKind.u64 (@Int.ofNat 0))) (d := (@Go.TypeDesc.int Go.IntKind.u64)) (by kernel_rfl) (by kernel_rfl) (by kernel_rfl) ⟨by kernel_rfl, by kernel_rfl⟩ rfl rfl (by kernel_rfl) (fun h => nomatch h)
/-- struct { msg string; addr uintptr } -/
def ti13 : TI := ⟨.struct, 2, 24, some (.pr .str (.int .u64)), [.v .str [], .v (.int .u64) 0], [(0, 9), (1, 12)], 0, false⟩
theorem ti13_ok : TiOk Tryd.prog 13 ti13 := TiOk.of (z := (@Go.Value.agg (@Array.mk Go.Value (@List.cons Go.Value (@Go.Value.string (@ByteArray.mk (@Array.mk UInt8 (@List.nil UInt8)))) (@List.cons Go.Value (@Go.Value.int Go.IntKind.u64 (@Int.ofNat 0)) (@List.nil Go.Value)))))) (d := (@Go.TypeDesc.struct (@Array.mk Go.Field (@List.cons Go.Field (@Go.Field.mk "msg" 9 0 Bool.false "" "runtime" 0) (@List.cons Go.Field (@Go.Field.mk "addr" 12 1 Bool.false "" "runtime" 16) (@List.nil Go.Field)))))) (by kernel_rfl) (by kernel_rfl) (by kernel_rfl) ⟨by kernel_rfl, by kernel_rfl⟩ ⟨_, rfl⟩ ⟨_, rfl, by kernel_rfl, by kernel_rfl⟩ (by kernel_rfl) (fun h => nomatch h)
/-- runtime.errorAddressString -/
def ti14 : TI := ⟨.struct, 2, 24, some (.pr .str (.int .u64)), [.v .str [], .v (.int .u64) 0], [(0, 9), (1, 12)], 0, false⟩
theorem ti14_ok : TiOk Tryd.prog 14 ti14 := TiOk.of (z := (@Go.Value.agg (@Array.mk Go.Value (@List.cons Go.Value (@Go.Value.string (@ByteArray.mk (@Array.mk UInt8 (@List.nil UInt8)))) (@List.cons Go.Value (@Go.Value.int Go.IntKind.u64 (@Int.ofNat 0)) (@List.nil Go.Value)))))) (d := (@Go.TypeDesc.struct (@Array.mk Go.Field (@List.cons Go.Field (@Go.Field.mk "msg" 9 0 Bool.false "" "runtime" 0) (@List.cons Go.Field (@Go.Field.mk "addr" 12 1 Bool.false "" "runtime" 16) (@List.nil Go.Field)))))) (by kernel_rfl) (by kernel_rfl) (by kernel_rfl) ⟨by kernel_rfl, by kernel_rfl⟩ ⟨_, rfl⟩ ⟨_, rfl, by kernel_rfl, by kernel_rfl⟩ (by kernel_rfl) (fun h => nomatch h)
/-- *runtime.TypeAssertionError -/
def ti15 : TI := ⟨.ptr, 1, 8, none, [.nilptr], [], 83, false⟩
theorem ti15_ok : TiOk Tryd.prog 15 ti15 := TiOk.of (z := (@Go.Value.pointer (@Option.none Go.Addr))) (d := (@Go.TypeDesc.pointer 83)) (by kernel_rfl) (by kernel_rfl) (by kernel_rfl) trivial rfl rfl (by kernel_rfl) (fun h => nomatch h)
/-- *runtime.PanicNilError -/
def ti16 : TI := ⟨.ptr, 1, 8, none, [.nilptr], [], 86, false⟩
theorem ti16_ok : TiOk Tryd.prog 16 ti16 := TiOk.of (z := (@Go.Value.pointer (@Option.none Go.Addr))) (d := (@Go.TypeDesc.pointer 86)) (by kernel_rfl) (by kernel_rfl) (by kernel_rfl) trivial rfl rfl (by kernel_rfl) (fun h => nomatch h)
/-- *abi.Type -/
def ti17 : TI := ⟨.ptr, 1, 8, none, [.nilptr], [], 94, false⟩
theorem ti17_ok : TiOk Tryd.prog 17 ti17 := TiOk.of (z := (@Go.Value.pointer (@Option.none Go.Addr))) (d := (@Go.TypeDesc.pointer 94)) (by kernel_rfl) (by kernel_rfl) (by kernel_rfl) trivial rfl rfl (by kernel_rfl) (fun h => nomatch h)
/-- struct { typ *abi.Type } -/
def ti18 : TI := ⟨.struct, 1, 8, none, [.nilptr], [(0, 17)], 0, false⟩
theorem ti18_ok : TiOk Tryd.prog 18 ti18 := TiOk.of (z := (@Go.Value.agg (@Array.mk Go.Value (@List.cons Go.Value (@Go.Value.pointer (@Option.none Go.Addr)) (@List.nil Go.Value))))) (d := (@Go.TypeDesc.struct (@Array.mk Go.Field (@List.cons Go.Field (@Go.Field.mk "typ" 17 0 Bool.false "" "internal/runtime/maps" 0) (@List.nil Go.Field))))) (by kernel_rfl) (by kernel_rfl) (by kernel_rfl) trivial ⟨_, rfl⟩ ⟨_, rfl, by kernel_rfl, by kernel_rfl⟩ (by kernel_rfl) (fun h => nomatch h)
/-- maps.unhashableTypeError -/
def ti19 : TI := ⟨.struct, 1, 8, none, [.nilptr], [(0, 17)], 0, false⟩
theorem ti19_ok : TiOk Tryd.prog 19 ti19 := TiOk.of (z := (@Go.Value.agg (@Array.mk Go.Value (@List.cons Go.Value (@Go.Value.pointer (@Option.none Go.Addr)) (@List.nil Go.Value))))) (d := (@Go.TypeDesc.struct (@Array.mk Go.Field (@List.cons Go.Field (@Go.Field.mk "typ" 17 0 Bool.false "" "internal/runtime/maps" 0) (@List.nil Go.Field))))) (by kernel_rfl) (by kernel_rfl) (by kernel_rfl) trivial ⟨_, rfl⟩ ⟨_, rfl, by kernel_rfl, by kernel_rfl⟩ (by kernel_rfl) (fun h => nomatch h)
/-- interface {} -/
def ti20 : TI := ⟨.iface, 1, 16, none, [.nilif], [], 0, false⟩
theorem ti20_ok : TiOk Tryd.prog 20 ti20 := TiOk.of (z := Go.Value.nilIface) (d := (@Go.TypeDesc.interface (@Array.mk (@Prod String Nat) (@List.nil (@Prod String Nat))))) (by kernel_rfl) (by kernel_rfl) (by kernel_rfl) trivial rfl ⟨_, rfl⟩ (by kernel_rfl) (fun h => nomatch h)
/-- int32 -/
def ti21 : TI := ⟨.int .i32, 1, 4, some (.int .i32), [.v (.int .i32) 0], [], 0, false⟩
theorem ti21_ok : TiOk Tryd.prog 21 ti21 := TiOk.of (z := (@Go.Value.int Go.IntKind.i32 (@Int.ofNat 0))) (d := (@Go.TypeDesc.int Go.IntKind.i32)) (by kernel_rfl) (by kernel_rfl) (by kernel_rfl) ⟨by kernel_rfl, by kernel_rfl⟩ rfl rfl (by kernel_rfl) (fun h => nomatch h)
/-- func() bool -/
def ti22 : TI := ⟨.other, 1, 8, none, [.un], [], 0, false⟩
theorem ti22_ok : TiOk Tryd.prog 22 ti22 := TiOk.of (z := Go.Value.nilFunc) (d := (@Go.TypeDesc.func (@Array.mk Nat (@List.nil Nat)) (@Array.mk Nat (@List.cons Nat 4 (@List.nil Nat))) Bool.false)) (by kernel_rfl) (by kernel_rfl) (by kernel_rfl) trivial rfl trivial (by kernel_rfl) (fun h => nomatch h)
/-- func(string, string, string) string -/
def ti23 : TI := ⟨.other, 1, 8, none, [.un], [], 0, false⟩
theorem ti23_ok : TiOk Tryd.prog 23 ti23 := TiOk.of (z := Go.Value.nilFunc) (d := (@Go.TypeDesc.func (@Array.mk Nat (@List.cons Nat 9 (@List.cons Nat 9 (@List.cons Nat 9 (@List.nil Nat))))) (@Array.mk Nat (@List.cons Nat 9 (@List.nil Nat))) Bool.false)) (by kernel_rfl) (by kernel_rfl) (by kernel_rfl) trivial rfl trivial (by kernel_rfl) (fun h => nomatch h)
/-- struct { Kind int; Line int; Col int; Text string; Quoted bool } -/
def ti24 : TI := ⟨.struct, 5, 48, some (.pr (.int .i64) (.pr (.int .i64) (.pr (.int .i64) (.pr .str .bool)))), [.v (.int .i64) 0, .v (.int .i64) 0, .v (.int .i64) 0, .v .str [], .v .bool false], [(0, 3), (1, 3), (2, 3), (3, 9), (4, 4)], 0, true⟩
theorem ti24_ok : TiOk Tryd.prog 24 ti24 := TiOk.of (z := (@Go.Value.agg (@Array.mk Go.Value (@List.cons Go.Value (@Go.Value.int Go.IntKind.i64 (@Int.ofNat 0)) (@List.cons Go.Value (@Go.Value.int Go.IntKind.i64 (@Int.ofNat 0)) (@List.cons Go.Value (@Go.Value.int Go.IntKind.i64 (@Int.ofNat 0)) (@List.cons Go.Value (@Go.Value.string (@ByteArray.mk (@Array.mk UInt8 (@List.nil UInt8)))) (@List.cons Go.Value (@Go.Value.bool Bool.false) (@List.nil Go.Value))))))))) (d := (@Go.TypeDesc.struct (@Array.mk Go.Field (@List.cons Go.Field (@Go.Field.mk "Kind" 3 0 Bool.false "" "" 0) (@List.cons Go.Field (@Go.Field.mk "Line" 3 1 Bool.false "" "" 8) (@List.cons Go.Field (@Go.Field.mk "Col" 3 2 Bool.false "" "" 16) (@List.cons Go.Field (@Go.Field.mk "Text" 9 3 Bool.false "" "" 24) (@List.cons Go.Field (@Go.Field.mk "Quoted" 4 4 Bool.false "" "" 40) (@List.nil Go.Field))))))))) (by kernel_rfl) (by kernel_rfl) (by kernel_rfl) ⟨by kernel_rfl, by kernel_rfl⟩ ⟨_, rfl⟩ ⟨_, rfl, by kernel_rfl, by kernel_rfl⟩ (by kernel_rfl) (fun _ _ => by kernel_rfl)
/-- api.Piece -/
def ti25 : TI := ⟨.struct, 5, 48, some (.pr (.int .i64) (.pr (.int .i64) (.pr (.int .i64) (.pr .str .bool)))), [.v (.int .i64) 0, .v (.int .i64) 0, .v (.int .i64) 0, .v .str [], .v .bool false], [(0, 3), (1, 3), (2, 3), (3, 9), (4, 4)], 0, true⟩
theorem ti25_ok : TiOk Tryd.prog 25 ti25 := TiOk.of (z := (@Go.Value.agg (@Array.mk Go.Value (@List.cons Go.Value (@Go.Value.int Go.IntKind.i64 (@Int.ofNat 0)) (@List.cons Go.Value (@Go.Value.int Go.IntKind.i64 (@Int.ofNat 0)) (@List.cons Go.Value (@Go.Value.int Go.IntKind.i64 (@Int.ofNat 0)) (@List.cons Go.Value (@Go.Value.string (@ByteArray.mk (@Array.mk UInt8 (@List.nil UInt8)))) (@List.cons Go.Value (@Go.Value.bool Bool.false) (@List.nil Go.Value))))))))) (d := (@Go.TypeDesc.struct (@Array.mk Go.Field (@List.cons Go.Field (@Go.Field.mk "Kind" 3 0 Bool.false "" "" 0) (@List.cons Go.Field (@Go.Field.mk "Line" 3 1 Bool.false "" "" 8) (@List.cons Go.Field (@Go.Field.mk "Col" 3 2 Bool.false "" "" 16) (@List.cons Go.Field (@Go.Field.mk "Text" 9 3 Bool.false "" "" 24) (@List.cons Go.Field (@Go.Field.mk "Quoted" 4 4 Bool.false "" "" 40) (@List.nil Go.Field))))))))) (by kernel_rfl) (by kernel_rfl) (by kernel_rfl) ⟨by kernel_rfl, by kernel_rfl⟩ ⟨_, rfl⟩ ⟨_, rfl, by kernel_rfl, by kernel_rfl⟩ (by kernel_rfl) (fun _ _ => by kernel_rfl)
/-- []api.Piece -/
def ti26 : TI := ⟨.slice, 1, 24, some (.sl (.pr (.int .i64) (.pr (.int .i64) (.pr (.int .i64) (.pr .str .bool))))), [.nilsl], [], 25, false⟩
theorem ti26_ok : TiOk Tryd.prog 26 ti26 := TiOk.of (z := (@Go.Value.slice (@Option.none Go.Addr) 0 0)) (d := (@Go.TypeDesc.slice 25)) (by kernel_rfl) (by kernel_rfl) (by kernel_rfl) ⟨by kernel_rfl, by kernel_rfl⟩ rfl rfl (by kernel_rfl) (fun h => nomatch h)
/-- struct { Kind int; Line int } -/
def ti27 : TI := ⟨.struct, 2, 16, some (.pr (.int .i64) (.int .i64)), [.v (.int .i64) 0, .v (.int .i64) 0], [(0, 3), (1, 3)], 0, true⟩
theorem ti27_ok : TiOk Tryd.prog 27 ti27 := TiOk.of (z := (@Go.Value.agg (@Array.mk Go.Value (@List.cons Go.Value (@Go.Value.int Go.IntKind.i64 (@Int.ofNat 0)) (@List.cons Go.Value (@Go.Value.int Go.IntKind.i64 (@Int.ofNat 0)) (@List.nil Go.Value)))))) (d := (@Go.TypeDesc.struct (@Array.mk Go.Field (@List.cons Go.Field (@Go.Field.mk "Kind" 3 0 Bool.false "" "" 0) (@List.cons Go.Field (@Go.Field.mk "Line" 3 1 Bool.false "" "" 8) (@List.nil Go.Field)))))) (by kernel_rfl) (by kernel_rfl) (by kernel_rfl) ⟨by kernel_rfl, by kernel_rfl⟩ ⟨_, rfl⟩ ⟨_, rfl, by kernel_rfl, by kernel_rfl⟩ (by kernel_rfl) (fun _ _ => by kernel_rfl)
/-- api.Fault -/
def ti28 : TI := ⟨.struct, 2, 16, some (.pr (.int .i64) (.int .i64)), [.v (.int .i64) 0, .v (.int .i64) 0], [(0, 3), (1, 3)], 0, true⟩
theorem ti28_ok : TiOk Tryd.prog 28 ti28 := TiOk.of (z := (@Go.Value.agg (@Array.mk Go.Value (@List.cons Go.Value (@Go.Value.int Go.IntKind.i64 (@Int.ofNat 0)) (@List.cons Go.Value (@Go.Value.int Go.IntKind.i64 (@Int.ofNat 0)) (@List.nil Go.Value)))))) (d := (@Go.TypeDesc.struct (@Array.mk Go.Field (@List.cons Go.Field (@Go.Field.mk "Kind" 3 0 Bool.false "" "" 0) (@List.cons Go.Field (@Go.Field.mk "Line" 3 1 Bool.false "" "" 8) (@List.nil Go.Field)))))) (by kernel_rfl) (by kernel_rfl) (by kernel_rfl) ⟨by kernel_rfl, by kernel_rfl⟩ ⟨_, rfl⟩ ⟨_, rfl, by kernel_rfl, by kernel_rfl⟩ (by kernel_rfl) (fun _ _ => by kernel_rfl)
/-- func(api.Line) ([]api.Piece, api.Fault) -/
def ti30 : TI := ⟨.other, 1, 8, none, [.un], [], 0, false⟩
theorem ti30_ok : TiOk Tryd.prog 30 ti30 := TiOk.of (z := Go.Value.nilFunc) (d := (@Go.TypeDesc.func (@Array.mk Nat (@List.cons Nat 32 (@List.nil Nat))) (@Array.mk Nat (@List.cons Nat 26 (@List.cons Nat 28 (@List.nil Nat)))) Bool.false)) (by kernel_rfl) (by kernel_rfl) (by kernel_rfl) trivial rfl trivial (by kernel_rfl) (fun h => nomatch h)
/-- struct { No int; Indent int; Text string } -/
def ti31 : TI := ⟨.struct, 3, 32, some (.pr (.int .i64) (.pr (.int .i64) .str)), [.v (.int .i64) 0, .v (.int .i64) 0, .v .str []], [(0, 3), (1, 3), (2, 9)], 0, true⟩
theorem ti31_ok : TiOk Tryd.prog 31 ti31 := TiOk.of (z := (@Go.Value.agg (@Array.mk Go.Value (@List.cons Go.Value (@Go.Value.int Go.IntKind.i64 (@Int.ofNat 0)) (@List.cons Go.Value (@Go.Value.int Go.IntKind.i64 (@Int.ofNat 0)) (@List.cons Go.Value (@Go.Value.string (@ByteArray.mk (@Array.mk UInt8 (@List.nil UInt8)))) (@List.nil Go.Value))))))) (d := (@Go.TypeDesc.struct (@Array.mk Go.Field (@List.cons Go.Field (@Go.Field.mk "No" 3 0 Bool.false "" "" 0) (@List.cons Go.Field (@Go.Field.mk "Indent" 3 1 Bool.false "" "" 8) (@List.cons Go.Field (@Go.Field.mk "Text" 9 2 Bool.false "" "" 16) (@List.nil Go.Field))))))) (by kernel_rfl) (by kernel_rfl) (by kernel_rfl) ⟨by kernel_rfl, by kernel_rfl⟩ ⟨_, rfl⟩ ⟨_, rfl, by kernel_rfl, by kernel_rfl⟩ (by kernel_rfl) (fun _ _ => by kernel_rfl)
/-- api.Line -/
def ti32 : TI := ⟨.struct, 3, 32, some (.pr (.int .i64) (.pr (.int .i64) .str)), [.v (.int .i64) 0, .v (.int .i64) 0, .v .str []], [(0, 3), (1, 3), (2, 9)], 0, true⟩
theorem ti32_ok : TiOk Tryd.prog 32 ti32 := TiOk.of (z := (@Go.Value.agg (@Array.mk Go.Value (@List.cons Go.Value (@Go.Value.int Go.IntKind.i64 (@Int.ofNat 0)) (@List.cons Go.Value (@Go.Value.int Go.IntKind.i64 (@Int.ofNat 0)) (@List.cons Go.Value (@Go.Value.string (@ByteArray.mk (@Array.mk UInt8 (@List.nil UInt8)))) (@List.nil Go.Value))))))) (d := (@Go.TypeDesc.struct (@Array.mk Go.Field (@List.cons Go.Field (@Go.Field.mk "No" 3 0 Bool.false "" "" 0) (@List.cons Go.Field (@Go.Field.mk "Indent" 3 1 Bool.false "" "" 8) (@List.cons Go.Field (@Go.Field.mk "Text" 9 2 Bool.false "" "" 16) (@List.nil Go.Field))))))) (by kernel_rfl) (by kernel_rfl) (by kernel_rfl) ⟨by kernel_rfl, by kernel_rfl⟩ ⟨_, rfl⟩ ⟨_, rfl, by kernel_rfl, by kernel_rfl⟩ (by kernel_rfl) (fun _ _ => by kernel_rfl)
/-- func([]api.Piece, []api.Piece) bool -/
def ti33 : TI := ⟨.other, 1, 8, none, [.un], [], 0, false⟩
theorem ti33_ok : TiOk Tryd.prog 33 ti33 := TiOk.of (z := Go.Value.nilFunc) (d := (@Go.TypeDesc.func (@Array.mk Nat (@List.cons Nat 26 (@List.cons Nat 26 (@List.nil Nat)))) (@Array.mk Nat (@List.cons Nat 4 (@List.nil Nat))) Bool.false)) (by kernel_rfl) (by kernel_rfl) (by kernel_rfl) trivial rfl trivial (by kernel_rfl) (fun h => nomatch h)
/-- func(string, bool) bool -/
def ti34 : TI := ⟨.other, 1, 8, none, [.un], [], 0, false⟩
theorem ti34_ok : TiOk Tryd.prog 34 ti34 := TiOk.of (z := Go.Value.nilFunc) (d := (@Go.TypeDesc.func (@Array.mk Nat (@List.cons Nat 9 (@List.cons Nat 4 (@List.nil Nat)))) (@Array.mk Nat (@List.cons Nat 4 (@List.nil Nat))) Bool.false)) (by kernel_rfl) (by kernel_rfl) (by kernel_rfl) trivial rfl trivial (by kernel_rfl) (fun h => nomatch h)
/-- func([]api.Line) ([]api.Piece, api.Fault) -/
def ti35 : TI := ⟨.other, 1, 8, none, [.un], [], 0, false⟩
theorem ti35_ok : TiOk Tryd.prog 35 ti35 := TiOk.of (z := Go.Value.nilFunc) (d := (@Go.TypeDesc.func (@Array.mk Nat (@List.cons Nat 36 (@List.nil Nat))) (@Array.mk Nat (@List.cons Nat 26 (@List.cons Nat 28 (@List.nil Nat)))) Bool.false)) (by kernel_rfl) (by kernel_rfl) (by kernel_rfl) trivial rfl trivial (by kernel_rfl) (fun h => nomatch h)
/-- []api.Line -/
def ti36 : TI := ⟨.slice, 1, 24, some (.sl (.pr (.int .i64) (.pr (.int .i64) .str))), [.nilsl], [], 32, false⟩
theorem ti36_ok : TiOk Tryd.prog 36 ti36 := TiOk.of (z := (@Go.Value.slice (@Option.none Go.Addr) 0 0)) (d := (@Go.TypeDesc.slice 32)) (by kernel_rfl) (by kernel_rfl) (by kernel_rfl) ⟨by kernel_rfl, by kernel_rfl⟩ rfl rfl (by kernel_rfl) (fun h => nomatch h)
/-- func(string, string, string, int) string -/
def ti37 : TI := ⟨.other, 1, 8, none, [.un], [], 0, false⟩
theorem ti37_ok : TiOk Tryd.prog 37 ti37 := TiOk.of (z := Go.Value.nilFunc) (d := (@Go.TypeDesc.func (@Array.mk Nat (@List.cons Nat 9 (@List.cons Nat 9 (@List.cons Nat 9 (@List.cons Nat 3 (@List.nil Nat)))))) (@Array.mk Nat (@List.cons Nat 9 (@List.nil Nat))) Bool.false)) (by kernel_rfl) (by kernel_rfl) (by kernel_rfl) trivial rfl trivial (by kernel_rfl) (fun h => nomatch h)
/-- *lex.lexer -/
def ti38 : TI := ⟨.ptr, 1, 8, none, [.nilptr], [], 40, false⟩
theorem ti38_ok : TiOk Tryd.prog 38 ti38 := TiOk.of (z := (@Go.Value.pointer (@Option.none Go.Addr))) (d := (@Go.TypeDesc.pointer 40)) (by kernel_rfl) (by kernel_rfl) (by kernel_rfl) trivial rfl rfl (by kernel_rfl) (fun h => nomatch h)
/-- struct { l api.Line; at int; out []api.Piece } -/
def ti39 : TI := ⟨.struct, 5, 64, some (.pr (.pr (.int .i64) (.pr (.int .i64) .str)) (.pr (.int .i64) (.sl (.pr (.int .i64) (.pr (.int .i64) (.pr (.int .i64) (.pr .str .bool))))))), [.v (.int .i64) 0, .v (.int .i64) 0, .v .str [], .v (.int .i64) 0, .nilsl], [(0, 32), (3, 3), (4, 26)], 0, false⟩
theorem ti39_ok : TiOk Tryd.prog 39 ti39 := TiOk.of (z := (@Go.Value.agg (@Array.mk Go.Value (@List.cons Go.Value (@Go.Value.int Go.IntKind.i64 (@Int.ofNat 0)) (@List.cons Go.Value (@Go.Value.int Go.IntKind.i64 (@Int.ofNat 0)) (@List.cons Go.Value (@Go.Value.string (@ByteArray.mk (@Array.mk UInt8 (@List.nil UInt8)))) (@List.cons Go.Value (@Go.Value.int Go.IntKind.i64 (@Int.ofNat 0)) (@List.cons Go.Value (@Go.Value.slice (@Option.none Go.Addr) 0 0) (@List.nil Go.Value))))))))) (d := (@Go.TypeDesc.struct (@Array.mk Go.Field (@List.cons Go.Field (@Go.Field.mk "l" 32 0 Bool.false "" "turncock/lex" 0) (@List.cons Go.Field (@Go.Field.mk "at" 3 3 Bool.false "" "turncock/lex" 32) (@List.cons Go.Field (@Go.Field.mk "out" 26 4 Bool.false "" "turncock/lex" 40) (@List.nil Go.Field))))))) (by kernel_rfl) (by kernel_rfl) (by kernel_rfl) ⟨by kernel_rfl, by kernel_rfl⟩ ⟨_, rfl⟩ ⟨_, rfl, by kernel_rfl, by kernel_rfl⟩ (by kernel_rfl) (fun h => nomatch h)
/-- lex.lexer -/
def ti40 : TI := ⟨.struct, 5, 64, some (.pr (.pr (.int .i64) (.pr (.int .i64) .str)) (.pr (.int .i64) (.sl (.pr (.int .i64) (.pr (.int .i64) (.pr (.int .i64) (.pr .str .bool))))))), [.v (.int .i64) 0, .v (.int .i64) 0, .v .str [], .v (.int .i64) 0, .nilsl], [(0, 32), (3, 3), (4, 26)], 0, false⟩
theorem ti40_ok : TiOk Tryd.prog 40 ti40 := TiOk.of (z := (@Go.Value.agg (@Array.mk Go.Value (@List.cons Go.Value (@Go.Value.int Go.IntKind.i64 (@Int.ofNat 0)) (@List.cons Go.Value (@Go.Value.int Go.IntKind.i64 (@Int.ofNat 0)) (@List.cons Go.Value (@Go.Value.string (@ByteArray.mk (@Array.mk UInt8 (@List.nil UInt8)))) (@List.cons Go.Value (@Go.Value.int Go.IntKind.i64 (@Int.ofNat 0)) (@List.cons Go.Value (@Go.Value.slice (@Option.none Go.Addr) 0 0) (@List.nil Go.Value))))))))) (d := (@Go.TypeDesc.struct (@Array.mk Go.Field (@List.cons Go.Field (@Go.Field.mk "l" 32 0 Bool.false "" "turncock/lex" 0) (@List.cons Go.Field (@Go.Field.mk "at" 3 3 Bool.false "" "turncock/lex" 32) (@List.cons Go.Field (@Go.Field.mk "out" 26 4 Bool.false "" "turncock/lex" 40) (@List.nil Go.Field))))))) (by kernel_rfl) (by kernel_rfl) (by kernel_rfl) ⟨by kernel_rfl, by kernel_rfl⟩ ⟨_, rfl⟩ ⟨_, rfl, by kernel_rfl, by kernel_rfl⟩ (by kernel_rfl) (fun h => nomatch h)
/-- func(string, string) int -/
def ti41 : TI := ⟨.other, 1, 8, none, [.un], [], 0, false⟩
theorem ti41_ok : TiOk Tryd.prog 41 ti41 := TiOk.of (z := Go.Value.nilFunc) (d := (@Go.TypeDesc.func (@Array.mk Nat (@List.cons Nat 9 (@List.cons Nat 9 (@List.nil Nat)))) (@Array.mk Nat (@List.cons Nat 3 (@List.nil Nat))) Bool.false)) (by kernel_rfl) (by kernel_rfl) (by kernel_rfl) trivial rfl trivial (by kernel_rfl) (fun h => nomatch h)
/-- *strings.Builder -/
def ti42 : TI := ⟨.ptr, 1, 8, none, [.nilptr], [], 45, false⟩
theorem ti42_ok : TiOk Tryd.prog 42 ti42 := TiOk.of (z := (@Go.Value.pointer (@Option.none Go.Addr))) (d := (@Go.TypeDesc.pointer 45)) (by kernel_rfl) (by kernel_rfl) (by kernel_rfl) trivial rfl rfl (by kernel_rfl) (fun h => nomatch h)
/-- []uint8 -/
def ti43 : TI := ⟨.slice, 1, 24, some (.sl (.int .u8)), [.nilsl], [], 5, false⟩
theorem ti43_ok : TiOk Tryd.prog 43 ti43 := TiOk.of (z := (@Go.Value.slice (@Option.none Go.Addr) 0 0)) (d := (@Go.TypeDesc.slice 5)) (by kernel_rfl) (by kernel_rfl) (by kernel_rfl) ⟨by kernel_rfl, by kernel_rfl⟩ rfl rfl (by kernel_rfl) (fun h => nomatch h)
/-- struct { addr *strings.Builder; buf []uint8 } -/
def ti44 : TI := ⟨.struct, 2, 32, none, [.nilptr, .nilsl], [(0, 42), (1, 43)], 0, false⟩
theorem ti44_ok : TiOk Tryd.prog 44 ti44 := TiOk.of (z := (@Go.Value.agg (@Array.mk Go.Value (@List.cons Go.Value (@Go.Value.pointer (@Option.none Go.Addr)) (@List.cons Go.Value (@Go.Value.slice (@Option.none Go.Addr) 0 0) (@List.nil Go.Value)))))) (d := (@Go.TypeDesc.struct (@Array.mk Go.Field (@List.cons Go.Field (@Go.Field.mk "addr" 42 0 Bool.false "" "strings" 0) (@List.cons Go.Field (@Go.Field.mk "buf" 43 1 Bool.false "" "strings" 8) (@List.nil Go.Field)))))) (by kernel_rfl) (by kernel_rfl) (by kernel_rfl) trivial ⟨_, rfl⟩ ⟨_, rfl, by kernel_rfl, by kernel_rfl⟩ (by kernel_rfl) (fun h => nomatch h)
/-- strings.Builder -/
def ti45 : TI := ⟨.struct, 2, 32, none, [.nilptr, .nilsl], [(0, 42), (1, 43)], 0, false⟩
theorem ti45_ok : TiOk Tryd.prog 45 ti45 := TiOk.of (z := (@Go.Value.agg (@Array.mk Go.Value (@List.cons Go.Value (@Go.Value.pointer (@Option.none Go.Addr)) (@List.cons Go.Value (@Go.Value.slice (@Option.none Go.Addr) 0 0) (@List.nil Go.Value)))))) (d := (@Go.TypeDesc.struct (@Array.mk Go.Field (@List.cons Go.Field (@Go.Field.mk "addr" 42 0 Bool.false "" "strings" 0) (@List.cons Go.Field (@Go.Field.mk "buf" 43 1 Bool.false "" "strings" 8) (@List.nil Go.Field)))))) (by kernel_rfl) (by kernel_rfl) (by kernel_rfl) trivial ⟨_, rfl⟩ ⟨_, rfl, by kernel_rfl, by kernel_rfl⟩ (by kernel_rfl) (fun h => nomatch h)
/-- func(int) -/
def ti46 : TI := ⟨.other, 1, 8, none, [.un], [], 0, false⟩
theorem ti46_ok : TiOk Tryd.prog 46 ti46 := TiOk.of (z := Go.Value.nilFunc) (d := (@Go.TypeDesc.func (@Array.mk Nat (@List.cons Nat 3 (@List.nil Nat))) (@Array.mk Nat (@List.nil Nat)) Bool.false)) (by kernel_rfl) (by kernel_rfl) (by kernel_rfl) trivial rfl trivial (by kernel_rfl) (fun h => nomatch h)
/-- interface { Error() string } -/
def ti47 : TI := ⟨.iface, 1, 16, none, [.nilif], [], 0, false⟩
theorem ti47_ok : TiOk Tryd.prog 47 ti47 := TiOk.of (z := Go.Value.nilIface) (d := (@Go.TypeDesc.interface (@Array.mk (@Prod String Nat) (@List.cons (@Prod String Nat) (@Prod.mk String Nat "Error" 53) (@List.nil (@Prod String Nat)))))) (by kernel_rfl) (by kernel_rfl) (by kernel_rfl) trivial rfl ⟨_, rfl⟩ (by kernel_rfl) (fun h => nomatch h)
/-- error -/
def ti48 : TI := ⟨.iface, 1, 16, none, [.nilif], [], 0, false⟩
theorem ti48_ok : TiOk Tryd.prog 48 ti48 := TiOk.of (z := Go.Value.nilIface) (d := (@Go.TypeDesc.interface (@Array.mk (@Prod String Nat) (@List.cons (@Prod String Nat) (@Prod.mk String Nat "Error" 53) (@List.nil (@Prod String Nat)))))) (by kernel_rfl) (by kernel_rfl) (by kernel_rfl) trivial rfl ⟨_, rfl⟩ (by kernel_rfl) (fun h => nomatch h)
/-- func(string) (int, error) -/
def ti50 : TI := ⟨.other, 1, 8, none, [.un], [], 0, false⟩
theorem ti50_ok : TiOk Tryd.prog 50 ti50 := TiOk.of (z := Go.Value.nilFunc) (d := (@Go.TypeDesc.func (@Array.mk Nat (@List.cons Nat 9 (@List.nil Nat))) (@Array.mk Nat (@List.cons Nat 3 (@List.cons Nat 48 (@List.nil Nat)))) Bool.false)) (by kernel_rfl) (by kernel_rfl) (by kernel_rfl) trivial rfl trivial (by kernel_rfl) (fun h => nomatch h)
/-- func(string) (int32, int) -/
def ti52 : TI := ⟨.other, 1, 8, none, [.un], [], 0, false⟩
theorem ti52_ok : TiOk Tryd.prog 52 ti52 := TiOk.of (z := Go.Value.nilFunc) (d := (@Go.TypeDesc.func (@Array.mk Nat (@List.cons Nat 9 (@List.nil Nat))) (@Array.mk Nat (@List.cons Nat 21 (@List.cons Nat 3 (@List.nil Nat)))) Bool.false)) (by kernel_rfl) (by kernel_rfl) (by kernel_rfl) trivial rfl trivial (by kernel_rfl) (fun h => nomatch h)
/-- func() string -/
def ti53 : TI := ⟨.other, 1, 8, none, [.un], [], 0, false⟩
theorem ti53_ok : TiOk Tryd.prog 53 ti53 := TiOk.of (z := Go.Value.nilFunc) (d := (@Go.TypeDesc.func (@Array.mk Nat (@List.nil Nat)) (@Array.mk Nat (@List.cons Nat 9 (@List.nil Nat))) Bool.false)) (by kernel_rfl) (by kernel_rfl) (by kernel_rfl) trivial rfl trivial (by kernel_rfl) (fun h => nomatch h)
/-- func(string) bool -/
def ti54 : TI := ⟨.other, 1, 8, none, [.un], [], 0, false⟩
theorem ti54_ok : TiOk Tryd.prog 54 ti54 := TiOk.of (z := Go.Value.nilFunc) (d := (@Go.TypeDesc.func (@Array.mk Nat (@List.cons Nat 9 (@List.nil Nat))) (@Array.mk Nat (@List.cons Nat 4 (@List.nil Nat))) Bool.false)) (by kernel_rfl) (by kernel_rfl) (by kernel_rfl) trivial rfl trivial (by kernel_rfl) (fun h => nomatch h)
/-- func(int, string, bool, int) -/
def ti55 : TI := ⟨.other, 1, 8, none, [.un], [], 0, false⟩
theorem ti55_ok : TiOk Tryd.prog 55 ti55 := TiOk.of (z := Go.Value.nilFunc) (d := (@Go.TypeDesc.func (@Array.mk Nat (@List.cons Nat 3 (@List.cons Nat 9 (@List.cons Nat 4 (@List.cons Nat 3 (@List.nil Nat)))))) (@Array.mk Nat (@List.nil Nat)) Bool.false)) (by kernel_rfl) (by kernel_rfl) (by kernel_rfl) trivial rfl trivial (by kernel_rfl) (fun h => nomatch h)
/-- func(string) string -/
def ti56 : TI := ⟨.other, 1, 8, none, [.un], [], 0, false⟩
theorem ti56_ok : TiOk Tryd.prog 56 ti56 := TiOk.of (z := Go.Value.nilFunc) (d := (@Go.TypeDesc.func (@Array.mk Nat (@List.cons Nat 9 (@List.nil Nat))) (@Array.mk Nat (@List.cons Nat 9 (@List.nil Nat))) Bool.false)) (by kernel_rfl) (by kernel_rfl) (by kernel_rfl) trivial rfl trivial (by kernel_rfl) (fun h => nomatch h)
/-- func(string) -/
def ti57 : TI := ⟨.other, 1, 8, none, [.un], [], 0, false⟩
theorem ti57_ok : TiOk Tryd.prog 57 ti57 := TiOk.of (z := Go.Value.nilFunc) (d := (@Go.TypeDesc.func (@Array.mk Nat (@List.cons Nat 9 (@List.nil Nat))) (@Array.mk Nat (@List.nil Nat)) Bool.false)) (by kernel_rfl) (by kernel_rfl) (by kernel_rfl) trivial rfl trivial (by kernel_rfl) (fun h => nomatch h)
/-- func(string) int -/
def ti58 : TI := ⟨.other, 1, 8, none, [.un], [], 0, false⟩
theorem ti58_ok : TiOk Tryd.prog 58 ti58 := TiOk.of (z := Go.Value.nilFunc) (d := (@Go.TypeDesc.func (@Array.mk Nat (@List.cons Nat 9 (@List.nil Nat))) (@Array.mk Nat (@List.cons Nat 3 (@List.nil Nat))) Bool.false)) (by kernel_rfl) (by kernel_rfl) (by kernel_rfl) trivial rfl trivial (by kernel_rfl) (fun h => nomatch h)
/-- func(string, uint8) int -/
def ti59 : TI := ⟨.other, 1, 8, none, [.un], [], 0, false⟩
theorem ti59_ok : TiOk Tryd.prog 59 ti59 := TiOk.of (z := Go.Value.nilFunc) (d := (@Go.TypeDesc.func (@Array.mk Nat (@List.cons Nat 9 (@List.cons Nat 5 (@List.nil Nat)))) (@Array.mk Nat (@List.cons Nat 3 (@List.nil Nat))) Bool.false)) (by kernel_rfl) (by kernel_rfl) (by kernel_rfl) trivial rfl trivial (by kernel_rfl) (fun h => nomatch h)
/-- *uint8 -/
def ti60 : TI := ⟨.ptr, 1, 8, none, [.nilptr], [], 5, false⟩
theorem ti60_ok : TiOk Tryd.prog 60 ti60 := TiOk.of (z := (@Go.Value.pointer (@Option.none Go.Addr))) (d := (@Go.TypeDesc.pointer 5)) (by kernel_rfl) (by kernel_rfl) (by kernel_rfl) trivial rfl rfl (by kernel_rfl) (fun h => nomatch h)
/-- func(string, string) bool -/
def ti61 : TI := ⟨.other, 1, 8, none, [.un], [], 0, false⟩
theorem ti61_ok : TiOk Tryd.prog 61 ti61 := TiOk.of (z := Go.Value.nilFunc) (d := (@Go.TypeDesc.func (@Array.mk Nat (@List.cons Nat 9 (@List.cons Nat 9 (@List.nil Nat)))) (@Array.mk Nat (@List.cons Nat 4 (@List.nil Nat))) Bool.false)) (by kernel_rfl) (by kernel_rfl) (by kernel_rfl) trivial rfl trivial (by kernel_rfl) (fun h => nomatch h)
/-- func(string, string) (string, string, bool) -/
def ti63 : TI := ⟨.other, 1, 8, none, [.un], [], 0, false⟩
theorem ti63_ok : TiOk Tryd.prog 63 ti63 := TiOk.of (z := Go.Value.nilFunc) (d := (@Go.TypeDesc.func (@Array.mk Nat (@List.cons Nat 9 (@List.cons Nat 9 (@List.nil Nat)))) (@Array.mk Nat (@List.cons Nat 9 (@List.cons Nat 9 (@List.cons Nat 4 (@List.nil Nat))))) Bool.false)) (by kernel_rfl) (by kernel_rfl) (by kernel_rfl) trivial rfl trivial (by kernel_rfl) (fun h => nomatch h)
/-- func(string) (string, int) -/
def ti65 : TI := ⟨.other, 1, 8, none, [.un], [], 0, false⟩
theorem ti65_ok : TiOk Tryd.prog 65 ti65 := TiOk.of (z := Go.Value.nilFunc) (d := (@Go.TypeDesc.func (@Array.mk Nat (@List.cons Nat 9 (@List.nil Nat))) (@Array.mk Nat (@List.cons Nat 9 (@List.cons Nat 3 (@List.nil Nat)))) Bool.false)) (by kernel_rfl) (by kernel_rfl) (by kernel_rfl) trivial rfl trivial (by kernel_rfl) (fun h => nomatch h)
/-- func(unsafe.Pointer) unsafe.Pointer -/
def ti67 : TI := ⟨.other, 1, 8, none, [.un], [], 0, false⟩
theorem ti67_ok : TiOk Tryd.prog 67 ti67 := TiOk.of (z := Go.Value.nilFunc) (d := (@Go.TypeDesc.func (@Array.mk Nat (@List.cons Nat 66 (@List.nil Nat))) (@Array.mk Nat (@List.cons Nat 66 (@List.nil Nat))) Bool.false)) (by kernel_rfl) (by kernel_rfl) (by kernel_rfl) trivial rfl trivial (by kernel_rfl) (fun h => nomatch h)
/-- func(int) []uint8 -/
def ti68 : TI := ⟨.other, 1, 8, none, [.un], [], 0, false⟩
theorem ti68_ok : TiOk Tryd.prog 68 ti68 := TiOk.of (z := Go.Value.nilFunc) (d := (@Go.TypeDesc.func (@Array.mk Nat (@List.cons Nat 3 (@List.nil Nat))) (@Array.mk Nat (@List.cons Nat 43 (@List.nil Nat))) Bool.false)) (by kernel_rfl) (by kernel_rfl) (by kernel_rfl) trivial rfl trivial (by kernel_rfl) (fun h => nomatch h)
/-- func(int) int -/
def ti69 : TI := ⟨.other, 1, 8, none, [.un], [], 0, false⟩
theorem ti69_ok : TiOk Tryd.prog 69 ti69 := TiOk.of (z := Go.Value.nilFunc) (d := (@Go.TypeDesc.func (@Array.mk Nat (@List.cons Nat 3 (@List.nil Nat))) (@Array.mk Nat (@List.cons Nat 3 (@List.nil Nat))) Bool.false)) (by kernel_rfl) (by kernel_rfl) (by kernel_rfl) trivial rfl trivial (by kernel_rfl) (fun h => nomatch h)
/-- uint -/
def ti70 : TI := ⟨.int .u64, 1, 8, some (.int .u64), [.v (.int .u64) 0], [], 0, false⟩
theorem ti70_ok : TiOk Tryd.prog 70 ti70 := TiOk.of (z := (@Go.Value.int Go.IntKind.u64 (@Int.ofNat 0))) (d := (@Go.TypeDesc.int Go.IntKind.u64)) (by kernel_rfl) (by kernel_rfl) (by kernel_rfl) ⟨by kernel_rfl, by kernel_rfl⟩ rfl rfl (by kernel_rfl) (fun h => nomatch h)
/-- struct { lo uint8; hi uint8 } -/
def ti72 : TI := ⟨.struct, 2, 2, some (.pr (.int .u8) (.int .u8)), [.v (.int .u8) 0, .v (.int .u8) 0], [(0, 5), (1, 5)], 0, true⟩
theorem ti72_ok : TiOk Tryd.prog 72 ti72 := TiOk.of (z := (@Go.Value.agg (@Array.mk Go.Value (@List.cons Go.Value (@Go.Value.int Go.IntKind.u8 (@Int.ofNat 0)) (@List.cons Go.Value (@Go.Value.int Go.IntKind.u8 (@Int.ofNat 0)) (@List.nil Go.Value)))))) (d := (@Go.TypeDesc.struct (@Array.mk Go.Field (@List.cons Go.Field (@Go.Field.mk "lo" 5 0 Bool.false "" "unicode/utf8" 0) (@List.cons Go.Field (@Go.Field.mk "hi" 5 1 Bool.false "" "unicode/utf8" 1) (@List.nil Go.Field)))))) (by kernel_rfl) (by kernel_rfl) (by kernel_rfl) ⟨by kernel_rfl, by kernel_rfl⟩ ⟨_, rfl⟩ ⟨_, rfl, by kernel_rfl, by kernel_rfl⟩ (by kernel_rfl) (fun _ _ => by kernel_rfl)
/-- utf8.acceptRange -/
def ti73 : TI := ⟨.struct, 2, 2, some (.pr (.int .u8) (.int .u8)), [.v (.int .u8) 0, .v (.int .u8) 0], [(0, 5), (1, 5)], 0, true⟩
theorem ti73_ok : TiOk Tryd.prog 73 ti73 := TiOk.of (z := (@Go.Value.agg (@Array.mk Go.Value (@List.cons Go.Value (@Go.Value.int Go.IntKind.u8 (@Int.ofNat 0)) (@List.cons Go.Value (@Go.Value.int Go.IntKind.u8 (@Int.ofNat 0)) (@List.nil Go.Value)))))) (d := (@Go.TypeDesc.struct (@Array.mk Go.Field (@List.cons Go.Field (@Go.Field.mk "lo" 5 0 Bool.false "" "unicode/utf8" 0) (@List.cons Go.Field (@Go.Field.mk "hi" 5 1 Bool.false "" "unicode/utf8" 1) (@List.nil Go.Field)))))) (by kernel_rfl) (by kernel_rfl) (by kernel_rfl) ⟨by kernel_rfl, by kernel_rfl⟩ ⟨_, rfl⟩ ⟨_, rfl, by kernel_rfl, by kernel_rfl⟩ (by kernel_rfl) (fun _ _ => by kernel_rfl)
/-- func(uint8) bool -/
def ti75 : TI := ⟨.other, 1, 8, none, [.un], [], 0, false⟩
theorem ti75_ok : TiOk Tryd.prog 75 ti75 := TiOk.of (z := Go.Value.nilFunc) (d := (@Go.TypeDesc.func (@Array.mk Nat (@List.cons Nat 5 (@List.nil Nat))) (@Array.mk Nat (@List.cons Nat 4 (@List.nil Nat))) Bool.false)) (by kernel_rfl) (by kernel_rfl) (by kernel_rfl) trivial rfl trivial (by kernel_rfl) (fun h => nomatch h)
/-- func(uint8) error -/
def ti76 : TI := ⟨.other, 1, 8, none, [.un], [], 0, false⟩
theorem ti76_ok : TiOk Tryd.prog 76 ti76 := TiOk.of (z := Go.Value.nilFunc) (d := (@Go.TypeDesc.func (@Array.mk Nat (@List.cons Nat 5 (@List.nil Nat))) (@Array.mk Nat (@List.cons Nat 48 (@List.nil Nat))) Bool.false)) (by kernel_rfl) (by kernel_rfl) (by kernel_rfl) trivial rfl trivial (by kernel_rfl) (fun h => nomatch h)
/-- func(string) (uint8, int) -/
def ti78 : TI := ⟨.other, 1, 8, none, [.un], [], 0, false⟩
theorem ti78_ok : TiOk Tryd.prog 78 ti78 := TiOk.of (z := Go.Value.nilFunc) (d := (@Go.TypeDesc.func (@Array.mk Nat (@List.cons Nat 9 (@List.nil Nat))) (@Array.mk Nat (@List.cons Nat 5 (@List.cons Nat 3 (@List.nil Nat)))) Bool.false)) (by kernel_rfl) (by kernel_rfl) (by kernel_rfl) trivial rfl trivial (by kernel_rfl) (fun h => nomatch h)
/-- uint32 -/
def ti79 : TI := ⟨.int .u32, 1, 4, some (.int .u32), [.v (.int .u32) 0], [], 0, false⟩
theorem ti79_ok : TiOk Tryd.prog 79 ti79 := TiOk.of (z := (@Go.Value.int Go.IntKind.u32 (@Int.ofNat 0))) (d := (@Go.TypeDesc.int Go.IntKind.u32)) (by kernel_rfl) (by kernel_rfl) (by kernel_rfl) ⟨by kernel_rfl, by kernel_rfl⟩ rfl rfl (by kernel_rfl) (fun h => nomatch h)
/-- func(string) (uint32, uint32) -/
def ti81 : TI := ⟨.other, 1, 8, none, [.un], [], 0, false⟩
theorem ti81_ok : TiOk Tryd.prog 81 ti81 := TiOk.of (z := Go.Value.nilFunc) (d := (@Go.TypeDesc.func (@Array.mk Nat (@List.cons Nat 9 (@List.nil Nat))) (@Array.mk Nat (@List.cons Nat 79 (@List.cons Nat 79 (@List.nil Nat)))) Bool.false)) (by kernel_rfl) (by kernel_rfl) (by kernel_rfl) trivial rfl trivial (by kernel_rfl) (fun h => nomatch h)
/-- struct { _interface *abi.Type; concrete *abi.Type; asserted *abi.Type; missingMethod string } -/
def ti82 : TI := ⟨.struct, 4, 40, none, [.nilptr, .nilptr, .nilptr, .v .str []], [(0, 17), (1, 17), (2, 17), (3, 9)], 0, false⟩
theorem ti82_ok : TiOk Tryd.prog 82 ti82 := TiOk.of (z := (@Go.Value.agg (@Array.mk Go.Value (@List.cons Go.Value (@Go.Value.pointer (@Option.none Go.Addr)) (@List.cons Go.Value (@Go.Value.pointer (@Option.none Go.Addr)) (@List.cons Go.Value (@Go.Value.pointer (@Option.none Go.Addr)) (@List.cons Go.Value (@Go.Value.string (@ByteArray.mk (@Array.mk UInt8 (@List.nil UInt8)))) (@List.nil Go.Value)))))))) (d := (@Go.TypeDesc.struct (@Array.mk Go.Field (@List.cons Go.Field (@Go.Field.mk "_interface" 17 0 Bool.false "" "runtime" 0) (@List.cons Go.Field (@Go.Field.mk "concrete" 17 1 Bool.false "" "runtime" 8) (@List.cons Go.Field (@Go.Field.mk "asserted" 17 2 Bool.false "" "runtime" 16) (@List.cons Go.Field (@Go.Field.mk "missingMethod" 9 3 Bool.false "" "runtime" 24) (@List.nil Go.Field)))))))) (by kernel_rfl) (by kernel_rfl) (by kernel_rfl) trivial ⟨_, rfl⟩ ⟨_, rfl, by kernel_rfl, by kernel_rfl⟩ (by kernel_rfl) (fun h => nomatch h)
/-- runtime.TypeAssertionError -/
def ti83 : TI := ⟨.struct, 4, 40, none, [.nilptr, .nilptr, .nilptr, .v .str []], [(0, 17), (1, 17), (2, 17), (3, 9)], 0, false⟩
theorem ti83_ok : TiOk Tryd.prog 83 ti83 := TiOk.of (z := (@Go.Value.agg (@Array.mk Go.Value (@List.cons Go.Value (@Go.Value.pointer (@Option.none Go.Addr)) (@List.cons Go.Value (@Go.Value.pointer (@Option.none Go.Addr)) (@List.cons Go.Value (@Go.Value.pointer (@Option.none Go.Addr)) (@List.cons Go.Value (@Go.Value.string (@ByteArray.mk (@Array.mk UInt8 (@List.nil UInt8)))) (@List.nil Go.Value)))))))) (d := (@Go.TypeDesc.struct (@Array.mk Go.Field (@List.cons Go.Field (@Go.Field.mk "_interface" 17 0 Bool.false "" "runtime" 0) (@List.cons Go.Field (@Go.Field.mk "concrete" 17 1 Bool.false "" "runtime" 8) (@List.cons Go.Field (@Go.Field.mk "asserted" 17 2 Bool.false "" "runtime" 16) (@List.cons Go.Field (@Go.Field.mk "missingMethod" 9 3 Bool.false "" "runtime" 24) (@List.nil Go.Field)))))))) (by kernel_rfl) (by kernel_rfl) (by kernel_rfl) trivial ⟨_, rfl⟩ ⟨_, rfl, by kernel_rfl, by kernel_rfl⟩ (by kernel_rfl) (fun h => nomatch h)
/-- struct { _ [0]*runtime.PanicNilError } -/
def ti85 : TI := ⟨.struct, 0, 0, none, [], [(0, 84)], 0, false⟩
theorem ti85_ok : TiOk Tryd.prog 85 ti85 := TiOk.of (z := (@Go.Value.agg (@Array.mk Go.Value (@List.nil Go.Value)))) (d := (@Go.TypeDesc.struct (@Array.mk Go.Field (@List.cons Go.Field (@Go.Field.mk "_" 84 0 Bool.false "" "runtime" 0) (@List.nil Go.Field))))) (by kernel_rfl) (by kernel_rfl) (by kernel_rfl) trivial ⟨_, rfl⟩ ⟨_, rfl, by kernel_rfl, by kernel_rfl⟩ (by kernel_rfl) (fun h => nomatch h)
/-- runtime.PanicNilError -/
def ti86 : TI := ⟨.struct, 0, 0, none, [], [(0, 84)], 0, false⟩
theorem ti86_ok : TiOk Tryd.prog 86 ti86 := TiOk.of (z := (@Go.Value.agg (@Array.mk Go.Value (@List.nil Go.Value)))) (d := (@Go.TypeDesc.struct (@Array.mk Go.Field (@List.cons Go.Field (@Go.Field.mk "_" 84 0 Bool.false "" "runtime" 0) (@List.nil Go.Field))))) (by kernel_rfl) (by kernel_rfl) (by kernel_rfl) trivial ⟨_, rfl⟩ ⟨_, rfl, by kernel_rfl, by kernel_rfl⟩ (by kernel_rfl) (fun h => nomatch h)
/-- func() int -/
def ti87 : TI := ⟨.other, 1, 8, none, [.un], [], 0, false⟩
theorem ti87_ok : TiOk Tryd.prog 87 ti87 := TiOk.of (z := Go.Value.nilFunc) (d := (@Go.TypeDesc.func (@Array.mk Nat (@List.nil Nat)) (@Array.mk Nat (@List.cons Nat 3 (@List.nil Nat))) Bool.false)) (by kernel_rfl) (by kernel_rfl) (by kernel_rfl) trivial rfl trivial (by kernel_rfl) (fun h => nomatch h)
/-- abi.TFlag -/
def ti88 : TI := ⟨.int .u8, 1, 1, some (.int .u8), [.v (.int .u8) 0], [], 0, false⟩
theorem ti88_ok : TiOk Tryd.prog 88 ti88 := TiOk.of (z := (@Go.Value.int Go.IntKind.u8 (@Int.ofNat 0))) (d := (@Go.TypeDesc.int Go.IntKind.u8)) (by kernel_rfl) (by kernel_rfl) (by kernel_rfl) ⟨by kernel_rfl, by kernel_rfl⟩ rfl rfl (by kernel_rfl) (fun h => nomatch h)
/-- abi.Kind -/
def ti89 : TI := ⟨.int .u8, 1, 1, some (.int .u8), [.v (.int .u8) 0], [], 0, false⟩
theorem ti89_ok : TiOk Tryd.prog 89 ti89 := TiOk.of (z := (@Go.Value.int Go.IntKind.u8 (@Int.ofNat 0))) (d := (@Go.TypeDesc.int Go.IntKind.u8)) (by kernel_rfl) (by kernel_rfl) (by kernel_rfl) ⟨by kernel_rfl, by kernel_rfl⟩ rfl rfl (by kernel_rfl) (fun h => nomatch h)
/-- func(unsafe.Pointer, unsafe.Pointer) bool -/
def ti90 : TI := ⟨.other, 1, 8, none, [.un], [], 0, false⟩
theorem ti90_ok : TiOk Tryd.prog 90 ti90 := TiOk.of (z := Go.Value.nilFunc) (d := (@Go.TypeDesc.func (@Array.mk Nat (@List.cons Nat 66 (@List.cons Nat 66 (@List.nil Nat)))) (@Array.mk Nat (@List.cons Nat 4 (@List.nil Nat))) Bool.false)) (by kernel_rfl) (by kernel_rfl) (by kernel_rfl) trivial rfl trivial (by kernel_rfl) (fun h => nomatch h)
/-- abi.NameOff -/
def ti91 : TI := ⟨.int .i32, 1, 4, some (.int .i32), [.v (.int .i32) 0], [], 0, false⟩
theorem ti91_ok : TiOk Tryd.prog 91 ti91 := TiOk.of (z := (@Go.Value.int Go.IntKind.i32 (@Int.ofNat 0))) (d := (@Go.TypeDesc.int Go.IntKind.i32)) (by kernel_rfl) (by kernel_rfl) (by kernel_rfl) ⟨by kernel_rfl, by kernel_rfl⟩ rfl rfl (by kernel_rfl) (fun h => nomatch h)
/-- abi.TypeOff -/
def ti92 : TI := ⟨.int .i32, 1, 4, some (.int .i32), [.v (.int .i32) 0], [], 0, false⟩
theorem ti92_ok : TiOk Tryd.prog 92 ti92 := TiOk.of (z := (@Go.Value.int Go.IntKind.i32 (@Int.ofNat 0))) (d := (@Go.TypeDesc.int Go.IntKind.i32)) (by kernel_rfl) (by kernel_rfl) (by kernel_rfl) ⟨by kernel_rfl, by kernel_rfl⟩ rfl rfl (by kernel_rfl) (fun h => nomatch h)
/-- struct { Size_ uintptr; PtrBytes uintptr; Hash uint32; TFlag abi.TFlag; Align_ uint8; FieldAlign_ uint8; Kind_ abi.Kind; Equal func(unsafe.Pointer, unsafe.Pointer) bool; GCData *uint8; Str abi.NameOff; PtrToThis abi.TypeOff } -/
def ti93 : TI := ⟨.struct, 11, 48, none, [.v (.int .u64) 0, .v (.int .u64) 0, .v (.int .u32) 0, .v (.int .u8) 0, .v (.int .u8) 0, .v (.int .u8) 0, .v (.int .u8) 0, .un, .nilptr, .v (.int .i32) 0, .v (.int .i32) 0], [(0, 12), (1, 12), (2, 79), (3, 88), (4, 5), (5, 5), (6, 89), (7, 90), (8, 60), (9, 91), (10, 92)], 0, false⟩
theorem ti93_ok : TiOk Tryd.prog 93 ti93 := TiOk.of (z := (@Go.Value.agg (@Array.mk Go.Value (@List.cons Go.Value (@Go.Value.int Go.IntKind.u64 (@Int.ofNat 0)) (@List.cons Go.Value (@Go.Value.int Go.IntKind.u64 (@Int.ofNat 0)) (@List.cons Go.Value (@Go.Value.int Go.IntKind.u32 (@Int.ofNat 0)) (@List.cons Go.Value (@Go.Value.int Go.IntKind.u8 (@Int.ofNat 0)) (@List.cons Go.Value (@Go.Value.int Go.IntKind.u8 (@Int.ofNat 0)) (@List.cons Go.Value (@Go.Value.int Go.IntKind.u8 (@Int.ofNat 0)) (@List.cons Go.Value (@Go.Value.int Go.IntKind.u8 (@Int.ofNat 0)) (@List.cons Go.Value Go.Value.nilFunc (@List.cons Go.Value (@Go.Value.pointer (@Option.none Go.Addr)) (@List.cons Go.Value (@Go.Value.int Go.IntKind.i32 (@Int.ofNat 0)) (@List.cons Go.Value (@Go.Value.int Go.IntKind.i32 (@Int.ofNat 0)) (@List.nil Go.Value))))))))))))))) (d := (@Go.TypeDesc.struct (@Array.mk Go.Field (@List.cons Go.Field (@Go.Field.mk "Size_" 12 0 Bool.false "" "" 0) (@List.cons Go.Field (@Go.Field.mk "PtrBytes" 12 1 Bool.false "" "" 8) (@List.cons Go.Field (@Go.Field.mk "Hash" 79 2 Bool.false "" "" 16) (@List.cons Go.Field (@Go.Field.mk "TFlag" 88 3 Bool.false "" "" 20) (@List.cons Go.Field (@Go.Field.mk "Align_" 5 4 Bool.false "" "" 21) (@List.cons Go.Field (@Go.Field.mk "FieldAlign_" 5 5 Bool.false "" "" 22) (@List.cons Go.Field (@Go.Field.mk "Kind_" 89 6 Bool.false "" "" 23) (@List.cons Go.Field (@Go.Field.mk "Equal" 90 7 Bool.false "" "" 24) (@List.cons Go.Field (@Go.Field.mk "GCData" 60 8 Bool.false "" "" 32) (@List.cons Go.Field (@Go.Field.mk "Str" 91 9 Bool.false "" "" 40) (@List.cons Go.Field (@Go.Field.mk "PtrToThis" 92 10 Bool.false "" "" 44) (@List.nil Go.Field))))))))))))))) (by kernel_rfl) (by kernel_rfl) (by kernel_rfl) trivial ⟨_, rfl⟩ ⟨_, rfl, by kernel_rfl, by kernel_rfl⟩ (by kernel_rfl) (fun h => nomatch h)
/-- abi.Type -/
def ti94 : TI := ⟨.struct, 11, 48, none, [.v (.int .u64) 0, .v (.int .u64) 0, .v (.int .u32) 0, .v (.int .u8) 0, .v (.int .u8) 0, .v (.int .u8) 0, .v (.int .u8) 0, .un, .nilptr, .v (.int .i32) 0, .v (.int .i32) 0], [(0, 12), (1, 12), (2, 79), (3, 88), (4, 5), (5, 5), (6, 89), (7, 90), (8, 60), (9, 91), (10, 92)], 0, false⟩
theorem ti94_ok : TiOk Tryd.prog 94 ti94 := TiOk.of (z := (@Go.Value.agg (@Array.mk Go.Value (@List.cons Go.Value (@Go.Value.int Go.IntKind.u64 (@Int.ofNat 0)) (@List.cons Go.Value (@Go.Value.int Go.IntKind.u64 (@Int.ofNat 0)) (@List.cons Go.Value (@Go.Value.int Go.IntKind.u32 (@Int.ofNat 0)) (@List.cons Go.Value (@Go.Value.int Go.IntKind.u8 (@Int.ofNat 0)) (@List.cons Go.Value (@Go.Value.int Go.IntKind.u8 (@Int.ofNat 0)) (@List.cons Go.Value (@Go.Value.int Go.IntKind.u8 (@Int.ofNat 0)) (@List.cons Go.Value (@Go.Value.int Go.IntKind.u8 (@Int.ofNat 0)) (@List.cons Go.Value Go.Value.nilFunc (@List.cons Go.Value (@Go.Value.pointer (@Option.none Go.Addr)) (@List.cons Go.Value (@Go.Value.int Go.IntKind.i32 (@Int.ofNat 0)) (@List.cons Go.Value (@Go.Value.int Go.IntKind.i32 (@Int.ofNat 0)) (@List.nil Go.Value))))))))))))))) (d := (@Go.TypeDesc.struct (@Array.mk Go.Field (@List.cons Go.Field (@Go.Field.mk "Size_" 12 0 Bool.false "" "" 0) (@List.cons Go.Field (@Go.Field.mk "PtrBytes" 12 1 Bool.false "" "" 8) (@List.cons Go.Field (@Go.Field.mk "Hash" 79 2 Bool.false "" "" 16) (@List.cons Go.Field (@Go.Field.mk "TFlag" 88 3 Bool.false "" "" 20) (@List.cons Go.Field (@Go.Field.mk "Align_" 5 4 Bool.false "" "" 21) (@List.cons Go.Field (@Go.Field.mk "FieldAlign_" 5 5 Bool.false "" "" 22) (@List.cons Go.Field (@Go.Field.mk "Kind_" 89 6 Bool.false "" "" 23) (@List.cons Go.Field (@Go.Field.mk "Equal" 90 7 Bool.false "" "" 24) (@List.cons Go.Field (@Go.Field.mk "GCData" 60 8 Bool.false "" "" 32) (@List.cons Go.Field (@Go.Field.mk "Str" 91 9 Bool.false "" "" 40) (@List.cons Go.Field (@Go.Field.mk "PtrToThis" 92 10 Bool.false "" "" 44) (@List.nil Go.Field))))))))))))))) (by kernel_rfl) (by kernel_rfl) (by kernel_rfl) trivial ⟨_, rfl⟩ ⟨_, rfl, by kernel_rfl, by kernel_rfl⟩ (by kernel_rfl) (fun h => nomatch h)
def tyL : List (Nat × TI) := [(1, ti1), (2, ti2), (3, ti3), (4, ti4), (5, ti5), (6, ti6), (7, ti7), (8, ti8), (9, ti9), (10, ti10), (11, ti11), (12, ti12), (13, ti13), (14, ti14), (15, ti15), (16, ti16), (17, ti17), (18, ti18), (19, ti19), (20, ti20), (21, ti21), (22, ti22), (23, ti23), (24, ti24), (25, ti25), (26, ti26), (27, ti27), (28, ti28), (30, ti30), (31, ti31), (32, ti32), (33, ti33), (34, ti34), (35, ti35), (36, ti36), (37, ti37), (38, ti38), (39, ti39), (40, ti40), (41, ti41), (42, ti42), (43, ti43), (44, ti44), (45, ti45), (46, ti46), (47, ti47), (48, ti48), (50, ti50), (52, ti52), (53, ti53), (54, ti54), (55, ti55), (56, ti56), (57, ti57), (58, ti58), (59, ti59), (60, ti60), (61, ti61), (63, ti63), (65, ti65), (67, ti67), (68, ti68), (69, ti69), (70, ti70), (72, ti72), (73, ti73), (75, ti75), (76, ti76), (78, ti78), (79, ti79), (81, ti81), (82, ti82), (83, ti83), (85, ti85), (86, ti86), (87, ti87), (88, ti88), (89, ti89), (90, ti90), (91, ti91), (92, ti92), (93, ti93), (94, ti94)]
def tyT : TypeId → Option TI := look tyL
theorem tyT_ok : TyOk Tryd.prog tyT := tyOk_of (all_cons ti1_ok (all_cons ti2_ok (all_cons ti3_ok (all_cons ti4_ok (all_cons ti5_ok (all_cons ti6_ok (all_cons ti7_ok (all_cons ti8_ok (all_cons ti9_ok (all_cons ti10_ok (all_cons ti11_ok (all_cons ti12_ok (all_cons ti13_ok (all_cons ti14_ok (all_cons ti15_ok (all_cons ti16_ok (all_cons ti17_ok (all_cons ti18_ok (all_cons ti19_ok (all_cons ti20_ok (all_cons ti21_ok (all_cons ti22_ok (all_cons ti23_ok (all_cons ti24_ok (all_cons ti25_ok (all_cons ti26_ok (all_cons ti27_ok (all_cons ti28_ok (all_cons ti30_ok (all_cons ti31_ok (all_cons ti32_ok (all_cons ti33_ok (all_cons ti34_ok (all_cons ti35_ok (all_cons ti36_ok (all_cons ti37_ok (all_cons ti38_ok (all_cons ti39_ok (all_cons ti40_ok (all_cons ti41_ok (all_cons ti42_ok (all_cons ti43_ok (all_cons ti44_ok (all_cons ti45_ok (all_cons ti46_ok (all_cons ti47_ok (all_cons ti48_ok (all_cons ti50_ok (all_cons ti52_ok (all_cons ti53_ok (all_cons ti54_ok (all_cons ti55_ok (all_cons ti56_ok (all_cons ti57_ok (all_cons ti58_ok (all_cons ti59_ok (all_cons ti60_ok (all_cons ti61_ok (all_cons ti63_ok (all_cons ti65_ok (all_cons ti67_ok (all_cons ti68_ok (all_cons ti69_ok (all_cons ti70_ok (all_cons ti72_ok (all_cons ti73_ok (all_cons ti75_ok (all_cons ti76_ok (all_cons ti78_ok (all_cons ti79_ok (all_cons ti81_ok (all_cons ti82_ok (all_cons ti83_ok (all_cons ti85_ok (all_cons ti86_ok (all_cons ti87_ok (all_cons ti88_ok (all_cons ti89_ok (all_cons ti90_ok (all_cons ti91_ok (all_cons ti92_ok (all_cons ti93_ok (all_cons ti94_ok (all_nil))))))))))))))))))))))))))))))))))))))))))))))))))))))))))))))))))))))))))))))))))))
end Go.Proofs.YtfbagjjnfpgjkaaDoor.Pvm

set_option maxRecDepth 1000000
set_option maxHeartbeats 0
set_option linter.unusedVariables false
namespace Go.Proofs.YtfbagjjnfpgjkaaDoor.Pvm
open Go Go.Proofs
def sig_law11_same : List LS := [.sl (.pr (.int .i64) (.pr (.int .i64) (.pr (.int .i64) (.pr .str .bool)))), .sl (.pr (.int .i64) (.pr (.int .i64) (.pr (.int .i64) (.pr .str .bool))))]
noncomputable def C_law11_same (k : Nat) : CTab := ⟨fun f => [], fun f {_} ps hp K => none⟩
def wrap_law11_same {R : Type} (K : (Bool → Option R)) : Out → Option R
  | .ret [.v .bool y0] [] => K y0
  | _ => none
def sp_law11_same : RetSpec := ⟨[.any], [], []⟩
def cuts_law11_same : List (Nat × CutSpec) := [(1004, ⟨[(0, .sl (.pr (.int .i64) (.pr (.int .i64) (.pr (.int .i64) (.pr .str .bool))))), (1, .sl (.pr (.int .i64) (.pr (.int .i64) (.pr (.int .i64) (.pr .str .bool))))), (5, .any)], []⟩)]
def plans_law11_same : List (Nat × Plan) := [(6, (.of [(0, 1), (1, 1), (2, 1), (4, 1), (5, 1), (6, 1), (3, 1), (7, 1), (8, 1)] .done))]
noncomputable def cx_law11_same (k : Nat) : Ctx := ⟨tyT, cuts_law11_same, C_law11_same k, [], [], plans_law11_same⟩
noncomputable def code_law11_same : Code := Tryd.f7.body.getD .skip
def st_law11_same_1004 (s0 : (List (Int × (Int × (Int × ((List UInt8) × Bool)))))) (s1 : (List (Int × (Int × (Int × ((List UInt8) × Bool)))))) (s2 : Int) : St := ⟨mkT [(0, .v (.sl (.pr (.int .i64) (.pr (.int .i64) (.pr (.int .i64) (.pr .str .bool))))) s0), (1, .v (.sl (.pr (.int .i64) (.pr (.int .i64) (.pr (.int .i64) (.pr .str .bool))))) s1), (5, .v (.int .i64) s2)], mkH []⟩
noncomputable def B_law11_same_1004 (k : Nat) {R : Type} (E1004 : ((List (Int × (Int × (Int × ((List UInt8) × Bool))))) → (List (Int × (Int × (Int × ((List UInt8) × Bool))))) → Int → Option R)) (s0 : (List (Int × (Int × (Int × ((List UInt8) × Bool)))))) (s1 : (List (Int × (Int × (Int × ((List UInt8) × Bool)))))) (s2 : Int) (K : (Bool → Option R)) : Option R := (@cond (@Option R) (@Decidable.decide (@LT.lt @Int @Int.instLTInt s2 (@Nat.cast @Int @instNatCastInt (@List.length (@Kd.T (@Kd.pr (@Kd.int @Go.IntKind.i64) (@Kd.pr (@Kd.int @Go.IntKind.i64) (@Kd.pr (@Kd.int @Go.IntKind.i64) (@Kd.pr @Kd.str @Kd.bool))))) s0))) (@Int.decLt s2 (@Nat.cast @Int @instNatCastInt (@List.length (@Kd.T (@Kd.pr (@Kd.int @Go.IntKind.i64) (@Kd.pr (@Kd.int @Go.IntKind.i64) (@Kd.pr (@Kd.int @Go.IntKind.i64) (@Kd.pr @Kd.str @Kd.bool))))) s0)))) (@cond (@Option R) (@inb s2 (@Nat.cast @Int @instNatCastInt (@List.length (@Kd.T (@Kd.pr (@Kd.int @Go.IntKind.i64) (@Kd.pr (@Kd.int @Go.IntKind.i64) (@Kd.pr (@Kd.int @Go.IntKind.i64) (@Kd.pr @Kd.str @Kd.bool))))) s0))) (@cond (@Option R) (@inb s2 (@Nat.cast @Int @instNatCastInt (@List.length (@Kd.T (@Kd.pr (@Kd.int @Go.IntKind.i64) (@Kd.pr (@Kd.int @Go.IntKind.i64) (@Kd.pr (@Kd.int @Go.IntKind.i64) (@Kd.pr @Kd.str @Kd.bool))))) s1))) (@cond (@Option R) (@Bool.not (@Bool.and (@BEq.beq @Int (@instBEqOfDecidableEq @Int @Int.instDecidableEq) (@Prod.fst (@Kd.T (@Kd.int @Go.IntKind.i64)) (@Kd.T (@Kd.pr (@Kd.int @Go.IntKind.i64) (@Kd.pr (@Kd.int @Go.IntKind.i64) (@Kd.pr @Kd.str @Kd.bool)))) (@List.getD (@Kd.T (@Kd.pr (@Kd.int @Go.IntKind.i64) (@Kd.pr (@Kd.int @Go.IntKind.i64) (@Kd.pr (@Kd.int @Go.IntKind.i64) (@Kd.pr @Kd.str @Kd.bool))))) s0 (@Int.toNat s2) (@Kd.zero (@Kd.pr (@Kd.int @Go.IntKind.i64) (@Kd.pr (@Kd.int @Go.IntKind.i64) (@Kd.pr (@Kd.int @Go.IntKind.i64) (@Kd.pr @Kd.str @Kd.bool))))))) (@Prod.fst (@Kd.T (@Kd.int @Go.IntKind.i64)) (@Kd.T (@Kd.pr (@Kd.int @Go.IntKind.i64) (@Kd.pr (@Kd.int @Go.IntKind.i64) (@Kd.pr @Kd.str @Kd.bool)))) (@List.getD (@Kd.T (@Kd.pr (@Kd.int @Go.IntKind.i64) (@Kd.pr (@Kd.int @Go.IntKind.i64) (@Kd.pr (@Kd.int @Go.IntKind.i64) (@Kd.pr @Kd.str @Kd.bool))))) s1 (@Int.toNat s2) (@Kd.zero (@Kd.pr (@Kd.int @Go.IntKind.i64) (@Kd.pr (@Kd.int @Go.IntKind.i64) (@Kd.pr (@Kd.int @Go.IntKind.i64) (@Kd.pr @Kd.str @Kd.bool)))))))) (@Bool.and (@BEq.beq @Int (@instBEqOfDecidableEq @Int @Int.instDecidableEq) (@Prod.fst (@Kd.T (@Kd.int @Go.IntKind.i64)) (@Kd.T (@Kd.pr (@Kd.int @Go.IntKind.i64) (@Kd.pr @Kd.str @Kd.bool))) (@Prod.snd (@Kd.T (@Kd.int @Go.IntKind.i64)) (@Kd.T (@Kd.pr (@Kd.int @Go.IntKind.i64) (@Kd.pr (@Kd.int @Go.IntKind.i64) (@Kd.pr @Kd.str @Kd.bool)))) (@List.getD (@Kd.T (@Kd.pr (@Kd.int @Go.IntKind.i64) (@Kd.pr (@Kd.int @Go.IntKind.i64) (@Kd.pr (@Kd.int @Go.IntKind.i64) (@Kd.pr @Kd.str @Kd.bool))))) s0 (@Int.toNat s2) (@Kd.zero (@Kd.pr (@Kd.int @Go.IntKind.i64) (@Kd.pr (@Kd.int @Go.IntKind.i64) (@Kd.pr (@Kd.int @Go.IntKind.i64) (@Kd.pr @Kd.str @Kd.bool)))))))) (@Prod.fst (@Kd.T (@Kd.int @Go.IntKind.i64)) (@Kd.T (@Kd.pr (@Kd.int @Go.IntKind.i64) (@Kd.pr @Kd.str @Kd.bool))) (@Prod.snd (@Kd.T (@Kd.int @Go.IntKind.i64)) (@Kd.T (@Kd.pr (@Kd.int @Go.IntKind.i64) (@Kd.pr (@Kd.int @Go.IntKind.i64) (@Kd.pr @Kd.str @Kd.bool)))) (@List.getD (@Kd.T (@Kd.pr (@Kd.int @Go.IntKind.i64) (@Kd.pr (@Kd.int @Go.IntKind.i64) (@Kd.pr (@Kd.int @Go.IntKind.i64) (@Kd.pr @Kd.str @Kd.bool))))) s1 (@Int.toNat s2) (@Kd.zero (@Kd.pr (@Kd.int @Go.IntKind.i64) (@Kd.pr (@Kd.int @Go.IntKind.i64) (@Kd.pr (@Kd.int @Go.IntKind.i64) (@Kd.pr @Kd.str @Kd.bool))))))))) (@Bool.and (@BEq.beq @Int (@instBEqOfDecidableEq @Int @Int.instDecidableEq) (@Prod.fst (@Kd.T (@Kd.int @Go.IntKind.i64)) (@Kd.T (@Kd.pr @Kd.str @Kd.bool)) (@Prod.snd (@Kd.T (@Kd.int @Go.IntKind.i64)) (@Kd.T (@Kd.pr (@Kd.int @Go.IntKind.i64) (@Kd.pr @Kd.str @Kd.bool))) (@Prod.snd (@Kd.T (@Kd.int @Go.IntKind.i64)) (@Kd.T (@Kd.pr (@Kd.int @Go.IntKind.i64) (@Kd.pr (@Kd.int @Go.IntKind.i64) (@Kd.pr @Kd.str @Kd.bool)))) (@List.getD (@Kd.T (@Kd.pr (@Kd.int @Go.IntKind.i64) (@Kd.pr (@Kd.int @Go.IntKind.i64) (@Kd.pr (@Kd.int @Go.IntKind.i64) (@Kd.pr @Kd.str @Kd.bool))))) s0 (@Int.toNat s2) (@Kd.zero (@Kd.pr (@Kd.int @Go.IntKind.i64) (@Kd.pr (@Kd.int @Go.IntKind.i64) (@Kd.pr (@Kd.int @Go.IntKind.i64) (@Kd.pr @Kd.str @Kd.bool))))))))) (@Prod.fst (@Kd.T (@Kd.int @Go.IntKind.i64)) (@Kd.T (@Kd.pr @Kd.str @Kd.bool)) (@Prod.snd (@Kd.T (@Kd.int @Go.IntKind.i64)) (@Kd.T (@Kd.pr (@Kd.int @Go.IntKind.i64) (@Kd.pr @Kd.str @Kd.bool))) (@Prod.snd (@Kd.T (@Kd.int @Go.IntKind.i64)) (@Kd.T (@Kd.pr (@Kd.int @Go.IntKind.i64) (@Kd.pr (@Kd.int @Go.IntKind.i64) (@Kd.pr @Kd.str @Kd.bool)))) (@List.getD (@Kd.T (@Kd.pr (@Kd.int @Go.IntKind.i64) (@Kd.pr (@Kd.int @Go.IntKind.i64) (@Kd.pr (@Kd.int @Go.IntKind.i64) (@Kd.pr @Kd.str @Kd.bool))))) s1 (@Int.toNat s2) (@Kd.zero (@Kd.pr (@Kd.int @Go.IntKind.i64) (@Kd.pr (@Kd.int @Go.IntKind.i64) (@Kd.pr (@Kd.int @Go.IntKind.i64) (@Kd.pr @Kd.str @Kd.bool)))))))))) (@Bool.and (@BEq.beq (@List @UInt8) (@List.instBEq @UInt8 (@instBEqOfDecidableEq @UInt8 @instDecidableEqUInt8)) (@Prod.fst (@Kd.T @Kd.str) (@Kd.T @Kd.bool) (@Prod.snd (@Kd.T (@Kd.int @Go.IntKind.i64)) (@Kd.T (@Kd.pr @Kd.str @Kd.bool)) (@Prod.snd (@Kd.T (@Kd.int @Go.IntKind.i64)) (@Kd.T (@Kd.pr (@Kd.int @Go.IntKind.i64) (@Kd.pr @Kd.str @Kd.bool))) (@Prod.snd (@Kd.T (@Kd.int @Go.IntKind.i64)) (@Kd.T (@Kd.pr (@Kd.int @Go.IntKind.i64) (@Kd.pr (@Kd.int @Go.IntKind.i64) (@Kd.pr @Kd.str @Kd.bool)))) (@List.getD (@Kd.T (@Kd.pr (@Kd.int @Go.IntKind.i64) (@Kd.pr (@Kd.int @Go.IntKind.i64) (@Kd.pr (@Kd.int @Go.IntKind.i64) (@Kd.pr @Kd.str @Kd.bool))))) s0 (@Int.toNat s2) (@Kd.zero (@Kd.pr (@Kd.int @Go.IntKind.i64) (@Kd.pr (@Kd.int @Go.IntKind.i64) (@Kd.pr (@Kd.int @Go.IntKind.i64) (@Kd.pr @Kd.str @Kd.bool)))))))))) (@Prod.fst (@Kd.T @Kd.str) (@Kd.T @Kd.bool) (@Prod.snd (@Kd.T (@Kd.int @Go.IntKind.i64)) (@Kd.T (@Kd.pr @Kd.str @Kd.bool)) (@Prod.snd (@Kd.T (@Kd.int @Go.IntKind.i64)) (@Kd.T (@Kd.pr (@Kd.int @Go.IntKind.i64) (@Kd.pr @Kd.str @Kd.bool))) (@Prod.snd (@Kd.T (@Kd.int @Go.IntKind.i64)) (@Kd.T (@Kd.pr (@Kd.int @Go.IntKind.i64) (@Kd.pr (@Kd.int @Go.IntKind.i64) (@Kd.pr @Kd.str @Kd.bool)))) (@List.getD (@Kd.T (@Kd.pr (@Kd.int @Go.IntKind.i64) (@Kd.pr (@Kd.int @Go.IntKind.i64) (@Kd.pr (@Kd.int @Go.IntKind.i64) (@Kd.pr @Kd.str @Kd.bool))))) s1 (@Int.toNat s2) (@Kd.zero (@Kd.pr (@Kd.int @Go.IntKind.i64) (@Kd.pr (@Kd.int @Go.IntKind.i64) (@Kd.pr (@Kd.int @Go.IntKind.i64) (@Kd.pr @Kd.str @Kd.bool))))))))))) (@BEq.beq @Bool (@instBEqOfDecidableEq @Bool @instDecidableEqBool) (@Prod.snd (@Kd.T @Kd.str) (@Kd.T @Kd.bool) (@Prod.snd (@Kd.T (@Kd.int @Go.IntKind.i64)) (@Kd.T (@Kd.pr @Kd.str @Kd.bool)) (@Prod.snd (@Kd.T (@Kd.int @Go.IntKind.i64)) (@Kd.T (@Kd.pr (@Kd.int @Go.IntKind.i64) (@Kd.pr @Kd.str @Kd.bool))) (@Prod.snd (@Kd.T (@Kd.int @Go.IntKind.i64)) (@Kd.T (@Kd.pr (@Kd.int @Go.IntKind.i64) (@Kd.pr (@Kd.int @Go.IntKind.i64) (@Kd.pr @Kd.str @Kd.bool)))) (@List.getD (@Kd.T (@Kd.pr (@Kd.int @Go.IntKind.i64) (@Kd.pr (@Kd.int @Go.IntKind.i64) (@Kd.pr (@Kd.int @Go.IntKind.i64) (@Kd.pr @Kd.str @Kd.bool))))) s0 (@Int.toNat s2) (@Kd.zero (@Kd.pr (@Kd.int @Go.IntKind.i64) (@Kd.pr (@Kd.int @Go.IntKind.i64) (@Kd.pr (@Kd.int @Go.IntKind.i64) (@Kd.pr @Kd.str @Kd.bool)))))))))) (@Prod.snd (@Kd.T @Kd.str) (@Kd.T @Kd.bool) (@Prod.snd (@Kd.T (@Kd.int @Go.IntKind.i64)) (@Kd.T (@Kd.pr @Kd.str @Kd.bool)) (@Prod.snd (@Kd.T (@Kd.int @Go.IntKind.i64)) (@Kd.T (@Kd.pr (@Kd.int @Go.IntKind.i64) (@Kd.pr @Kd.str @Kd.bool))) (@Prod.snd (@Kd.T (@Kd.int @Go.IntKind.i64)) (@Kd.T (@Kd.pr (@Kd.int @Go.IntKind.i64) (@Kd.pr (@Kd.int @Go.IntKind.i64) (@Kd.pr @Kd.str @Kd.bool)))) (@List.getD (@Kd.T (@Kd.pr (@Kd.int @Go.IntKind.i64) (@Kd.pr (@Kd.int @Go.IntKind.i64) (@Kd.pr (@Kd.int @Go.IntKind.i64) (@Kd.pr @Kd.str @Kd.bool))))) s1 (@Int.toNat s2) (@Kd.zero (@Kd.pr (@Kd.int @Go.IntKind.i64) (@Kd.pr (@Kd.int @Go.IntKind.i64) (@Kd.pr (@Kd.int @Go.IntKind.i64) (@Kd.pr @Kd.str @Kd.bool)))))))))))))))) (K @Bool.false) (E1004 s0 s1 (@Go.IntKind.wrap @Go.IntKind.i64 (@HAdd.hAdd @Int @Int @Int (@instHAdd @Int @Int.instAdd) s2 (1 : @Int))))) (@Option.none R)) (@Option.none R)) (K @Bool.true))
theorem B_law11_same_1004_eq (k : Nat) {R : Type} (I : Nat → St → Option R) (s0 : (List (Int × (Int × (Int × ((List UInt8) × Bool)))))) (s1 : (List (Int × (Int × (Int × ((List UInt8) × Bool)))))) (s2 : Int) (K : (Bool → Option R)) : execK (cx_law11_same k) k (at_ [1, 1, 0, 1, 0, 0] code_law11_same) (st_law11_same_1004 s0 s1 s2) (konts (cx_law11_same k) k I [1, 1, 0, 1, 0, 0] code_law11_same (outK (cx_law11_same k) sp_law11_same [.tmp 4] (wrap_law11_same K))) = B_law11_same_1004 k (fun s0 s1 s2 => I 1004 (st_law11_same_1004 s0 s1 s2)) s0 s1 s2 K := by kernel_rfl
noncomputable def A_law11_same (k : Nat) {R : Type} (E1004 : ((List (Int × (Int × (Int × ((List UInt8) × Bool))))) → (List (Int × (Int × (Int × ((List UInt8) × Bool))))) → Int → Option R)) (x0 : (List (Int × (Int × (Int × ((List UInt8) × Bool)))))) (x1 : (List (Int × (Int × (Int × ((List UInt8) × Bool)))))) (K : (Bool → Option R)) : Option R := (@cond (@Option R) (@bne @Int (@instBEqOfDecidableEq @Int @Int.instDecidableEq) (@Nat.cast @Int @instNatCastInt (@List.length (@Kd.T (@Kd.pr (@Kd.int @Go.IntKind.i64) (@Kd.pr (@Kd.int @Go.IntKind.i64) (@Kd.pr (@Kd.int @Go.IntKind.i64) (@Kd.pr @Kd.str @Kd.bool))))) x0)) (@Nat.cast @Int @instNatCastInt (@List.length (@Kd.T (@Kd.pr (@Kd.int @Go.IntKind.i64) (@Kd.pr (@Kd.int @Go.IntKind.i64) (@Kd.pr (@Kd.int @Go.IntKind.i64) (@Kd.pr @Kd.str @Kd.bool))))) x1))) (K @Bool.false) (E1004 x0 x1 (0 : @Int)))
theorem A_law11_same_eq (k : Nat) {R : Type} (I : Nat → St → Option R) (x0 : (List (Int × (Int × (Int × ((List UInt8) × Bool)))))) (x1 : (List (Int × (Int × (Int × ((List UInt8) × Bool)))))) (K : (Bool → Option R)) : fnK (cx_law11_same k) k code_law11_same 26 [.tmp 4] sp_law11_same [.v (.sl (.pr (.int .i64) (.pr (.int .i64) (.pr (.int .i64) (.pr .str .bool))))) x0, .v (.sl (.pr (.int .i64) (.pr (.int .i64) (.pr (.int .i64) (.pr .str .bool))))) x1] [] (wrap_law11_same K) = A_law11_same k (fun s0 s1 s2 => iter (cx_law11_same k).pv (look (cx_law11_same k).cuts 1004) (execK (cx_law11_same k) k (at_ [1, 1, 0, 1, 0, 0] code_law11_same)) k (st_law11_same_1004 s0 s1 s2) (konts (cx_law11_same k) k I [1, 1, 0, 1, 0] code_law11_same (outK (cx_law11_same k) sp_law11_same [.tmp 4] (wrap_law11_same K)))) x0 x1 K := by kernel_rfl
noncomputable def L_law11_same_1004 (k : Nat) {R : Type}  : Nat → (List (Int × (Int × (Int × ((List UInt8) × Bool))))) → (List (Int × (Int × (Int × ((List UInt8) × Bool))))) → Int → (Bool → Option R) → Option R
  | 0, _, _, _, _ => none
  | n + 1, s0, s1, s2, K => B_law11_same_1004 k (fun s0 s1 s2 => L_law11_same_1004 k  n s0 s1 s2 K) s0 s1 s2 K
theorem L_law11_same_1004_eq (k : Nat) {R : Type} (I : Nat → St → Option R) (K : (Bool → Option R)) : ∀ (n : Nat) (s0 : (List (Int × (Int × (Int × ((List UInt8) × Bool)))))) (s1 : (List (Int × (Int × (Int × ((List UInt8) × Bool)))))) (s2 : Int), iter (cx_law11_same k).pv (look (cx_law11_same k).cuts 1004) (execK (cx_law11_same k) k (at_ [1, 1, 0, 1, 0, 0] code_law11_same)) n (st_law11_same_1004 s0 s1 s2) (konts (cx_law11_same k) k I [1, 1, 0, 1, 0] code_law11_same (outK (cx_law11_same k) sp_law11_same [.tmp 4] (wrap_law11_same K))) = L_law11_same_1004 k  n s0 s1 s2 K := by
  intro n
  induction n with
  | zero => intros; rfl
  | succ n ih =>
    intro s0 s1 s2
    let I' : Nat → St → Option R := fun id s => bif Nat.beq id 1004 then iter (cx_law11_same k).pv (look (cx_law11_same k).cuts 1004) (execK (cx_law11_same k) k (at_ [1, 1, 0, 1, 0, 0] code_law11_same)) n s (konts (cx_law11_same k) k I [1, 1, 0, 1, 0] code_law11_same (outK (cx_law11_same k) sp_law11_same [.tmp 4] (wrap_law11_same K))) else I id s
    have e := B_law11_same_1004_eq k I' s0 s1 s2 K
    have h1004 : (fun s0 s1 s2 => I' 1004 (st_law11_same_1004 s0 s1 s2)) = (fun s0 s1 s2 => L_law11_same_1004 k  n s0 s1 s2 K) := by funext s0 s1 s2; exact ih s0 s1 s2
    refine Eq.trans (?_ : _ = _) (e.trans (Eq.trans ((congrArg ((fun E1004 => B_law11_same_1004 k E1004 s0 s1 s2 K)) h1004)) (by rw [L_law11_same_1004])))
    rfl
noncomputable def F_law11_same (k : Nat) {R : Type} (x0 : (List (Int × (Int × (Int × ((List UInt8) × Bool)))))) (x1 : (List (Int × (Int × (Int × ((List UInt8) × Bool)))))) (K : (Bool → Option R)) : Option R := A_law11_same k (fun s0 s1 s2 => L_law11_same_1004 k k s0 s1 s2 K) x0 x1 K
theorem F_law11_same_eq (k : Nat) {R : Type} (x0 : (List (Int × (Int × (Int × ((List UInt8) × Bool)))))) (x1 : (List (Int × (Int × (Int × ((List UInt8) × Bool)))))) (K : (Bool → Option R)) : fnK (cx_law11_same k) k code_law11_same 26 [.tmp 4] sp_law11_same [.v (.sl (.pr (.int .i64) (.pr (.int .i64) (.pr (.int .i64) (.pr .str .bool))))) x0, .v (.sl (.pr (.int .i64) (.pr (.int .i64) (.pr (.int .i64) (.pr .str .bool))))) x1] [] (wrap_law11_same K) = F_law11_same k x0 x1 K := by
  let I : Nat → St → Option R := fun _ _ => none
  have h1004 : (fun s0 s1 s2 => iter (cx_law11_same k).pv (look (cx_law11_same k).cuts 1004) (execK (cx_law11_same k) k (at_ [1, 1, 0, 1, 0, 0] code_law11_same)) k (st_law11_same_1004 s0 s1 s2) (konts (cx_law11_same k) k I [1, 1, 0, 1, 0] code_law11_same (outK (cx_law11_same k) sp_law11_same [.tmp 4] (wrap_law11_same K)))) = (fun s0 s1 s2 => L_law11_same_1004 k k s0 s1 s2 K) := by funext s0 s1 s2; exact L_law11_same_1004_eq k I K k s0 s1 s2
  exact (A_law11_same_eq k I x0 x1 K).trans (congrArg ((fun E1004 => A_law11_same k E1004 x0 x1 K)) h1004)
noncomputable def run_law11_same (k : Nat) {R : Type} : List PV → List (Nm × HObj) → (Out → Option R) → Option R
  | [.v (.sl (.pr (.int .i64) (.pr (.int .i64) (.pr (.int .i64) (.pr .str .bool))))) x0, .v (.sl (.pr (.int .i64) (.pr (.int .i64) (.pr (.int .i64) (.pr .str .bool))))) x1], [], K => F_law11_same k x0 x1 (fun y0 => K (.ret [.v .bool y0] []))
  | _, _, _ => none
theorem C_law11_same_ok (k : Nat) : (C_law11_same k).Ok Tryd.prog := by
  intro f ps hp R K r h
  unfold C_law11_same at h
  simp only at h
  cases h
theorem D_law11_same (k : Nat) {ps : List PV} {hp : List (Nm × HObj)} {R : Type} {K : Out → Option R} {r : R} (h : run_law11_same k ps hp K = some r) : DoesTo Tryd.prog 7 ps hp fun out => K out = some r := by
  unfold run_law11_same at h
  split at h
  · rw [← F_law11_same_eq] at h
    have := fn_ok (P := Tryd.prog) (cx := cx_law11_same k) (f := 7) ⟨tyT_ok, C_law11_same_ok k⟩ (by kernel_rfl) (fn := Tryd.f7) (c := code_law11_same) (by kernel_rfl) (by kernel_rfl) (by kernel_rfl) (rs := [.tmp 4]) (by kernel_rfl) (by kernel_rfl) h
    exact this.mono fun out ho => by
      unfold wrap_law11_same at ho
      split at ho <;> first | exact ho | cases ho
  · cases h
end Go.Proofs.YtfbagjjnfpgjkaaDoor.Pvm

set_option maxRecDepth 1000000
set_option maxHeartbeats 0
set_option linter.unusedVariables false
namespace Go.Proofs.YtfbagjjnfpgjkaaDoor.Pvm
open Go Go.Proofs
def sig_lex_Row_1 : List LS := [.obj 1 [.sl (.pr (.int .i64) (.pr (.int .i64) (.pr (.int .i64) (.pr .str .bool))))], .obj 2 [.any, .any]]
noncomputable def C_lex_Row_1_n (k : Nat) : CTab := ⟨fun f => [], fun f {_} ps hp K => none⟩
def wrap_lex_Row_1_n {R : Type} (K : ((List (Int × (Int × (Int × ((List UInt8) × Bool))))) → Int → Int → Option R)) : Out → Option R
  | .ret [] [(1, .var 26 [.v (.sl (.pr (.int .i64) (.pr (.int .i64) (.pr (.int .i64) (.pr .str .bool))))) y0]), (2, .var 28 [.v (.int .i64) y1, .v (.int .i64) y2])] => K y0 y1 y2
  | _ => none
def sp_lex_Row_1_n : RetSpec := ⟨[], [(1, .obj 1 [.sl (.pr (.int .i64) (.pr (.int .i64) (.pr (.int .i64) (.pr .str .bool))))]), (2, .obj 2 [.any, .any])], []⟩
def cuts_lex_Row_1_n : List (Nat × CutSpec) := []
def plans_lex_Row_1_n : List (Nat × Plan) := [(7, (.of [(0, 2), (1, 0), (2, 0)] .done))]
noncomputable def cx_lex_Row_1_n (k : Nat) : Ctx := ⟨tyT, cuts_lex_Row_1_n, C_lex_Row_1_n k, [], [1, 2], plans_lex_Row_1_n⟩
noncomputable def code_lex_Row_1_n : Code := Tryd.f10.body.getD .skip
noncomputable def A_lex_Row_1_n (k : Nat) {R : Type}  (x0 : (List (Int × (Int × (Int × ((List UInt8) × Bool)))))) (x1 : Int) (x2 : Int) (K : ((List (Int × (Int × (Int × ((List UInt8) × Bool))))) → Int → Int → Option R)) : Option R := (K x0 x1 x2)
theorem A_lex_Row_1_n_eq (k : Nat) {R : Type} (I : Nat → St → Option R) (x0 : (List (Int × (Int × (Int × ((List UInt8) × Bool)))))) (x1 : Int) (x2 : Int) (K : ((List (Int × (Int × (Int × ((List UInt8) × Bool))))) → Int → Int → Option R)) : fnCK (cx_lex_Row_1_n k) k (at_ [1] code_lex_Row_1_n) 12 [] sp_lex_Row_1_n [.ptr 1 0, .ptr 2 0] 5 (.nilif) [(1, .var 26 [.v (.sl (.pr (.int .i64) (.pr (.int .i64) (.pr (.int .i64) (.pr .str .bool))))) x0]), (2, .var 28 [.v (.int .i64) x1, .v (.int .i64) x2])] (wrap_lex_Row_1_n K) = A_lex_Row_1_n k  x0 x1 x2 K := by kernel_rfl
noncomputable def F_lex_Row_1_n (k : Nat) {R : Type} (x0 : (List (Int × (Int × (Int × ((List UInt8) × Bool)))))) (x1 : Int) (x2 : Int) (K : ((List (Int × (Int × (Int × ((List UInt8) × Bool))))) → Int → Int → Option R)) : Option R := A_lex_Row_1_n k  x0 x1 x2 K
theorem F_lex_Row_1_n_eq (k : Nat) {R : Type} (x0 : (List (Int × (Int × (Int × ((List UInt8) × Bool)))))) (x1 : Int) (x2 : Int) (K : ((List (Int × (Int × (Int × ((List UInt8) × Bool))))) → Int → Int → Option R)) : fnCK (cx_lex_Row_1_n k) k (at_ [1] code_lex_Row_1_n) 12 [] sp_lex_Row_1_n [.ptr 1 0, .ptr 2 0] 5 (.nilif) [(1, .var 26 [.v (.sl (.pr (.int .i64) (.pr (.int .i64) (.pr (.int .i64) (.pr .str .bool))))) x0]), (2, .var 28 [.v (.int .i64) x1, .v (.int .i64) x2])] (wrap_lex_Row_1_n K) = F_lex_Row_1_n k x0 x1 x2 K := by
  exact A_lex_Row_1_n_eq k (fun _ _ => none) x0 x1 x2 K
noncomputable def run_lex_Row_1_n (k : Nat) {R : Type} : PV → List PV → List (Nm × HObj) → (Out → Option R) → Option R
  | .nilif, [.ptr 1 0, .ptr 2 0], [(1, .var 26 [.v (.sl (.pr (.int .i64) (.pr (.int .i64) (.pr (.int .i64) (.pr .str .bool))))) x0]), (2, .var 28 [.v (.int .i64) x1, .v (.int .i64) x2])], K => F_lex_Row_1_n k x0 x1 x2 (fun y0 y1 y2 => K (.ret [] [(1, .var 26 [.v (.sl (.pr (.int .i64) (.pr (.int .i64) (.pr (.int .i64) (.pr .str .bool))))) y0]), (2, .var 28 [.v (.int .i64) y1, .v (.int .i64) y2])]))
  | _, _, _, _ => none
theorem C_lex_Row_1_n_ok (k : Nat) : (C_lex_Row_1_n k).Ok Tryd.prog := by
  intro f ps hp R K r h
  unfold C_lex_Row_1_n at h
  simp only at h
  cases h
theorem DD_lex_Row_1_n (k : Nat) {rec : PV} {ps : List PV} {hp : List (Nm × HObj)} {R : Type} {K : Out → Option R} {r : R} (h : run_lex_Row_1_n k rec ps hp K = some r) : DoesToD Tryd.prog 10 rec ps hp fun out => K out = some r := by
  unfold run_lex_Row_1_n at h
  split at h
  · rw [← F_lex_Row_1_n_eq] at h
    have := fnCK_ok (P := Tryd.prog) (cx := cx_lex_Row_1_n k) (f := 10) ⟨tyT_ok, C_lex_Row_1_n_ok k⟩ (by kernel_rfl) (fn := Tryd.f10) (id := 0) (ops := opsAt (at_ [0] code_lex_Row_1_n)) (c := at_ [1] code_lex_Row_1_n) (by kernel_rfl) (by kernel_rfl) (by kernel_rfl) (rs := []) (by kernel_rfl) (by kernel_rfl) h
    exact this.mono fun out ho => by
      unfold wrap_lex_Row_1_n at ho
      split at ho <;> first | exact ho | cases ho
  · cases h
end Go.Proofs.YtfbagjjnfpgjkaaDoor.Pvm

set_option maxRecDepth 1000000
set_option maxHeartbeats 0
set_option linter.unusedVariables false
namespace Go.Proofs.YtfbagjjnfpgjkaaDoor.Pvm
open Go Go.Proofs
noncomputable def C_lex_Row_1_p (k : Nat) : CTab := ⟨fun f => [], fun f {_} ps hp K => none⟩
def wrap_lex_Row_1_p {R : Type} (K : ((List (Int × (Int × (Int × ((List UInt8) × Bool))))) → Int → Int → Option R)) : Out → Option R
  | .ret [] [(1, .var 26 [.v (.sl (.pr (.int .i64) (.pr (.int .i64) (.pr (.int .i64) (.pr .str .bool))))) y0]), (2, .var 28 [.v (.int .i64) y1, .v (.int .i64) y2])] => K y0 y1 y2
  | _ => none
def sp_lex_Row_1_p : RetSpec := ⟨[], [(1, .obj 1 [.sl (.pr (.int .i64) (.pr (.int .i64) (.pr (.int .i64) (.pr .str .bool))))]), (2, .obj 2 [.any, .any])], []⟩
def cuts_lex_Row_1_p : List (Nat × CutSpec) := []
def plans_lex_Row_1_p : List (Nat × Plan) := [(7, (.of [(0, 2), (1, 0), (2, 0)] .done))]
noncomputable def cx_lex_Row_1_p (k : Nat) : Ctx := ⟨tyT, cuts_lex_Row_1_p, C_lex_Row_1_p k, [], [1, 2], plans_lex_Row_1_p⟩
noncomputable def code_lex_Row_1_p : Code := Tryd.f10.body.getD .skip
noncomputable def A_lex_Row_1_p (k : Nat) {R : Type}  (x0 : (List (Int × (Int × (Int × ((List UInt8) × Bool)))))) (x1 : Int) (x2 : Int) (x3 : Int) (x4 : Int) (K : ((List (Int × (Int × (Int × ((List UInt8) × Bool))))) → Int → Int → Option R)) : Option R := (K (@List.nil (@Kd.T (@Kd.pr (@Kd.int @Go.IntKind.i64) (@Kd.pr (@Kd.int @Go.IntKind.i64) (@Kd.pr (@Kd.int @Go.IntKind.i64) (@Kd.pr @Kd.str @Kd.bool)))))) x3 x4)
theorem A_lex_Row_1_p_eq (k : Nat) {R : Type} (I : Nat → St → Option R) (x0 : (List (Int × (Int × (Int × ((List UInt8) × Bool)))))) (x1 : Int) (x2 : Int) (x3 : Int) (x4 : Int) (K : ((List (Int × (Int × (Int × ((List UInt8) × Bool))))) → Int → Int → Option R)) : fnCK (cx_lex_Row_1_p k) k (at_ [1] code_lex_Row_1_p) 12 [] sp_lex_Row_1_p [.ptr 1 0, .ptr 2 0] 5 (.ifc 28 (.agg [.v (.int .i64) x3, .v (.int .i64) x4])) [(1, .var 26 [.v (.sl (.pr (.int .i64) (.pr (.int .i64) (.pr (.int .i64) (.pr .str .bool))))) x0]), (2, .var 28 [.v (.int .i64) x1, .v (.int .i64) x2])] (wrap_lex_Row_1_p K) = A_lex_Row_1_p k  x0 x1 x2 x3 x4 K := by kernel_rfl
noncomputable def F_lex_Row_1_p (k : Nat) {R : Type} (x0 : (List (Int × (Int × (Int × ((List UInt8) × Bool)))))) (x1 : Int) (x2 : Int) (x3 : Int) (x4 : Int) (K : ((List (Int × (Int × (Int × ((List UInt8) × Bool))))) → Int → Int → Option R)) : Option R := A_lex_Row_1_p k  x0 x1 x2 x3 x4 K
theorem F_lex_Row_1_p_eq (k : Nat) {R : Type} (x0 : (List (Int × (Int × (Int × ((List UInt8) × Bool)))))) (x1 : Int) (x2 : Int) (x3 : Int) (x4 : Int) (K : ((List (Int × (Int × (Int × ((List UInt8) × Bool))))) → Int → Int → Option R)) : fnCK (cx_lex_Row_1_p k) k (at_ [1] code_lex_Row_1_p) 12 [] sp_lex_Row_1_p [.ptr 1 0, .ptr 2 0] 5 (.ifc 28 (.agg [.v (.int .i64) x3, .v (.int .i64) x4])) [(1, .var 26 [.v (.sl (.pr (.int .i64) (.pr (.int .i64) (.pr (.int .i64) (.pr .str .bool))))) x0]), (2, .var 28 [.v (.int .i64) x1, .v (.int .i64) x2])] (wrap_lex_Row_1_p K) = F_lex_Row_1_p k x0 x1 x2 x3 x4 K := by
  exact A_lex_Row_1_p_eq k (fun _ _ => none) x0 x1 x2 x3 x4 K
noncomputable def run_lex_Row_1_p (k : Nat) {R : Type} : PV → List PV → List (Nm × HObj) → (Out → Option R) → Option R
  | .ifc 28 (.agg [.v (.int .i64) x3, .v (.int .i64) x4]), [.ptr 1 0, .ptr 2 0], [(1, .var 26 [.v (.sl (.pr (.int .i64) (.pr (.int .i64) (.pr (.int .i64) (.pr .str .bool))))) x0]), (2, .var 28 [.v (.int .i64) x1, .v (.int .i64) x2])], K => F_lex_Row_1_p k x0 x1 x2 x3 x4 (fun y0 y1 y2 => K (.ret [] [(1, .var 26 [.v (.sl (.pr (.int .i64) (.pr (.int .i64) (.pr (.int .i64) (.pr .str .bool))))) y0]), (2, .var 28 [.v (.int .i64) y1, .v (.int .i64) y2])]))
  | _, _, _, _ => none
theorem C_lex_Row_1_p_ok (k : Nat) : (C_lex_Row_1_p k).Ok Tryd.prog := by
  intro f ps hp R K r h
  unfold C_lex_Row_1_p at h
  simp only at h
  cases h
theorem DD_lex_Row_1_p (k : Nat) {rec : PV} {ps : List PV} {hp : List (Nm × HObj)} {R : Type} {K : Out → Option R} {r : R} (h : run_lex_Row_1_p k rec ps hp K = some r) : DoesToD Tryd.prog 10 rec ps hp fun out => K out = some r := by
  unfold run_lex_Row_1_p at h
  split at h
  · rw [← F_lex_Row_1_p_eq] at h
    have := fnCK_ok (P := Tryd.prog) (cx := cx_lex_Row_1_p k) (f := 10) ⟨tyT_ok, C_lex_Row_1_p_ok k⟩ (by kernel_rfl) (fn := Tryd.f10) (id := 0) (ops := opsAt (at_ [0] code_lex_Row_1_p)) (c := at_ [1] code_lex_Row_1_p) (by kernel_rfl) (by kernel_rfl) (by kernel_rfl) (rs := []) (by kernel_rfl) (by kernel_rfl) h
    exact this.mono fun out ho => by
      unfold wrap_lex_Row_1_p at ho
      split at ho <;> first | exact ho | cases ho
  · cases h
end Go.Proofs.YtfbagjjnfpgjkaaDoor.Pvm

set_option maxRecDepth 1000000
set_option maxHeartbeats 0
set_option linter.unusedVariables false
namespace Go.Proofs.YtfbagjjnfpgjkaaDoor.Pvm
open Go Go.Proofs
def sig_slite_HasPrefix : List LS := [.any, .any]
noncomputable def C_slite_HasPrefix (k : Nat) : CTab := ⟨fun f => [], fun f {_} ps hp K => none⟩
def wrap_slite_HasPrefix {R : Type} (K : (Bool → Option R)) : Out → Option R
  | .ret [.v .bool y0] [] => K y0
  | _ => none
def sp_slite_HasPrefix : RetSpec := ⟨[.any], [], []⟩
def cuts_slite_HasPrefix : List (Nat × CutSpec) := []
def plans_slite_HasPrefix : List (Nat × Plan) := []
noncomputable def cx_slite_HasPrefix (k : Nat) : Ctx := ⟨tyT, cuts_slite_HasPrefix, C_slite_HasPrefix k, [], [], plans_slite_HasPrefix⟩
noncomputable def code_slite_HasPrefix : Code := Tryd.f42.body.getD .skip
noncomputable def A_slite_HasPrefix (k : Nat) {R : Type}  (x0 : (List UInt8)) (x1 : (List UInt8)) (K : (Bool → Option R)) : Option R := (@cond (@Option R) (@Bool.or (@Bool.not (@BEq.beq (@Kd.T @Kd.bool) (@instBEqOfDecidableEq (@Kd.T @Kd.bool) @instDecidableEqBool) (@Decidable.decide (@GE.ge @Int @Int.instLEInt (@Nat.cast @Int @instNatCastInt (@List.length @UInt8 x0)) (@Nat.cast @Int @instNatCastInt (@List.length @UInt8 x1))) (@Int.decLe (@Nat.cast @Int @instNatCastInt (@List.length @UInt8 x1)) (@Nat.cast @Int @instNatCastInt (@List.length @UInt8 x0)))) @Bool.true)) (@bnd (0 : @Int) (@Nat.cast @Int @instNatCastInt (@List.length @UInt8 x1)) (@Nat.cast @Int @instNatCastInt (@List.length @UInt8 x0)))) (K (@cond (@Kd.T @Kd.bool) (@Decidable.decide (@GE.ge @Int @Int.instLEInt (@Nat.cast @Int @instNatCastInt (@List.length @UInt8 x0)) (@Nat.cast @Int @instNatCastInt (@List.length @UInt8 x1))) (@Int.decLe (@Nat.cast @Int @instNatCastInt (@List.length @UInt8 x1)) (@Nat.cast @Int @instNatCastInt (@List.length @UInt8 x0)))) (@BEq.beq (@List @UInt8) (@List.instBEq @UInt8 (@instBEqOfDecidableEq @UInt8 @instDecidableEqUInt8)) (@cut @UInt8 x0 (0 : @Int) (@Nat.cast @Int @instNatCastInt (@List.length @UInt8 x1))) x1) @Bool.false)) (@Option.none R))
theorem A_slite_HasPrefix_eq (k : Nat) {R : Type} (I : Nat → St → Option R) (x0 : (List UInt8)) (x1 : (List UInt8)) (K : (Bool → Option R)) : fnK (cx_slite_HasPrefix k) k code_slite_HasPrefix 18 [.tmp 4] sp_slite_HasPrefix [.v .str x0, .v .str x1] [] (wrap_slite_HasPrefix K) = A_slite_HasPrefix k  x0 x1 K := by kernel_rfl
noncomputable def F_slite_HasPrefix (k : Nat) {R : Type} (x0 : (List UInt8)) (x1 : (List UInt8)) (K : (Bool → Option R)) : Option R := A_slite_HasPrefix k  x0 x1 K
theorem F_slite_HasPrefix_eq (k : Nat) {R : Type} (x0 : (List UInt8)) (x1 : (List UInt8)) (K : (Bool → Option R)) : fnK (cx_slite_HasPrefix k) k code_slite_HasPrefix 18 [.tmp 4] sp_slite_HasPrefix [.v .str x0, .v .str x1] [] (wrap_slite_HasPrefix K) = F_slite_HasPrefix k x0 x1 K := by
  exact A_slite_HasPrefix_eq k (fun _ _ => none) x0 x1 K
noncomputable def run_slite_HasPrefix (k : Nat) {R : Type} : List PV → List (Nm × HObj) → (Out → Option R) → Option R
  | [.v .str x0, .v .str x1], [], K => F_slite_HasPrefix k x0 x1 (fun y0 => K (.ret [.v .bool y0] []))
  | _, _, _ => none
theorem C_slite_HasPrefix_ok (k : Nat) : (C_slite_HasPrefix k).Ok Tryd.prog := by
  intro f ps hp R K r h
  unfold C_slite_HasPrefix at h
  simp only at h
  cases h
theorem D_slite_HasPrefix (k : Nat) {ps : List PV} {hp : List (Nm × HObj)} {R : Type} {K : Out → Option R} {r : R} (h : run_slite_HasPrefix k ps hp K = some r) : DoesTo Tryd.prog 42 ps hp fun out => K out = some r := by
  unfold run_slite_HasPrefix at h
  split at h
  · rw [← F_slite_HasPrefix_eq] at h
    have := fn_ok (P := Tryd.prog) (cx := cx_slite_HasPrefix k) (f := 42) ⟨tyT_ok, C_slite_HasPrefix_ok k⟩ (by kernel_rfl) (fn := Tryd.f42) (c := code_slite_HasPrefix) (by kernel_rfl) (by kernel_rfl) (by kernel_rfl) (rs := [.tmp 4]) (by kernel_rfl) (by kernel_rfl) h
    exact this.mono fun out ho => by
      unfold wrap_slite_HasPrefix at ho
      split at ho <;> first | exact ho | cases ho
  · cases h
end Go.Proofs.YtfbagjjnfpgjkaaDoor.Pvm

set_option maxRecDepth 1000000
set_option maxHeartbeats 0
set_option linter.unusedVariables false
namespace Go.Proofs.YtfbagjjnfpgjkaaDoor.Pvm
open Go Go.Proofs
def sig_strings_HasPrefix : List LS := [.any, .any]
noncomputable def C_strings_HasPrefix (k : Nat) : CTab := ⟨fun f => bif Nat.beq f 42 then sig_slite_HasPrefix else [], fun f {_} ps hp K => bif Nat.beq f 42 then run_slite_HasPrefix k ps hp K else none⟩
def wrap_strings_HasPrefix {R : Type} (K : (Bool → Option R)) : Out → Option R
  | .ret [.v .bool y0] [] => K y0
  | _ => none
def sp_strings_HasPrefix : RetSpec := ⟨[.any], [], []⟩
def cuts_strings_HasPrefix : List (Nat × CutSpec) := []
def plans_strings_HasPrefix : List (Nat × Plan) := []
noncomputable def cx_strings_HasPrefix (k : Nat) : Ctx := ⟨tyT, cuts_strings_HasPrefix, C_strings_HasPrefix k, [], [], plans_strings_HasPrefix⟩
noncomputable def code_strings_HasPrefix : Code := Tryd.f30.body.getD .skip
noncomputable def A_strings_HasPrefix (k : Nat) {R : Type}  (x0 : (List UInt8)) (x1 : (List UInt8)) (K : (Bool → Option R)) : Option R := (@F_slite_HasPrefix k R x0 x1 (fun (y5 : @Bool) => (K y5)))
theorem A_strings_HasPrefix_eq (k : Nat) {R : Type} (I : Nat → St → Option R) (x0 : (List UInt8)) (x1 : (List UInt8)) (K : (Bool → Option R)) : fnK (cx_strings_HasPrefix k) k code_strings_HasPrefix 8 [.tmp 4] sp_strings_HasPrefix [.v .str x0, .v .str x1] [] (wrap_strings_HasPrefix K) = A_strings_HasPrefix k  x0 x1 K := by kernel_rfl
noncomputable def F_strings_HasPrefix (k : Nat) {R : Type} (x0 : (List UInt8)) (x1 : (List UInt8)) (K : (Bool → Option R)) : Option R := A_strings_HasPrefix k  x0 x1 K
theorem F_strings_HasPrefix_eq (k : Nat) {R : Type} (x0 : (List UInt8)) (x1 : (List UInt8)) (K : (Bool → Option R)) : fnK (cx_strings_HasPrefix k) k code_strings_HasPrefix 8 [.tmp 4] sp_strings_HasPrefix [.v .str x0, .v .str x1] [] (wrap_strings_HasPrefix K) = F_strings_HasPrefix k x0 x1 K := by
  exact A_strings_HasPrefix_eq k (fun _ _ => none) x0 x1 K
noncomputable def run_strings_HasPrefix (k : Nat) {R : Type} : List PV → List (Nm × HObj) → (Out → Option R) → Option R
  | [.v .str x0, .v .str x1], [], K => F_strings_HasPrefix k x0 x1 (fun y0 => K (.ret [.v .bool y0] []))
  | _, _, _ => none
theorem C_strings_HasPrefix_ok (k : Nat) : (C_strings_HasPrefix k).Ok Tryd.prog := by
  intro f ps hp R K r h
  unfold C_strings_HasPrefix at h
  simp only at h
  cases hb42 : Nat.beq f 42 with
  | true => rw [hb42, cond_true] at h; rw [Nat.eq_of_beq_eq_true hb42]; exact D_slite_HasPrefix k h
  | false =>
  rw [hb42, cond_false] at h
  cases h
theorem D_strings_HasPrefix (k : Nat) {ps : List PV} {hp : List (Nm × HObj)} {R : Type} {K : Out → Option R} {r : R} (h : run_strings_HasPrefix k ps hp K = some r) : DoesTo Tryd.prog 30 ps hp fun out => K out = some r := by
  unfold run_strings_HasPrefix at h
  split at h
  · rw [← F_strings_HasPrefix_eq] at h
    have := fn_ok (P := Tryd.prog) (cx := cx_strings_HasPrefix k) (f := 30) ⟨tyT_ok, C_strings_HasPrefix_ok k⟩ (by kernel_rfl) (fn := Tryd.f30) (c := code_strings_HasPrefix) (by kernel_rfl) (by kernel_rfl) (by kernel_rfl) (rs := [.tmp 4]) (by kernel_rfl) (by kernel_rfl) h
    exact this.mono fun out ho => by
      unfold wrap_strings_HasPrefix at ho
      split at ho <;> first | exact ho | cases ho
  · cases h
end Go.Proofs.YtfbagjjnfpgjkaaDoor.Pvm

set_option maxRecDepth 1000000
set_option maxHeartbeats 0
set_option linter.unusedVariables false
namespace Go.Proofs.YtfbagjjnfpgjkaaDoor.Pvm
open Go Go.Proofs
def sig_lex_dash : List LS := [.any]
noncomputable def C_lex_dash (k : Nat) : CTab := ⟨fun f => bif Nat.beq f 30 then sig_strings_HasPrefix else [], fun f {_} ps hp K => bif Nat.beq f 30 then run_strings_HasPrefix k ps hp K else none⟩
def wrap_lex_dash {R : Type} (K : (Bool → Option R)) : Out → Option R
  | .ret [.v .bool y0] [] => K y0
  | _ => none
def sp_lex_dash : RetSpec := ⟨[.any], [], []⟩
def cuts_lex_dash : List (Nat × CutSpec) := []
def plans_lex_dash : List (Nat × Plan) := []
noncomputable def cx_lex_dash (k : Nat) : Ctx := ⟨tyT, cuts_lex_dash, C_lex_dash k, [], [], plans_lex_dash⟩
noncomputable def code_lex_dash : Code := Tryd.f20.body.getD .skip
noncomputable def A_lex_dash (k : Nat) {R : Type}  (x0 : (List UInt8)) (K : (Bool → Option R)) : Option R := (@cond (@Option R) (@BEq.beq (@Kd.T @Kd.bool) (@instBEqOfDecidableEq (@Kd.T @Kd.bool) @instDecidableEqBool) (@BEq.beq (@List @UInt8) (@List.instBEq @UInt8 (@instBEqOfDecidableEq @UInt8 @instDecidableEqUInt8)) x0 (@List.cons @UInt8 (45 : @UInt8) (@List.nil @UInt8))) @Bool.false) (@F_strings_HasPrefix k R x0 (@List.cons @UInt8 (45 : @UInt8) (@List.cons @UInt8 (32 : @UInt8) (@List.nil @UInt8))) (fun (y4 : @Bool) => (K y4))) (K @Bool.true))
theorem A_lex_dash_eq (k : Nat) {R : Type} (I : Nat → St → Option R) (x0 : (List UInt8)) (K : (Bool → Option R)) : fnK (cx_lex_dash k) k code_lex_dash 9 [.tmp 2] sp_lex_dash [.v .str x0] [] (wrap_lex_dash K) = A_lex_dash k  x0 K := by kernel_rfl
noncomputable def F_lex_dash (k : Nat) {R : Type} (x0 : (List UInt8)) (K : (Bool → Option R)) : Option R := A_lex_dash k  x0 K
theorem F_lex_dash_eq (k : Nat) {R : Type} (x0 : (List UInt8)) (K : (Bool → Option R)) : fnK (cx_lex_dash k) k code_lex_dash 9 [.tmp 2] sp_lex_dash [.v .str x0] [] (wrap_lex_dash K) = F_lex_dash k x0 K := by
  exact A_lex_dash_eq k (fun _ _ => none) x0 K
noncomputable def run_lex_dash (k : Nat) {R : Type} : List PV → List (Nm × HObj) → (Out → Option R) → Option R
  | [.v .str x0], [], K => F_lex_dash k x0 (fun y0 => K (.ret [.v .bool y0] []))
  | _, _, _ => none
theorem C_lex_dash_ok (k : Nat) : (C_lex_dash k).Ok Tryd.prog := by
  intro f ps hp R K r h
  unfold C_lex_dash at h
  simp only at h
  cases hb30 : Nat.beq f 30 with
  | true => rw [hb30, cond_true] at h; rw [Nat.eq_of_beq_eq_true hb30]; exact D_strings_HasPrefix k h
  | false =>
  rw [hb30, cond_false] at h
  cases h
theorem D_lex_dash (k : Nat) {ps : List PV} {hp : List (Nm × HObj)} {R : Type} {K : Out → Option R} {r : R} (h : run_lex_dash k ps hp K = some r) : DoesTo Tryd.prog 20 ps hp fun out => K out = some r := by
  unfold run_lex_dash at h
  split at h
  · rw [← F_lex_dash_eq] at h
    have := fn_ok (P := Tryd.prog) (cx := cx_lex_dash k) (f := 20) ⟨tyT_ok, C_lex_dash_ok k⟩ (by kernel_rfl) (fn := Tryd.f20) (c := code_lex_dash) (by kernel_rfl) (by kernel_rfl) (by kernel_rfl) (rs := [.tmp 2]) (by kernel_rfl) (by kernel_rfl) h
    exact this.mono fun out ho => by
      unfold wrap_lex_dash at ho
      split at ho <;> first | exact ho | cases ho
  · cases h
end Go.Proofs.YtfbagjjnfpgjkaaDoor.Pvm

set_option maxRecDepth 1000000
set_option maxHeartbeats 0
set_option linter.unusedVariables false
namespace Go.Proofs.YtfbagjjnfpgjkaaDoor.Pvm
open Go Go.Proofs
def sig_lex_sign : List LS := [.any]
noncomputable def C_lex_sign (k : Nat) : CTab := ⟨fun f => [], fun f {_} ps hp K => none⟩
def wrap_lex_sign {R : Type} (K : (Bool → Option R)) : Out → Option R
  | .ret [.v .bool y0] [] => K y0
  | _ => none
def sp_lex_sign : RetSpec := ⟨[.any], [], []⟩
def cuts_lex_sign : List (Nat × CutSpec) := []
def plans_lex_sign : List (Nat × Plan) := []
noncomputable def cx_lex_sign (k : Nat) : Ctx := ⟨tyT, cuts_lex_sign, C_lex_sign k, [], [], plans_lex_sign⟩
noncomputable def code_lex_sign : Code := Tryd.f44.body.getD .skip
noncomputable def A_lex_sign (k : Nat) {R : Type}  (x0 : Int) (K : (Bool → Option R)) : Option R := (K (@cond (@Kd.T @Kd.bool) (@cond (@Kd.T @Kd.bool) (@cond (@Kd.T @Kd.bool) (@cond (@Kd.T @Kd.bool) (@cond (@Kd.T @Kd.bool) (@cond (@Kd.T @Kd.bool) (@Decidable.decide (@GE.ge @Int @Int.instLEInt x0 (97 : @Int)) (@Int.decLe (97 : @Int) x0)) (@Decidable.decide (@LE.le @Int @Int.instLEInt x0 (122 : @Int)) (@Int.decLe x0 (122 : @Int))) @Bool.false) @Bool.true (@cond (@Kd.T @Kd.bool) (@Decidable.decide (@GE.ge @Int @Int.instLEInt x0 (65 : @Int)) (@Int.decLe (65 : @Int) x0)) (@Decidable.decide (@LE.le @Int @Int.instLEInt x0 (90 : @Int)) (@Int.decLe x0 (90 : @Int))) @Bool.false)) @Bool.true (@cond (@Kd.T @Kd.bool) (@Decidable.decide (@GE.ge @Int @Int.instLEInt x0 (48 : @Int)) (@Int.decLe (48 : @Int) x0)) (@Decidable.decide (@LE.le @Int @Int.instLEInt x0 (57 : @Int)) (@Int.decLe x0 (57 : @Int))) @Bool.false)) @Bool.true (@BEq.beq @Int (@instBEqOfDecidableEq @Int @Int.instDecidableEq) x0 (95 : @Int))) @Bool.true (@BEq.beq @Int (@instBEqOfDecidableEq @Int @Int.instDecidableEq) x0 (45 : @Int))) @Bool.true (@BEq.beq @Int (@instBEqOfDecidableEq @Int @Int.instDecidableEq) x0 (46 : @Int))))
theorem A_lex_sign_eq (k : Nat) {R : Type} (I : Nat → St → Option R) (x0 : Int) (K : (Bool → Option R)) : fnK (cx_lex_sign k) k code_lex_sign 37 [.tmp 2] sp_lex_sign [.v (.int .u8) x0] [] (wrap_lex_sign K) = A_lex_sign k  x0 K := by kernel_rfl
noncomputable def F_lex_sign (k : Nat) {R : Type} (x0 : Int) (K : (Bool → Option R)) : Option R := A_lex_sign k  x0 K
theorem F_lex_sign_eq (k : Nat) {R : Type} (x0 : Int) (K : (Bool → Option R)) : fnK (cx_lex_sign k) k code_lex_sign 37 [.tmp 2] sp_lex_sign [.v (.int .u8) x0] [] (wrap_lex_sign K) = F_lex_sign k x0 K := by
  exact A_lex_sign_eq k (fun _ _ => none) x0 K
noncomputable def run_lex_sign (k : Nat) {R : Type} : List PV → List (Nm × HObj) → (Out → Option R) → Option R
  | [.v (.int .u8) x0], [], K => F_lex_sign k x0 (fun y0 => K (.ret [.v .bool y0] []))
  | _, _, _ => none
theorem C_lex_sign_ok (k : Nat) : (C_lex_sign k).Ok Tryd.prog := by
  intro f ps hp R K r h
  unfold C_lex_sign at h
  simp only at h
  cases h
theorem D_lex_sign (k : Nat) {ps : List PV} {hp : List (Nm × HObj)} {R : Type} {K : Out → Option R} {r : R} (h : run_lex_sign k ps hp K = some r) : DoesTo Tryd.prog 44 ps hp fun out => K out = some r := by
  unfold run_lex_sign at h
  split at h
  · rw [← F_lex_sign_eq] at h
    have := fn_ok (P := Tryd.prog) (cx := cx_lex_sign k) (f := 44) ⟨tyT_ok, C_lex_sign_ok k⟩ (by kernel_rfl) (fn := Tryd.f44) (c := code_lex_sign) (by kernel_rfl) (by kernel_rfl) (by kernel_rfl) (rs := [.tmp 2]) (by kernel_rfl) (by kernel_rfl) h
    exact this.mono fun out ho => by
      unfold wrap_lex_sign at ho
      split at ho <;> first | exact ho | cases ho
  · cases h
end Go.Proofs.YtfbagjjnfpgjkaaDoor.Pvm

set_option maxRecDepth 1000000
set_option maxHeartbeats 0
set_option linter.unusedVariables false
namespace Go.Proofs.YtfbagjjnfpgjkaaDoor.Pvm
open Go Go.Proofs
def sig_lex_Signs : List LS := [.any]
noncomputable def C_lex_Signs (k : Nat) : CTab := ⟨fun f => bif Nat.beq f 44 then sig_lex_sign else [], fun f {_} ps hp K => bif Nat.beq f 44 then run_lex_sign k ps hp K else none⟩
def wrap_lex_Signs {R : Type} (K : (Bool → Option R)) : Out → Option R
  | .ret [.v .bool y0] [] => K y0
  | _ => none
def sp_lex_Signs : RetSpec := ⟨[.any], [], []⟩
def cuts_lex_Signs : List (Nat × CutSpec) := [(1002, ⟨[(0, .any), (5, .any), (6, .any)], []⟩)]
def plans_lex_Signs : List (Nat × Plan) := []
noncomputable def cx_lex_Signs (k : Nat) : Ctx := ⟨tyT, cuts_lex_Signs, C_lex_Signs k, [], [], plans_lex_Signs⟩
noncomputable def code_lex_Signs : Code := Tryd.f32.body.getD .skip
def st_lex_Signs_1002 (s0 : (List UInt8)) (s1 : Int) (s2 : Int) : St := ⟨mkT [(0, .v .str s0), (5, .v (.int .i64) s1), (6, .v (.int .i64) s2)], mkH []⟩
noncomputable def B_lex_Signs_1002 (k : Nat) {R : Type} (E1002 : ((List UInt8) → Int → Int → Option R)) (s0 : (List UInt8)) (s1 : Int) (s2 : Int) (K : (Bool → Option R)) : Option R := (@cond (@Option R) (@Decidable.decide (@LT.lt @Int @Int.instLTInt s2 s1) (@Int.decLt s2 s1)) (@cond (@Option R) (@inb s2 (@Nat.cast @Int @instNatCastInt (@List.length @UInt8 s0))) (@F_lex_sign k R (@Nat.cast @Int @instNatCastInt (@UInt8.toNat (@List.getD @UInt8 s0 (@Int.toNat s2) (0 : @UInt8)))) (fun (y7 : @Bool) => (@cond (@Option R) (@Bool.not y7) (K @Bool.false) (E1002 s0 s1 (@Go.IntKind.wrap @Go.IntKind.i64 (@HAdd.hAdd @Int @Int @Int (@instHAdd @Int @Int.instAdd) s2 (1 : @Int))))))) (@Option.none R)) (K (@Bool.not (@BEq.beq (@List @UInt8) (@List.instBEq @UInt8 (@instBEqOfDecidableEq @UInt8 @instDecidableEqUInt8)) s0 (@List.nil @UInt8)))))
theorem B_lex_Signs_1002_eq (k : Nat) {R : Type} (I : Nat → St → Option R) (s0 : (List UInt8)) (s1 : Int) (s2 : Int) (K : (Bool → Option R)) : execK (cx_lex_Signs k) k (at_ [1, 0, 1, 0, 0] code_lex_Signs) (st_lex_Signs_1002 s0 s1 s2) (konts (cx_lex_Signs k) k I [1, 0, 1, 0, 0] code_lex_Signs (outK (cx_lex_Signs k) sp_lex_Signs [.tmp 2] (wrap_lex_Signs K))) = B_lex_Signs_1002 k (fun s0 s1 s2 => I 1002 (st_lex_Signs_1002 s0 s1 s2)) s0 s1 s2 K := by kernel_rfl
noncomputable def A_lex_Signs (k : Nat) {R : Type} (E1002 : ((List UInt8) → Int → Int → Option R)) (x0 : (List UInt8)) (K : (Bool → Option R)) : Option R := (E1002 x0 (@Nat.cast @Int @instNatCastInt (@List.length @UInt8 x0)) (0 : @Int))
theorem A_lex_Signs_eq (k : Nat) {R : Type} (I : Nat → St → Option R) (x0 : (List UInt8)) (K : (Bool → Option R)) : fnK (cx_lex_Signs k) k code_lex_Signs 17 [.tmp 2] sp_lex_Signs [.v .str x0] [] (wrap_lex_Signs K) = A_lex_Signs k (fun s0 s1 s2 => iter (cx_lex_Signs k).pv (look (cx_lex_Signs k).cuts 1002) (execK (cx_lex_Signs k) k (at_ [1, 0, 1, 0, 0] code_lex_Signs)) k (st_lex_Signs_1002 s0 s1 s2) (konts (cx_lex_Signs k) k I [1, 0, 1, 0] code_lex_Signs (outK (cx_lex_Signs k) sp_lex_Signs [.tmp 2] (wrap_lex_Signs K)))) x0 K := by kernel_rfl
noncomputable def L_lex_Signs_1002 (k : Nat) {R : Type}  : Nat → (List UInt8) → Int → Int → (Bool → Option R) → Option R
  | 0, _, _, _, _ => none
  | n + 1, s0, s1, s2, K => B_lex_Signs_1002 k (fun s0 s1 s2 => L_lex_Signs_1002 k  n s0 s1 s2 K) s0 s1 s2 K
theorem L_lex_Signs_1002_eq (k : Nat) {R : Type} (I : Nat → St → Option R) (K : (Bool → Option R)) : ∀ (n : Nat) (s0 : (List UInt8)) (s1 : Int) (s2 : Int), iter (cx_lex_Signs k).pv (look (cx_lex_Signs k).cuts 1002) (execK (cx_lex_Signs k) k (at_ [1, 0, 1, 0, 0] code_lex_Signs)) n (st_lex_Signs_1002 s0 s1 s2) (konts (cx_lex_Signs k) k I [1, 0, 1, 0] code_lex_Signs (outK (cx_lex_Signs k) sp_lex_Signs [.tmp 2] (wrap_lex_Signs K))) = L_lex_Signs_1002 k  n s0 s1 s2 K := by
  intro n
  induction n with
  | zero => intros; rfl
  | succ n ih =>
    intro s0 s1 s2
    let I' : Nat → St → Option R := fun id s => bif Nat.beq id 1002 then iter (cx_lex_Signs k).pv (look (cx_lex_Signs k).cuts 1002) (execK (cx_lex_Signs k) k (at_ [1, 0, 1, 0, 0] code_lex_Signs)) n s (konts (cx_lex_Signs k) k I [1, 0, 1, 0] code_lex_Signs (outK (cx_lex_Signs k) sp_lex_Signs [.tmp 2] (wrap_lex_Signs K))) else I id s
    have e := B_lex_Signs_1002_eq k I' s0 s1 s2 K
    have h1002 : (fun s0 s1 s2 => I' 1002 (st_lex_Signs_1002 s0 s1 s2)) = (fun s0 s1 s2 => L_lex_Signs_1002 k  n s0 s1 s2 K) := by funext s0 s1 s2; exact ih s0 s1 s2
    refine Eq.trans (?_ : _ = _) (e.trans (Eq.trans ((congrArg ((fun E1002 => B_lex_Signs_1002 k E1002 s0 s1 s2 K)) h1002)) (by rw [L_lex_Signs_1002])))
    rfl
noncomputable def F_lex_Signs (k : Nat) {R : Type} (x0 : (List UInt8)) (K : (Bool → Option R)) : Option R := A_lex_Signs k (fun s0 s1 s2 => L_lex_Signs_1002 k k s0 s1 s2 K) x0 K
theorem F_lex_Signs_eq (k : Nat) {R : Type} (x0 : (List UInt8)) (K : (Bool → Option R)) : fnK (cx_lex_Signs k) k code_lex_Signs 17 [.tmp 2] sp_lex_Signs [.v .str x0] [] (wrap_lex_Signs K) = F_lex_Signs k x0 K := by
  let I : Nat → St → Option R := fun _ _ => none
  have h1002 : (fun s0 s1 s2 => iter (cx_lex_Signs k).pv (look (cx_lex_Signs k).cuts 1002) (execK (cx_lex_Signs k) k (at_ [1, 0, 1, 0, 0] code_lex_Signs)) k (st_lex_Signs_1002 s0 s1 s2) (konts (cx_lex_Signs k) k I [1, 0, 1, 0] code_lex_Signs (outK (cx_lex_Signs k) sp_lex_Signs [.tmp 2] (wrap_lex_Signs K)))) = (fun s0 s1 s2 => L_lex_Signs_1002 k k s0 s1 s2 K) := by funext s0 s1 s2; exact L_lex_Signs_1002_eq k I K k s0 s1 s2
  exact (A_lex_Signs_eq k I x0 K).trans (congrArg ((fun E1002 => A_lex_Signs k E1002 x0 K)) h1002)
noncomputable def run_lex_Signs (k : Nat) {R : Type} : List PV → List (Nm × HObj) → (Out → Option R) → Option R
  | [.v .str x0], [], K => F_lex_Signs k x0 (fun y0 => K (.ret [.v .bool y0] []))
  | _, _, _ => none
theorem C_lex_Signs_ok (k : Nat) : (C_lex_Signs k).Ok Tryd.prog := by
  intro f ps hp R K r h
  unfold C_lex_Signs at h
  simp only at h
  cases hb44 : Nat.beq f 44 with
  | true => rw [hb44, cond_true] at h; rw [Nat.eq_of_beq_eq_true hb44]; exact D_lex_sign k h
  | false =>
  rw [hb44, cond_false] at h
  cases h
theorem D_lex_Signs (k : Nat) {ps : List PV} {hp : List (Nm × HObj)} {R : Type} {K : Out → Option R} {r : R} (h : run_lex_Signs k ps hp K = some r) : DoesTo Tryd.prog 32 ps hp fun out => K out = some r := by
  unfold run_lex_Signs at h
  split at h
  · rw [← F_lex_Signs_eq] at h
    have := fn_ok (P := Tryd.prog) (cx := cx_lex_Signs k) (f := 32) ⟨tyT_ok, C_lex_Signs_ok k⟩ (by kernel_rfl) (fn := Tryd.f32) (c := code_lex_Signs) (by kernel_rfl) (by kernel_rfl) (by kernel_rfl) (rs := [.tmp 2]) (by kernel_rfl) (by kernel_rfl) h
    exact this.mono fun out ho => by
      unfold wrap_lex_Signs at ho
      split at ho <;> first | exact ho | cases ho
  · cases h
end Go.Proofs.YtfbagjjnfpgjkaaDoor.Pvm

set_option maxRecDepth 1000000
set_option linter.unusedVariables false
namespace Go.Proofs.YtfbagjjnfpgjkaaDoor.Pvm
open Go Go.Proofs
def idxByte (s : List UInt8) (c : Int) : Int :=
  match (List.range s.length).find? fun i => s.getD i 0 == UInt8.ofNat c.toNat with
  | some i => (i : Int)
  | none => -1
theorem run_idxByte {P : Program} (x0 : List UInt8) (x1 : Int) (w : World) : (Go.Extern.BytealgIndexByte.indexByte #[.string ⟨x0.toArray⟩, .int .u8 x1]).run P w = .ok (.int .i64 (idxByte x0 x1)) w := by
  have e5 : (Go.Extern.BytealgIndexByte.indexByte #[.string ⟨x0.toArray⟩, .int .u8 x1]).run P w = (match (List.range (ByteArray.mk x0.toArray).size).find? fun i => (ByteArray.mk x0.toArray)[i]! == x1.toNat.toUInt8 with
    | some i => (pure (goInt i) : Sem Value)
    | none => pure (goInt (-1))).run P w := rfl
  rw [e5]
  unfold idxByte
  have e6 : (ByteArray.mk x0.toArray).size = x0.length := by simp [ByteArray.size]
  have e7 : ∀ i, (ByteArray.mk x0.toArray)[i]! = x0.getD i 0 := by
    intro i
    by_cases hi : i < x0.length
    · rw [getElem!_pos (ByteArray.mk x0.toArray) i (by rw [e6]; exact hi)]
      have : x0.getD i 0 = x0[i] := by simp [List.getD, hi]
      rw [this]; rfl
    · rw [getElem!_neg (ByteArray.mk x0.toArray) i (by rw [e6]; exact hi)]
      have : x0.getD i 0 = 0 := by simp [List.getD, Nat.le_of_not_lt hi]
      rw [this]; rfl
  simp only [e6, e7]
  have e8 : ∀ i, (x0.getD i 0 == x1.toNat.toUInt8) = (x0.getD i 0 == UInt8.ofNat x1.toNat) := fun i => rfl
  simp only [e8]
  cases (List.range x0.length).find? fun i => x0.getD i 0 == UInt8.ofNat x1.toNat with
  | none => rfl
  | some i => rfl
def sig_balg_IndexByteString : List LS := [.any, .any]
def F_balg_IndexByteString (k : Nat) {R : Type} (x0 : List UInt8) (x1 : Int) (K : Int → Option R) : Option R := K (idxByte x0 x1)
def run_balg_IndexByteString (k : Nat) {R : Type} : List PV → List (Nm × HObj) → (Out → Option R) → Option R
  | [.v .str x0, .v (.int .u8) x1], [], K => F_balg_IndexByteString k x0 x1 (fun y0 => K (.ret [.v (.int .i64) y0] []))
  | _, _, _ => none
theorem fin_pure {G : Gh} {w : World} : Fin [] [] G w G w :=
  ⟨fun n o h => (by cases h), fun n m b h => (by simp [blkOf, mkH, look] at h), fun n t cs h => (by cases h), fun _ _ _ => rfl, rfl, fun n b h => (by simp [blkOf, mkH, look] at h), Nat.le_refl _, rfl, rfl, rfl⟩
theorem find_balg_IndexByteString : Extern.find Tryd.f47 = some Go.Extern.BytealgIndexByte.indexByte := by kernel_rfl
theorem findNext_balg_IndexByteString : (Extern.findNext Tryd.f47).isNone = true := by kernel_rfl
theorem fn_balg_IndexByteString : Tryd.prog.funcs[47]? = some Tryd.f47 := by kernel_rfl
theorem name_balg_IndexByteString : (Tryd.f47.name == "runtime.NumGoroutine") = false := by kernel_rfl
theorem body_balg_IndexByteString : Tryd.f47.body.isNone = true := by kernel_rfl
theorem D_balg_IndexByteString (k : Nat) {ps : List PV} {hp : List (Nm × HObj)} {R : Type} {K : Out → Option R} {r : R} (h : run_balg_IndexByteString k ps hp K = some r) : DoesTo Tryd.prog 47 ps hp fun out => K out = some r := by
  unfold run_balg_IndexByteString at h
  split at h
  · next x0 x1 =>
    intro G w vals hr obj dis
    obtain ⟨v0, l0, rfl, h0, v1, l1, rfl, h1, rfl⟩ := hr
    have e0 : v0 = .string ⟨x0.toArray⟩ := by simpa [RV, RD] using h0
    have e1 : v1 = .int .u8 x1 := by simpa [RV, RD] using h1
    subst e0 e1
    have hrun : (callFunc 47 #[.string ⟨x0.toArray⟩, .int .u8 x1]).run Tryd.prog w = .ok (.value (.int .i64 (idxByte x0 x1))) w := by
      have hn2 : ¬ Tryd.f47.name = "runtime.NumGoroutine" := by simpa using name_balg_IndexByteString
      have hn3 : Extern.findNext Tryd.f47 = none := by
        cases hq : Extern.findNext Tryd.f47 with
        | none => rfl
        | some e => have := findNext_balg_IndexByteString; rw [hq] at this; cases this
      have e1 : (callFunc 47 #[.string ⟨x0.toArray⟩, .int .u8 x1]).run Tryd.prog w = (Go.Extern.BytealgIndexByte.indexByte #[.string ⟨x0.toArray⟩, .int .u8 x1] >>= fun v => pure (Next.value v)).run Tryd.prog w := by
        unfold callFunc
        rw [Sem.run_bind]
        have e2 : (program).run Tryd.prog w = .ok Tryd.prog w := rfl
        rw [e2, Result.andThen_ok, fn_balg_IndexByteString]
        simp only [name_balg_IndexByteString, body_balg_IndexByteString, if_true, Bool.false_eq_true, if_false]
        rw [Sem.run_bind]
        have e3 : (mark (.extern 47)).run Tryd.prog w = .ok () w := rfl
        rw [e3, Result.andThen_ok, hn3, find_balg_IndexByteString]
      rw [e1]
      have e4 := run_idxByte (P := Tryd.prog) x0 x1 w
      rw [Sem.run_bind, e4]; rfl
    show Does _ _ #[_, _] _ _
    unfold Does
    rw [hrun]
    exact ⟨.ret [.v (.int .i64) (idxByte x0 x1)] [], h, G, ⟨_, rfl, rfl⟩, fin_pure⟩
  · cases h
end Go.Proofs.YtfbagjjnfpgjkaaDoor.Pvm

set_option maxRecDepth 1000000
set_option maxHeartbeats 0
set_option linter.unusedVariables false
namespace Go.Proofs.YtfbagjjnfpgjkaaDoor.Pvm
open Go Go.Proofs
def sig_slite_IndexByte : List LS := [.any, .any]
noncomputable def C_slite_IndexByte (k : Nat) : CTab := ⟨fun f => bif Nat.beq f 47 then sig_balg_IndexByteString else [], fun f {_} ps hp K => bif Nat.beq f 47 then run_balg_IndexByteString k ps hp K else none⟩
def wrap_slite_IndexByte {R : Type} (K : (Int → Option R)) : Out → Option R
  | .ret [.v (.int .i64) y0] [] => K y0
  | _ => none
def sp_slite_IndexByte : RetSpec := ⟨[.any], [], []⟩
def cuts_slite_IndexByte : List (Nat × CutSpec) := []
def plans_slite_IndexByte : List (Nat × Plan) := []
noncomputable def cx_slite_IndexByte (k : Nat) : Ctx := ⟨tyT, cuts_slite_IndexByte, C_slite_IndexByte k, [], [], plans_slite_IndexByte⟩
noncomputable def code_slite_IndexByte : Code := Tryd.f38.body.getD .skip
noncomputable def A_slite_IndexByte (k : Nat) {R : Type}  (x0 : (List UInt8)) (x1 : Int) (K : (Int → Option R)) : Option R := (@F_balg_IndexByteString k R x0 x1 (fun (y5 : @Int) => (K y5)))
theorem A_slite_IndexByte_eq (k : Nat) {R : Type} (I : Nat → St → Option R) (x0 : (List UInt8)) (x1 : Int) (K : (Int → Option R)) : fnK (cx_slite_IndexByte k) k code_slite_IndexByte 8 [.tmp 4] sp_slite_IndexByte [.v .str x0, .v (.int .u8) x1] [] (wrap_slite_IndexByte K) = A_slite_IndexByte k  x0 x1 K := by kernel_rfl
noncomputable def F_slite_IndexByte (k : Nat) {R : Type} (x0 : (List UInt8)) (x1 : Int) (K : (Int → Option R)) : Option R := A_slite_IndexByte k  x0 x1 K
theorem F_slite_IndexByte_eq (k : Nat) {R : Type} (x0 : (List UInt8)) (x1 : Int) (K : (Int → Option R)) : fnK (cx_slite_IndexByte k) k code_slite_IndexByte 8 [.tmp 4] sp_slite_IndexByte [.v .str x0, .v (.int .u8) x1] [] (wrap_slite_IndexByte K) = F_slite_IndexByte k x0 x1 K := by
  exact A_slite_IndexByte_eq k (fun _ _ => none) x0 x1 K
noncomputable def run_slite_IndexByte (k : Nat) {R : Type} : List PV → List (Nm × HObj) → (Out → Option R) → Option R
  | [.v .str x0, .v (.int .u8) x1], [], K => F_slite_IndexByte k x0 x1 (fun y0 => K (.ret [.v (.int .i64) y0] []))
  | _, _, _ => none
theorem C_slite_IndexByte_ok (k : Nat) : (C_slite_IndexByte k).Ok Tryd.prog := by
  intro f ps hp R K r h
  unfold C_slite_IndexByte at h
  simp only at h
  cases hb47 : Nat.beq f 47 with
  | true => rw [hb47, cond_true] at h; rw [Nat.eq_of_beq_eq_true hb47]; exact D_balg_IndexByteString k h
  | false =>
  rw [hb47, cond_false] at h
  cases h
theorem D_slite_IndexByte (k : Nat) {ps : List PV} {hp : List (Nm × HObj)} {R : Type} {K : Out → Option R} {r : R} (h : run_slite_IndexByte k ps hp K = some r) : DoesTo Tryd.prog 38 ps hp fun out => K out = some r := by
  unfold run_slite_IndexByte at h
  split at h
  · rw [← F_slite_IndexByte_eq] at h
    have := fn_ok (P := Tryd.prog) (cx := cx_slite_IndexByte k) (f := 38) ⟨tyT_ok, C_slite_IndexByte_ok k⟩ (by kernel_rfl) (fn := Tryd.f38) (c := code_slite_IndexByte) (by kernel_rfl) (by kernel_rfl) (by kernel_rfl) (rs := [.tmp 4]) (by kernel_rfl) (by kernel_rfl) h
    exact this.mono fun out ho => by
      unfold wrap_slite_IndexByte at ho
      split at ho <;> first | exact ho | cases ho
  · cases h
end Go.Proofs.YtfbagjjnfpgjkaaDoor.Pvm

set_option maxRecDepth 1000000
set_option maxHeartbeats 0
set_option linter.unusedVariables false
namespace Go.Proofs.YtfbagjjnfpgjkaaDoor.Pvm
open Go Go.Proofs
def sig_slite_Index : List LS := [.any, .any]
noncomputable def C_slite_Index (k : Nat) : CTab := ⟨fun f => bif Nat.beq f 38 then sig_slite_IndexByte else [], fun f {_} ps hp K => bif Nat.beq f 38 then run_slite_IndexByte k ps hp K else none⟩
def wrap_slite_Index {R : Type} (K : (Int → Option R)) : Out → Option R
  | .ret [.v (.int .i64) y0] [] => K y0
  | _ => none
def sp_slite_Index : RetSpec := ⟨[.any], [], []⟩
def cuts_slite_Index : List (Nat × CutSpec) := []
def plans_slite_Index : List (Nat × Plan) := []
noncomputable def cx_slite_Index (k : Nat) : Ctx := ⟨tyT, cuts_slite_Index, C_slite_Index k, [], [], plans_slite_Index⟩
noncomputable def code_slite_Index : Code := Tryd.f28.body.getD .skip
noncomputable def A_slite_Index (k : Nat) {R : Type}  (x0 : (List UInt8)) (x1 : UInt8) (K : (Int → Option R)) : Option R := (@cond (@Option R) (@cond (@Kd.T @Kd.bool) (@BEq.beq @Int (@instBEqOfDecidableEq @Int @Int.instDecidableEq) (@Nat.cast @Int @instNatCastInt (@List.length @UInt8 (@List.cons @UInt8 x1 (@List.nil @UInt8)))) (0 : @Int)) @Bool.true (@BEq.beq (@List @UInt8) (@List.instBEq @UInt8 (@instBEqOfDecidableEq @UInt8 @instDecidableEqUInt8)) (@List.cons @UInt8 x1 (@List.nil @UInt8)) x0)) (K (0 : @Int)) (@F_slite_IndexByte k R x0 (@Nat.cast @Int @instNatCastInt (@UInt8.toNat (@List.getD @UInt8 (@List.cons @UInt8 x1 (@List.nil @UInt8)) (@Int.toNat (0 : @Int)) (0 : @UInt8)))) (fun (y5 : @Int) => (K y5))))
theorem A_slite_Index_eq (k : Nat) {R : Type} (I : Nat → St → Option R) (x0 : (List UInt8)) (x1 : UInt8) (K : (Int → Option R)) : fnK (cx_slite_Index k) k code_slite_Index 143 [.tmp 4] sp_slite_Index [.v .str x0, .v .str [x1]] [] (wrap_slite_Index K) = A_slite_Index k  x0 x1 K := by kernel_rfl
noncomputable def F_slite_Index (k : Nat) {R : Type} (x0 : (List UInt8)) (x1 : UInt8) (K : (Int → Option R)) : Option R := A_slite_Index k  x0 x1 K
theorem F_slite_Index_eq (k : Nat) {R : Type} (x0 : (List UInt8)) (x1 : UInt8) (K : (Int → Option R)) : fnK (cx_slite_Index k) k code_slite_Index 143 [.tmp 4] sp_slite_Index [.v .str x0, .v .str [x1]] [] (wrap_slite_Index K) = F_slite_Index k x0 x1 K := by
  exact A_slite_Index_eq k (fun _ _ => none) x0 x1 K
noncomputable def run_slite_Index (k : Nat) {R : Type} : List PV → List (Nm × HObj) → (Out → Option R) → Option R
  | [.v .str x0, .v .str [x1]], [], K => F_slite_Index k x0 x1 (fun y0 => K (.ret [.v (.int .i64) y0] []))
  | _, _, _ => none
theorem C_slite_Index_ok (k : Nat) : (C_slite_Index k).Ok Tryd.prog := by
  intro f ps hp R K r h
  unfold C_slite_Index at h
  simp only at h
  cases hb38 : Nat.beq f 38 with
  | true => rw [hb38, cond_true] at h; rw [Nat.eq_of_beq_eq_true hb38]; exact D_slite_IndexByte k h
  | false =>
  rw [hb38, cond_false] at h
  cases h
theorem D_slite_Index (k : Nat) {ps : List PV} {hp : List (Nm × HObj)} {R : Type} {K : Out → Option R} {r : R} (h : run_slite_Index k ps hp K = some r) : DoesTo Tryd.prog 28 ps hp fun out => K out = some r := by
  unfold run_slite_Index at h
  split at h
  · rw [← F_slite_Index_eq] at h
    have := fn_ok (P := Tryd.prog) (cx := cx_slite_Index k) (f := 28) ⟨tyT_ok, C_slite_Index_ok k⟩ (by kernel_rfl) (fn := Tryd.f28) (c := code_slite_Index) (by kernel_rfl) (by kernel_rfl) (by kernel_rfl) (rs := [.tmp 4]) (by kernel_rfl) (by kernel_rfl) h
    exact this.mono fun out ho => by
      unfold wrap_slite_Index at ho
      split at ho <;> first | exact ho | cases ho
  · cases h
end Go.Proofs.YtfbagjjnfpgjkaaDoor.Pvm

set_option maxRecDepth 1000000
set_option maxHeartbeats 0
set_option linter.unusedVariables false
namespace Go.Proofs.YtfbagjjnfpgjkaaDoor.Pvm
open Go Go.Proofs
def sig_slite_Cut : List LS := [.any, .any]
noncomputable def C_slite_Cut (k : Nat) : CTab := ⟨fun f => bif Nat.beq f 28 then sig_slite_Index else [], fun f {_} ps hp K => bif Nat.beq f 28 then run_slite_Index k ps hp K else none⟩
def wrap_slite_Cut {R : Type} (K : ((List UInt8) → (List UInt8) → Bool → Option R)) : Out → Option R
  | .ret [.v .str y0, .v .str y1, .v .bool y2] [] => K y0 y1 y2
  | _ => none
def sp_slite_Cut : RetSpec := ⟨[.any, .any, .any], [], []⟩
def cuts_slite_Cut : List (Nat × CutSpec) := []
def plans_slite_Cut : List (Nat × Plan) := [(3, (.of [(0, 1), (1, 1), (2, 1), (3, 1), (4, 1), (5, 1), (6, 1), (7, 1), (8, 1), (9, 1), (10, 1), (11, 1)] .done))]
noncomputable def cx_slite_Cut (k : Nat) : Ctx := ⟨tyT, cuts_slite_Cut, C_slite_Cut k, [], [], plans_slite_Cut⟩
noncomputable def code_slite_Cut : Code := Tryd.f43.body.getD .skip
noncomputable def A_slite_Cut (k : Nat) {R : Type}  (x0 : (List UInt8)) (x1 : UInt8) (K : ((List UInt8) → (List UInt8) → Bool → Option R)) : Option R := (@F_slite_Index k R x0 x1 (fun (y5 : @Int) => (@cond (@Option R) (@Decidable.decide (@GE.ge @Int @Int.instLEInt y5 (0 : @Int)) (@Int.decLe (0 : @Int) y5)) (@cond (@Option R) (@bnd (0 : @Int) y5 (@Nat.cast @Int @instNatCastInt (@List.length @UInt8 x0))) (@cond (@Option R) (@bnd (@Go.IntKind.wrap @Go.IntKind.i64 (@HAdd.hAdd @Int @Int @Int (@instHAdd @Int @Int.instAdd) y5 (@Nat.cast @Int @instNatCastInt (@List.length @UInt8 (@List.cons @UInt8 x1 (@List.nil @UInt8)))))) (@Nat.cast @Int @instNatCastInt (@List.length @UInt8 x0)) (@Nat.cast @Int @instNatCastInt (@List.length @UInt8 x0))) (K (@cut @UInt8 x0 (0 : @Int) y5) (@cut @UInt8 x0 (@Go.IntKind.wrap @Go.IntKind.i64 (@HAdd.hAdd @Int @Int @Int (@instHAdd @Int @Int.instAdd) y5 (@Nat.cast @Int @instNatCastInt (@List.length @UInt8 (@List.cons @UInt8 x1 (@List.nil @UInt8)))))) (@Nat.cast @Int @instNatCastInt (@List.length @UInt8 x0))) @Bool.true) (@Option.none R)) (@Option.none R)) (K x0 (@List.nil @UInt8) @Bool.false))))
theorem A_slite_Cut_eq (k : Nat) {R : Type} (I : Nat → St → Option R) (x0 : (List UInt8)) (x1 : UInt8) (K : ((List UInt8) → (List UInt8) → Bool → Option R)) : fnK (cx_slite_Cut k) k code_slite_Cut 23 [.tmp 4, .tmp 5, .tmp 6] sp_slite_Cut [.v .str x0, .v .str [x1]] [] (wrap_slite_Cut K) = A_slite_Cut k  x0 x1 K := by kernel_rfl
noncomputable def F_slite_Cut (k : Nat) {R : Type} (x0 : (List UInt8)) (x1 : UInt8) (K : ((List UInt8) → (List UInt8) → Bool → Option R)) : Option R := A_slite_Cut k  x0 x1 K
theorem F_slite_Cut_eq (k : Nat) {R : Type} (x0 : (List UInt8)) (x1 : UInt8) (K : ((List UInt8) → (List UInt8) → Bool → Option R)) : fnK (cx_slite_Cut k) k code_slite_Cut 23 [.tmp 4, .tmp 5, .tmp 6] sp_slite_Cut [.v .str x0, .v .str [x1]] [] (wrap_slite_Cut K) = F_slite_Cut k x0 x1 K := by
  exact A_slite_Cut_eq k (fun _ _ => none) x0 x1 K
noncomputable def run_slite_Cut (k : Nat) {R : Type} : List PV → List (Nm × HObj) → (Out → Option R) → Option R
  | [.v .str x0, .v .str [x1]], [], K => F_slite_Cut k x0 x1 (fun y0 y1 y2 => K (.ret [.v .str y0, .v .str y1, .v .bool y2] []))
  | _, _, _ => none
theorem C_slite_Cut_ok (k : Nat) : (C_slite_Cut k).Ok Tryd.prog := by
  intro f ps hp R K r h
  unfold C_slite_Cut at h
  simp only at h
  cases hb28 : Nat.beq f 28 with
  | true => rw [hb28, cond_true] at h; rw [Nat.eq_of_beq_eq_true hb28]; exact D_slite_Index k h
  | false =>
  rw [hb28, cond_false] at h
  cases h
theorem D_slite_Cut (k : Nat) {ps : List PV} {hp : List (Nm × HObj)} {R : Type} {K : Out → Option R} {r : R} (h : run_slite_Cut k ps hp K = some r) : DoesTo Tryd.prog 43 ps hp fun out => K out = some r := by
  unfold run_slite_Cut at h
  split at h
  · rw [← F_slite_Cut_eq] at h
    have := fn_ok (P := Tryd.prog) (cx := cx_slite_Cut k) (f := 43) ⟨tyT_ok, C_slite_Cut_ok k⟩ (by kernel_rfl) (fn := Tryd.f43) (c := code_slite_Cut) (by kernel_rfl) (by kernel_rfl) (by kernel_rfl) (rs := [.tmp 4, .tmp 5, .tmp 6]) (by kernel_rfl) (by kernel_rfl) h
    exact this.mono fun out ho => by
      unfold wrap_slite_Cut at ho
      split at ho <;> first | exact ho | cases ho
  · cases h
end Go.Proofs.YtfbagjjnfpgjkaaDoor.Pvm

set_option maxRecDepth 1000000
set_option maxHeartbeats 0
set_option linter.unusedVariables false
namespace Go.Proofs.YtfbagjjnfpgjkaaDoor.Pvm
open Go Go.Proofs
def sig_strings_Cut : List LS := [.any, .any]
noncomputable def C_strings_Cut (k : Nat) : CTab := ⟨fun f => bif Nat.beq f 43 then sig_slite_Cut else [], fun f {_} ps hp K => bif Nat.beq f 43 then run_slite_Cut k ps hp K else none⟩
def wrap_strings_Cut {R : Type} (K : ((List UInt8) → (List UInt8) → Bool → Option R)) : Out → Option R
  | .ret [.v .str y0, .v .str y1, .v .bool y2] [] => K y0 y1 y2
  | _ => none
def sp_strings_Cut : RetSpec := ⟨[.any, .any, .any], [], []⟩
def cuts_strings_Cut : List (Nat × CutSpec) := []
def plans_strings_Cut : List (Nat × Plan) := []
noncomputable def cx_strings_Cut (k : Nat) : Ctx := ⟨tyT, cuts_strings_Cut, C_strings_Cut k, [], [], plans_strings_Cut⟩
noncomputable def code_strings_Cut : Code := Tryd.f31.body.getD .skip
noncomputable def A_strings_Cut (k : Nat) {R : Type}  (x0 : (List UInt8)) (x1 : UInt8) (K : ((List UInt8) → (List UInt8) → Bool → Option R)) : Option R := (@F_slite_Cut k R x0 x1 (fun (y5 : (@List @UInt8)) => (fun (y6 : (@List @UInt8)) => (fun (y7 : @Bool) => (K y5 y6 y7)))))
theorem A_strings_Cut_eq (k : Nat) {R : Type} (I : Nat → St → Option R) (x0 : (List UInt8)) (x1 : UInt8) (K : ((List UInt8) → (List UInt8) → Bool → Option R)) : fnK (cx_strings_Cut k) k code_strings_Cut 13 [.tmp 4, .tmp 5, .tmp 6] sp_strings_Cut [.v .str x0, .v .str [x1]] [] (wrap_strings_Cut K) = A_strings_Cut k  x0 x1 K := by kernel_rfl
noncomputable def F_strings_Cut (k : Nat) {R : Type} (x0 : (List UInt8)) (x1 : UInt8) (K : ((List UInt8) → (List UInt8) → Bool → Option R)) : Option R := A_strings_Cut k  x0 x1 K
theorem F_strings_Cut_eq (k : Nat) {R : Type} (x0 : (List UInt8)) (x1 : UInt8) (K : ((List UInt8) → (List UInt8) → Bool → Option R)) : fnK (cx_strings_Cut k) k code_strings_Cut 13 [.tmp 4, .tmp 5, .tmp 6] sp_strings_Cut [.v .str x0, .v .str [x1]] [] (wrap_strings_Cut K) = F_strings_Cut k x0 x1 K := by
  exact A_strings_Cut_eq k (fun _ _ => none) x0 x1 K
noncomputable def run_strings_Cut (k : Nat) {R : Type} : List PV → List (Nm × HObj) → (Out → Option R) → Option R
  | [.v .str x0, .v .str [x1]], [], K => F_strings_Cut k x0 x1 (fun y0 y1 y2 => K (.ret [.v .str y0, .v .str y1, .v .bool y2] []))
  | _, _, _ => none
theorem C_strings_Cut_ok (k : Nat) : (C_strings_Cut k).Ok Tryd.prog := by
  intro f ps hp R K r h
  unfold C_strings_Cut at h
  simp only at h
  cases hb43 : Nat.beq f 43 with
  | true => rw [hb43, cond_true] at h; rw [Nat.eq_of_beq_eq_true hb43]; exact D_slite_Cut k h
  | false =>
  rw [hb43, cond_false] at h
  cases h
theorem D_strings_Cut (k : Nat) {ps : List PV} {hp : List (Nm × HObj)} {R : Type} {K : Out → Option R} {r : R} (h : run_strings_Cut k ps hp K = some r) : DoesTo Tryd.prog 31 ps hp fun out => K out = some r := by
  unfold run_strings_Cut at h
  split at h
  · rw [← F_strings_Cut_eq] at h
    have := fn_ok (P := Tryd.prog) (cx := cx_strings_Cut k) (f := 31) ⟨tyT_ok, C_strings_Cut_ok k⟩ (by kernel_rfl) (fn := Tryd.f31) (c := code_strings_Cut) (by kernel_rfl) (by kernel_rfl) (by kernel_rfl) (rs := [.tmp 4, .tmp 5, .tmp 6]) (by kernel_rfl) (by kernel_rfl) h
    exact this.mono fun out ho => by
      unfold wrap_strings_Cut at ho
      split at ho <;> first | exact ho | cases ho
  · cases h
end Go.Proofs.YtfbagjjnfpgjkaaDoor.Pvm

set_option maxRecDepth 1000000
set_option maxHeartbeats 0
set_option linter.unusedVariables false
namespace Go.Proofs.YtfbagjjnfpgjkaaDoor.Pvm
open Go Go.Proofs
def sig_lex_key : List LS := [.any]
noncomputable def C_lex_key (k : Nat) : CTab := ⟨fun f => bif Nat.beq f 31 then sig_strings_Cut else bif Nat.beq f 32 then sig_lex_Signs else [], fun f {_} ps hp K => bif Nat.beq f 31 then run_strings_Cut k ps hp K else bif Nat.beq f 32 then run_lex_Signs k ps hp K else none⟩
def wrap_lex_key {R : Type} (K : ((List UInt8) → Option R)) : Out → Option R
  | .ret [.v .str y0] [] => K y0
  | _ => none
def sp_lex_key : RetSpec := ⟨[.any], [], []⟩
def cuts_lex_key : List (Nat × CutSpec) := []
def plans_lex_key : List (Nat × Plan) := []
noncomputable def cx_lex_key (k : Nat) : Ctx := ⟨tyT, cuts_lex_key, C_lex_key k, [], [], plans_lex_key⟩
noncomputable def code_lex_key : Code := Tryd.f22.body.getD .skip
noncomputable def A_lex_key (k : Nat) {R : Type}  (x0 : (List UInt8)) (K : ((List UInt8) → Option R)) : Option R := (@F_strings_Cut k R x0 (58 : @UInt8) (fun (y4 : (@List @UInt8)) => (fun (y5 : (@List @UInt8)) => (fun (y6 : @Bool) => (@cond (@Option R) (@BEq.beq (@Kd.T @Kd.bool) (@instBEqOfDecidableEq (@Kd.T @Kd.bool) @instDecidableEqBool) (@Bool.not y6) @Bool.false) (@F_lex_Signs k R y4 (fun (y7 : @Bool) => (@cond (@Option R) (@Bool.or (@Bool.not (@Bool.and (@BEq.beq (@Kd.T @Kd.bool) (@instBEqOfDecidableEq (@Kd.T @Kd.bool) @instDecidableEqBool) (@Bool.not y7) @Bool.false) (@BEq.beq (@Kd.T @Kd.bool) (@instBEqOfDecidableEq (@Kd.T @Kd.bool) @instDecidableEqBool) (@Bool.not (@BEq.beq (@List @UInt8) (@List.instBEq @UInt8 (@instBEqOfDecidableEq @UInt8 @instDecidableEqUInt8)) y5 (@List.nil @UInt8))) @Bool.true))) (@inb (0 : @Int) (@Nat.cast @Int @instNatCastInt (@List.length @UInt8 y5)))) (@cond (@Option R) (@cond (@Kd.T @Kd.bool) (@Bool.not y7) @Bool.true (@cond (@Kd.T @Kd.bool) (@Bool.not (@BEq.beq (@List @UInt8) (@List.instBEq @UInt8 (@instBEqOfDecidableEq @UInt8 @instDecidableEqUInt8)) y5 (@List.nil @UInt8))) (@bne @Int (@instBEqOfDecidableEq @Int @Int.instDecidableEq) (@Nat.cast @Int @instNatCastInt (@UInt8.toNat (@List.getD @UInt8 y5 (@Int.toNat (0 : @Int)) (0 : @UInt8)))) (32 : @Int)) @Bool.false)) (K (@List.nil @UInt8)) (K y4)) (@Option.none R)))) (K (@List.nil @UInt8)))))))
theorem A_lex_key_eq (k : Nat) {R : Type} (I : Nat → St → Option R) (x0 : (List UInt8)) (K : ((List UInt8) → Option R)) : fnK (cx_lex_key k) k code_lex_key 29 [.tmp 2] sp_lex_key [.v .str x0] [] (wrap_lex_key K) = A_lex_key k  x0 K := by kernel_rfl
noncomputable def F_lex_key (k : Nat) {R : Type} (x0 : (List UInt8)) (K : ((List UInt8) → Option R)) : Option R := A_lex_key k  x0 K
theorem F_lex_key_eq (k : Nat) {R : Type} (x0 : (List UInt8)) (K : ((List UInt8) → Option R)) : fnK (cx_lex_key k) k code_lex_key 29 [.tmp 2] sp_lex_key [.v .str x0] [] (wrap_lex_key K) = F_lex_key k x0 K := by
  exact A_lex_key_eq k (fun _ _ => none) x0 K
noncomputable def run_lex_key (k : Nat) {R : Type} : List PV → List (Nm × HObj) → (Out → Option R) → Option R
  | [.v .str x0], [], K => F_lex_key k x0 (fun y0 => K (.ret [.v .str y0] []))
  | _, _, _ => none
theorem C_lex_key_ok (k : Nat) : (C_lex_key k).Ok Tryd.prog := by
  intro f ps hp R K r h
  unfold C_lex_key at h
  simp only at h
  cases hb31 : Nat.beq f 31 with
  | true => rw [hb31, cond_true] at h; rw [Nat.eq_of_beq_eq_true hb31]; exact D_strings_Cut k h
  | false =>
  rw [hb31, cond_false] at h
  cases hb32 : Nat.beq f 32 with
  | true => rw [hb32, cond_true] at h; rw [Nat.eq_of_beq_eq_true hb32]; exact D_lex_Signs k h
  | false =>
  rw [hb32, cond_false] at h
  cases h
theorem D_lex_key (k : Nat) {ps : List PV} {hp : List (Nm × HObj)} {R : Type} {K : Out → Option R} {r : R} (h : run_lex_key k ps hp K = some r) : DoesTo Tryd.prog 22 ps hp fun out => K out = some r := by
  unfold run_lex_key at h
  split at h
  · rw [← F_lex_key_eq] at h
    have := fn_ok (P := Tryd.prog) (cx := cx_lex_key k) (f := 22) ⟨tyT_ok, C_lex_key_ok k⟩ (by kernel_rfl) (fn := Tryd.f22) (c := code_lex_key) (by kernel_rfl) (by kernel_rfl) (by kernel_rfl) (rs := [.tmp 2]) (by kernel_rfl) (by kernel_rfl) h
    exact this.mono fun out ho => by
      unfold wrap_lex_key at ho
      split at ho <;> first | exact ho | cases ho
  · cases h
end Go.Proofs.YtfbagjjnfpgjkaaDoor.Pvm

set_option maxRecDepth 1000000
set_option maxHeartbeats 0
set_option linter.unusedVariables false
namespace Go.Proofs.YtfbagjjnfpgjkaaDoor.Pvm
open Go Go.Proofs
def sig_lex_lexer_gives : List LS := [.obj 1 [.any, .any, .any, .any, .own 21 25 (.pr (.int .i64) (.pr (.int .i64) (.pr (.int .i64) (.pr .str .bool))))], .any]
noncomputable def C_lex_lexer_gives (k : Nat) : CTab := ⟨fun f => [], fun f {_} ps hp K => none⟩
def wrap_lex_lexer_gives {R : Type} (K : (Int → Int → (List UInt8) → Int → (List (Int × (Int × (Int × ((List UInt8) × Bool))))) → Option R)) (E : (Int → Int → (List UInt8) → Int → (List (Int × (Int × (Int × ((List UInt8) × Bool))))) → Int → Int → Option R)) : Out → Option R
  | .ret [] [(21, .row 25 (.pr (.int .i64) (.pr (.int .i64) (.pr (.int .i64) (.pr .str .bool)))) y4), (1, .var 40 [.v (.int .i64) y0, .v (.int .i64) y1, .v .str y2, .v (.int .i64) y3, .row 21])] => K y0 y1 y2 y3 y4
  | .pan (.ifc 28 (.agg [.v (.int .i64) z5, .v (.int .i64) z6])) [(21, .row 25 (.pr (.int .i64) (.pr (.int .i64) (.pr (.int .i64) (.pr .str .bool)))) z4), (1, .var 40 [.v (.int .i64) z0, .v (.int .i64) z1, .v .str z2, .v (.int .i64) z3, .row 21])] => E z0 z1 z2 z3 z4 z5 z6
  | _ => none
def sp_lex_lexer_gives : RetSpec := ⟨[], [(1, .obj 1 [.any, .any, .any, .any, .own 21 25 (.pr (.int .i64) (.pr (.int .i64) (.pr (.int .i64) (.pr .str .bool))))])], [(1, .obj 1 [.any, .any, .any, .any, .own 21 25 (.pr (.int .i64) (.pr (.int .i64) (.pr (.int .i64) (.pr .str .bool))))])]⟩
def cuts_lex_lexer_gives : List (Nat × CutSpec) := []
def plans_lex_lexer_gives : List (Nat × Plan) := []
noncomputable def cx_lex_lexer_gives (k : Nat) : Ctx := ⟨tyT, cuts_lex_lexer_gives, C_lex_lexer_gives k, [], [1], plans_lex_lexer_gives⟩
noncomputable def code_lex_lexer_gives : Code := Tryd.f18.body.getD .skip
noncomputable def A_lex_lexer_gives (k : Nat) {R : Type}  (x0 : Int) (x1 : Int) (x2 : (List UInt8)) (x3 : Int) (x4 : (List (Int × (Int × (Int × ((List UInt8) × Bool)))))) (x5 : Int) (K : (Int → Int → (List UInt8) → Int → (List (Int × (Int × (Int × ((List UInt8) × Bool))))) → Option R)) (E : (Int → Int → (List UInt8) → Int → (List (Int × (Int × (Int × ((List UInt8) × Bool))))) → Int → Int → Option R)) : Option R := (E x0 x1 x2 x3 x4 x5 x0)
theorem A_lex_lexer_gives_eq (k : Nat) {R : Type} (I : Nat → St → Option R) (x0 : Int) (x1 : Int) (x2 : (List UInt8)) (x3 : Int) (x4 : (List (Int × (Int × (Int × ((List UInt8) × Bool)))))) (x5 : Int) (K : (Int → Int → (List UInt8) → Int → (List (Int × (Int × (Int × ((List UInt8) × Bool))))) → Option R)) (E : (Int → Int → (List UInt8) → Int → (List (Int × (Int × (Int × ((List UInt8) × Bool))))) → Int → Int → Option R)) : fnK (cx_lex_lexer_gives k) k code_lex_lexer_gives 12 [] sp_lex_lexer_gives [.ptr 1 0, .v (.int .i64) x5] [(21, .row 25 (.pr (.int .i64) (.pr (.int .i64) (.pr (.int .i64) (.pr .str .bool)))) x4), (1, .var 40 [.v (.int .i64) x0, .v (.int .i64) x1, .v .str x2, .v (.int .i64) x3, .row 21])] (wrap_lex_lexer_gives K E) = A_lex_lexer_gives k  x0 x1 x2 x3 x4 x5 K E := by kernel_rfl
noncomputable def F_lex_lexer_gives (k : Nat) {R : Type} (x0 : Int) (x1 : Int) (x2 : (List UInt8)) (x3 : Int) (x4 : (List (Int × (Int × (Int × ((List UInt8) × Bool)))))) (x5 : Int) (K : (Int → Int → (List UInt8) → Int → (List (Int × (Int × (Int × ((List UInt8) × Bool))))) → Option R)) (E : (Int → Int → (List UInt8) → Int → (List (Int × (Int × (Int × ((List UInt8) × Bool))))) → Int → Int → Option R)) : Option R := A_lex_lexer_gives k  x0 x1 x2 x3 x4 x5 K E
theorem F_lex_lexer_gives_eq (k : Nat) {R : Type} (x0 : Int) (x1 : Int) (x2 : (List UInt8)) (x3 : Int) (x4 : (List (Int × (Int × (Int × ((List UInt8) × Bool)))))) (x5 : Int) (K : (Int → Int → (List UInt8) → Int → (List (Int × (Int × (Int × ((List UInt8) × Bool))))) → Option R)) (E : (Int → Int → (List UInt8) → Int → (List (Int × (Int × (Int × ((List UInt8) × Bool))))) → Int → Int → Option R)) : fnK (cx_lex_lexer_gives k) k code_lex_lexer_gives 12 [] sp_lex_lexer_gives [.ptr 1 0, .v (.int .i64) x5] [(21, .row 25 (.pr (.int .i64) (.pr (.int .i64) (.pr (.int .i64) (.pr .str .bool)))) x4), (1, .var 40 [.v (.int .i64) x0, .v (.int .i64) x1, .v .str x2, .v (.int .i64) x3, .row 21])] (wrap_lex_lexer_gives K E) = F_lex_lexer_gives k x0 x1 x2 x3 x4 x5 K E := by
  exact A_lex_lexer_gives_eq k (fun _ _ => none) x0 x1 x2 x3 x4 x5 K E
noncomputable def run_lex_lexer_gives (k : Nat) {R : Type} : List PV → List (Nm × HObj) → (Out → Option R) → Option R
  | [.ptr 1 0, .v (.int .i64) x5], [(21, .row 25 (.pr (.int .i64) (.pr (.int .i64) (.pr (.int .i64) (.pr .str .bool)))) x4), (1, .var 40 [.v (.int .i64) x0, .v (.int .i64) x1, .v .str x2, .v (.int .i64) x3, .row 21])], K => F_lex_lexer_gives k x0 x1 x2 x3 x4 x5 (fun y0 y1 y2 y3 y4 => K (.ret [] [(21, .row 25 (.pr (.int .i64) (.pr (.int .i64) (.pr (.int .i64) (.pr .str .bool)))) y4), (1, .var 40 [.v (.int .i64) y0, .v (.int .i64) y1, .v .str y2, .v (.int .i64) y3, .row 21])])) (fun z0 z1 z2 z3 z4 z5 z6 => K (.pan (.ifc 28 (.agg [.v (.int .i64) z5, .v (.int .i64) z6])) [(21, .row 25 (.pr (.int .i64) (.pr (.int .i64) (.pr (.int .i64) (.pr .str .bool)))) z4), (1, .var 40 [.v (.int .i64) z0, .v (.int .i64) z1, .v .str z2, .v (.int .i64) z3, .row 21])]))
  | _, _, _ => none
theorem C_lex_lexer_gives_ok (k : Nat) : (C_lex_lexer_gives k).Ok Tryd.prog := by
  intro f ps hp R K r h
  unfold C_lex_lexer_gives at h
  simp only at h
  cases h
theorem D_lex_lexer_gives (k : Nat) {ps : List PV} {hp : List (Nm × HObj)} {R : Type} {K : Out → Option R} {r : R} (h : run_lex_lexer_gives k ps hp K = some r) : DoesTo Tryd.prog 18 ps hp fun out => K out = some r := by
  unfold run_lex_lexer_gives at h
  split at h
  · rw [← F_lex_lexer_gives_eq] at h
    have := fn_ok (P := Tryd.prog) (cx := cx_lex_lexer_gives k) (f := 18) ⟨tyT_ok, C_lex_lexer_gives_ok k⟩ (by kernel_rfl) (fn := Tryd.f18) (c := code_lex_lexer_gives) (by kernel_rfl) (by kernel_rfl) (by kernel_rfl) (rs := []) (by kernel_rfl) (by kernel_rfl) h
    exact this.mono fun out ho => by
      unfold wrap_lex_lexer_gives at ho
      split at ho <;> first | exact ho | cases ho
  · cases h
end Go.Proofs.YtfbagjjnfpgjkaaDoor.Pvm

set_option maxRecDepth 1000000
set_option maxHeartbeats 0
set_option linter.unusedVariables false
namespace Go.Proofs.YtfbagjjnfpgjkaaDoor.Pvm
open Go Go.Proofs
def sig_lex_lexer_piece : List LS := [.obj 1 [.any, .any, .any, .any, .own 21 25 (.pr (.int .i64) (.pr (.int .i64) (.pr (.int .i64) (.pr .str .bool))))], .any, .any, .any, .any]
noncomputable def C_lex_lexer_piece (k : Nat) : CTab := ⟨fun f => [], fun f {_} ps hp K => none⟩
def wrap_lex_lexer_piece {R : Type} (K : (Int → Int → (List UInt8) → Int → (List (Int × (Int × (Int × ((List UInt8) × Bool))))) → Option R)) : Out → Option R
  | .ret [] [(21, .row 25 (.pr (.int .i64) (.pr (.int .i64) (.pr (.int .i64) (.pr .str .bool)))) y4), (1, .var 40 [.v (.int .i64) y0, .v (.int .i64) y1, .v .str y2, .v (.int .i64) y3, .row 21])] => K y0 y1 y2 y3 y4
  | _ => none
def sp_lex_lexer_piece : RetSpec := ⟨[], [(1, .obj 1 [.any, .any, .any, .any, .own 21 25 (.pr (.int .i64) (.pr (.int .i64) (.pr (.int .i64) (.pr .str .bool))))])], []⟩
def cuts_lex_lexer_piece : List (Nat × CutSpec) := []
def plans_lex_lexer_piece : List (Nat × Plan) := [(0, (.of [(0, 1), (1, 1), (2, 1), (3, 1), (5, 1), (6, 1), (7, 1), (8, 1), (9, 1), (11, 1), (12, 1), (13, 1), (14, 1), (16, 1), (17, 1), (18, 1), (21, 1), (22, 1), (4, 1), (10, 1), (15, 1), (19, 1), (20, 1), (23, 1), (24, 0), (25, 0), (26, 1), (27, 1), (28, 0)] .done))]
noncomputable def cx_lex_lexer_piece (k : Nat) : Ctx := ⟨tyT, cuts_lex_lexer_piece, C_lex_lexer_piece k, [], [1], plans_lex_lexer_piece⟩
noncomputable def code_lex_lexer_piece : Code := Tryd.f21.body.getD .skip
noncomputable def A_lex_lexer_piece (k : Nat) {R : Type}  (x0 : Int) (x1 : Int) (x2 : (List UInt8)) (x3 : Int) (x4 : (List (Int × (Int × (Int × ((List UInt8) × Bool)))))) (x5 : Int) (x6 : (List UInt8)) (x7 : Bool) (x8 : Int) (K : (Int → Int → (List UInt8) → Int → (List (Int × (Int × (Int × ((List UInt8) × Bool))))) → Option R)) : Option R := (@cond (@Option R) (@fits (@List.length (@Kd.T (@Kd.pr (@Kd.int @Go.IntKind.i64) (@Kd.pr (@Kd.int @Go.IntKind.i64) (@Kd.pr (@Kd.int @Go.IntKind.i64) (@Kd.pr @Kd.str @Kd.bool))))) x4) (@List.length (@Kd.T (@Kd.pr (@Kd.int @Go.IntKind.i64) (@Kd.pr (@Kd.int @Go.IntKind.i64) (@Kd.pr (@Kd.int @Go.IntKind.i64) (@Kd.pr @Kd.str @Kd.bool))))) (@List.cons (@Kd.T (@Kd.pr (@Kd.int @Go.IntKind.i64) (@Kd.pr (@Kd.int @Go.IntKind.i64) (@Kd.pr (@Kd.int @Go.IntKind.i64) (@Kd.pr @Kd.str @Kd.bool))))) (@Prod.mk (@Kd.T (@Kd.int @Go.IntKind.i64)) (@Kd.T (@Kd.pr (@Kd.int @Go.IntKind.i64) (@Kd.pr (@Kd.int @Go.IntKind.i64) (@Kd.pr @Kd.str @Kd.bool)))) x5 (@Prod.mk (@Kd.T (@Kd.int @Go.IntKind.i64)) (@Kd.T (@Kd.pr (@Kd.int @Go.IntKind.i64) (@Kd.pr @Kd.str @Kd.bool))) x0 (@Prod.mk (@Kd.T (@Kd.int @Go.IntKind.i64)) (@Kd.T (@Kd.pr @Kd.str @Kd.bool)) (@Go.IntKind.wrap @Go.IntKind.i64 (@HAdd.hAdd @Int @Int @Int (@instHAdd @Int @Int.instAdd) x1 x3)) (@Prod.mk (@Kd.T @Kd.str) (@Kd.T @Kd.bool) x6 x7)))) (@List.nil (@Kd.T (@Kd.pr (@Kd.int @Go.IntKind.i64) (@Kd.pr (@Kd.int @Go.IntKind.i64) (@Kd.pr (@Kd.int @Go.IntKind.i64) (@Kd.pr @Kd.str @Kd.bool)))))))) (48 : @Nat)) (K x0 x1 x2 (@Go.IntKind.wrap @Go.IntKind.i64 (@HAdd.hAdd @Int @Int @Int (@instHAdd @Int @Int.instAdd) x3 x8)) (@HAppend.hAppend (@Kd.T (@Kd.sl (@Kd.pr (@Kd.int @Go.IntKind.i64) (@Kd.pr (@Kd.int @Go.IntKind.i64) (@Kd.pr (@Kd.int @Go.IntKind.i64) (@Kd.pr @Kd.str @Kd.bool)))))) (@List (@Kd.T (@Kd.pr (@Kd.int @Go.IntKind.i64) (@Kd.pr (@Kd.int @Go.IntKind.i64) (@Kd.pr (@Kd.int @Go.IntKind.i64) (@Kd.pr @Kd.str @Kd.bool)))))) (@Kd.T (@Kd.sl (@Kd.pr (@Kd.int @Go.IntKind.i64) (@Kd.pr (@Kd.int @Go.IntKind.i64) (@Kd.pr (@Kd.int @Go.IntKind.i64) (@Kd.pr @Kd.str @Kd.bool)))))) (@instHAppendOfAppend (@Kd.T (@Kd.sl (@Kd.pr (@Kd.int @Go.IntKind.i64) (@Kd.pr (@Kd.int @Go.IntKind.i64) (@Kd.pr (@Kd.int @Go.IntKind.i64) (@Kd.pr @Kd.str @Kd.bool)))))) (@List.instAppend (@Kd.T (@Kd.pr (@Kd.int @Go.IntKind.i64) (@Kd.pr (@Kd.int @Go.IntKind.i64) (@Kd.pr (@Kd.int @Go.IntKind.i64) (@Kd.pr @Kd.str @Kd.bool))))))) x4 (@List.cons (@Kd.T (@Kd.pr (@Kd.int @Go.IntKind.i64) (@Kd.pr (@Kd.int @Go.IntKind.i64) (@Kd.pr (@Kd.int @Go.IntKind.i64) (@Kd.pr @Kd.str @Kd.bool))))) (@Prod.mk (@Kd.T (@Kd.int @Go.IntKind.i64)) (@Kd.T (@Kd.pr (@Kd.int @Go.IntKind.i64) (@Kd.pr (@Kd.int @Go.IntKind.i64) (@Kd.pr @Kd.str @Kd.bool)))) x5 (@Prod.mk (@Kd.T (@Kd.int @Go.IntKind.i64)) (@Kd.T (@Kd.pr (@Kd.int @Go.IntKind.i64) (@Kd.pr @Kd.str @Kd.bool))) x0 (@Prod.mk (@Kd.T (@Kd.int @Go.IntKind.i64)) (@Kd.T (@Kd.pr @Kd.str @Kd.bool)) (@Go.IntKind.wrap @Go.IntKind.i64 (@HAdd.hAdd @Int @Int @Int (@instHAdd @Int @Int.instAdd) x1 x3)) (@Prod.mk (@Kd.T @Kd.str) (@Kd.T @Kd.bool) x6 x7)))) (@List.nil (@Kd.T (@Kd.pr (@Kd.int @Go.IntKind.i64) (@Kd.pr (@Kd.int @Go.IntKind.i64) (@Kd.pr (@Kd.int @Go.IntKind.i64) (@Kd.pr @Kd.str @Kd.bool))))))))) (@Option.none R))
theorem A_lex_lexer_piece_eq (k : Nat) {R : Type} (I : Nat → St → Option R) (x0 : Int) (x1 : Int) (x2 : (List UInt8)) (x3 : Int) (x4 : (List (Int × (Int × (Int × ((List UInt8) × Bool)))))) (x5 : Int) (x6 : (List UInt8)) (x7 : Bool) (x8 : Int) (K : (Int → Int → (List UInt8) → Int → (List (Int × (Int × (Int × ((List UInt8) × Bool))))) → Option R)) : fnK (cx_lex_lexer_piece k) k code_lex_lexer_piece 46 [] sp_lex_lexer_piece [.ptr 1 0, .v (.int .i64) x5, .v .str x6, .v .bool x7, .v (.int .i64) x8] [(21, .row 25 (.pr (.int .i64) (.pr (.int .i64) (.pr (.int .i64) (.pr .str .bool)))) x4), (1, .var 40 [.v (.int .i64) x0, .v (.int .i64) x1, .v .str x2, .v (.int .i64) x3, .row 21])] (wrap_lex_lexer_piece K) = A_lex_lexer_piece k  x0 x1 x2 x3 x4 x5 x6 x7 x8 K := by kernel_rfl
noncomputable def F_lex_lexer_piece (k : Nat) {R : Type} (x0 : Int) (x1 : Int) (x2 : (List UInt8)) (x3 : Int) (x4 : (List (Int × (Int × (Int × ((List UInt8) × Bool)))))) (x5 : Int) (x6 : (List UInt8)) (x7 : Bool) (x8 : Int) (K : (Int → Int → (List UInt8) → Int → (List (Int × (Int × (Int × ((List UInt8) × Bool))))) → Option R)) : Option R := A_lex_lexer_piece k  x0 x1 x2 x3 x4 x5 x6 x7 x8 K
theorem F_lex_lexer_piece_eq (k : Nat) {R : Type} (x0 : Int) (x1 : Int) (x2 : (List UInt8)) (x3 : Int) (x4 : (List (Int × (Int × (Int × ((List UInt8) × Bool)))))) (x5 : Int) (x6 : (List UInt8)) (x7 : Bool) (x8 : Int) (K : (Int → Int → (List UInt8) → Int → (List (Int × (Int × (Int × ((List UInt8) × Bool))))) → Option R)) : fnK (cx_lex_lexer_piece k) k code_lex_lexer_piece 46 [] sp_lex_lexer_piece [.ptr 1 0, .v (.int .i64) x5, .v .str x6, .v .bool x7, .v (.int .i64) x8] [(21, .row 25 (.pr (.int .i64) (.pr (.int .i64) (.pr (.int .i64) (.pr .str .bool)))) x4), (1, .var 40 [.v (.int .i64) x0, .v (.int .i64) x1, .v .str x2, .v (.int .i64) x3, .row 21])] (wrap_lex_lexer_piece K) = F_lex_lexer_piece k x0 x1 x2 x3 x4 x5 x6 x7 x8 K := by
  exact A_lex_lexer_piece_eq k (fun _ _ => none) x0 x1 x2 x3 x4 x5 x6 x7 x8 K
noncomputable def run_lex_lexer_piece (k : Nat) {R : Type} : List PV → List (Nm × HObj) → (Out → Option R) → Option R
  | [.ptr 1 0, .v (.int .i64) x5, .v .str x6, .v .bool x7, .v (.int .i64) x8], [(21, .row 25 (.pr (.int .i64) (.pr (.int .i64) (.pr (.int .i64) (.pr .str .bool)))) x4), (1, .var 40 [.v (.int .i64) x0, .v (.int .i64) x1, .v .str x2, .v (.int .i64) x3, .row 21])], K => F_lex_lexer_piece k x0 x1 x2 x3 x4 x5 x6 x7 x8 (fun y0 y1 y2 y3 y4 => K (.ret [] [(21, .row 25 (.pr (.int .i64) (.pr (.int .i64) (.pr (.int .i64) (.pr .str .bool)))) y4), (1, .var 40 [.v (.int .i64) y0, .v (.int .i64) y1, .v .str y2, .v (.int .i64) y3, .row 21])]))
  | _, _, _ => none
theorem C_lex_lexer_piece_ok (k : Nat) : (C_lex_lexer_piece k).Ok Tryd.prog := by
  intro f ps hp R K r h
  unfold C_lex_lexer_piece at h
  simp only at h
  cases h
theorem D_lex_lexer_piece (k : Nat) {ps : List PV} {hp : List (Nm × HObj)} {R : Type} {K : Out → Option R} {r : R} (h : run_lex_lexer_piece k ps hp K = some r) : DoesTo Tryd.prog 21 ps hp fun out => K out = some r := by
  unfold run_lex_lexer_piece at h
  split at h
  · rw [← F_lex_lexer_piece_eq] at h
    have := fn_ok (P := Tryd.prog) (cx := cx_lex_lexer_piece k) (f := 21) ⟨tyT_ok, C_lex_lexer_piece_ok k⟩ (by kernel_rfl) (fn := Tryd.f21) (c := code_lex_lexer_piece) (by kernel_rfl) (by kernel_rfl) (by kernel_rfl) (rs := []) (by kernel_rfl) (by kernel_rfl) h
    exact this.mono fun out ho => by
      unfold wrap_lex_lexer_piece at ho
      split at ho <;> first | exact ho | cases ho
  · cases h
end Go.Proofs.YtfbagjjnfpgjkaaDoor.Pvm

set_option maxRecDepth 1000000
set_option maxHeartbeats 0
set_option linter.unusedVariables false
namespace Go.Proofs.YtfbagjjnfpgjkaaDoor.Pvm
open Go Go.Proofs
def sig_lex_lexer_rest : List LS := [.obj 1 [.any, .any, .any, .any, .own 21 25 (.pr (.int .i64) (.pr (.int .i64) (.pr (.int .i64) (.pr .str .bool))))]]
noncomputable def C_lex_lexer_rest (k : Nat) : CTab := ⟨fun f => [], fun f {_} ps hp K => none⟩
def wrap_lex_lexer_rest {R : Type} (K : (Int → Int → (List UInt8) → Int → (List (Int × (Int × (Int × ((List UInt8) × Bool))))) → (List UInt8) → Option R)) : Out → Option R
  | .ret [.v .str y5] [(21, .row 25 (.pr (.int .i64) (.pr (.int .i64) (.pr (.int .i64) (.pr .str .bool)))) y4), (1, .var 40 [.v (.int .i64) y0, .v (.int .i64) y1, .v .str y2, .v (.int .i64) y3, .row 21])] => K y0 y1 y2 y3 y4 y5
  | _ => none
def sp_lex_lexer_rest : RetSpec := ⟨[.any], [(1, .obj 1 [.any, .any, .any, .any, .own 21 25 (.pr (.int .i64) (.pr (.int .i64) (.pr (.int .i64) (.pr .str .bool))))])], []⟩
def cuts_lex_lexer_rest : List (Nat × CutSpec) := [(1001, ⟨[(0, .obj 1 [.any, .any, .any, .any, .own 21 25 (.pr (.int .i64) (.pr (.int .i64) (.pr (.int .i64) (.pr .str .bool))))])], [(1, .obj 1 [.any, .any, .any, .any, .own 21 25 (.pr (.int .i64) (.pr (.int .i64) (.pr (.int .i64) (.pr .str .bool))))])]⟩)]
def plans_lex_lexer_rest : List (Nat × Plan) := [(1, (.of [(0, 1), (1, 1), (2, 1), (4, 1), (5, 1), (6, 1), (7, 1), (3, 1), (8, 1), (9, 1), (10, 1), (11, 1), (12, 1), (13, 1), (14, 1), (15, 1), (17, 1), (18, 1), (19, 1), (16, 1), (20, 1), (21, 1), (22, 1), (23, 1)] .done)), (3, (.of [(0, 1), (1, 1), (2, 1), (3, 1), (5, 1), (6, 1), (7, 1), (4, 1), (8, 1), (9, 1), (10, 1)] .done))]
noncomputable def cx_lex_lexer_rest (k : Nat) : Ctx := ⟨tyT, cuts_lex_lexer_rest, C_lex_lexer_rest k, [], [1], plans_lex_lexer_rest⟩
noncomputable def code_lex_lexer_rest : Code := Tryd.f19.body.getD .skip
def st_lex_lexer_rest_1001 (s0 : Int) (s1 : Int) (s2 : (List UInt8)) (s3 : Int) (s4 : (List (Int × (Int × (Int × ((List UInt8) × Bool)))))) : St := ⟨mkT [(0, .ptr 1 0)], mkH [(21, .row 25 (.pr (.int .i64) (.pr (.int .i64) (.pr (.int .i64) (.pr .str .bool)))) s4), (1, .var 40 [.v (.int .i64) s0, .v (.int .i64) s1, .v .str s2, .v (.int .i64) s3, .row 21])]⟩
noncomputable def B_lex_lexer_rest_1001 (k : Nat) {R : Type} (E1001 : (Int → Int → (List UInt8) → Int → (List (Int × (Int × (Int × ((List UInt8) × Bool))))) → Option R)) (s0 : Int) (s1 : Int) (s2 : (List UInt8)) (s3 : Int) (s4 : (List (Int × (Int × (Int × ((List UInt8) × Bool)))))) (K : (Int → Int → (List UInt8) → Int → (List (Int × (Int × (Int × ((List UInt8) × Bool))))) → (List UInt8) → Option R)) : Option R := (@cond (@Option R) (@Bool.or (@Bool.not (@BEq.beq (@Kd.T @Kd.bool) (@instBEqOfDecidableEq (@Kd.T @Kd.bool) @instDecidableEqBool) (@Decidable.decide (@LT.lt @Int @Int.instLTInt s3 (@Nat.cast @Int @instNatCastInt (@List.length @UInt8 s2))) (@Int.decLt s3 (@Nat.cast @Int @instNatCastInt (@List.length @UInt8 s2)))) @Bool.true)) (@inb s3 (@Nat.cast @Int @instNatCastInt (@List.length @UInt8 s2)))) (@cond (@Option R) (@cond (@Kd.T @Kd.bool) (@Decidable.decide (@LT.lt @Int @Int.instLTInt s3 (@Nat.cast @Int @instNatCastInt (@List.length @UInt8 s2))) (@Int.decLt s3 (@Nat.cast @Int @instNatCastInt (@List.length @UInt8 s2)))) (@BEq.beq @Int (@instBEqOfDecidableEq @Int @Int.instDecidableEq) (@Nat.cast @Int @instNatCastInt (@UInt8.toNat (@List.getD @UInt8 s2 (@Int.toNat s3) (0 : @UInt8)))) (32 : @Int)) @Bool.false) (E1001 s0 s1 s2 (@Go.IntKind.wrap @Go.IntKind.i64 (@HAdd.hAdd @Int @Int @Int (@instHAdd @Int @Int.instAdd) s3 (1 : @Int))) s4) (@cond (@Option R) (@bnd s3 (@Nat.cast @Int @instNatCastInt (@List.length @UInt8 s2)) (@Nat.cast @Int @instNatCastInt (@List.length @UInt8 s2))) (K s0 s1 s2 s3 s4 (@cut @UInt8 s2 s3 (@Nat.cast @Int @instNatCastInt (@List.length @UInt8 s2)))) (@Option.none R))) (@Option.none R))
theorem B_lex_lexer_rest_1001_eq (k : Nat) {R : Type} (I : Nat → St → Option R) (s0 : Int) (s1 : Int) (s2 : (List UInt8)) (s3 : Int) (s4 : (List (Int × (Int × (Int × ((List UInt8) × Bool)))))) (K : (Int → Int → (List UInt8) → Int → (List (Int × (Int × (Int × ((List UInt8) × Bool))))) → (List UInt8) → Option R)) : execK (cx_lex_lexer_rest k) k (at_ [1, 0, 0, 0] code_lex_lexer_rest) (st_lex_lexer_rest_1001 s0 s1 s2 s3 s4) (konts (cx_lex_lexer_rest k) k I [1, 0, 0, 0] code_lex_lexer_rest (outK (cx_lex_lexer_rest k) sp_lex_lexer_rest [.tmp 2] (wrap_lex_lexer_rest K))) = B_lex_lexer_rest_1001 k (fun s0 s1 s2 s3 s4 => I 1001 (st_lex_lexer_rest_1001 s0 s1 s2 s3 s4)) s0 s1 s2 s3 s4 K := by kernel_rfl
noncomputable def A_lex_lexer_rest (k : Nat) {R : Type} (E1001 : (Int → Int → (List UInt8) → Int → (List (Int × (Int × (Int × ((List UInt8) × Bool))))) → Option R)) (x0 : Int) (x1 : Int) (x2 : (List UInt8)) (x3 : Int) (x4 : (List (Int × (Int × (Int × ((List UInt8) × Bool)))))) (K : (Int → Int → (List UInt8) → Int → (List (Int × (Int × (Int × ((List UInt8) × Bool))))) → (List UInt8) → Option R)) : Option R := (E1001 x0 x1 x2 x3 x4)
theorem A_lex_lexer_rest_eq (k : Nat) {R : Type} (I : Nat → St → Option R) (x0 : Int) (x1 : Int) (x2 : (List UInt8)) (x3 : Int) (x4 : (List (Int × (Int × (Int × ((List UInt8) × Bool)))))) (K : (Int → Int → (List UInt8) → Int → (List (Int × (Int × (Int × ((List UInt8) × Bool))))) → (List UInt8) → Option R)) : fnK (cx_lex_lexer_rest k) k code_lex_lexer_rest 44 [.tmp 2] sp_lex_lexer_rest [.ptr 1 0] [(21, .row 25 (.pr (.int .i64) (.pr (.int .i64) (.pr (.int .i64) (.pr .str .bool)))) x4), (1, .var 40 [.v (.int .i64) x0, .v (.int .i64) x1, .v .str x2, .v (.int .i64) x3, .row 21])] (wrap_lex_lexer_rest K) = A_lex_lexer_rest k (fun s0 s1 s2 s3 s4 => iter (cx_lex_lexer_rest k).pv (look (cx_lex_lexer_rest k).cuts 1001) (execK (cx_lex_lexer_rest k) k (at_ [1, 0, 0, 0] code_lex_lexer_rest)) k (st_lex_lexer_rest_1001 s0 s1 s2 s3 s4) (konts (cx_lex_lexer_rest k) k I [1, 0, 0] code_lex_lexer_rest (outK (cx_lex_lexer_rest k) sp_lex_lexer_rest [.tmp 2] (wrap_lex_lexer_rest K)))) x0 x1 x2 x3 x4 K := by kernel_rfl
noncomputable def L_lex_lexer_rest_1001 (k : Nat) {R : Type}  : Nat → Int → Int → (List UInt8) → Int → (List (Int × (Int × (Int × ((List UInt8) × Bool))))) → (Int → Int → (List UInt8) → Int → (List (Int × (Int × (Int × ((List UInt8) × Bool))))) → (List UInt8) → Option R) → Option R
  | 0, _, _, _, _, _, _ => none
  | n + 1, s0, s1, s2, s3, s4, K => B_lex_lexer_rest_1001 k (fun s0 s1 s2 s3 s4 => L_lex_lexer_rest_1001 k  n s0 s1 s2 s3 s4 K) s0 s1 s2 s3 s4 K
theorem L_lex_lexer_rest_1001_eq (k : Nat) {R : Type} (I : Nat → St → Option R) (K : (Int → Int → (List UInt8) → Int → (List (Int × (Int × (Int × ((List UInt8) × Bool))))) → (List UInt8) → Option R)) : ∀ (n : Nat) (s0 : Int) (s1 : Int) (s2 : (List UInt8)) (s3 : Int) (s4 : (List (Int × (Int × (Int × ((List UInt8) × Bool)))))), iter (cx_lex_lexer_rest k).pv (look (cx_lex_lexer_rest k).cuts 1001) (execK (cx_lex_lexer_rest k) k (at_ [1, 0, 0, 0] code_lex_lexer_rest)) n (st_lex_lexer_rest_1001 s0 s1 s2 s3 s4) (konts (cx_lex_lexer_rest k) k I [1, 0, 0] code_lex_lexer_rest (outK (cx_lex_lexer_rest k) sp_lex_lexer_rest [.tmp 2] (wrap_lex_lexer_rest K))) = L_lex_lexer_rest_1001 k  n s0 s1 s2 s3 s4 K := by
  intro n
  induction n with
  | zero => intros; rfl
  | succ n ih =>
    intro s0 s1 s2 s3 s4
    let I' : Nat → St → Option R := fun id s => bif Nat.beq id 1001 then iter (cx_lex_lexer_rest k).pv (look (cx_lex_lexer_rest k).cuts 1001) (execK (cx_lex_lexer_rest k) k (at_ [1, 0, 0, 0] code_lex_lexer_rest)) n s (konts (cx_lex_lexer_rest k) k I [1, 0, 0] code_lex_lexer_rest (outK (cx_lex_lexer_rest k) sp_lex_lexer_rest [.tmp 2] (wrap_lex_lexer_rest K))) else I id s
    have e := B_lex_lexer_rest_1001_eq k I' s0 s1 s2 s3 s4 K
    have h1001 : (fun s0 s1 s2 s3 s4 => I' 1001 (st_lex_lexer_rest_1001 s0 s1 s2 s3 s4)) = (fun s0 s1 s2 s3 s4 => L_lex_lexer_rest_1001 k  n s0 s1 s2 s3 s4 K) := by funext s0 s1 s2 s3 s4; exact ih s0 s1 s2 s3 s4
    refine Eq.trans (?_ : _ = _) (e.trans (Eq.trans ((congrArg ((fun E1001 => B_lex_lexer_rest_1001 k E1001 s0 s1 s2 s3 s4 K)) h1001)) (by rw [L_lex_lexer_rest_1001])))
    rfl
noncomputable def F_lex_lexer_rest (k : Nat) {R : Type} (x0 : Int) (x1 : Int) (x2 : (List UInt8)) (x3 : Int) (x4 : (List (Int × (Int × (Int × ((List UInt8) × Bool)))))) (K : (Int → Int → (List UInt8) → Int → (List (Int × (Int × (Int × ((List UInt8) × Bool))))) → (List UInt8) → Option R)) : Option R := A_lex_lexer_rest k (fun s0 s1 s2 s3 s4 => L_lex_lexer_rest_1001 k k s0 s1 s2 s3 s4 K) x0 x1 x2 x3 x4 K
theorem F_lex_lexer_rest_eq (k : Nat) {R : Type} (x0 : Int) (x1 : Int) (x2 : (List UInt8)) (x3 : Int) (x4 : (List (Int × (Int × (Int × ((List UInt8) × Bool)))))) (K : (Int → Int → (List UInt8) → Int → (List (Int × (Int × (Int × ((List UInt8) × Bool))))) → (List UInt8) → Option R)) : fnK (cx_lex_lexer_rest k) k code_lex_lexer_rest 44 [.tmp 2] sp_lex_lexer_rest [.ptr 1 0] [(21, .row 25 (.pr (.int .i64) (.pr (.int .i64) (.pr (.int .i64) (.pr .str .bool)))) x4), (1, .var 40 [.v (.int .i64) x0, .v (.int .i64) x1, .v .str x2, .v (.int .i64) x3, .row 21])] (wrap_lex_lexer_rest K) = F_lex_lexer_rest k x0 x1 x2 x3 x4 K := by
  let I : Nat → St → Option R := fun _ _ => none
  have h1001 : (fun s0 s1 s2 s3 s4 => iter (cx_lex_lexer_rest k).pv (look (cx_lex_lexer_rest k).cuts 1001) (execK (cx_lex_lexer_rest k) k (at_ [1, 0, 0, 0] code_lex_lexer_rest)) k (st_lex_lexer_rest_1001 s0 s1 s2 s3 s4) (konts (cx_lex_lexer_rest k) k I [1, 0, 0] code_lex_lexer_rest (outK (cx_lex_lexer_rest k) sp_lex_lexer_rest [.tmp 2] (wrap_lex_lexer_rest K)))) = (fun s0 s1 s2 s3 s4 => L_lex_lexer_rest_1001 k k s0 s1 s2 s3 s4 K) := by funext s0 s1 s2 s3 s4; exact L_lex_lexer_rest_1001_eq k I K k s0 s1 s2 s3 s4
  exact (A_lex_lexer_rest_eq k I x0 x1 x2 x3 x4 K).trans (congrArg ((fun E1001 => A_lex_lexer_rest k E1001 x0 x1 x2 x3 x4 K)) h1001)
noncomputable def run_lex_lexer_rest (k : Nat) {R : Type} : List PV → List (Nm × HObj) → (Out → Option R) → Option R
  | [.ptr 1 0], [(21, .row 25 (.pr (.int .i64) (.pr (.int .i64) (.pr (.int .i64) (.pr .str .bool)))) x4), (1, .var 40 [.v (.int .i64) x0, .v (.int .i64) x1, .v .str x2, .v (.int .i64) x3, .row 21])], K => F_lex_lexer_rest k x0 x1 x2 x3 x4 (fun y0 y1 y2 y3 y4 y5 => K (.ret [.v .str y5] [(21, .row 25 (.pr (.int .i64) (.pr (.int .i64) (.pr (.int .i64) (.pr .str .bool)))) y4), (1, .var 40 [.v (.int .i64) y0, .v (.int .i64) y1, .v .str y2, .v (.int .i64) y3, .row 21])]))
  | _, _, _ => none
theorem C_lex_lexer_rest_ok (k : Nat) : (C_lex_lexer_rest k).Ok Tryd.prog := by
  intro f ps hp R K r h
  unfold C_lex_lexer_rest at h
  simp only at h
  cases h
theorem D_lex_lexer_rest (k : Nat) {ps : List PV} {hp : List (Nm × HObj)} {R : Type} {K : Out → Option R} {r : R} (h : run_lex_lexer_rest k ps hp K = some r) : DoesTo Tryd.prog 19 ps hp fun out => K out = some r := by
  unfold run_lex_lexer_rest at h
  split at h
  · rw [← F_lex_lexer_rest_eq] at h
    have := fn_ok (P := Tryd.prog) (cx := cx_lex_lexer_rest k) (f := 19) ⟨tyT_ok, C_lex_lexer_rest_ok k⟩ (by kernel_rfl) (fn := Tryd.f19) (c := code_lex_lexer_rest) (by kernel_rfl) (by kernel_rfl) (by kernel_rfl) (rs := [.tmp 2]) (by kernel_rfl) (by kernel_rfl) h
    exact this.mono fun out ho => by
      unfold wrap_lex_lexer_rest at ho
      split at ho <;> first | exact ho | cases ho
  · cases h
end Go.Proofs.YtfbagjjnfpgjkaaDoor.Pvm

set_option maxRecDepth 1000000
set_option maxHeartbeats 0
set_option linter.unusedVariables false
namespace Go.Proofs.YtfbagjjnfpgjkaaDoor.Pvm
open Go Go.Proofs
def sig_strings_IndexByte : List LS := [.any, .any]
noncomputable def C_strings_IndexByte (k : Nat) : CTab := ⟨fun f => bif Nat.beq f 38 then sig_slite_IndexByte else [], fun f {_} ps hp K => bif Nat.beq f 38 then run_slite_IndexByte k ps hp K else none⟩
def wrap_strings_IndexByte {R : Type} (K : (Int → Option R)) : Out → Option R
  | .ret [.v (.int .i64) y0] [] => K y0
  | _ => none
def sp_strings_IndexByte : RetSpec := ⟨[.any], [], []⟩
def cuts_strings_IndexByte : List (Nat × CutSpec) := []
def plans_strings_IndexByte : List (Nat × Plan) := []
noncomputable def cx_strings_IndexByte (k : Nat) : Ctx := ⟨tyT, cuts_strings_IndexByte, C_strings_IndexByte k, [], [], plans_strings_IndexByte⟩
noncomputable def code_strings_IndexByte : Code := Tryd.f35.body.getD .skip
noncomputable def A_strings_IndexByte (k : Nat) {R : Type}  (x0 : (List UInt8)) (x1 : Int) (K : (Int → Option R)) : Option R := (@F_slite_IndexByte k R x0 x1 (fun (y5 : @Int) => (K y5)))
theorem A_strings_IndexByte_eq (k : Nat) {R : Type} (I : Nat → St → Option R) (x0 : (List UInt8)) (x1 : Int) (K : (Int → Option R)) : fnK (cx_strings_IndexByte k) k code_strings_IndexByte 8 [.tmp 4] sp_strings_IndexByte [.v .str x0, .v (.int .u8) x1] [] (wrap_strings_IndexByte K) = A_strings_IndexByte k  x0 x1 K := by kernel_rfl
noncomputable def F_strings_IndexByte (k : Nat) {R : Type} (x0 : (List UInt8)) (x1 : Int) (K : (Int → Option R)) : Option R := A_strings_IndexByte k  x0 x1 K
theorem F_strings_IndexByte_eq (k : Nat) {R : Type} (x0 : (List UInt8)) (x1 : Int) (K : (Int → Option R)) : fnK (cx_strings_IndexByte k) k code_strings_IndexByte 8 [.tmp 4] sp_strings_IndexByte [.v .str x0, .v (.int .u8) x1] [] (wrap_strings_IndexByte K) = F_strings_IndexByte k x0 x1 K := by
  exact A_strings_IndexByte_eq k (fun _ _ => none) x0 x1 K
noncomputable def run_strings_IndexByte (k : Nat) {R : Type} : List PV → List (Nm × HObj) → (Out → Option R) → Option R
  | [.v .str x0, .v (.int .u8) x1], [], K => F_strings_IndexByte k x0 x1 (fun y0 => K (.ret [.v (.int .i64) y0] []))
  | _, _, _ => none
theorem C_strings_IndexByte_ok (k : Nat) : (C_strings_IndexByte k).Ok Tryd.prog := by
  intro f ps hp R K r h
  unfold C_strings_IndexByte at h
  simp only at h
  cases hb38 : Nat.beq f 38 with
  | true => rw [hb38, cond_true] at h; rw [Nat.eq_of_beq_eq_true hb38]; exact D_slite_IndexByte k h
  | false =>
  rw [hb38, cond_false] at h
  cases h
theorem D_strings_IndexByte (k : Nat) {ps : List PV} {hp : List (Nm × HObj)} {R : Type} {K : Out → Option R} {r : R} (h : run_strings_IndexByte k ps hp K = some r) : DoesTo Tryd.prog 35 ps hp fun out => K out = some r := by
  unfold run_strings_IndexByte at h
  split at h
  · rw [← F_strings_IndexByte_eq] at h
    have := fn_ok (P := Tryd.prog) (cx := cx_strings_IndexByte k) (f := 35) ⟨tyT_ok, C_strings_IndexByte_ok k⟩ (by kernel_rfl) (fn := Tryd.f35) (c := code_strings_IndexByte) (by kernel_rfl) (by kernel_rfl) (by kernel_rfl) (rs := [.tmp 4]) (by kernel_rfl) (by kernel_rfl) h
    exact this.mono fun out ho => by
      unfold wrap_strings_IndexByte at ho
      split at ho <;> first | exact ho | cases ho
  · cases h
end Go.Proofs.YtfbagjjnfpgjkaaDoor.Pvm

set_option maxRecDepth 1000000
set_option maxHeartbeats 0
set_option linter.unusedVariables false
namespace Go.Proofs.YtfbagjjnfpgjkaaDoor.Pvm
open Go Go.Proofs
def sig_lex_lexer_taken : List LS := [.obj 1 [.any, .any, .any, .any, .own 21 25 (.pr (.int .i64) (.pr (.int .i64) (.pr (.int .i64) (.pr .str .bool))))], .any]
noncomputable def C_lex_lexer_taken (k : Nat) : CTab := ⟨fun f => bif Nat.beq f 18 then sig_lex_lexer_gives else bif Nat.beq f 35 then sig_strings_IndexByte else [], fun f {_} ps hp K => bif Nat.beq f 18 then run_lex_lexer_gives k ps hp K else bif Nat.beq f 35 then run_strings_IndexByte k ps hp K else none⟩
def wrap_lex_lexer_taken {R : Type} (K : (Int → Int → (List UInt8) → Int → (List (Int × (Int × (Int × ((List UInt8) × Bool))))) → Int → Int → Option R)) (E : (Int → Int → (List UInt8) → Int → (List (Int × (Int × (Int × ((List UInt8) × Bool))))) → Int → Int → Option R)) : Out → Option R
  | .ret [.v (.int .u8) y5, .v (.int .i64) y6] [(21, .row 25 (.pr (.int .i64) (.pr (.int .i64) (.pr (.int .i64) (.pr .str .bool)))) y4), (1, .var 40 [.v (.int .i64) y0, .v (.int .i64) y1, .v .str y2, .v (.int .i64) y3, .row 21])] => K y0 y1 y2 y3 y4 y5 y6
  | .pan (.ifc 28 (.agg [.v (.int .i64) z5, .v (.int .i64) z6])) [(21, .row 25 (.pr (.int .i64) (.pr (.int .i64) (.pr (.int .i64) (.pr .str .bool)))) z4), (1, .var 40 [.v (.int .i64) z0, .v (.int .i64) z1, .v .str z2, .v (.int .i64) z3, .row 21])] => E z0 z1 z2 z3 z4 z5 z6
  | _ => none
def sp_lex_lexer_taken : RetSpec := ⟨[.any, .any], [(1, .obj 1 [.any, .any, .any, .any, .own 21 25 (.pr (.int .i64) (.pr (.int .i64) (.pr (.int .i64) (.pr .str .bool))))])], [(1, .obj 1 [.any, .any, .any, .any, .own 21 25 (.pr (.int .i64) (.pr (.int .i64) (.pr (.int .i64) (.pr .str .bool))))])]⟩
def cuts_lex_lexer_taken : List (Nat × CutSpec) := []
def plans_lex_lexer_taken : List (Nat × Plan) := [(14, (.of [(0, 1), (1, 1), (3, 1), (4, 1), (2, 0), (5, 0), (6, 1), (7, 1)] .done))]
noncomputable def cx_lex_lexer_taken (k : Nat) : Ctx := ⟨tyT, cuts_lex_lexer_taken, C_lex_lexer_taken k, [], [1], plans_lex_lexer_taken⟩
noncomputable def code_lex_lexer_taken : Code := Tryd.f46.body.getD .skip
noncomputable def A_lex_lexer_taken (k : Nat) {R : Type}  (x0 : Int) (x1 : Int) (x2 : (List UInt8)) (x3 : Int) (x4 : (List (Int × (Int × (Int × ((List UInt8) × Bool)))))) (x5 : (List UInt8)) (K : (Int → Int → (List UInt8) → Int → (List (Int × (Int × (Int × ((List UInt8) × Bool))))) → Int → Int → Option R)) (E : (Int → Int → (List UInt8) → Int → (List (Int × (Int × (Int × ((List UInt8) × Bool))))) → Int → Int → Option R)) : Option R := (@cond (@Option R) (@BEq.beq (@List @UInt8) (@List.instBEq @UInt8 (@instBEqOfDecidableEq @UInt8 @instDecidableEqUInt8)) x5 (@List.nil @UInt8)) (@F_lex_lexer_gives k R x0 x1 x2 x3 x4 (3 : @Int) (fun (y10 : @Int) => (fun (y11 : @Int) => (fun (y12 : (@List @UInt8)) => (fun (y13 : @Int) => (fun (y14 : (@List (@Prod @Int (@Prod @Int (@Prod @Int (@Prod (@List @UInt8) @Bool)))))) => (@cond (@Option R) (@inb (0 : @Int) (@Nat.cast @Int @instNatCastInt (@List.length @UInt8 x5))) (@cond (@Option R) (@BEq.beq @Int (@instBEqOfDecidableEq @Int @Int.instDecidableEq) (@Nat.cast @Int @instNatCastInt (@UInt8.toNat (@List.getD @UInt8 x5 (@Int.toNat (0 : @Int)) (0 : @UInt8)))) (92 : @Int)) (@cond (@Option R) (@inb (0 : @Int) (@Nat.cast @Int @instNatCastInt (@List.length @UInt8 x5))) (K y10 y11 y12 y13 y14 (@Nat.cast @Int @instNatCastInt (@UInt8.toNat (@List.getD @UInt8 x5 (@Int.toNat (0 : @Int)) (0 : @UInt8)))) (1 : @Int)) (@Option.none R)) (@cond (@Option R) (@BEq.beq @Int (@instBEqOfDecidableEq @Int @Int.instDecidableEq) (@Nat.cast @Int @instNatCastInt (@UInt8.toNat (@List.getD @UInt8 x5 (@Int.toNat (0 : @Int)) (0 : @UInt8)))) (34 : @Int)) (@cond (@Option R) (@inb (0 : @Int) (@Nat.cast @Int @instNatCastInt (@List.length @UInt8 x5))) (K y10 y11 y12 y13 y14 (@Nat.cast @Int @instNatCastInt (@UInt8.toNat (@List.getD @UInt8 x5 (@Int.toNat (0 : @Int)) (0 : @UInt8)))) (1 : @Int)) (@Option.none R)) (@cond (@Option R) (@BEq.beq @Int (@instBEqOfDecidableEq @Int @Int.instDecidableEq) (@Nat.cast @Int @instNatCastInt (@UInt8.toNat (@List.getD @UInt8 x5 (@Int.toNat (0 : @Int)) (0 : @UInt8)))) (110 : @Int)) (K y10 y11 y12 y13 y14 (10 : @Int) (1 : @Int)) (@cond (@Option R) (@BEq.beq @Int (@instBEqOfDecidableEq @Int @Int.instDecidableEq) (@Nat.cast @Int @instNatCastInt (@UInt8.toNat (@List.getD @UInt8 x5 (@Int.toNat (0 : @Int)) (0 : @UInt8)))) (116 : @Int)) (K y10 y11 y12 y13 y14 (9 : @Int) (1 : @Int)) (@cond (@Option R) (@BEq.beq @Int (@instBEqOfDecidableEq @Int @Int.instDecidableEq) (@Nat.cast @Int @instNatCastInt (@UInt8.toNat (@List.getD @UInt8 x5 (@Int.toNat (0 : @Int)) (0 : @UInt8)))) (120 : @Int)) (@cond (@Option R) (@Decidable.decide (@LT.lt @Int @Int.instLTInt (@Nat.cast @Int @instNatCastInt (@List.length @UInt8 x5)) (3 : @Int)) (@Int.decLt (@Nat.cast @Int @instNatCastInt (@List.length @UInt8 x5)) (3 : @Int))) (@F_lex_lexer_gives k R y10 y11 y12 y13 y14 (3 : @Int) (fun (y15 : @Int) => (fun (y16 : @Int) => (fun (y17 : (@List @UInt8)) => (fun (y18 : @Int) => (fun (y19 : (@List (@Prod @Int (@Prod @Int (@Prod @Int (@Prod (@List @UInt8) @Bool)))))) => (@cond (@Option R) (@inb (1 : @Int) (@Nat.cast @Int @instNatCastInt (@List.length @UInt8 x5))) (@cond (@Option R) (@inb (2 : @Int) (@Nat.cast @Int @instNatCastInt (@List.length @UInt8 x5))) (@F_strings_IndexByte k R (@List.cons @UInt8 (48 : @UInt8) (@List.cons @UInt8 (49 : @UInt8) (@List.cons @UInt8 (50 : @UInt8) (@List.cons @UInt8 (51 : @UInt8) (@List.cons @UInt8 (52 : @UInt8) (@List.cons @UInt8 (53 : @UInt8) (@List.cons @UInt8 (54 : @UInt8) (@List.cons @UInt8 (55 : @UInt8) (@List.cons @UInt8 (56 : @UInt8) (@List.cons @UInt8 (57 : @UInt8) (@List.cons @UInt8 (97 : @UInt8) (@List.cons @UInt8 (98 : @UInt8) (@List.cons @UInt8 (99 : @UInt8) (@List.cons @UInt8 (100 : @UInt8) (@List.cons @UInt8 (101 : @UInt8) (@List.cons @UInt8 (102 : @UInt8) (@List.nil @UInt8))))))))))))))))) (@Nat.cast @Int @instNatCastInt (@UInt8.toNat (@List.getD @UInt8 x5 (@Int.toNat (1 : @Int)) (0 : @UInt8)))) (fun (y20 : @Int) => (@F_strings_IndexByte k R (@List.cons @UInt8 (48 : @UInt8) (@List.cons @UInt8 (49 : @UInt8) (@List.cons @UInt8 (50 : @UInt8) (@List.cons @UInt8 (51 : @UInt8) (@List.cons @UInt8 (52 : @UInt8) (@List.cons @UInt8 (53 : @UInt8) (@List.cons @UInt8 (54 : @UInt8) (@List.cons @UInt8 (55 : @UInt8) (@List.cons @UInt8 (56 : @UInt8) (@List.cons @UInt8 (57 : @UInt8) (@List.cons @UInt8 (97 : @UInt8) (@List.cons @UInt8 (98 : @UInt8) (@List.cons @UInt8 (99 : @UInt8) (@List.cons @UInt8 (100 : @UInt8) (@List.cons @UInt8 (101 : @UInt8) (@List.cons @UInt8 (102 : @UInt8) (@List.nil @UInt8))))))))))))))))) (@Nat.cast @Int @instNatCastInt (@UInt8.toNat (@List.getD @UInt8 x5 (@Int.toNat (2 : @Int)) (0 : @UInt8)))) (fun (y21 : @Int) => (@cond (@Option R) (@cond (@Kd.T @Kd.bool) (@Decidable.decide (@LT.lt @Int @Int.instLTInt y20 (0 : @Int)) (@Int.decLt y20 (0 : @Int))) @Bool.true (@Decidable.decide (@LT.lt @Int @Int.instLTInt y21 (0 : @Int)) (@Int.decLt y21 (0 : @Int)))) (@F_lex_lexer_gives k R y15 y16 y17 y18 y19 (3 : @Int) (fun (y22 : @Int) => (fun (y23 : @Int) => (fun (y24 : (@List @UInt8)) => (fun (y25 : @Int) => (fun (y26 : (@List (@Prod @Int (@Prod @Int (@Prod @Int (@Prod (@List @UInt8) @Bool)))))) => (K y22 y23 y24 y25 y26 (@Go.IntKind.wrap @Go.IntKind.u8 (@Go.IntKind.wrap @Go.IntKind.i64 (@HAdd.hAdd @Int @Int @Int (@instHAdd @Int @Int.instAdd) (@Go.IntKind.wrap @Go.IntKind.i64 (@HMul.hMul @Int @Int @Int (@instHMul @Int @Int.instMul) (16 : @Int) y20)) y21))) (3 : @Int))))))) (fun (y22 : @Int) => (fun (y23 : @Int) => (fun (y24 : (@List @UInt8)) => (fun (y25 : @Int) => (fun (y26 : (@List (@Prod @Int (@Prod @Int (@Prod @Int (@Prod (@List @UInt8) @Bool)))))) => (fun (y27 : @Int) => (fun (y28 : @Int) => (E y22 y23 y24 y25 y26 y27 y28))))))))) (K y15 y16 y17 y18 y19 (@Go.IntKind.wrap @Go.IntKind.u8 (@Go.IntKind.wrap @Go.IntKind.i64 (@HAdd.hAdd @Int @Int @Int (@instHAdd @Int @Int.instAdd) (@Go.IntKind.wrap @Go.IntKind.i64 (@HMul.hMul @Int @Int @Int (@instHMul @Int @Int.instMul) (16 : @Int) y20)) y21))) (3 : @Int))))))) (@Option.none R)) (@Option.none R))))))) (fun (y15 : @Int) => (fun (y16 : @Int) => (fun (y17 : (@List @UInt8)) => (fun (y18 : @Int) => (fun (y19 : (@List (@Prod @Int (@Prod @Int (@Prod @Int (@Prod (@List @UInt8) @Bool)))))) => (fun (y20 : @Int) => (fun (y21 : @Int) => (E y15 y16 y17 y18 y19 y20 y21))))))))) (@cond (@Option R) (@inb (1 : @Int) (@Nat.cast @Int @instNatCastInt (@List.length @UInt8 x5))) (@cond (@Option R) (@inb (2 : @Int) (@Nat.cast @Int @instNatCastInt (@List.length @UInt8 x5))) (@F_strings_IndexByte k R (@List.cons @UInt8 (48 : @UInt8) (@List.cons @UInt8 (49 : @UInt8) (@List.cons @UInt8 (50 : @UInt8) (@List.cons @UInt8 (51 : @UInt8) (@List.cons @UInt8 (52 : @UInt8) (@List.cons @UInt8 (53 : @UInt8) (@List.cons @UInt8 (54 : @UInt8) (@List.cons @UInt8 (55 : @UInt8) (@List.cons @UInt8 (56 : @UInt8) (@List.cons @UInt8 (57 : @UInt8) (@List.cons @UInt8 (97 : @UInt8) (@List.cons @UInt8 (98 : @UInt8) (@List.cons @UInt8 (99 : @UInt8) (@List.cons @UInt8 (100 : @UInt8) (@List.cons @UInt8 (101 : @UInt8) (@List.cons @UInt8 (102 : @UInt8) (@List.nil @UInt8))))))))))))))))) (@Nat.cast @Int @instNatCastInt (@UInt8.toNat (@List.getD @UInt8 x5 (@Int.toNat (1 : @Int)) (0 : @UInt8)))) (fun (y15 : @Int) => (@F_strings_IndexByte k R (@List.cons @UInt8 (48 : @UInt8) (@List.cons @UInt8 (49 : @UInt8) (@List.cons @UInt8 (50 : @UInt8) (@List.cons @UInt8 (51 : @UInt8) (@List.cons @UInt8 (52 : @UInt8) (@List.cons @UInt8 (53 : @UInt8) (@List.cons @UInt8 (54 : @UInt8) (@List.cons @UInt8 (55 : @UInt8) (@List.cons @UInt8 (56 : @UInt8) (@List.cons @UInt8 (57 : @UInt8) (@List.cons @UInt8 (97 : @UInt8) (@List.cons @UInt8 (98 : @UInt8) (@List.cons @UInt8 (99 : @UInt8) (@List.cons @UInt8 (100 : @UInt8) (@List.cons @UInt8 (101 : @UInt8) (@List.cons @UInt8 (102 : @UInt8) (@List.nil @UInt8))))))))))))))))) (@Nat.cast @Int @instNatCastInt (@UInt8.toNat (@List.getD @UInt8 x5 (@Int.toNat (2 : @Int)) (0 : @UInt8)))) (fun (y16 : @Int) => (@cond (@Option R) (@cond (@Kd.T @Kd.bool) (@Decidable.decide (@LT.lt @Int @Int.instLTInt y15 (0 : @Int)) (@Int.decLt y15 (0 : @Int))) @Bool.true (@Decidable.decide (@LT.lt @Int @Int.instLTInt y16 (0 : @Int)) (@Int.decLt y16 (0 : @Int)))) (@F_lex_lexer_gives k R y10 y11 y12 y13 y14 (3 : @Int) (fun (y17 : @Int) => (fun (y18 : @Int) => (fun (y19 : (@List @UInt8)) => (fun (y20 : @Int) => (fun (y21 : (@List (@Prod @Int (@Prod @Int (@Prod @Int (@Prod (@List @UInt8) @Bool)))))) => (K y17 y18 y19 y20 y21 (@Go.IntKind.wrap @Go.IntKind.u8 (@Go.IntKind.wrap @Go.IntKind.i64 (@HAdd.hAdd @Int @Int @Int (@instHAdd @Int @Int.instAdd) (@Go.IntKind.wrap @Go.IntKind.i64 (@HMul.hMul @Int @Int @Int (@instHMul @Int @Int.instMul) (16 : @Int) y15)) y16))) (3 : @Int))))))) (fun (y17 : @Int) => (fun (y18 : @Int) => (fun (y19 : (@List @UInt8)) => (fun (y20 : @Int) => (fun (y21 : (@List (@Prod @Int (@Prod @Int (@Prod @Int (@Prod (@List @UInt8) @Bool)))))) => (fun (y22 : @Int) => (fun (y23 : @Int) => (E y17 y18 y19 y20 y21 y22 y23))))))))) (K y10 y11 y12 y13 y14 (@Go.IntKind.wrap @Go.IntKind.u8 (@Go.IntKind.wrap @Go.IntKind.i64 (@HAdd.hAdd @Int @Int @Int (@instHAdd @Int @Int.instAdd) (@Go.IntKind.wrap @Go.IntKind.i64 (@HMul.hMul @Int @Int @Int (@instHMul @Int @Int.instMul) (16 : @Int) y15)) y16))) (3 : @Int))))))) (@Option.none R)) (@Option.none R))) (@F_lex_lexer_gives k R y10 y11 y12 y13 y14 (3 : @Int) (fun (y15 : @Int) => (fun (y16 : @Int) => (fun (y17 : (@List @UInt8)) => (fun (y18 : @Int) => (fun (y19 : (@List (@Prod @Int (@Prod @Int (@Prod @Int (@Prod (@List @UInt8) @Bool)))))) => (K y15 y16 y17 y18 y19 (0 : @Int) (0 : @Int))))))) (fun (y15 : @Int) => (fun (y16 : @Int) => (fun (y17 : (@List @UInt8)) => (fun (y18 : @Int) => (fun (y19 : (@List (@Prod @Int (@Prod @Int (@Prod @Int (@Prod (@List @UInt8) @Bool)))))) => (fun (y20 : @Int) => (fun (y21 : @Int) => (E y15 y16 y17 y18 y19 y20 y21)))))))))))))) (@Option.none R))))))) (fun (y10 : @Int) => (fun (y11 : @Int) => (fun (y12 : (@List @UInt8)) => (fun (y13 : @Int) => (fun (y14 : (@List (@Prod @Int (@Prod @Int (@Prod @Int (@Prod (@List @UInt8) @Bool)))))) => (fun (y15 : @Int) => (fun (y16 : @Int) => (E y10 y11 y12 y13 y14 y15 y16))))))))) (@cond (@Option R) (@inb (0 : @Int) (@Nat.cast @Int @instNatCastInt (@List.length @UInt8 x5))) (@cond (@Option R) (@BEq.beq @Int (@instBEqOfDecidableEq @Int @Int.instDecidableEq) (@Nat.cast @Int @instNatCastInt (@UInt8.toNat (@List.getD @UInt8 x5 (@Int.toNat (0 : @Int)) (0 : @UInt8)))) (92 : @Int)) (@cond (@Option R) (@inb (0 : @Int) (@Nat.cast @Int @instNatCastInt (@List.length @UInt8 x5))) (K x0 x1 x2 x3 x4 (@Nat.cast @Int @instNatCastInt (@UInt8.toNat (@List.getD @UInt8 x5 (@Int.toNat (0 : @Int)) (0 : @UInt8)))) (1 : @Int)) (@Option.none R)) (@cond (@Option R) (@BEq.beq @Int (@instBEqOfDecidableEq @Int @Int.instDecidableEq) (@Nat.cast @Int @instNatCastInt (@UInt8.toNat (@List.getD @UInt8 x5 (@Int.toNat (0 : @Int)) (0 : @UInt8)))) (34 : @Int)) (@cond (@Option R) (@inb (0 : @Int) (@Nat.cast @Int @instNatCastInt (@List.length @UInt8 x5))) (K x0 x1 x2 x3 x4 (@Nat.cast @Int @instNatCastInt (@UInt8.toNat (@List.getD @UInt8 x5 (@Int.toNat (0 : @Int)) (0 : @UInt8)))) (1 : @Int)) (@Option.none R)) (@cond (@Option R) (@BEq.beq @Int (@instBEqOfDecidableEq @Int @Int.instDecidableEq) (@Nat.cast @Int @instNatCastInt (@UInt8.toNat (@List.getD @UInt8 x5 (@Int.toNat (0 : @Int)) (0 : @UInt8)))) (110 : @Int)) (K x0 x1 x2 x3 x4 (10 : @Int) (1 : @Int)) (@cond (@Option R) (@BEq.beq @Int (@instBEqOfDecidableEq @Int @Int.instDecidableEq) (@Nat.cast @Int @instNatCastInt (@UInt8.toNat (@List.getD @UInt8 x5 (@Int.toNat (0 : @Int)) (0 : @UInt8)))) (116 : @Int)) (K x0 x1 x2 x3 x4 (9 : @Int) (1 : @Int)) (@cond (@Option R) (@BEq.beq @Int (@instBEqOfDecidableEq @Int @Int.instDecidableEq) (@Nat.cast @Int @instNatCastInt (@UInt8.toNat (@List.getD @UInt8 x5 (@Int.toNat (0 : @Int)) (0 : @UInt8)))) (120 : @Int)) (@cond (@Option R) (@Decidable.decide (@LT.lt @Int @Int.instLTInt (@Nat.cast @Int @instNatCastInt (@List.length @UInt8 x5)) (3 : @Int)) (@Int.decLt (@Nat.cast @Int @instNatCastInt (@List.length @UInt8 x5)) (3 : @Int))) (@F_lex_lexer_gives k R x0 x1 x2 x3 x4 (3 : @Int) (fun (y10 : @Int) => (fun (y11 : @Int) => (fun (y12 : (@List @UInt8)) => (fun (y13 : @Int) => (fun (y14 : (@List (@Prod @Int (@Prod @Int (@Prod @Int (@Prod (@List @UInt8) @Bool)))))) => (@cond (@Option R) (@inb (1 : @Int) (@Nat.cast @Int @instNatCastInt (@List.length @UInt8 x5))) (@cond (@Option R) (@inb (2 : @Int) (@Nat.cast @Int @instNatCastInt (@List.length @UInt8 x5))) (@F_strings_IndexByte k R (@List.cons @UInt8 (48 : @UInt8) (@List.cons @UInt8 (49 : @UInt8) (@List.cons @UInt8 (50 : @UInt8) (@List.cons @UInt8 (51 : @UInt8) (@List.cons @UInt8 (52 : @UInt8) (@List.cons @UInt8 (53 : @UInt8) (@List.cons @UInt8 (54 : @UInt8) (@List.cons @UInt8 (55 : @UInt8) (@List.cons @UInt8 (56 : @UInt8) (@List.cons @UInt8 (57 : @UInt8) (@List.cons @UInt8 (97 : @UInt8) (@List.cons @UInt8 (98 : @UInt8) (@List.cons @UInt8 (99 : @UInt8) (@List.cons @UInt8 (100 : @UInt8) (@List.cons @UInt8 (101 : @UInt8) (@List.cons @UInt8 (102 : @UInt8) (@List.nil @UInt8))))))))))))))))) (@Nat.cast @Int @instNatCastInt (@UInt8.toNat (@List.getD @UInt8 x5 (@Int.toNat (1 : @Int)) (0 : @UInt8)))) (fun (y15 : @Int) => (@F_strings_IndexByte k R (@List.cons @UInt8 (48 : @UInt8) (@List.cons @UInt8 (49 : @UInt8) (@List.cons @UInt8 (50 : @UInt8) (@List.cons @UInt8 (51 : @UInt8) (@List.cons @UInt8 (52 : @UInt8) (@List.cons @UInt8 (53 : @UInt8) (@List.cons @UInt8 (54 : @UInt8) (@List.cons @UInt8 (55 : @UInt8) (@List.cons @UInt8 (56 : @UInt8) (@List.cons @UInt8 (57 : @UInt8) (@List.cons @UInt8 (97 : @UInt8) (@List.cons @UInt8 (98 : @UInt8) (@List.cons @UInt8 (99 : @UInt8) (@List.cons @UInt8 (100 : @UInt8) (@List.cons @UInt8 (101 : @UInt8) (@List.cons @UInt8 (102 : @UInt8) (@List.nil @UInt8))))))))))))))))) (@Nat.cast @Int @instNatCastInt (@UInt8.toNat (@List.getD @UInt8 x5 (@Int.toNat (2 : @Int)) (0 : @UInt8)))) (fun (y16 : @Int) => (@cond (@Option R) (@cond (@Kd.T @Kd.bool) (@Decidable.decide (@LT.lt @Int @Int.instLTInt y15 (0 : @Int)) (@Int.decLt y15 (0 : @Int))) @Bool.true (@Decidable.decide (@LT.lt @Int @Int.instLTInt y16 (0 : @Int)) (@Int.decLt y16 (0 : @Int)))) (@F_lex_lexer_gives k R y10 y11 y12 y13 y14 (3 : @Int) (fun (y17 : @Int) => (fun (y18 : @Int) => (fun (y19 : (@List @UInt8)) => (fun (y20 : @Int) => (fun (y21 : (@List (@Prod @Int (@Prod @Int (@Prod @Int (@Prod (@List @UInt8) @Bool)))))) => (K y17 y18 y19 y20 y21 (@Go.IntKind.wrap @Go.IntKind.u8 (@Go.IntKind.wrap @Go.IntKind.i64 (@HAdd.hAdd @Int @Int @Int (@instHAdd @Int @Int.instAdd) (@Go.IntKind.wrap @Go.IntKind.i64 (@HMul.hMul @Int @Int @Int (@instHMul @Int @Int.instMul) (16 : @Int) y15)) y16))) (3 : @Int))))))) (fun (y17 : @Int) => (fun (y18 : @Int) => (fun (y19 : (@List @UInt8)) => (fun (y20 : @Int) => (fun (y21 : (@List (@Prod @Int (@Prod @Int (@Prod @Int (@Prod (@List @UInt8) @Bool)))))) => (fun (y22 : @Int) => (fun (y23 : @Int) => (E y17 y18 y19 y20 y21 y22 y23))))))))) (K y10 y11 y12 y13 y14 (@Go.IntKind.wrap @Go.IntKind.u8 (@Go.IntKind.wrap @Go.IntKind.i64 (@HAdd.hAdd @Int @Int @Int (@instHAdd @Int @Int.instAdd) (@Go.IntKind.wrap @Go.IntKind.i64 (@HMul.hMul @Int @Int @Int (@instHMul @Int @Int.instMul) (16 : @Int) y15)) y16))) (3 : @Int))))))) (@Option.none R)) (@Option.none R))))))) (fun (y10 : @Int) => (fun (y11 : @Int) => (fun (y12 : (@List @UInt8)) => (fun (y13 : @Int) => (fun (y14 : (@List (@Prod @Int (@Prod @Int (@Prod @Int (@Prod (@List @UInt8) @Bool)))))) => (fun (y15 : @Int) => (fun (y16 : @Int) => (E y10 y11 y12 y13 y14 y15 y16))))))))) (@cond (@Option R) (@inb (1 : @Int) (@Nat.cast @Int @instNatCastInt (@List.length @UInt8 x5))) (@cond (@Option R) (@inb (2 : @Int) (@Nat.cast @Int @instNatCastInt (@List.length @UInt8 x5))) (@F_strings_IndexByte k R (@List.cons @UInt8 (48 : @UInt8) (@List.cons @UInt8 (49 : @UInt8) (@List.cons @UInt8 (50 : @UInt8) (@List.cons @UInt8 (51 : @UInt8) (@List.cons @UInt8 (52 : @UInt8) (@List.cons @UInt8 (53 : @UInt8) (@List.cons @UInt8 (54 : @UInt8) (@List.cons @UInt8 (55 : @UInt8) (@List.cons @UInt8 (56 : @UInt8) (@List.cons @UInt8 (57 : @UInt8) (@List.cons @UInt8 (97 : @UInt8) (@List.cons @UInt8 (98 : @UInt8) (@List.cons @UInt8 (99 : @UInt8) (@List.cons @UInt8 (100 : @UInt8) (@List.cons @UInt8 (101 : @UInt8) (@List.cons @UInt8 (102 : @UInt8) (@List.nil @UInt8))))))))))))))))) (@Nat.cast @Int @instNatCastInt (@UInt8.toNat (@List.getD @UInt8 x5 (@Int.toNat (1 : @Int)) (0 : @UInt8)))) (fun (y10 : @Int) => (@F_strings_IndexByte k R (@List.cons @UInt8 (48 : @UInt8) (@List.cons @UInt8 (49 : @UInt8) (@List.cons @UInt8 (50 : @UInt8) (@List.cons @UInt8 (51 : @UInt8) (@List.cons @UInt8 (52 : @UInt8) (@List.cons @UInt8 (53 : @UInt8) (@List.cons @UInt8 (54 : @UInt8) (@List.cons @UInt8 (55 : @UInt8) (@List.cons @UInt8 (56 : @UInt8) (@List.cons @UInt8 (57 : @UInt8) (@List.cons @UInt8 (97 : @UInt8) (@List.cons @UInt8 (98 : @UInt8) (@List.cons @UInt8 (99 : @UInt8) (@List.cons @UInt8 (100 : @UInt8) (@List.cons @UInt8 (101 : @UInt8) (@List.cons @UInt8 (102 : @UInt8) (@List.nil @UInt8))))))))))))))))) (@Nat.cast @Int @instNatCastInt (@UInt8.toNat (@List.getD @UInt8 x5 (@Int.toNat (2 : @Int)) (0 : @UInt8)))) (fun (y11 : @Int) => (@cond (@Option R) (@cond (@Kd.T @Kd.bool) (@Decidable.decide (@LT.lt @Int @Int.instLTInt y10 (0 : @Int)) (@Int.decLt y10 (0 : @Int))) @Bool.true (@Decidable.decide (@LT.lt @Int @Int.instLTInt y11 (0 : @Int)) (@Int.decLt y11 (0 : @Int)))) (@F_lex_lexer_gives k R x0 x1 x2 x3 x4 (3 : @Int) (fun (y12 : @Int) => (fun (y13 : @Int) => (fun (y14 : (@List @UInt8)) => (fun (y15 : @Int) => (fun (y16 : (@List (@Prod @Int (@Prod @Int (@Prod @Int (@Prod (@List @UInt8) @Bool)))))) => (K y12 y13 y14 y15 y16 (@Go.IntKind.wrap @Go.IntKind.u8 (@Go.IntKind.wrap @Go.IntKind.i64 (@HAdd.hAdd @Int @Int @Int (@instHAdd @Int @Int.instAdd) (@Go.IntKind.wrap @Go.IntKind.i64 (@HMul.hMul @Int @Int @Int (@instHMul @Int @Int.instMul) (16 : @Int) y10)) y11))) (3 : @Int))))))) (fun (y12 : @Int) => (fun (y13 : @Int) => (fun (y14 : (@List @UInt8)) => (fun (y15 : @Int) => (fun (y16 : (@List (@Prod @Int (@Prod @Int (@Prod @Int (@Prod (@List @UInt8) @Bool)))))) => (fun (y17 : @Int) => (fun (y18 : @Int) => (E y12 y13 y14 y15 y16 y17 y18))))))))) (K x0 x1 x2 x3 x4 (@Go.IntKind.wrap @Go.IntKind.u8 (@Go.IntKind.wrap @Go.IntKind.i64 (@HAdd.hAdd @Int @Int @Int (@instHAdd @Int @Int.instAdd) (@Go.IntKind.wrap @Go.IntKind.i64 (@HMul.hMul @Int @Int @Int (@instHMul @Int @Int.instMul) (16 : @Int) y10)) y11))) (3 : @Int))))))) (@Option.none R)) (@Option.none R))) (@F_lex_lexer_gives k R x0 x1 x2 x3 x4 (3 : @Int) (fun (y10 : @Int) => (fun (y11 : @Int) => (fun (y12 : (@List @UInt8)) => (fun (y13 : @Int) => (fun (y14 : (@List (@Prod @Int (@Prod @Int (@Prod @Int (@Prod (@List @UInt8) @Bool)))))) => (K y10 y11 y12 y13 y14 (0 : @Int) (0 : @Int))))))) (fun (y10 : @Int) => (fun (y11 : @Int) => (fun (y12 : (@List @UInt8)) => (fun (y13 : @Int) => (fun (y14 : (@List (@Prod @Int (@Prod @Int (@Prod @Int (@Prod (@List @UInt8) @Bool)))))) => (fun (y15 : @Int) => (fun (y16 : @Int) => (E y10 y11 y12 y13 y14 y15 y16)))))))))))))) (@Option.none R)))
theorem A_lex_lexer_taken_eq (k : Nat) {R : Type} (I : Nat → St → Option R) (x0 : Int) (x1 : Int) (x2 : (List UInt8)) (x3 : Int) (x4 : (List (Int × (Int × (Int × ((List UInt8) × Bool)))))) (x5 : (List UInt8)) (K : (Int → Int → (List UInt8) → Int → (List (Int × (Int × (Int × ((List UInt8) × Bool))))) → Int → Int → Option R)) (E : (Int → Int → (List UInt8) → Int → (List (Int × (Int × (Int × ((List UInt8) × Bool))))) → Int → Int → Option R)) : fnK (cx_lex_lexer_taken k) k code_lex_lexer_taken 51 [.tmp 4, .tmp 5] sp_lex_lexer_taken [.ptr 1 0, .v .str x5] [(21, .row 25 (.pr (.int .i64) (.pr (.int .i64) (.pr (.int .i64) (.pr .str .bool)))) x4), (1, .var 40 [.v (.int .i64) x0, .v (.int .i64) x1, .v .str x2, .v (.int .i64) x3, .row 21])] (wrap_lex_lexer_taken K E) = A_lex_lexer_taken k  x0 x1 x2 x3 x4 x5 K E := by kernel_rfl
noncomputable def F_lex_lexer_taken (k : Nat) {R : Type} (x0 : Int) (x1 : Int) (x2 : (List UInt8)) (x3 : Int) (x4 : (List (Int × (Int × (Int × ((List UInt8) × Bool)))))) (x5 : (List UInt8)) (K : (Int → Int → (List UInt8) → Int → (List (Int × (Int × (Int × ((List UInt8) × Bool))))) → Int → Int → Option R)) (E : (Int → Int → (List UInt8) → Int → (List (Int × (Int × (Int × ((List UInt8) × Bool))))) → Int → Int → Option R)) : Option R := A_lex_lexer_taken k  x0 x1 x2 x3 x4 x5 K E
theorem F_lex_lexer_taken_eq (k : Nat) {R : Type} (x0 : Int) (x1 : Int) (x2 : (List UInt8)) (x3 : Int) (x4 : (List (Int × (Int × (Int × ((List UInt8) × Bool)))))) (x5 : (List UInt8)) (K : (Int → Int → (List UInt8) → Int → (List (Int × (Int × (Int × ((List UInt8) × Bool))))) → Int → Int → Option R)) (E : (Int → Int → (List UInt8) → Int → (List (Int × (Int × (Int × ((List UInt8) × Bool))))) → Int → Int → Option R)) : fnK (cx_lex_lexer_taken k) k code_lex_lexer_taken 51 [.tmp 4, .tmp 5] sp_lex_lexer_taken [.ptr 1 0, .v .str x5] [(21, .row 25 (.pr (.int .i64) (.pr (.int .i64) (.pr (.int .i64) (.pr .str .bool)))) x4), (1, .var 40 [.v (.int .i64) x0, .v (.int .i64) x1, .v .str x2, .v (.int .i64) x3, .row 21])] (wrap_lex_lexer_taken K E) = F_lex_lexer_taken k x0 x1 x2 x3 x4 x5 K E := by
  exact A_lex_lexer_taken_eq k (fun _ _ => none) x0 x1 x2 x3 x4 x5 K E
noncomputable def run_lex_lexer_taken (k : Nat) {R : Type} : List PV → List (Nm × HObj) → (Out → Option R) → Option R
  | [.ptr 1 0, .v .str x5], [(21, .row 25 (.pr (.int .i64) (.pr (.int .i64) (.pr (.int .i64) (.pr .str .bool)))) x4), (1, .var 40 [.v (.int .i64) x0, .v (.int .i64) x1, .v .str x2, .v (.int .i64) x3, .row 21])], K => F_lex_lexer_taken k x0 x1 x2 x3 x4 x5 (fun y0 y1 y2 y3 y4 y5 y6 => K (.ret [.v (.int .u8) y5, .v (.int .i64) y6] [(21, .row 25 (.pr (.int .i64) (.pr (.int .i64) (.pr (.int .i64) (.pr .str .bool)))) y4), (1, .var 40 [.v (.int .i64) y0, .v (.int .i64) y1, .v .str y2, .v (.int .i64) y3, .row 21])])) (fun z0 z1 z2 z3 z4 z5 z6 => K (.pan (.ifc 28 (.agg [.v (.int .i64) z5, .v (.int .i64) z6])) [(21, .row 25 (.pr (.int .i64) (.pr (.int .i64) (.pr (.int .i64) (.pr .str .bool)))) z4), (1, .var 40 [.v (.int .i64) z0, .v (.int .i64) z1, .v .str z2, .v (.int .i64) z3, .row 21])]))
  | _, _, _ => none
theorem C_lex_lexer_taken_ok (k : Nat) : (C_lex_lexer_taken k).Ok Tryd.prog := by
  intro f ps hp R K r h
  unfold C_lex_lexer_taken at h
  simp only at h
  cases hb18 : Nat.beq f 18 with
  | true => rw [hb18, cond_true] at h; rw [Nat.eq_of_beq_eq_true hb18]; exact D_lex_lexer_gives k h
  | false =>
  rw [hb18, cond_false] at h
  cases hb35 : Nat.beq f 35 with
  | true => rw [hb35, cond_true] at h; rw [Nat.eq_of_beq_eq_true hb35]; exact D_strings_IndexByte k h
  | false =>
  rw [hb35, cond_false] at h
  cases h
theorem D_lex_lexer_taken (k : Nat) {ps : List PV} {hp : List (Nm × HObj)} {R : Type} {K : Out → Option R} {r : R} (h : run_lex_lexer_taken k ps hp K = some r) : DoesTo Tryd.prog 46 ps hp fun out => K out = some r := by
  unfold run_lex_lexer_taken at h
  split at h
  · rw [← F_lex_lexer_taken_eq] at h
    have := fn_ok (P := Tryd.prog) (cx := cx_lex_lexer_taken k) (f := 46) ⟨tyT_ok, C_lex_lexer_taken_ok k⟩ (by kernel_rfl) (fn := Tryd.f46) (c := code_lex_lexer_taken) (by kernel_rfl) (by kernel_rfl) (by kernel_rfl) (rs := [.tmp 4, .tmp 5]) (by kernel_rfl) (by kernel_rfl) h
    exact this.mono fun out ho => by
      unfold wrap_lex_lexer_taken at ho
      split at ho <;> first | exact ho | cases ho
  · cases h
end Go.Proofs.YtfbagjjnfpgjkaaDoor.Pvm

set_option maxHeartbeats 2000000
set_option maxRecDepth 100000
namespace Go.Proofs.YtfbagjjnfpgjkaaDoor.Pvm
open Go Go.Proofs Go.RowKit
theorem string_bytes (b g cap : Nat) (p : Value) (l : List UInt8) (cur : Array Value) (w : World) (hbk : w.heap[b]? = some (.cells #[p, .slice (some ⟨g, 0, none⟩) l.length cap] 45 (0, 0))) (h0 : l ≠ [])
    (hg : w.heap[g]? = some (.cells cur 5 (0, 0))) (hnc : l.length ≤ cap) (hcm : cap ≤ maxLen) (hcs : cur.size = cap) (htake : ∀ (j : Nat) (x : UInt8), l[j]? = some x → w.cell? ⟨g, j, none⟩ = some (.int .u8 x.toNat)) :
    Calls Tryd.prog 17 #[.pointer (some ⟨b, 0, none⟩)] w fun e w' => e = .returned (.string ⟨l.toArray⟩) ∧ w' = w.drew.freeze ⟨g, 0, none⟩ l.length := by
  have hl0 : l.length ≠ 0 := by simpa using h0
  have mixed : Tryd.prog.follows .mixedOrders = true := by kernel_rfl
  have t86 : Tryd.prog.underlying 60 = some (.pointer 5) := by kernel_rfl
  have c1 : w.drew.cell? ⟨b, 1, none⟩ = some (.slice (some ⟨g, 0, none⟩) l.length cap) := by
    have : w.drew.heap[b]? = some (.cells #[p, .slice (some ⟨g, 0, none⟩) l.length cap] 45 (0, 0)) := hbk
    rw [Lib.cell_of_heap this]; rfl
  have hSD : (Builtin.unsafeSliceData_ #[43] 60 #[.slice (some ⟨g, 0, none⟩) l.length cap]).run Tryd.prog w.drew = .ok (.pointer (some ⟨g, 0, none⟩)) w.drew :=
    Lib.run_unsafeSliceData_row _ _ _ _ _ _ (by omega)
  have hUS : (Builtin.unsafeString_ #[60, 3] 9 #[.pointer (some ⟨g, 0, none⟩), .int .i64 l.length]).run Tryd.prog w.drew = .ok (.string ⟨l.toArray⟩) (w.drew.freeze ⟨g, 0, none⟩ l.length) := by
    refine Lib.run_unsafeString_row w.drew 60 3 9 5 t86 (by kernel_rfl) g cur.size (by have hg' : w.drew.heap[g]? = some (.cells cur 5 (0, 0)) := hg; simp [World.shape?, hg']) l h0 (by omega) (by unfold maxLen at hcm; omega) ?_
    intro j x hx
    have := htake j x hx
    rw [show (⟨g, 0, none⟩ : Addr).add j = ⟨g, j, none⟩ by simp [Addr.add]; omega]
    exact this
  go_enter Tryd.func17, Tryd.ntmps17
  go_wp2
  go_region_o
  all_goals (go_wp2; go_ret; exact ⟨rfl, rfl⟩)
end Go.Proofs.YtfbagjjnfpgjkaaDoor.Pvm

set_option maxHeartbeats 2000000
set_option maxRecDepth 100000
namespace Go.Proofs.YtfbagjjnfpgjkaaDoor.Pvm
open Go Go.Proofs Go.RowKit
theorem uS_none (W : World) (q : Option Addr) : (Builtin.unsafeString_ #[60, 3] 9 #[.pointer q, .int .i64 0]).run Tryd.prog W = .ok (.string .empty) W :=
  Lib.run_unsafeString_none W _ _ _ q
theorem string_nil (b : Nat) (p : Value) (w : World) (hbk : w.heap[b]? = some (.cells #[p, .slice none 0 0] 45 (0, 0))) :
    Calls Tryd.prog 17 #[.pointer (some ⟨b, 0, none⟩)] w fun e w' => e = .returned (.string ⟨#[]⟩) ∧ w' = w.drew := by
  have hUS := uS_none
  have mixed : Tryd.prog.follows .mixedOrders = true := by kernel_rfl
  have c1 : w.drew.cell? ⟨b, 1, none⟩ = some (.slice none 0 0) := by
    have : w.drew.heap[b]? = some (.cells #[p, .slice none 0 0] 45 (0, 0)) := hbk
    rw [Lib.cell_of_heap this]; rfl
  have hSD : (Builtin.unsafeSliceData_ #[43] 60 #[.slice none 0 0]).run Tryd.prog w.drew = .ok (.pointer none) w.drew := rfl
  go_enter Tryd.func17, Tryd.ntmps17
  go_wp2
  go_region_o
  all_goals (go_wp2; go_ret; exact ⟨rfl, rfl⟩)
theorem string_room (b g cap : Nat) (p : Value) (w : World) (hc0 : cap ≠ 0) (hbk : w.heap[b]? = some (.cells #[p, .slice (some ⟨g, 0, none⟩) 0 cap] 45 (0, 0))) :
    Calls Tryd.prog 17 #[.pointer (some ⟨b, 0, none⟩)] w fun e w' => e = .returned (.string ⟨#[]⟩) ∧ w' = w.drew := by
  have hUS := uS_none
  have mixed : Tryd.prog.follows .mixedOrders = true := by kernel_rfl
  have c1 : w.drew.cell? ⟨b, 1, none⟩ = some (.slice (some ⟨g, 0, none⟩) 0 cap) := by
    have : w.drew.heap[b]? = some (.cells #[p, .slice (some ⟨g, 0, none⟩) 0 cap] 45 (0, 0)) := hbk
    rw [Lib.cell_of_heap this]; rfl
  have hSD : (Builtin.unsafeSliceData_ #[43] 60 #[.slice (some ⟨g, 0, none⟩) 0 cap]).run Tryd.prog w.drew = .ok (.pointer (some ⟨g, 0, none⟩)) w.drew :=
    Lib.run_unsafeSliceData_row _ _ _ _ _ _ hc0
  clear hc0
  go_enter Tryd.func17, Tryd.ntmps17
  go_wp2
  go_region_o
  all_goals (go_wp2; go_ret; exact ⟨rfl, rfl⟩)
end Go.Proofs.YtfbagjjnfpgjkaaDoor.Pvm

set_option maxHeartbeats 2000000
set_option maxRecDepth 100000
set_option linter.unusedVariables false
namespace Go.Proofs.YtfbagjjnfpgjkaaDoor.Pvm
open Go Go.Proofs Go.RowKit
theorem string_noroom (b g : Nat) (p : Value) (cur : Array Value) (w : World) (hbk : w.heap[b]? = some (.cells #[p, .slice (some ⟨g, 0, none⟩) 0 0] 45 (0, 0))) (hg : w.heap[g]? = some (.cells cur 5 (0, 0))) :
    Calls Tryd.prog 17 #[.pointer (some ⟨b, 0, none⟩)] w fun e w' => e = .returned (.string ⟨#[]⟩) ∧ ∃ o, w' = (w.alloc o).drew := by
  have hUS := uS_none
  have hlt : b < w.heap.size := (Array.getElem?_eq_some_iff.1 hbk).1
  have mixed : Tryd.prog.follows .mixedOrders = true := by kernel_rfl
  have c1 : w.drew.cell? ⟨b, 1, none⟩ = some (.slice (some ⟨g, 0, none⟩) 0 0) := by
    have : w.drew.heap[b]? = some (.cells #[p, .slice (some ⟨g, 0, none⟩) 0 0] 45 (0, 0)) := hbk
    rw [Lib.cell_of_heap this]; rfl
  have hSD : (Builtin.unsafeSliceData_ #[43] 60 #[.slice (some ⟨g, 0, none⟩) 0 0]).run Tryd.prog w.drew = .ok (.pointer (some ⟨w.drew.heap.size, 0, none⟩)) (w.drew.alloc (.view ⟨g, 0, none⟩ 5)) :=
    Lib.run_unsafeSliceData_zero w.drew _ _ 5 (by kernel_rfl) ⟨g, 0, none⟩ 0 (5, cur.size) (by have hg' : w.drew.heap[g]? = some (.cells cur 5 (0, 0)) := hg; simp [World.shape?, hg'])
  have c2 : (w.drew.alloc (.view ⟨g, 0, none⟩ 5)).cell? ⟨b, 1, none⟩ = some (.slice (some ⟨g, 0, none⟩) 0 0) := by
    have : (w.drew.alloc (.view ⟨g, 0, none⟩ 5)).heap[b]? = _ := (Lib.alloc_old w.drew _ b hlt).trans hbk
    rw [Lib.cell_of_heap this]; rfl
  have c3 : (w.alloc (.view ⟨g, 0, none⟩ 5)).drew.cell? ⟨b, 1, none⟩ = some (.slice (some ⟨g, 0, none⟩) 0 0) := c2
  have c0 : w.cell? ⟨b, 1, none⟩ = some (.slice (some ⟨g, 0, none⟩) 0 0) := c1
  go_enter Tryd.func17, Tryd.ntmps17
  go_wp2
  go_region_o
  all_goals (go_wp2; go_ret; exact ⟨rfl, _, rfl⟩)

def allB : List Int → Bool
  | [] => true
  | x :: r => decide (0 ≤ x) && decide (x < 256) && allB r
def sig_strings_Builder_String : List LS := [.obj 1 [.nps 1, .own 21 5 (.int .u8)]]
def F_strings_Builder_String (k : Nat) {R : Type} (x0 : List Int) (K : List Int → List UInt8 → Option R) : Option R := bif allB x0 then K x0 (ofBytes x0) else none
def run_strings_Builder_String (k : Nat) {R : Type} : List PV → List (Nm × HObj) → (Out → Option R) → Option R
  | [.ptr 1 0], [(21, .row 5 (.int .u8) x0), (1, .var 45 [.nps 1, .row 21])], K => F_strings_Builder_String k x0 (fun y0 y1 => K (.ret [.v .str y1] [(1, .var 45 [.nps 1, .v (.sl (.int .u8)) y0])]))
  | _, _, _ => none
theorem callFunc_strings_Builder_String (vs : Array Value) (w : World) : (callFunc 17 vs).run Tryd.prog w = .ok (.enter 17 vs) w := by
  have h1 : Tryd.prog.funcs[17]? = some Tryd.f17 := by kernel_rfl
  have h2 : (Tryd.f17.name == "runtime.NumGoroutine") = false := by kernel_rfl
  have h3 : Tryd.f17.body.isNone = false := by kernel_rfl
  unfold callFunc
  rw [Sem.run_bind]
  have e2 : (program).run Tryd.prog w = .ok Tryd.prog w := rfl
  rw [e2, Result.andThen_ok, h1]
  simp only [h2, h3, Bool.false_eq_true, if_false]
  rfl
theorem allB_at : ∀ {l : List Int}, allB l = true → ∀ (i : Nat) (y : Int), l[i]? = some y → 0 ≤ y ∧ y < 256
  | [], _, i, y, h => by simp at h
  | x :: r, hb, 0, y, h => by
    simp only [allB, Bool.and_eq_true, decide_eq_true_eq] at hb
    simp at h; subst h; exact hb.1
  | x :: r, hb, i + 1, y, h => by
    simp only [allB, Bool.and_eq_true] at hb
    exact allB_at hb.2 i y (by simpa using h)
/-- what String leaves -/
theorem builder_left {G : Gh} {w w' : World} {x0 : List Int} {HP : List (Nm × HObj)} (hHP : HP = [(21, .row 5 (.int .u8) x0), (1, .var 45 [.nps 1, .row 21])])
    (obj : ∀ n o, mkH HP n = some o → RO (mkH HP) G w n o) (dis : Dis (mkH HP) G w) (hblk : ∀ b, b < w.heap.size → (∀ g, (G.rv 21).ownBlock = some g → b ≠ g) → w'.heap[b]? = w.heap[b]?)
    (hcell : ∀ g o, (G.rv 21).ownBlock = some g → w'.cell? ⟨g, o, none⟩ = w.cell? ⟨g, o, none⟩) (grow : w.heap.size ≤ w'.heap.size) (os : w'.os = w.os) (tape : w'.tape = w.tape) (out : w'.output = w.output) :
    Fin HP [(1, .var 45 [.nps 1, .v (.sl (.int .u8)) x0])] G w G w' := by
  have l1 : mkH HP 1 = some (.var 45 [.nps 1, .row 21]) := by subst hHP; rfl
  have l2 : mkH HP 21 = some (.row 5 (.int .u8) x0) := by subst hHP; rfl
  generalize hHS : [((1 : Nm), HObj.var 45 [.nps 1, .v (.sl (.int .u8)) x0])] = HS
  have m1 : mkH HS 1 = some (.var 45 [.nps 1, .v (.sl (.int .u8)) x0]) := by subst hHS; rfl
  have mo : ∀ n o, mkH HS n = some o → n = 1 := by
    intro n o h
    subst hHS
    simp only [mkH, look] at h
    cases hb : Nat.beq 1 n with
    | true => exact (Nat.eq_of_beq_eq_true hb).symm
    | false => rw [hb] at h; cases h
  have bk1 : blkOf (mkH HP) G 1 = some (G.bk 1) := by simp [blkOf, l1]
  have bk2 : blkOf (mkH HP) G 21 = (G.rv 21).ownBlock := by simp [blkOf, l2]
  have ck1 : blkOf (mkH HS) G 1 = some (G.bk 1) := by simp [blkOf, m1]
  have ck : ∀ n b, blkOf (mkH HS) G n = some b → n = 1 ∧ b = G.bk 1 := by
    intro n b h
    cases hn : mkH HS n with
    | none => simp [blkOf, hn] at h
    | some o => have := mo n o hn; subst this; rw [ck1] at h; cases h; exact ⟨rfl, rfl⟩
  have hne : ∀ g, (G.rv 21).ownBlock = some g → G.bk 1 ≠ g := fun g hg e => by
    have := dis.inj 1 21 g (by rw [bk1, e]) (by rw [bk2, hg])
    cases this
  obtain ⟨vs, hw, q1, t1, rfl, hq1, q2, t2, rfl, hq2, rfl⟩ := obj 1 _ l1
  obtain ⟨rfl, _⟩ := hq2
  have hlt : G.bk 1 < w.heap.size := (Array.getElem?_eq_some_iff.1 hw).1
  have hw' : w'.heap[G.bk 1]? = some (.cells [q1, G.rv 21].toArray 45 (0, 0)) := by rw [hblk _ hlt hne]; exact hw
  have hdat : RD w' (okB (mkH HS) G) (.sl (.int .u8)) x0 [G.rv 21] := by
    have hro := obj 21 _ l2
    obtain ⟨us, hown, hr, _⟩ := hro
    rcases hown.2 with ⟨hv, hn⟩ | ⟨g, cap, cur, hv, _, hgb, hnc, hcm, hcs, _⟩
    · exact ⟨none, 0, by rw [hv, hn], by omega, .inl (List.eq_nil_of_length_eq_zero hn)⟩
    · have hgo : (G.rv 21).ownBlock = some g := by rw [hv]; rfl
      refine ⟨_, cap, by rw [hv], hnc, .inr ⟨_, rfl, ?_, ?_, ?_⟩⟩
      · refine ⟨fun n hn => ?_, fun hx => dis.xo 21 g (by rw [bk2, hgo]) hx⟩
        obtain ⟨_, e⟩ := ck n g hn
        exact hne g hgo e.symm
      · have : g < w.heap.size := (Array.getElem?_eq_some_iff.1 hgb).1
        exact Nat.lt_of_lt_of_le this grow
      · intro i y hy
        obtain ⟨c, hc, hu⟩ := hr.get i y hy
        refine ⟨c, hc, fun j u hj => ?_⟩
        have := hown.cells hgo _ _ (hu j u hj)
        rw [Addr.add_lit] at this ⊢
        rw [hcell g _ hgo]
        exact this
  refine ⟨fun n o hn => ?_, fun n m b h1 h2 => (ck n b h1).1.trans (ck m b h2).1.symm, fun n t cs hn o ho => ?_, fun b hb hf => hblk b hb fun g hg e => hf 21 (by rw [bk2, hg, e]), rfl, fun n b hn => .inl ⟨1, by rw [(ck n b hn).2]; exact bk1⟩, grow, os, tape, out⟩
  · have := mo n o hn; subst this
    rw [m1] at hn; cases hn
    refine ⟨_, hw', _, _, rfl, ?_, _, _, rfl, hdat, rfl⟩
    rcases hq1 with h | ⟨h, _⟩
    · exact .inl h
    · exact .inr ⟨h, _, _, m1⟩
  · have e1 := mo n o ho
    subst e1
    have e2 : mkH HS 1 = some o := ho
    have e3 : mkH HP 1 = some (.var t cs) := hn
    rw [m1] at e2; rw [l1] at e3; cases e2; cases e3
    exact ⟨⟨_, rfl⟩, rfl⟩
theorem D_strings_Builder_String (k : Nat) {ps : List PV} {hp : List (Nm × HObj)} {R : Type} {K : Out → Option R} {r : R} (h : run_strings_Builder_String k ps hp K = some r) : DoesTo Tryd.prog 17 ps hp fun out => K out = some r := by
  unfold run_strings_Builder_String at h
  split at h
  · next x0 =>
    intro G w vals hr obj dis
    unfold F_strings_Builder_String at h
    cases hb : allB x0 with
    | false => rw [hb] at h; cases h
    | true =>
      rw [hb, cond_true] at h
      obtain ⟨v0, l0, rfl, h0, rfl⟩ := hr
      obtain ⟨rfl, _⟩ := h0
      generalize hHP : [(21, HObj.row 5 (.int .u8) x0), (1, .var 45 [.nps 1, .row 21])] = HP at *
      have l1 : mkH HP 1 = some (.var 45 [.nps 1, .row 21]) := by subst hHP; rfl
      have l2 : mkH HP 21 = some (.row 5 (.int .u8) x0) := by subst hHP; rfl
      show Does _ _ #[_] _ _
      unfold Does
      rw [callFunc_strings_Builder_String]
      obtain ⟨vs, hw, q1, t1, rfl, hq1, q2, t2, rfl, hq2, rfl⟩ := obj 1 _ l1
      obtain ⟨rfl, _⟩ := hq2
      have hro := obj 21 _ l2
      obtain ⟨us, hown, hrd, _⟩ := hro
      have fin : ∀ {e : Ending} {w' : World}, e = .returned (.string ⟨(ofBytes x0).toArray⟩) → (∀ b, b < w.heap.size → (∀ g, (G.rv 21).ownBlock = some g → b ≠ g) → w'.heap[b]? = w.heap[b]?) → (∀ g o, (G.rv 21).ownBlock = some g → w'.cell? ⟨g, o, none⟩ = w.cell? ⟨g, o, none⟩) → w.heap.size ≤ w'.heap.size → w'.os = w.os → w'.tape = w.tape → w'.output = w.output →
          ∃ out, K out = some r ∧ ∃ G', OutIs G' w' e out ∧ Fin HP out.hs G w G' w' := by
        intro e w' he h1 h2 h3 h4 h5 h6
        exact ⟨_, h, G, ⟨_, he, rfl⟩, builder_left hHP.symm obj dis h1 h2 h3 h4 h5 h6⟩
      rcases hown.2 with ⟨hv, hn⟩ | ⟨g, cap, cur, hv, _, hgb, hnc, hcm, hcs, htk⟩
      · have hx : x0 = [] := List.eq_nil_of_length_eq_zero hn
        subst hx
        rw [hv] at hw
        refine Calls.mono (string_nil (G.bk 1) q1 w hw) fun e w' hh => ?_
        obtain ⟨rfl, rfl⟩ := hh
        exact fin rfl (fun _ _ _ => rfl) (fun _ _ _ => rfl) (Nat.le_refl _) rfl rfl rfl
      · have hgo : (G.rv 21).ownBlock = some g := by rw [hv]; rfl
        rw [hv] at hw
        by_cases hx : x0 = []
        · subst hx
          by_cases hc0 : cap = 0
          · subst hc0
            refine Calls.mono (string_noroom (G.bk 1) g q1 cur w hw hgb) fun e w' hh => ?_
            obtain ⟨rfl, o, rfl⟩ := hh
            have hold : ∀ b, b < w.heap.size → (w.alloc o).drew.heap[b]? = w.heap[b]? := fun b hb => Lib.alloc_old w _ b hb
            refine fin rfl (fun b hb _ => hold b hb) (fun g' o' hg' => ?_) (by have := World.size_alloc w o; show _ ≤ (w.alloc o).heap.size; omega) rfl rfl rfl
            rw [hgo] at hg'; cases hg'
            exact World.cell?_of_block (hold g (Array.getElem?_eq_some_iff.1 hgb).1)
          · refine Calls.mono (string_room (G.bk 1) g cap q1 w hc0 hw) fun e w' hh => ?_
            obtain ⟨rfl, rfl⟩ := hh
            exact fin rfl (fun _ _ _ => rfl) (fun _ _ _ => rfl) (Nat.le_refl _) rfl rfl rfl
        · have hlen : (ofBytes x0).length = x0.length := by simp [ofBytes]
          have hbytes : ∀ (j : Nat) (x : UInt8), (ofBytes x0)[j]? = some x → w.cell? ⟨g, j, none⟩ = some (.int .u8 x.toNat) := by
            intro j x hj
            have hjl : j < x0.length := by rw [← hlen]; exact (List.getElem?_eq_some_iff.1 hj).1
            have hy : x0[j]? = some x0[j] := by simp [hjl]
            obtain ⟨c, hc, hu⟩ := hrd.get j _ hy
            have hc : c = [.int .u8 x0[j]] := hc
            have h9 := hown.cells hgo _ _ (hu 0 (.int .u8 x0[j]) (by rw [hc]; rfl))
            rw [Addr.add_lit] at h9
            have hj2 : x = UInt8.ofNat (x0[j]).toNat := by
              simp only [ofBytes, List.getElem?_map, hy, Option.map_some, Option.some.injEq] at hj
              exact hj.symm
            obtain ⟨h10, h11⟩ := allB_at hb j _ hy
            have : ((x.toNat : Nat) : Int) = x0[j] := by
              rw [hj2, UInt8.toNat_ofNat']
              omega
            rw [this]
            have e0 : 0 + (j * Kd.sz (.int .u8) + 0) = j := by simp [Kd.sz]
            rw [e0] at h9
            exact h9
          rw [← hlen] at hw
          have hne : ofBytes x0 ≠ [] := by intro e; rw [e] at hlen; exact hx (List.eq_nil_of_length_eq_zero hlen.symm)
          refine Calls.mono (string_bytes (G.bk 1) g cap q1 (ofBytes x0) cur w hw hne hgb (by omega) hcm (by simpa [Kd.sz] using hcs) hbytes) fun e w' hh => ?_
          obtain ⟨rfl, rfl⟩ := hh
          have hfz : ∀ b, b ≠ g → (w.drew.freeze ⟨g, 0, none⟩ (ofBytes x0).length).heap[b]? = w.heap[b]? := by
            intro b hb
            unfold World.freeze
            split
            · rfl
            · show (w.heap.modify g _)[b]? = _
              rw [Array.getElem?_modify, if_neg (Ne.symm hb)]
          refine fin rfl (fun b _ hb => hfz b (hb g hgo)) (fun g' o' hg' => ?_) ?_ ?_ ?_ ?_
          · rw [hgo] at hg'; cases hg'
            unfold World.freeze
            split
            · rfl
            · simp only [World.cell?, World.drew, Array.getElem?_modify, if_true, hgb, Option.map_some]
          all_goals
            unfold World.freeze
            split
            · first | rfl | exact Nat.le_refl _
            · first | rfl | (show w.heap.size ≤ (w.heap.modify g _).size; rw [Array.size_modify]; exact Nat.le_refl _)
  · cases h
end Go.Proofs.YtfbagjjnfpgjkaaDoor.Pvm

set_option maxHeartbeats 1000000
set_option maxRecDepth 100000
namespace Go.Proofs.YtfbagjjnfpgjkaaDoor.Pvm
open Go Go.Proofs Go.RowKit
theorem copyCheck_used (b : Nat) (w : World) (h0 : w.cell? ⟨b, 0, none⟩ = some (.pointer (some ⟨b, 0, none⟩))) :
    Calls Tryd.prog 26 #[.pointer (some ⟨b, 0, none⟩)] w fun e w' => e = .returned (.tuple #[]) ∧ w' = w := by
  have t76 : Tryd.prog.underlying 42 = some (.pointer 45) := by kernel_rfl
  have hs : (Tryd.prog.info? 45).isSome = true := by kernel_rfl
  obtain ⟨j, hj⟩ := Option.isSome_iff_exists.1 hs
  go_enter Tryd.func26, Tryd.ntmps26
  go_wp2
  rw [Lib.run_neq_ptr_same w _ t76 hj]
  go_wp2
  go_end0
  exact ⟨rfl, rfl⟩
theorem copyCheck_fresh (b : Nat) (w : World) (h0 : w.cell? ⟨b, 0, none⟩ = some (.pointer none)) (hsh : w.shape? b = some (45, 2)) (hfz : w.frozen? ⟨b, 0, none⟩ = false) :
    Calls Tryd.prog 26 #[.pointer (some ⟨b, 0, none⟩)] w fun e w' => e = .returned (.tuple #[]) ∧ w' = w.setCell ⟨b, 0, none⟩ (.pointer (some ⟨b, 0, none⟩)) := by
  have t76 : Tryd.prog.underlying 42 = some (.pointer 45) := by kernel_rfl
  have t89 : Tryd.prog.underlying 66 = some .unsafePointer := by kernel_rfl
  have hs : (Tryd.prog.info? 45).map (·.size) = some 2 := by kernel_rfl
  obtain ⟨j, hj, hjs⟩ := Option.map_eq_some_iff.1 hs
  have hlies : liesAt Tryd.prog Tryd.prog.depth 45 (2 / Tryd.prog.cellsOf 45) 0 45 1 = true := by kernel_rfl
  go_enter Tryd.func26, Tryd.ntmps26
  go_wp2
  rw [Lib.run_to_unsafe w ⟨b, 0, none⟩ t76 t89 hj (by rw [hjs]; decide) hsh (Nat.zero_lt_succ 1)]
  simp only [Result.andThen]
  rw [Oper.upon_value]
  go_wp2
  rw [run_callFunc_extern Tryd.func36 (by kernel_rfl) (by kernel_rfl) (by kernel_rfl) (e := Extern.AbiNoEscape.same) (by kernel_rfl)]
  rw [Lib.run_noEscape]
  simp only [Result.andThen]
  rw [Oper.upon_value]
  go_wp2
  rw [Lib.run_from_unsafe w ⟨b, 0, none⟩ t89 t76 hj hsh hlies]
  simp only [Result.andThen]
  rw [Oper.upon_value]
  go_wp2
  go_end0
  exact ⟨rfl, rfl⟩
end Go.Proofs.YtfbagjjnfpgjkaaDoor.Pvm

set_option maxRecDepth 1000000
set_option linter.unusedVariables false
namespace Go.Proofs.YtfbagjjnfpgjkaaDoor.Pvm
open Go Go.Proofs
def sig_strings_Builder_copyCheck : List LS := [.obj 1 [.nps 1, .own 21 5 (.int .u8)]]
def F_strings_Builder_copyCheck (k : Nat) {R : Type} (x0 : List Int) (K : List Int → Option R) : Option R := K x0
def run_strings_Builder_copyCheck (k : Nat) {R : Type} : List PV → List (Nm × HObj) → (Out → Option R) → Option R
  | [.ptr 1 0], [(21, .row 5 (.int .u8) x0), (1, .var 45 [.nps 1, .row 21])], K => F_strings_Builder_copyCheck k x0 (fun y0 => K (.ret [] [(21, .row 5 (.int .u8) y0), (1, .var 45 [.nps 1, .row 21])]))
  | _, _, _ => none
theorem callFunc_strings_Builder_copyCheck (vs : Array Value) (w : World) : (callFunc 26 vs).run Tryd.prog w = .ok (.enter 26 vs) w := by
  have h1 : Tryd.prog.funcs[26]? = some Tryd.f26 := by kernel_rfl
  have h2 : (Tryd.f26.name == "runtime.NumGoroutine") = false := by kernel_rfl
  have h3 : Tryd.f26.body.isNone = false := by kernel_rfl
  unfold callFunc
  rw [Sem.run_bind]
  have e2 : (program).run Tryd.prog w = .ok Tryd.prog w := rfl
  rw [e2, Result.andThen_ok, h1]
  simp only [h2, h3, Bool.false_eq_true, if_false]
  rfl
theorem D_strings_Builder_copyCheck (k : Nat) {ps : List PV} {hp : List (Nm × HObj)} {R : Type} {K : Out → Option R} {r : R} (h : run_strings_Builder_copyCheck k ps hp K = some r) : DoesTo Tryd.prog 26 ps hp fun out => K out = some r := by
  unfold run_strings_Builder_copyCheck at h
  split at h
  · next x0 =>
    intro G w vals hr obj dis
    obtain ⟨v0, l0, rfl, h0, rfl⟩ := hr
    obtain ⟨rfl, _⟩ := h0
    generalize hHP : [(21, HObj.row 5 (.int .u8) x0), (1, .var 45 [.nps 1, .row 21])] = HP at *
    have hK : K (.ret [] HP) = some r := by subst hHP; exact h
    have l1 : mkH HP 1 = some (.var 45 [.nps 1, .row 21]) := by subst hHP; rfl
    have hob := obj 1 _ l1
    obtain ⟨vs, hw, q1, t1, rfl, hq1, q2, t2, rfl, hq2, rfl⟩ := hob
    show Does _ _ #[_] _ _
    unfold Does
    rw [callFunc_strings_Builder_copyCheck]
    have hcell : w.cell? ⟨G.bk 1, 0, none⟩ = some q1 := by simp [World.cell?, hw]
    have hlt : G.bk 1 < w.heap.size := (Array.getElem?_eq_some_iff.1 hw).1
    rcases hq1 with rfl | ⟨rfl, _⟩
    · refine Calls.mono (copyCheck_fresh (G.bk 1) w hcell (by simp [World.shape?, hw]) (by simp [World.frozen?, hw])) fun e w' hh => ?_
      obtain ⟨rfl, rfl⟩ := hh
      have oth : ∀ b, b ≠ G.bk 1 → (w.setCell ⟨G.bk 1, 0, none⟩ (.pointer (some ⟨G.bk 1, 0, none⟩))).heap[b]? = w.heap[b]? := fun b hb => Go.Deep.blk_setCell_other w _ _ b hb
      have bk1 : blkOf (mkH HP) G 1 = some (G.bk 1) := by simp [blkOf, l1]
      have C : Carry (mkH HP) G w (mkH HP) G (w.setCell ⟨G.bk 1, 0, none⟩ (.pointer (some ⟨G.bk 1, 0, none⟩))) .row :=
        ⟨fun b ho _ => ⟨ho, oth b fun e => ho.1 1 (by rw [bk1, e])⟩, fun n t cs hn => ⟨⟨cs, hn⟩, rfl⟩, fun n e K xs hn => ⟨⟨rfl, e, K, xs, hn⟩, fun m hm => by cases hm; exact ⟨e, xs, hn, Nat.le_refl _⟩⟩⟩
      have hq2' := RV.carry C _ _ hq2
      refine ⟨.ret [] HP, hK, G, ⟨_, rfl, ⟨[], rfl, rfl⟩⟩, ⟨fun n o hn => ?_, dis.inj, fun n t cs hn o ho => ?_, fun b hb hf => oth b fun e => hf 1 (by rw [bk1, e]), rfl, fun n b hb => .inl ⟨n, hb⟩, by simp [World.setCell], rfl, rfl, rfl⟩⟩
      · by_cases hn1 : n = 1
        · subst hn1
          rw [show mkH (Out.hs (.ret [] HP)) 1 = some (.var 45 [.nps 1, .row 21]) from l1] at hn
          cases hn
          refine ⟨[.pointer (some ⟨G.bk 1, 0, none⟩), q2], ?_, _, _, rfl, .inr ⟨rfl, 45, _, l1⟩, _, _, rfl, hq2', rfl⟩
          have hw2 := (Array.getElem?_eq_some_iff.1 hw).2
          simp only [World.setCell, Array.getElem?_modify, if_pos, hw]
          simp
        · have hne : ∀ b, blkOf (mkH HP) G n = some b → b ≠ G.bk 1 := fun b hb e => hn1 (dis.inj n 1 b hb (by rw [bk1, e]))
          have := RO.carry C hn (obj n o hn) (fun b hb => oth b (hne b hb)) rfl rfl
          rwa [mapO_row] at this
      · have e1 : look HP n = some o := ho
        rw [hn] at e1; cases e1
        exact ⟨⟨cs, rfl⟩, rfl⟩
    · refine Calls.mono (copyCheck_used (G.bk 1) w hcell) fun e w' hh => ?_
      obtain ⟨rfl, rfl⟩ := hh
      refine ⟨.ret [] HP, hK, G, ⟨_, rfl, ⟨[], rfl, rfl⟩⟩, ⟨obj, dis.inj, fun n t cs hn o ho => ?_, fun _ _ _ => rfl, rfl, fun n b hb => .inl ⟨n, hb⟩, Nat.le_refl _, rfl, rfl, rfl⟩⟩
      have e1 : look HP n = some o := ho
      rw [hn] at e1; cases e1
      exact ⟨⟨cs, rfl⟩, rfl⟩
  · cases h
end Go.Proofs.YtfbagjjnfpgjkaaDoor.Pvm

set_option maxRecDepth 1000000
set_option maxHeartbeats 0
set_option linter.unusedVariables false
namespace Go.Proofs.YtfbagjjnfpgjkaaDoor.Pvm
open Go Go.Proofs
def sig_strings_Builder_WriteByte : List LS := [.obj 1 [.nps 1, .own 21 5 (.int .u8)], .any]
noncomputable def C_strings_Builder_WriteByte (k : Nat) : CTab := ⟨fun f => bif Nat.beq f 26 then sig_strings_Builder_copyCheck else [], fun f {_} ps hp K => bif Nat.beq f 26 then run_strings_Builder_copyCheck k ps hp K else none⟩
def wrap_strings_Builder_WriteByte {R : Type} (K : ((List Int) → Option R)) : Out → Option R
  | .ret [.nilif] [(21, .row 5 (.int .u8) y0), (1, .var 45 [.nps 1, .row 21])] => K y0
  | _ => none
def sp_strings_Builder_WriteByte : RetSpec := ⟨[.any], [(1, .obj 1 [.nps 1, .own 21 5 (.int .u8)])], []⟩
def cuts_strings_Builder_WriteByte : List (Nat × CutSpec) := []
def plans_strings_Builder_WriteByte : List (Nat × Plan) := []
noncomputable def cx_strings_Builder_WriteByte (k : Nat) : Ctx := ⟨tyT, cuts_strings_Builder_WriteByte, C_strings_Builder_WriteByte k, [], [1], plans_strings_Builder_WriteByte⟩
noncomputable def code_strings_Builder_WriteByte : Code := Tryd.f45.body.getD .skip
noncomputable def A_strings_Builder_WriteByte (k : Nat) {R : Type}  (x0 : (List Int)) (x1 : Int) (K : ((List Int) → Option R)) : Option R := (@F_strings_Builder_copyCheck k R x0 (fun (y5 : (@List @Int)) => (@cond (@Option R) (@fits (@List.length (@Kd.T (@Kd.int @Go.IntKind.u8)) y5) (@List.length (@Kd.T (@Kd.int @Go.IntKind.u8)) (@List.cons (@Kd.T (@Kd.int @Go.IntKind.u8)) x1 (@List.nil (@Kd.T (@Kd.int @Go.IntKind.u8))))) (1 : @Nat)) (K (@HAppend.hAppend (@Kd.T (@Kd.sl (@Kd.int @Go.IntKind.u8))) (@List (@Kd.T (@Kd.int @Go.IntKind.u8))) (@Kd.T (@Kd.sl (@Kd.int @Go.IntKind.u8))) (@instHAppendOfAppend (@Kd.T (@Kd.sl (@Kd.int @Go.IntKind.u8))) (@List.instAppend (@Kd.T (@Kd.int @Go.IntKind.u8)))) y5 (@List.cons (@Kd.T (@Kd.int @Go.IntKind.u8)) x1 (@List.nil (@Kd.T (@Kd.int @Go.IntKind.u8)))))) (@Option.none R))))
theorem A_strings_Builder_WriteByte_eq (k : Nat) {R : Type} (I : Nat → St → Option R) (x0 : (List Int)) (x1 : Int) (K : ((List Int) → Option R)) : fnK (cx_strings_Builder_WriteByte k) k code_strings_Builder_WriteByte 17 [.tmp 4] sp_strings_Builder_WriteByte [.ptr 1 0, .v (.int .u8) x1] [(21, .row 5 (.int .u8) x0), (1, .var 45 [.nps 1, .row 21])] (wrap_strings_Builder_WriteByte K) = A_strings_Builder_WriteByte k  x0 x1 K := by kernel_rfl
noncomputable def F_strings_Builder_WriteByte (k : Nat) {R : Type} (x0 : (List Int)) (x1 : Int) (K : ((List Int) → Option R)) : Option R := A_strings_Builder_WriteByte k  x0 x1 K
theorem F_strings_Builder_WriteByte_eq (k : Nat) {R : Type} (x0 : (List Int)) (x1 : Int) (K : ((List Int) → Option R)) : fnK (cx_strings_Builder_WriteByte k) k code_strings_Builder_WriteByte 17 [.tmp 4] sp_strings_Builder_WriteByte [.ptr 1 0, .v (.int .u8) x1] [(21, .row 5 (.int .u8) x0), (1, .var 45 [.nps 1, .row 21])] (wrap_strings_Builder_WriteByte K) = F_strings_Builder_WriteByte k x0 x1 K := by
  exact A_strings_Builder_WriteByte_eq k (fun _ _ => none) x0 x1 K
noncomputable def run_strings_Builder_WriteByte (k : Nat) {R : Type} : List PV → List (Nm × HObj) → (Out → Option R) → Option R
  | [.ptr 1 0, .v (.int .u8) x1], [(21, .row 5 (.int .u8) x0), (1, .var 45 [.nps 1, .row 21])], K => F_strings_Builder_WriteByte k x0 x1 (fun y0 => K (.ret [.nilif] [(21, .row 5 (.int .u8) y0), (1, .var 45 [.nps 1, .row 21])]))
  | _, _, _ => none
theorem C_strings_Builder_WriteByte_ok (k : Nat) : (C_strings_Builder_WriteByte k).Ok Tryd.prog := by
  intro f ps hp R K r h
  unfold C_strings_Builder_WriteByte at h
  simp only at h
  cases hb26 : Nat.beq f 26 with
  | true => rw [hb26, cond_true] at h; rw [Nat.eq_of_beq_eq_true hb26]; exact D_strings_Builder_copyCheck k h
  | false =>
  rw [hb26, cond_false] at h
  cases h
theorem D_strings_Builder_WriteByte (k : Nat) {ps : List PV} {hp : List (Nm × HObj)} {R : Type} {K : Out → Option R} {r : R} (h : run_strings_Builder_WriteByte k ps hp K = some r) : DoesTo Tryd.prog 45 ps hp fun out => K out = some r := by
  unfold run_strings_Builder_WriteByte at h
  split at h
  · rw [← F_strings_Builder_WriteByte_eq] at h
    have := fn_ok (P := Tryd.prog) (cx := cx_strings_Builder_WriteByte k) (f := 45) ⟨tyT_ok, C_strings_Builder_WriteByte_ok k⟩ (by kernel_rfl) (fn := Tryd.f45) (c := code_strings_Builder_WriteByte) (by kernel_rfl) (by kernel_rfl) (by kernel_rfl) (rs := [.tmp 4]) (by kernel_rfl) (by kernel_rfl) h
    exact this.mono fun out ho => by
      unfold wrap_strings_Builder_WriteByte at ho
      split at ho <;> first | exact ho | cases ho
  · cases h
end Go.Proofs.YtfbagjjnfpgjkaaDoor.Pvm

set_option maxRecDepth 1000000
set_option maxHeartbeats 0
set_option linter.unusedVariables false
namespace Go.Proofs.YtfbagjjnfpgjkaaDoor.Pvm
open Go Go.Proofs
def sig_lex_lexer_double : List LS := [.obj 1 [.any, .any, .any, .any, .own 21 25 (.pr (.int .i64) (.pr (.int .i64) (.pr (.int .i64) (.pr .str .bool))))], .any]
noncomputable def C_lex_lexer_double (k : Nat) : CTab := ⟨fun f => bif Nat.beq f 17 then sig_strings_Builder_String else bif Nat.beq f 18 then sig_lex_lexer_gives else bif Nat.beq f 45 then sig_strings_Builder_WriteByte else bif Nat.beq f 46 then sig_lex_lexer_taken else [], fun f {_} ps hp K => bif Nat.beq f 17 then run_strings_Builder_String k ps hp K else bif Nat.beq f 18 then run_lex_lexer_gives k ps hp K else bif Nat.beq f 45 then run_strings_Builder_WriteByte k ps hp K else bif Nat.beq f 46 then run_lex_lexer_taken k ps hp K else none⟩
def wrap_lex_lexer_double {R : Type} (K : (Int → Int → (List UInt8) → Int → (List (Int × (Int × (Int × ((List UInt8) × Bool))))) → (List UInt8) → Int → Option R)) (E : (Int → Int → (List UInt8) → Int → (List (Int × (Int × (Int × ((List UInt8) × Bool))))) → Int → Int → Option R)) : Out → Option R
  | .ret [.v .str y5, .v (.int .i64) y6] [(21, .row 25 (.pr (.int .i64) (.pr (.int .i64) (.pr (.int .i64) (.pr .str .bool)))) y4), (1, .var 40 [.v (.int .i64) y0, .v (.int .i64) y1, .v .str y2, .v (.int .i64) y3, .row 21])] => K y0 y1 y2 y3 y4 y5 y6
  | .pan (.ifc 28 (.agg [.v (.int .i64) z5, .v (.int .i64) z6])) [(21, .row 25 (.pr (.int .i64) (.pr (.int .i64) (.pr (.int .i64) (.pr .str .bool)))) z4), (1, .var 40 [.v (.int .i64) z0, .v (.int .i64) z1, .v .str z2, .v (.int .i64) z3, .row 21])] => E z0 z1 z2 z3 z4 z5 z6
  | _ => none
def sp_lex_lexer_double : RetSpec := ⟨[.any, .any], [(1, .obj 1 [.any, .any, .any, .any, .own 21 25 (.pr (.int .i64) (.pr (.int .i64) (.pr (.int .i64) (.pr .str .bool))))])], [(1, .obj 1 [.any, .any, .any, .any, .own 21 25 (.pr (.int .i64) (.pr (.int .i64) (.pr (.int .i64) (.pr .str .bool))))])]⟩
def cuts_lex_lexer_double : List (Nat × CutSpec) := [(1003, ⟨[(0, .obj 1 [.any, .any, .any, .any, .own 21 25 (.pr (.int .i64) (.pr (.int .i64) (.pr (.int .i64) (.pr .str .bool))))]), (1, .any), (6, .obj 16 [.nps 16, .own 36 5 (.int .u8)]), (7, .any)], [(1, .obj 1 [.any, .any, .any, .any, .own 21 25 (.pr (.int .i64) (.pr (.int .i64) (.pr (.int .i64) (.pr .str .bool))))])]⟩)]
def plans_lex_lexer_double : List (Nat × Plan) := []
noncomputable def cx_lex_lexer_double (k : Nat) : Ctx := ⟨tyT, cuts_lex_lexer_double, C_lex_lexer_double k, [], [1], plans_lex_lexer_double⟩
noncomputable def code_lex_lexer_double : Code := Tryd.f34.body.getD .skip
def st_lex_lexer_double_1003 (s0 : Int) (s1 : Int) (s2 : (List UInt8)) (s3 : Int) (s4 : (List (Int × (Int × (Int × ((List UInt8) × Bool)))))) (s5 : (List UInt8)) (s6 : (List Int)) (s7 : Int) : St := ⟨mkT [(0, .ptr 1 0), (1, .v .str s5), (6, .ptr 16 0), (7, .v (.int .i64) s7)], mkH [(21, .row 25 (.pr (.int .i64) (.pr (.int .i64) (.pr (.int .i64) (.pr .str .bool)))) s4), (1, .var 40 [.v (.int .i64) s0, .v (.int .i64) s1, .v .str s2, .v (.int .i64) s3, .row 21]), (36, .row 5 (.int .u8) s6), (16, .var 45 [.nps 16, .row 36])]⟩
noncomputable def B_lex_lexer_double_1003 (k : Nat) {R : Type} (E1003 : (Int → Int → (List UInt8) → Int → (List (Int × (Int × (Int × ((List UInt8) × Bool))))) → (List UInt8) → (List Int) → Int → Option R)) (s0 : Int) (s1 : Int) (s2 : (List UInt8)) (s3 : Int) (s4 : (List (Int × (Int × (Int × ((List UInt8) × Bool)))))) (s5 : (List UInt8)) (s6 : (List Int)) (s7 : Int) (K : (Int → Int → (List UInt8) → Int → (List (Int × (Int × (Int × ((List UInt8) × Bool))))) → (List UInt8) → Int → Option R)) (E : (Int → Int → (List UInt8) → Int → (List (Int × (Int × (Int × ((List UInt8) × Bool))))) → Int → Int → Option R)) : Option R := (@cond (@Option R) (@Decidable.decide (@LT.lt @Int @Int.instLTInt s7 (@Nat.cast @Int @instNatCastInt (@List.length @UInt8 s5))) (@Int.decLt s7 (@Nat.cast @Int @instNatCastInt (@List.length @UInt8 s5)))) (@cond (@Option R) (@inb s7 (@Nat.cast @Int @instNatCastInt (@List.length @UInt8 s5))) (@cond (@Option R) (@BEq.beq @Int (@instBEqOfDecidableEq @Int @Int.instDecidableEq) (@Nat.cast @Int @instNatCastInt (@UInt8.toNat (@List.getD @UInt8 s5 (@Int.toNat s7) (0 : @UInt8)))) (34 : @Int)) (@F_strings_Builder_String k R s6 (fun (y13 : (@List @Int)) => (fun (y14 : (@List @UInt8)) => (K s0 s1 s2 s3 s4 y14 (@Go.IntKind.wrap @Go.IntKind.i64 (@HAdd.hAdd @Int @Int @Int (@instHAdd @Int @Int.instAdd) s7 (1 : @Int))))))) (@cond (@Option R) (@BEq.beq @Int (@instBEqOfDecidableEq @Int @Int.instDecidableEq) (@Nat.cast @Int @instNatCastInt (@UInt8.toNat (@List.getD @UInt8 s5 (@Int.toNat s7) (0 : @UInt8)))) (92 : @Int)) (@cond (@Option R) (@bnd (@Go.IntKind.wrap @Go.IntKind.i64 (@HAdd.hAdd @Int @Int @Int (@instHAdd @Int @Int.instAdd) s7 (1 : @Int))) (@Nat.cast @Int @instNatCastInt (@List.length @UInt8 s5)) (@Nat.cast @Int @instNatCastInt (@List.length @UInt8 s5))) (@F_lex_lexer_taken k R s0 s1 s2 s3 s4 (@cut @UInt8 s5 (@Go.IntKind.wrap @Go.IntKind.i64 (@HAdd.hAdd @Int @Int @Int (@instHAdd @Int @Int.instAdd) s7 (1 : @Int))) (@Nat.cast @Int @instNatCastInt (@List.length @UInt8 s5))) (fun (y13 : @Int) => (fun (y14 : @Int) => (fun (y15 : (@List @UInt8)) => (fun (y16 : @Int) => (fun (y17 : (@List (@Prod @Int (@Prod @Int (@Prod @Int (@Prod (@List @UInt8) @Bool)))))) => (fun (y18 : @Int) => (fun (y19 : @Int) => (@F_strings_Builder_WriteByte k R s6 y18 (fun (y20 : (@List @Int)) => (E1003 y13 y14 y15 y16 y17 s5 y20 (@Go.IntKind.wrap @Go.IntKind.i64 (@HAdd.hAdd @Int @Int @Int (@instHAdd @Int @Int.instAdd) (@Go.IntKind.wrap @Go.IntKind.i64 (@HAdd.hAdd @Int @Int @Int (@instHAdd @Int @Int.instAdd) s7 y19)) (1 : @Int))))))))))))) (fun (y13 : @Int) => (fun (y14 : @Int) => (fun (y15 : (@List @UInt8)) => (fun (y16 : @Int) => (fun (y17 : (@List (@Prod @Int (@Prod @Int (@Prod @Int (@Prod (@List @UInt8) @Bool)))))) => (fun (y18 : @Int) => (fun (y19 : @Int) => (E y13 y14 y15 y16 y17 y18 y19))))))))) (@Option.none R)) (@cond (@Option R) (@inb s7 (@Nat.cast @Int @instNatCastInt (@List.length @UInt8 s5))) (@F_strings_Builder_WriteByte k R s6 (@Nat.cast @Int @instNatCastInt (@UInt8.toNat (@List.getD @UInt8 s5 (@Int.toNat s7) (0 : @UInt8)))) (fun (y13 : (@List @Int)) => (E1003 s0 s1 s2 s3 s4 s5 y13 (@Go.IntKind.wrap @Go.IntKind.i64 (@HAdd.hAdd @Int @Int @Int (@instHAdd @Int @Int.instAdd) s7 (1 : @Int)))))) (@Option.none R)))) (@Option.none R)) (@F_lex_lexer_gives k R s0 s1 s2 s3 s4 (3 : @Int) (fun (y13 : @Int) => (fun (y14 : @Int) => (fun (y15 : (@List @UInt8)) => (fun (y16 : @Int) => (fun (y17 : (@List (@Prod @Int (@Prod @Int (@Prod @Int (@Prod (@List @UInt8) @Bool)))))) => (K y13 y14 y15 y16 y17 (@List.nil @UInt8) (0 : @Int))))))) (fun (y13 : @Int) => (fun (y14 : @Int) => (fun (y15 : (@List @UInt8)) => (fun (y16 : @Int) => (fun (y17 : (@List (@Prod @Int (@Prod @Int (@Prod @Int (@Prod (@List @UInt8) @Bool)))))) => (fun (y18 : @Int) => (fun (y19 : @Int) => (E y13 y14 y15 y16 y17 y18 y19))))))))))
theorem B_lex_lexer_double_1003_eq (k : Nat) {R : Type} (I : Nat → St → Option R) (s0 : Int) (s1 : Int) (s2 : (List UInt8)) (s3 : Int) (s4 : (List (Int × (Int × (Int × ((List UInt8) × Bool)))))) (s5 : (List UInt8)) (s6 : (List Int)) (s7 : Int) (K : (Int → Int → (List UInt8) → Int → (List (Int × (Int × (Int × ((List UInt8) × Bool))))) → (List UInt8) → Int → Option R)) (E : (Int → Int → (List UInt8) → Int → (List (Int × (Int × (Int × ((List UInt8) × Bool))))) → Int → Int → Option R)) : execK (cx_lex_lexer_double k) k (at_ [1, 1, 0, 1, 0, 0] code_lex_lexer_double) (st_lex_lexer_double_1003 s0 s1 s2 s3 s4 s5 s6 s7) (konts (cx_lex_lexer_double k) k I [1, 1, 0, 1, 0, 0] code_lex_lexer_double (outK (cx_lex_lexer_double k) sp_lex_lexer_double [.tmp 4, .tmp 5] (wrap_lex_lexer_double K E))) = B_lex_lexer_double_1003 k (fun s0 s1 s2 s3 s4 s5 s6 s7 => I 1003 (st_lex_lexer_double_1003 s0 s1 s2 s3 s4 s5 s6 s7)) s0 s1 s2 s3 s4 s5 s6 s7 K E := by kernel_rfl
noncomputable def A_lex_lexer_double (k : Nat) {R : Type} (E1003 : (Int → Int → (List UInt8) → Int → (List (Int × (Int × (Int × ((List UInt8) × Bool))))) → (List UInt8) → (List Int) → Int → Option R)) (x0 : Int) (x1 : Int) (x2 : (List UInt8)) (x3 : Int) (x4 : (List (Int × (Int × (Int × ((List UInt8) × Bool)))))) (x5 : (List UInt8)) (K : (Int → Int → (List UInt8) → Int → (List (Int × (Int × (Int × ((List UInt8) × Bool))))) → (List UInt8) → Int → Option R)) (E : (Int → Int → (List UInt8) → Int → (List (Int × (Int × (Int × ((List UInt8) × Bool))))) → Int → Int → Option R)) : Option R := (E1003 x0 x1 x2 x3 x4 x5 (@List.nil (@Kd.T (@Kd.int @Go.IntKind.u8))) (1 : @Int))
theorem A_lex_lexer_double_eq (k : Nat) {R : Type} (I : Nat → St → Option R) (x0 : Int) (x1 : Int) (x2 : (List UInt8)) (x3 : Int) (x4 : (List (Int × (Int × (Int × ((List UInt8) × Bool)))))) (x5 : (List UInt8)) (K : (Int → Int → (List UInt8) → Int → (List (Int × (Int × (Int × ((List UInt8) × Bool))))) → (List UInt8) → Int → Option R)) (E : (Int → Int → (List UInt8) → Int → (List (Int × (Int × (Int × ((List UInt8) × Bool))))) → Int → Int → Option R)) : fnK (cx_lex_lexer_double k) k code_lex_lexer_double 46 [.tmp 4, .tmp 5] sp_lex_lexer_double [.ptr 1 0, .v .str x5] [(21, .row 25 (.pr (.int .i64) (.pr (.int .i64) (.pr (.int .i64) (.pr .str .bool)))) x4), (1, .var 40 [.v (.int .i64) x0, .v (.int .i64) x1, .v .str x2, .v (.int .i64) x3, .row 21])] (wrap_lex_lexer_double K E) = A_lex_lexer_double k (fun s0 s1 s2 s3 s4 s5 s6 s7 => iter (cx_lex_lexer_double k).pv (look (cx_lex_lexer_double k).cuts 1003) (execK (cx_lex_lexer_double k) k (at_ [1, 1, 0, 1, 0, 0] code_lex_lexer_double)) k (st_lex_lexer_double_1003 s0 s1 s2 s3 s4 s5 s6 s7) (konts (cx_lex_lexer_double k) k I [1, 1, 0, 1, 0] code_lex_lexer_double (outK (cx_lex_lexer_double k) sp_lex_lexer_double [.tmp 4, .tmp 5] (wrap_lex_lexer_double K E)))) x0 x1 x2 x3 x4 x5 K E := by kernel_rfl
noncomputable def L_lex_lexer_double_1003 (k : Nat) {R : Type}  : Nat → Int → Int → (List UInt8) → Int → (List (Int × (Int × (Int × ((List UInt8) × Bool))))) → (List UInt8) → (List Int) → Int → (Int → Int → (List UInt8) → Int → (List (Int × (Int × (Int × ((List UInt8) × Bool))))) → (List UInt8) → Int → Option R) → (Int → Int → (List UInt8) → Int → (List (Int × (Int × (Int × ((List UInt8) × Bool))))) → Int → Int → Option R) → Option R
  | 0, _, _, _, _, _, _, _, _, _, _ => none
  | n + 1, s0, s1, s2, s3, s4, s5, s6, s7, K, E => B_lex_lexer_double_1003 k (fun s0 s1 s2 s3 s4 s5 s6 s7 => L_lex_lexer_double_1003 k  n s0 s1 s2 s3 s4 s5 s6 s7 K E) s0 s1 s2 s3 s4 s5 s6 s7 K E
theorem L_lex_lexer_double_1003_eq (k : Nat) {R : Type} (I : Nat → St → Option R) (K : (Int → Int → (List UInt8) → Int → (List (Int × (Int × (Int × ((List UInt8) × Bool))))) → (List UInt8) → Int → Option R)) (E : (Int → Int → (List UInt8) → Int → (List (Int × (Int × (Int × ((List UInt8) × Bool))))) → Int → Int → Option R)) : ∀ (n : Nat) (s0 : Int) (s1 : Int) (s2 : (List UInt8)) (s3 : Int) (s4 : (List (Int × (Int × (Int × ((List UInt8) × Bool)))))) (s5 : (List UInt8)) (s6 : (List Int)) (s7 : Int), iter (cx_lex_lexer_double k).pv (look (cx_lex_lexer_double k).cuts 1003) (execK (cx_lex_lexer_double k) k (at_ [1, 1, 0, 1, 0, 0] code_lex_lexer_double)) n (st_lex_lexer_double_1003 s0 s1 s2 s3 s4 s5 s6 s7) (konts (cx_lex_lexer_double k) k I [1, 1, 0, 1, 0] code_lex_lexer_double (outK (cx_lex_lexer_double k) sp_lex_lexer_double [.tmp 4, .tmp 5] (wrap_lex_lexer_double K E))) = L_lex_lexer_double_1003 k  n s0 s1 s2 s3 s4 s5 s6 s7 K E := by
  intro n
  induction n with
  | zero => intros; rfl
  | succ n ih =>
    intro s0 s1 s2 s3 s4 s5 s6 s7
    let I' : Nat → St → Option R := fun id s => bif Nat.beq id 1003 then iter (cx_lex_lexer_double k).pv (look (cx_lex_lexer_double k).cuts 1003) (execK (cx_lex_lexer_double k) k (at_ [1, 1, 0, 1, 0, 0] code_lex_lexer_double)) n s (konts (cx_lex_lexer_double k) k I [1, 1, 0, 1, 0] code_lex_lexer_double (outK (cx_lex_lexer_double k) sp_lex_lexer_double [.tmp 4, .tmp 5] (wrap_lex_lexer_double K E))) else I id s
    have e := B_lex_lexer_double_1003_eq k I' s0 s1 s2 s3 s4 s5 s6 s7 K E
    have h1003 : (fun s0 s1 s2 s3 s4 s5 s6 s7 => I' 1003 (st_lex_lexer_double_1003 s0 s1 s2 s3 s4 s5 s6 s7)) = (fun s0 s1 s2 s3 s4 s5 s6 s7 => L_lex_lexer_double_1003 k  n s0 s1 s2 s3 s4 s5 s6 s7 K E) := by funext s0 s1 s2 s3 s4 s5 s6 s7; exact ih s0 s1 s2 s3 s4 s5 s6 s7
    refine Eq.trans (?_ : _ = _) (e.trans (Eq.trans ((congrArg ((fun E1003 => B_lex_lexer_double_1003 k E1003 s0 s1 s2 s3 s4 s5 s6 s7 K E)) h1003)) (by rw [L_lex_lexer_double_1003])))
    rfl
noncomputable def F_lex_lexer_double (k : Nat) {R : Type} (x0 : Int) (x1 : Int) (x2 : (List UInt8)) (x3 : Int) (x4 : (List (Int × (Int × (Int × ((List UInt8) × Bool)))))) (x5 : (List UInt8)) (K : (Int → Int → (List UInt8) → Int → (List (Int × (Int × (Int × ((List UInt8) × Bool))))) → (List UInt8) → Int → Option R)) (E : (Int → Int → (List UInt8) → Int → (List (Int × (Int × (Int × ((List UInt8) × Bool))))) → Int → Int → Option R)) : Option R := A_lex_lexer_double k (fun s0 s1 s2 s3 s4 s5 s6 s7 => L_lex_lexer_double_1003 k k s0 s1 s2 s3 s4 s5 s6 s7 K E) x0 x1 x2 x3 x4 x5 K E
theorem F_lex_lexer_double_eq (k : Nat) {R : Type} (x0 : Int) (x1 : Int) (x2 : (List UInt8)) (x3 : Int) (x4 : (List (Int × (Int × (Int × ((List UInt8) × Bool)))))) (x5 : (List UInt8)) (K : (Int → Int → (List UInt8) → Int → (List (Int × (Int × (Int × ((List UInt8) × Bool))))) → (List UInt8) → Int → Option R)) (E : (Int → Int → (List UInt8) → Int → (List (Int × (Int × (Int × ((List UInt8) × Bool))))) → Int → Int → Option R)) : fnK (cx_lex_lexer_double k) k code_lex_lexer_double 46 [.tmp 4, .tmp 5] sp_lex_lexer_double [.ptr 1 0, .v .str x5] [(21, .row 25 (.pr (.int .i64) (.pr (.int .i64) (.pr (.int .i64) (.pr .str .bool)))) x4), (1, .var 40 [.v (.int .i64) x0, .v (.int .i64) x1, .v .str x2, .v (.int .i64) x3, .row 21])] (wrap_lex_lexer_double K E) = F_lex_lexer_double k x0 x1 x2 x3 x4 x5 K E := by
  let I : Nat → St → Option R := fun _ _ => none
  have h1003 : (fun s0 s1 s2 s3 s4 s5 s6 s7 => iter (cx_lex_lexer_double k).pv (look (cx_lex_lexer_double k).cuts 1003) (execK (cx_lex_lexer_double k) k (at_ [1, 1, 0, 1, 0, 0] code_lex_lexer_double)) k (st_lex_lexer_double_1003 s0 s1 s2 s3 s4 s5 s6 s7) (konts (cx_lex_lexer_double k) k I [1, 1, 0, 1, 0] code_lex_lexer_double (outK (cx_lex_lexer_double k) sp_lex_lexer_double [.tmp 4, .tmp 5] (wrap_lex_lexer_double K E)))) = (fun s0 s1 s2 s3 s4 s5 s6 s7 => L_lex_lexer_double_1003 k k s0 s1 s2 s3 s4 s5 s6 s7 K E) := by funext s0 s1 s2 s3 s4 s5 s6 s7; exact L_lex_lexer_double_1003_eq k I K E k s0 s1 s2 s3 s4 s5 s6 s7
  exact (A_lex_lexer_double_eq k I x0 x1 x2 x3 x4 x5 K E).trans (congrArg ((fun E1003 => A_lex_lexer_double k E1003 x0 x1 x2 x3 x4 x5 K E)) h1003)
noncomputable def run_lex_lexer_double (k : Nat) {R : Type} : List PV → List (Nm × HObj) → (Out → Option R) → Option R
  | [.ptr 1 0, .v .str x5], [(21, .row 25 (.pr (.int .i64) (.pr (.int .i64) (.pr (.int .i64) (.pr .str .bool)))) x4), (1, .var 40 [.v (.int .i64) x0, .v (.int .i64) x1, .v .str x2, .v (.int .i64) x3, .row 21])], K => F_lex_lexer_double k x0 x1 x2 x3 x4 x5 (fun y0 y1 y2 y3 y4 y5 y6 => K (.ret [.v .str y5, .v (.int .i64) y6] [(21, .row 25 (.pr (.int .i64) (.pr (.int .i64) (.pr (.int .i64) (.pr .str .bool)))) y4), (1, .var 40 [.v (.int .i64) y0, .v (.int .i64) y1, .v .str y2, .v (.int .i64) y3, .row 21])])) (fun z0 z1 z2 z3 z4 z5 z6 => K (.pan (.ifc 28 (.agg [.v (.int .i64) z5, .v (.int .i64) z6])) [(21, .row 25 (.pr (.int .i64) (.pr (.int .i64) (.pr (.int .i64) (.pr .str .bool)))) z4), (1, .var 40 [.v (.int .i64) z0, .v (.int .i64) z1, .v .str z2, .v (.int .i64) z3, .row 21])]))
  | _, _, _ => none
theorem C_lex_lexer_double_ok (k : Nat) : (C_lex_lexer_double k).Ok Tryd.prog := by
  intro f ps hp R K r h
  unfold C_lex_lexer_double at h
  simp only at h
  cases hb17 : Nat.beq f 17 with
  | true => rw [hb17, cond_true] at h; rw [Nat.eq_of_beq_eq_true hb17]; exact D_strings_Builder_String k h
  | false =>
  rw [hb17, cond_false] at h
  cases hb18 : Nat.beq f 18 with
  | true => rw [hb18, cond_true] at h; rw [Nat.eq_of_beq_eq_true hb18]; exact D_lex_lexer_gives k h
  | false =>
  rw [hb18, cond_false] at h
  cases hb45 : Nat.beq f 45 with
  | true => rw [hb45, cond_true] at h; rw [Nat.eq_of_beq_eq_true hb45]; exact D_strings_Builder_WriteByte k h
  | false =>
  rw [hb45, cond_false] at h
  cases hb46 : Nat.beq f 46 with
  | true => rw [hb46, cond_true] at h; rw [Nat.eq_of_beq_eq_true hb46]; exact D_lex_lexer_taken k h
  | false =>
  rw [hb46, cond_false] at h
  cases h
theorem D_lex_lexer_double (k : Nat) {ps : List PV} {hp : List (Nm × HObj)} {R : Type} {K : Out → Option R} {r : R} (h : run_lex_lexer_double k ps hp K = some r) : DoesTo Tryd.prog 34 ps hp fun out => K out = some r := by
  unfold run_lex_lexer_double at h
  split at h
  · rw [← F_lex_lexer_double_eq] at h
    have := fn_ok (P := Tryd.prog) (cx := cx_lex_lexer_double k) (f := 34) ⟨tyT_ok, C_lex_lexer_double_ok k⟩ (by kernel_rfl) (fn := Tryd.f34) (c := code_lex_lexer_double) (by kernel_rfl) (by kernel_rfl) (by kernel_rfl) (rs := [.tmp 4, .tmp 5]) (by kernel_rfl) (by kernel_rfl) h
    exact this.mono fun out ho => by
      unfold wrap_lex_lexer_double at ho
      split at ho <;> first | exact ho | cases ho
  · cases h
end Go.Proofs.YtfbagjjnfpgjkaaDoor.Pvm

set_option maxRecDepth 1000000
set_option maxHeartbeats 0
set_option linter.unusedVariables false
namespace Go.Proofs.YtfbagjjnfpgjkaaDoor.Pvm
open Go Go.Proofs
def sig_lex_lexer_single : List LS := [.obj 1 [.any, .any, .any, .any, .own 21 25 (.pr (.int .i64) (.pr (.int .i64) (.pr (.int .i64) (.pr .str .bool))))], .any]
noncomputable def C_lex_lexer_single (k : Nat) : CTab := ⟨fun f => bif Nat.beq f 17 then sig_strings_Builder_String else bif Nat.beq f 18 then sig_lex_lexer_gives else bif Nat.beq f 45 then sig_strings_Builder_WriteByte else [], fun f {_} ps hp K => bif Nat.beq f 17 then run_strings_Builder_String k ps hp K else bif Nat.beq f 18 then run_lex_lexer_gives k ps hp K else bif Nat.beq f 45 then run_strings_Builder_WriteByte k ps hp K else none⟩
def wrap_lex_lexer_single {R : Type} (K : (Int → Int → (List UInt8) → Int → (List (Int × (Int × (Int × ((List UInt8) × Bool))))) → (List UInt8) → Int → Option R)) (E : (Int → Int → (List UInt8) → Int → (List (Int × (Int × (Int × ((List UInt8) × Bool))))) → Int → Int → Option R)) : Out → Option R
  | .ret [.v .str y5, .v (.int .i64) y6] [(21, .row 25 (.pr (.int .i64) (.pr (.int .i64) (.pr (.int .i64) (.pr .str .bool)))) y4), (1, .var 40 [.v (.int .i64) y0, .v (.int .i64) y1, .v .str y2, .v (.int .i64) y3, .row 21])] => K y0 y1 y2 y3 y4 y5 y6
  | .pan (.ifc 28 (.agg [.v (.int .i64) z5, .v (.int .i64) z6])) [(21, .row 25 (.pr (.int .i64) (.pr (.int .i64) (.pr (.int .i64) (.pr .str .bool)))) z4), (1, .var 40 [.v (.int .i64) z0, .v (.int .i64) z1, .v .str z2, .v (.int .i64) z3, .row 21])] => E z0 z1 z2 z3 z4 z5 z6
  | _ => none
def sp_lex_lexer_single : RetSpec := ⟨[.any, .any], [(1, .obj 1 [.any, .any, .any, .any, .own 21 25 (.pr (.int .i64) (.pr (.int .i64) (.pr (.int .i64) (.pr .str .bool))))])], [(1, .obj 1 [.any, .any, .any, .any, .own 21 25 (.pr (.int .i64) (.pr (.int .i64) (.pr (.int .i64) (.pr .str .bool))))])]⟩
def cuts_lex_lexer_single : List (Nat × CutSpec) := [(1003, ⟨[(0, .obj 1 [.any, .any, .any, .any, .own 21 25 (.pr (.int .i64) (.pr (.int .i64) (.pr (.int .i64) (.pr .str .bool))))]), (1, .any), (6, .obj 16 [.nps 16, .own 36 5 (.int .u8)]), (7, .any)], [(1, .obj 1 [.any, .any, .any, .any, .own 21 25 (.pr (.int .i64) (.pr (.int .i64) (.pr (.int .i64) (.pr .str .bool))))])]⟩)]
def plans_lex_lexer_single : List (Nat × Plan) := []
noncomputable def cx_lex_lexer_single (k : Nat) : Ctx := ⟨tyT, cuts_lex_lexer_single, C_lex_lexer_single k, [], [1], plans_lex_lexer_single⟩
noncomputable def code_lex_lexer_single : Code := Tryd.f33.body.getD .skip
def st_lex_lexer_single_1003 (s0 : Int) (s1 : Int) (s2 : (List UInt8)) (s3 : Int) (s4 : (List (Int × (Int × (Int × ((List UInt8) × Bool)))))) (s5 : (List UInt8)) (s6 : (List Int)) (s7 : Int) : St := ⟨mkT [(0, .ptr 1 0), (1, .v .str s5), (6, .ptr 16 0), (7, .v (.int .i64) s7)], mkH [(21, .row 25 (.pr (.int .i64) (.pr (.int .i64) (.pr (.int .i64) (.pr .str .bool)))) s4), (1, .var 40 [.v (.int .i64) s0, .v (.int .i64) s1, .v .str s2, .v (.int .i64) s3, .row 21]), (36, .row 5 (.int .u8) s6), (16, .var 45 [.nps 16, .row 36])]⟩
noncomputable def B_lex_lexer_single_1003 (k : Nat) {R : Type} (E1003 : (Int → Int → (List UInt8) → Int → (List (Int × (Int × (Int × ((List UInt8) × Bool))))) → (List UInt8) → (List Int) → Int → Option R)) (s0 : Int) (s1 : Int) (s2 : (List UInt8)) (s3 : Int) (s4 : (List (Int × (Int × (Int × ((List UInt8) × Bool)))))) (s5 : (List UInt8)) (s6 : (List Int)) (s7 : Int) (K : (Int → Int → (List UInt8) → Int → (List (Int × (Int × (Int × ((List UInt8) × Bool))))) → (List UInt8) → Int → Option R)) (E : (Int → Int → (List UInt8) → Int → (List (Int × (Int × (Int × ((List UInt8) × Bool))))) → Int → Int → Option R)) : Option R := (@cond (@Option R) (@Decidable.decide (@LT.lt @Int @Int.instLTInt s7 (@Nat.cast @Int @instNatCastInt (@List.length @UInt8 s5))) (@Int.decLt s7 (@Nat.cast @Int @instNatCastInt (@List.length @UInt8 s5)))) (@cond (@Option R) (@inb s7 (@Nat.cast @Int @instNatCastInt (@List.length @UInt8 s5))) (@cond (@Option R) (@bne @Int (@instBEqOfDecidableEq @Int @Int.instDecidableEq) (@Nat.cast @Int @instNatCastInt (@UInt8.toNat (@List.getD @UInt8 s5 (@Int.toNat s7) (0 : @UInt8)))) (39 : @Int)) (@cond (@Option R) (@inb s7 (@Nat.cast @Int @instNatCastInt (@List.length @UInt8 s5))) (@F_strings_Builder_WriteByte k R s6 (@Nat.cast @Int @instNatCastInt (@UInt8.toNat (@List.getD @UInt8 s5 (@Int.toNat s7) (0 : @UInt8)))) (fun (y13 : (@List @Int)) => (E1003 s0 s1 s2 s3 s4 s5 y13 (@Go.IntKind.wrap @Go.IntKind.i64 (@HAdd.hAdd @Int @Int @Int (@instHAdd @Int @Int.instAdd) s7 (1 : @Int)))))) (@Option.none R)) (@cond (@Option R) (@Bool.or (@Bool.not (@BEq.beq (@Kd.T @Kd.bool) (@instBEqOfDecidableEq (@Kd.T @Kd.bool) @instDecidableEqBool) (@Decidable.decide (@GE.ge @Int @Int.instLEInt (@Go.IntKind.wrap @Go.IntKind.i64 (@HAdd.hAdd @Int @Int @Int (@instHAdd @Int @Int.instAdd) s7 (1 : @Int))) (@Nat.cast @Int @instNatCastInt (@List.length @UInt8 s5))) (@Int.decLe (@Nat.cast @Int @instNatCastInt (@List.length @UInt8 s5)) (@Go.IntKind.wrap @Go.IntKind.i64 (@HAdd.hAdd @Int @Int @Int (@instHAdd @Int @Int.instAdd) s7 (1 : @Int))))) @Bool.false)) (@inb (@Go.IntKind.wrap @Go.IntKind.i64 (@HAdd.hAdd @Int @Int @Int (@instHAdd @Int @Int.instAdd) s7 (1 : @Int))) (@Nat.cast @Int @instNatCastInt (@List.length @UInt8 s5)))) (@cond (@Option R) (@cond (@Kd.T @Kd.bool) (@Decidable.decide (@GE.ge @Int @Int.instLEInt (@Go.IntKind.wrap @Go.IntKind.i64 (@HAdd.hAdd @Int @Int @Int (@instHAdd @Int @Int.instAdd) s7 (1 : @Int))) (@Nat.cast @Int @instNatCastInt (@List.length @UInt8 s5))) (@Int.decLe (@Nat.cast @Int @instNatCastInt (@List.length @UInt8 s5)) (@Go.IntKind.wrap @Go.IntKind.i64 (@HAdd.hAdd @Int @Int @Int (@instHAdd @Int @Int.instAdd) s7 (1 : @Int))))) @Bool.true (@bne @Int (@instBEqOfDecidableEq @Int @Int.instDecidableEq) (@Nat.cast @Int @instNatCastInt (@UInt8.toNat (@List.getD @UInt8 s5 (@Int.toNat (@Go.IntKind.wrap @Go.IntKind.i64 (@HAdd.hAdd @Int @Int @Int (@instHAdd @Int @Int.instAdd) s7 (1 : @Int)))) (0 : @UInt8)))) (39 : @Int))) (@F_strings_Builder_String k R s6 (fun (y13 : (@List @Int)) => (fun (y14 : (@List @UInt8)) => (K s0 s1 s2 s3 s4 y14 (@Go.IntKind.wrap @Go.IntKind.i64 (@HAdd.hAdd @Int @Int @Int (@instHAdd @Int @Int.instAdd) s7 (1 : @Int))))))) (@F_strings_Builder_WriteByte k R s6 (39 : @Int) (fun (y13 : (@List @Int)) => (E1003 s0 s1 s2 s3 s4 s5 y13 (@Go.IntKind.wrap @Go.IntKind.i64 (@HAdd.hAdd @Int @Int @Int (@instHAdd @Int @Int.instAdd) (@Go.IntKind.wrap @Go.IntKind.i64 (@HAdd.hAdd @Int @Int @Int (@instHAdd @Int @Int.instAdd) s7 (1 : @Int))) (1 : @Int))))))) (@Option.none R))) (@Option.none R)) (@F_lex_lexer_gives k R s0 s1 s2 s3 s4 (3 : @Int) (fun (y13 : @Int) => (fun (y14 : @Int) => (fun (y15 : (@List @UInt8)) => (fun (y16 : @Int) => (fun (y17 : (@List (@Prod @Int (@Prod @Int (@Prod @Int (@Prod (@List @UInt8) @Bool)))))) => (K y13 y14 y15 y16 y17 (@List.nil @UInt8) (0 : @Int))))))) (fun (y13 : @Int) => (fun (y14 : @Int) => (fun (y15 : (@List @UInt8)) => (fun (y16 : @Int) => (fun (y17 : (@List (@Prod @Int (@Prod @Int (@Prod @Int (@Prod (@List @UInt8) @Bool)))))) => (fun (y18 : @Int) => (fun (y19 : @Int) => (E y13 y14 y15 y16 y17 y18 y19))))))))))
theorem B_lex_lexer_single_1003_eq (k : Nat) {R : Type} (I : Nat → St → Option R) (s0 : Int) (s1 : Int) (s2 : (List UInt8)) (s3 : Int) (s4 : (List (Int × (Int × (Int × ((List UInt8) × Bool)))))) (s5 : (List UInt8)) (s6 : (List Int)) (s7 : Int) (K : (Int → Int → (List UInt8) → Int → (List (Int × (Int × (Int × ((List UInt8) × Bool))))) → (List UInt8) → Int → Option R)) (E : (Int → Int → (List UInt8) → Int → (List (Int × (Int × (Int × ((List UInt8) × Bool))))) → Int → Int → Option R)) : execK (cx_lex_lexer_single k) k (at_ [1, 1, 0, 1, 0, 0] code_lex_lexer_single) (st_lex_lexer_single_1003 s0 s1 s2 s3 s4 s5 s6 s7) (konts (cx_lex_lexer_single k) k I [1, 1, 0, 1, 0, 0] code_lex_lexer_single (outK (cx_lex_lexer_single k) sp_lex_lexer_single [.tmp 4, .tmp 5] (wrap_lex_lexer_single K E))) = B_lex_lexer_single_1003 k (fun s0 s1 s2 s3 s4 s5 s6 s7 => I 1003 (st_lex_lexer_single_1003 s0 s1 s2 s3 s4 s5 s6 s7)) s0 s1 s2 s3 s4 s5 s6 s7 K E := by kernel_rfl
noncomputable def A_lex_lexer_single (k : Nat) {R : Type} (E1003 : (Int → Int → (List UInt8) → Int → (List (Int × (Int × (Int × ((List UInt8) × Bool))))) → (List UInt8) → (List Int) → Int → Option R)) (x0 : Int) (x1 : Int) (x2 : (List UInt8)) (x3 : Int) (x4 : (List (Int × (Int × (Int × ((List UInt8) × Bool)))))) (x5 : (List UInt8)) (K : (Int → Int → (List UInt8) → Int → (List (Int × (Int × (Int × ((List UInt8) × Bool))))) → (List UInt8) → Int → Option R)) (E : (Int → Int → (List UInt8) → Int → (List (Int × (Int × (Int × ((List UInt8) × Bool))))) → Int → Int → Option R)) : Option R := (E1003 x0 x1 x2 x3 x4 x5 (@List.nil (@Kd.T (@Kd.int @Go.IntKind.u8))) (1 : @Int))
theorem A_lex_lexer_single_eq (k : Nat) {R : Type} (I : Nat → St → Option R) (x0 : Int) (x1 : Int) (x2 : (List UInt8)) (x3 : Int) (x4 : (List (Int × (Int × (Int × ((List UInt8) × Bool)))))) (x5 : (List UInt8)) (K : (Int → Int → (List UInt8) → Int → (List (Int × (Int × (Int × ((List UInt8) × Bool))))) → (List UInt8) → Int → Option R)) (E : (Int → Int → (List UInt8) → Int → (List (Int × (Int × (Int × ((List UInt8) × Bool))))) → Int → Int → Option R)) : fnK (cx_lex_lexer_single k) k code_lex_lexer_single 42 [.tmp 4, .tmp 5] sp_lex_lexer_single [.ptr 1 0, .v .str x5] [(21, .row 25 (.pr (.int .i64) (.pr (.int .i64) (.pr (.int .i64) (.pr .str .bool)))) x4), (1, .var 40 [.v (.int .i64) x0, .v (.int .i64) x1, .v .str x2, .v (.int .i64) x3, .row 21])] (wrap_lex_lexer_single K E) = A_lex_lexer_single k (fun s0 s1 s2 s3 s4 s5 s6 s7 => iter (cx_lex_lexer_single k).pv (look (cx_lex_lexer_single k).cuts 1003) (execK (cx_lex_lexer_single k) k (at_ [1, 1, 0, 1, 0, 0] code_lex_lexer_single)) k (st_lex_lexer_single_1003 s0 s1 s2 s3 s4 s5 s6 s7) (konts (cx_lex_lexer_single k) k I [1, 1, 0, 1, 0] code_lex_lexer_single (outK (cx_lex_lexer_single k) sp_lex_lexer_single [.tmp 4, .tmp 5] (wrap_lex_lexer_single K E)))) x0 x1 x2 x3 x4 x5 K E := by kernel_rfl
noncomputable def L_lex_lexer_single_1003 (k : Nat) {R : Type}  : Nat → Int → Int → (List UInt8) → Int → (List (Int × (Int × (Int × ((List UInt8) × Bool))))) → (List UInt8) → (List Int) → Int → (Int → Int → (List UInt8) → Int → (List (Int × (Int × (Int × ((List UInt8) × Bool))))) → (List UInt8) → Int → Option R) → (Int → Int → (List UInt8) → Int → (List (Int × (Int × (Int × ((List UInt8) × Bool))))) → Int → Int → Option R) → Option R
  | 0, _, _, _, _, _, _, _, _, _, _ => none
  | n + 1, s0, s1, s2, s3, s4, s5, s6, s7, K, E => B_lex_lexer_single_1003 k (fun s0 s1 s2 s3 s4 s5 s6 s7 => L_lex_lexer_single_1003 k  n s0 s1 s2 s3 s4 s5 s6 s7 K E) s0 s1 s2 s3 s4 s5 s6 s7 K E
theorem L_lex_lexer_single_1003_eq (k : Nat) {R : Type} (I : Nat → St → Option R) (K : (Int → Int → (List UInt8) → Int → (List (Int × (Int × (Int × ((List UInt8) × Bool))))) → (List UInt8) → Int → Option R)) (E : (Int → Int → (List UInt8) → Int → (List (Int × (Int × (Int × ((List UInt8) × Bool))))) → Int → Int → Option R)) : ∀ (n : Nat) (s0 : Int) (s1 : Int) (s2 : (List UInt8)) (s3 : Int) (s4 : (List (Int × (Int × (Int × ((List UInt8) × Bool)))))) (s5 : (List UInt8)) (s6 : (List Int)) (s7 : Int), iter (cx_lex_lexer_single k).pv (look (cx_lex_lexer_single k).cuts 1003) (execK (cx_lex_lexer_single k) k (at_ [1, 1, 0, 1, 0, 0] code_lex_lexer_single)) n (st_lex_lexer_single_1003 s0 s1 s2 s3 s4 s5 s6 s7) (konts (cx_lex_lexer_single k) k I [1, 1, 0, 1, 0] code_lex_lexer_single (outK (cx_lex_lexer_single k) sp_lex_lexer_single [.tmp 4, .tmp 5] (wrap_lex_lexer_single K E))) = L_lex_lexer_single_1003 k  n s0 s1 s2 s3 s4 s5 s6 s7 K E := by
  intro n
  induction n with
  | zero => intros; rfl
  | succ n ih =>
    intro s0 s1 s2 s3 s4 s5 s6 s7
    let I' : Nat → St → Option R := fun id s => bif Nat.beq id 1003 then iter (cx_lex_lexer_single k).pv (look (cx_lex_lexer_single k).cuts 1003) (execK (cx_lex_lexer_single k) k (at_ [1, 1, 0, 1, 0, 0] code_lex_lexer_single)) n s (konts (cx_lex_lexer_single k) k I [1, 1, 0, 1, 0] code_lex_lexer_single (outK (cx_lex_lexer_single k) sp_lex_lexer_single [.tmp 4, .tmp 5] (wrap_lex_lexer_single K E))) else I id s
    have e := B_lex_lexer_single_1003_eq k I' s0 s1 s2 s3 s4 s5 s6 s7 K E
    have h1003 : (fun s0 s1 s2 s3 s4 s5 s6 s7 => I' 1003 (st_lex_lexer_single_1003 s0 s1 s2 s3 s4 s5 s6 s7)) = (fun s0 s1 s2 s3 s4 s5 s6 s7 => L_lex_lexer_single_1003 k  n s0 s1 s2 s3 s4 s5 s6 s7 K E) := by funext s0 s1 s2 s3 s4 s5 s6 s7; exact ih s0 s1 s2 s3 s4 s5 s6 s7
    refine Eq.trans (?_ : _ = _) (e.trans (Eq.trans ((congrArg ((fun E1003 => B_lex_lexer_single_1003 k E1003 s0 s1 s2 s3 s4 s5 s6 s7 K E)) h1003)) (by rw [L_lex_lexer_single_1003])))
    rfl
noncomputable def F_lex_lexer_single (k : Nat) {R : Type} (x0 : Int) (x1 : Int) (x2 : (List UInt8)) (x3 : Int) (x4 : (List (Int × (Int × (Int × ((List UInt8) × Bool)))))) (x5 : (List UInt8)) (K : (Int → Int → (List UInt8) → Int → (List (Int × (Int × (Int × ((List UInt8) × Bool))))) → (List UInt8) → Int → Option R)) (E : (Int → Int → (List UInt8) → Int → (List (Int × (Int × (Int × ((List UInt8) × Bool))))) → Int → Int → Option R)) : Option R := A_lex_lexer_single k (fun s0 s1 s2 s3 s4 s5 s6 s7 => L_lex_lexer_single_1003 k k s0 s1 s2 s3 s4 s5 s6 s7 K E) x0 x1 x2 x3 x4 x5 K E
theorem F_lex_lexer_single_eq (k : Nat) {R : Type} (x0 : Int) (x1 : Int) (x2 : (List UInt8)) (x3 : Int) (x4 : (List (Int × (Int × (Int × ((List UInt8) × Bool)))))) (x5 : (List UInt8)) (K : (Int → Int → (List UInt8) → Int → (List (Int × (Int × (Int × ((List UInt8) × Bool))))) → (List UInt8) → Int → Option R)) (E : (Int → Int → (List UInt8) → Int → (List (Int × (Int × (Int × ((List UInt8) × Bool))))) → Int → Int → Option R)) : fnK (cx_lex_lexer_single k) k code_lex_lexer_single 42 [.tmp 4, .tmp 5] sp_lex_lexer_single [.ptr 1 0, .v .str x5] [(21, .row 25 (.pr (.int .i64) (.pr (.int .i64) (.pr (.int .i64) (.pr .str .bool)))) x4), (1, .var 40 [.v (.int .i64) x0, .v (.int .i64) x1, .v .str x2, .v (.int .i64) x3, .row 21])] (wrap_lex_lexer_single K E) = F_lex_lexer_single k x0 x1 x2 x3 x4 x5 K E := by
  let I : Nat → St → Option R := fun _ _ => none
  have h1003 : (fun s0 s1 s2 s3 s4 s5 s6 s7 => iter (cx_lex_lexer_single k).pv (look (cx_lex_lexer_single k).cuts 1003) (execK (cx_lex_lexer_single k) k (at_ [1, 1, 0, 1, 0, 0] code_lex_lexer_single)) k (st_lex_lexer_single_1003 s0 s1 s2 s3 s4 s5 s6 s7) (konts (cx_lex_lexer_single k) k I [1, 1, 0, 1, 0] code_lex_lexer_single (outK (cx_lex_lexer_single k) sp_lex_lexer_single [.tmp 4, .tmp 5] (wrap_lex_lexer_single K E)))) = (fun s0 s1 s2 s3 s4 s5 s6 s7 => L_lex_lexer_single_1003 k k s0 s1 s2 s3 s4 s5 s6 s7 K E) := by funext s0 s1 s2 s3 s4 s5 s6 s7; exact L_lex_lexer_single_1003_eq k I K E k s0 s1 s2 s3 s4 s5 s6 s7
  exact (A_lex_lexer_single_eq k I x0 x1 x2 x3 x4 x5 K E).trans (congrArg ((fun E1003 => A_lex_lexer_single k E1003 x0 x1 x2 x3 x4 x5 K E)) h1003)
noncomputable def run_lex_lexer_single (k : Nat) {R : Type} : List PV → List (Nm × HObj) → (Out → Option R) → Option R
  | [.ptr 1 0, .v .str x5], [(21, .row 25 (.pr (.int .i64) (.pr (.int .i64) (.pr (.int .i64) (.pr .str .bool)))) x4), (1, .var 40 [.v (.int .i64) x0, .v (.int .i64) x1, .v .str x2, .v (.int .i64) x3, .row 21])], K => F_lex_lexer_single k x0 x1 x2 x3 x4 x5 (fun y0 y1 y2 y3 y4 y5 y6 => K (.ret [.v .str y5, .v (.int .i64) y6] [(21, .row 25 (.pr (.int .i64) (.pr (.int .i64) (.pr (.int .i64) (.pr .str .bool)))) y4), (1, .var 40 [.v (.int .i64) y0, .v (.int .i64) y1, .v .str y2, .v (.int .i64) y3, .row 21])])) (fun z0 z1 z2 z3 z4 z5 z6 => K (.pan (.ifc 28 (.agg [.v (.int .i64) z5, .v (.int .i64) z6])) [(21, .row 25 (.pr (.int .i64) (.pr (.int .i64) (.pr (.int .i64) (.pr .str .bool)))) z4), (1, .var 40 [.v (.int .i64) z0, .v (.int .i64) z1, .v .str z2, .v (.int .i64) z3, .row 21])]))
  | _, _, _ => none
theorem C_lex_lexer_single_ok (k : Nat) : (C_lex_lexer_single k).Ok Tryd.prog := by
  intro f ps hp R K r h
  unfold C_lex_lexer_single at h
  simp only at h
  cases hb17 : Nat.beq f 17 with
  | true => rw [hb17, cond_true] at h; rw [Nat.eq_of_beq_eq_true hb17]; exact D_strings_Builder_String k h
  | false =>
  rw [hb17, cond_false] at h
  cases hb18 : Nat.beq f 18 with
  | true => rw [hb18, cond_true] at h; rw [Nat.eq_of_beq_eq_true hb18]; exact D_lex_lexer_gives k h
  | false =>
  rw [hb18, cond_false] at h
  cases hb45 : Nat.beq f 45 with
  | true => rw [hb45, cond_true] at h; rw [Nat.eq_of_beq_eq_true hb45]; exact D_strings_Builder_WriteByte k h
  | false =>
  rw [hb45, cond_false] at h
  cases h
theorem D_lex_lexer_single (k : Nat) {ps : List PV} {hp : List (Nm × HObj)} {R : Type} {K : Out → Option R} {r : R} (h : run_lex_lexer_single k ps hp K = some r) : DoesTo Tryd.prog 33 ps hp fun out => K out = some r := by
  unfold run_lex_lexer_single at h
  split at h
  · rw [← F_lex_lexer_single_eq] at h
    have := fn_ok (P := Tryd.prog) (cx := cx_lex_lexer_single k) (f := 33) ⟨tyT_ok, C_lex_lexer_single_ok k⟩ (by kernel_rfl) (fn := Tryd.f33) (c := code_lex_lexer_single) (by kernel_rfl) (by kernel_rfl) (by kernel_rfl) (rs := [.tmp 4, .tmp 5]) (by kernel_rfl) (by kernel_rfl) h
    exact this.mono fun out ho => by
      unfold wrap_lex_lexer_single at ho
      split at ho <;> first | exact ho | cases ho
  · cases h
end Go.Proofs.YtfbagjjnfpgjkaaDoor.Pvm
