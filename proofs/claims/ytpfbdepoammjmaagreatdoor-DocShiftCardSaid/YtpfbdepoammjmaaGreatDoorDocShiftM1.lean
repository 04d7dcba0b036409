/- The Go function DocShift answers true for every text and every number, on any machine and under any order of evaluation that Go allows; with no condition besides the statement's own, the card's own ties to the pruned copy of the project included. -/
import Derived.OrdersHeld
import Derived.LoopN
import Derived.Scope
import Derived.Recover
import Derived.WalkKit
import Derived.ProofKit
import Derived.OpenShut
import Derived.ShutString
import Derived.ChangeOld
import Derived.Below
import Derived.SizedLaws
import Derived.ChangeArms
import Derived.Test.YtpfbdepoammjmaaGreatDoorProg
import Derived.KernelRfl
import Derived.Test.YtpfbdepoammjmaaGreatDoorDocShiftM0
set_option linter.unusedVariables false
set_option linter.unusedSimpArgs false
set_option linter.unusedSectionVars false
namespace Go.Proofs.YtpfbdepoammjmaaGreatDoor.Pvm
open Go
variable {h : Heap} {G : Gh} {w : World}
theorem wqcj : ∀ {l : List Nat}, noTwice l = true → l.Nodup
  | [], _ => List.nodup_nil
  | n :: r, he => by
    simp only [noTwice, Bool.and_eq_true, Bool.not_eq_true'] at he
    refine List.nodup_cons.2 ⟨fun hm => ?_, wqcj he.2⟩
    rw [isIn_mem.2 hm] at he
    cases he.1
theorem wqv9 : ∀ {l r : List Nat}, subL l r = true → ∀ n ∈ l, n ∈ r
  | [], r, _, n, hn => by cases hn
  | m :: l, r, he, n, hn => by
    simp only [subL, Bool.and_eq_true] at he
    rcases List.mem_cons.1 hn with rfl | hn
    · exact isIn_mem.1 he.1
    · exact wqv9 he.2 n hn
theorem wqz7 : ∀ {l r : List Nat}, disj l r = true → ∀ n ∈ l, n ∉ r
  | [], r, _, n, hn => by cases hn
  | m :: l, r, he, n, hn => by
    simp only [disj, Bool.and_eq_true, Bool.not_eq_true'] at he
    rcases List.mem_cons.1 hn with rfl | hn
    · intro hr; rw [isIn_mem.2 hr] at he; cases he.1
    · exact wqz7 he.2 n hn
theorem beqN {a b : Nat} : Nat.beq a b = true ↔ a = b := ⟨Nat.eq_of_beq_eq_true, fun e => by subst e; simp⟩
theorem wqz8 {α : Type} (l : List (Nat × α)) (m n : Nat) (x : α) : look ((m, x) :: l) n = if m = n then some x else look l n := by
  rw [look]
  by_cases hm : m = n
  · subst hm; simp
  · have : Nat.beq m n = false := by cases hb : Nat.beq m n with | false => rfl | true => exact absurd (beqN.1 hb) hm
    rw [this, cond_false, if_neg hm]
theorem look_mem {α : Type} : ∀ {l : List (Nat × α)} {n : Nat} {x : α}, look l n = some x → (n, x) ∈ l
  | [], n, x, he => by cases he
  | (m, y) :: r, n, x, he => by
    rw [wqz8] at he
    split at he
    · next hm => subst hm; cases he; simp
    · exact List.mem_cons_of_mem _ (look_mem he)
theorem mem_keys {α : Type} : ∀ {l : List (Nat × α)} {n : Nat} {x : α}, (n, x) ∈ l → n ∈ keysOf l
  | (m, y) :: r, n, x, he => by
    rcases List.mem_cons.1 he with e | he
    · cases e; simp [keysOf]
    · simp only [keysOf, List.mem_cons]; exact .inr (mem_keys he)
theorem keys_mem {α : Type} : ∀ {l : List (Nat × α)} {n : Nat}, n ∈ keysOf l → ∃ x, (n, x) ∈ l
  | (m, y) :: r, n, he => by
    simp only [keysOf, List.mem_cons] at he
    rcases he with rfl | he
    · exact ⟨y, by simp⟩
    · obtain ⟨x, hx⟩ := keys_mem he; exact ⟨x, List.mem_cons_of_mem _ hx⟩
theorem mem_look {α : Type} : ∀ {l : List (Nat × α)} {n : Nat} {x : α}, (keysOf l).Nodup → (n, x) ∈ l → look l n = some x
  | (m, y) :: r, n, x, hd, he => by
    simp only [keysOf, List.nodup_cons] at hd
    rw [wqz8]
    rcases List.mem_cons.1 he with e | he
    · cases e; simp
    · have : m ≠ n := fun e => hd.1 (by rw [e]; exact mem_keys he)
      rw [if_neg this]
      exact mem_look hd.2 he
theorem wqh4 : ∀ (l : List (Nm × Option Nm)) (k : Nm), oldOf k l = look l k
  | [], _ => rfl
  | (m, x) :: r, k => by rw [oldOf, look, wqh4 r k]
theorem olds_mem : ∀ {l : List (Nm × Option Nm)} {k m : Nm}, (k, some m) ∈ l → m ∈ oldsOf l
  | (a, some b) :: r, k, m, he => by
    rcases List.mem_cons.1 he with e | he
    · cases e; simp [oldsOf]
    · simp only [oldsOf, List.mem_cons]; exact .inr (olds_mem he)
  | (a, none) :: r, k, m, he => by
    rcases List.mem_cons.1 he with e | he
    · cases e
    · exact olds_mem (l := r) he
theorem mem_olds : ∀ {l : List (Nm × Option Nm)} {m : Nm}, m ∈ oldsOf l → ∃ k, (k, some m) ∈ l
  | (a, some b) :: r, m, he => by
    simp only [oldsOf, List.mem_cons] at he
    rcases he with rfl | he
    · exact ⟨a, by simp⟩
    · obtain ⟨k, hk⟩ := mem_olds he; exact ⟨k, List.mem_cons_of_mem _ hk⟩
  | (a, none) :: r, m, he => by
    obtain ⟨k, hk⟩ := mem_olds (l := r) he; exact ⟨k, List.mem_cons_of_mem _ hk⟩
theorem olds_inj : ∀ {l : List (Nm × Option Nm)} {k k' m : Nm}, (oldsOf l).Nodup → (k, some m) ∈ l → (k', some m) ∈ l → k = k'
  | (a, some b) :: r, k, k', m, hd, h1, h2 => by
    simp only [oldsOf, List.nodup_cons] at hd
    rcases List.mem_cons.1 h1 with e1 | h1 <;> rcases List.mem_cons.1 h2 with e2 | h2
    · cases e1; cases e2; rfl
    · cases e1; exact absurd (olds_mem h2) hd.1
    · cases e2; exact absurd (olds_mem h1) hd.1
    · exact olds_inj hd.2 h1 h2
  | (a, none) :: r, k, k', m, hd, h1, h2 => by
    rcases List.mem_cons.1 h1 with e1 | h1
    · cases e1
    · rcases List.mem_cons.1 h2 with e2 | h2
      · cases e2
      · exact olds_inj (l := r) hd h1 h2
theorem wqip : ∀ {l : List (Nm × Option Nm)} {n k : Nm}, newOf n l = some k → (k, some n) ∈ l
  | (a, some b) :: r, n, k, he => by
    rw [newOf] at he
    by_cases hb : b = n
    · subst hb; simp at he; subst he; simp
    · have : Nat.beq b n = false := by cases hb2 : Nat.beq b n with | false => rfl | true => exact absurd (beqN.1 hb2) hb
      rw [this] at he
      exact List.mem_cons_of_mem _ (wqip he)
  | (a, none) :: r, n, k, he => by
    rw [newOf] at he
    exact List.mem_cons_of_mem _ (wqip (l := r) he)
structure Fine (na : NA) : Prop where
  k1 : (keysOf na.nm).Nodup
  k2 : (oldsOf na.nm).Nodup
  k3 : (keysOf na.hp).Nodup
  k4 : ∀ n ∈ keysOf na.nm, n ∈ keysOf na.hp
  k5 : ∀ n ∈ keysOf na.hp, n ∈ keysOf na.nm
  k6 : ∀ n ∈ na.fr, n ∉ oldsOf na.nm
theorem wqqi {na : NA} (he : fine na = true) : Fine na := by
  simp only [fine, Bool.and_eq_true] at he
  obtain ⟨⟨⟨⟨⟨h1, h2⟩, h3⟩, h4⟩, h5⟩, h6⟩ := he
  exact ⟨wqcj h1, wqcj h2, wqcj h3, wqv9 h4, wqv9 h5, wqz7 h6⟩
def subG (G : Gh) (nf : NA) (X : Nat → Prop) : Gh :=
  ⟨fun k => match look nf.nm k with | some (some m) => G.bk m | _ => 0, fun k => match look nf.nm k with | some (some m) => G.rv m | _ => .slice none 0 0, X⟩
def subX (h : Heap) (G : Gh) (nf : NA) (b : Nat) : Prop := G.X b ∨ ∃ n, n ∉ oldsOf nf.nm ∧ n ∉ nf.fr ∧ blkOf h G n = some b
structure NA.le (a b : NA) : Prop where
  nm : ∀ x ∈ a.nm, x ∈ b.nm
  hp : ∀ x ∈ a.hp, x ∈ b.hp
  fr : ∀ x ∈ a.fr, x ∈ b.fr
theorem NA.le.refl (a : NA) : a.le a := ⟨fun _ h => h, fun _ h => h, fun _ h => h⟩
theorem NA.le.trans {a b c : NA} (h : a.le b) (h' : b.le c) : a.le c := ⟨fun x hx => h'.nm x (h.nm x hx), fun x hx => h'.hp x (h.hp x hx), fun x hx => h'.fr x (h.fr x hx)⟩
section
variable {nf : NA}
theorem sub_ok (F : Fine nf) (obj : ∀ n o, h n = some o → RO h G w n o) (hrow : RowsIn h nf.fr)
    (hhp : ∀ k o, look nf.hp k = some o → ∀ m, look nf.nm k = some (some m) → (∃ t cs cs', o = .var t cs' ∧ h m = some (.var t cs)) ∨ (∃ e K xs, o = .row e K xs ∧ h m = some (.row e K xs)))
    (hnil : ∀ k o, look nf.hp k = some o → look nf.nm k = some none → ∃ e K, o = .row e K []) :
    ∀ b, (okB h G b ∨ (∃ m ∈ nf.fr, blkOf h G m = some b) ∧ Dis h G w) → okB (mkH nf.hp) (subG G nf (subX h G nf)) b := by
  have hblk : ∀ k b, blkOf (mkH nf.hp) (subG G nf (subX h G nf)) k = some b → ∃ m, look nf.nm k = some (some m) ∧ blkOf h G m = some b := by
    intro k b hb
    cases ho : look nf.hp k with
    | none => simp [blkOf, mkH, ho] at hb
    | some o =>
      have hk : k ∈ keysOf nf.nm := F.k5 k (mem_keys (look_mem ho))
      obtain ⟨x, hx⟩ := keys_mem hk
      have hl := mem_look F.k1 hx
      cases x with
      | none =>
        obtain ⟨e, K, rfl⟩ := hnil k o ho hl
        simp [blkOf, mkH, ho, subG, hl, Value.ownBlock] at hb
      | some m =>
        refine ⟨m, hl, ?_⟩
        rcases hhp k o ho m hl with ⟨t, cs, cs', rfl, hm⟩ | ⟨e, K, xs, rfl, hm⟩
        · simp [blkOf, mkH, ho, subG, hl] at hb; simp [blkOf, hm, hb]
        · simp [blkOf, mkH, ho, subG, hl] at hb; simp [blkOf, hm, hb]
  intro b hb
  rcases hb with hb | ⟨⟨m, hm, hmb⟩, D⟩
  · refine ⟨fun k hk => ?_, fun hx => ?_⟩
    · obtain ⟨m, _, h2⟩ := hblk k b hk
      exact hb.1 m h2
    · rcases hx with hx | ⟨n, _, _, hn⟩
      · exact hb.2 hx
      · exact hb.1 n hn
  · refine ⟨fun k hk => ?_, fun hx => ?_⟩
    · obtain ⟨m', h1, h2⟩ := hblk k b hk
      have := D.inj m m' b hmb h2
      subst this
      exact F.k6 m hm (olds_mem (look_mem h1))
    · rcases hx with hx | ⟨n, _, hnf, hn⟩
      · exact D.xo m b hmb hx
      · have := D.inj m n b hmb hn
        subst this
        exact hnf hm
end
structure Found (h : Heap) (na : NA) : Prop where
  hp : ∀ k o, (k, o) ∈ na.hp → (∃ m, (k, some m) ∈ na.nm ∧ ((∃ t cs cs', o = .var t cs' ∧ h m = some (.var t cs)) ∨ (∃ e K xs, o = .row e K xs ∧ h m = some (.row e K xs)))) ∨ ((k, none) ∈ na.nm ∧ ∃ e K, o = .row e K [])
  fr : RowsIn h na.fr
mutual
theorem wqqv : ∀ (p : PV) {p' : PV} {f : List Nm}, pureP h p = some (p', f) → RowsIn h f
  | .v K x, p', f, he => by simp only [pureP, Option.some.injEq, Prod.mk.injEq] at he; obtain ⟨_, rfl⟩ := he; intro n hn; cases hn
  | .kb b, p', f, he => by simp only [pureP, Option.some.injEq, Prod.mk.injEq] at he; obtain ⟨_, rfl⟩ := he; intro n hn; cases hn
  | .nilsl, p', f, he => by simp only [pureP, Option.some.injEq, Prod.mk.injEq] at he; obtain ⟨_, rfl⟩ := he; intro n hn; cases hn
  | .nilptr, p', f, he => by simp only [pureP, Option.some.injEq, Prod.mk.injEq] at he; obtain ⟨_, rfl⟩ := he; intro n hn; cases hn
  | .nilif, p', f, he => by simp only [pureP, Option.some.injEq, Prod.mk.injEq] at he; obtain ⟨_, rfl⟩ := he; intro n hn; cases hn
  | .elp K xs i off, p', f, he => by simp only [pureP, Option.some.injEq, Prod.mk.injEq] at he; obtain ⟨_, rfl⟩ := he; intro n hn; cases hn
  | .row m, p', f, he => by
    simp only [pureP] at he
    split at he
    · next e K xs hm =>
      simp only [Option.some.injEq, Prod.mk.injEq] at he
      obtain ⟨_, rfl⟩ := he
      intro n hn
      simp at hn
      subst hn
      exact ⟨e, K, xs, hm⟩
    · cases he
  | .agg cs, p', f, he => by
    simp only [pureP] at he
    split at he
    · next cs' f' hc =>
      simp only [Option.some.injEq, Prod.mk.injEq] at he
      obtain ⟨_, rfl⟩ := he
      exact purePs_rows cs hc
    · cases he
  | .ifc t p, p', f, he => by
    simp only [pureP] at he
    split at he
    · next q f' hc =>
      simp only [Option.some.injEq, Prod.mk.injEq] at he
      obtain ⟨_, rfl⟩ := he
      exact wqqv p hc
    · cases he
  | .ng b, p', f, he => by simp [pureP] at he
  | .ptr n off, p', f, he => by simp [pureP] at he
  | .elr n i off, p', f, he => by simp [pureP] at he
  | .tup ps, p', f, he => by simp [pureP] at he
  | .clo g c, p', f, he => by simp [pureP] at he
  | .opt g c p, p', f, he => by simp [pureP] at he
  | .un, p', f, he => by simp [pureP] at he
theorem purePs_rows : ∀ (ps : List PV) {ps' : List PV} {f : List Nm}, purePs h ps = some (ps', f) → RowsIn h f
  | [], ps', f, he => by simp only [purePs, Option.some.injEq, Prod.mk.injEq] at he; obtain ⟨_, rfl⟩ := he; intro n hn; cases hn
  | p :: r, ps', f, he => by
    simp only [purePs] at he
    split at he
    · next q f1 r' f2 h1 h2 =>
      simp only [Option.some.injEq, Prod.mk.injEq] at he
      obtain ⟨_, rfl⟩ := he
      intro n hn
      rcases List.mem_append.1 hn with hn | hn
      · exact wqqv p h1 n hn
      · exact purePs_rows r h2 n hn
    · cases he
end
theorem Found.addFr {na : NA} (F : Found h na) {f : List Nm} (hf : RowsIn h f) : Found h { na with fr := na.fr ++ f } :=
  ⟨F.hp, fun n hn => by rcases List.mem_append.1 hn with hn | hn; exact F.fr n hn; exact hf n hn⟩
mutual
theorem wqch : ∀ (s : LS) (p : PV) (na : NA) {p' : PV} {na' : NA}, normP h na s p = some (p', na') → Found h na → Found h na' ∧ na.le na'
  | .any, p, na, p', na', he, F => by
    simp only [normP] at he
    split at he
    · next q f hq =>
      simp only [Option.some.injEq, Prod.mk.injEq] at he
      obtain ⟨rfl, rfl⟩ := he
      exact ⟨F.addFr (wqqv p hq), fun _ h => h, fun _ h => h, fun _ h => by simp [h]⟩
    · cases he
  | .sl K, p, na, p', na', he, F => by
    simp only [normP] at he
    split at he
    · next xs f hq =>
      simp only [Option.some.injEq, Prod.mk.injEq] at he
      obtain ⟨rfl, rfl⟩ := he
      exact ⟨F.addFr (wqio hq), fun _ h => h, fun _ h => h, fun _ h => by simp [h]⟩
    · cases he
  | .own nm e K, p, na, p', na', he, F => by
    simp only [normP] at he
    split at he
    · cases hsz : Nat.ble 1 K.sz with
      | false => rw [hsz] at he; cases he
      | true =>
      rw [hsz, cond_true] at he
      simp only [Option.some.injEq, Prod.mk.injEq] at he
      obtain ⟨rfl, rfl⟩ := he
      refine ⟨⟨fun k o hk => ?_, F.fr⟩, fun _ h => by simp [h], fun _ h => by simp [h], fun _ h => h⟩
      rcases List.mem_append.1 hk with hk | hk
      · rcases F.hp k o hk with ⟨m, h1, h2⟩ | ⟨h1, h2⟩
        · exact .inl ⟨m, by simp [h1], h2⟩
        · exact .inr ⟨by simp [h1], h2⟩
      · simp at hk
        obtain ⟨rfl, rfl⟩ := hk
        exact .inr ⟨by simp, e, K, rfl⟩
    · next m =>
      split at he
      · next e' K' xs hm =>
        cases hb : isOld m na.nm with
        | true => rw [hb] at he; cases he
        | false =>
          rw [hb, cond_false] at he
          split at he
          · next ys hc =>
            cases hb2 : Nat.beq e' e with
            | false => rw [hb2] at he; cases he
            | true =>
              rw [hb2, cond_true] at he
              have hee := beqN.1 hb2
              subst hee
              obtain ⟨hK, hx⟩ := cast_eq hc
              have hK : K' = K := by injection hK
              subst hK
              subst hx
              simp only [Option.some.injEq, Prod.mk.injEq] at he
              obtain ⟨rfl, rfl⟩ := he
              refine ⟨⟨fun k o hk => ?_, F.fr⟩, fun _ h => by simp [h], fun _ h => by simp [h], fun _ h => h⟩
              rcases List.mem_append.1 hk with hk | hk
              · rcases F.hp k o hk with ⟨m, h1, h2⟩ | ⟨h1, h2⟩
                · exact .inl ⟨m, by simp [h1], h2⟩
                · exact .inr ⟨by simp [h1], h2⟩
              · simp at hk
                obtain ⟨rfl, rfl⟩ := hk
                exact .inl ⟨m, by simp, .inr ⟨e', K', _, rfl, hm⟩⟩
          · cases he
      · cases he
    · cases he
  | .obj nm cs, p, na, p', na', he, F => by
    simp only [normP] at he
    split at he
    · next n off =>
      split at he
      · next k hk =>
        simp only [Option.some.injEq, Prod.mk.injEq] at he
        obtain ⟨rfl, rfl⟩ := he
        exact ⟨F, NA.le.refl _⟩
      · split at he
        · next t ps hn =>
          split at he
          · next ps' na2 hps =>
            simp only [Option.some.injEq, Prod.mk.injEq] at he
            obtain ⟨rfl, rfl⟩ := he
            have F0 : Found h { na with nm := na.nm ++ [(nm, some n)] } := ⟨fun k o hk => by
              rcases F.hp k o hk with ⟨m, h1, h2⟩ | ⟨h1, h2⟩
              · exact .inl ⟨m, by simp [h1], h2⟩
              · exact .inr ⟨by simp [h1], h2⟩, F.fr⟩
            obtain ⟨F2, L2⟩ := normPs_found cs ps _ hps F0
            refine ⟨⟨fun k o hk => ?_, F2.fr⟩, fun x hx => L2.nm x (by simp [hx]), fun x hx => by simp [L2.hp x hx], fun x hx => L2.fr x hx⟩
            rcases List.mem_append.1 hk with hk | hk
            · exact F2.hp k o hk
            · simp at hk
              obtain ⟨rfl, rfl⟩ := hk
              exact .inl ⟨n, L2.nm _ (by simp), .inl ⟨t, ps, ps', rfl, hn⟩⟩
          · cases he
        · cases he
    · cases he
  | .nps nm, p, na, p', na', he, F => by
    simp only [normP] at he
    split at he
    · simp only [Option.some.injEq, Prod.mk.injEq] at he
      obtain ⟨rfl, rfl⟩ := he
      exact ⟨F, NA.le.refl _⟩
    · split at he
      · simp only [Option.some.injEq, Prod.mk.injEq] at he
        obtain ⟨rfl, rfl⟩ := he
        exact ⟨F, NA.le.refl _⟩
      · cases he
    · next n off =>
      split at he
      · cases hb : Nat.beq off 0 with
        | false => rw [hb] at he; cases he
        | true =>
          rw [hb, cond_true] at he
          simp only [Option.some.injEq, Prod.mk.injEq] at he
          obtain ⟨rfl, rfl⟩ := he
          exact ⟨F, NA.le.refl _⟩
      · cases he
    · cases he
  | .ag cs, p, na, p', na', he, F => by
    simp only [normP] at he
    split at he
    · next ps =>
      split at he
      · next ps' na2 hps =>
        simp only [Option.some.injEq, Prod.mk.injEq] at he
        obtain ⟨rfl, rfl⟩ := he
        exact normPs_found cs ps _ hps F
      · cases he
    · cases he
  | .clo cs, p, na, p', na', he, F => by
    simp only [normP] at he
    split at he
    · next f ps =>
      split at he
      · next ps' na2 hps =>
        simp only [Option.some.injEq, Prod.mk.injEq] at he
        obtain ⟨rfl, rfl⟩ := he
        exact normPs_found cs ps _ hps F
      · cases he
    · cases he
theorem normPs_found : ∀ (ss : List LS) (ps : List PV) (na : NA) {ps' : List PV} {na' : NA}, normPs h na ss ps = some (ps', na') → Found h na → Found h na' ∧ na.le na'
  | [], [], na, ps', na', he, F => by
    simp only [normPs, Option.some.injEq, Prod.mk.injEq] at he
    obtain ⟨rfl, rfl⟩ := he
    exact ⟨F, NA.le.refl _⟩
  | s :: ss, p :: ps, na, ps', na', he, F => by
    simp only [normPs] at he
    split at he
    · next q na1 h1 =>
      split at he
      · next qs na2 h2 =>
        simp only [Option.some.injEq, Prod.mk.injEq] at he
        obtain ⟨rfl, rfl⟩ := he
        obtain ⟨F1, L1⟩ := wqch s p na h1 F
        obtain ⟨F2, L2⟩ := normPs_found ss ps na1 h2 F1
        exact ⟨F2, L1.trans L2⟩
      · cases he
    · cases he
  | [], p :: ps, na, ps', na', he, F => by simp [normPs] at he
  | s :: ss, [], na, ps', na', he, F => by simp [normPs] at he
end
structure Sub (h : Heap) (G : Gh) (w : World) (nf : NA) : Prop where
  fi : Fine nf
  fo : Found h nf
  obj : ∀ n o, h n = some o → RO h G w n o
  dis : Dis h G w
section
variable {nf : NA} (S : Sub h G w nf)
include S
theorem Sub.hhp : ∀ k o, look nf.hp k = some o → ∀ m, look nf.nm k = some (some m) → (∃ t cs cs', o = .var t cs' ∧ h m = some (.var t cs)) ∨ (∃ e K xs, o = .row e K xs ∧ h m = some (.row e K xs)) := by
  intro k o ho m hm
  rcases S.fo.hp k o (look_mem ho) with ⟨m', h1, h2⟩ | ⟨h1, _⟩
  · have := mem_look S.fi.k1 h1
    rw [hm] at this
    cases this
    exact h2
  · have := mem_look S.fi.k1 h1
    rw [hm] at this
    cases this
theorem Sub.hnil : ∀ k o, look nf.hp k = some o → look nf.nm k = some none → ∃ e K, o = .row e K [] := by
  intro k o ho hm
  rcases S.fo.hp k o (look_mem ho) with ⟨m', h1, _⟩ | ⟨_, h2⟩
  · have := mem_look S.fi.k1 h1
    rw [hm] at this
    cases this
  · exact h2
theorem Sub.ok {b : Nat} (hb : okB h G b) : okB (mkH nf.hp) (subG G nf (subX h G nf)) b :=
  sub_ok S.fi S.obj S.fo.fr S.hhp S.hnil b (.inl hb)
theorem Sub.okfr {b : Nat} {m : Nm} (hm : m ∈ nf.fr) (hb : blkOf h G m = some b) : okB (mkH nf.hp) (subG G nf (subX h G nf)) b :=
  sub_ok S.fi S.obj S.fo.fr S.hhp S.hnil b (.inr ⟨⟨m, hm, hb⟩, S.dis⟩)
theorem Sub.data {K : Kd} {x : K.T} {cs : List Value} (hr : RD w (okB h G) K x cs) : RD w (okB (mkH nf.hp) (subG G nf (subX h G nf))) K x cs :=
  hr.mono fun b hb _ => ⟨S.ok hb, rfl⟩
theorem Sub.rowdata {m : Nm} {e : TypeId} {K : Kd} {xs : List K.T} (hm : m ∈ nf.fr) (hr : h m = some (.row e K xs)) : RD w (okB (mkH nf.hp) (subG G nf (subX h G nf))) (.sl K) xs [G.rv m] := by
  obtain ⟨A, cap, hrv, hcap, hrr⟩ := own_row (S.obj _ _ hr)
  refine ⟨A, cap, by rw [hrv], hcap, ?_⟩
  rcases hrr with hrr | ⟨ad, g, cs, fz, hA, had, hg, hgh, hrr⟩
  · exact .inl hrr
  · refine .inr ⟨ad, hA, ?_, ?_, fun i y hy => ?_⟩
    · subst had; exact S.okfr hm (by simp [blkOf, hr, hg])
    · subst had; exact (Array.getElem?_eq_some_iff.1 hgh).1
    · obtain ⟨c, hc, hu⟩ := hrr i y hy
      exact ⟨c, S.data hc, hu⟩
mutual
theorem Sub.pure : ∀ (p : PV) {p' : PV} {f : List Nm} {v : Value}, pureP h p = some (p', f) → (∀ n ∈ f, n ∈ nf.fr) → RV h G w p v → RV (mkH nf.hp) (subG G nf (subX h G nf)) w p' v
  | .v K x, p', f, v, he, hf, hp => by simp only [pureP, Option.some.injEq, Prod.mk.injEq] at he; obtain ⟨rfl, rfl⟩ := he; exact S.data hp
  | .kb b, p', f, v, he, hf, hp => by
    simp only [pureP, Option.some.injEq, Prod.mk.injEq] at he; obtain ⟨rfl, rfl⟩ := he
    have hv : v = .bool b := hp
    subst hv; rfl
  | .nilsl, p', f, v, he, hf, hp => by simp only [pureP, Option.some.injEq, Prod.mk.injEq] at he; obtain ⟨rfl, rfl⟩ := he; exact hp
  | .nilptr, p', f, v, he, hf, hp => by simp only [pureP, Option.some.injEq, Prod.mk.injEq] at he; obtain ⟨rfl, rfl⟩ := he; exact hp
  | .nilif, p', f, v, he, hf, hp => by simp only [pureP, Option.some.injEq, Prod.mk.injEq] at he; obtain ⟨rfl, rfl⟩ := he; exact hp
  | .elp K xs i off, p', f, v, he, hf, hp => by
    simp only [pureP, Option.some.injEq, Prod.mk.injEq] at he; obtain ⟨rfl, rfl⟩ := he
    obtain ⟨ad, rfl, hi, hr⟩ := hp
    exact ⟨ad, rfl, hi, hr.mono (fun b hb _ => ⟨S.ok hb, rfl⟩) fun _ _ => S.data⟩
  | .row m, p', f, v, he, hf, hp => by
    simp only [pureP] at he
    split at he
    · next e K xs hm =>
      simp only [Option.some.injEq, Prod.mk.injEq] at he
      obtain ⟨rfl, rfl⟩ := he
      obtain ⟨rfl, _⟩ := hp
      exact S.rowdata (hf m (by simp)) hm
    · cases he
  | .agg cs, p', f, v, he, hf, hp => by
    simp only [pureP] at he
    split at he
    · next cs' f' hc =>
      simp only [Option.some.injEq, Prod.mk.injEq] at he
      obtain ⟨rfl, rfl⟩ := he
      obtain ⟨vs, rfl, hr⟩ := hp
      exact ⟨vs, rfl, Sub.pures cs hc hf hr⟩
    · cases he
  | .ifc t p, p', f, v, he, hf, hp => by
    simp only [pureP] at he
    split at he
    · next q f' hc =>
      simp only [Option.some.injEq, Prod.mk.injEq] at he
      obtain ⟨rfl, rfl⟩ := he
      obtain ⟨u, rfl, hr⟩ := hp
      exact ⟨u, rfl, Sub.pure p hc hf hr⟩
    · cases he
  | .ng b, p', f, v, he, hf, hp => by simp [pureP] at he
  | .ptr n off, p', f, v, he, hf, hp => by simp [pureP] at he
  | .elr n i off, p', f, v, he, hf, hp => by simp [pureP] at he
  | .tup ps, p', f, v, he, hf, hp => by simp [pureP] at he
  | .clo g c, p', f, v, he, hf, hp => by simp [pureP] at he
  | .opt g c p, p', f, v, he, hf, hp => by simp [pureP] at he
  | .un, p', f, v, he, hf, hp => by simp [pureP] at he
theorem Sub.pures : ∀ (ps : List PV) {ps' : List PV} {f : List Nm} {vs : List Value}, purePs h ps = some (ps', f) → (∀ n ∈ f, n ∈ nf.fr) → RVs h G w ps vs → RVs (mkH nf.hp) (subG G nf (subX h G nf)) w ps' vs
  | [], ps', f, vs, he, hf, hp => by simp only [purePs, Option.some.injEq, Prod.mk.injEq] at he; obtain ⟨rfl, rfl⟩ := he; exact hp
  | p :: r, ps', f, vs, he, hf, hp => by
    simp only [purePs] at he
    split at he
    · next q f1 r' f2 h1 h2 =>
      simp only [Option.some.injEq, Prod.mk.injEq] at he
      obtain ⟨rfl, rfl⟩ := he
      obtain ⟨v, l, rfl, hv, hl⟩ := hp
      exact ⟨v, l, rfl, Sub.pure p h1 (fun n hn => hf n (by simp [hn])) hv, Sub.pures r h2 (fun n hn => hf n (by simp [hn])) hl⟩
    · cases he
end
theorem Sub.leaf {K : Kd} {p : PV} {x : K.T} {f : List Nm} {v : Value} (he : leaf h K p = some (x, f)) (hf : ∀ n ∈ f, n ∈ nf.fr) (hp : RV h G w p v) : RD w (okB (mkH nf.hp) (subG G nf (subX h G nf))) K x [v] := by
  unfold Pvm.leaf at he
  split at he
  · next K' y =>
    obtain ⟨z, hz, he⟩ := Option.map_eq_some_iff.1 he
    simp only [Prod.mk.injEq] at he
    obtain ⟨rfl, rfl⟩ := he
    obtain ⟨rfl, rfl⟩ := cast_eq hz
    exact S.data hp
  · next b =>
    obtain ⟨z, hz, he⟩ := Option.map_eq_some_iff.1 he
    simp only [Prod.mk.injEq] at he
    obtain ⟨rfl, rfl⟩ := he
    obtain ⟨rfl, rfl⟩ := cast_eq hz
    obtain rfl : v = _ := hp
    rfl
  · split at he
    · cases he
      obtain rfl : v = _ := hp
      exact ⟨none, 0, rfl, Nat.le_refl _, .inl rfl⟩
    · cases he
  · next n =>
    split at he
    · next e K' xs hn =>
      obtain ⟨z, hz, he⟩ := Option.map_eq_some_iff.1 he
      simp only [Prod.mk.injEq] at he
      obtain ⟨rfl, rfl⟩ := he
      obtain ⟨rfl, rfl⟩ := cast_eq hz
      obtain ⟨rfl, _⟩ := hp
      exact S.rowdata (hf n (by simp)) hn
    · cases he
  · cases he
mutual
theorem Sub.norm : ∀ (s : LS) (p : PV) (na : NA) {p' : PV} {na' : NA} {v : Value}, normP h na s p = some (p', na') → na'.le nf → Found h na → RV h G w p v →
    RV (mkH nf.hp) (subG G nf (subX h G nf)) w p' v ∧ ∀ x ∈ na'.hp, x ∈ na.hp ∨ RO (mkH nf.hp) (subG G nf (subX h G nf)) w x.1 x.2
  | .any, p, na, p', na', v, he, L, F, hp => by
    simp only [normP] at he
    split at he
    · next q f hq =>
      simp only [Option.some.injEq, Prod.mk.injEq] at he
      obtain ⟨rfl, rfl⟩ := he
      exact ⟨S.pure p hq (fun n hn => L.fr n (by simp [hn])) hp, fun x hx => .inl hx⟩
    · cases he
  | .sl K, p, na, p', na', v, he, L, F, hp => by
    simp only [normP] at he
    split at he
    · next xs f hq =>
      simp only [Option.some.injEq, Prod.mk.injEq] at he
      obtain ⟨rfl, rfl⟩ := he
      exact ⟨S.leaf hq (fun n hn => L.fr n (by simp [hn])) hp, fun x hx => .inl hx⟩
    · cases he
  | .own nm e K, p, na, p', na', v, he, L, F, hp => by
    simp only [normP] at he
    split at he
    · cases hsz : Nat.ble 1 K.sz with
      | false => rw [hsz] at he; cases he
      | true =>
        rw [hsz, cond_true] at he
        have hpos := Nat.le_of_ble_eq_true hsz
        simp only [Option.some.injEq, Prod.mk.injEq] at he
        obtain ⟨rfl, rfl⟩ := he
        have h1 := mem_look S.fi.k1 (L.nm (nm, none) (by simp))
        have h2 := mem_look S.fi.k3 (L.hp (nm, .row e K []) (by simp))
        have hrv : (subG G nf (subX h G nf)).rv nm = .slice none 0 0 := by simp [subG, h1]
        have hv : v = .slice none 0 0 := hp
        refine ⟨⟨by rw [hrv]; exact hv, e, K, [], h2⟩, fun x hx => ?_⟩
        rcases List.mem_append.1 hx with hx | hx
        · exact .inl hx
        · simp at hx
          subst hx
          exact .inr ⟨[], by rw [hrv]; exact World.ownsRow_nil w 0 e K.sz, rfl, hpos⟩
    · next m =>
      split at he
      · next e' K' xs hm =>
        cases hb : isOld m na.nm with
        | true => rw [hb] at he; cases he
        | false =>
          rw [hb, cond_false] at he
          split at he
          · next ys hc =>
            cases hb2 : Nat.beq e' e with
            | false => rw [hb2] at he; cases he
            | true =>
              rw [hb2, cond_true] at he
              have hee := beqN.1 hb2
              subst hee
              obtain ⟨hK, hx⟩ := cast_eq hc
              have hK : K' = K := by injection hK
              subst hK
              subst hx
              simp only [Option.some.injEq, Prod.mk.injEq] at he
              obtain ⟨rfl, rfl⟩ := he
              obtain ⟨rfl, _⟩ := hp
              have h1 := mem_look S.fi.k1 (L.nm (nm, some m) (by simp))
              have h2 := mem_look S.fi.k3 (L.hp (nm, .row e' K' ys) (by simp))
              have hrv : (subG G nf (subX h G nf)).rv nm = G.rv m := by simp [subG, h1]
              refine ⟨⟨hrv.symm, e', K', ys, h2⟩, fun x hx => ?_⟩
              rcases List.mem_append.1 hx with hx | hx
              · exact .inl hx
              · simp at hx
                subst hx
                obtain ⟨vs, hown, hrd, hp0⟩ := S.obj _ _ hm
                exact .inr ⟨vs, by rw [hrv]; exact hown, hrd.mono fun b hb _ => ⟨S.ok hb, rfl⟩, hp0⟩
          · cases he
      · cases he
    · cases he
  | .obj nm cs, p, na, p', na', v, he, L, F, hp => by
    simp only [normP] at he
    split at he
    · next n off =>
      obtain ⟨rfl, t0, cs0, hn0⟩ := hp
      split at he
      · next k hk =>
        simp only [Option.some.injEq, Prod.mk.injEq] at he
        obtain ⟨rfl, rfl⟩ := he
        have h1 := mem_look S.fi.k1 (L.nm _ (wqip hk))
        have hkk : k ∈ keysOf nf.hp := S.fi.k4 k (mem_keys (L.nm _ (wqip hk)))
        obtain ⟨o, ho⟩ := keys_mem hkk
        have h2 := mem_look S.fi.k3 ho
        refine ⟨⟨by simp [subG, h1], ?_⟩, fun x hx => .inl hx⟩
        rcases S.hhp k o h2 n h1 with ⟨t, cs', cs2, rfl, _⟩ | ⟨e, K, xs, rfl, hr⟩
        · exact ⟨t, cs2, h2⟩
        · rw [hn0] at hr; cases hr
      · split at he
        · next t ps hn =>
          split at he
          · next ps' na2 hps =>
            simp only [Option.some.injEq, Prod.mk.injEq] at he
            obtain ⟨rfl, rfl⟩ := he
            have F0 : Found h { na with nm := na.nm ++ [(nm, some n)] } := ⟨fun k o hk => by
              rcases F.hp k o hk with ⟨m, h1, h2⟩ | ⟨h1, h2⟩
              · exact .inl ⟨m, by simp [h1], h2⟩
              · exact .inr ⟨by simp [h1], h2⟩, F.fr⟩
            obtain ⟨F2, L2⟩ := normPs_found cs ps _ hps F0
            have L3 : na2.le nf := ⟨fun x hx => L.nm x hx, fun x hx => L.hp x (by simp [hx]), fun x hx => L.fr x hx⟩
            obtain ⟨vs, hw, hv⟩ := S.obj _ _ hn
            obtain ⟨r1, r2⟩ := Sub.norms cs ps _ hps L3 F0 hv
            have h1 := mem_look S.fi.k1 (L.nm (nm, some n) (L2.nm _ (by simp)))
            have h2 := mem_look S.fi.k3 (L.hp (nm, .var t ps') (by simp))
            have hbk : (subG G nf (subX h G nf)).bk nm = G.bk n := by simp [subG, h1]
            refine ⟨⟨by rw [hbk], t, ps', h2⟩, fun x hx => ?_⟩
            rcases List.mem_append.1 hx with hx | hx
            · exact r2 x hx
            · simp at hx
              subst hx
              exact .inr ⟨vs, by rw [hbk]; exact hw, r1⟩
          · cases he
        · cases he
    · cases he
  | .nps nm, p, na, p', na', v, he, L, F, hp => by
    have key : ∀ {n k t0 cs0}, newOf n na.nm = some k → na.le nf → h n = some (.var t0 cs0) → (subG G nf (subX h G nf)).bk k = G.bk n ∧ ∃ t cs, mkH nf.hp k = some (.var t cs) := by
      intro n k t0 cs0 hk L hn0
      have h1 := mem_look S.fi.k1 (L.nm _ (wqip hk))
      have hkk : k ∈ keysOf nf.hp := S.fi.k4 k (mem_keys (L.nm _ (wqip hk)))
      obtain ⟨o, ho⟩ := keys_mem hkk
      have h2 := mem_look S.fi.k3 ho
      refine ⟨by simp [subG, h1], ?_⟩
      rcases S.hhp k o h2 n h1 with ⟨t, cs', cs2, rfl, _⟩ | ⟨e, K, xs, rfl, hr⟩
      · exact ⟨t, cs2, h2⟩
      · rw [hn0] at hr; cases hr
    simp only [normP] at he
    split at he
    · simp only [Option.some.injEq, Prod.mk.injEq] at he
      obtain ⟨rfl, rfl⟩ := he
      exact ⟨.inl hp, fun x hx => .inl hx⟩
    · next n =>
      split at he
      · next k hk =>
        simp only [Option.some.injEq, Prod.mk.injEq] at he
        obtain ⟨rfl, rfl⟩ := he
        refine ⟨?_, fun x hx => .inl hx⟩
        rcases hp with hp | ⟨rfl, t0, cs0, hn0⟩
        · exact .inl hp
        · obtain ⟨e1, e2⟩ := key hk L hn0
          exact .inr ⟨by rw [e1], e2⟩
      · cases he
    · next n off =>
      obtain ⟨rfl, t0, cs0, hn0⟩ := hp
      split at he
      · next k hk =>
        cases hb : Nat.beq off 0 with
        | false => rw [hb] at he; cases he
        | true =>
          rw [hb, cond_true] at he
          have hb := beqN.1 hb
          subst hb
          simp only [Option.some.injEq, Prod.mk.injEq] at he
          obtain ⟨rfl, rfl⟩ := he
          obtain ⟨e1, e2⟩ := key hk L hn0
          exact ⟨.inr ⟨by rw [e1], e2⟩, fun x hx => .inl hx⟩
      · cases he
    · cases he
  | .ag cs, p, na, p', na', v, he, L, F, hp => by
    simp only [normP] at he
    split at he
    · next ps =>
      split at he
      · next ps' na2 hps =>
        simp only [Option.some.injEq, Prod.mk.injEq] at he
        obtain ⟨rfl, rfl⟩ := he
        obtain ⟨vs, rfl, hr⟩ := hp
        obtain ⟨r1, r2⟩ := Sub.norms cs ps _ hps L F hr
        exact ⟨⟨vs, rfl, r1⟩, r2⟩
      · cases he
    · cases he
  | .clo cs, p, na, p', na', v, he, L, F, hp => by
    simp only [normP] at he
    split at he
    · next f ps =>
      split at he
      · next ps' na2 hps =>
        simp only [Option.some.injEq, Prod.mk.injEq] at he
        obtain ⟨rfl, rfl⟩ := he
        obtain ⟨vs, rfl, hr⟩ := hp
        obtain ⟨r1, r2⟩ := Sub.norms cs ps _ hps L F hr
        exact ⟨⟨vs, rfl, r1⟩, r2⟩
      · cases he
    · cases he
theorem Sub.norms : ∀ (ss : List LS) (ps : List PV) (na : NA) {ps' : List PV} {na' : NA} {vs : List Value}, normPs h na ss ps = some (ps', na') → na'.le nf → Found h na → RVs h G w ps vs →
    RVs (mkH nf.hp) (subG G nf (subX h G nf)) w ps' vs ∧ ∀ x ∈ na'.hp, x ∈ na.hp ∨ RO (mkH nf.hp) (subG G nf (subX h G nf)) w x.1 x.2
  | [], [], na, ps', na', vs, he, L, F, hp => by
    simp only [normPs, Option.some.injEq, Prod.mk.injEq] at he
    obtain ⟨rfl, rfl⟩ := he
    exact ⟨hp, fun x hx => .inl hx⟩
  | s :: ss, p :: ps, na, ps', na', vs, he, L, F, hp => by
    simp only [normPs] at he
    split at he
    · next q na1 h1 =>
      split at he
      · next qs na2 h2 =>
        simp only [Option.some.injEq, Prod.mk.injEq] at he
        obtain ⟨rfl, rfl⟩ := he
        obtain ⟨v, l, rfl, hv, hl⟩ := hp
        obtain ⟨F1, L1⟩ := wqch s p na h1 F
        obtain ⟨F2, L2⟩ := normPs_found ss ps na1 h2 F1
        obtain ⟨a1, a2⟩ := Sub.norm s p na h1 (L2.trans L) F hv
        obtain ⟨b1, b2⟩ := Sub.norms ss ps na1 h2 L F1 hl
        refine ⟨⟨v, l, rfl, a1, b1⟩, fun x hx => ?_⟩
        rcases b2 x hx with hx | hx
        · exact a2 x hx
        · exact .inr hx
      · cases he
    · cases he
  | [], p :: ps, na, ps', na', vs, he, L, F, hp => by simp [normPs] at he
  | s :: ss, [], na, ps', na', vs, he, L, F, hp => by simp [normPs] at he
end
end
end Go.Proofs.YtpfbdepoammjmaaGreatDoor.Pvm

namespace Go.Proofs.YtpfbdepoammjmaaGreatDoor.Pvm
open Go
variable {P : Program} {h : Heap} {G : Gh} {w : World}
structure Fin (hp hs : List (Nm × HObj)) (G : Gh) (w : World) (G' : Gh) (w' : World) : Prop where
  obj : ∀ n o, mkH hs n = some o → RO (mkH hs) G' w' n o
  inj : ∀ n m b, blkOf (mkH hs) G' n = some b → blkOf (mkH hs) G' m = some b → n = m
  keep : ∀ n t cs, look hp n = some (.var t cs) → ∀ o, look hs n = some o → (∃ cs', o = .var t cs') ∧ G'.bk n = G.bk n
  blk : ∀ b, b < w.heap.size → freeB (mkH hp) G b → w'.heap[b]? = w.heap[b]?
  X : G'.X = G.X
  new : ∀ n b, blkOf (mkH hs) G' n = some b → (∃ m, blkOf (mkH hp) G m = some b) ∨ w.heap.size ≤ b
  grow : w.heap.size ≤ w'.heap.size
  os : w'.os = w.os
  tape : w'.tape = w.tape
  out : w'.output = w.output
def Out.hs : Out → List (Nm × HObj)
  | .ret _ hs => hs
  | .pan _ hs => hs
def OutIs (G' : Gh) (w' : World) (e : Ending) : Out → Prop
  | .ret ps hs => ∃ v, e = .returned v ∧ RV (mkH hs) G' w' (tupOf ps) v
  | .pan p hs => ∃ v, e = .panicked [{ v, recovered := false }] ∧ RV (mkH hs) G' w' p v
def CallsTo (P : Program) (f : FuncId) (args : List PV) (hp : List (Nm × HObj)) (out : Out) : Prop :=
  ∀ (G : Gh) (w : World) (vals : List Value), RVs (mkH hp) G w args vals → (∀ n o, mkH hp n = some o → RO (mkH hp) G w n o) → Dis (mkH hp) G w →
    Calls P f vals.toArray w fun e w' => ∃ G', OutIs G' w' e out ∧ Fin hp out.hs G w G' w'
theorem RD.plain {w' : World} {ok ok' : Nat → Prop} : ∀ {K : Kd} {x : K.T} {cs : List Value}, K.hasSl = false → RD w ok K x cs → RD w' ok' K x cs
  | .int _, _, _, _, h => h
  | .bool, _, _, _, h => h
  | .str, _, _, _, h => h
  | .flt, _, _, _, h => h
  | .nil, _, _, _, h => h
  | .sl _, _, _, hk, _ => by simp [Kd.hasSl] at hk
  | .pr a b, x, cs, hk, ⟨c1, c2, e, h1, h2⟩ => by
    simp only [Kd.hasSl, Bool.or_eq_false_iff] at hk
    exact ⟨c1, c2, e, RD.plain hk.1 h1, RD.plain hk.2 h2⟩
theorem RDs.plain {w' : World} {ok ok' : Nat → Prop} {K : Kd} (hk : K.hasSl = false) : ∀ {xs : List K.T} {cs : List Value}, RDs w ok K xs cs → RDs w' ok' K xs cs
  | [], _, h => h
  | _ :: _, _, ⟨c1, c2, e, h1, h2⟩ => ⟨c1, c2, e, h1.plain hk, h2.plain hk⟩
structure Ren (h1 : Heap) (G1 : Gh) (h2 : Heap) (G2 : Gh) (σ : Nm → Nm) : Prop where
  var : ∀ n t cs, h1 n = some (.var t cs) → (∃ cs', h2 (σ n) = some (.var t cs')) ∧ G2.bk (σ n) = G1.bk n
  row : ∀ n e K xs, h1 n = some (.row e K xs) → h2 (σ n) = some (.row e K xs) ∧ G2.rv (σ n) = G1.rv n
mutual
theorem RV.ren {h1 h2 : Heap} {G1 G2 : Gh} {σ : Nm → Nm} (R : Ren h1 G1 h2 G2 σ) : ∀ (p : PV) {v : Value}, (p.hasSl = true → ∀ b, okB h1 G1 b → okB h2 G2 b) → RV h1 G1 w p v → RV h2 G2 w (p.ren σ) v
  | .v K x, v, hb, hp => by
    cases hk : K.hasSl with
    | true => exact RD.mono (fun b ho _ => ⟨hb (by simpa [PV.hasSl] using hk) b ho, rfl⟩) hp
    | false => exact RD.plain hk hp
  | .kb b, v, _, hp => hp
  | .ng b, v, _, hp => hp
  | .nilsl, v, _, hp => hp
  | .nilptr, v, _, hp => hp
  | .nilif, v, _, hp => hp
  | .nps n, v, _, hp => by
    rcases hp with hp | ⟨rfl, t, cs, hn⟩
    · exact .inl hp
    · obtain ⟨⟨cs', h1⟩, h2⟩ := R.var n t cs hn
      exact .inr ⟨by rw [h2], t, cs', h1⟩
  | .ptr n off, v, _, hp => by
    obtain ⟨rfl, t, cs, hn⟩ := hp
    obtain ⟨⟨cs', h1⟩, h2⟩ := R.var n t cs hn
    exact ⟨by rw [h2], t, cs', h1⟩
  | .row n, v, _, hp => by
    obtain ⟨rfl, e, K, xs, hn⟩ := hp
    obtain ⟨h1, h2⟩ := R.row n e K xs hn
    exact ⟨by rw [h2], e, K, xs, h1⟩
  | .elp K xs i off, v, hb, hp => by
    obtain ⟨ad, rfl, hi, hr⟩ := hp
    have hb := hb rfl
    exact ⟨ad, rfl, hi, hr.mono (fun b ho _ => ⟨hb b ho, rfl⟩) fun _ _ => RD.mono fun b ho _ => ⟨hb b ho, rfl⟩⟩
  | .elr n i off, v, _, hp => by
    obtain ⟨e, K, xs, g, hn, hi, hg, rfl⟩ := hp
    obtain ⟨h1, h2⟩ := R.row n e K xs hn
    exact ⟨e, K, xs, g, h1, hi, by rw [h2]; exact hg, rfl⟩
  | .agg cs, v, hb, hp => by
    obtain ⟨vs, rfl, hr⟩ := hp
    exact ⟨vs, rfl, RVs.ren R cs hb hr⟩
  | .ifc t p, v, hb, hp => by
    obtain ⟨u, rfl, hr⟩ := hp
    exact ⟨u, rfl, RV.ren R p hb hr⟩
  | .tup ps, v, hb, hp => by
    obtain ⟨vs, rfl, hr⟩ := hp
    exact ⟨vs, rfl, RVs.ren R ps hb hr⟩
  | .clo g cap, v, hb, hp => by
    obtain ⟨vs, rfl, hr⟩ := hp
    exact ⟨vs, rfl, RVs.ren R cap hb hr⟩
  | .opt g c p, v, _, hp => by simp [RV] at hp
  | .un, v, _, hp => trivial
theorem RVs.ren {h1 h2 : Heap} {G1 G2 : Gh} {σ : Nm → Nm} (R : Ren h1 G1 h2 G2 σ) : ∀ (ps : List PV) {vs : List Value}, (hasSls ps = true → ∀ b, okB h1 G1 b → okB h2 G2 b) → RVs h1 G1 w ps vs → RVs h2 G2 w (rens σ ps) vs
  | [], vs, _, hp => hp
  | p :: r, vs, hb, hp => by
    obtain ⟨v, l, rfl, hv, hl⟩ := hp
    exact ⟨v, l, rfl, RV.ren R p (fun hs => hb (by simp [hasSls, hs])) hv, RVs.ren R r (fun hs => hb (by simp [hasSls, hs])) hl⟩
end
theorem Sub.blk {nf : NA} (S : Sub h G w nf) {X : Nat → Prop} : ∀ k b, blkOf (mkH nf.hp) (subG G nf X) k = some b → ∃ m, look nf.nm k = some (some m) ∧ blkOf h G m = some b := by
  intro k b hb
  cases ho : look nf.hp k with
  | none => simp [blkOf, mkH, ho] at hb
  | some o =>
    have hk : k ∈ keysOf nf.nm := S.fi.k5 k (mem_keys (look_mem ho))
    obtain ⟨x, hx⟩ := keys_mem hk
    have hl := mem_look S.fi.k1 hx
    cases x with
    | none =>
      obtain ⟨e, K, rfl⟩ := S.hnil k o ho hl
      simp [blkOf, mkH, ho, subG, hl, Value.ownBlock] at hb
    | some m =>
      refine ⟨m, hl, ?_⟩
      rcases S.hhp k o ho m hl with ⟨t, cs, cs', rfl, hm⟩ | ⟨e, K, xs, rfl, hm⟩
      · simp [blkOf, mkH, ho, subG, hl] at hb; simp [blkOf, hm, hb]
      · simp [blkOf, mkH, ho, subG, hl] at hb; simp [blkOf, hm, hb]
theorem Sub.toDis {nf : NA} (S : Sub h G w nf) : Dis (mkH nf.hp) (subG G nf (subX h G nf)) w := by
  refine ⟨fun n m b h1 h2 => ?_, fun n b h1 hx => ?_, fun b hx => ?_⟩
  · obtain ⟨m1, a1, a2⟩ := S.blk n b h1
    obtain ⟨m2, b1, b2⟩ := S.blk m b h2
    have := S.dis.inj m1 m2 b a2 b2
    subst this
    exact olds_inj S.fi.k2 (look_mem a1) (look_mem b1)
  · obtain ⟨m1, a1, a2⟩ := S.blk n b h1
    rcases hx with hx | ⟨k, k1, k2, k3⟩
    · exact S.dis.xo m1 b a2 hx
    · have := S.dis.inj m1 k b a2 k3
      subst this
      exact k1 (olds_mem (look_mem a1))
  · rcases hx with hx | ⟨k, _, _, k3⟩
    · exact S.dis.xlt b hx
    · cases hk : h k with
      | none => simp [blkOf, hk] at k3
      | some o => exact RO.lt hk (S.obj k o hk) k3
theorem Sub.old {nf : NA} (S : Sub h G w nf) {m : Nm} (hm : m ∈ oldsOf nf.nm) : ∃ k o, look nf.nm k = some (some m) ∧ look nf.hp k = some o ∧ ((∃ t cs cs', o = .var t cs' ∧ h m = some (.var t cs)) ∨ (∃ e K xs, o = .row e K xs ∧ h m = some (.row e K xs))) := by
  obtain ⟨k, hk⟩ := mem_olds hm
  have h1 := mem_look S.fi.k1 hk
  obtain ⟨o, ho⟩ := keys_mem (S.fi.k4 k (mem_keys hk))
  have h2 := mem_look S.fi.k3 ho
  exact ⟨k, o, h1, h2, S.hhp k o h2 m h1⟩
theorem wqem {hp : List (Nm × HObj)} : ∀ {nm : List (Nm × Option Nm)} {m : Nm}, m ∈ rowsOf hp nm ↔ ∃ k e K xs, (k, some m) ∈ nm ∧ look hp k = some (.row e K xs)
  | [], m => by simp [rowsOf]
  | (k, some a) :: r, m => by
    rw [rowsOf]
    split
    · next e K xs hk =>
      rw [List.mem_cons, wqem]
      constructor
      · rintro (rfl | ⟨k', e', K', xs', h1, h2⟩)
        · exact ⟨k, e, K, xs, by simp, hk⟩
        · exact ⟨k', e', K', xs', by simp [h1], h2⟩
      · rintro ⟨k', e', K', xs', h1, h2⟩
        rcases List.mem_cons.1 h1 with h1 | h1
        · cases h1; exact .inl rfl
        · exact .inr ⟨k', e', K', xs', h1, h2⟩
    · next hk =>
      rw [wqem]
      constructor
      · rintro ⟨k', e', K', xs', h1, h2⟩; exact ⟨k', e', K', xs', by simp [h1], h2⟩
      · rintro ⟨k', e', K', xs', h1, h2⟩
        rcases List.mem_cons.1 h1 with h1 | h1
        · cases h1; exact absurd h2 (hk e' K' xs')
        · exact ⟨k', e', K', xs', h1, h2⟩
  | (k, none) :: r, m => by
    rw [rowsOf, wqem]
    constructor
    · rintro ⟨k', e', K', xs', h1, h2⟩; exact ⟨k', e', K', xs', by simp [h1], h2⟩
    · rintro ⟨k', e', K', xs', h1, h2⟩
      rcases List.mem_cons.1 h1 with h1 | h1
      · cases h1
      · exact ⟨k', e', K', xs', h1, h2⟩
theorem wqh5 {hp hs : List (Nm × HObj)} : ∀ {nm : List (Nm × Option Nm)}, varsBack hp hs nm = true → ∀ k m t cs, (k, some m) ∈ nm → look hp k = some (.var t cs) → ∃ o, look hs k = some o
  | (a, some b) :: r, he, k, m, t, cs, hm, hk => by
    simp only [varsBack, Bool.and_eq_true] at he
    rcases List.mem_cons.1 hm with e | hm
    · cases e
      rw [hk] at he
      cases hh : look hs a with
      | none => rw [hh] at he; cases he.1
      | some o => exact ⟨o, rfl⟩
    · exact wqh5 he.2 k m t cs hm hk
  | (a, none) :: r, he, k, m, t, cs, hm, hk => by
    rcases List.mem_cons.1 hm with e | hm
    · cases e
    · exact wqh5 (nm := r) he k m t cs hm hk
  | [], _, k, m, t, cs, hm, _ => by cases hm
theorem wqz9 (h : Heap) (rs l : List Nm) : ∃ f, (callM h rs l = none ∧ f = PV.row ∨ callM h rs l = some (PV.mapR f)) ∧ ∀ m, f m = callF h rs l m := by
  unfold callM
  split
  · exact ⟨.row, .inl ⟨rfl, rfl⟩, fun m => rfl⟩
  · exact ⟨callF h rs l, .inr rfl, fun m => rfl⟩
theorem wq10y (rs l : List Nm) (n : Nm) : mapH (callM h rs l) h n = (h n).map (mapO (PV.mapR (callF h rs l))) := by
  obtain ⟨f, hf, he⟩ := wqz9 h rs l
  have : f = callF h rs l := funext he
  subst this
  rcases hf with ⟨h1, h2⟩ | h1
  · rw [h1, h2]; cases hn : h n <;> simp [mapH, hn, mapO_row]
  · rw [h1, wqme]
theorem renH_at (σ : Nm → Nm) : ∀ (hs : List (Nm × HObj)) (h : Heap) (n : Nm), (keysOf hs).Nodup → (∀ k k', k ∈ keysOf hs → k' ∈ keysOf hs → σ k = σ k' → k = k') →
    setHs h (renH σ hs) n = match hs.find? (fun x => Nat.beq (σ x.1) n) with | some x => some (renO σ x.2) | none => h n
  | [], h, n, _, _ => rfl
  | (k, o) :: r, h, n, hd, hi => by
    simp only [keysOf, List.nodup_cons] at hd
    rw [renH, setHs, renH_at σ r _ n hd.2 (fun a b ha hb e => hi a b (by simp [keysOf, ha]) (by simp [keysOf, hb]) e), List.find?_cons]
    by_cases hk : σ k = n
    · have hb : Nat.beq (σ k) n = true := beqN.2 hk
      simp only [hb]
      have : r.find? (fun x => Nat.beq (σ x.1) n) = none := by
        rw [List.find?_eq_none]
        intro x hx hxb
        have hxe : σ x.1 = n := by simpa using beqN.1 hxb
        have hxk : x.1 ∈ keysOf r := mem_keys (x := x.2) hx
        have := hi k x.1 (by simp [keysOf]) (by simp [keysOf, hxk]) (hk.trans hxe.symm)
        rw [this] at hd
        exact hd.1 hxk
      rw [this]
      simp [setH_at, hk]
    · have hb : Nat.beq (σ k) n = false := by cases hb : Nat.beq (σ k) n with | false => rfl | true => exact absurd (beqN.1 hb) hk
      simp only [hb]
      cases hf : r.find? (fun x => Nat.beq (σ x.1) n) with
      | some x => rfl
      | none => simp [setH_at, Ne.symm hk]
theorem wqui {d : Nat} {nm : List (Nm × Option Nm)} : ∀ {hs : List (Nm × HObj)}, allNew h d nm hs = true → ∀ k ∈ keysOf hs, (∃ m, look nm k = some (some m)) ∨ ((∀ m, look nm k ≠ some (some m)) ∧ h ((d + 1) * 100 + 1 + k) = none ∧ k ≤ 98)
  | [], _, k, hk => by cases hk
  | (a, o) :: r, he, k, hk => by
    simp only [allNew, Bool.and_eq_true] at he
    simp only [keysOf, List.mem_cons] at hk
    rcases hk with rfl | hk
    · have h1 := he.1
      rw [wqh4] at h1
      cases hl : look nm k with
      | none =>
        rw [hl] at h1
        simp only [Bool.and_eq_true] at h1
        refine .inr ⟨fun m hm => (by cases hm), ?_, Nat.le_of_ble_eq_true h1.2⟩
        cases hh : h ((d + 1) * 100 + 1 + k) with
        | none => rfl
        | some o => have h2 := h1.1; rw [hh] at h2; cases h2
      | some x =>
        cases x with
        | some m => exact .inl ⟨m, rfl⟩
        | none =>
          rw [hl] at h1
          simp only [Bool.and_eq_true] at h1
          refine .inr ⟨fun m hm => (by cases hm), ?_, Nat.le_of_ble_eq_true h1.2⟩
          cases hh : h ((d + 1) * 100 + 1 + k) with
          | none => rfl
          | some o => have h2 := h1.1; rw [hh] at h2; cases h2
    · exact wqui he.2 k hk
theorem back_ok {st st' : St} {d : Nat} {na : NA} {hs : List (Nm × HObj)} {sl : Bool} (S : Sub st.h G w na) (hb : back st d na hs sl = some st') {G1 : Gh} {w' : World} (F : Fin na.hp hs (subG G na (subX st.h G na)) w G1 w') (hsl : sl = false → hasSlH hs = false) :
    ∃ G2, Loud st.h G w st'.h (callM st.h (rowsOf na.hp na.nm) (bif sl then na.fr else [])) G2 w' ∧ st'.t = mapT (callM st.h (rowsOf na.hp na.nm) (bif sl then na.fr else [])) st.t ∧
      ∀ p v, (sl = false → p.hasSl = false) → RV (mkH hs) G1 w' p v → RV st'.h G2 w' (p.ren (sigma d na.nm)) v := by
  unfold back at hb
  cases hbb : (allNew st.h d na.nm hs && varsBack na.hp hs na.nm && noTwice (keysOf hs)) with
  | false => rw [hbb] at hb; cases hb
  | true =>
    rw [hbb, cond_true] at hb
    simp only [Bool.and_eq_true] at hbb
    obtain ⟨⟨hnew, hvb⟩, hnt⟩ := hbb
    have hnd := wqcj hnt
    simp only [Option.some.injEq] at hb
    generalize hl : (bif sl then na.fr else []) = l at hb ⊢
    generalize hrs : rowsOf na.hp na.nm = rs at hb ⊢
    generalize hσ : sigma d na.nm = σ at hb ⊢
    have hlfr : ∀ m ∈ l, m ∈ na.fr := by intro m hm; subst hl; cases sl with | true => exact hm | false => cases hm
    have σold : ∀ k m, look na.nm k = some (some m) → σ k = m := by intro k m hk; subst hσ; simp [sigma, wqh4, hk]
    have σnew : ∀ k, (∀ m, look na.nm k ≠ some (some m)) → σ k = (d + 1) * 100 + 1 + k := by
      intro k hk
      subst hσ
      unfold sigma
      rw [wqh4]
      split
      · next m hm => exact absurd hm (hk m)
      · rfl
    have kinds := wqui hnew
    have oldsome : ∀ k m, look na.nm k = some (some m) → ∃ o, st.h m = some o := by
      intro k m hk
      obtain ⟨k', o, _, _, ho⟩ := S.old (olds_mem (look_mem hk))
      rcases ho with ⟨t, cs, cs', _, ho⟩ | ⟨e, K, xs, _, ho⟩
      · exact ⟨_, ho⟩
      · exact ⟨_, ho⟩
    have σinj : ∀ k k', k ∈ keysOf hs → k' ∈ keysOf hs → σ k = σ k' → k = k' := by
      intro k k' hk hk' e
      rcases kinds k hk with ⟨m, hm⟩ | ⟨h1, h2, _⟩ <;> rcases kinds k' hk' with ⟨m', hm'⟩ | ⟨h1', h2', _⟩
      · rw [σold k m hm, σold k' m' hm'] at e
        subst e
        exact olds_inj S.fi.k2 (look_mem hm) (look_mem hm')
      · obtain ⟨o, ho⟩ := oldsome k m hm
        rw [σold k m hm, σnew k' h1'] at e
        rw [e, h2'] at ho; cases ho
      · obtain ⟨o, ho⟩ := oldsome k' m' hm'
        rw [σold k' m' hm', σnew k h1] at e
        rw [← e, h2] at ho; cases ho
      · rw [σnew k h1, σnew k' h1'] at e; exact Nat.add_left_cancel e
    let M := callM st.h rs l
    let h' : Heap := setHs (setHs (mapH M st.h) (wq5y (rs ++ l))) (renH σ hs)
    have hst : st' = ⟨mapT M st.t, h'⟩ := hb.symm
    let G2 : Gh := ⟨fun n => match hs.find? (fun x => Nat.beq (σ x.1) n) with | some x => G1.bk x.1 | none => G.bk n, fun n => match hs.find? (fun x => Nat.beq (σ x.1) n) with | some x => G1.rv x.1 | none => G.rv n, G.X⟩
    have find_at : ∀ k o, look hs k = some o → hs.find? (fun x => Nat.beq (σ x.1) (σ k)) = some (k, o) := by
      intro k o hk
      have hm := look_mem hk
      cases hf : hs.find? (fun x => Nat.beq (σ x.1) (σ k)) with
      | none =>
        rw [List.find?_eq_none] at hf
        exact absurd (by simp) (hf (k, o) hm)
      | some x =>
        have h1 := List.find?_some hf
        have h2 := List.mem_of_find?_eq_some hf
        have e : σ x.1 = σ k := by simpa using beqN.1 h1
        have hxk : x.1 ∈ keysOf hs := mem_keys (x := x.2) h2
        have := σinj x.1 k hxk (mem_keys hm) e
        have h3 := mem_look hnd (show (x.1, x.2) ∈ hs from h2)
        rw [this, hk] at h3
        cases h3
        rw [← this]
    have find_none : ∀ n, hs.find? (fun x => Nat.beq (σ x.1) n) = none → ∀ k ∈ keysOf hs, σ k ≠ n := by
      intro n hf k hk e
      obtain ⟨o, ho⟩ := keys_mem hk
      rw [List.find?_eq_none] at hf
      exact hf (k, o) ho (by simpa using e)
    have find_some : ∀ n x, hs.find? (fun x => Nat.beq (σ x.1) n) = some x → σ x.1 = n ∧ look hs x.1 = some x.2 := by
      intro n x hf
      have h1 := List.find?_some hf
      have h2 := List.mem_of_find?_eq_some hf
      exact ⟨by simpa using beqN.1 h1, mem_look hnd (show (x.1, x.2) ∈ hs from h2)⟩
    have h'at : ∀ n, h' n = match hs.find? (fun x => Nat.beq (σ x.1) n) with | some x => some (renO σ x.2) | none => if n ∈ rs ++ l then none else (st.h n).map (mapO (PV.mapR (callF st.h rs l))) := by
      intro n
      show setHs (setHs (mapH M st.h) (wq5y (rs ++ l))) (renH σ hs) n = _
      rw [renH_at σ hs _ n hnd σinj]
      cases hs.find? (fun x => Nat.beq (σ x.1) n) with
      | some x => rfl
      | none => simp only [wqkf, M, wq10y]
    have blkNew : ∀ k, k ∈ keysOf hs → blkOf h' G2 (σ k) = blkOf (mkH hs) G1 k := by
      intro k hk
      obtain ⟨o, ho⟩ := keys_mem hk
      have ho := mem_look hnd ho
      have e1 : h' (σ k) = some (renO σ o) := by rw [h'at, find_at k o ho]
      simp only [blkOf, e1, mkH, ho]
      cases o with
      | var t cs => simp [renO, G2, find_at k _ ho]
      | row e K xs => simp [renO, G2, find_at k _ ho]
    have blkOld : ∀ n, hs.find? (fun x => Nat.beq (σ x.1) n) = none → blkOf h' G2 n = if n ∈ rs ++ l then none else blkOf st.h G n := by
      intro n hf
      simp only [blkOf, h'at, hf]
      by_cases hm : n ∈ rs ++ l
      · simp [hm]
      · simp only [if_neg hm]
        cases hn : st.h n with
        | none => rfl
        | some o => cases o <;> simp [mapO, G2, hf]
    have blkCase : ∀ n b, blkOf h' G2 n = some b → (∃ k, k ∈ keysOf hs ∧ σ k = n ∧ blkOf (mkH hs) G1 k = some b) ∨ ((∀ k ∈ keysOf hs, σ k ≠ n) ∧ n ∉ rs ++ l ∧ blkOf st.h G n = some b) := by
      intro n b hn
      cases hf : hs.find? (fun x => Nat.beq (σ x.1) n) with
      | some x =>
        obtain ⟨e, hx⟩ := find_some n x hf
        have hk := mem_keys (look_mem hx)
        rw [← e, blkNew x.1 hk] at hn
        exact .inl ⟨x.1, hk, e, hn⟩
      | none =>
        rw [blkOld n hf] at hn
        split at hn
        · cases hn
        · next hm => exact .inr ⟨find_none n hf, hm, hn⟩
    have notOld : ∀ n, (∀ k ∈ keysOf hs, σ k ≠ n) → n ∉ rs → n ∉ oldsOf na.nm := by
      intro n hk hn hm
      obtain ⟨k, o, h1, h2, ho⟩ := S.old hm
      rcases ho with ⟨t, cs, cs', rfl, ho⟩ | ⟨e, K, xs, rfl, ho⟩
      · obtain ⟨o', ho'⟩ := wqh5 hvb k n t cs' (look_mem h1) h2
        exact hk k (mem_keys (look_mem ho')) (σold k n h1)
      · exact hn (by rw [← hrs]; exact wqem.2 ⟨k, e, K, xs, look_mem h1, h2⟩)
    have gcNew : ∀ k b, blkOf (mkH hs) G1 k = some b → (∃ m ∈ oldsOf na.nm, blkOf st.h G m = some b) ∨ w.heap.size ≤ b := by
      intro k b hk
      rcases F.new k b hk with ⟨m, hm⟩ | hlt
      · obtain ⟨m', h1, h2⟩ := S.blk m b hm
        exact .inl ⟨m', olds_mem (look_mem h1), h2⟩
      · exact .inr hlt
    have olt : ∀ n b, blkOf st.h G n = some b → b < w.heap.size := by
      intro n b hn
      cases ho : st.h n with
      | none => simp [blkOf, ho] at hn
      | some o => exact RO.lt ho (S.obj n o ho) hn
    have keepB : ∀ b, b < w.heap.size → (∀ m ∈ oldsOf na.nm, blkOf st.h G m ≠ some b) → w'.heap[b]? = w.heap[b]? := by
      intro b hb hm
      refine F.blk b hb fun k hk => ?_
      obtain ⟨m, h1, h2⟩ := S.blk k b hk
      exact hm m (olds_mem (look_mem h1)) h2
    have okOld : ∀ b, okB st.h G b → b < w.heap.size → okB h' G2 b ∧ w'.heap[b]? = w.heap[b]? := by
      intro b ho hlt
      refine ⟨⟨fun n hn => ?_, ho.2⟩, keepB b hlt fun m _ hm => ho.1 m hm⟩
      rcases blkCase n b hn with ⟨k, _, _, hk⟩ | ⟨_, _, hk⟩
      · rcases gcNew k b hk with ⟨m, _, hm⟩ | hlt'
        · exact ho.1 m hm
        · omega
      · exact ho.1 n hk
    have okNew : sl = true → ∀ b, okB (mkH hs) G1 b → okB h' G2 b := by
      intro hslt b ho
      have hxb : ¬ subX st.h G na b := by have := ho.2; rw [F.X] at this; exact this
      refine ⟨fun n hn => ?_, fun hx => hxb (.inl hx)⟩
      rcases blkCase n b hn with ⟨k, _, _, hk⟩ | ⟨h1, h2, hk⟩
      · exact ho.1 k hk
      · refine hxb (.inr ⟨n, notOld n h1 (fun hm => h2 (by simp [hm])), fun hm => h2 ?_, hk⟩)
        subst hl
        simp [hslt, hm]
    have R : Ren (mkH hs) G1 h' G2 σ := by
      refine ⟨fun n t cs hn => ?_, fun n e K xs hn => ?_⟩
      · have e1 : h' (σ n) = some (renO σ (.var t cs)) := by rw [h'at, find_at n _ hn]
        exact ⟨⟨_, e1⟩, by simp [G2, find_at n _ hn]⟩
      · have e1 : h' (σ n) = some (renO σ (.row e K xs)) := by rw [h'at, find_at n _ hn]
        exact ⟨e1, by simp [G2, find_at n _ hn]⟩
    have rowD : ∀ m e K xs, m ∈ l → st.h m = some (.row e K xs) → RV h' G2 w' (.v (.sl K) xs) (G.rv m) := by
      intro m e K xs hm hr
      obtain ⟨A, cap, hrv, hcap, hrr⟩ := own_row (S.obj _ _ hr)
      refine ⟨A, cap, by rw [hrv], hcap, ?_⟩
      rcases hrr with hrr | ⟨ad, g, cs, fz, hA, had, hg, hgh, hrr⟩
      · exact .inl hrr
      · have hgb : blkOf st.h G m = some g := by simp [blkOf, hr, hg]
        have hlt := (Array.getElem?_eq_some_iff.1 hgh).1
        have hno : ∀ k ∈ oldsOf na.nm, blkOf st.h G k ≠ some g := by
          intro k hk hkb
          have := S.dis.inj k m g hkb hgb
          subst this
          exact S.fi.k6 k (hlfr k hm) hk
        have hkeep := keepB g hlt hno
        refine .inr ⟨ad, hA, ?_, ?_, fun i y hy => ?_⟩
        · subst had
          refine ⟨fun n hn => ?_, S.dis.xo m g hgb⟩
          rcases blkCase n g hn with ⟨k, _, _, hk⟩ | ⟨_, h2, hk⟩
          · rcases gcNew k g hk with ⟨m', hm', hmb⟩ | hlt'
            · exact hno m' hm' hmb
            · omega
          · have := S.dis.inj n m g hk hgb
            subst this
            exact h2 (by simp [hm])
        · subst had
          have : w'.heap[g]? = some (.cells cs e fz) := by rw [hkeep]; exact hgh
          exact (Array.getElem?_eq_some_iff.1 this).1
        · obtain ⟨c, hc, hu⟩ := hrr i y hy
          refine ⟨c, hc.mono okOld, fun j u hj => ?_⟩
          rw [World.cell?_of_block (w := w) (by rw [wqb0, had]; exact hkeep)]
          exact hu j u hj
    have C : Carry st.h G w h' G2 w' (callF st.h rs l) := by
      refine ⟨okOld, fun n t cs hn => ?_, fun n e K xs hn => ?_⟩
      · cases hf : hs.find? (fun x => Nat.beq (σ x.1) n) with
        | some x =>
          obtain ⟨e1, hx⟩ := find_some n x hf
          have hk := mem_keys (look_mem hx)
          rcases kinds x.1 hk with ⟨m, hm⟩ | ⟨a1, a2, _⟩
          · have : m = n := by rw [← e1, σold x.1 m hm]
            subst this
            obtain ⟨o, ho⟩ := keys_mem (S.fi.k4 x.1 (mem_keys (look_mem hm)))
            have ho := mem_look S.fi.k3 ho
            rcases S.hhp x.1 o ho m hm with ⟨t', cs1, cs2, rfl, hv⟩ | ⟨e, K, xs, rfl, hv⟩
            · rw [hn] at hv
              cases hv
              obtain ⟨⟨cs3, hk1⟩, hk2⟩ := F.keep x.1 t cs2 ho x.2 hx
              refine ⟨⟨rens σ cs3, ?_⟩, ?_⟩
              · rw [h'at, hf]; simp only [hk1, renO]
              · show (match hs.find? (fun x => Nat.beq (σ x.1) m) with | some x => G1.bk x.1 | none => G.bk m) = G.bk m
                rw [hf]
                simp only [hk2, subG, hm]
            · rw [hn] at hv; cases hv
          · rw [← e1, σnew x.1 a1, a2] at hn; cases hn
        | none =>
          have hnl : n ∉ rs ++ l := by
            intro hm
            rcases List.mem_append.1 hm with hm | hm
            · rw [← hrs] at hm
              obtain ⟨k, e, K, xs, h1, h2⟩ := wqem.1 hm
              rcases S.hhp k _ h2 n (mem_look S.fi.k1 h1) with ⟨_, _, _, h3, _⟩ | ⟨e', K', xs', _, h4⟩
              · cases h3
              · rw [hn] at h4; cases h4
            · obtain ⟨e, K, xs, h3⟩ := S.fo.fr n (hlfr n hm)
              rw [hn] at h3; cases h3
          refine ⟨⟨cs.map (PV.mapR (callF st.h rs l)), ?_⟩, ?_⟩
          · rw [h'at, hf]; simp only [if_neg hnl, hn]; rfl
          · show (match hs.find? (fun x => Nat.beq (σ x.1) n) with | some x => G1.bk x.1 | none => G.bk n) = G.bk n
            rw [hf]
      · by_cases hm1 : n ∈ rs
        · have : callF st.h rs l n = .un := by simp [callF, isIn_mem.2 hm1]
          rw [this]
          exact ⟨trivial, fun m hm => by cases hm⟩
        · have hi1 : isIn n rs = false := by cases hb : isIn n rs with | false => rfl | true => exact absurd (isIn_mem.1 hb) hm1
          by_cases hm2 : n ∈ l
          · have : callF st.h rs l n = .v (.sl K) xs := by simp [callF, hi1, isIn_mem.2 hm2, hn]
            rw [this]
            exact ⟨rowD n e K xs hm2 hn, fun m hm => by cases hm⟩
          · have hi2 : isIn n l = false := by cases hb : isIn n l with | false => rfl | true => exact absurd (isIn_mem.1 hb) hm2
            have hcf : callF st.h rs l n = .row n := by simp [callF, hi1, hi2]
            have hf : hs.find? (fun x => Nat.beq (σ x.1) n) = none := by
              cases hf : hs.find? (fun x => Nat.beq (σ x.1) n) with
              | none => rfl
              | some x =>
                exfalso
                obtain ⟨e1, hx⟩ := find_some n x hf
                have hk := mem_keys (look_mem hx)
                rcases kinds x.1 hk with ⟨m, hm⟩ | ⟨a1, a2, _⟩
                · have : m = n := by rw [← e1, σold x.1 m hm]
                  subst this
                  obtain ⟨o, ho⟩ := keys_mem (S.fi.k4 x.1 (mem_keys (look_mem hm)))
                  have ho := mem_look S.fi.k3 ho
                  rcases S.hhp x.1 o ho m hm with ⟨t', cs1, cs2, rfl, hv⟩ | ⟨e', K', xs', rfl, hv⟩
                  · rw [hn] at hv; cases hv
                  · exact hm1 (by rw [← hrs]; exact wqem.2 ⟨x.1, e', K', xs', look_mem hm, ho⟩)
                · rw [← e1, σnew x.1 a1, a2] at hn; cases hn
            have hnl : n ∉ rs ++ l := by simp [hm1, hm2]
            have hh : h' n = some (.row e K xs) := by rw [h'at, hf]; simp only [if_neg hnl, hn]; rfl
            have hrv : G2.rv n = G.rv n := by show (match hs.find? (fun x => Nat.beq (σ x.1) n) with | some x => G1.rv x.1 | none => G.rv n) = G.rv n; rw [hf]
            rw [hcf]
            exact ⟨⟨hrv.symm, e, K, xs, hh⟩, fun m hm => by cases hm; exact ⟨e, xs, hh, Nat.le_refl _⟩⟩
    have L : Loud st.h G w h' M G2 w' := by
      refine ⟨?_, fun n o hn => ?_, fun n m b h1 h2 => ?_, fun b hlt hfree => keepB b hlt fun m _ hm => hfree m hm, rfl, fun n b hn => ?_, F.grow, F.os, F.tape, F.out⟩
      · obtain ⟨f, hf, he⟩ := wqz9 st.h rs l
        exact ⟨f, hf, by rw [show f = callF st.h rs l from funext he]; exact C⟩
      · cases hf : hs.find? (fun x => Nat.beq (σ x.1) n) with
        | some x =>
          obtain ⟨e1, hx⟩ := find_some n x hf
          have hk := mem_keys (look_mem hx)
          rw [h'at, hf] at hn
          simp only [Option.some.injEq] at hn
          subst hn
          have hro := F.obj x.1 x.2 hx
          have hbk : G2.bk n = G1.bk x.1 := by simp only [G2, hf]
          have hrv : G2.rv n = G1.rv x.1 := by simp only [G2, hf]
          have hsx : sl = false → hasSlO x.2 = false := by
            intro hs0
            have h0 := hsl hs0
            have key : ∀ (l : List (Nm × HObj)), hasSlH l = false → ∀ y ∈ l, hasSlO y.2 = false := by
              intro l
              induction l with
              | nil => intro _ y hy; cases hy
              | cons a r ih =>
                intro hl y hy
                simp only [hasSlH, Bool.or_eq_false_iff] at hl
                rcases List.mem_cons.1 hy with rfl | hy
                · exact hl.1
                · exact ih hl.2 y hy
            exact key hs h0 (x.1, x.2) (look_mem hx)
          cases hx2 : x.2 with
          | var t cs =>
            rw [hx2] at hro hsx
            obtain ⟨vs, hw, hv⟩ := hro
            refine ⟨vs, by rw [hbk]; exact hw, RVs.ren R cs (fun hh => ?_) hv⟩
            cases hs2 : sl with
            | true => exact okNew hs2
            | false => have h3 := hsx hs2; simp only [hasSlO] at h3; rw [h3] at hh; cases hh
          | row e K xs =>
            rw [hx2] at hro hsx
            obtain ⟨vs, hown, hv, hp⟩ := hro
            refine ⟨vs, by rw [hrv]; exact hown, ?_, hp⟩
            cases hs2 : sl with
            | true => exact hv.mono fun b ho _ => ⟨okNew hs2 b ho, rfl⟩
            | false => exact hv.plain (hsx hs2)
        | none =>
          rw [h'at, hf] at hn
          simp only at hn
          split at hn
          · cases hn
          · next hnl =>
            obtain ⟨o', ho', rfl⟩ := Option.map_eq_some_iff.1 hn
            refine RO.carry C ho' (S.obj n o' ho') (fun b hb => keepB b (olt n b hb) fun m hm hmb => ?_) (by simp only [G2, hf]) (by simp only [G2, hf])
            have := S.dis.inj m n b hmb hb
            subst this
            exact notOld m (find_none m hf) (fun hm2 => hnl (by simp [hm2])) hm
      · rcases blkCase n b h1 with ⟨k, hk, rfl, hkb⟩ | ⟨a1, a2, a3⟩ <;> rcases blkCase m b h2 with ⟨k', hk', rfl, hkb'⟩ | ⟨b1, b2, b3⟩
        · rw [F.inj k k' b hkb hkb']
        · exfalso
          rcases gcNew k b hkb with ⟨m', hm', hmb⟩ | hlt
          · have := S.dis.inj m' m b hmb b3
            subst this
            exact notOld m' b1 (fun hm2 => b2 (by simp [hm2])) hm'
          · have := olt m b b3; omega
        · exfalso
          rcases gcNew k' b hkb' with ⟨m', hm', hmb⟩ | hlt
          · have := S.dis.inj m' n b hmb a3
            subst this
            exact notOld m' a1 (fun hm2 => a2 (by simp [hm2])) hm'
          · have := olt n b a3; omega
        · exact S.dis.inj n m b a3 b3
      · rcases blkCase n b hn with ⟨k, hk, rfl, hkb⟩ | ⟨_, _, a3⟩
        · rcases gcNew k b hkb with ⟨m', _, hmb⟩ | hlt
          · exact .inl ⟨m', hmb⟩
          · exact .inr hlt
        · exact .inl ⟨n, a3⟩
    refine ⟨G2, ?_, ?_, fun p v hp hv => ?_⟩
    · rw [hst]; exact L
    · rw [hst]
    · rw [hst]
      refine RV.ren R p (fun hh => ?_) hv
      cases hs2 : sl with
      | true => exact okNew hs2
      | false => have h3 := hp hs2; rw [h3] at hh; cases hh
end Go.Proofs.YtpfbdepoammjmaaGreatDoor.Pvm

namespace Go.Proofs.YtpfbdepoammjmaaGreatDoor.Pvm
open Go
variable {P : Program}
def Does (P : Program) (f : FuncId) (args : Array Value) (w : World) (Post : Ending → World → Prop) : Prop :=
  match (callFunc f args).run P w with
  | .ok (.enter f' args') w' => Calls P f' args' w' Post
  | .ok (.value v) w' => Post (.returned v) w'
  | _ => False
theorem Does.mono {f : FuncId} {args : Array Value} {w : World} {R R' : Ending → World → Prop} (h : Does P f args w R) (hr : ∀ e w', R e w' → R' e w') : Does P f args w R' := by
  unfold Does at *
  split at h
  · exact Calls.mono h hr
  · exact hr _ _ h
  · exact h.elim
def DoesTo (P : Program) (f : FuncId) (args : List PV) (hp : List (Nm × HObj)) (O : Out → Prop) : Prop :=
  ∀ (G : Gh) (w : World) (vals : List Value), RVs (mkH hp) G w args vals → (∀ n o, mkH hp n = some o → RO (mkH hp) G w n o) → Dis (mkH hp) G w →
    Does P f vals.toArray w fun e w' => ∃ out, O out ∧ ∃ G', OutIs G' w' e out ∧ Fin hp out.hs G w G' w'
def CTab.Ok (P : Program) (C : CTab) : Prop :=
  ∀ (f : FuncId) (ps : List PV) (hp : List (Nm × HObj)) {R : Type} (K : Out → Option R) (r : R), C.run f ps hp K = some r → DoesTo P f ps hp fun out => K out = some r
theorem CTab.nil_ok {P : Program} : CTab.nil.Ok P := fun _ _ _ _ _ _ h => by cases h
theorem CTab.add_ok {P : Program} {f : FuncId} {s : List LS} {C : CTab} {run : {R : Type} → List PV → List (Nm × HObj) → (Out → Option R) → Option R}
    (h : ∀ {ps : List PV} {hp : List (Nm × HObj)} {R : Type} {K : Out → Option R} {r : R}, run ps hp K = some r → DoesTo P f ps hp fun out => K out = some r) (hC : C.Ok P) : (CTab.add f s run C).Ok P := by
  intro g ps hp R K r hr
  unfold CTab.add at hr
  simp only at hr
  cases hb : Nat.beq g f with
  | true => rw [hb, cond_true] at hr; rw [Nat.eq_of_beq_eq_true hb]; exact h hr
  | false => rw [hb, cond_false] at hr; exact hC _ _ _ _ _ hr
structure Ctx.Ok (P : Program) (cx : Ctx) : Prop where
  ty : TyOk P cx.ty
  C : cx.C.Ok P
  sh : ∀ {T R : Type} (x : T) (f : T → Option R), cx.sh x f = f x
theorem shE_eq {P : Program} {cx : Ctx} (X : cx.Ok P) {R : Type} : ∀ (l : List (Nm × Option HObj)) (k : List (Nm × Option HObj) → Option R), shE cx l k = k l
  | [], k => rfl
  | (n, none) :: r, k => by rw [shE, shE_eq X r]; intro _ _ _ _ h; cases h
  | (n, some (.var t cs)) :: r, k => by rw [shE, shE_eq X r]; intro _ _ _ _ h; cases h
  | (n, some (.row e K xs)) :: r, k => by
    rw [shE]
    cases Nat.ble 2 K.sz with
    | true => rw [cond_true, X.sh, shE_eq X r]
    | false => rw [cond_false, shE_eq X r]
theorem wqwp {s : Nat} {b : Bool} : ∀ {g : List (Nat × Bool)}, tagIn s b g = true → (s, b) ∈ g
  | [], h => by cases h
  | (s', b') :: r, h => by
    rw [tagIn] at h
    cases hb : (Nat.beq s' s && (b' == b)) with
    | true =>
      simp only [Bool.and_eq_true] at hb
      have h1 := beqN.1 hb.1
      have h2 : b' = b := by simpa using hb.2
      subst h1 h2
      exact List.mem_cons_self
    | false => rw [hb] at h; exact List.mem_cons_of_mem _ (wqwp h)
theorem wquj {G : List (Nat × Bool)} : ∀ {g : List (Nat × Bool)}, tagsIn G g = true → ∀ x ∈ g, x ∈ G
  | [], _, x, hx => by cases hx
  | (s, b) :: r, h, x, hx => by
    simp only [tagsIn, Bool.and_eq_true] at h
    rcases List.mem_cons.1 hx with rfl | hx
    · exact wqwp h.1
    · exact wquj h.2 x hx
section
variable {h : Heap} {G : Gh} {w : World}
theorem useO_ok {tm : Nat → Value} {Gd : List (Nat × Bool)} (hG : tagsHold tm Gd) {p : PV} {v : Value} (hp : RT h G w tm p v) : RV h G w (useO Gd p) v := by
  cases p with
  | opt g c p =>
    rw [useO]
    cases ht : tagsIn Gd g with
    | true => exact (hp.1 fun x hx => hG x (wquj ht x hx)).2
    | false => trivial
  | kb b => have : v = .bool b := hp; subst this; exact rfl
  | ng b => trivial
  | _ => exact hp
end
section
variable {w0 : World} {fr : Nat → Prop} {X0 : Org} {n : Nat} {ds : List Deferred} {st : St} {G : Gh} {a : Act} {w : World}
theorem Rel.get (R : Rel w0 fr X0 n ds st G a w) (x : Operand) : RT st.h G w (tmOf a) (st.get x) (a.eval x) := by
  cases x with
  | tmp t => exact R.tm t
  | const v => exact RT_of_RV (cv_ok (h := st.h) (G := G) (w := w) v)
  | func f => exact RT_of_RV (show RV st.h G w (.clo f []) _ from ⟨[], rfl, rfl⟩)
  | global g => exact RT_of_RV (show RV st.h G w .un _ from trivial)
theorem Rel.use (R : Rel w0 fr X0 n ds st G a w) {Gd : List (Nat × Bool)} (hG : tagsHold (tmOf a) Gd) (x : Operand) : RV st.h G w (useO Gd (st.get x)) (a.eval x) := useO_ok hG (R.get x)
theorem noTags {tm : Nat → Value} : tagsHold tm [] := fun x hx => by cases hx
theorem Rel.toDis (R : Rel w0 fr X0 n ds st G a w) (hf : ∀ b, fr b → b < w0.heap.size) : Dis st.h G w :=
  ⟨R.dis, fun m b hm hx => R.apart m b hm (R.xfr b hx), fun b hx => Nat.lt_of_lt_of_le (hf b (R.xfr b hx)) R.grow⟩
theorem Rel.noLoud (R : Rel w0 fr X0 n ds st G a w) (hf : ∀ b, fr b → b < w0.heap.size) : Loud st.h G w st.h none G w := Loud.still R.obj (R.toDis hf) (.refl w)
theorem Rel.putV (R : Rel w0 fr X0 n ds st G a w) (hf : ∀ b, fr b → b < w0.heap.size) {d : Option Nat} (hd : ∀ i, d = some i → i < n) {p : PV} {v : Value} (hp : RV st.h G w p v) :
    Rel w0 fr X0 n ds (putV st d p) G (a.put d v) w := by
  cases d with
  | none => exact R
  | some d => exact R.loud hf (R.noLoud hf) (hd d rfl) hp
theorem Rel.putE (R : Rel w0 fr X0 n ds st G a w) (hf : ∀ b, fr b → b < w0.heap.size) {d : Option Nat} (hd : ∀ i, d = some i → i < n) {ev : Ev} {v : Value} {G' : Gh} {w' : World}
    (L : Loud st.h G w (setHs (mapH ev.mp st.h) ev.hs) ev.mp G' w') (hp : RV (setHs (mapH ev.mp st.h) ev.hs) G' w' ev.val v) :
    Rel w0 fr X0 n ds (putE st d ev) G' (a.put d v) w' := by
  cases d with
  | none => exact R.loud0 hf L
  | some d => exact R.loud hf L (hd d rfl) hp
theorem tags_put {a : Act} {d : Nat} {v : Value} (hd : d < a.tmps.size) {g : List (Nat × Bool)} (hg : hasTag d g = false) : tagsHold (tmOf (a.put (some d) v)) g ↔ tagsHold (tmOf a) g := by
  constructor
  · intro ht x hx
    have := ht x hx
    rwa [tmOf_put hd, if_neg (wqh2 hg x hx)] at this
  · intro ht x hx
    rw [tmOf_put hd, if_neg (wqh2 hg x hx)]
    exact ht x hx
theorem Rel.putO (R : Rel w0 fr X0 n ds st G a w) (hf : ∀ b, fr b → b < w0.heap.size) {d : Option Nat} (hd : ∀ i, d = some i → i < n) {g : List (Nat × Bool)} {c : Bool} {p : PV} {v : Value} {w' : World} (S : Still w w')
    (h1 : tagsHold (tmOf a) g → c = true ∧ RV st.h G w' p v) (h2 : ¬ tagsHold (tmOf a) g → v = undef) {st' : St} (he : Pvm.putO st d g c p = some st') :
    Rel w0 fr X0 n ds st' G (a.put d v) w' := by
  have L := Loud.still R.obj (R.toDis hf) S
  cases d with
  | none => cases he; exact R.loud0 hf L
  | some d =>
    rw [Pvm.putO] at he
    cases hg : hasTag d g with
    | true => rw [hg] at he; cases he
    | false =>
      rw [hg] at he
      cases he
      have hs : d < a.tmps.size := by rw [R.size]; exact hd d rfl
      have R1 := R.loud hf L (hd d rfl) (p := .un) (v := v) trivial
      refine ⟨fun i => ?_, R1.size, R1.obj, R1.dis, R1.apart, R1.xfr, R1.xeq, R1.org, R1.ext, R1.grow, R1.os, R1.tape, R1.out, R1.defers⟩
      by_cases hi : i = d
      · subst hi
        have e1 : upd st.t i (.opt g c p) i = .opt g c p := by simp [upd]
        show RT st.h G w' _ (upd st.t i (.opt g c p) i) _
        rw [e1, tmOf_put hs, if_pos rfl]
        exact ⟨fun ht => h1 ((tags_put hs hg).1 ht), fun ht => h2 fun h => ht ((tags_put hs hg).2 h)⟩
      · have := R1.tm i
        have hb : Nat.beq i d = false := by cases hb : Nat.beq i d with | false => rfl | true => exact absurd (beqN.1 hb) hi
        have e1 : upd st.t d (.opt g c p) i = upd (mapT none st.t) d .un i := by simp [upd, hb, mapT]
        show RT st.h G w' _ (upd st.t d (.opt g c p) i) _
        rw [e1]; exact this
theorem put_same {a : Act} {s : Nat} (hs : s < a.tmps.size) : a.put (some s) (tmOf a s) = a := by
  unfold Act.put tmOf
  have : a.tmps.setIfInBounds s (a.tmps.getD s undef) = a.tmps := by
    apply Array.ext_getElem?
    intro i
    rw [Array.getElem?_setIfInBounds]
    by_cases hi : s = i
    · subst hi; simp [hs]
    · simp [hi]
  simp only [this]
theorem bool_lt {a : Act} {s : Nat} {b : Bool} (h : tmOf a s = .bool b) : s < a.tmps.size := by
  unfold tmOf at h
  by_cases hs : s < a.tmps.size
  · exact hs
  · rw [Array.getD_eq_getD_getElem?, Array.getElem?_eq_none (by omega)] at h
    simp [undef] at h
theorem wqza {s : Nat} {b : Bool} : ∀ {g : List (Nat × Bool)}, tagIn s b g = true ↔ (s, b) ∈ g
  | [] => by simp [tagIn]
  | (s', b') :: r => by
    rw [tagIn]
    cases h : (Nat.beq s' s && (b' == b)) with
    | true =>
      simp only [Bool.and_eq_true] at h
      have h1 := beqN.1 h.1
      have h2 : b' = b := by simpa using h.2
      subst h1 h2
      simp
    | false =>
      rw [cond_false, wqza]
      constructor
      · exact fun h => List.mem_cons_of_mem _ h
      · intro hm
        rcases List.mem_cons.1 hm with e | hm
        · cases e; simp at h
        · exact hm
theorem wqiq {s : Nat} {x : Nat × Bool} : ∀ {g : List (Nat × Bool)}, x ∈ dropTag s g ↔ x ∈ g ∧ x.1 ≠ s
  | [] => by simp [dropTag]
  | (s', b') :: r => by
    rw [dropTag]
    cases h : Nat.beq s' s with
    | true =>
      have := beqN.1 h
      subst this
      rw [cond_true, wqiq]
      constructor
      · exact fun h => ⟨List.mem_cons_of_mem _ h.1, h.2⟩
      · rintro ⟨h1, h2⟩
        rcases List.mem_cons.1 h1 with e | h1
        · subst e; exact absurd rfl h2
        · exact ⟨h1, h2⟩
    | false =>
      have hne : s' ≠ s := fun e => by rw [beqN.2 e] at h; cases h
      rw [cond_false, List.mem_cons, wqiq, List.mem_cons]
      constructor
      · rintro (e | ⟨h1, h2⟩)
        · subst e; exact ⟨.inl rfl, hne⟩
        · exact ⟨.inr h1, h2⟩
      · rintro ⟨e | h1, h2⟩
        · exact .inl e
        · exact .inr ⟨h1, h2⟩
theorem resO_ok {h : Heap} {G : Gh} {w : World} {tm : Nat → Value} {s : Nat} {b : Bool} (hs : tm s = .bool b) {p : PV} {v : Value} (hp : RT h G w tm p v) : RT h G w tm (resO s b p) v := by
  cases p with
  | opt g c p =>
    rw [resO]
    cases ht : tagIn s (!b) g with
    | true => rw [cond_true]; exact trivial
    | false =>
      rw [cond_false]
      have key : tagsHold tm (dropTag s g) ↔ tagsHold tm g := by
        constructor
        · intro hd x hx
          by_cases hxs : x.1 = s
          · obtain ⟨x1, x2⟩ := x
            simp only at hxs
            subst hxs
            have : x2 = b := by
              cases hb : (x2 == b) with
              | true => simpa using hb
              | false =>
                have : x2 = !b := by cases x2 <;> cases b <;> simp_all
                subst this
                rw [wqza.2 hx] at ht; cases ht
            subst this; exact hs
          · exact hd x (wqiq.2 ⟨hx, hxs⟩)
        · exact fun hd x hx => hd x (wqiq.1 hx).1
      split
      · next he =>
        have : tagsHold tm g := key.1 (by rw [he]; exact fun x hx => by cases hx)
        exact RT_of_RV (hp.1 this).2
      · next x r he =>
        rw [he] at key
        exact ⟨fun h => hp.1 (key.1 h), fun h => hp.2 fun hg => h (key.2 hg)⟩
  | _ => exact hp
theorem Rel.know (R : Rel w0 fr X0 n ds st G a w) (hf : ∀ b, fr b → b < w0.heap.size) {s : Nat} {b : Bool} (hs : tmOf a s = .bool b) : Rel w0 fr X0 n ds ⟨knowT st.t s b, st.h⟩ G a w := by
  refine ⟨fun i => ?_, R.size, R.obj, R.dis, R.apart, R.xfr, R.xeq, R.org, R.ext, R.grow, R.os, R.tape, R.out, R.defers⟩
  show RT st.h G w (tmOf a) (knowT st.t s b i) (tmOf a i)
  unfold knowT
  cases hb : Nat.beq i s with
  | true => rw [beqN.1 hb]; exact hs
  | false => exact resO_ok hs (R.tm i)
theorem wq11x (σ : Nm → Nm) (ps : List PV) : (tupOf ps).ren σ = tupOf (rens σ ps) := by
  cases ps with
  | nil => rfl
  | cons p r => cases r with
    | nil => rfl
    | cons q r => rfl
theorem wq105 (ps : List PV) (h : hasSls ps = false) : (tupOf ps).hasSl = false := by
  cases ps with
  | nil => rfl
  | cons p r => cases r with
    | nil => simpa [tupOf, hasSls] using h
    | cons q r => exact h
theorem wqva {k m : Nm} : ∀ {l : List (Nm × Option Nm)}, (k, some m) ∈ l → m ∈ oldsOf l
  | (k', none) :: r, h => by
    rcases List.mem_cons.1 h with e | h
    · cases e
    · exact wqva (l := r) h
  | (k', some m') :: r, h => by
    rw [oldsOf]
    rcases List.mem_cons.1 h with e | h
    · cases e; exact List.mem_cons_self
    · exact List.mem_cons_of_mem _ (wqva h)
  | [], h => by cases h
theorem callK_ok {cx : Ctx} (X : cx.Ok P) {R0 : Type} {K : Option PV → St → Option R0} {r : R0} {g : FuncId} {args : List PV} {d : Nat} (he : callK cx g args d st K = some r)
    (R : Rel w0 fr X0 n ds st G a w) (hf : ∀ b, fr b → b < w0.heap.size) (hd : d < n) {vals : List Value} (hargs : RVs st.h G w args vals) :
    Does P g vals.toArray w fun e w' => match e with
      | .returned v => ∃ st' G', K none st' = some r ∧ Rel w0 fr X0 n ds st' G' (a.put (some d) v) w' ∧ Kept st.h G w st'.h G' w' (touchC cx g args st)
      | .panicked ch => ∃ p v st' G', ch = [{ v, recovered := false }] ∧ K (some p) st' = some r ∧ Rel w0 fr X0 n ds st' G' a w' ∧ RV st'.h G' w' p v
      | .outgrown => False := by
  unfold callK at he
  split at he
  · next ps na hn =>
    cases hfi : fine na with
    | false => rw [hfi] at he; cases he
    | true =>
      rw [hfi, cond_true] at he
      have hc := X.C _ _ _ _ _ he
      have F0 : Found st.h ⟨[], [], []⟩ := ⟨fun k o hk => (by cases hk), fun m hm => (by cases hm)⟩
      obtain ⟨F1, L1⟩ := normPs_found _ _ _ hn F0
      have S : Sub st.h G w na := ⟨wqqi hfi, F1, R.obj, R.toDis hf⟩
      obtain ⟨h1, h2⟩ := Sub.norms S _ _ _ hn (.refl na) F0 hargs
      have hobj : ∀ k o, mkH na.hp k = some o → RO (mkH na.hp) (subG G na (subX st.h G na)) w k o := fun k o hk => by
        rcases h2 (k, o) (look_mem hk) with h | h
        · cases h
        · exact h
      refine (hc _ w vals h1 hobj S.toDis).mono fun e w' hh => ?_
      obtain ⟨out, ho, G1, hout, F⟩ := hh
      have hV : VarKept st.h G w w' (touchC cx g args st) := by
        intro m t cs hm hmn
        obtain ⟨us, hwm, _⟩ := R.obj m _ hm
        refine F.blk _ (Array.getElem?_eq_some_iff.1 hwm).1 fun k hk => ?_
        obtain ⟨m', hk1, hk2⟩ := S.blk k _ hk
        have := R.dis m m' (G.bk m) (by simp [blkOf, hm]) hk2
        subst this
        refine hmn ?_
        unfold touchC
        rw [hn]
        exact wqva (look_mem hk1)
      cases out with
      | ret rs hs =>
        obtain ⟨v, rfl, hv⟩ := hout
        simp only at ho
        split at ho
        · next st' hb =>
          obtain ⟨G2, L, ht, hren⟩ := back_ok S hb F (fun h => by simp only [Bool.or_eq_false_iff] at h; exact h.2)
          refine ⟨_, G2, ho, ?_, L.kept hV⟩
          have hv2 := hren _ _ (fun h => by simp only [Bool.or_eq_false_iff] at h; exact wq105 rs h.1) hv
          rw [wq11x] at hv2
          have := R.loud hf L hd hv2
          rw [ht]; exact this
        · cases ho
      | pan p hs =>
        obtain ⟨v, rfl, hv⟩ := hout
        simp only at ho
        split at ho
        · next st' hb =>
          obtain ⟨G2, L, ht, hren⟩ := back_ok S hb F (fun h => by simp only [Bool.or_eq_false_iff] at h; exact h.2)
          refine ⟨_, v, _, G2, rfl, ho, ?_, ?_⟩
          · have := R.loud0 hf L
            rw [← ht] at this
            exact this
          · exact hren _ _ (fun h => by simp only [Bool.or_eq_false_iff] at h; exact h.1) hv
        · cases ho
  · cases he
theorem Kept.put (tn : List Nm) {d : Option Nat} {p : PV} : Kept st.h G w (Pvm.putV st d p).h G w tn := by
  cases d <;> exact Kept.refl _ _ _ _
structure Goes {R0 : Type} (w0 : World) (fr : Nat → Prop) (X0 : Org) (n : Nat) (ds : List Deferred) (h : Heap) (G : Gh) (w : World) (tn : List Nm) (K : Option PV → St → Option R0) (r : R0) (a : Act) (next : Act → World → Prop) (Q : Exit → Act → World → Prop) : Prop where
  on : ∀ st' G' a' w', K none st' = some r → Rel w0 fr X0 n ds st' G' a' w' → Kept h G w st'.h G' w' tn → next a' w'
  out : ∀ p v st' G' w', K (some p) st' = some r → Rel w0 fr X0 n ds st' G' a w' → RV st'.h G' w' p v → Q (.panic [{ v, recovered := false }]) a w'
theorem upon_run {o : Oper} {next : Act → World → Prop} {Q : Exit → Act → World → Prop} {f : FuncId} {args : Array Value} {w' : World} {Post : Ending → World → Prop} {r : Result Next}
    (hr : r = (callFunc f args).run P w') (hd : Does P f args w' Post) (hon : ∀ v w'', Post (.returned v) w'' → next (a.put o.dst v) w'') (hpan : ∀ ch w'', Post (.panicked ch) w'' → Q (.panic ch) a w'') (hout : ∀ w'', ¬ Post .outgrown w'') :
    o.upon P a next Q r := by
  subst hr
  unfold Does at hd
  split at hd
  · next f' args' w1 heq =>
    rw [heq, Oper.upon_enter]
    exact Calls.mono hd fun e w'' he => match e, he with
      | .returned v, he => hon v w'' he
      | .panicked ch, he => hpan ch w'' he
      | .outgrown, he => absurd he (hout w'')
  · next v w1 heq =>
    rw [heq, Oper.upon_value]
    exact hon v w1 hd
  · exact hd.elim
theorem RVs.map {h : Heap} {G : Gh} {w : World} {u : Operand → PV} {ρ : Operand → Value} (hu : ∀ x, RV h G w (u x) (ρ x)) : ∀ l : List Operand, RVs h G w (l.map u) (l.map ρ)
  | [] => rfl
  | x :: r => ⟨ρ x, r.map ρ, rfl, hu x, RVs.map hu r⟩
theorem wq11y {cx : Ctx} (X : cx.Ok P) {R0 : Type} {K : Option PV → St → Option R0} {r : R0} {o : Oper} {Q : Exit → Act → World → Prop} {next : Act → World → Prop}
    (R : Rel w0 fr X0 n ds st G a w) (hf : ∀ b, fr b → b < w0.heap.size) (hd : ∀ i, o.dst = some i → i < n) (H : Goes w0 fr X0 n ds st.h G w (match evalOp cx.ty (fun x => useO [] (st.get x)) st.h (o.dst.getD 0) o.op with
    | some ev => keysOf ev.hs
    | none => []) K r a next Q)
    (he : (match evalOp cx.ty (fun x => useO [] (st.get x)) st.h (o.dst.getD 0) o.op with
    | some ev => chkK ev.chk (K none (putE st o.dst ev))
    | none => none) = some r) : o.wp P a w next Q := by
  split at he
  · next ev hev =>
    rw [hev] at H
    have hc : chkB ev.chk = true ∧ K none (putE st o.dst ev) = some r := by
      unfold chkK at he
      split at he
      · next hk => rw [hk]; exact ⟨rfl, he⟩
      · next b hk =>
        cases b with
        | true => rw [hk]; exact ⟨rfl, he⟩
        | false => cases he
    obtain ⟨nx, v, G', w', e1, e2, e3, e4, e5⟩ := wq11w X.ty R.obj (R.toDis hf) (fun x => R.use noTags x) hev hc.1
    unfold Oper.wp
    rw [e1]
    have := R.putE hf hd e3 e4
    rcases e2 with rfl | ⟨rfl, rfl⟩
    · exact H.on _ _ _ _ hc.2 this (e3.kept e5)
    · exact H.on _ _ _ _ hc.2 this (e3.kept e5)
  · cases he
theorem opK_ok {cx : Ctx} (X : cx.Ok P) {R0 : Type} {K : Option PV → St → Option R0} {r : R0} {o : Oper} {Q : Exit → Act → World → Prop} {next : Act → World → Prop}
    (R : Rel w0 fr X0 n ds st G a w) (hf : ∀ b, fr b → b < w0.heap.size) (hd : ∀ i, o.dst = some i → i < n) (H : Goes w0 fr X0 n ds st.h G w (touchOp cx o st) K r a next Q) (he : opK cx o st K = some r) : o.wp P a w next Q := by
  have hu : ∀ x, RV st.h G w (useO [] (st.get x)) (a.eval x) := fun x => R.use noTags x
  unfold opK at he
  simp only at he
  split at he
  · next f args ts hop =>
    split at he
    · next g cap d hclo hdst =>
      have hfv := hu f
      rw [hclo] at hfv
      obtain ⟨vs, hfe, hvs⟩ := hfv
      have hargs : RVs st.h G w (args.toList.map (fun x => useO [] (st.get x)) ++ cap) (args.toList.map a.eval ++ vs) := (RVs.map hu args.toList).append hvs
      have hdoes := callK_ok X he R hf (hd d hdst) hargs
      unfold Oper.wp
      refine upon_run (f := g) (args := (args.toList.map a.eval ++ vs).toArray) (w' := w) ?_ hdoes ?_ ?_ ?_
      · have e1 : (args.map a.eval ++ vs.toArray) = (args.toList.map a.eval ++ vs).toArray := by
          apply Array.ext'; simp
        simp [execOp, hop, resolve, hfe, Deferred.ofValue, invoke, ← e1]
      · rintro v w'' ⟨st', G', h1, h2, h3⟩
        rw [hdst]
        refine H.on _ _ _ _ h1 h2 ?_
        have e : touchOp cx o st = touchC cx g (args.toList.map (fun x => useO [] (st.get x)) ++ cap) st := by
          unfold touchOp
          rw [hop]
          simp only [hclo]
        rw [e]; exact h3
      · rintro ch w'' ⟨p, v, st', G', rfl, h1, h2, h3⟩
        exact H.out _ _ _ _ _ h1 h2 h3
      · intro w'' h; exact h
    · cases he
  · next x hop =>
    split at he
    · next t p hx =>
      have := hu x
      rw [hx] at this
      have h2 := this
      obtain ⟨v, hv, hp⟩ := this
      have hr : (execOp a.eval o).run P w = .halt (.panic (.iface t v)) w := by
        simp [execOp, hop, hv, Instr.panic, goPanic]
      unfold Oper.wp
      rw [hr, Oper.upon_panic]
      rw [hv] at h2
      exact H.out _ _ _ _ _ he R h2
    · cases he
  · next c x y hop =>
    have pick : ∀ b : Bool, a.eval c = .bool b → (execOp a.eval o).run P w = .ok (.value (if b then a.eval x else a.eval y)) w := by
      intro b hb
      simp [execOp, hop, hb, asBool]
    split at he
    · next b hc =>
      have hcv : a.eval c = .bool b := by have := R.get c; rw [hc] at this; exact this
      unfold Oper.wp
      rw [pick b hcv, Oper.upon_value]
      split at he
      · cases he
      · cases he
      · exact H.on _ _ _ _ he (R.putV hf hd (hu x)) (Kept.put _)
      · exact H.on _ _ _ _ he (R.putV hf hd (hu y)) (Kept.put _)
    · next b hc =>
      have hcv : a.eval c = .bool b := by have := R.get c; rw [hc] at this; simpa [RT, RV, RD] using this
      split at he
      · next s =>
        split at he
        · next K1 yv K2 zv h1 h2 =>
          split at he
          · next z hz =>
            obtain ⟨e, hz⟩ := cast_eq hz
            subst e
            subst hz
            unfold Oper.wp
            rw [pick b hcv, Oper.upon_value]
            refine H.on _ _ _ _ he (R.putV hf hd ?_) (Kept.put _)
            cases b with
            | true =>
              have := R.use (Gd := [(s, true)]) (fun q hq => by simp at hq; subst hq; exact hcv) x
              rw [h1] at this
              exact this
            | false =>
              have := R.use (Gd := [(s, false)]) (fun q hq => by simp at hq; subst hq; exact hcv) y
              rw [h2] at this
              exact this
          · cases he
        · cases he
      · cases he
    · cases he
  · have he : (match evalOp cx.ty (fun x => useO [] (st.get x)) st.h (o.dst.getD 0) o.op with
      | some ev => chkK ev.chk (K none (putE st o.dst ev))
      | none => none) = some r := by
      cases hev : evalOp cx.ty (fun x => useO [] (st.get x)) st.h (o.dst.getD 0) o.op with
      | none => rw [hev] at he; cases he
      | some ev =>
        rw [hev] at he
        simp only at he ⊢
        cases hs : isStore o.op with
        | true => rw [hs, cond_true, shE_eq X] at he; exact he
        | false => rw [hs] at he; exact he
    refine wq11y X R hf hd ?_ he
    have e : touchOp cx o st = (match evalOp cx.ty (fun x => useO [] (st.get x)) st.h (o.dst.getD 0) o.op with
      | some ev => keysOf ev.hs
      | none => []) := by
      unfold touchOp
      split
      · simp_all
      · rfl
    rw [← e]; exact H
end
end Go.Proofs.YtpfbdepoammjmaaGreatDoor.Pvm

namespace Go.Proofs.YtpfbdepoammjmaaGreatDoor.Pvm
open Go
variable {P : Program}
section
variable {w0 : World} {fr : Nat → Prop} {X0 : Org} {n : Nat} {ds : List Deferred} {st : St} {G : Gh} {a : Act} {w : World}
theorem wq10z {ops : Array Oper} {j s : Nat} (hs : (match ops[j]? with | some oj => oj.dst | none => none) = some s) : yielded ops a.tmps j = match a.tmps[s]? with | some (.bool b) => some b | _ => none := by
  unfold yielded
  have : (ops[j]?).bind (·.dst) = some s := by
    cases h : ops[j]? with
    | none => rw [h] at hs; cases hs
    | some o => rw [h] at hs; simpa using hs
  rw [this]
  rfl
theorem wqvb {ops : Array Oper} {o : Oper} {j s : Nat} {wb : Bool} (hg : o.guard = some (j, wb)) (hs : (match ops[j]? with | some oj => oj.dst | none => none) = some s) :
    Region.wanted o (yielded ops a.tmps) = true ↔ tmOf a s = .bool wb := by
  unfold Region.wanted
  rw [hg]
  simp only [wq10z hs, tmOf, Array.getD_eq_getD_getElem?]
  cases h : a.tmps[s]? with
  | none => simp [undef]
  | some v => cases v <;> simp
theorem optK_ok {cx : Ctx} (X : cx.Ok P) {R0 : Type} {K : Option PV → St → Option R0} {r : R0} {o : Oper} {Gd : List (Nat × Bool)} {c : Bool}
    (R : Rel w0 fr X0 n ds st G a w) (hf : ∀ b, fr b → b < w0.heap.size) (he : optK cx Gd c o st K = some r) :
    ∃ p st', Pvm.putO st o.dst Gd c p = some st' ∧ K none st' = some r ∧ (tagsHold (tmOf a) Gd → c = true → ∃ v w', (execOp a.eval o).run P w = .ok (.value v) w' ∧ Still w w' ∧ RV st.h G w' p v) := by
  unfold optK at he
  simp only at he
  split at he
  · next c' x y hop =>
    split at he
    · next s =>
      split at he
      · next b hc =>
        split at he
        · next K1 yv K2 zv h1 h2 =>
          split at he
          · next z hz =>
            obtain ⟨e, hz⟩ := cast_eq hz
            subst e
            subst hz
            split at he
            · next st' hp =>
              refine ⟨_, st', hp, he, fun hG hct => ?_⟩
              have hcv : a.eval (.tmp s) = .bool b := by have := R.use hG (.tmp s); rw [hc] at this; simpa [RV, RD] using this
              refine ⟨if b then a.eval x else a.eval y, w, by simp [execOp, hop, hcv, asBool], .refl w, ?_⟩
              cases b with
              | true =>
                have := R.use (Gd := (s, true) :: Gd) (fun q hq => by rcases List.mem_cons.1 hq with rfl | hq <;> first | exact hcv | exact hG q hq) x
                rw [h1] at this
                exact this
              | false =>
                have := R.use (Gd := (s, false) :: Gd) (fun q hq => by rcases List.mem_cons.1 hq with rfl | hq <;> first | exact hcv | exact hG q hq) y
                rw [h2] at this
                exact this
            · cases he
          · cases he
        · cases he
      · cases he
    · cases he
  · split at he
    · next ev hev =>
      split at he
      · next hh hm =>
        split at he
        · next st' hp =>
          have hk : K none st' = some r ∧ (c = true → chkB ev.chk = true) := by
            split at he
            · next hk => rw [hk]; exact ⟨he, fun _ => rfl⟩
            · next b hk =>
              rw [hk]
              cases hb : (!c || b) with
              | false => rw [hb] at he; cases he
              | true =>
                rw [hb] at he
                refine ⟨he, fun hc => ?_⟩
                subst hc
                have : b = true := by simpa using hb
                exact this
          refine ⟨ev.val, st', hp, hk.1, fun hG hct => ?_⟩
          exact wqqr X.ty R.obj (R.toDis hf).xlt (fun x => R.use hG x) hev (hk.2 hct) hh hm
        · cases he
      · cases he
    · cases he
def stepWp (P : Program) (ops : Array Oper) (o : Oper) (a : Act) (w : World) (next : Act → World → Prop) (Q : Exit → Act → World → Prop) : Prop :=
  if Region.wanted o (yielded ops a.tmps) then o.wp P a w next Q else next (a.put o.dst undef) w
theorem putO_h {st st' : St} {d : Option Nat} {G : List (Nat × Bool)} {c : Bool} {p : PV} (h : Pvm.putO st d G c p = some st') : st'.h = st.h := by
  unfold Pvm.putO at h
  split at h
  · next d =>
    cases hb : hasTag d G with
    | true => rw [hb] at h; cases h
    | false => rw [hb] at h; cases h; rfl
  · cases h; rfl
theorem wqzb {cx : Ctx} (X : cx.Ok P) {R0 : Type} {K : Option PV → St → Option R0} {r : R0} {ops : Array Oper} {o : Oper} {Gd : List (Nat × Bool)} {c : Bool} {Q : Exit → Act → World → Prop} {next : Act → World → Prop}
    (R : Rel w0 fr X0 n ds st G a w) (hf : ∀ b, fr b → b < w0.heap.size) (hd : ∀ i, o.dst = some i → i < n) {tn : List Nm} (H : Goes w0 fr X0 n ds st.h G w tn K r a next Q) (he : optK cx Gd c o st K = some r)
    (hw : Region.wanted o (yielded ops a.tmps) = true ↔ tagsHold (tmOf a) Gd) (hc : tagsHold (tmOf a) Gd → c = true) : stepWp P ops o a w next Q := by
  obtain ⟨p, st', h1, h2, h3⟩ := optK_ok X R hf he
  unfold stepWp
  split
  · next h =>
    have hG := hw.1 h
    obtain ⟨v, w', e1, e2, e3⟩ := h3 hG (hc hG)
    unfold Oper.wp
    rw [e1, Oper.upon_value]
    refine H.on _ _ _ _ h2 (R.putO hf hd e2 (fun _ => ⟨hc hG, e3⟩) (fun h => absurd hG h) h1) ?_
    rw [putO_h h1]
    exact (Loud.still R.obj (R.toDis hf) e2).kept (VarKept.ext R.obj e2.blk _)
  · next h =>
    have hG : ¬ tagsHold (tmOf a) Gd := fun hg => h (hw.2 hg)
    refine H.on _ _ _ _ h2 (R.putO hf hd (.refl w) (fun h => absurd h hG) (fun _ => rfl) h1) ?_
    rw [putO_h h1]
    exact Kept.refl _ _ _ _
theorem wqqw {t : Nat → PV} : ∀ {g : List (Nat × Bool)} {s : Nat} {w b : Bool}, splitOn t g = some (s, w, b) → (s, w) ∈ g ∧ t s = .v .bool b
  | [], s, w, b, h => by cases h
  | (s', w') :: r, s, w, b, h => by
    rw [splitOn] at h
    split at h
    · next b' hb =>
      cases h
      exact ⟨List.mem_cons_self, hb⟩
    · obtain ⟨h1, h2⟩ := wqqw h
      exact ⟨List.mem_cons_of_mem _ h1, h2⟩
theorem oneKA_ok {cx : Ctx} (X : cx.Ok P) {R0 : Type} {K : Option PV → St → Option R0} {r : R0} {ops : Array Oper} {o : Oper} {Q : Exit → Act → World → Prop} {next : Act → World → Prop}
    (R : Rel w0 fr X0 n ds st G a w) (hf : ∀ b, fr b → b < w0.heap.size) (hd : ∀ i, o.dst = some i → i < n) {again : St → (Option PV → St → Option R0) → Option R0} {tag : St → List Nm}
    (hag : ∀ {st' : St}, Rel w0 fr X0 n ds st' G a w → Goes w0 fr X0 n ds st'.h G w (tag st') K r a next Q → again st' K = some r → stepWp P ops o a w next Q)
    (H : Goes w0 fr X0 n ds st.h G w (touchA cx ops o tag st) K r a next Q) (he : oneKA cx ops o again st K = some r) : stepWp P ops o a w next Q := by
  unfold oneKA at he
  split at he
  · next hg =>
    unfold stepWp
    rw [if_pos (by simp [Region.wanted, hg])]
    have e : touchA cx ops o tag st = touchOp cx o st := by unfold touchA; rw [hg]
    rw [e] at H
    exact opK_ok X R hf hd H he
  · next j wb hg =>
    split at he
    · cases he
    · next s hs =>
      have hw := wqvb (a := a) hg hs
      have hv := R.tm s
      split at he
      · next b hb =>
        rw [hb] at hv
        have hv : tmOf a s = .bool b := hv
        split at he
        · next hbw =>
          have : b = wb := by simpa using hbw
          subst this
          unfold stepWp
          rw [if_pos (hw.2 hv)]
          have e : touchA cx ops o tag st = touchOp cx o st := by unfold touchA; simp only [hg, hs, hb]
          rw [e] at H
          exact opK_ok X R hf hd H he
        · next hbw =>
          have hne : ¬ Region.wanted o (yielded ops a.tmps) = true := by
            rw [hw, hv]
            intro e
            simp at e
            rw [e] at hbw
            simp at hbw
          unfold stepWp
          rw [if_neg hne]
          exact H.on _ _ _ _ he (R.putV hf hd trivial) (Kept.put _)
      · next b hb =>
        rw [hb] at hv
        have hv : tmOf a s ≠ .bool b := hv
        split at he
        · next hbw =>
          have : b = wb := by simpa using hbw
          subst this
          unfold stepWp
          rw [if_neg (by rw [hw]; exact hv)]
          exact H.on _ _ _ _ he (R.putV hf hd trivial) (Kept.put _)
        · cases he
      · next b hb =>
        rw [hb] at hv
        have hv : tmOf a s = .bool b := by simpa [RT, RV, RD] using hv
        cases hq : (quiet o.op || isPick o.op) with
        | true =>
          rw [hq, cond_true] at he
          refine wqzb X R hf hd H he ?_ ?_
          · rw [hw]
            constructor
            · intro e x hx; simp at hx; subst hx; exact e
            · intro hG; exact hG (s, wb) (by simp)
          · intro hG
            have := hG (s, wb) (by simp)
            simp only [hv] at this
            simpa using this
        | false =>
          rw [hq, cond_false] at he
          cases hbw : (b == wb) with
          | true =>
            have : b = wb := by simpa using hbw
            subst this
            rw [hbw, cond_true] at he
            unfold stepWp
            rw [if_pos (hw.2 hv)]
            have e : touchA cx ops o tag st = touchOp cx o ⟨knowT st.t s b, st.h⟩ := by unfold touchA; simp only [hg, hs, hb]
            rw [e] at H
            exact opK_ok X (R.know hf hv) hf hd H he
          | false =>
            rw [hbw, cond_false] at he
            have hne : ¬ b = wb := by simpa using hbw
            have hv2 : tmOf a s = .bool (!wb) := by rw [hv]; cases b <;> cases wb <;> simp_all
            unfold stepWp
            rw [if_neg (by rw [hw, hv]; simpa using hne)]
            exact H.on _ _ _ _ he ((R.know hf hv2).putV hf hd trivial) (Kept.put (st := ⟨knowT st.t s (!wb), st.h⟩) _)
      · next g c b hb =>
        rw [hb] at hv
        cases hq : (quiet o.op || isPick o.op) with
        | false =>
          rw [hq, cond_false] at he
          split at he
          · next s1 w1 b1 hsp =>
            obtain ⟨hm, hb1⟩ := wqqw hsp
            have h1 := R.tm s1
            rw [hb1] at h1
            have h1 : tmOf a s1 = .bool b1 := by simpa [RT, RV, RD] using h1
            have hta : touchA cx ops o tag st = tag ⟨knowT st.t s1 w1, st.h⟩ := by unfold touchA; simp only [hg, hs, hb, hsp]
            cases hbw : (b1 == w1) with
            | true =>
              have e : b1 = w1 := by simpa using hbw
              subst e
              rw [hbw, cond_true] at he
              rw [hta] at H
              exact hag (R.know hf h1) H he
            | false =>
              rw [hbw, cond_false] at he
              have hne : ¬ b1 = w1 := by simpa using hbw
              have h2 : tmOf a s1 = .bool (!w1) := by rw [h1]; cases b1 <;> cases w1 <;> simp_all
              have hno : ¬ tagsHold (tmOf a) g := fun hh => by
                have := hh (s1, w1) hm
                simp only [h1] at this
                exact hne (by simpa using this)
              have hu := hv.2 hno
              unfold stepWp
              rw [if_neg (by rw [hw, hu]; simp [undef])]
              exact H.on _ _ _ _ he ((R.know hf h2).putV hf hd trivial) (Kept.put (st := ⟨knowT st.t s1 (!w1), st.h⟩) _)
          · cases he
        | true =>
          rw [hq, cond_true] at he
          refine wqzb X R hf hd H he ?_ ?_
          · rw [hw]
            constructor
            · intro e x hx
              have hg : tagsHold (tmOf a) g := by
                refine Classical.byContradiction fun hn => ?_
                have := hv.2 hn
                rw [e] at this
                simp [undef] at this
              rcases List.mem_cons.1 hx with rfl | hx
              · exact e
              · exact hg x hx
            · intro hG; exact hG (s, wb) (by simp)
          · intro hG
            have h1 := hG (s, wb) (by simp)
            have h2 := hv.1 fun x hx => hG x (by simp [hx])
            have h3 : tmOf a s = .bool b := by simpa [RV, RD] using h2.2
            simp only [h3] at h1
            have : b = wb := by simpa using h1
            rw [h2.1, this]; simp
      · cases he
theorem oneKn_ok {cx : Ctx} (X : cx.Ok P) {R0 : Type} {K : Option PV → St → Option R0} {r : R0} {ops : Array Oper} {o : Oper} {Q : Exit → Act → World → Prop} {next : Act → World → Prop}
    (hf : ∀ b, fr b → b < w0.heap.size) (hd : ∀ i, o.dst = some i → i < n) : ∀ (m : Nat) {st : St}, Rel w0 fr X0 n ds st G a w → Goes w0 fr X0 n ds st.h G w (touchN cx ops o m st) K r a next Q → oneKn cx ops o m st K = some r → stepWp P ops o a w next Q
  | 0, st, R, H, he => oneKA_ok X R hf hd (again := fun _ _ => none) (tag := fun _ => []) (fun _ _ h => by cases h) H he
  | m + 1, st, R, H, he => oneKA_ok X R hf hd (again := oneKn cx ops o m) (tag := touchN cx ops o m) (fun R' H' he' => oneKn_ok X hf hd m R' H' he') H he
theorem oneK_ok {cx : Ctx} (X : cx.Ok P) {R0 : Type} {K : Option PV → St → Option R0} {r : R0} {ops : Array Oper} {o : Oper} {Q : Exit → Act → World → Prop} {next : Act → World → Prop}
    (R : Rel w0 fr X0 n ds st G a w) (hf : ∀ b, fr b → b < w0.heap.size) (hd : ∀ i, o.dst = some i → i < n) (H : Goes w0 fr X0 n ds st.h G w (touchOne cx ops o st) K r a next Q) (he : oneK cx ops o st K = some r) : stepWp P ops o a w next Q :=
  oneKn_ok X hf hd 6 R H he
theorem opsK_ok {cx : Ctx} (X : cx.Ok P) {R0 : Type} {K : Option PV → St → Option R0} {r : R0} {ops : Array Oper} {Q : Exit → Act → World → Prop} (hf : ∀ b, fr b → b < w0.heap.size)
    (hQ : ∀ st' G' a' w', K none st' = some r → Rel w0 fr X0 n ds st' G' a' w' → Q .normal a' w')
    (hp : ∀ p v st' G' a' w', K (some p) st' = some r → Rel w0 fr X0 n ds st' G' a' w' → RV st'.h G' w' p v → Q (.panic [{ v, recovered := false }]) a' w') :
    ∀ (l : List Oper) {st : St} {G : Gh} {a : Act} {w : World}, Rel w0 fr X0 n ds st G a w → (∀ o ∈ l, ∀ i, o.dst = some i → i < n) → opsK cx ops l st K = some r → wpList P ops Q l a w
  | [], st, G, a, w, R, hd, he => hQ _ _ _ _ he R
  | o :: rest, st, G, a, w, R, hd, he => by
    rw [opsK] at he
    have this : stepWp P ops o a w (wpList P ops Q rest) Q := by
      refine oneK_ok X R hf (hd o (by simp)) ?_ he
      exact ⟨fun st' G' a' w' h1 h2 _ => opsK_ok X hf hQ hp rest h2 (fun o' ho' => hd o' (by simp [ho'])) h1, fun p v st' G' w' h1 h2 h3 => hp _ _ _ _ _ _ h1 h2 h3⟩
    unfold stepWp at this
    unfold wpList
    split
    · next h => rw [if_pos h] at this; exact .inl this
    · next h => rw [if_neg h] at this; exact this
end
end Go.Proofs.YtpfbdepoammjmaaGreatDoor.Pvm

namespace Go.Proofs.YtpfbdepoammjmaaGreatDoor.Pvm
open Go
def dead (P : Program) {α : Type} (s : Sem α) : Prop := ∀ w w1 a, s.run P w ≠ .ok a w1
def calm (P : Program) {α : Type} (s : Sem α) : Prop := ∀ w w1 a, s.run P w = .ok a w1 → ∀ w', s.run P w' = .ok a w'
section
variable {P : Program} {α β : Type}
theorem wqzc {s : Sem α} (h : calm P s) {w w1 : World} {a : α} (hr : s.run P w = .ok a w1) : w1 = w := by
  have := h w w1 a hr w
  rw [hr] at this
  cases this; rfl
theorem wq3x {s : Sem α} (h : dead P s) : calm P s := fun w w1 a hr => absurd hr (h w w1 a)
theorem run_b (s : Sem α) (f : α → Sem β) (w : World) : (s >>= f).run P w = match s.run P w with | .ok a w1 => (f a).run P w1 | .halt h w1 => .halt h w1 := by
  rw [Sem.run_bind]
  cases s.run P w <;> rfl
theorem calm_b {s : Sem α} {f : α → Sem β} (h : calm P s) (hf : ∀ a, calm P (f a)) : calm P (s >>= f) := by
  intro w w1 b hr w'
  rw [run_b] at hr ⊢
  cases hs : s.run P w with
  | ok a w2 =>
    rw [hs] at hr
    rw [h w w2 a hs w']
    exact hf a w2 w1 b hr w'
  | halt x w2 => rw [hs] at hr; cases hr
theorem dead_b {s : Sem α} {f : α → Sem β} (h : dead P s) : dead P (s >>= f) := by
  intro w w1 b hr
  rw [run_b] at hr
  cases hs : s.run P w with
  | ok a w2 => exact h _ _ _ hs
  | halt x w2 => rw [hs] at hr; cases hr
theorem wqck {s : Sem α} {f : α → Sem β} (hf : ∀ a, dead P (f a)) : dead P (s >>= f) := by
  intro w w1 b hr
  rw [run_b] at hr
  cases hs : s.run P w with
  | ok a w2 => rw [hs] at hr; exact hf a _ _ _ hr
  | halt x w2 => rw [hs] at hr; cases hr
theorem calm_p (a : α) : calm P (pure a : Sem α) := by intro w w1 b hr w'; simp at hr ⊢; exact hr.1
theorem calm_p' (a : α) : calm P (Sem.pure a : Sem α) := calm_p a
theorem wqqj (h : Halt) : dead P (.halt h : Sem α) := by intro w w1 a hr; rw [Sem.run] at hr; cases hr
theorem wqvc (h : Halt) : calm P (.halt h : Sem α) := wq3x (wqqj h)
theorem wq1b (s : String) : calm P (stuck s : Sem α) := wqvc _
theorem calm_uns (s : Unsupported) : calm P (unsupported s : Sem α) := wqvc _
theorem wq12j (v : Value) : calm P (goPanic v : Sem α) := wqvc _
theorem wq86 (v : Value) : dead P (goPanic v : Sem α) := wqqj _
theorem wqqx : calm P program := by intro w w1 a hr w'; simp [program, Sem.run] at hr ⊢; exact hr.1
theorem wq12t (m : Mark) : calm P (mark m) := by intro w w1 a hr w'; simp [mark, Sem.run] at hr ⊢
theorem wq67 (e : RuntimeError) : dead P (runtimePanic e : Sem α) := by
  unfold runtimePanic
  refine wqck fun p => ?_
  split
  · exact wq86 _
  · exact wq86 _
  · exact wq86 _
  · exact wq86 _
  · exact wqck fun _ => wqck fun _ => wq86 _
  · exact wqck fun _ => wqck fun _ => wq86 _
  · exact wq86 _
theorem wq4x (k : IntKind) (x y : Int) (c : BoundsCode) : dead P (boundsPanic k x y c : Sem α) := by
  unfold boundsPanic
  split
  · exact wqck fun _ => wq67 _
  · exact wqck fun _ => wq67 _
theorem wq1a (t : TypeId) : calm P (underlying t) := by
  unfold underlying
  refine calm_b wqqx fun p => ?_
  split
  · exact calm_p _
  · exact wq1b _
theorem wqp5 (t : TypeId) : calm P (typeInfo t) := by
  unfold typeInfo
  refine calm_b wqqx fun p => ?_
  split
  · exact calm_p _
  · exact wq1b _
theorem wq56 (t : TypeId) : calm P (sizeOf t) := calm_b (wqp5 t) fun _ => calm_p _
theorem wqfh (t : TypeId) : calm P (zeroValue t) := by
  unfold zeroValue
  refine calm_b (wqp5 t) fun i => ?_
  split
  · exact calm_p _
  · exact calm_uns _
theorem wq110 (t : TypeId) : calm P (isAgg t) := by
  unfold isAgg
  refine calm_b (wq1a t) fun i => ?_
  split <;> exact calm_p _
theorem wqzd (t : TypeId) (cs : Array Value) (off : Nat) : calm P (part t cs off) := by
  unfold part
  refine calm_b (wq110 t) fun i => ?_
  split
  · exact calm_b (wq56 t) fun _ => calm_p _
  · split
    · exact calm_p _
    · exact wq1b _
theorem wqkg (v : Value) : calm P (asIntOf v) := by unfold asIntOf; split <;> first | exact calm_p _ | exact wq1b _ | exact calm_uns _
theorem wq106 (v : Value) : calm P (asBool v) := by unfold asBool; split <;> first | exact calm_p _ | exact wq1b _
theorem wq111 (v : Value) : calm P (asAgg v) := by unfold asAgg; split <;> first | exact calm_p _ | exact wq1b _
theorem wqwq (v : Value) : calm P (Instr.sureAddr v) := by unfold Instr.sureAddr; split <;> first | exact calm_p _ | exact wq1b _
theorem wq12l (v : Value) : calm P (asAddr v) := by
  unfold asAddr
  split
  · exact calm_p _
  · exact wq3x (wq67 _)
  · exact wq1b _
theorem wq112 (t : TypeId) (x : Value) (f : Nat) : calm P (Instr.field t x f) := by
  unfold Instr.field
  refine calm_b (wq1a t) fun d => ?_
  split
  · split
    · exact calm_b (wq111 _) fun _ => wqzd _ _ _
    · exact wq1b _
  · exact wq1b _
theorem wq113 (t : TypeId) (x i : Value) : calm P (Instr.index t x i) := by
  unfold Instr.index
  refine calm_b (wqkg i) fun ki => ?_
  refine calm_b (wq1a t) fun d => ?_
  split
  · split
    · exact calm_b (wq56 _) fun _ => wqzd _ _ _
    · exact wq3x (wq4x _ _ _ _)
  · split
    · exact calm_p _
    · exact wq3x (wq4x _ _ _ _)
  · exact wq1b _
theorem wqy7 (t : TypeId) (x i : Value) : calm P (Instr.indexAt t x i) := by
  unfold Instr.indexAt
  refine calm_b (wqkg i) fun ki => ?_
  refine calm_b (wq1a t) fun d => ?_
  dsimp only
  split
  · refine calm_b (wqwq _) fun _ => calm_b (calm_p _) fun q => ?_
    obtain ⟨b, n, e⟩ := q
    refine calm_b (wq1a t) fun d => ?_
    split
    · split
      · exact calm_b (wq56 _) fun _ => calm_p _
      · split <;> (split <;> first | exact calm_uns _ | exact wq3x (wq4x _ _ _ _))
    · exact wq3x (wq4x _ _ _ _)
  · refine calm_b (calm_p _) fun q => ?_
    obtain ⟨b, n, e⟩ := q
    refine calm_b (wq1a t) fun d => ?_
    split
    · split
      · exact calm_b (wq56 _) fun _ => calm_p _
      · split <;> (split <;> first | exact calm_uns _ | exact wq3x (wq4x _ _ _ _))
    · exact wq3x (wq4x _ _ _ _)
  · exact wq3x (dead_b (wqqj _))
theorem wqy8 (v : Value) (i : Nat) : calm P (Instr.extract v i) := by
  unfold Instr.extract
  split
  · split
    · exact calm_p _
    · exact wq1b _
  · exact wq1b _
theorem calm_len (ts : Array TypeId) (r : TypeId) (t : TypeId) (A : Option Addr) (n c : Nat) : calm P (Builtin.len_ #[t] r #[.slice A n c]) := by
  unfold Builtin.len_
  simp
  refine calm_b (wq1a t) fun d => ?_
  split <;> first | exact calm_p _ | exact wq1b _ | exact calm_b (wq1a _) fun d => (by split <;> first | exact calm_p _ | exact wq1b _) | (rename_i hq; cases hq)
theorem wq107 (ts : Array TypeId) (r : TypeId) (t : TypeId) (s : ByteArray) : calm P (Builtin.len_ #[t] r #[.string s]) := by
  unfold Builtin.len_
  simp
  refine calm_b (wq1a t) fun d => ?_
  split <;> first | exact calm_p _ | exact wq1b _ | exact calm_b (wq1a _) fun d => (by split <;> first | exact calm_p _ | exact wq1b _) | (rename_i hq; cases hq)
theorem wqqy (x : Value) (y : Nat) (c : BoundsCode) : calm P (Instr.sliceBound x y c) := by
  unfold Instr.sliceBound
  refine calm_b (wqkg _) fun d => ?_
  obtain ⟨k, i⟩ := d
  dsimp only
  split
  · exact calm_p _
  · exact wq3x (wq4x _ _ _ _)
theorem wq114 (op : BinOp) (t : TypeId) (k k' : IntKind) (a b : Int) : calm P (binOp op t (.int k a) (.int k' b)) := by
  unfold binOp
  cases op <;> simp only [] <;> first
    | (unfold Op.shift; split; exact wq3x (wq67 _); exact calm_p _)
    | (split
       · exact wq1b _
       · first
          | exact calm_p _
          | (unfold Op.intDiv; split; exact wq3x (wq67 _); exact calm_p _))
theorem wq115 (op : BinOp) (t : TypeId) (a b : ByteArray) : calm P (binOp op t (.string a) (.string b)) := by
  unfold binOp
  cases op <;> simp only [] <;> unfold Op.stringOp <;> simp only [] <;> first
    | exact calm_p _
    | exact wq1b _
    | (split <;> first | exact calm_p _ | exact calm_uns _)
theorem wq116 (op : BinOp) (t : TypeId) (x y : Operand) (k k' : IntKind) (a b : Int) : calm P (eqGuard op t x y (.int k a) (.int k' b)) := by
  unfold eqGuard
  split <;> exact calm_p _
theorem wq108 (op : BinOp) (t : TypeId) (x y : Operand) (a b : ByteArray) : calm P (eqGuard op t x y (.string a) (.string b)) := by
  unfold eqGuard
  split <;> exact calm_p _
end
end Go.Proofs.YtpfbdepoammjmaaGreatDoor.Pvm

namespace Go.Proofs.YtpfbdepoammjmaaGreatDoor.Pvm
open Go
section
variable {P : Program} {ty : TypeId → Option TI} {h : Heap} {G : Gh} {w : World}
theorem isPtr_ok {p : PV} {v : Value} (hp : RV h G w p v) (hi : isPtr p = true) : ∃ a, v = .pointer (some a) := by
  cases p with
  | ptr n o => exact ⟨_, hp.1⟩
  | elp K xs i o => obtain ⟨ad, rfl, _⟩ := hp; exact ⟨_, rfl⟩
  | elr n i o => obtain ⟨e, K, xs, g, _, _, _, rfl⟩ := hp; exact ⟨_, rfl⟩
  | _ => cases hi
theorem isInt_ok {p : PV} {v : Value} (hp : RV h G w p v) (hi : isInt p = true) : ∃ k n, v = .int k n := by
  unfold isInt at hi
  split at hi
  · next k x => exact ⟨k, x, by simpa [RV, RD] using hp⟩
  · cases hi
theorem isStr_ok {p : PV} {v : Value} (hp : RV h G w p v) (hi : isStr p = true) : ∃ s, v = .string s := by
  unfold isStr at hi
  split at hi
  · next x => exact ⟨_, by simpa [RV, RD] using hp⟩
  · cases hi
theorem isLen_ok (obj : ∀ n o, h n = some o → RO h G w n o) {p : PV} {v : Value} (hp : RV h G w p v) (hi : isLen p = true) : (∃ s, v = .string s) ∨ ∃ A n c, v = .slice A n c := by
  unfold isLen at hi
  split at hi
  · exact .inl ⟨_, by simpa [RV, RD] using hp⟩
  · obtain ⟨A, cap, h1, _⟩ := hp
    simp at h1
    exact .inr ⟨A, _, cap, h1⟩
  · exact .inr ⟨_, _, _, hp⟩
  · next n =>
    obtain ⟨rfl, e, K, xs, hn⟩ := hp
    obtain ⟨A, cap, hrv, _⟩ := own_row (obj _ _ hn)
    exact .inr ⟨A, _, cap, hrv⟩
  · cases hi
theorem calm_v {s : Sem Value} (h : calm P s) : calm P (do pure (Next.value (← s))) := calm_b h fun _ => calm_p _
theorem wqze {α β : Type} (f : α → Sem β) (hf : ∀ a, calm P (f a)) : ∀ l : List α, calm P (l.mapM f)
  | [] => by rw [List.mapM_nil]; exact calm_p _
  | a :: r => by rw [List.mapM_cons]; exact calm_b (hf a) fun _ => calm_b (wqze f hf r) fun _ => calm_p _
theorem calm_arr {α β : Type} (f : α → Sem β) (hf : ∀ a, calm P (f a)) (l : Array α) : calm P (l.mapM f) := by
  rw [Array.mapM_eq_mapM_toList]
  intro w w1 a hr w'
  rw [Sem.run_map] at hr ⊢
  cases hs : (l.toList.mapM f).run P w with
  | ok b w2 =>
    rw [hs] at hr
    rw [wqze f hf l.toList w w2 b hs w']
    simp at hr ⊢
    exact hr.1
  | halt x w2 => rw [hs] at hr; simp at hr
theorem wq117 (t : TypeId) (ps : Array (Nat × Value)) : calm P (Instr.build t ps) := by
  unfold Instr.build
  refine calm_b (wqfh t) fun z => calm_b (wq1a t) fun d => ?_
  split
  · refine calm_b (calm_arr _ (fun f => calm_b (wq56 _) fun _ => calm_p _) _) fun pl => ?_
    split
    · exact calm_p _
    · exact wq1b _
  · refine calm_b (wq56 _) fun pl => ?_
    split
    · exact calm_p _
    · exact wq1b _
  · exact wq1b _
theorem calm_un (op : UnOp) (v : Value) : calm P (Op.unary op v) := by
  unfold Op.unary
  split <;> first | exact calm_p _ | exact wq1b _ | exact calm_uns _
theorem wq11z (t : TypeId) (v : Value) : calm P (Instr.makeInterface t v) := by
  unfold Instr.makeInterface
  refine calm_b (wq1a t) fun d => ?_
  split
  · exact wq1b _
  · exact calm_p _
theorem wqci (n c : Nat) (lo hi : Option Value) (b : Bool) : calm P (Instr.sliceBounds b n c lo hi none) := by
  unfold Instr.sliceBounds
  refine calm_b (calm_p _) fun m => ?_
  dsimp only
  have last : ∀ hh : Nat, calm P (match lo with
      | some v => do
        let l ← Instr.sliceBound v hh (if (none : Option Value).isSome = true then BoundsCode.slice3C else BoundsCode.sliceB)
        pure (l, hh, m)
      | none => do
        let l ← pure 0
        pure (l, hh, m)) := by
    intro hh
    split
    · exact calm_b (wqqy _ _ _) fun _ => calm_p _
    · exact calm_p _
  split
  · exact calm_b (wqqy _ _ _) fun hh => last hh
  · exact calm_b (wqqy _ _ _) fun hh => last hh
  · exact calm_b (calm_p _) fun hh => last hh
  · exact calm_b (wq1b _) fun hh => last hh
theorem wqy9 (t : TypeId) (s : ByteArray) (lo hi : Option Value) : calm P (Instr.sliceAt t (.string s) lo hi none) := by
  unfold Instr.sliceAt
  refine calm_b (wq1a t) fun d => ?_
  split
  · exact calm_b (wq1b _) fun _ => calm_b (wqci _ _ _ _ _) fun q => calm_b (wq56 _) fun _ => calm_p _
  · unfold Instr.slice
    refine calm_b (wq1a t) fun d => ?_
    split
    · exact calm_b (wqci _ _ _ _ _) fun q => calm_p _
    · rename_i hq; cases hq
    · refine calm_b ?_ fun _ => ?_
      · unfold asAddr
        exact wq1b _
      · refine calm_b (wq1a _) fun d => ?_
        split
        · exact calm_b (wqci _ _ _ _ _) fun q => calm_b (wq56 _) fun _ => calm_p _
        · exact wq1b _
    · exact wq1b _
theorem wq109 (t : TypeId) (A : Option Addr) (n c : Nat) (lo hi : Option Value) : calm P (Instr.sliceAt t (.slice A n c) lo hi none) := by
  unfold Instr.sliceAt
  refine calm_b (wq1a t) fun d => ?_
  split
  · exact calm_b (wq1b _) fun _ => calm_b (wqci _ _ _ _ _) fun q => calm_b (wq56 _) fun _ => calm_p _
  · unfold Instr.slice
    refine calm_b (wq1a t) fun d => ?_
    split
    · rename_i hq; cases hq
    · next hq =>
      cases hq
      exact calm_b (wqci _ _ _ _ _) fun q => calm_b (wq56 _) fun _ => calm_p _
    · refine calm_b ?_ fun _ => ?_
      · unfold asAddr
        exact wq1b _
      · refine calm_b (wq1a _) fun d => ?_
        split
        · exact calm_b (wqci _ _ _ _ _) fun q => calm_b (wq56 _) fun _ => calm_p _
        · exact wq1b _
    · exact wq1b _
mutual
theorem flat_ok {h' : Heap} {G' : Gh} {w' : World} : ∀ (p : PV) {v : Value}, flat p = true → RV h G w p v → RV h' G' w' p v
  | .v K x, v, hf, hp => RD.plain (by simpa [flat] using hf) hp
  | .nilsl, v, _, hp => hp
  | .nilptr, v, _, hp => hp
  | .nilif, v, _, hp => hp
  | .agg cs, v, hf, hp => by
    obtain ⟨vs, rfl, hr⟩ := hp
    exact ⟨vs, rfl, flats_ok cs (by simpa [flat] using hf) hr⟩
  | .kb _, v, hf, _ => by simp [flat] at hf
  | .ng _, v, hf, _ => by simp [flat] at hf
  | .ptr _ _, v, hf, _ => by simp [flat] at hf
  | .nps _, v, hf, _ => by simp [flat] at hf
  | .row _, v, hf, _ => by simp [flat] at hf
  | .elp _ _ _ _, v, hf, _ => by simp [flat] at hf
  | .elr _ _ _, v, hf, _ => by simp [flat] at hf
  | .ifc _ _, v, hf, _ => by simp [flat] at hf
  | .tup _, v, hf, _ => by simp [flat] at hf
  | .clo _ _, v, hf, _ => by simp [flat] at hf
  | .opt _ _ _, v, hf, _ => by simp [flat] at hf
  | .un, v, hf, _ => by simp [flat] at hf
theorem flats_ok {h' : Heap} {G' : Gh} {w' : World} : ∀ (ps : List PV) {vs : List Value}, flats ps = true → RVs h G w ps vs → RVs h' G' w' ps vs
  | [], vs, _, hp => hp
  | p :: r, vs, hf, hp => by
    simp only [flats, Bool.and_eq_true] at hf
    obtain ⟨v, l, rfl, hv, hl⟩ := hp
    exact ⟨v, l, rfl, flat_ok p hf.1 hv, flats_ok r hf.2 hl⟩
end
theorem wq120 (T : TyOk P ty) {op : BinOp} {t : TypeId} {x y : Operand} {p q : PV} {v u : Value} (hp : RV h G w p v) (hq : RV h G w q u) (fp : flat p = true) (fq : flat q = true) (he : toldB (evBin ty t op (isConst x || isConst y) p q) = true) :
    calm P (do eqGuard op t x y v u; binOp op t v u) := by
  unfold toldB at he
  split at he
  · next b hev =>
    have key : ∀ w' : World, (do eqGuard op t x y v u; binOp op t v u : Sem Value).run P w' = .ok (.bool b) w' := by
      intro w'
      obtain ⟨e1, r, e2, e3, _⟩ := evBin_ok (P := P) (w := w') T hev (flat_ok (h' := h) (G' := G) (w' := w') p fp hp) (flat_ok (h' := h) (G' := G) (w' := w') q fq hq) rfl
      have : r = .bool b := by simpa [RV, RD] using e3
      subst this
      rw [Sem.run_bind, e1]
      exact e2
    intro w1 w2 a hr w'
    rw [key] at hr ⊢
    cases hr; rfl
  · cases he
theorem wq121 (T : TyOk P ty) (obj : ∀ n o, h n = some o → RO h G w n o) {u : Operand → PV} {ρ : Operand → Value} (hu : ∀ x, RV h G w (u x) (ρ x)) {o : Oper} (hc : calmHere ty u o.op = true) : calm P (execOp ρ o) := by
  unfold calmHere at hc
  split at hc
  · next ho => simp only [execOp, ho]; exact calm_p _
  · next ho => simp only [execOp, ho]; exact calm_p _
  · next ho => simp only [execOp, ho]; exact calm_b (wq106 _) fun _ => calm_p _
  · next ho => simp only [execOp, ho]; exact calm_v (wq112 _ _ _)
  · next ho => simp only [execOp, ho]; exact calm_v (wq113 _ _ _)
  · next ho => simp only [execOp, ho]; exact calm_v (wqy7 _ _ _)
  · next ho => simp only [execOp, ho]; exact calm_v (wqy8 _ _)
  · next ho => simp only [execOp, ho]; exact calm_v (wq11z _ _)
  · next ho => simp only [execOp, ho]; exact calm_v (wq117 _ _)
  · next x ho =>
    obtain ⟨a, ha⟩ := isPtr_ok (hu x) hc
    simp only [execOp, ho, ha]; exact calm_p _
  · next x y yt ho =>
    simp only [Bool.or_eq_true, Bool.and_eq_true] at hc
    rcases hc with (⟨h1, h2⟩ | ⟨h1, h2⟩) | ⟨⟨h1, h2⟩, h3⟩
    rotate_right
    · simp only [execOp, ho]
      exact calm_v (wq120 T (hu x) (hu y) h1 h2 h3)
    · obtain ⟨k, a, ha⟩ := isInt_ok (hu x) h1
      obtain ⟨k', b, hb⟩ := isInt_ok (hu y) h2
      simp only [execOp, ho, ha, hb]
      exact calm_v (calm_b (wq116 _ _ _ _ _ _ _ _) fun _ => wq114 _ _ _ _ _ _)
    · obtain ⟨a, ha⟩ := isStr_ok (hu x) h1
      obtain ⟨b, hb⟩ := isStr_ok (hu y) h2
      simp only [execOp, ho, ha, hb]
      exact calm_v (calm_b (wq108 _ _ _ _ _ _) fun _ => wq115 _ _ _ _)
  · next ho => simp only [execOp, ho]; exact calm_v (calm_un _ _)
  · next s x f ho =>
    simp only [Bool.and_eq_true] at hc
    obtain ⟨a, ha⟩ := isPtr_ok (hu x) hc.1
    have h2 := hc.2
    split at h2
    · next o' fi hf =>
      obtain ⟨fs, fl, hd, hfl, rfl, ht⟩ := wqqm T hf
      have hz : fi.size ≠ 0 := fun e => by rw [e] at h2; cases h2
      simp only [execOp, ho, ha]
      refine calm_v ?_
      intro w1 w2 r hr w'
      have key : ∀ w, (Instr.fieldAt s (.pointer (some a)) f).run P w = .ok (.pointer (some (a.add fl.offset))) w := by
        intro w
        simp [Instr.fieldAt, run_underlying hd, hfl, Instr.sureAddr, fieldPlace, ht.size w, hz]
      rw [key] at hr ⊢
      cases hr; rfl
    · cases h2
  · next t x lo hi mx ho =>
    simp only [Bool.and_eq_true] at hc
    have hm : mx = none := by simpa using hc.1
    subst hm
    rcases isLen_ok obj (hu x) hc.2 with ⟨a, ha⟩ | ⟨A, n, c, ha⟩
    · simp only [execOp, ho, ha, Option.map_none]
      exact calm_v (wqy9 _ _ _ _)
    · simp only [execOp, ho, ha, Option.map_none]
      exact calm_v (wq109 _ _ _ _ _ _)
  · next args ts ho =>
    split at hc
    · next x ha =>
      have e1 : args = #[x] := by apply Array.ext'; simpa using ha
      subst e1
      simp only [Bool.and_eq_true] at hc
      have hs : ts.size = 1 := by simpa using hc.1
      obtain ⟨t, ht⟩ := Array.size_eq_one_iff.1 hs
      subst ht
      have : calm P (Builtin.len_ #[t] o.type #[ρ x]) := by
        rcases isLen_ok obj (hu x) hc.2 with ⟨s, hs⟩ | ⟨A, n, c, hs⟩
        · rw [hs]; exact wq107 #[] _ _ _
        · rw [hs]; exact calm_len #[] _ _ _ _ _
      have e2 : execOp ρ o = (do pure (Next.value (← Builtin.len_ #[t] o.type #[ρ x]))) := by
        simp [execOp, ho, resolve, invoke, builtin]
      rw [e2]
      exact calm_v this
    · cases hc
  · cases hc
end
end Go.Proofs.YtpfbdepoammjmaaGreatDoor.Pvm

namespace Go.Proofs.YtpfbdepoammjmaaGreatDoor.Pvm
open Go
structure Ext (w w' : World) : Prop where
  blk : ∀ b, b < w.heap.size → w'.heap[b]? = w.heap[b]?
  grow : w.heap.size ≤ w'.heap.size
theorem Ext.refl (w : World) : Ext w w := ⟨fun _ _ => rfl, Nat.le_refl _⟩
theorem Ext.trans {w w1 w2 : World} (h : Ext w w1) (h' : Ext w1 w2) : Ext w w2 :=
  ⟨fun b hb => (h'.blk b (Nat.lt_of_lt_of_le hb h.grow)).trans (h.blk b hb), Nat.le_trans h.grow h'.grow⟩
structure ExtP (PB : Nat → Prop) (w w' : World) : Prop where
  blk : ∀ b, PB b → b < w.heap.size → w'.heap[b]? = w.heap[b]?
  grow : w.heap.size ≤ w'.heap.size
theorem ExtP.refl (PB : Nat → Prop) (w : World) : ExtP PB w w := ⟨fun _ _ _ => rfl, Nat.le_refl _⟩
theorem ExtP.mono {PB PB' : Nat → Prop} {w w' : World} (hp : ∀ b, PB b → PB' b) (h : ExtP PB' w w') : ExtP PB w w' := ⟨fun b hb hl => h.blk b (hp b hb) hl, h.grow⟩
theorem Still.ext {w w' : World} (h : Still w w') : Ext w w' := ⟨h.blk, h.grow⟩
section
variable {P : Program} {ops : Array Oper} {Q : Exit → Act → World → Prop} {md : Region.Mode} {S : World → Prop} {ds : List Nat} {PB : Nat → Prop}
def Region.reachB (md : Region.Mode) (ops : Array Oper) (i : Nat) : Nat → Nat → Bool
  | 0, _ => false
  | fuel + 1, d => match ops[d]? with
    | some o => o.after.any fun e => Region.binds md e && (e.on == i || Region.reachB md ops i fuel e.on)
    | none => false
def Region.closedB (md : Region.Mode) (ops : Array Oper) (listed : Array Bool) : Bool :=
  (List.range ops.size).all fun j => !listed.getD j false || match ops[j]? with
    | some o => o.after.all fun e => !Region.binds md e || listed.getD e.on false
    | none => true
def Region.lastB (md : Region.Mode) (ops : Array Oper) (listed : Array Bool) (ds : List Nat) (i : Nat) : Bool :=
  ds.all fun d => listed.getD d true || Region.reachB md ops i ops.size d
def ListedClosed (md : Region.Mode) (ops : Array Oper) (listed : Array Bool) : Prop :=
  ∀ j oj, ops[j]? = some oj → listed.getD j false = true → ∀ e ∈ oj.after, Region.binds md e = true → listed.getD e.on false = true
theorem Region.closedB_spec {listed : Array Bool} (h : Region.closedB md ops listed = true) : ListedClosed md ops listed := by
  intro j oj hj hl e he hb
  have hlt : j < ops.size := (Array.getElem?_eq_some_iff.1 hj).1
  have h1 := List.all_eq_true.1 h j (List.mem_range.2 hlt)
  simp only [hl, hj, Bool.not_true, Bool.false_or] at h1
  have h2 := Array.all_eq_true_iff_forall_mem.1 h1 e he
  simpa [hb] using h2
theorem ListedClosed.set {listed : Array Bool} {i : Nat} (h : ListedClosed md ops listed) (hi : i ∈ Region.ready md ops listed) : ListedClosed md ops (listed.setIfInBounds i true) := by
  obtain ⟨_, oi, hoi, hall⟩ := mem_ready.1 hi
  intro j oj hj hl e he hb
  by_cases hij : i = j
  · subst hij
    have : oj = oi := Option.some.inj (hj.symm.trans hoi)
    subst this
    exact getD_set_true (hall e he hb)
  · rw [getD_set_ne false hij] at hl
    exact getD_set_true (h j oj hj hl e he hb)
theorem Region.reach_listed {listed : Array Bool} {i : Nat} (hc : ListedClosed md ops listed) : ∀ (fuel d : Nat), Region.reachB md ops i fuel d = true → listed.getD d false = true → listed.getD i false = true
  | 0, _, h, _ => by simp [Region.reachB] at h
  | fuel + 1, d, h, hl => by
    unfold Region.reachB at h
    cases ho : ops[d]? with
    | none => rw [ho] at h; simp at h
    | some o =>
      rw [ho] at h
      obtain ⟨e, he, h1⟩ := Array.any_eq_true'.1 h
      simp only [Bool.and_eq_true, Bool.or_eq_true, beq_iff_eq] at h1
      have hle := hc d o ho hl e he h1.1
      rcases h1.2 with h2 | h2
      · rw [← h2]; exact hle
      · exact Region.reach_listed hc fuel e.on h2 hle
theorem Region.reach_not_ready {listed : Array Bool} {i d fuel : Nat} (hc : ListedClosed md ops listed) (hr : Region.reachB md ops i fuel d = true) (hun : listed.getD i true = false) : d ∉ Region.ready md ops listed := by
  intro hd
  obtain ⟨_, o, ho, hall⟩ := mem_ready.1 hd
  have hi : listed.getD i false = true := by
    cases fuel with
    | zero => simp [Region.reachB] at hr
    | succ n =>
      unfold Region.reachB at hr
      rw [ho] at hr
      obtain ⟨e, he, h1⟩ := Array.any_eq_true'.1 hr
      simp only [Bool.and_eq_true, Bool.or_eq_true, beq_iff_eq] at h1
      have hle := hall e he h1.1
      rcases h1.2 with h2 | h2
      · rw [← h2]; exact hle
      · exact Region.reach_listed hc n e.on h2 hle
  rcases Nat.lt_or_ge i listed.size with h' | h'
  · simp [h'] at hun hi
    rw [hun] at hi
    cases hi
  · simp [Array.getElem?_eq_none h'] at hun
def wpAnyE (P : Program) (md : Region.Mode) (ops : Array Oper) (Q : Exit → Act → World → Prop) (ds : List Nat) (PB : Nat → Prop) : Nat → Array Bool → Act → World → Prop
  | 0, listed, a, w => Region.ready md ops listed = [] ∧ Q .normal a w
  | fuel + 1, listed, a, w =>
    (Region.ready md ops listed = [] → Q .normal a w) ∧
    ∀ i ∈ Region.ready md ops listed, wpOp P ops Q i (fun a' w' => (i ∉ ds → Ext w w') ∧ ExtP PB w w' ∧ wpAnyE P md ops Q ds PB fuel (listed.setIfInBounds i true) a' w') a w
theorem wqwr : ∀ (fuel : Nat) (listed : Array Bool) (a : Act) (w : World), wpAnyE P md ops Q ds PB fuel listed a w → wpAny P md ops Q fuel listed a w
  | 0, _, _, _, h => h
  | fuel + 1, _, _, _, h => ⟨h.1, fun i hi => wpOp_mono (fun a' w' h' => wqwr fuel _ a' w' h'.2.2) (h.2 i hi)⟩
theorem wqqz (hSE : ∀ w w', S w → Ext w w' → S w') {i : Nat} {oi : Oper} {v : Value} (hi : ops[i]? = some oi) (hsel : ∀ (j : Nat) (o : Oper) cs b, ops[j]? = some o → o.op ≠ .select cs b)
    (hQ : ∀ c a w, Q (.panic c) (a.put oi.dst v) w → Q (.panic c) a w) (n : Nat) :
    ∀ (fuel : Nat) (listed : Array Bool) (a : Act) (w : World),
      (∀ j oj, ops[j]? = some oj → j ≠ i → listed.getD j true = false → (∀ e ∈ oj.after, Region.binds md e = true → e.on ≠ i) → oi.apart ops oj = true) →
      ListedClosed md ops listed → (∀ d ∈ ds, listed.getD d true = false → Region.reachB md ops i n d = true) →
      i ∈ Region.ready md ops listed → YieldsIf P ops S oi v a → S w →
      wpAnyE P md ops Q ds PB fuel (listed.setIfInBounds i true) (a.put oi.dst v) w → wpAnyE P md ops Q ds PB (fuel + 1) listed a w := by
  intro fuel
  induction fuel with
  | zero =>
    intro listed a w _ _ _ hr hy hS H
    refine ⟨fun h => (by rw [h] at hr; cases hr), fun j hj => ?_⟩
    by_cases hji : j = i
    · subst hji; exact hy.wpOp hi hS ⟨fun _ => Ext.refl _, ExtP.refl _ _, H⟩
    · have := ready_mono hj hji
      rw [H.1] at this
      cases this
  | succ fuel ih =>
    intro listed a w hfree hc hd hr hy hS H
    refine ⟨fun h => (by rw [h] at hr; cases hr), fun j hj => ?_⟩
    by_cases hji : j = i
    · subst hji; exact hy.wpOp hi hS ⟨fun _ => Ext.refl _, ExtP.refl _ _, H⟩
    · have h1 := H.2 j (ready_mono hj hji)
      obtain ⟨hjun, oj, hoj, hall⟩ := mem_ready.1 hj
      have hiun := (mem_ready.1 hr).1
      have hnot : ∀ e ∈ oj.after, Region.binds md e = true → e.on ≠ i := fun e he hb heq => by
        have h1 := hall e he hb
        rw [heq] at h1
        rcases Nat.lt_or_ge i listed.size with h' | h'
        · simp [h'] at hiun h1; rw [hiun] at h1; cases h1
        · simp [Array.getElem?_eq_none h'] at h1
      have hjd : j ∉ ds := fun hm => Region.reach_not_ready hc (hd j hm hjun) hiun hj
      have h2 := wpOp_putIf hoj (hfree j oj hoj hji hjun hnot) (fun cs b => hsel i oi cs b hi) (fun cs b => hsel j oj cs b hoj) hQ hy h1
      have hfree' : ∀ k ok, ops[k]? = some ok → k ≠ i → (listed.setIfInBounds j true).getD k true = false →
          (∀ e ∈ ok.after, Region.binds md e = true → e.on ≠ i) → oi.apart ops ok = true := fun k ok hk hki hun hno => by
        refine hfree k ok hk hki ?_ hno
        by_cases hjk : j = k
        · subst hjk; exact hjun
        · rw [getD_set_ne true hjk] at hun; exact hun
      have hd' : ∀ d ∈ ds, (listed.setIfInBounds j true).getD d true = false → Region.reachB md ops i n d = true := fun d hm hun => by
        refine hd d hm ?_
        by_cases hjk : j = d
        · subst hjk; exact hjun
        · rw [getD_set_ne true hjk] at hun; exact hun
      refine wpOp_mono (fun a' w' h3 => ⟨h3.2.1, h3.2.2.1, ih (listed.setIfInBounds j true) a' w' hfree' (hc.set hj) hd' (ready_mono hr (Ne.symm hji)) h3.1 (hSE _ _ hS (h3.2.1 hjd)) ?_⟩) h2
      rw [Array.setIfInBounds_comm _ _ hji]
      exact h3.2.2.2
theorem wq118 {i : Nat} {oi : Oper} {v : Value} (hi : ops[i]? = some oi) (hsel : ∀ (j : Nat) (o : Oper) cs b, ops[j]? = some o → o.op ≠ .select cs b)
    (hQ : ∀ c a w, Q (.panic c) (a.put oi.dst v) w → Q (.panic c) a w) :
    ∀ (fuel : Nat) (listed : Array Bool) (a : Act) (w : World),
      (∀ j oj, ops[j]? = some oj → j ≠ i → listed.getD j true = false → (∀ e ∈ oj.after, Region.binds md e = true → e.on ≠ i) → oi.apart ops oj = true) →
      i ∈ Region.ready md ops listed → Yields P ops oi v a →
      wpAnyE P md ops Q ds PB fuel (listed.setIfInBounds i true) (a.put oi.dst v) w → wpAnyE P md ops Q ds PB (fuel + 1) listed a w := by
  intro fuel
  induction fuel with
  | zero =>
    intro listed a w _ hr hy H
    refine ⟨fun h => (by rw [h] at hr; cases hr), fun j hj => ?_⟩
    by_cases hji : j = i
    · subst hji; exact (hy.yieldsIf (S := fun _ => True)).wpOp hi trivial ⟨fun _ => Ext.refl _, ExtP.refl _ _, H⟩
    · have := ready_mono hj hji
      rw [H.1] at this
      cases this
  | succ fuel ih =>
    intro listed a w hfree hr hy H
    refine ⟨fun h => (by rw [h] at hr; cases hr), fun j hj => ?_⟩
    by_cases hji : j = i
    · subst hji; exact (hy.yieldsIf (S := fun _ => True)).wpOp hi trivial ⟨fun _ => Ext.refl _, ExtP.refl _ _, H⟩
    · have h1 := H.2 j (ready_mono hj hji)
      obtain ⟨hjun, oj, hoj, hall⟩ := mem_ready.1 hj
      have hiun := (mem_ready.1 hr).1
      have hnot : ∀ e ∈ oj.after, Region.binds md e = true → e.on ≠ i := fun e he hb heq => by
        have h1 := hall e he hb
        rw [heq] at h1
        rcases Nat.lt_or_ge i listed.size with h' | h'
        · simp [h'] at hiun h1; rw [hiun] at h1; cases h1
        · simp [Array.getElem?_eq_none h'] at h1
      have h2 := wpOp_put hoj (hfree j oj hoj hji hjun hnot) (fun cs b => hsel i oi cs b hi) (fun cs b => hsel j oj cs b hoj) hQ hy h1
      have hfree' : ∀ k ok, ops[k]? = some ok → k ≠ i → (listed.setIfInBounds j true).getD k true = false →
          (∀ e ∈ ok.after, Region.binds md e = true → e.on ≠ i) → oi.apart ops ok = true := fun k ok hk hki hun hno => by
        refine hfree k ok hk hki ?_ hno
        by_cases hjk : j = k
        · subst hjk; exact hjun
        · rw [getD_set_ne true hjk] at hun; exact hun
      refine wpOp_mono (fun a' w' h3 => ⟨h3.2.1, h3.2.2.1, ih (listed.setIfInBounds j true) a' w' hfree' (ready_mono hr (Ne.symm hji)) h3.1 ?_⟩) h2
      rw [Array.setIfInBounds_comm _ _ hji]
      exact h3.2.2.2
theorem wqnx {PB' : Nat → Prop} (hp : ∀ b, PB b → PB' b) : ∀ (fuel : Nat) (listed : Array Bool) (a : Act) (w : World), wpAnyE P md ops Q ds PB' fuel listed a w → wpAnyE P md ops Q ds PB fuel listed a w
  | 0, _, _, _, h => h
  | fuel + 1, _, _, _, h => ⟨h.1, fun i hi => wpOp_mono (fun a' w' h' => ⟨h'.1, h'.2.1.mono hp, wqnx hp fuel _ a' w' h'.2.2⟩) (h.2 i hi)⟩
theorem wqya {PB' : Nat → Prop} (hp : ∀ b, PB b → PB' b) (hSE : ∀ w w', S w → ExtP PB' w w' → S w') {i : Nat} {oi : Oper} {v : Value} (hi : ops[i]? = some oi) (hsel : ∀ (j : Nat) (o : Oper) cs b, ops[j]? = some o → o.op ≠ .select cs b)
    (hQ : ∀ c a w, Q (.panic c) (a.put oi.dst v) w → Q (.panic c) a w) :
    ∀ (fuel : Nat) (listed : Array Bool) (a : Act) (w : World),
      (∀ j oj, ops[j]? = some oj → j ≠ i → listed.getD j true = false → (∀ e ∈ oj.after, Region.binds md e = true → e.on ≠ i) → oi.apart ops oj = true) →
      i ∈ Region.ready md ops listed → YieldsIf P ops S oi v a → S w →
      wpAnyE P md ops Q ds PB' fuel (listed.setIfInBounds i true) (a.put oi.dst v) w → wpAnyE P md ops Q ds PB (fuel + 1) listed a w := by
  intro fuel
  induction fuel with
  | zero =>
    intro listed a w _ hr hy hS H
    refine ⟨fun h => (by rw [h] at hr; cases hr), fun j hj => ?_⟩
    by_cases hji : j = i
    · subst hji; exact hy.wpOp hi hS ⟨fun _ => Ext.refl _, ExtP.refl _ _, wqnx hp _ _ _ _ H⟩
    · have := ready_mono hj hji
      rw [H.1] at this
      cases this
  | succ fuel ih =>
    intro listed a w hfree hr hy hS H
    refine ⟨fun h => (by rw [h] at hr; cases hr), fun j hj => ?_⟩
    by_cases hji : j = i
    · subst hji; exact hy.wpOp hi hS ⟨fun _ => Ext.refl _, ExtP.refl _ _, wqnx hp _ _ _ _ H⟩
    · have h1 := H.2 j (ready_mono hj hji)
      obtain ⟨hjun, oj, hoj, hall⟩ := mem_ready.1 hj
      have hiun := (mem_ready.1 hr).1
      have hnot : ∀ e ∈ oj.after, Region.binds md e = true → e.on ≠ i := fun e he hb heq => by
        have h1 := hall e he hb
        rw [heq] at h1
        rcases Nat.lt_or_ge i listed.size with h' | h'
        · simp [h'] at hiun h1; rw [hiun] at h1; cases h1
        · simp [Array.getElem?_eq_none h'] at h1
      have h2 := wpOp_putIf hoj (hfree j oj hoj hji hjun hnot) (fun cs b => hsel i oi cs b hi) (fun cs b => hsel j oj cs b hoj) hQ hy h1
      have hfree' : ∀ k ok, ops[k]? = some ok → k ≠ i → (listed.setIfInBounds j true).getD k true = false →
          (∀ e ∈ ok.after, Region.binds md e = true → e.on ≠ i) → oi.apart ops ok = true := fun k ok hk hki hun hno => by
        refine hfree k ok hk hki ?_ hno
        by_cases hjk : j = k
        · subst hjk; exact hjun
        · rw [getD_set_ne true hjk] at hun; exact hun
      refine wpOp_mono (fun a' w' h3 => ⟨h3.2.1, h3.2.2.1.mono hp, ih (listed.setIfInBounds j true) a' w' hfree' (ready_mono hr (Ne.symm hji)) h3.1 (hSE _ _ hS h3.2.2.1) ?_⟩) h2
      rw [Array.setIfInBounds_comm _ _ hji]
      exact h3.2.2.2
theorem wq12m (hSE : ∀ w w', S w → Ext w w' → S w') {i : Nat} {oi : Oper} {v : Value} {fuel : Nat} {listed : Array Bool} {a : Act} {w : World} (hi : ops[i]? = some oi)
    (hs : Region.noSelect ops = true) (hf : Region.free md ops listed i = true) (hr : (Region.ready md ops listed).contains i = true)
    (hc : Region.closedB md ops listed = true) (hl : Region.lastB md ops listed ds i = true)
    (hQ : ∀ c a w, Q (.panic c) (a.put oi.dst v) w → Q (.panic c) a w) (hy : YieldsIf P ops S oi v a) (hS : S w)
    (h : wpAnyE P md ops Q ds PB fuel (listed.setIfInBounds i true) (a.put oi.dst v) w) : wpAnyE P md ops Q ds PB (fuel + 1) listed a w :=
  wqqz hSE hi (Region.noSelect_spec hs) hQ ops.size fuel listed a w (Region.free_spec hi hf) (Region.closedB_spec hc)
    (fun d hm hun => by have := List.all_eq_true.1 hl d hm; rw [hun] at this; simpa using this) (by simpa using hr) hy hS h
theorem wq12o {rs : List Nat} {fuel : Nat} {listed : Array Bool} {a : Act} {w : World} (hr : Region.ready md ops listed = rs) (hne : rs ≠ [])
    (h : ∀ i ∈ rs, wpOp P ops Q i (fun a' w' => (i ∉ ds → Ext w w') ∧ ExtP PB w w' ∧ wpAnyE P md ops Q ds PB fuel (listed.setIfInBounds i true) a' w') a w) : wpAnyE P md ops Q ds PB (fuel + 1) listed a w :=
  ⟨fun h0 => absurd (hr ▸ h0) hne, hr ▸ h⟩
theorem wq12n {listed : Array Bool} {a : Act} {w : World} (hr : Region.ready md ops listed = []) (h : Q .normal a w) :
    ∀ fuel, wpAnyE P md ops Q ds PB fuel listed a w
  | 0 => ⟨hr, h⟩
  | _ + 1 => ⟨fun _ => h, by rw [hr]; simp⟩
theorem wq10a {id : Nat} {a : Act} {w : World} (hm : P.follows .mixedOrders = true)
    (h : wpAnyE P .any ops Q ds PB ops.size (Array.replicate ops.size false) a { w with drawn := w.drawn + 1 }) : (Code.region id ops true).wp P Q a w :=
  wp_region_any hm (wqwr _ _ _ _ h)
end
end Go.Proofs.YtpfbdepoammjmaaGreatDoor.Pvm

namespace Go.Proofs.YtpfbdepoammjmaaGreatDoor.Pvm
open Go
variable {P : Program}
section
variable {ty : TypeId → Option TI} {h : Heap} {G : Gh} {w : World} {ev : Ev}
theorem load_all {ti : TI} {t : TypeId} (ht : TiOk P t ti) {A : Addr} {off : Nat} {cs : List PV} {vs : List Value} {p : PV} (he : partOf ti off cs = some p) (hr : RVs h G w cs vs) :
    ∃ v, RV h G w p v ∧ ∀ w' : World, (∀ j u, vs[off + j]? = some u → w'.cell? (A.add j) = some u) → (loadVar t A).run P w' = .ok v w' := by
  unfold partOf at he
  split at he
  · next hk =>
    cases hb : Nat.ble (off + ti.size) cs.length with
    | false => rw [hb] at he; cases he
    | true =>
      rw [hb] at he; cases he
      have hb := Nat.le_of_ble_eq_true hb
      have hl : ((vs.drop off).take ti.size).length = ti.size := by rw [List.length_take, List.length_drop, hr.length]; omega
      refine ⟨.agg ((vs.drop off).take ti.size).toArray, ⟨(vs.drop off).take ti.size, rfl, (hr.drop off).take _⟩, fun w' hc => ?_⟩
      have hag := ht.agg w'
      simp only [TI.isAg, hk] at hag
      have hrun := run_loadCells_list (P := P) w' A ((vs.drop off).take ti.size) (fun j v hj => by
        rw [List.getElem?_take] at hj
        split at hj
        · rw [List.getElem?_drop] at hj; exact hc j v hj
        · cases hj)
      rw [hl] at hrun
      simp only [loadVar, Sem.run_bind, hag, Result.andThen_ok, if_true, ht.size w', Sem.run_pure, hrun]
  · next hk =>
    have hf : ti.isAg = false := by unfold TI.isAg; cases hk2 : ti.k <;> simp_all
    obtain ⟨v, hv, hp⟩ := hr.get off p he
    refine ⟨v, hp, fun w' hc => ?_⟩
    have hag := ht.agg w'
    rw [hf] at hag
    have := hc 0 v (by simpa using hv)
    rw [Addr.add_zero'] at this
    simp [loadVar, hag, load, Sem.run, this]
theorem wquk (T : TyOk P ty) {ti : TI} {t : TypeId} (ht : ty t = some ti) (obj : ∀ n o, h n = some o → RO h G w n o) {p : PV} {v : Value} (he : evLoad ti h p = some ev) (hp : RV h G w p v) :
    ∃ u A, v = .pointer (some A) ∧ A.block < w.heap.size ∧ ∀ w' : World, w'.heap[A.block]? = w.heap[A.block]? → (Instr.loadAt t v).run P w' = .ok u w' := by
  unfold evLoad at he
  split at he
  · next cs off hcs =>
    split at he
    · next q hq =>
      have key : ∃ A vs, v = .pointer (some A) ∧ A.block < w.heap.size ∧ RVs h G w cs vs ∧ ∀ j u, vs[off + j]? = some u → w.cell? (A.add j) = some u := by
        unfold cellsAt at hcs
        split at hcs
        · next n o =>
          split at hcs
          · next t' cs' hn =>
            simp only [Option.some.injEq, Prod.mk.injEq] at hcs
            obtain ⟨rfl, rfl⟩ := hcs
            obtain ⟨rfl, _⟩ := hp
            obtain ⟨vs, hw, hr⟩ := obj _ _ hn
            refine ⟨_, vs, rfl, (Array.getElem?_eq_some_iff.1 hw).1, hr, fun j u hj => ?_⟩
            rw [Addr.add_lit]
            simp only [World.cell?, hw]
            simpa using hj
          · cases hcs
        · next K xs i o =>
          simp only [Option.some.injEq, Prod.mk.injEq] at hcs
          obtain ⟨rfl, rfl⟩ := hcs
          obtain ⟨ad, rfl, hi, hb, hlt, hr⟩ := hp
          obtain ⟨c, hc, hu⟩ := hr i (xs.getD i K.zero) (by simp [List.getD, hi])
          refine ⟨_, c, rfl, by rw [wqb0]; exact hlt, wqde hc, fun j u hj => ?_⟩
          rw [Addr.add_add, Nat.add_assoc]
          exact hu _ _ hj
        · next n i o =>
          split at hcs
          · next e K xs hn =>
            simp only [Option.some.injEq, Prod.mk.injEq] at hcs
            obtain ⟨rfl, rfl⟩ := hcs
            obtain ⟨e', K', xs', g, hn', hi, hg, rfl⟩ := hp
            rw [hn] at hn'
            simp only [Option.some.injEq, HObj.row.injEq] at hn'
            obtain ⟨rfl, rfl, hx⟩ := hn'
            have hx := eq_of_heq hx
            subst hx
            have hlt : g < w.heap.size := RO.lt hn (obj _ _ hn) (by simp [blkOf, hn, hg])
            obtain ⟨vs, hown, hr, _⟩ := obj _ _ hn
            obtain ⟨c, hc, hu⟩ := hr.get i (xs.getD i K.zero) (by simp [List.getD, hi])
            refine ⟨_, c, rfl, hlt, wqde hc, fun j u hj => ?_⟩
            have := hown.cells hg _ _ (hu _ _ hj)
            rw [Addr.add_lit] at this ⊢
            rw [← this]
            congr 2
            omega
          · cases hcs
        · cases hcs
      obtain ⟨A, vs, rfl, hlt, hr, hc⟩ := key
      obtain ⟨u, _, hu⟩ := load_all (A := A) (T _ _ ht) hq hr
      refine ⟨u, A, rfl, hlt, fun w' hw' => ?_⟩
      have := hu w' fun j x hj => by
        rw [World.cell?_of_block (w := w) (by rw [wqb0]; exact hw')]
        exact hc j x hj
      simp [Instr.loadAt, Instr.sureAddr, this]
    · cases he
  · cases he
end
def growing (P : Program) {α : Type} (s : Sem α) : Prop := ∀ w w1 a, s.run P w = .ok a w1 → Ext w w1
section
variable {α β : Type}
theorem wq4q {s : Sem α} (h : calm P s) : growing P s := fun w w1 a hr => by rw [wqzc h hr]; exact .refl w
theorem wq7x {s : Sem α} {f : α → Sem β} (h : growing P s) (hf : ∀ a, growing P (f a)) : growing P (s >>= f) := by
  intro w w1 b hr
  rw [run_b] at hr
  cases hs : s.run P w with
  | ok a w2 => rw [hs] at hr; exact (h _ _ _ hs).trans (hf a _ _ _ hr)
  | halt x w2 => rw [hs] at hr; cases hr
theorem wqdf (a : α) : growing P (pure a : Sem α) := wq4q (calm_p a)
theorem wqmf (t : TypeId) (c : Array Value) : growing P (newRow t c) := by
  intro w w1 a hr
  simp [newRow, newObj, Sem.run] at hr
  obtain ⟨_, rfl⟩ := hr
  refine ⟨fun b hb => ?_, by simp⟩
  show (w.heap.push _)[b]? = _
  rw [Array.getElem?_push_lt hb]
  exact (Array.getElem?_eq_getElem hb).symm
theorem wqmg (t : TypeId) (v : Value) : growing P (newVar t v) := wqmf _ _
end
theorem wqyb {ρ : Operand → Value} {o : Oper} (hg : isGrow o.op = true) : growing P (execOp ρ o) := by
  unfold isGrow at hg
  split at hg
  · next t ho =>
    simp only [execOp, ho]
    refine wq7x ?_ fun _ => wqdf _
    unfold Instr.alloc
    refine wq7x (wq4q (wqfh t)) fun z => ?_
    exact wq7x (wqmg _ _) fun _ => wqdf _
  · next t x ho =>
    simp only [execOp, ho]
    refine wq7x ?_ fun _ => wqdf _
    exact wq7x (wqmg _ _) fun _ => wqdf _
  · next t n ps ho =>
    simp only [execOp, ho]
    refine wq7x ?_ fun _ => wqdf _
    unfold Instr.buildSlice
    refine wq7x (wq4q (wq1a t)) fun d => ?_
    split
    · next elem =>
      refine wq7x (wq4q (wq56 _)) fun z => ?_
      have last : ∀ zero : Array Value, growing P (do
          let some cells := Instr.fill (fun i => some (i * z, z)) ((Array.range (n * z)).map (zero[· % zero.size]!)) ((ps.map fun (i, x) => (i, ρ x)).toList)
            | stuck "buildSlice: a part of the wrong size"
          pure (Value.slice (some (← newRow elem cells)) n n)) := by
        intro zero
        split
        · exact wq7x (wqmf _ _) fun _ => wqdf _
        · exact wq4q (wq1b _)
      dsimp only
      split
      · exact wq4q (wq3x (dead_b (wqqj _)))
      · split
        · exact wq7x (wqdf _) fun zero => last zero
        · exact wq7x (wq4q (wqfh _)) fun zz => wq7x (wqdf _) fun zero => last zero
    · exact wq4q (wq1b _)
  · cases hg
def valued (P : Program) (s : Sem Next) : Prop := ∀ w nx w', s.run P w = .ok nx w' → ∃ v, nx = .value v
theorem valued_p (v : Value) : valued P (pure (.value v)) := by intro w nx w' hr; simp at hr; exact ⟨v, hr.1.symm⟩
theorem valued_b {α : Type} {s : Sem α} {f : α → Sem Next} (hf : ∀ a, valued P (f a)) : valued P (s >>= f) := by
  intro w nx w' hr
  rw [run_b] at hr
  cases hs : s.run P w with
  | ok a w2 => rw [hs] at hr; exact hf a _ _ _ hr
  | halt x w2 => rw [hs] at hr; cases hr
theorem valued_v (s : Sem Value) : valued P (do pure (Next.value (← s))) := valued_b fun _ => valued_p _
theorem wqny {ty : TypeId → Option TI} {u : Operand → PV} {ρ : Operand → Value} {o : Oper} {h : Heap} {G : Gh} {w : World} (hu : ∀ x, RV h G w (u x) (ρ x)) (hc : calmHere ty u o.op = true ∨ isLoad o.op = true) : valued P (execOp ρ o) := by
  rcases hc with hc | hc
  · unfold calmHere at hc
    split at hc
    · next ho => simp only [execOp, ho]; exact valued_p _
    · next ho => simp only [execOp, ho]; exact valued_p _
    · next ho => simp only [execOp, ho]; exact valued_b fun _ => valued_p _
    · next ho => simp only [execOp, ho]; exact valued_v _
    · next ho => simp only [execOp, ho]; exact valued_v _
    · next ho => simp only [execOp, ho]; exact valued_v _
    · next ho => simp only [execOp, ho]; exact valued_v _
    · next ho => simp only [execOp, ho]; exact valued_v _
    · next ho => simp only [execOp, ho]; exact valued_v _
    · next x ho =>
      obtain ⟨a, ha⟩ := isPtr_ok (hu x) hc
      simp only [execOp, ho, ha]; exact valued_p _
    · next ho => simp only [execOp, ho]; exact valued_v _
    · next ho => simp only [execOp, ho]; exact valued_v _
    · next ho => simp only [execOp, ho]; exact valued_v _
    · next ho => simp only [execOp, ho]; exact valued_v _
    · next args ts ho =>
      have e2 : execOp ρ o = (do pure (Next.value (← Builtin.len_ ts o.type (args.map ρ)))) := by
        simp [execOp, ho, resolve, invoke, builtin]
      rw [e2]; exact valued_v _
    · cases hc
  · unfold isLoad at hc
    split at hc
    · next ho => simp only [execOp, ho]; exact valued_v _
    · cases hc
end Go.Proofs.YtpfbdepoammjmaaGreatDoor.Pvm

namespace Go.Proofs.YtpfbdepoammjmaaGreatDoor.Pvm
open Go
variable {P : Program}
theorem bit_eq (m i : Nat) : bit m i = m.testBit i := by
  unfold bit Nat.testBit
  show Nat.beq ((m >>> i) &&& 1) 1 = (1 &&& (m >>> i) != 0)
  rw [Nat.and_comm 1]
  have : (m >>> i) &&& 1 = (m >>> i) % 2 := Nat.and_one_is_mod _
  rw [this]
  rcases Nat.mod_two_eq_zero_or_one (m >>> i) with h | h <;> rw [h] <;> rfl
theorem bit_set (m i j : Nat) : bit (setb m i) j = (decide (j = i) || bit m j) := by
  rw [bit_eq, bit_eq]
  unfold setb
  show (m ||| (1 <<< i)).testBit j = _
  rw [Nat.testBit_or, Nat.one_shiftLeft, Nat.testBit_two_pow]
  by_cases h : j = i
  · subst h; simp
  · simp [h, Ne.symm h]
theorem bit_zero (i : Nat) : bit 0 i = false := by rw [bit_eq]; simp
def Tells (n mask : Nat) (listed : Array Bool) : Prop := listed.size = n ∧ (∀ j, j < n → listed[j]? = some (bit mask j)) ∧ ∀ j, bit mask j = true → j < n
theorem Tells.getD {n mask : Nat} {listed : Array Bool} (h : Tells n mask listed) {j : Nat} (hj : j < n) (d : Bool) : listed.getD j d = bit mask j := by
  rw [Array.getD_eq_getD_getElem?, h.2.1 j hj]; rfl
theorem Tells.set {n mask : Nat} {listed : Array Bool} (h : Tells n mask listed) {i : Nat} (hi : i < n) : Tells n (setb mask i) (listed.setIfInBounds i true) := by
  refine ⟨by simp [h.1], fun j hj => ?_, fun j hj => ?_⟩
  · rw [Array.getElem?_setIfInBounds, bit_set]
    by_cases hij : i = j
    · subst hij; simp [h.1, hj]
    · rw [if_neg hij, h.2.1 j hj]; simp [Ne.symm hij]
  · rw [bit_set, Bool.or_eq_true] at hj
    rcases hj with hj | hj
    · have : j = i := by simpa using hj
      omega
    · exact h.2.2 j hj
theorem Tells.start (n : Nat) : Tells n 0 (Array.replicate n false) := by
  refine ⟨by simp, fun j hj => ?_, fun j hj => by rw [bit_zero] at hj; cases hj⟩
  rw [bit_zero]; simp [hj]
theorem wqkh {m : Nat} : ∀ {l : List Edge}, edgesIn m l = true → ∀ e ∈ l, Region.binds .any e = true → bit m e.on = true
  | [], _, e, he => by cases he
  | a :: r, h, e, he => by
    simp only [edgesIn, Bool.and_eq_true, Bool.or_eq_true, Bool.not_eq_true'] at h
    rcases List.mem_cons.1 he with rfl | he
    · intro hb
      rcases h.1 with h1 | h1
      · rw [h1] at hb; cases hb
      · exact h1
    · exact wqkh h.2 e he
theorem wqul {m : Nat} : ∀ {l : List Edge}, edgesIn m l = false → ∃ e ∈ l, Region.binds .any e = true ∧ bit m e.on = false
  | [], h => by cases h
  | a :: r, h => by
    simp only [edgesIn, Bool.and_eq_false_iff, Bool.or_eq_false_iff, Bool.not_eq_false'] at h
    rcases h with h | h
    · exact ⟨a, by simp, h.1, h.2⟩
    · obtain ⟨e, he, h1⟩ := wqul h
      exact ⟨e, by simp [he], h1⟩
theorem wqki {i : Nat} : ∀ {l : List Edge}, hasEdge i l = true → ∃ e ∈ l, Region.binds .any e = true ∧ e.on = i
  | [], h => by cases h
  | a :: r, h => by
    simp only [hasEdge, Bool.or_eq_true, Bool.and_eq_true] at h
    rcases h with h | h
    · exact ⟨a, by simp, h.1, beqN.1 h.2⟩
    · obtain ⟨e, he, h1⟩ := wqki h
      exact ⟨e, by simp [he], h1⟩
theorem wqp6 {m : Nat} : ∀ {l : List Edge}, hasEdgeM m l = true → ∃ e ∈ l, Region.binds .any e = true ∧ bit m e.on = true
  | [], h => by cases h
  | a :: r, h => by
    simp only [hasEdgeM, Bool.or_eq_true, Bool.and_eq_true] at h
    rcases h with h | h
    · exact ⟨a, by simp, h.1, h.2⟩
    · obtain ⟨e, he, h1⟩ := wqp6 h
      exact ⟨e, by simp [he], h1⟩
theorem wq122 {ops : Array Oper} {j : Nat} {o : Oper} {r : List Oper} (h : ops.toList.drop j = o :: r) : ops[j]? = some o ∧ ops.toList.drop (j + 1) = r := by
  constructor
  · have : (ops.toList.drop j)[0]? = some o := by rw [h]; rfl
    rw [List.getElem?_drop] at this
    simpa using this
  · rw [← List.drop_drop, h]; rfl
theorem drop_at {ops : Array Oper} : ∀ {l : List Oper} {j : Nat}, ops.toList.drop j = l → ∀ k o, ops[j + k]? = some o → l[k]? = some o := by
  intro l j h k o ho
  rw [← h, List.getElem?_drop]
  simpa using ho
theorem wqws {ops : Array Oper} {mask i : Nat} {oi : Oper} : ∀ {l : List Oper} {j : Nat}, freeC ops mask i oi j l = true → ∀ k oj, l[k]? = some oj → j + k ≠ i → bit mask (j + k) = false → (∀ e ∈ oj.after, Region.binds .any e = true → e.on ≠ i) → oi.apart ops oj = true
  | [], j, _, k, oj, h => by simp at h
  | o :: r, j, h, 0, oj, hk => by
    simp at hk; subst hk
    intro hne hun hno
    simp only [freeC, Bool.and_eq_true, Bool.or_eq_true] at h
    rcases h.1 with ((h1 | h1) | h1) | h1
    · exact absurd (beqN.1 h1) hne
    · rw [Nat.add_zero] at hun; rw [hun] at h1; cases h1
    · obtain ⟨e, he, h2, h3⟩ := wqki h1
      exact absurd h3 (hno e (by simpa using he) h2)
    · exact h1
  | o :: r, j, h, k + 1, oj, hk => by
    simp only [freeC, Bool.and_eq_true] at h
    have := wqws (l := r) (j := j + 1) h.2 k oj (by simpa using hk)
    rw [show j + (k + 1) = j + 1 + k by omega]
    exact this
theorem wqum {mask cov i : Nat} : ∀ {l : List Oper} {j : Nat}, aloneC mask cov i j l = true → ∀ k oj, l[k]? = some oj → j + k ≠ i → bit mask (j + k) = false → bit cov (j + k) = false → ∃ e ∈ oj.after, Region.binds .any e = true ∧ bit mask e.on = false
  | [], j, _, k, oj, h => by simp at h
  | o :: r, j, h, 0, oj, hk => by
    simp at hk; subst hk
    intro hne hun hcv
    simp only [aloneC, Bool.and_eq_true, Bool.or_eq_true, Bool.not_eq_true'] at h
    rcases h.1 with ((h1 | h1) | h1) | h1
    · exact absurd (beqN.1 h1) hne
    · rw [Nat.add_zero] at hun; rw [hun] at h1; cases h1
    · rw [Nat.add_zero] at hcv; rw [hcv] at h1; cases h1
    · obtain ⟨e, he, h2⟩ := wqul h1
      exact ⟨e, by simpa using he, h2⟩
  | o :: r, j, h, k + 1, oj, hk => by
    simp only [aloneC, Bool.and_eq_true] at h
    have := wqum (l := r) (j := j + 1) h.2 k oj (by simpa using hk)
    rw [show j + (k + 1) = j + 1 + k by omega]
    exact this
theorem wqwt {mask W : Nat} : ∀ {l : List Oper} {j : Nat}, lastC mask W j l = true → ∀ k oj, l[k]? = some oj → wOp oj.op = true → bit mask (j + k) = false → bit W (j + k) = true
  | [], j, _, k, oj, h => by simp at h
  | o :: r, j, h, 0, oj, hk => by
    simp at hk; subst hk
    intro hw hun
    simp only [lastC, Bool.and_eq_true, Bool.or_eq_true, Bool.not_eq_true'] at h
    rcases h.1 with (h1 | h1) | h1
    · rw [hw] at h1; cases h1
    · rw [Nat.add_zero] at hun; rw [hun] at h1; cases h1
    · exact h1
  | o :: r, j, h, k + 1, oj, hk => by
    simp only [lastC, Bool.and_eq_true] at h
    have := wqwt (l := r) (j := j + 1) h.2 k oj (by simpa using hk)
    rw [show j + (k + 1) = j + 1 + k by omega]
    exact this
theorem wqwu {mask : Nat} : ∀ {l : List Oper} {j : Nat}, allIn mask j l = true → ∀ k oj, l[k]? = some oj → bit mask (j + k) = true
  | [], j, _, k, oj, h => by simp at h
  | o :: r, j, h, 0, oj, hk => by
    simp only [allIn, Bool.and_eq_true] at h
    exact h.1
  | o :: r, j, h, k + 1, oj, hk => by
    simp only [allIn, Bool.and_eq_true] at h
    have := wqwu (l := r) (j := j + 1) h.2 k oj (by simpa using hk)
    rw [show j + (k + 1) = j + 1 + k by omega]
    exact this
theorem wqr0 {ops : Array Oper} {i : Nat} : ∀ {f g d : Nat}, f ≤ g → Region.reachB .any ops i f d = true → Region.reachB .any ops i g d = true
  | 0, g, d, _, h => by simp [Region.reachB] at h
  | f + 1, 0, d, hl, h => by omega
  | f + 1, g + 1, d, hl, h => by
    rw [Region.reachB] at h ⊢
    split at h
    · next o ho =>
      rw [Array.any_eq_true'] at h ⊢
      obtain ⟨e, he, h1⟩ := h
      simp only [Bool.and_eq_true, Bool.or_eq_true] at h1
      refine ⟨e, he, ?_⟩
      simp only [Bool.and_eq_true, Bool.or_eq_true]
      refine ⟨h1.1, h1.2.imp id (wqr0 (by omega))⟩
    · cases h
theorem wqun {ops : Array Oper} {i : Nat} : ∀ (l : List Oper) (j W : Nat), ops.toList.drop j = l → (∀ d, bit W d = true → d < j ∧ Region.reachB .any ops i (d + 1) d = true) →
    ∀ d, bit (waitsM i j l W) d = true → d < ops.size ∧ Region.reachB .any ops i (d + 1) d = true
  | [], j, W, hl, hW, d, hd => by
    obtain ⟨h1, h2⟩ := hW d hd
    have hr := h2
    rw [Region.reachB] at hr
    split at hr
    · next o ho => exact ⟨(Array.getElem?_eq_some_iff.1 ho).1, h2⟩
    · cases hr
  | o :: r, j, W, hl, hW, d, hd => by
    obtain ⟨ho, hl'⟩ := wq122 hl
    rw [waitsM] at hd
    refine wqun r (j + 1) _ hl' (fun d hd => ?_) d hd
    cases hc : (hasEdge i o.after.toList || hasEdgeM W o.after.toList) with
    | false =>
      rw [hc] at hd
      obtain ⟨h1, h2⟩ := hW d hd
      exact ⟨by omega, h2⟩
    | true =>
      rw [hc, cond_true, bit_set, Bool.or_eq_true] at hd
      rcases hd with hd | hd
      · have hd : d = j := by simpa using hd
        subst hd
        refine ⟨by omega, ?_⟩
        rw [Region.reachB, ho]
        rw [Bool.or_eq_true] at hc
        simp only [Array.any_eq_true', Bool.and_eq_true, Bool.or_eq_true, beq_iff_eq]
        rcases hc with hc | hc
        · obtain ⟨e, he, h1, h2⟩ := wqki hc
          exact ⟨e, by simpa using he, h1, .inl h2⟩
        · obtain ⟨e, he, h1, h2⟩ := wqp6 hc
          obtain ⟨h3, h4⟩ := hW _ h2
          exact ⟨e, by simpa using he, h1, .inr (wqr0 (by omega) h4)⟩
      · obtain ⟨h1, h2⟩ := hW d hd
        exact ⟨by omega, h2⟩
theorem wqr1 {ops : Array Oper} (h : noSel ops = true) (j : Nat) (o : Oper) (cs : Array SelectCase) (b : Bool) (ho : ops[j]? = some o) : o.op ≠ .select cs b := by
  intro he
  have h1 : o ∈ ops.toList := by simpa using Array.mem_of_getElem? ho
  have := List.all_eq_true.1 h o h1
  rw [he] at this
  cases this
theorem isIn_iff {d : Nat} : ∀ {l : List Nat}, isIn d l = true ↔ d ∈ l := isIn_mem
theorem mem_dsOf {ops : Array Oper} {i : Nat} {o : Oper} (ho : ops[i]? = some o) : i ∈ dsOf ops ↔ wOp o.op = true := by
  unfold dsOf
  rw [List.mem_filter, List.mem_range]
  simp only [ho]
  have := (Array.getElem?_eq_some_iff.1 ho).1
  constructor
  · exact fun h => h.2
  · exact fun h => ⟨this, h⟩
section
variable {w0 : World} {fr : Nat → Prop} {X0 : Org} {n : Nat} {ds : List Deferred} {st : St} {G : Gh} {a : Act} {w : World}
theorem wquo (R : Rel w0 fr X0 n ds st G a w) {ops : Array Oper} {o : Oper} (hw : Region.wanted o (yielded ops a.tmps) = true) : tagsHold (tmOf a) (tagsOf ops o st) := by
  unfold tagsOf
  split
  · exact noTags
  · next j wb hg =>
    split
    · exact noTags
    · next s hs =>
      have hv := (wqvb (a := a) hg hs).1 hw
      split
      · intro x hx; simp at hx; subst hx; exact hv
      · next g c p hp =>
        have ht := R.tm s
        rw [hp] at ht
        have hg : tagsHold (tmOf a) g := by
          refine Classical.byContradiction fun hn => ?_
          have := ht.2 hn
          rw [hv] at this
          simp [undef] at this
        intro x hx
        rcases List.mem_cons.1 hx with rfl | hx
        · exact hv
        · exact hg x hx
      · exact noTags
theorem skip_ok (R : Rel w0 fr X0 n ds st G a w) {ops : Array Oper} {o : Oper} (h : skipHere ops o st = true) : Region.wanted o (yielded ops a.tmps) = false := by
  unfold skipHere at h
  split at h
  · cases h
  · next j wb hg =>
    split at h
    · cases h
    · next s hs =>
      have ht := R.tm s
      have hw := wqvb (a := a) hg hs
      cases hx : Region.wanted o (yielded ops a.tmps) with
      | false => rfl
      | true =>
        exfalso
        have hv := hw.1 hx
        split at h
        · next b hb =>
          rw [hb] at ht
          have ht : tmOf a s = .bool b := ht
          rw [hv] at ht
          simp at ht
          subst ht
          simp at h
        · next b hb =>
          rw [hb] at ht
          have ht : tmOf a s ≠ .bool b := ht
          have hb : b = wb := by simpa using h
          subst hb
          exact ht hv
        · cases h
theorem wqr2 {ops : Array Oper} {o : Oper} {N : Act → World → Prop} (hval : valued P (execOp a.eval o)) (hw : Region.wanted o (yielded ops a.tmps) = true) (hs : stepWp P ops o a w N (fun _ _ _ => False)) :
    ∃ v w', (execOp a.eval o).run P w = .ok (.value v) w' ∧ N (a.put o.dst v) w' := by
  unfold stepWp at hs
  rw [if_pos hw] at hs
  unfold Oper.wp at hs
  cases hr : (execOp a.eval o).run P w with
  | ok nx w' =>
    obtain ⟨v, rfl⟩ := hval _ _ _ hr
    rw [hr, Oper.upon_value] at hs
    exact ⟨v, w', rfl, hs⟩
  | halt x w' =>
    rw [hr] at hs
    cases x <;> exact hs.elim
theorem disj_in {l r : List Nat} : disj l r = true → ∀ n ∈ l, n ∉ r := by
  induction l with
  | nil => intro _ n hn; cases hn
  | cons m l ih =>
    intro h n hn hr
    simp only [disj, Bool.and_eq_true, Bool.not_eq_true'] at h
    rcases List.mem_cons.1 hn with rfl | hn
    · rw [isIn_mem.2 hr] at h; cases h.1
    · exact ih h.2 n hn hr
def Prot (PB : Nat → Prop) (h : Heap) (G : Gh) (w : World) (pr : List Nm) : Prop := ∀ b, PB b → b < w.heap.size ∧ (freeB h G b ∨ ∃ n t cs, h n = some (.var t cs) ∧ G.bk n = b ∧ n ∈ pr)
theorem Prot.kept {PB : Nat → Prop} {h h' : Heap} {G G' : Gh} {w w' : World} {pr tn : List Nm} (Pr : Prot PB h G w pr) (Kp : Kept h G w h' G' w' tn) (hd : disj tn pr = true) : Prot PB h' G' w' pr ∧ ExtP PB w w' := by
  refine ⟨fun b hb => ?_, fun b hb hl => ?_, Kp.grow⟩
  · obtain ⟨h1, h2⟩ := Pr b hb
    refine ⟨Nat.lt_of_lt_of_le h1 Kp.grow, ?_⟩
    rcases h2 with h2 | ⟨n, t, cs, h3, h4, h5⟩
    · refine .inl fun n hn => ?_
      rcases Kp.new n b hn with ⟨m, hm⟩ | hlt
      · exact h2 m hm
      · omega
    · obtain ⟨⟨cs', h6⟩, h7⟩ := Kp.vars n t cs h3
      exact .inr ⟨n, t, cs', h6, by rw [h7, h4], h5⟩
  · obtain ⟨h1, h2⟩ := Pr b hb
    rcases h2 with h2 | ⟨n, t, cs, h3, rfl, h5⟩
    · exact Kp.blk b hl h2
    · exact Kp.var n t cs h3 fun hn => disj_in hd n hn h5
theorem Prot.weaken {PB : Nat → Prop} {h : Heap} {G : Gh} {w : World} {pr pr' : List Nm} (Pr : Prot PB h G w pr) (hs : ∀ n ∈ pr, n ∈ pr') : Prot PB h G w pr' := fun b hb => by
  obtain ⟨h1, h2⟩ := Pr b hb
  rcases h2 with h2 | ⟨n, t, cs, h3, h4, h5⟩
  · exact ⟨h1, .inl h2⟩
  · exact ⟨h1, .inr ⟨n, t, cs, h3, h4, hs n h5⟩⟩
theorem Prot.or {PB PB' : Nat → Prop} {h : Heap} {G : Gh} {w : World} {pr : List Nm} (Pr : Prot PB h G w pr) (Pr' : Prot PB' h G w pr) : Prot (fun b => PB b ∨ PB' b) h G w pr := fun b hb => by
  rcases hb with hb | hb
  · exact Pr b hb
  · exact Pr' b hb
theorem wq119 {h : Heap} {G : Gh} {w : World} {p : PV} {A : Addr} {ns : List Nm} (he : earlyAt p = some ns) (hp : RV h G w p (.pointer (some A))) (hl : A.block < w.heap.size) : Prot (fun b => b = A.block) h G w ns := by
  intro b hb
  subst hb
  refine ⟨hl, ?_⟩
  unfold earlyAt at he
  split at he
  · next K xs i off =>
    obtain ⟨ad, e, _, hr⟩ := hp
    simp only [Value.pointer.injEq, Option.some.injEq] at e
    subst e
    rw [wqb0]
    exact .inl hr.1.1
  · next n off =>
    obtain ⟨e, t, cs, hn⟩ := hp
    simp only [Value.pointer.injEq, Option.some.injEq] at e
    subst e
    cases he
    exact .inr ⟨n, t, cs, hn, rfl, by simp⟩
  · cases he
theorem first_ok {cx : Ctx} (X : cx.Ok P) {ops : Array Oper} {o : Oper} {N : Act → World → Prop} (R : Rel w0 fr X0 n ds st G a w) (hs : stepWp P ops o a w N (fun _ _ _ => False)) (hf : wqc7 cx ops o st = true) :
    ∃ v, N (a.put o.dst v) w ∧ if isLoad o.op then ∃ S : World → Prop, S w ∧ (∀ w w', S w → Ext w w' → S w') ∧ YieldsIf P ops S o v a else Yields P ops o v a := by
  cases hw : Region.wanted o (yielded ops a.tmps) with
  | false =>
    have hN : N (a.put o.dst undef) w := by unfold stepWp at hs; rw [hw] at hs; exact hs
    refine ⟨undef, hN, ?_⟩
    split
    · exact ⟨fun _ => True, trivial, fun _ _ _ _ => trivial, .inr ⟨hw, rfl⟩⟩
    · exact .inr ⟨hw, rfl⟩
  | true =>
    have ht := wquo R hw
    have hu : ∀ x, RV st.h G w (useO (tagsOf ops o st) (st.get x)) (a.eval x) := fun x => R.use ht x
    unfold wqc7 at hf
    rw [Bool.or_eq_true] at hf
    rcases hf with hf | hf
    · rw [skip_ok R hf] at hw; cases hw
    · have hns : skipHere ops o st = false := by
        cases hs2 : skipHere ops o st with
        | false => rfl
        | true => rw [skip_ok R hs2] at hw; cases hw
      cases hl : isLoad o.op with
      | true =>
        rw [hl, cond_true] at hf
        obtain ⟨v, w', hr, hN⟩ := wqr2 (wqny (ty := cx.ty) hu (.inr hl)) hw hs
        have key : ∃ s x, o.op = .load s x := by unfold isLoad at hl; split at hl; exact ⟨_, _, by assumption⟩; cases hl
        obtain ⟨s, x, ho⟩ := key
        obtain ⟨ev, hev⟩ := Option.isSome_iff_exists.1 hf
        rw [ho] at hev
        unfold evalOp at hev
        simp only at hev
        split at hev
        · next ti hti =>
          obtain ⟨u, A, hA, hb, hall⟩ := wquk (P := P) X.ty hti R.obj hev (hu x)
          have hrun : ∀ w' : World, w'.heap[A.block]? = w.heap[A.block]? → (execOp a.eval o).run P w' = .ok (.value u) w' := by
            intro w' hw'
            simp only [execOp, ho, Sem.run_bind, hall w' hw']; rfl
          have h1 := hrun w rfl
          rw [hr] at h1
          cases h1
          refine ⟨v, hN, ?_⟩
          rw [if_pos rfl]
          refine ⟨fun w' => A.block < w'.heap.size ∧ w'.heap[A.block]? = w.heap[A.block]?, ⟨hb, rfl⟩, fun w1 w2 h1 h2 => ⟨Nat.lt_of_lt_of_le h1.1 h2.grow, (h2.blk _ h1.1).trans h1.2⟩, .inl ⟨hw, fun w' h => hrun w' h.2⟩⟩
        · cases hev
      | false =>
        rw [hl, cond_false] at hf
        obtain ⟨v, w', hr, hN⟩ := wqr2 (wqny hu (.inl hf)) hw hs
        have hc := wq121 X.ty R.obj hu hf
        have hsame := wqzc hc hr
        subst hsame
        refine ⟨v, hN, ?_⟩
        rw [if_neg (by simp)]
        exact .inl ⟨hw, fun w'' => hc _ _ _ hr w''⟩
theorem wq10b {cx : Ctx} (X : cx.Ok P) {ops : Array Oper} {o : Oper} (R : Rel w0 fr X0 n ds st G a w) (hl : isLoad o.op = true) (hf : wqc7 cx ops o st = true) {ns : List Nm} (hns : earlyOf ops o st = some ns) :
    ∃ PB, Prot PB st.h G w ns ∧ ∀ N : Act → World → Prop, stepWp P ops o a w N (fun _ _ _ => False) → ∃ v, N (a.put o.dst v) w ∧ ∃ S : World → Prop, S w ∧ (∀ w1 w2, S w1 → ExtP PB w1 w2 → S w2) ∧ YieldsIf P ops S o v a := by
  cases hw : Region.wanted o (yielded ops a.tmps) with
  | false =>
    refine ⟨fun _ => False, fun b hb => hb.elim, fun N hs => ?_⟩
    have hN : N (a.put o.dst undef) w := by unfold stepWp at hs; rw [hw] at hs; exact hs
    exact ⟨undef, hN, fun _ => True, trivial, fun _ _ _ _ => trivial, .inr ⟨hw, rfl⟩⟩
  | true =>
    have ht := wquo R hw
    have hu : ∀ x, RV st.h G w (useO (tagsOf ops o st) (st.get x)) (a.eval x) := fun x => R.use ht x
    have hsk : skipHere ops o st = false := by
      cases hs2 : skipHere ops o st with
      | false => rfl
      | true => rw [skip_ok R hs2] at hw; cases hw
    unfold wqc7 at hf
    rw [hsk, Bool.false_or, hl, cond_true] at hf
    have key : ∃ s x, o.op = .load s x := by unfold isLoad at hl; split at hl; exact ⟨_, _, by assumption⟩; cases hl
    obtain ⟨s, x, ho⟩ := key
    obtain ⟨ev, hev⟩ := Option.isSome_iff_exists.1 hf
    rw [ho] at hev
    unfold evalOp at hev
    simp only at hev
    split at hev
    · next ti hti =>
      obtain ⟨u, A, hA, hb, hall⟩ := wquk (P := P) X.ty hti R.obj hev (hu x)
      have hrun : ∀ w' : World, w'.heap[A.block]? = w.heap[A.block]? → (execOp a.eval o).run P w' = .ok (.value u) w' := by
        intro w' hw'
        simp only [execOp, ho, Sem.run_bind, hall w' hw']; rfl
      unfold earlyOf at hns
      rw [hsk, cond_false, ho] at hns
      simp only at hns
      have hux := hu x
      rw [hA] at hux
      refine ⟨fun b => b = A.block, wq119 hns hux hb, fun N hs => ?_⟩
      obtain ⟨v, w', hr, hN⟩ := wqr2 (wqny (ty := cx.ty) hu (.inr hl)) hw hs
      have h1 := hrun w rfl
      rw [hr] at h1
      cases h1
      exact ⟨_, hN, fun w' => A.block < w'.heap.size ∧ w'.heap[A.block]? = w.heap[A.block]?, ⟨hb, rfl⟩, fun w1 w2 h1 h2 => ⟨Nat.lt_of_lt_of_le h1.1 h2.grow, (h2.blk _ rfl h1.1).trans h1.2⟩, .inl ⟨hw, fun w' h => hrun w' h.2⟩⟩
    · cases hev
theorem wqr3 {ops : Array Oper} {i : Nat} {o : Oper} {N : Act → World → Prop} {Q : Exit → Act → World → Prop} (ho : ops[i]? = some o) (hs : stepWp P ops o a w N Q) : wpOp P ops Q i N a w := by
  unfold wpOp
  simp only [ho]
  unfold stepWp at hs
  split
  · next h => rw [if_pos h] at hs; exact .inl hs
  · next h => rw [if_neg h] at hs; exact hs
theorem wqzf {ops : Array Oper} {i : Nat} {o : Oper} {N : Act → World → Prop} {Q : Exit → Act → World → Prop} (ho : ops[i]? = some o) (hg : isGrow o.op = true) (hs : stepWp P ops o a w N Q) : wpOp P ops Q i (fun a' w' => Ext w w' ∧ N a' w') a w := by
  unfold wpOp
  simp only [ho]
  unfold stepWp at hs
  split
  · next h =>
    rw [if_pos h] at hs
    refine .inl ?_
    unfold Oper.wp at hs ⊢
    have hgr := wqyb (P := P) (ρ := a.eval) hg
    have hval : valued P (execOp a.eval o) := by
      unfold isGrow at hg
      split at hg
      · next ho' => simp only [execOp, ho']; exact valued_v _
      · next ho' => simp only [execOp, ho']; exact valued_v _
      · next ho' => simp only [execOp, ho']; exact valued_v _
      · cases hg
    cases hr : (execOp a.eval o).run P w with
    | ok nx w' =>
      obtain ⟨v, rfl⟩ := hval _ _ _ hr
      rw [hr] at hs
      exact ⟨hgr _ _ _ hr, hs⟩
    | halt x w' => rw [hr] at hs; cases x <;> exact hs
  · next h => rw [if_neg h] at hs; exact ⟨.refl w, hs⟩
theorem wq123 {R : Type} {a b : Option R} {r : R} (h : both a b = some r) : a = some r ∧ b = some r := by
  unfold both at h
  split at h
  · next he => exact ⟨h, he ▸ h⟩
  · cases h
theorem dupT_eq {R : Type} : ∀ (s : Shp) (x : Option R), dupT s x = x
  | .o, x => rfl
  | .b s t, x => by
    rw [dupT, dupT_eq s, dupT_eq t, both]
    exact if_pos rfl
theorem setb_ne (m i : Nat) : setb m i ≠ 0 := fun h => by
  have h1 : bit (setb m i) i = true := by rw [bit_set]; simp
  rw [h, bit_zero] at h1; cases h1
theorem wq124 {ops : Array Oper} {mask cov i : Nat} {listed : Array Bool} (htl : Tells ops.size mask listed) (hal : aloneC mask cov i 0 ops.toList = true) {j : Nat} (hj : j ∈ Region.ready .any ops listed) (hcv : bit cov j = false) : j = i := by
  refine Classical.byContradiction fun hne => ?_
  obtain ⟨h1, oj, hoj, hall⟩ := mem_ready.1 hj
  have hjl := (Array.getElem?_eq_some_iff.1 hoj).1
  rw [htl.getD hjl] at h1
  obtain ⟨e, he1, he2, he3⟩ := wqum hal j oj (by simpa using hoj) (by omega) (by rw [Nat.zero_add]; exact h1) (by rw [Nat.zero_add]; exact hcv)
  have h4 := hall e he1 he2
  by_cases hel : e.on < ops.size
  · rw [htl.getD hel, he3] at h4; cases h4
  · have : listed.getD e.on false = false := by
      rw [Array.getD_eq_getD_getElem?, Array.getElem?_eq_none (by rw [htl.1]; omega)]; rfl
    rw [this] at h4; cases h4
theorem planK_ok {cx : Ctx} (X : cx.Ok P) {R0 : Type} {K : Option PV → St → Option R0} {r : R0} {ops : Array Oper} {Q : Exit → Act → World → Prop} (hf : ∀ b, fr b → b < w0.heap.size) (hsel : noSel ops = true)
    (hdst : ∀ o ∈ ops, ∀ i, o.dst = some i → i < n)
    (hQ : ∀ st' G' a' w', K none st' = some r → Rel w0 fr X0 n ds st' G' a' w' → Q .normal a' w')
    (hp : ∀ p v st' G' a' w', K (some p) st' = some r → Rel w0 fr X0 n ds st' G' a' w' → RV st'.h G' w' p v → Q (.panic [{ v, recovered := false }]) a' w')
    (hk : ∀ d v c a w, (∀ i, d = some i → i ∉ cx.keep) → Q (.panic c) (a.put d v) w → Q (.panic c) a w) :
    ∀ (l : Plan) (fuel cov : Nat) (pr : List Nm) (PB : Nat → Prop) (mask : Nat) (listed : Array Bool) {st : St} {G : Gh} {a : Act} {w : World}, planOk cx.keep ops l fuel mask cov = true → Tells ops.size mask listed → ListedClosed .any ops listed → planK cx ops l pr st K = some r → Rel w0 fr X0 n ds st G a w → Prot PB st.h G w pr →
      (cov = 0 → wpAnyE P .any ops Q (dsOf ops) PB fuel listed a w) ∧ (cov ≠ 0 → ∃ m, fuel = m + 1 ∧ ∀ j ∈ Region.ready .any ops listed, bit cov j = false → wpOp P ops Q j (fun a' w' => (j ∉ dsOf ops → Ext w w') ∧ ExtP PB w w' ∧ wpAnyE P .any ops Q (dsOf ops) PB m (listed.setIfInBounds j true) a' w') a w)
  | .done, fuel, cov, pr, PB, mask, listed, st, G, a, w, hpl, htl, hcl, he, R, hPr => by
    rw [planK] at he
    rw [planOk] at hpl
    simp only [Bool.and_eq_true] at hpl
    obtain ⟨⟨hfu, hcv⟩, hall⟩ := hpl
    have hfu := beqN.1 hfu
    have hcv := beqN.1 hcv
    subst hfu
    refine ⟨fun _ => ⟨?_, hQ _ _ _ _ he R⟩, fun h => absurd hcv h⟩
    cases hr : Region.ready .any ops listed with
    | nil => rfl
    | cons j r =>
      exfalso
      have hj : j ∈ Region.ready .any ops listed := by rw [hr]; exact List.mem_cons_self
      obtain ⟨h1, o, ho, _⟩ := mem_ready.1 hj
      have hlt := (Array.getElem?_eq_some_iff.1 ho).1
      have := wqwu hall j o (by simpa using ho)
      rw [htl.getD hlt, Nat.zero_add] at *
      rw [this] at h1; cases h1
  | .op i f l, 0, cov, pr, PB, mask, listed, st, G, a, w, hpl, htl, hcl, he, R, hPr => by
    simp [planOk] at hpl
  | .alt i p q, 0, cov, pr, PB, mask, listed, st, G, a, w, hpl, htl, hcl, he, R, hPr => by
    simp [planOk] at hpl
  | .alt i p q, m + 1, cov, pr, PB, mask, listed, st, G, a, w, hpl, htl, hcl, he, R, hPr => by
    rw [planOk] at hpl
    rw [planK] at he
    split at hpl
    · cases hpl
    · next o ho =>
      have hom : o ∈ ops := Array.mem_of_getElem? ho
      have hlt := (Array.getElem?_eq_some_iff.1 ho).1
      simp only [ho] at he
      obtain ⟨he1, he2⟩ := wq123 he
      simp only [Bool.and_eq_true, Bool.not_eq_true', Bool.or_eq_true] at hpl
      obtain ⟨⟨⟨⟨hun, hed⟩, hwg⟩, hp1⟩, hp2⟩ := hpl
      have hready : i ∈ Region.ready .any ops listed := by
        refine mem_ready.2 ⟨by rw [htl.getD hlt]; exact hun, o, ho, fun e he hb => ?_⟩
        have hb2 := wqkh hed e (by simpa using he) hb
        rw [htl.getD (htl.2.2 _ hb2)]; exact hb2
      have hcl' := hcl.set hready
      have htl' := htl.set hlt
      have H : ∀ j ∈ Region.ready .any ops listed, bit cov j = false → wpOp P ops Q j (fun a' w' => (j ∉ dsOf ops → Ext w w') ∧ ExtP PB w w' ∧ wpAnyE P .any ops Q (dsOf ops) PB m (listed.setIfInBounds j true) a' w') a w := by
        intro j hj hcj
        by_cases hji : j = i
        · subst hji
          cases hdj : disj (touchOne cx ops o st) pr with
          | false => rw [hdj] at he1; cases he1
          | true =>
            rw [hdj, cond_true] at he1
            have hstep : stepWp P ops o a w (fun a' w' => ExtP PB w w' ∧ wpAnyE P .any ops Q (dsOf ops) PB m (listed.setIfInBounds j true) a' w') Q := by
              refine oneK_ok X R hf (hdst o hom) ?_ he1
              refine ⟨fun st' G' a' w' h1 h2 h3 => ?_, fun p v st' G' w' h1 h2 h3 => hp _ _ _ _ _ _ h1 h2 h3⟩
              obtain ⟨h4, h5⟩ := hPr.kept h3 hdj
              exact ⟨h5, (planK_ok X hf hsel hdst hQ hp hk p m 0 pr PB _ _ hp1 htl' hcl' h1 h2 h4).1 rfl⟩
            rcases hwg with hw | hg
            · exact wpOp_mono (fun a' w' h => ⟨fun hn => absurd ((mem_dsOf ho).2 hw) hn, h⟩) (wqr3 ho hstep)
            · exact wpOp_mono (fun a' w' h => ⟨fun _ => h.1, h.2⟩) (wqzf ho hg hstep)
        · obtain ⟨m', hm', H⟩ := (planK_ok X hf hsel hdst hQ hp hk q (m + 1) (setb cov i) pr PB _ _ hp2 htl hcl he2 R hPr).2 (setb_ne cov i)
          cases hm'
          exact H j hj (by rw [bit_set, hcj]; simpa using hji)
      refine ⟨fun hc => ⟨fun h0 => ?_, fun j hj => H j hj (by rw [hc, bit_zero])⟩, fun _ => ⟨m, rfl, H⟩⟩
      rw [h0] at hready; cases hready
  | .op i f l, m + 1, cov, pr, PB, mask, listed, st, G, a, w, hpl, htl, hcl, he, R, hPr => by
    rw [planOk] at hpl
    split at hpl
    · cases hpl
    · next o ho =>
      have hom : o ∈ ops := Array.mem_of_getElem? ho
      have hlt := (Array.getElem?_eq_some_iff.1 ho).1
      simp only [Bool.and_eq_true, Bool.not_eq_true'] at hpl
      obtain ⟨⟨⟨hun, hed⟩, hf1⟩, hrest⟩ := hpl
      have hready : i ∈ Region.ready .any ops listed := by
        refine mem_ready.2 ⟨by rw [htl.getD hlt]; exact hun, o, ho, fun e he hb => ?_⟩
        have hb2 := wqkh hed e (by simpa using he) hb
        rw [htl.getD (htl.2.2 _ hb2)]; exact hb2
      have hcl' := hcl.set hready
      have htl' := htl.set hlt
      have keepL : isKept cx.keep o = false → ∀ v c a w, Q (.panic c) (a.put o.dst v) w → Q (.panic c) a w := by
        intro hkept v c a w
        refine hk o.dst v c a w fun j hj hm => ?_
        unfold isKept at hkept
        rw [hj] at hkept
        simp only [isIn_mem.2 hm] at hkept
        cases hkept
      have freeL : freeC ops mask i o 0 ops.toList = true → ∀ j oj, ops[j]? = some oj → j ≠ i → listed.getD j true = false → (∀ e ∈ oj.after, Region.binds .any e = true → e.on ≠ i) → o.apart ops oj = true := by
        intro hfree j oj hj hne hl hno
        have hjl := (Array.getElem?_eq_some_iff.1 hj).1
        rw [htl.getD hjl] at hl
        exact wqws hfree j oj (by simpa using hj) (by omega) (by rw [Nat.zero_add]; exact hl) hno
      rw [planK] at he
      simp only [ho] at he
      split at hf1
      · -- alone
        simp only at he
        cases hdj : disj (touchOne cx ops o st) pr with
        | false => rw [hdj] at he; cases he
        | true =>
          rw [hdj, cond_true] at he
          simp only [Bool.and_eq_true, Bool.or_eq_true] at hf1
          have hstep : stepWp P ops o a w (fun a' w' => ExtP PB w w' ∧ wpAnyE P .any ops Q (dsOf ops) PB m (listed.setIfInBounds i true) a' w') Q := by
            refine oneK_ok X R hf (hdst o hom) ?_ he
            refine ⟨fun st' G' a' w' h1 h2 h3 => ?_, fun p v st' G' w' h1 h2 h3 => hp _ _ _ _ _ _ h1 h2 h3⟩
            obtain ⟨h4, h5⟩ := hPr.kept h3 hdj
            exact ⟨h5, (planK_ok X hf hsel hdst hQ hp hk l m 0 pr PB _ _ hrest htl' hcl' h1 h2 h4).1 rfl⟩
          have H : ∀ j ∈ Region.ready .any ops listed, bit cov j = false → wpOp P ops Q j (fun a' w' => (j ∉ dsOf ops → Ext w w') ∧ ExtP PB w w' ∧ wpAnyE P .any ops Q (dsOf ops) PB m (listed.setIfInBounds j true) a' w') a w := by
            intro j hj hcj
            have := wq124 htl hf1.1 hj hcj
            subst this
            rcases hf1.2 with hw | hg
            · exact wpOp_mono (fun a' w' h => ⟨fun hn => absurd ((mem_dsOf ho).2 hw) hn, h⟩) (wqr3 ho hstep)
            · exact wpOp_mono (fun a' w' h => ⟨fun _ => h.1, h.2⟩) (wqzf ho hg hstep)
          refine ⟨fun hc => ⟨fun h0 => ?_, fun j hj => H j hj (by rw [hc, bit_zero])⟩, fun _ => ⟨m, rfl, H⟩⟩
          rw [h0] at hready; cases hready
      · -- first
        simp only at he
        cases hfh : (wqc7 cx ops o st && disj (touchOne cx ops o st) pr) with
        | false => rw [hfh] at he; cases he
        | true =>
          rw [hfh, cond_true] at he
          simp only [Bool.and_eq_true] at hfh
          obtain ⟨hfh, hdj⟩ := hfh
          simp only [Bool.and_eq_true, Bool.not_eq_true'] at hf1
          obtain ⟨hcv, ⟨hkept, hfree⟩, hkind⟩ := hf1
          refine ⟨fun _ => ?_, fun h => absurd (beqN.1 hcv) h⟩
          have hstep : stepWp P ops o a w (wpAnyE P .any ops Q (dsOf ops) PB m (listed.setIfInBounds i true)) (fun _ _ _ => False) := by
            refine oneK_ok X R hf (hdst o hom) ?_ he
            exact ⟨fun st' G' a' w' h1 h2 h3 => (planK_ok X hf hsel hdst hQ hp hk l m 0 pr PB _ _ hrest htl' hcl' h1 h2 (hPr.kept h3 hdj).1).1 rfl, fun p v st' G' w' h1 _ _ => by cases h1⟩
          obtain ⟨v, hN, hy⟩ := first_ok X R hstep hfh
          cases hld : isLoad o.op with
          | false =>
            rw [hld] at hy
            exact wq118 ho (wqr1 hsel) (keepL hkept v) m listed a w (freeL hfree) hready hy hN
          | true =>
            rw [hld, if_pos rfl] at hy
            obtain ⟨S, hS, hSE, hy⟩ := hy
            have hlast : lastC mask (waitsM i 0 ops.toList 0) 0 ops.toList = true := by
              have : calmKind o.op = false := by
                unfold isLoad at hld
                split at hld
                · next ho' => rw [ho']; rfl
                · cases hld
              rw [this, hld] at hkind
              simpa using hkind
            refine wqqz hSE ho (wqr1 hsel) (keepL hkept v) ops.size m listed a w (freeL hfree) hcl (fun d hd hl => ?_) hready hy hS hN
            have hdl : d < ops.size := by
              unfold dsOf at hd
              exact List.mem_range.1 (List.mem_filter.1 hd).1
            obtain ⟨od, hod⟩ : ∃ od, ops[d]? = some od := ⟨_, Array.getElem?_eq_getElem hdl⟩
            rw [htl.getD hdl] at hl
            have := wqwt hlast d od (by simpa using hod) ((mem_dsOf hod).1 hd) (by rw [Nat.zero_add]; exact hl)
            rw [Nat.zero_add] at this
            obtain ⟨h1, h2⟩ := wqun (ops := ops) ops.toList 0 0 (by simp) (fun d hd => by rw [bit_zero] at hd; cases hd) d this
            exact wqr0 (by omega) h2
      · -- a load of what nothing writes
        next f hf0 hf2 =>
        have he : (match earlyOf ops o st with
          | none => none
          | some ns => bif wqc7 cx ops o st && disj (touchOne cx ops o st) (ns ++ pr) then oneK cx ops o st fun e st' => match e with
              | none => planK cx ops l (ns ++ pr) st' K
              | some _ => none
            else none) = some r := by
          split at he
          · exact absurd rfl hf0
          · exact absurd rfl hf2
          · exact he
        split at he
        · cases he
        · next ns hns =>
          cases hfh : (wqc7 cx ops o st && disj (touchOne cx ops o st) (ns ++ pr)) with
          | false => rw [hfh] at he; cases he
          | true =>
            rw [hfh, cond_true] at he
            simp only [Bool.and_eq_true] at hfh
            obtain ⟨hfh, hdj⟩ := hfh
            simp only [Bool.and_eq_true, Bool.not_eq_true'] at hf1
            obtain ⟨hcv, ⟨hkept, hfree⟩, hld⟩ := hf1
            refine ⟨fun _ => ?_, fun h => absurd (beqN.1 hcv) h⟩
            obtain ⟨PB1, hP1, hE⟩ := wq10b X R hld hfh hns
            have hP2 : Prot (fun b => PB b ∨ PB1 b) st.h G w (ns ++ pr) := (hPr.weaken fun n hn => List.mem_append_right _ hn).or (hP1.weaken fun n hn => List.mem_append_left _ hn)
            have hstep : stepWp P ops o a w (wpAnyE P .any ops Q (dsOf ops) (fun b => PB b ∨ PB1 b) m (listed.setIfInBounds i true)) (fun _ _ _ => False) := by
              refine oneK_ok X R hf (hdst o hom) ?_ he
              exact ⟨fun st' G' a' w' h1 h2 h3 => (planK_ok X hf hsel hdst hQ hp hk l m 0 _ _ _ _ hrest htl' hcl' h1 h2 (hP2.kept h3 hdj).1).1 rfl, fun p v st' G' w' h1 _ _ => by cases h1⟩
            obtain ⟨v, hN, S, hS, hSP, hy⟩ := hE _ hstep
            exact wqya (fun b hb => .inl hb) (fun w1 w2 h1 h2 => hSP w1 w2 h1 (h2.mono fun b hb => .inr hb)) ho (wqr1 hsel) (keepL hkept v) m listed a w (freeL hfree) hready hy hS hN
end
end Go.Proofs.YtpfbdepoammjmaaGreatDoor.Pvm

namespace Go.Proofs.YtpfbdepoammjmaaGreatDoor.Pvm
open Go
variable {P : Program}
section
variable {h : Heap} {G : Gh} {w : World}
theorem wqca : ∀ (l : List (Nm × LS)) (na : NA) {na' : NA}, normObjs h na l = some na' → Found h na → Found h na' ∧ na.le na'
  | [], na, na', he, F => by cases he; exact ⟨F, .refl na⟩
  | (n, s) :: r, na, na', he, F => by
    rw [normObjs] at he
    split at he
    · next q na1 h1 =>
      obtain ⟨F1, L1⟩ := wqch s _ na h1 F
      obtain ⟨F2, L2⟩ := wqca r na1 he F1
      exact ⟨F2, L1.trans L2⟩
    · cases he
theorem wqdw {t : Nat → PV} : ∀ (l : List (Nat × LS)) (na : NA) {ps : List (Nat × PV)} {na' : NA}, normSlots h t na l = some (ps, na') → Found h na → Found h na' ∧ na.le na'
  | [], na, ps, na', he, F => by cases he; exact ⟨F, .refl na⟩
  | (i, s) :: r, na, ps, na', he, F => by
    rw [normSlots] at he
    split at he
    · next q na1 h1 =>
      split at he
      · next qs na2 h2 =>
        cases he
        obtain ⟨F1, L1⟩ := wqch s _ na h1 F
        obtain ⟨F2, L2⟩ := wqdw r na1 h2 F1
        exact ⟨F2, L1.trans L2⟩
      · cases he
    · cases he
section
variable {nf : NA} (S : Sub h G w nf)
include S
theorem Sub.normObjs : ∀ (l : List (Nm × LS)) (na : NA) {na' : NA}, normObjs h na l = some na' → na'.le nf → Found h na →
    ∀ x ∈ na'.hp, x ∈ na.hp ∨ RO (mkH nf.hp) (subG G nf (subX h G nf)) w x.1 x.2
  | [], na, na', he, L, F => by cases he; exact fun x hx => .inl hx
  | (n, s) :: r, na, na', he, L, F => by
    rw [Pvm.normObjs] at he
    split at he
    · next q na1 h1 =>
      obtain ⟨F1, L1⟩ := wqch s _ na h1 F
      obtain ⟨F2, L2⟩ := wqca r na1 he F1
      have hr := Sub.normObjs r na1 he L F1
      have hs : ∀ x ∈ na1.hp, x ∈ na.hp ∨ RO (mkH nf.hp) (subG G nf (subX h G nf)) w x.1 x.2 := by
        by_cases hv : ∃ t cs, h n = some (.var t cs)
        · have hp : RV h G w (.ptr n 0) (.pointer (some ⟨G.bk n, 0, none⟩)) := ⟨rfl, hv⟩
          exact (Sub.norm S s _ na h1 (L2.trans L) F hp).2
        · have : na1 = na := by
            cases s with
            | obj nm cs =>
              simp only [normP] at h1
              split at h1
              · cases h1; rfl
              · split at h1
                · next t ps hn => exact absurd ⟨t, ps, hn⟩ hv
                · cases h1
            | any => simp [normP, pureP] at h1
            | sl K =>
              have e0 : Pvm.leaf h (.sl K) (.ptr n 0) = none := rfl
              simp [normP, e0] at h1
            | own nm e K => simp [normP] at h1
            | nps nm =>
              simp only [normP] at h1
              split at h1
              · simp at h1; exact h1.2.symm
              · cases h1
            | ag cs => simp [normP] at h1
            | clo cs => simp [normP] at h1
          rw [this]; exact fun x hx => .inl hx
      intro x hx
      rcases hr x hx with hx | hx
      · exact hs x hx
      · exact .inr hx
    · cases he
theorem Sub.normSlots {t : Nat → PV} {tm : Nat → Value} (ht : ∀ i, RT h G w tm (t i) (tm i)) : ∀ (l : List (Nat × LS)) (na : NA) {ps : List (Nat × PV)} {na' : NA}, normSlots h t na l = some (ps, na') → na'.le nf → Found h na →
    (∀ i p, (i, p) ∈ ps → RV (mkH nf.hp) (subG G nf (subX h G nf)) w p (tm i)) ∧ ∀ x ∈ na'.hp, x ∈ na.hp ∨ RO (mkH nf.hp) (subG G nf (subX h G nf)) w x.1 x.2
  | [], na, ps, na', he, L, F => by cases he; exact ⟨fun i p hp => (by cases hp), fun x hx => .inl hx⟩
  | (i, s) :: r, na, ps, na', he, L, F => by
    rw [Pvm.normSlots] at he
    split at he
    · next q na1 h1 =>
      split at he
      · next qs na2 h2 =>
        cases he
        obtain ⟨F1, L1⟩ := wqch s _ na h1 F
        obtain ⟨F2, L2⟩ := wqdw r na1 h2 F1
        have hv : RV h G w (t i) (tm i) := by
          have := ht i
          cases hti : t i with
          | opt g c p =>
            exfalso
            rw [hti] at h1
            have e0 : ∀ K, Pvm.leaf h (.sl K) (.opt g c p) = none := fun K => rfl
            cases s <;> simp [normP, pureP, e0] at h1
          | _ => rw [hti] at this; exact this
        obtain ⟨a1, a2⟩ := Sub.norm S s (t i) na h1 (L2.trans L) F hv
        obtain ⟨b1, b2⟩ := Sub.normSlots ht r na1 h2 L F1
        refine ⟨fun j p hp => ?_, fun x hx => ?_⟩
        · rcases List.mem_cons.1 hp with e | hp
          · cases e; exact a1
          · exact b1 j p hp
        · rcases b2 x hx with hx | hx
          · exact a2 x hx
          · exact .inr hx
      · cases he
    · cases he
end
end
section
variable {w0 : World} {fr : Nat → Prop} {X0 : Org} {n : Nat} {ds : List Deferred} {st : St} {G : Gh} {a : Act} {w : World}
theorem wqzg {nm : List (Nm × Option Nm)} : ∀ {l : List Nm}, stay nm l = true → ∀ n ∈ l, look nm n = some (some n)
  | [], _, n, hn => by cases hn
  | m :: r, h, n, hn => by
    simp only [stay, Bool.and_eq_true] at h
    rcases List.mem_cons.1 hn with rfl | hn
    · have h1 := h.1
      rw [wqh4] at h1
      split at h1
      · next m hm => rw [beqN.1 h1] at hm; exact hm
      · cases h1
    · exact wqzg h.2 n hn
theorem stay_org (R : Rel w0 fr X0 n ds st G a w) {na : NA} (S : Sub st.h G w na) {X : Nat → Prop} {pv : List Nm} (hst : stay na.nm pv = true) (hpv : ∀ x ∈ X0.vs, x.1 ∈ pv) :
    ∀ x ∈ X0.vs, (∃ cs, mkH na.hp x.1 = some (.var x.2.1 cs)) ∧ (subG G na X).bk x.1 = x.2.2 := by
  intro x hx
  obtain ⟨⟨cs, h1⟩, h2⟩ := R.org x hx
  have h3 := wqzg hst _ (hpv x hx)
  obtain ⟨o, ho⟩ := keys_mem (S.fi.k4 _ (mem_keys (look_mem h3)))
  have ho := mem_look S.fi.k3 ho
  refine ⟨?_, by simp only [subG, h3]; exact h2⟩
  rcases S.hhp _ _ ho _ h3 with ⟨t', cs1, cs2, rfl, hv⟩ | ⟨e, K, xs, rfl, hv⟩
  · rw [h1] at hv; cases hv; exact ⟨cs2, ho⟩
  · rw [h1] at hv; cases hv
theorem norm_ok (R : Rel w0 fr X0 n ds st G a w) (hf : ∀ b, fr b → b < w0.heap.size) {pv : List Nm} (hpv : ∀ x ∈ X0.vs, x.1 ∈ pv) {c : CutSpec} {s : St} (he : norm pv c st = some s) : ∃ G', Rel w0 fr X0 n ds s G' a w := by
  unfold norm at he
  split at he
  · next na1 h1 =>
    split at he
    · next l na h2 =>
      cases hfi : (fine na && stay na.nm pv) with
      | false => rw [hfi] at he; cases he
      | true =>
        rw [hfi] at he
        cases he
        simp only [Bool.and_eq_true] at hfi
        obtain ⟨hfi, hst⟩ := hfi
        have F0 : Found st.h ⟨[], [], []⟩ := ⟨fun k o hk => (by cases hk), fun m hm => (by cases hm)⟩
        obtain ⟨F1, L1⟩ := wqca _ _ h1 F0
        obtain ⟨F2, L2⟩ := wqdw _ _ h2 F1
        have S : Sub st.h G w na := ⟨wqqi hfi, F2, R.obj, R.toDis hf⟩
        have hO := Sub.normObjs S _ _ h1 L2 F0
        obtain ⟨hS, hO2⟩ := Sub.normSlots S R.tm _ _ h2 (.refl na) F1
        have hobj : ∀ k o, mkH na.hp k = some o → RO (mkH na.hp) (subG G na (subX st.h G na)) w k o := fun k o hk => by
          rcases hO2 (k, o) (look_mem hk) with h | h
          · rcases hO _ h with h | h
            · cases h
            · exact h
          · exact h
        let G1 := subG G na (subX st.h G na)
        let G2 : Gh := { G1 with X := G.X }
        have bk : ∀ k, blkOf (mkH na.hp) G2 k = blkOf (mkH na.hp) G1 k := fun k => rfl
        have ok : ∀ b, okB (mkH na.hp) G1 b → okB (mkH na.hp) G2 b := fun b hb => ⟨hb.1, fun hx => hb.2 (.inl hx)⟩
        have C : Carry (mkH na.hp) G1 w (mkH na.hp) G2 w .row :=
          ⟨fun b ho _ => ⟨ok b ho, rfl⟩, fun n t cs hn => ⟨⟨cs, hn⟩, rfl⟩, fun n e K xs hn => ⟨⟨rfl, e, K, xs, hn⟩, fun m hm => by cases hm; exact ⟨e, xs, hn, Nat.le_refl _⟩⟩⟩
        have rv : ∀ p v, RV (mkH na.hp) G1 w p v → RV (mkH na.hp) G2 w p v := fun p v hp => by
          have := RV.carry C p v hp
          rwa [PV.mapR_row] at this
        refine ⟨G2, fun i => ?_, R.size, fun k o hk => ?_, fun k m b h1 h2 => S.toDis.inj k m b h1 h2, fun k b hb => ?_, R.xfr, R.xeq, fun x hx => ?_, R.ext, R.grow, R.os, R.tape, R.out, R.defers⟩
        · show RT (mkH na.hp) G2 w _ (mkT l i) _
          unfold mkT
          cases hl : look l i with
          | none => exact RT_of_RV (show RV _ _ _ .un _ from trivial)
          | some p => exact RT_of_RV (rv _ _ (hS i p (look_mem hl)))
        · have := RO.carry C hk (hobj k o hk) (fun b _ => rfl) rfl rfl
          rwa [mapO_row] at this
        · obtain ⟨m, _, hm⟩ := S.blk k b hb
          exact R.apart m b hm
        · exact stay_org R S hst hpv x hx
    · cases he
  · cases he
def Post {R0 : Type} (w0 : World) (fr : Nat → Prop) (X0 : Org) (n : Nat) (ds : List Deferred) (ks : List Nat) (K : Ex → St → Option R0) (r : R0) : Exit → Act → World → Prop
  | .normal, a, w => ∃ st G, K .normal st = some r ∧ Rel w0 fr X0 n ds st G a w
  | .exit i, a, w => ∃ st G, K (.exit i) st = some r ∧ Rel w0 fr X0 n ds st G a w
  | .ret, a, w => ∃ st G, K .ret st = some r ∧ Rel w0 fr X0 n ds st G a w
  | .panic ch, a, w => ∃ st G a0 p v, ch = [{ v, recovered := false }] ∧ K (.panic p) st = some r ∧ Rel w0 fr X0 n ds st G a0 w ∧ RV st.h G w p v ∧ a.defers = a0.defers ∧ a.tmps.size = n ∧ ∀ i ∈ ks, tmOf a i = tmOf a0 i
  | _, _, _ => False
theorem Post.mono {R1 R2 : Type} {ks : List Nat} {K : Ex → St → Option R1} {r : R1} {K' : Ex → St → Option R2} {r' : R2} (h : ∀ e st, K e st = some r → K' e st = some r') : ∀ e a w, Post w0 fr X0 n ds ks K r e a w → Post w0 fr X0 n ds ks K' r' e a w
  | .normal, a, w, ⟨st, G, h1, h2⟩ => ⟨st, G, h _ _ h1, h2⟩
  | .exit i, a, w, ⟨st, G, h1, h2⟩ => ⟨st, G, h _ _ h1, h2⟩
  | .ret, a, w, ⟨st, G, h1, h2⟩ => ⟨st, G, h _ _ h1, h2⟩
  | .panic ch, a, w, ⟨st, G, a0, p, v, h1, h2, h3⟩ => ⟨st, G, a0, p, v, h1, h _ _ h2, h3⟩
theorem Post.put {R0 : Type} {ks : List Nat} {K : Ex → St → Option R0} {r : R0} {d : Option Nat} {v : Value} {c : List PanicEntry} {a : Act} {w : World} (hd : ∀ i, d = some i → i ∉ ks) (h : Post w0 fr X0 n ds ks K r (.panic c) (a.put d v) w) : Post w0 fr X0 n ds ks K r (.panic c) a w := by
  obtain ⟨st, G, a0, p, u, h1, h2, h3, h4, h5, h6, h7⟩ := h
  cases d with
  | none => exact ⟨st, G, a0, p, u, h1, h2, h3, h4, h5, h6, h7⟩
  | some d =>
    refine ⟨st, G, a0, p, u, h1, h2, h3, h4, h5, by simpa [Act.put] using h6, fun i hi => ?_⟩
    rw [← h7 i hi]
    have hne : i ≠ d := fun e => hd d rfl (e ▸ hi)
    unfold tmOf Act.put
    simp [Array.getElem?_setIfInBounds_ne (Ne.symm hne)]
def opsOk (n : Nat) : List Oper → Bool
  | [] => true
  | o :: r => (match o.dst with | some d => Nat.blt d n | none => true) && opsOk n r
def codeOk (n : Nat) : Code → Bool
  | .region _ ops _ => opsOk n ops.toList
  | .seq a b => codeOk n a && codeOk n b
  | .cond _ a b => codeOk n a && codeOk n b
  | .block _ a => codeOk n a
  | .loop a => codeOk n a
  | .scope a => codeOk n a
  | _ => true
theorem wqr4 : ∀ {l : List Oper}, opsOk n l = true → ∀ o ∈ l, ∀ i, o.dst = some i → i < n
  | [], _, o, ho => by cases ho
  | o' :: r, h, o, ho => by
    simp only [opsOk, Bool.and_eq_true] at h
    rcases List.mem_cons.1 ho with rfl | ho
    · intro i hi
      rw [hi] at h
      exact Nat.le_of_ble_eq_true h.1
    · exact wqr4 h.2 o ho
theorem regK_ok {cx : Ctx} (X : cx.Ok P) (hm : P.follows .mixedOrders = true) {R0 : Type} {K : Ex → St → Option R0} {r : R0} {id : Nat} {ops : Array Oper} {draw : Bool} (hf : ∀ b, fr b → b < w0.heap.size) (hd : opsOk n ops.toList = true)
    (R : Rel w0 fr X0 n ds st G a w) (he : regK cx id ops draw st K = some r) : (Code.region id ops draw).wp P (Post w0 fr X0 n ds cx.keep K r) a w := by
  have hp : ∀ p v st' G' a' w', K (exOf (some p)) st' = some r → Rel w0 fr X0 n ds st' G' a' w' → RV st'.h G' w' p v → Post w0 fr X0 n ds cx.keep K r (.panic [{ v, recovered := false }]) a' w' :=
    fun p v st' G' a' w' h1 h2 h3 => ⟨st', G', a', p, v, rfl, h1, h2, h3, rfl, h2.size, fun _ _ => rfl⟩
  have hQ : ∀ st' G' a' w', K (exOf none) st' = some r → Rel w0 fr X0 n ds st' G' a' w' → Post w0 fr X0 n ds cx.keep K r .normal a' w' := fun st' G' a' w' h1 h2 => ⟨st', G', h1, h2⟩
  unfold regK at he
  cases draw with
  | false =>
    exact wp_region_list (opsK_ok X hf hQ hp _ R (wqr4 hd) he)
  | true =>
    rw [cond_true] at he
    split at he
    · next l hl =>
      cases hs : (noSel ops && planOk cx.keep ops l ops.size 0 0) with
      | false => rw [hs] at he; cases he
      | true =>
        rw [hs, cond_true] at he
        simp only [Bool.and_eq_true] at hs
        have S : Still w { w with drawn := w.drawn + 1 } := ⟨fun _ _ => rfl, Nat.le_refl _, rfl, rfl, rfl⟩
        have R' := R.loud0 hf (Loud.still R.obj (R.toDis hf) S)
        have hcl : ListedClosed .any ops (Array.replicate ops.size false) := by
          intro j oj hj hl
          have hjl := (Array.getElem?_eq_some_iff.1 hj).1
          simp [Array.getD_eq_getD_getElem?, hjl] at hl
        have := (planK_ok X hf hs.1 (fun o ho => wqr4 hd o (by simpa using ho)) hQ hp (fun d v c a w h1 h2 => Post.put h1 h2) l ops.size 0 [] (fun _ => False) 0 _ hs.2 (Tells.start _) hcl he R' (fun b hb => hb.elim)).1 rfl
        exact wq10a hm this
    · cases he
theorem execK_ok {cx : Ctx} (X : cx.Ok P) (hpv : ∀ x ∈ X0.vs, x.1 ∈ cx.pv) (hm : P.follows .mixedOrders = true) (k : Nat) (hf : ∀ b, fr b → b < w0.heap.size) {R0 : Type} {r : R0} :
    ∀ (c : Code) {K : Ex → St → Option R0} {st : St} {G : Gh} {a : Act} {w : World}, codeOk n c = true → execK cx k c st K = some r → Rel w0 fr X0 n ds st G a w → c.wp P (Post w0 fr X0 n ds cx.keep K r) a w
  | .skip, K, st, G, a, w, _, he, R => wp_skip ⟨st, G, he, R⟩
  | .region id ops draw, K, st, G, a, w, hd, he, R => by
    rw [execK] at he
    unfold normK at he
    split at he
    · exact regK_ok X hm hf hd R he
    · split at he
      · next s hs =>
        obtain ⟨G', R'⟩ := norm_ok R hf hpv hs
        exact regK_ok X hm hf hd R' he
      · cases he
  | .seq x y, K, st, G, a, w, hd, he, R => by
    rw [execK] at he
    simp only [codeOk, Bool.and_eq_true] at hd
    refine wp_seq (wp_mono (execK_ok X hpv hm k hf x hd.1 he R) fun e a w h => ?_)
    cases e with
    | normal => obtain ⟨st, G, h1, h2⟩ := h; exact execK_ok X hpv hm k hf y hd.2 h1 h2
    | exit i => exact h
    | ret => exact h
    | panic c => exact h
    | goto l => exact h
    | outgrown => exact h
  | .cond c x y, K, st, G, a, w, hd, he, R => by
    unfold execK at he
    simp only [codeOk, Bool.and_eq_true] at hd
    split at he
    · next s =>
      have ht := R.tm s
      split at he
      · next b hb =>
        rw [hb] at ht
        have ht : tmOf a s = .bool b := by simpa [RT, RV, RD] using ht
        refine wp_cond (t := b) ht ?_
        cases b with
        | true => exact execK_ok X hpv hm k hf x hd.1 he (R.know hf ht)
        | false => exact execK_ok X hpv hm k hf y hd.2 he (R.know hf ht)
      · next b hb =>
        rw [hb] at ht
        have ht : tmOf a s = .bool b := ht
        refine wp_cond (t := b) ht ?_
        cases b with
        | true => exact execK_ok X hpv hm k hf x hd.1 he R
        | false => exact execK_ok X hpv hm k hf y hd.2 he R
      · cases he
    · cases he
  | .block id b, K, st, G, a, w, hd, he, R => by
    rw [execK] at he
    refine wp_block (wp_mono (execK_ok X hpv hm k hf b hd he R) fun e a w h => ?_)
    cases e with
    | exit i =>
      obtain ⟨st, G, h1, h2⟩ := h
      unfold blockK at h1
      simp only at h1
      show if i = id then _ else _
      cases hb : Nat.beq i id with
      | true =>
        rw [if_pos (beqN.1 hb)]
        rw [hb] at h1
        exact ⟨st, G, h1, h2⟩
      | false =>
        rw [if_neg (fun e => by rw [beqN.2 e] at hb; cases hb)]
        rw [hb] at h1
        exact ⟨st, G, h1, h2⟩
    | normal => exact h
    | ret => exact h
    | panic c => exact h
    | goto l => exact h
    | outgrown => exact h
  | .loop b, K, st, G, a, w, hd, he, R => by
    rw [execK] at he
    have key : ∀ (m : Nat) {st : St} {G : Gh} {a : Act} {w : World}, iter cx.pv (look cx.cuts (1000 + firstReg b)) (execK cx k b) m st K = some r → Rel w0 fr X0 n ds st G a w → Code.rounds P b (Post w0 fr X0 n ds cx.keep K r) m a w := by
      intro m
      induction m with
      | zero => intro st G a w he _; cases he
      | succ m ih =>
        intro st G a w he R
        rw [iter] at he
        rw [rounds_succ]
        refine wp_mono (execK_ok X hpv hm k hf b hd he R) fun e a w h => ?_
        cases e with
        | normal =>
          obtain ⟨st, G, h1, h2⟩ := h
          unfold stepK at h1
          simp only at h1
          unfold normK at h1
          split at h1
          · exact ih h1 h2
          · split at h1
            · next s hs =>
              obtain ⟨G', R'⟩ := norm_ok h2 hf hpv hs
              exact ih h1 R'
            · cases h1
        | exit i => exact h
        | ret => exact h
        | panic c => exact h
        | goto l => exact h
        | outgrown => exact h
    unfold normK at he
    split at he
    · exact wp_loop_rounds k (key k he R)
    · split at he
      · next s hs =>
        obtain ⟨G', R'⟩ := norm_ok R hf hpv hs
        exact wp_loop_rounds k (key k he R')
      · cases he
  | .exit id, K, st, G, a, w, _, he, R => wp_exit ⟨st, G, he, R⟩
  | .scope b, K, st, G, a, w, hd, he, R => by
    rw [execK] at he
    refine wp_scope_straight (wp_mono (execK_ok X hpv hm k hf b hd he R) fun e a w h => ?_)
    cases e <;> exact h
  | .label l, K, st, G, a, w, _, he, R => wp_label ⟨st, G, he, R⟩
  | .ret, K, st, G, a, w, _, he, R => wp_ret ⟨st, G, he, R⟩
  | .rangeFunc .., K, st, G, a, w, _, he, R => by simp [execK] at he
  | .goto l, K, st, G, a, w, _, he, R => by simp [execK] at he
  | .refuse s, K, st, G, a, w, _, he, R => by simp [execK] at he
end
end Go.Proofs.YtpfbdepoammjmaaGreatDoor.Pvm

namespace Go.Proofs.YtpfbdepoammjmaaGreatDoor.Pvm
open Go
structure RetSpec where
  res : List LS
  objs : List (Nm × LS)
  pan : List (Nm × LS)
def resP (ty : TypeId → Option TI) (st : St) : List ResultVar → Option (List PV)
  | [] => some []
  | .tmp t :: r => match resP ty st r with
    | some l => some (useO [] (st.t t) :: l)
    | none => none
  | .cell a t :: r => match ty t with
    | some ti => match evLoad ti st.h (useO [] (st.t a)) with
      | some ev => match resP ty st r with
        | some l => some (ev.val :: l)
        | none => none
      | none => none
    | none => none
def endK (cx : Ctx) {R : Type} (objs : List (Nm × LS)) (res : List LS) (ps : List PV) (st : St) (K : List PV → List (Nm × HObj) → Option R) : Option R :=
  match normObjs st.h ⟨[], [], []⟩ objs with
  | none => none
  | some na1 => match normPs st.h na1 res ps with
    | none => none
    | some (qs, na) => bif fine na && stay na.nm cx.pv then K qs na.hp else none
def retK (cx : Ctx) {R : Type} (sp : RetSpec) (rs : List ResultVar) (st : St) (K : Out → Option R) : Option R :=
  match resP cx.ty st rs with
  | none => none
  | some ps => endK cx sp.objs sp.res ps st fun qs hs => K (.ret qs hs)
def panK (cx : Ctx) {R : Type} (sp : RetSpec) (p : PV) (st : St) (K : Out → Option R) : Option R :=
  endK cx sp.pan [.any] [p] st fun qs hs => match qs with
    | [q] => K (.pan q hs)
    | _ => none
def varsIn (pv : List Nm) : List (Nm × HObj) → Bool
  | [] => true
  | (n, .var _ _) :: r => isIn n pv && varsIn pv r
  | _ :: r => varsIn pv r
def argsT (args : List PV) : Nat → PV := fun i => args.getD i .un
def outK (cx : Ctx) {R : Type} (sp : RetSpec) (rs : List ResultVar) (K : Out → Option R) : Ex → St → Option R := fun e st => match e with
  | .normal => retK cx sp rs st K
  | .ret => retK cx sp rs st K
  | .panic p => panK cx sp p st K
  | .exit _ => none
noncomputable def fnK (cx : Ctx) (k : Nat) {R : Type} (c : Code) (n : Nat) (rs : List ResultVar) (sp : RetSpec) (args : List PV) (hp : List (Nm × HObj)) (K : Out → Option R) : Option R :=
  bif varsIn cx.pv hp && Nat.ble args.length n then execK cx k c ⟨argsT args, mkH hp⟩ (outK cx sp rs K) else none
section
variable {P : Program} {w0 : World} {fr : Nat → Prop} {X0 : Org} {n : Nat} {ds : List Deferred} {st : St} {G : Gh} {a : Act} {w : World}
def resF (tmps : Array Value) : ResultVar → Sem Value
  | .tmp t => pure (tmps.getD t undef)
  | .cell x t => do loadVar t (← asAddr (tmps.getD x undef))
theorem wq11a (fn : Func) (tmps : Array Value) : results fn tmps = (fn.results.mapM (resF tmps) >>= fun vs => pure (if h : vs.size = 1 then vs[0] else .tuple vs)) := by
  unfold results
  have : (fun r : ResultVar => match r with
    | .tmp t => (pure (tmps.getD t undef) : Sem Value)
    | .cell a t => do loadVar t (← asAddr (tmps.getD a undef))) = resF tmps := by
    funext r; cases r <;> rfl
  rw [← this]
  rfl
theorem resP_ok {cx : Ctx} (X : cx.Ok P) (R : Rel w0 fr X0 n ds st G a w) : ∀ (rs : List ResultVar) {ps : List PV}, resP cx.ty st rs = some ps →
    ∃ vs : List Value, RVs st.h G w ps vs ∧ (rs.mapM (resF a.tmps)).run P w = .ok vs w
  | [], ps, he => by cases he; exact ⟨[], rfl, rfl⟩
  | .tmp t :: r, ps, he => by
    rw [resP] at he
    split at he
    · next l hl =>
      cases he
      obtain ⟨vs, h1, h2⟩ := resP_ok X R r hl
      refine ⟨tmOf a t :: vs, ⟨_, _, rfl, R.use noTags (.tmp t), h1⟩, ?_⟩
      rw [List.mapM_cons]
      simp only [Sem.run_bind, resF, Sem.run_pure, Result.andThen_ok]
      rw [h2]
      rfl
    · cases he
  | .cell x t :: r, ps, he => by
    rw [resP] at he
    split at he
    · next ti hti =>
      split at he
      · next ev hev =>
        split at he
        · next l hl =>
          cases he
          obtain ⟨vs, h1, h2⟩ := resP_ok X R r hl
          obtain ⟨u, e1, e2, _⟩ := wqv4 (P := P) X.ty hti R.obj hev (R.use noTags (.tmp x))
          refine ⟨u :: vs, ⟨_, _, rfl, e2, h1⟩, ?_⟩
          have hld : (resF a.tmps (.cell x t)).run P w = .ok u w := by
            have e3 : (Instr.loadAt t (a.tmps.getD x undef)).run P w = .ok u w := e1
            unfold Instr.loadAt Instr.sureAddr at e3
            show (do loadVar t (← asAddr (a.tmps.getD x undef))).run P w = _
            split at e3
            · next A hA =>
              rw [hA]
              exact e3
            · simp [stuck, Sem.run] at e3
          rw [List.mapM_cons, Sem.run_bind, hld, Result.andThen_ok, Sem.run_bind, h2]
          rfl
        · cases he
      · cases he
    · cases he
theorem wqnz {fn : Func} {rs : List ResultVar} (hrs : fn.results.toList = rs) {tmps : Array Value} {vs : List Value} (h : (rs.mapM (resF tmps)).run P w = .ok vs w) :
    (results fn tmps).run P w = .ok (if h : vs.toArray.size = 1 then vs.toArray[0] else .tuple vs.toArray) w := by
  rw [wq11a, Sem.run_bind, Array.mapM_eq_mapM_toList, Sem.run_map, hrs, h]
  rfl
theorem tup_ok {ps : List PV} {vs : List Value} {h : Heap} (hr : RVs h G w ps vs) : RV h G w (tupOf ps) (if h : vs.toArray.size = 1 then vs.toArray[0] else .tuple vs.toArray) := by
  cases ps with
  | nil => cases hr; exact ⟨[], rfl, rfl⟩
  | cons p r =>
    obtain ⟨v, l, rfl, hv, hl⟩ := hr
    cases r with
    | nil => cases hl; exact hv
    | cons q r =>
      obtain ⟨u, l', rfl, hu, hl'⟩ := hl
      have : ¬ ((v :: u :: l').toArray.size = 1) := by simp
      rw [dif_neg this]
      exact ⟨_, rfl, v, _, rfl, hv, u, _, rfl, hu, hl'⟩
def frOf (hp : List (Nm × HObj)) (G : Gh) (w : World) (b : Nat) : Prop := b < w.heap.size ∧ freeB (mkH hp) G b
def varsL (G : Gh) : List (Nm × HObj) → List (Nm × TypeId × Nat)
  | [] => []
  | (n, .var t _) :: r => (n, t, G.bk n) :: varsL G r
  | _ :: r => varsL G r
def orgOf (hp : List (Nm × HObj)) (G : Gh) : Org := ⟨G.X, (varsL G hp).filter fun x => match look hp x.1 with | some (.var t _) => Nat.beq t x.2.1 | _ => false⟩
theorem wqr5 : ∀ {hp : List (Nm × HObj)} {x}, x ∈ varsL G hp → x.2.2 = G.bk x.1
  | [], x, h => by cases h
  | (n, .var t cs) :: r, x, h => by
    rw [varsL] at h
    rcases List.mem_cons.1 h with rfl | h
    · rfl
    · exact wqr5 h
  | (n, .row e K xs) :: r, x, h => wqr5 (hp := r) (by simpa [varsL] using h)
theorem wqvd : ∀ {hp : List (Nm × HObj)} {n : Nm} {t : TypeId} {cs : List PV}, (n, .var t cs) ∈ hp → (n, t, G.bk n) ∈ varsL G hp
  | (m, .var t' cs') :: r, n, t, cs, h => by
    rw [varsL]
    rcases List.mem_cons.1 h with e | h
    · cases e; exact List.mem_cons_self
    · exact List.mem_cons_of_mem _ (wqvd h)
  | (m, .row e K xs) :: r, n, t, cs, h => by
    rcases List.mem_cons.1 h with e | h
    · cases e
    · show _ ∈ varsL G r
      exact wqvd h
  | [], n, t, cs, h => by cases h
theorem varsL_in {pv : List Nm} : ∀ {hp : List (Nm × HObj)}, varsIn pv hp = true → ∀ x ∈ varsL G hp, x.1 ∈ pv
  | [], _, x, hx => by cases hx
  | (n, .var t cs) :: r, h, x, hx => by
    simp only [varsIn, Bool.and_eq_true] at h
    rw [varsL] at hx
    rcases List.mem_cons.1 hx with rfl | hx
    · exact isIn_mem.1 h.1
    · exact varsL_in h.2 x hx
  | (n, .row e K xs) :: r, h, x, hx => varsL_in (hp := r) (by simpa [varsIn] using h) x (by simpa [varsL] using hx)
theorem argsT_ok {h : Heap} : ∀ {args : List PV} {vals : List Value}, RVs h G w args vals → ∀ i, RV h G w (argsT args i) ((vals.toArray ++ Array.replicate (n - vals.toArray.size) undef).getD i undef) := by
  intro args vals hr i
  have hl := hr.length
  unfold argsT
  by_cases hi : i < args.length
  · obtain ⟨v, hv, hp⟩ := hr.get i args[i] (by simp [hi])
    have h1 : args.getD i .un = args[i] := by simp [List.getD, hi]
    rw [h1]
    have h2 : (vals.toArray ++ Array.replicate (n - vals.toArray.size) undef).getD i undef = v := by
      rw [Array.getD_eq_getD_getElem?, Array.getElem?_append_left (by simp; omega)]
      simp [hv]
    rw [h2]; exact hp
  · have h1 : args.getD i .un = .un := by simp [List.getD, Nat.le_of_not_lt hi]
    rw [h1]; trivial
theorem Rel.start {hp : List (Nm × HObj)} {args : List PV} {vals : List Value} (hr : RVs (mkH hp) G w args vals) (obj : ∀ n o, mkH hp n = some o → RO (mkH hp) G w n o) (dis : Dis (mkH hp) G w) (hn : args.length ≤ n) :
    Rel w (frOf hp G w) (orgOf hp G) n [] ⟨argsT args, mkH hp⟩ G { tmps := vals.toArray ++ Array.replicate (n - vals.toArray.size) undef, defers := [] } w := by
  refine ⟨fun i => RT_of_RV (argsT_ok hr i), ?_, obj, dis.inj, fun m b hb hf => hf.2 m hb, fun b hb => ⟨dis.xlt b hb, fun m hm => dis.xo m b hm hb⟩, rfl, fun x hx => ?_, fun _ _ => rfl, Nat.le_refl _, rfl, rfl, rfl, rfl⟩
  · have := hr.length
    simp; omega
  · obtain ⟨h1, h2⟩ := List.mem_filter.1 hx
    refine ⟨?_, (wqr5 h1).symm⟩
    show ∃ cs, look hp x.1 = _
    split at h2
    · next t cs hl => rw [beqN.1 h2] at hl; exact ⟨cs, hl⟩
    · cases h2
theorem endK_ok {cx : Ctx} {hp : List (Nm × HObj)} {G0 : Gh} (R : Rel w0 (frOf hp G0 w0) (orgOf hp G0) n ds st G a w) (hv : varsIn cx.pv hp = true) {R0 : Type} {objs : List (Nm × LS)} {res : List LS} {ps : List PV} {K : List PV → List (Nm × HObj) → Option R0} {r : R0} {vs : List Value}
    (hr : RVs st.h G w ps vs) (he : endK cx objs res ps st K = some r) :
    ∃ qs hs G', K qs hs = some r ∧ RVs (mkH hs) G' w qs vs ∧ Fin hp hs G0 w0 G' w := by
  have hf : ∀ b, frOf hp G0 w0 b → b < w0.heap.size := fun b hb => hb.1
  unfold endK at he
  split at he
  · cases he
  · next na1 h1 =>
    split at he
    · cases he
    · next qs na h2 =>
      cases hfi : (fine na && stay na.nm cx.pv) with
      | false => rw [hfi] at he; cases he
      | true =>
        rw [hfi, cond_true] at he
        simp only [Bool.and_eq_true] at hfi
        obtain ⟨hfi, hst⟩ := hfi
        have F0 : Found st.h ⟨[], [], []⟩ := ⟨fun k o hk => (by cases hk), fun m hm => (by cases hm)⟩
        obtain ⟨F1, L1⟩ := wqca _ _ h1 F0
        obtain ⟨F2, L2⟩ := normPs_found _ _ _ h2 F1
        have S : Sub st.h G w na := ⟨wqqi hfi, F2, R.obj, R.toDis hf⟩
        have hO := Sub.normObjs S _ _ h1 L2 F0
        obtain ⟨hS, hO2⟩ := Sub.norms S _ _ _ h2 (.refl na) F1 hr
        have hobj : ∀ k o, mkH na.hp k = some o → RO (mkH na.hp) (subG G na (subX st.h G na)) w k o := fun k o hk => by
          rcases hO2 (k, o) (look_mem hk) with h | h
          · rcases hO _ h with h | h
            · cases h
            · exact h
          · exact h
        let G1 := subG G na (subX st.h G na)
        let G2 : Gh := { G1 with X := G.X }
        have ok : ∀ b, okB (mkH na.hp) G1 b → okB (mkH na.hp) G2 b := fun b hb => ⟨hb.1, fun hx => hb.2 (.inl hx)⟩
        have C : Carry (mkH na.hp) G1 w (mkH na.hp) G2 w .row :=
          ⟨fun b ho _ => ⟨ok b ho, rfl⟩, fun n t cs hn => ⟨⟨cs, hn⟩, rfl⟩, fun n e K xs hn => ⟨⟨rfl, e, K, xs, hn⟩, fun m hm => by cases hm; exact ⟨e, xs, hn, Nat.le_refl _⟩⟩⟩
        have hRVs : RVs (mkH na.hp) G2 w qs vs := by
          have := RVs.carry C _ _ hS
          have e : ∀ l : List PV, mapRs .row l = l := by
            intro l
            induction l with
            | nil => rfl
            | cons p r ih => rw [mapRs, ih, PV.mapR_row]
          rwa [e] at this
        have hpv : ∀ x ∈ (orgOf hp G0).vs, x.1 ∈ cx.pv := fun x hx => varsL_in hv x (List.mem_filter.1 hx).1
        refine ⟨qs, na.hp, G2, he, hRVs, ⟨fun k o hk => ?_, fun k m b h1 h2 => S.toDis.inj k m b h1 h2, fun m t cs hm o ho => ?_, fun b hb hfree => R.ext b ⟨hb, hfree⟩, R.xeq, fun k b hb => ?_, R.grow, R.os, R.tape, R.out⟩⟩
        · have := RO.carry C hk (hobj k o hk) (fun b _ => rfl) rfl rfl
          rwa [mapO_row] at this
        · have hmem : (m, t, G0.bk m) ∈ (orgOf hp G0).vs := List.mem_filter.2 ⟨wqvd (look_mem hm), by simp [hm]⟩
          obtain ⟨⟨cs', h1⟩, h2⟩ := stay_org (X := G.X) R S hst hpv _ hmem
          have h1 : look na.hp m = some (.var t cs') := h1
          rw [ho] at h1
          exact ⟨⟨cs', by simpa using h1⟩, h2⟩
        · obtain ⟨m, _, hm⟩ := S.blk k b hb
          have := R.apart m b hm
          by_cases hlt : b < w0.heap.size
          · refine .inl (Classical.byContradiction fun hno => this ⟨hlt, fun m hm => hno ⟨m, hm⟩⟩)
          · exact .inr (Nat.le_of_not_lt hlt)
theorem fn_ok {cx : Ctx} (X : cx.Ok P) (hm : P.follows .mixedOrders = true) {f : FuncId} {fn : Func} {c : Code} (hfn : P.funcs[f]? = some fn) (hb : fn.body = some c) (hname : (fn.name == "runtime.NumGoroutine") = false) {rs : List ResultVar} (hrs : fn.results.toList = rs) (hco : codeOk fn.ntmps c = true)
    {k : Nat} {R0 : Type} {sp : RetSpec} {args : List PV} {hp : List (Nm × HObj)} {K : Out → Option R0} {r : R0} (he : fnK cx k c fn.ntmps rs sp args hp K = some r) : DoesTo P f args hp fun out => K out = some r := by
  intro G w vals hr obj dis
  unfold fnK at he
  cases hc1 : (varsIn cx.pv hp && Nat.ble args.length fn.ntmps) with
  | false => rw [hc1] at he; cases he
  | true =>
    rw [hc1, cond_true] at he
    simp only [Bool.and_eq_true] at hc1
    have hrun : (callFunc f vals.toArray).run P w = .ok (.enter f vals.toArray) w := by
      have hn2 : ¬ fn.name = "runtime.NumGoroutine" := by simpa using hname
      simp [callFunc, program, Sem.run, hfn, hn2, hb]
    unfold Does
    rw [hrun]
    have R := Rel.start hr obj dis (Nat.le_of_ble_eq_true hc1.2)
    have hf : ∀ b, frOf hp G w b → b < w.heap.size := fun b hb => hb.1
    have hpv : ∀ x ∈ (orgOf hp G).vs, x.1 ∈ cx.pv := fun x hx => varsL_in hc1.1 x (List.mem_filter.1 hx).1
    have hret : ∀ {st : St} {G' : Gh} {a : Act} {w' : World}, retK cx sp rs st K = some r → Rel w (frOf hp G w) (orgOf hp G) fn.ntmps [] st G' a w' → ∃ v, (results fn a.tmps).run P w' = .ok v w' ∧ ∃ out, K out = some r ∧ ∃ G'', OutIs G'' w' (.returned v) out ∧ Fin hp out.hs G w G'' w' := by
      intro st G' a w' he R
      unfold retK at he
      split at he
      · cases he
      · next ps hps =>
        obtain ⟨vs, h1, h2⟩ := resP_ok X R rs hps
        obtain ⟨qs, hs, G'', h3, h4, h5⟩ := endK_ok R hc1.1 h1 he
        exact ⟨_, wqnz hrs h2, .ret qs hs, h3, G'', ⟨_, rfl, tup_ok h4⟩, h5⟩
    refine calls_of_wp hfn hb (wp_mono (execK_ok X hpv hm k hf c hco he R) fun e a w' h => ?_)
    cases e with
    | normal =>
      obtain ⟨st, G', h1, h2⟩ := h
      obtain ⟨v, h3, h4⟩ := hret h1 h2
      exact ⟨h2.defers, v, h3, h4⟩
    | ret =>
      obtain ⟨st, G', h1, h2⟩ := h
      obtain ⟨v, h3, h4⟩ := hret h1 h2
      exact ⟨h2.defers, v, h3, h4⟩
    | panic ch =>
      obtain ⟨st, G', a0, p, v, rfl, h1, h2, h3, h4, _⟩ := h
      refine ⟨h4.trans h2.defers, ?_⟩
      simp only [outK] at h1
      unfold panK at h1
      obtain ⟨qs, hs, G'', h5, h6, h7⟩ := endK_ok h2 hc1.1 (ps := [p]) (vs := [v]) ⟨v, [], rfl, h3, rfl⟩ h1
      split at h5
      · next q =>
        obtain ⟨u, l, hu, h8, h9⟩ := h6
        cases hu
        exact ⟨.pan q hs, h5, G'', ⟨v, rfl, h8⟩, h7⟩
      · cases h5
    | exit i => obtain ⟨st, G', h1, h2⟩ := h; cases h1
    | goto l => exact h
    | outgrown => exact h.elim
end
end Go.Proofs.YtpfbdepoammjmaaGreatDoor.Pvm

namespace Go.Proofs.YtpfbdepoammjmaaGreatDoor.Pvm
open Go
variable {P : Program}
def zcells : Kd → List Value
  | .int k => [.int k 0]
  | .bool => [.bool false]
  | .str => [.string ⟨#[]⟩]
  | .flt => [.float .f64 0]
  | .nil => []
  | .sl _ => [.slice none 0 0]
  | .pr a b => zcells a ++ zcells b
theorem wqve {w : World} {ok : Nat → Prop} : ∀ K : Kd, RD w ok K K.zero (zcells K)
  | .int _ => rfl
  | .bool => rfl
  | .str => rfl
  | .flt => rfl
  | .nil => rfl
  | .sl _ => ⟨none, 0, rfl, Nat.le_refl _, .inl rfl⟩
  | .pr a b => ⟨_, _, rfl, wqve a, wqve b⟩
def kdB (ti : TI) (z : List Value) : Prop :=
  match ti.kd with
  | none => True
  | some K => (decide (0 < K.sz) && decide (K.sz = ti.size)) = true ∧ z = zcells K
def fieldsB (P : Program) (fs : Array Field) : Bool := (fs.toList.mapM (fun f => (P.info? f.type).map fun i => (f.offset, i.size))).isSome
theorem TiOk.of {t : TypeId} {ti : TI} {z : Value} {d : TypeDesc} (hi : (P.info? t).map (fun i => (i.size, i.bytes, i.zero)) = some (ti.size, ti.bytes, some z)) (hz : z.cells.toList.map cv = ti.zero) (hs : z.cells.size = ti.size)
    (hk : kdB ti z.cells.toList) (hsh : match ti.k with | .struct => ∃ cs, z = .agg cs | .int k => z = .int k 0 | _ => z.cells = #[z])
    (hm : match ti.k with
      | .int k => d = .int k
      | .bool => d = .bool
      | .str => d = .string
      | .flt => d = .float .f64
      | .slice => d = .slice ti.el
      | .ptr => d = .pointer ti.el
      | .struct => ∃ fs, d = .struct fs ∧ fs.toList.map (fun f => (f.offset, f.type)) = ti.fs ∧ fieldsB P fs = true
      | .iface => ∃ ms, d = .interface ms
      | .other => (match d with | .struct _ | .array _ _ | .interface _ => False | _ => True))
    (hd : P.underlying t = some d) (he : ti.eqs = true → ti.k = .struct → eqPlain P t = true) : TiOk P t ti := by
  obtain ⟨i, h1, h2⟩ := Option.map_eq_some_iff.1 hi
  simp only [Prod.mk.injEq] at h2
  refine ⟨⟨i, z, h1, h2.1, h2.2.1, h2.2.2, hz, hs, fun K hK => ?_, hsh⟩, ⟨d, hd, ?_⟩, he⟩
  · unfold kdB at hk
    rw [hK] at hk
    simp only [Bool.and_eq_true, decide_eq_true_eq] at hk
    exact ⟨hk.1.1, hk.1.2, fun w ok => by rw [hk.2]; exact wqve K⟩
  · revert hm
    cases ti.k <;> simp only [] <;> intro hm <;> first
      | exact hm
      | (obtain ⟨fs, h1, h2, h3⟩ := hm
         unfold fieldsB at h3
         obtain ⟨pl, hpl⟩ := Option.isSome_iff_exists.1 h3
         exact ⟨fs, h1, h2, pl, hpl⟩)
theorem tyOk_of {l : List (Nat × TI)} (h : ∀ x ∈ l, TiOk P x.1 x.2) : TyOk P (look l) := fun t ti ht => h (t, ti) (look_mem ht)
theorem all_nil : ∀ x ∈ ([] : List (Nat × TI)), TiOk P x.1 x.2 := fun x hx => by cases hx
theorem all_cons {t : Nat} {ti : TI} {l : List (Nat × TI)} (h : TiOk P t ti) (hl : ∀ x ∈ l, TiOk P x.1 x.2) : ∀ x ∈ (t, ti) :: l, TiOk P x.1 x.2 := fun x hx => by
  rcases List.mem_cons.1 hx with rfl | hx
  · exact h
  · exact hl x hx
end Go.Proofs.YtpfbdepoammjmaaGreatDoor.Pvm

namespace Go.Proofs.YtpfbdepoammjmaaGreatDoor.Pvm
open Go
def at_ : List Nat → Code → Code
  | [], c => c
  | 0 :: p, .seq a _ => at_ p a
  | _ :: p, .seq _ b => at_ p b
  | 0 :: p, .cond _ a _ => at_ p a
  | _ :: p, .cond _ _ b => at_ p b
  | _ :: p, .block _ b => at_ p b
  | _ :: p, .scope b => at_ p b
  | _ :: p, .loop b => at_ p b
  | _, c => c
noncomputable def konts (cx : Ctx) (k : Nat) {R : Type} (I : Nat → St → Option R) : List Nat → Code → (Ex → St → Option R) → (Ex → St → Option R)
  | [], _, K => K
  | 0 :: p, .seq a b, K => konts cx k I p a (seqK (execK cx k b) K)
  | _ :: p, .seq _ b, K => konts cx k I p b K
  | 0 :: p, .cond _ a _, K => konts cx k I p a K
  | _ :: p, .cond _ _ b, K => konts cx k I p b K
  | _ :: p, .block id b, K => konts cx k I p b (blockK id K)
  | _ :: p, .scope b, K => konts cx k I p b K
  | _ :: p, .loop b, K => konts cx k I p b (stepK cx.pv (look cx.cuts (1000 + firstReg b)) (I (1000 + firstReg b)) K)
  | _, _, K => K
theorem DoesTo.mono {P : Program} {f : FuncId} {ps : List PV} {hp : List (Nm × HObj)} {O O' : Out → Prop} (h : DoesTo P f ps hp O) (ho : ∀ out, O out → O' out) : DoesTo P f ps hp O' :=
  fun G w vals h1 h2 h3 => (h G w vals h1 h2 h3).mono fun e w' ⟨out, h4, h5⟩ => ⟨out, ho out h4, h5⟩
end Go.Proofs.YtpfbdepoammjmaaGreatDoor.Pvm

namespace Go.Proofs.YtpfbdepoammjmaaGreatDoor.Pvm
open Go
def recMode (h : Heap) (G : Gh) (w : World) : PV → FrameMode → FrameMode → Prop
  | .nilif, u, u1 => u = .returning ∧ u1 = .returning
  | .ifc t p, u, u1 => ∃ v, RV h G w (.ifc t p) v ∧ u = .panicking [{ v, recovered := false }] ∧ u1 = .panicking [{ v, recovered := true }]
  | _, _, _ => False
def DoesToD (P : Program) (g : FuncId) (rec : PV) (caps : List PV) (hp : List (Nm × HObj)) (O : Out → Prop) : Prop :=
  ∀ (G : Gh) (w : World) (vals : List Value) (u u1 : FrameMode), RVs (mkH hp) G w caps vals → recMode (mkH hp) G w rec u u1 → (∀ n o, mkH hp n = some o → RO (mkH hp) G w n o) → Dis (mkH hp) G w →
    CallsD P g vals.toArray u w fun e u' w' => u' = u1 ∧ ∃ out, O out ∧ ∃ G', OutIs G' w' e out ∧ Fin hp out.hs G w G' w'
theorem DoesToD.mono {P : Program} {g : FuncId} {rec : PV} {caps : List PV} {hp : List (Nm × HObj)} {O O' : Out → Prop} (h : DoesToD P g rec caps hp O) (ho : ∀ out, O out → O' out) : DoesToD P g rec caps hp O' :=
  fun G w vals u u1 h1 h2 h3 h4 => (h G w vals u u1 h1 h2 h3 h4).mono fun e u' w' ⟨h5, out, h6, h7⟩ => ⟨h5, out, ho out h6, h7⟩
noncomputable def fnCK (cx : Ctx) (k : Nat) {R : Type} (c : Code) (n : Nat) (rs : List ResultVar) (sp : RetSpec) (caps : List PV) (s : Nat) (rec : PV) (hp : List (Nm × HObj)) (K : Out → Option R) : Option R :=
  bif varsIn cx.pv hp && Nat.ble caps.length n && Nat.blt s n then execK cx k c ⟨upd (argsT caps) s rec, mkH hp⟩ (outK cx sp rs K) else none
def opsAt : Code → Array Oper
  | .region _ ops _ => ops
  | _ => #[]
def recOps (ops : List Oper) : Option Nat :=
  match ops with
  | [o] => match o.guard, o.dst, o.op with
    | none, some s, .call { callee := .builtin .recover, args, .. } => bif Nat.beq args.size 0 then some s else none
    | _, _, _ => none
  | _ => none
theorem wq10c {ops : Array Oper} {s : Nat} (h : recOps ops.toList = some s) : ∃ o ats, ops = #[o] ∧ o.guard = none ∧ o.dst = some s ∧ o.op = .call { callee := .builtin .recover, args := #[], argTypes := ats } := by
  unfold recOps at h
  split at h
  · next o hl =>
    split at h
    · next e1 e2 e3 =>
      next args _ =>
      cases hb : Nat.beq args.size 0 with
      | false => rw [hb] at h; cases h
      | true =>
        rw [hb, cond_true] at h
        cases h
        have ha : args = #[] := Array.eq_empty_of_size_eq_zero (beqN.1 hb)
        subst ha
        exact ⟨o, _, by apply Array.ext'; simpa using hl, e1, e2, e3⟩
    · cases h
  · cases h
def deferOps (ops : List Oper) : Option (Nat × FuncId × List Operand) :=
  match ops with
  | [o1, o2] => match o1.guard, o2.guard, o1.dst, o2.dst with
    | none, none, some s, none => match o1.op, o2.op with
      | .makeFunc (.func g) first caps, .defer { callee := .value (.tmp s'), args, .. } => bif Nat.beq first.size 0 && Nat.beq s' s && Nat.beq args.size 0 then some (s, g, caps.toList) else none
      | _, _ => none
    | _, _, _, _ => none
  | _ => none
def capsAre (st : St) : List Operand → List (Nm × Nat) → Bool
  | [], [] => true
  | x :: xs, (n, off) :: r => (match useO [] (st.get x) with | .ptr m o => Nat.beq m n && Nat.beq o off | _ => false) && capsAre st xs r
  | _, _ => false
def capsIn (st : St) (pv : List Nm) : List (Nm × Nat) → Bool
  | [] => true
  | (n, _) :: r => isIn n pv && (match st.h n with | some (.var _ _) => true | _ => false) && capsIn st pv r
def capP : List (Nm × Nat) → List PV
  | [] => []
  | (n, off) :: r => .ptr n off :: capP r
def keepRes (ks : List Nat) : List ResultVar → Bool
  | [] => true
  | .tmp t :: r => isIn t ks && keepRes ks r
  | .cell a _ :: r => isIn a ks && keepRes ks r
def modeOk (pan : Bool) : PV → Bool
  | .nilif => !pan
  | .ifc _ _ => pan
  | _ => false
def callD (cx : Ctx) {R : Type} (runD : PV → List PV → List (Nm × HObj) → (Out → Option R) → Option R) (sigD : List LS) (caps : List (Nm × Nat)) (sp : RetSpec) (rs : List ResultVar) (K : Out → Option R) (pan : Bool) (rec : PV) (st : St) : Option R :=
  match normPs st.h ⟨[], [], []⟩ (.any :: sigD) (rec :: capP caps) with
  | some (q :: ps, na) => bif fine na && modeOk pan q then runD q ps na.hp fun o => match o with
      | .ret _ hs => match back st 9000 na hs (hasSlH hs) with
        | some st' => retK cx sp rs st' K
        | none => none
      | .pan _ _ => none
    else none
  | _ => none
def endD (cx : Ctx) {R : Type} (runD : PV → List PV → List (Nm × HObj) → (Out → Option R) → Option R) (sigD : List LS) (caps : List (Nm × Nat)) (sp : RetSpec) (rs : List ResultVar) (K : Out → Option R) : Ex → St → Option R := fun e st => match e with
  | .normal => callD cx runD sigD caps sp rs K false .nilif st
  | .ret => callD cx runD sigD caps sp rs K false .nilif st
  | .panic p => callD cx runD sigD caps sp rs K true p st
  | .exit _ => none
def dfrK {R : Type} (ex : Ctx → Code → St → (Ex → St → Option R) → Option R) (cx : Ctx) (pv2 : List Nm) (pre : Code) (ops : Array Oper) (rest : Code) (n : Nat) (rs : List ResultVar) (sp : RetSpec)
    (runD : PV → List PV → List (Nm × HObj) → (Out → Option R) → Option R) (sigD : List LS) (caps : List (Nm × Nat)) (args : List PV) (hp : List (Nm × HObj)) (K : Out → Option R) : Option R :=
  bif varsIn cx.pv hp && Nat.ble args.length n && subL cx.pv pv2 && keepRes cx.keep rs then
    ex cx pre ⟨argsT args, mkH hp⟩ fun e st => match e with
      | .normal => match deferOps ops.toList with
        | some (s, g, xs) => bif capsAre st xs caps && capsIn st pv2 caps && Nat.blt s n then
            ex { cx with pv := pv2 } rest ⟨upd st.t s (.clo g (capP caps)), st.h⟩ (endD cx runD sigD caps sp rs K)
          else none
        | none => none
      | _ => none
  else none
noncomputable def fnDK (cx : Ctx) (k : Nat) {R : Type} (pv2 : List Nm) (pre : Code) (ops : Array Oper) (rest : Code) (n : Nat) (rs : List ResultVar) (sp : RetSpec)
    (runD : PV → List PV → List (Nm × HObj) → (Out → Option R) → Option R) (sigD : List LS) (caps : List (Nm × Nat)) (args : List PV) (hp : List (Nm × HObj)) (K : Out → Option R) : Option R :=
  dfrK (fun cx c st K => execK cx k c st K) cx pv2 pre ops rest n rs sp runD sigD caps args hp K
section
variable {P : Program} {w0 : World} {fr : Nat → Prop} {X0 : Org} {n : Nat} {ds : List Deferred} {st : St} {G : Gh} {a : Act} {w : World}
theorem nblt {a b : Nat} (h : Nat.blt a b = true) : a < b := Nat.le_of_ble_eq_true h
theorem fnCK_ok {cx : Ctx} (X : cx.Ok P) (hm : P.follows .mixedOrders = true) {f : FuncId} {fn : Func} {id : Nat} {ops : Array Oper} {c : Code} (hfn : P.funcs[f]? = some fn) (hb : fn.body = some (.seq (.region id ops false) c))
    {s : Nat} (hops : recOps ops.toList = some s) {rs : List ResultVar} (hrs : fn.results.toList = rs) (hco : codeOk fn.ntmps c = true)
    {k : Nat} {R0 : Type} {sp : RetSpec} {caps : List PV} {rec : PV} {hp : List (Nm × HObj)} {K : Out → Option R0} {r : R0} (he : fnCK cx k c fn.ntmps rs sp caps s rec hp K = some r) : DoesToD P f rec caps hp fun out => K out = some r := by
  intro G w vals u u1 hr hmode obj dis
  obtain ⟨o, ats, hops, hg, hds, hop⟩ := wq10c hops
  unfold fnCK at he
  cases hc1 : (varsIn cx.pv hp && Nat.ble caps.length fn.ntmps && Nat.blt s fn.ntmps) with
  | false => rw [hc1] at he; cases he
  | true =>
    rw [hc1, cond_true] at he
    simp only [Bool.and_eq_true] at hc1
    obtain ⟨⟨hc0, hc2⟩, hc3⟩ := hc1
    have R := Rel.start hr obj dis (Nat.le_of_ble_eq_true hc2)
    have hf : ∀ b, frOf hp G w b → b < w.heap.size := fun b hb => hb.1
    have hpv : ∀ x ∈ (orgOf hp G).vs, x.1 ∈ cx.pv := fun x hx => varsL_in hc0 x (List.mem_filter.1 hx).1
    have hret : ∀ {st : St} {G' : Gh} {a : Act} {w' : World}, retK cx sp rs st K = some r → Rel w (frOf hp G w) (orgOf hp G) fn.ntmps [] st G' a w' → ∃ v, (results fn a.tmps).run P w' = .ok v w' ∧ ∃ out, K out = some r ∧ ∃ G'', OutIs G'' w' (.returned v) out ∧ Fin hp out.hs G w G'' w' := by
      intro st G' a w' he R
      unfold retK at he
      split at he
      · cases he
      · next ps hps =>
        obtain ⟨vs, h1, h2⟩ := resP_ok X R rs hps
        obtain ⟨qs, hs, G'', h3, h4, h5⟩ := endK_ok R hc0 h1 he
        exact ⟨_, wqnz hrs h2, .ret qs hs, h3, G'', ⟨_, rfl, tup_ok h4⟩, h5⟩
    refine callsD_of_wpS hfn hb fun c₀ cs hu => ?_
    refine wpS_seq (wpS_region ?_)
    subst hops
    have hwant : Region.wanted o (yielded #[o] (vals.toArray ++ Array.replicate (fn.ntmps - vals.toArray.size) undef)) = true := by simp [Region.wanted, hg]
    have hrun : ∀ ρ : Operand → Value, (execOp ρ o).run P w = .ok .recover w := by
      intro ρ
      simp [execOp, hop, resolve, invoke, builtin]
    have key : ∀ (v : Value) (cs' : List Frame), RV (mkH hp) G w rec v → cs' = { c₀ with mode := u1 } :: cs →
        Exit.thenS (c.wpS P (bodyPostS P fn c₀ cs fun e u' w' => u' = u1 ∧ ∃ out, K out = some r ∧ ∃ G', OutIs G' w' e out ∧ Fin hp out.hs G w G' w')) (bodyPostS P fn c₀ cs fun e u' w' => u' = u1 ∧ ∃ out, K out = some r ∧ ∃ G', OutIs G' w' e out ∧ Fin hp out.hs G w G' w') .normal
          (({ tmps := vals.toArray ++ Array.replicate (fn.ntmps - vals.toArray.size) undef, defers := [] } : Act).put o.dst v) cs' w := by
      rintro v cs' hv rfl
      show c.wpS _ _ _ _ _
      rw [hds]
      have R2 := R.putV hf (d := some s) (fun i hi => by cases hi; exact nblt hc3) hv
      refine wpS_of_wp (wp_mono (execK_ok X hpv hm k hf c hco he R2) fun e a w' h => ?_)
      cases e with
      | normal =>
        obtain ⟨st, G', h1, h2⟩ := h
        obtain ⟨v, h3, h4⟩ := hret h1 h2
        exact ⟨h2.defers, u1, rfl, v, h3, rfl, h4⟩
      | ret =>
        obtain ⟨st, G', h1, h2⟩ := h
        obtain ⟨v, h3, h4⟩ := hret h1 h2
        exact ⟨h2.defers, u1, rfl, v, h3, rfl, h4⟩
      | panic ch =>
        obtain ⟨st, G', a0, p, v, rfl, h1, h2, h3, h4, _⟩ := h
        refine ⟨h4.trans h2.defers, u1, rfl, rfl, ?_⟩
        simp only [outK] at h1
        unfold panK at h1
        obtain ⟨qs, hs, G'', h5, h6, h7⟩ := endK_ok h2 hc0 (ps := [p]) (vs := [v]) ⟨v, [], rfl, h3, rfl⟩ h1
        split at h5
        · next q =>
          obtain ⟨u, l, hu, h8, h9⟩ := h6
          cases hu
          exact ⟨.pan q hs, h5, G'', ⟨v, rfl, h8⟩, h7⟩
        · cases h5
      | exit i => obtain ⟨st, G', h1, h2⟩ := h; cases h1
      | goto l => exact h
      | outgrown => exact h.elim
    show wpOpsS P #[o] _ [0] _ _ _
    simp only [wpOpsS, List.getElem?_toArray, List.getElem?_cons_zero, hwant, if_true, hrun]
    cases rec with
    | nilif =>
      obtain ⟨rfl, rfl⟩ := hmode
      have hrec : recoverD (c₀ :: cs) = none := by simp [recoverD, hu]
      rw [hrec]
      refine key .nilIface (c₀ :: cs) rfl ?_
      cases c₀; simp_all
    | ifc t p =>
      obtain ⟨v, hv, rfl, rfl⟩ := hmode
      have hrec : recoverD (c₀ :: cs) = some (v, { c₀ with mode := .panicking [{ v, recovered := true }] } :: cs) := by simp [recoverD, hu]
      rw [hrec]
      exact key v _ hv rfl
    | _ => exact hmode.elim
theorem wqr6 {ks : List Nat} {a a0 : Act} (h : ∀ i ∈ ks, tmOf a i = tmOf a0 i) : ∀ {rs : List ResultVar}, keepRes ks rs = true → rs.mapM (resF a.tmps) = rs.mapM (resF a0.tmps)
  | [], _ => rfl
  | .tmp t :: r, hk => by
    simp only [keepRes, Bool.and_eq_true] at hk
    have e1 : a.tmps.getD t undef = a0.tmps.getD t undef := h t (isIn_mem.1 hk.1)
    rw [List.mapM_cons, List.mapM_cons, wqr6 h hk.2]
    simp only [resF, e1]
  | .cell x t :: r, hk => by
    simp only [keepRes, Bool.and_eq_true] at hk
    have e1 : a.tmps.getD x undef = a0.tmps.getD x undef := h x (isIn_mem.1 hk.1)
    rw [List.mapM_cons, List.mapM_cons, wqr6 h hk.2]
    simp only [resF, e1]
theorem wqwv (R : Rel w0 fr X0 n ds st G a w) : ∀ (xs : List Operand) (caps : List (Nm × Nat)), capsAre st xs caps = true → RVs st.h G w (capP caps) (xs.map a.eval)
  | [], [], _ => rfl
  | [], _ :: _, h => by cases h
  | x :: xs, [], h => by cases h
  | x :: xs, (m, off) :: r, h => by
    simp only [capsAre, Bool.and_eq_true] at h
    obtain ⟨h1, h2⟩ := h
    refine ⟨a.eval x, xs.map a.eval, rfl, ?_, wqwv R xs r h2⟩
    have := R.use noTags x
    split at h1
    · next m' o' hx =>
      rw [hx] at this
      simp only [Bool.and_eq_true] at h1
      rw [beqN.1 h1.1, beqN.1 h1.2] at this
      exact this
    · cases h1
theorem wqzh {pv : List Nm} : ∀ {caps : List (Nm × Nat)}, capsIn st pv caps = true → ∀ x ∈ caps, x.1 ∈ pv ∧ ∃ t cs, st.h x.1 = some (.var t cs)
  | [], _, x, hx => by cases hx
  | (m, off) :: r, h, x, hx => by
    simp only [capsIn, Bool.and_eq_true] at h
    obtain ⟨⟨h1, h2⟩, h3⟩ := h
    rcases List.mem_cons.1 hx with rfl | hx
    · refine ⟨isIn_mem.1 h1, ?_⟩
      split at h2
      · next t cs ht => exact ⟨t, cs, ht⟩
      · cases h2
    · exact wqzh h3 x hx
def typeIn (h : Heap) (n : Nm) : TypeId := match h n with | some (.var t _) => t | _ => 0
def capOrg (st : St) (G : Gh) : List (Nm × Nat) → List (Nm × TypeId × Nat)
  | [] => []
  | (n, _) :: r => (n, typeIn st.h n, G.bk n) :: capOrg st G r
theorem wqr7 {st : St} {G : Gh} : ∀ {caps : List (Nm × Nat)} {x}, x ∈ capOrg st G caps → ∃ y ∈ caps, x = (y.1, typeIn st.h y.1, G.bk y.1)
  | [], x, h => by cases h
  | (n, off) :: r, x, h => by
    rw [capOrg] at h
    rcases List.mem_cons.1 h with rfl | h
    · exact ⟨_, List.mem_cons_self, rfl⟩
    · obtain ⟨y, hy, e⟩ := wqr7 h
      exact ⟨y, List.mem_cons_of_mem _ hy, e⟩
theorem wqzi {st : St} {G : Gh} : ∀ {caps : List (Nm × Nat)} {y}, y ∈ caps → (y.1, typeIn st.h y.1, G.bk y.1) ∈ capOrg st G caps
  | (n, off) :: r, y, h => by
    rw [capOrg]
    rcases List.mem_cons.1 h with rfl | h
    · exact List.mem_cons_self
    · exact List.mem_cons_of_mem _ (wqzi h)
theorem wqww {st0 : St} {G0 : Gh} {w0' : World} : ∀ {caps : List (Nm × Nat)} {vals : List Value}, RVs st0.h G0 w0' (capP caps) vals → (∀ y ∈ caps, (∃ t cs, st.h y.1 = some (.var t cs)) ∧ G.bk y.1 = G0.bk y.1) → RVs st.h G w (capP caps) vals
  | [], vals, hr, _ => hr
  | (m, off) :: r, vals, ⟨v, l, e, hv, hl⟩, h => by
    obtain ⟨rfl, _⟩ := hv
    obtain ⟨⟨t, cs, h1⟩, h2⟩ := h (m, off) List.mem_cons_self
    exact ⟨_, l, e, ⟨by rw [h2], t, cs, h1⟩, wqww hl fun y hy => h y (List.mem_cons_of_mem _ hy)⟩
theorem subL_in {l r : List Nat} (h : subL l r = true) : ∀ x ∈ l, x ∈ r := by
  induction l with
  | nil => intro x hx; cases hx
  | cons n l ih =>
    simp only [subL, Bool.and_eq_true] at h
    intro x hx
    rcases List.mem_cons.1 hx with rfl | hx
    · exact isIn_mem.1 h.1
    · exact ih h.2 x hx
def Invokes (P : Program) (g : FuncId) : Prop := ∀ (cap : Array Value) (w : World), (invoke (.fn (.func g) cap) #[]).run P w = .ok (.enter g cap) w
theorem Invokes.of {f : FuncId} {fn : Func} {c : Code} (hfn : P.funcs[f]? = some fn) (hb : fn.body = some c) (hname : (fn.name == "runtime.NumGoroutine") = false) : Invokes P f := by
  intro cap w
  have hn2 : ¬ fn.name = "runtime.NumGoroutine" := by simpa using hname
  simp [invoke, callFunc, program, Sem.run, hfn, hn2, hb]
theorem fnDK_ok {cx : Ctx} (X : cx.Ok P) (hm : P.follows .mixedOrders = true) {f : FuncId} {fn : Func} {pre rest : Code} {id : Nat} {ops : Array Oper} (hfn : P.funcs[f]? = some fn) (hb : fn.body = some (.seq pre (.seq (.region id ops false) rest)))
    (hname : (fn.name == "runtime.NumGoroutine") = false) {rs : List ResultVar} (hrs : fn.results.toList = rs) (hco : codeOk fn.ntmps pre = true) (hco2 : codeOk fn.ntmps rest = true)
    {g : FuncId} {s : Nat} {xs : List Operand} (hops : deferOps ops.toList = some (s, g, xs))
    {k : Nat} {R0 : Type} {sp : RetSpec} {pv2 : List Nm} {runD : PV → List PV → List (Nm × HObj) → (Out → Option R0) → Option R0} {sigD : List LS} {caps : List (Nm × Nat)}
    (hinv : Invokes P g) (hrunD : ∀ rec ps hp (K : Out → Option R0) (r : R0), runD rec ps hp K = some r → DoesToD P g rec ps hp fun out => K out = some r)
    {args : List PV} {hp : List (Nm × HObj)} {K : Out → Option R0} {r : R0} (he : fnDK cx k pv2 pre ops rest fn.ntmps rs sp runD sigD caps args hp K = some r) : DoesTo P f args hp fun out => K out = some r := by
  intro G w vals hr obj dis
  unfold fnDK dfrK at he
  cases hc1 : (varsIn cx.pv hp && Nat.ble args.length fn.ntmps && subL cx.pv pv2 && keepRes cx.keep rs) with
  | false => rw [hc1] at he; cases he
  | true =>
    rw [hc1, cond_true] at he
    simp only [Bool.and_eq_true] at hc1
    obtain ⟨⟨⟨hc0, hc2⟩, hsub⟩, hkeep⟩ := hc1
    have hrun : (callFunc f vals.toArray).run P w = .ok (.enter f vals.toArray) w := by
      have hn2 : ¬ fn.name = "runtime.NumGoroutine" := by simpa using hname
      simp [callFunc, program, Sem.run, hfn, hn2, hb]
    unfold Does
    rw [hrun]
    have R := Rel.start hr obj dis (Nat.le_of_ble_eq_true hc2)
    have hf : ∀ b, frOf hp G w b → b < w.heap.size := fun b hb => hb.1
    have hpv : ∀ x ∈ (orgOf hp G).vs, x.1 ∈ cx.pv := fun x hx => varsL_in hc0 x (List.mem_filter.1 hx).1
    refine calls_of_wp_defers hfn hb (wp_seq (wp_mono (execK_ok X hpv hm k hf pre hco he R) fun e a1 w1 h => ?_))
    cases e with
    | exit i => obtain ⟨st, G', h1, h2⟩ := h; cases h1
    | ret => obtain ⟨st, G', h1, h2⟩ := h; cases h1
    | panic ch => obtain ⟨st, G', a0, p, v, rfl, h1, h2⟩ := h; cases h1
    | goto l => exact h.elim
    | outgrown => exact h.elim
    | normal =>
      obtain ⟨st1, G1, h1, R1⟩ := h
      simp only [hops] at h1
      cases hc3 : (capsAre st1 xs caps && capsIn st1 pv2 caps && Nat.blt s fn.ntmps) with
      | false => rw [hc3] at h1; cases h1
      | true =>
        rw [hc3, cond_true] at h1
        simp only [Bool.and_eq_true] at hc3
        obtain ⟨⟨hca, hci⟩, hs⟩ := hc3
        have hcaps := wqwv R1 xs caps hca
        have hcin := wqzh hci
        have hsh : ∃ o1 o2 first cps args ats s', ops.toList = [o1, o2] ∧ o1.guard = none ∧ o2.guard = none ∧ o1.dst = some s ∧ o2.dst = none ∧ o1.op = .makeFunc (.func g) first cps ∧ o2.op = .defer { callee := .value (.tmp s'), args := args, argTypes := ats } ∧ first = #[] ∧ s' = s ∧ args = #[] ∧ cps.toList = xs := by
          unfold deferOps at hops
          split at hops
          · next o1 o2 hl =>
            split at hops
            · next e1 e2 e3 e4 =>
              split at hops
              · next g' first cps s1 args ats e5 e6 =>
                cases hbb : (Nat.beq first.size 0 && Nat.beq s1 _ && Nat.beq args.size 0) with
                | false => rw [hbb] at hops; cases hops
                | true =>
                  rw [hbb, cond_true] at hops
                  cases hops
                  simp only [Bool.and_eq_true] at hbb
                  exact ⟨o1, o2, first, cps, args, _, s1, hl, e1, e2, e3, e4, e5, e6, Array.eq_empty_of_size_eq_zero (beqN.1 hbb.1.1), beqN.1 hbb.1.2, Array.eq_empty_of_size_eq_zero (beqN.1 hbb.2), rfl⟩
              · cases hops
            · cases hops
          · cases hops
        obtain ⟨o1, o2, first, cps, args', ats, s', hl, g1, g2, d1, d2, p1, p2, rfl, rfl, rfl, hx⟩ := hsh
        have hs := nblt hs
        have hsz := R1.size
        let F : Value := .func (.func g) #[] (cps.map a1.eval)
        let d : Deferred := { target := .fn (.func g) (cps.map a1.eval), args := #[] }
        let a2 : Act := { (a1.put (some s') F) with defers := d :: a1.defers }
        have hcapsA : RVs st1.h G1 w1 (capP caps) (cps.map a1.eval).toList := by rw [Array.toList_map, hx]; exact hcaps
        let X0' : Org := ⟨(orgOf hp G).X, capOrg st1 G1 caps ++ (orgOf hp G).vs⟩
        have R2 : Rel w (frOf hp G w) X0' fn.ntmps [d] ⟨upd st1.t s' (.clo g (capP caps)), st1.h⟩ G1 a2 w1 := by
          have := R1.putV hf (d := some s') (fun i hi => by cases hi; exact hs) (p := .clo g (capP caps)) (v := F) ⟨(cps.map a1.eval).toList, by simp only [F, Array.toArray_toList], hcapsA⟩
          refine ⟨this.tm, this.size, this.obj, this.dis, this.apart, this.xfr, this.xeq, fun x hx => ?_, this.ext, this.grow, this.os, this.tape, this.out, by simp [a2, R1.defers]⟩
          rcases List.mem_append.1 hx with hx | hx
          · obtain ⟨y, hy, rfl⟩ := wqr7 hx
            obtain ⟨_, t, cs, ht⟩ := hcin y hy
            exact ⟨⟨cs, by simp only [typeIn]; rw [show st1.h y.1 = _ from ht]⟩, rfl⟩
          · exact this.org x hx
        have hpv2 : ∀ x ∈ X0'.vs, x.1 ∈ pv2 := by
          intro x hx
          rcases List.mem_append.1 hx with hx | hx
          · obtain ⟨y, hy, rfl⟩ := wqr7 hx
            exact (hcin y hy).1
          · exact subL_in hsub _ (hpv x hx)
        have X2 : Ctx.Ok P { cx with pv := pv2 } := ⟨X.ty, X.C, X.sh⟩
        have fin : ∀ {pan : Bool} {rec : PV} {v : Value} {st : St} {G' : Gh} {a b : Act} {w' : World}, rs.mapM (resF b.tmps) = rs.mapM (resF a.tmps) → b.defers = a.defers → callD cx runD sigD caps sp rs K pan rec st = some r → Rel w (frOf hp G w) X0' fn.ntmps [d] st G' a w' → RV st.h G' w' rec v →
            Leaves P fn b.tmps (fun e w' => ∃ out, K out = some r ∧ ∃ G', OutIs G' w' e out ∧ Fin hp out.hs G w G' w') b.defers (bif pan then .panicking [{ v, recovered := false }] else .returning) w' := by
          intro pan rec v st G' a b w' hbm hbd he R3 hv
          rw [hbd, R3.defers]
          refine leaves_cons (f := g) (args := cps.map a1.eval) (by cases pan <;> simp) (hinv _ _) ?_
          unfold callD at he
          split at he
          · next q ps na hn =>
            cases hfi : (fine na && modeOk pan q) with
            | false => rw [hfi] at he; cases he
            | true =>
              rw [hfi, cond_true] at he
              simp only [Bool.and_eq_true] at hfi
              obtain ⟨hfi, hmo⟩ := hfi
              have hc := hrunD _ _ _ _ _ he
              have F0 : Found st.h ⟨[], [], []⟩ := ⟨fun k o hk => (by cases hk), fun m hm => (by cases hm)⟩
              obtain ⟨F1, L1⟩ := normPs_found _ _ _ hn F0
              have S : Sub st.h G' w' na := ⟨wqqi hfi, F1, R3.obj, R3.toDis hf⟩
              have hcl : RVs st.h G' w' (capP caps) (cps.map a1.eval).toList := by
                refine wqww hcapsA fun y hy => ?_
                obtain ⟨⟨cs, h1⟩, h2⟩ := R3.org (y.1, typeIn st1.h y.1, G1.bk y.1) (List.mem_append_left _ (wqzi hy))
                exact ⟨⟨_, cs, h1⟩, h2⟩
              obtain ⟨h1, h2⟩ := Sub.norms S _ _ _ hn (.refl na) F0 (vs := v :: (cps.map a1.eval).toList) ⟨v, _, rfl, hv, hcl⟩
              obtain ⟨v', l', hvl, hq, hps⟩ := h1
              simp only [List.cons.injEq] at hvl
              obtain ⟨rfl, rfl⟩ := hvl
              have hobj : ∀ k o, mkH na.hp k = some o → RO (mkH na.hp) (subG G' na (subX st.h G' na)) w' k o := fun k o hk => by
                rcases h2 (k, o) (look_mem hk) with h | h
                · cases h
                · exact h
              have hrec : recMode (mkH na.hp) (subG G' na (subX st.h G' na)) w' q (bif pan then .panicking [{ v, recovered := false }] else .returning) (bif pan then .panicking [{ v, recovered := true }] else .returning) := by
                cases q with
                | nilif => cases pan with
                  | false => exact ⟨rfl, rfl⟩
                  | true => cases hmo
                | ifc t p => cases pan with
                  | false => cases hmo
                  | true => exact ⟨v, hq, rfl, rfl⟩
                | _ => cases hmo
              have hcd := hc _ w' _ _ _ hps hrec hobj S.toDis
              rw [Array.toArray_toList] at hcd
              refine hcd.mono fun e u' w'' hh => ?_
              obtain ⟨rfl, out, ho, G3, hout, Fi⟩ := hh
              cases out with
              | pan p hs => cases ho
              | ret rs' hs' =>
                obtain ⟨v3, rfl, hv3⟩ := hout
                simp only at ho
                split at ho
                · next st' hbk =>
                  obtain ⟨G4, L, ht, hren⟩ := back_ok S hbk Fi (fun h => h)
                  have R4 := R3.loud0 hf L
                  rw [← ht] at R4
                  have R5 : Rel w (frOf hp G w) (orgOf hp G) fn.ntmps [d] st' G4 a w'' :=
                    ⟨R4.tm, R4.size, R4.obj, R4.dis, R4.apart, R4.xfr, R4.xeq, fun x hx => R4.org x (List.mem_append_right _ hx), R4.ext, R4.grow, R4.os, R4.tape, R4.out, R4.defers⟩
                  have hset : settle (bif pan then .panicking [{ v, recovered := true }] else .returning) = .returning := by cases pan <;> rfl
                  show Leaves P fn b.tmps _ [] (settle _) w''
                  rw [hset]
                  unfold retK at ho
                  split at ho
                  · cases ho
                  · next ps2 hps2 =>
                    obtain ⟨vs, h1, h2⟩ := resP_ok X R5 rs hps2
                    obtain ⟨qs, hs2, G'', h3, h4, h5⟩ := endK_ok R5 hc0 h1 ho
                    exact ⟨_, wqnz hrs (by rw [hbm]; exact h2), .ret qs hs2, h3, G'', ⟨_, rfl, tup_ok h4⟩, h5⟩
                · cases ho
          · cases he
        have hrest : rest.wp P (bodyPostD P fn fun e w' => ∃ out, K out = some r ∧ ∃ G', OutIs G' w' e out ∧ Fin hp out.hs G w G' w') a2 w1 := by
          refine wp_mono (execK_ok X2 hpv2 hm k hf rest hco2 h1 R2) fun e a w' h => ?_
          cases e with
          | normal =>
            obtain ⟨st, G', h1, h2⟩ := h
            exact fin (pan := false) rfl rfl h1 h2 (v := .nilIface) rfl
          | ret =>
            obtain ⟨st, G', h1, h2⟩ := h
            exact fin (pan := false) rfl rfl h1 h2 (v := .nilIface) rfl
          | panic ch =>
            obtain ⟨st, G', a0, p, v, rfl, h1, h2, h3, h4, h5, h6⟩ := h
            exact fin (pan := true) (wqr6 h6 hkeep) h4 h1 h2 h3
          | exit i => obtain ⟨st, G', h1, h2⟩ := h; cases h1
          | goto l => exact h
          | outgrown => exact h.elim
        refine wp_seq (wp_region_list ?_)
        rw [hl]
        have w1' : Region.wanted o1 (yielded ops a1.tmps) = true := by simp [Region.wanted, g1]
        have w2' : ∀ t, Region.wanted o2 (yielded ops t) = true := fun t => by simp [Region.wanted, g2]
        have e1 : (execOp a1.eval o1).run P w1 = .ok (.value F) w1 := by simp [execOp, p1, Instr.makeFunc, F]
        have e2 : (execOp (a1.put (some s') F).eval o2).run P w1 = .ok (.defer d) w1 := by
          have : (a1.put (some s') F).eval (.tmp s') = F := by
            simp [Act.eval, Act.put, hsz, hs]
          simp [execOp, p2, resolve, this, F, Deferred.ofValue, d]
        unfold wpList
        rw [if_pos w1']
        refine .inl ?_
        unfold Oper.wp
        rw [e1, Oper.upon_value, d1]
        unfold wpList
        rw [if_pos (w2' _)]
        refine .inl ?_
        unfold Oper.wp
        rw [e2, Oper.upon_defer, d2]
        exact hrest
end
end Go.Proofs.YtpfbdepoammjmaaGreatDoor.Pvm

namespace Go.Proofs.YtpfbdepoammjmaaGreatDoor.Pvm
open Go Go.RowKit
def Kd.lob : Kd → Nat
  | .int k => k.bits / 8
  | .bool => 1
  | .str => 16
  | .flt => 8
  | .sl _ => 24
  | .pr a b => a.lob + b.lob
  | .nil => 0
def Wf : (K : Kd) → K.T → Prop
  | .int k, x => k.min ≤ x ∧ x ≤ k.max
  | .bool, _ => True
  | .str, x => x.length ≤ 140737488351232
  | .flt, x => x < 2 ^ 64
  | .sl e, x => x.length * e.lob ≤ 140737488351232 ∧ ∀ y ∈ x, Wf e y
  | .pr a b, x => Wf a x.1 ∧ Wf b x.2
  | .nil, _ => True
def readFs (ty : TypeId → Option TI) (f : TypeId → Kd → Bool) : Nat → List (Nat × TypeId) → Kd → Bool
  | off, [(o, t)], K => Nat.beq o off && f t K && (match ty t with | some ti => Nat.beq ti.size K.sz | none => false)
  | off, (o, t) :: fs, .pr a b => Nat.beq o off && f t a && (match ty t with | some ti => Nat.beq ti.size a.sz | none => false) && readFs ty f (off + a.sz) fs b
  | _, _, _ => false
def readB (ty : TypeId → Option TI) : Nat → TypeId → Kd → Bool
  | 0, _, _ => false
  | n + 1, t, K => match ty t with
    | none => false
    | some ti => match ti.k, K with
      | .int k, .int k' => decide (k = k')
      | .bool, .bool => true
      | .str, .str => true
      | .flt, .flt => true
      | .slice, .sl e => (match ty ti.el with | some ei => Nat.blt 0 ei.size && Nat.beq ei.size e.sz && Nat.ble e.lob ei.bytes | none => false) && readB ty n ti.el e
      | .struct, K => readFs ty (readB ty n) 0 ti.fs K && Nat.beq ti.size K.sz
      | _, _ => false
section
variable {P : Program} {ty : TypeId → Option TI} {H : Type} {enc : TypeId × Value → H} {w : World} {spare : Nat → Bool} {held : Bool}
theorem TiOk.cellsOf {t : TypeId} {ti : TI} (h : TiOk P t ti) : P.cellsOf t = ti.size := by
  obtain ⟨i, z, h1, h2, _⟩ := h.info
  simp [Program.cellsOf, h1, h2]
theorem TiOk.bytesOf {t : TypeId} {ti : TI} (h : TiOk P t ti) : P.bytesOf t = ti.bytes := by
  obtain ⟨i, z, h1, _, h2, _⟩ := h.info
  simp [Program.bytesOf, h1, h2]
def ReadAt (P : Program) (enc : TypeId × Value → H) (w : World) (spare : Nat → Bool) (held : Bool) (t : TypeId) (K : Kd) : Prop :=
  ∀ (fuel : Nat) (cs : List Value) (d : DataW H) (ps : List MemPlace), DataW.trod enc P w 0 spare held fuel t cs = some (d, ps) → (∀ m ∈ DataW.weights P t d, m ≤ reachBytes) →
    ∃ x : K.T, RD w (fun _ => True) K x cs ∧ Wf K x
theorem wqzj (T : TyOk P ty) {f : TypeId → Kd → Bool} (hf : ∀ t K, f t K = true → ReadAt P enc w spare held t K) {n : Nat} {cs : List Value} :
    ∀ (fl : List Field) (tfs : List (Nat × TypeId)) (off : Nat) (K : Kd) (xs : List (DataW H × List MemPlace)), fl.map (fun g => (g.offset, g.type)) = tfs → readFs ty f off tfs K = true →
      (∀ (i : Nat) (g : Field), fl[i]? = some g → DataW.trod enc P w 0 spare held n g.type ((cs.drop g.offset).take (P.cellsOf g.type)) = xs[i]?) → xs.length = fl.length →
      (∀ m ∈ DataW.weightsEach P (fl.map (·.type)) (xs.map (·.1)), m ≤ reachBytes) → cs.length = off + K.sz →
      ∃ x : K.T, RD w (fun _ => True) K x (cs.drop off) ∧ Wf K x
  | [], tfs, off, K, xs, ht, hr, _, _, _, _ => by subst ht; simp [readFs] at hr
  | g :: fl, tfs, off, K, xs, ht, hr, hx, hl, hw, hc => by
    cases xs with
    | nil => simp at hl
    | cons x xs =>
      have h0 := hx 0 g (by simp)
      have key : ∀ a : Kd, Nat.beq g.offset off = true → f g.type a = true → (match ty g.type with | some ti => Nat.beq ti.size a.sz | none => false) = true → a.sz ≤ cs.length - off →
          ∃ y : a.T, RD w (fun _ => True) a y ((cs.drop off).take a.sz) ∧ Wf a y := by
        intro a h1 h2 h3 h4
        split at h3
        · next ti hti =>
          have hsz : P.cellsOf g.type = a.sz := by rw [(T _ _ hti).cellsOf]; exact beqN.1 h3
          rw [beqN.1 h1, hsz] at h0
          obtain ⟨d, ps⟩ := x
          refine hf _ _ h2 n _ d ps (by simpa using h0) fun m hm => hw m ?_
          simp [DataW.weightsEach, hm]
        · cases h3
      cases fl with
      | nil =>
        subst ht
        simp only [List.map_cons, List.map_nil, readFs, Bool.and_eq_true] at hr
        obtain ⟨⟨h1, h2⟩, h3⟩ := hr
        obtain ⟨y, hy1, hy2⟩ := key K h1 h2 h3 (by omega)
        refine ⟨y, ?_, hy2⟩
        rw [List.take_of_length_le (by rw [List.length_drop]; omega)] at hy1
        exact hy1
      | cons g2 fl =>
        subst ht
        cases K with
        | pr a b =>
          simp only [List.map_cons, readFs, Bool.and_eq_true] at hr
          obtain ⟨⟨⟨h1, h2⟩, h3⟩, h4⟩ := hr
          rw [Kd.sz] at hc
          obtain ⟨y, hy1, hy2⟩ := key a h1 h2 h3 (by omega)
          obtain ⟨z, hz1, hz2⟩ := wqzj T hf (n := n) (g2 :: fl) _ (off + a.sz) b xs rfl h4 (fun i g' hg' => by simpa using hx (i + 1) g' (by simpa using hg')) (by simpa using hl)
            (fun m hm => hw m (by simp [DataW.weightsEach] at hm ⊢; exact .inr hm)) (by omega)
          refine ⟨(y, z), ⟨(cs.drop off).take a.sz, (cs.drop off).drop a.sz, (List.take_append_drop _ _).symm, hy1, ?_⟩, hy2, hz2⟩
          rw [List.drop_drop]; exact hz1
        | _ => simp [readFs] at hr
theorem wqmh {e : TypeId} : ∀ {l : List (DataW H)} {d : DataW H}, d ∈ l → ∀ m ∈ DataW.weights P e d, m ∈ DataW.weightsAll P e l
  | a :: r, d, h, m, hm => by
    rw [DataW.weightsAll]
    rcases List.mem_cons.1 h with rfl | h
    · exact List.mem_append_left _ hm
    · exact List.mem_append_right _ (wqmh h m hm)
  | [], d, h, m, hm => by cases h
theorem wq125 {P : Program} {w : World} {a : Addr} {n : Nat} {cs : List Value} (h : w.cells? 0 a n = some cs) : cs.length = n ∧ ∀ (j : Nat) (u : Value), cs[j]? = some u → w.cell? (a.add j) = some u := by
  unfold World.cells? at h
  rw [if_pos (Nat.zero_le _)] at h
  have key : ∀ (l : List Nat) (cs : List Value), l.mapM (fun i => w.cell? (a.add i)) = some cs → cs.length = l.length ∧ ∀ (j : Nat) (u : Value), cs[j]? = some u → ∃ i, l[j]? = some i ∧ w.cell? (a.add i) = some u := by
    intro l
    induction l with
    | nil => intro cs h; simp at h; subst h; exact ⟨rfl, fun j u hj => by simp at hj⟩
    | cons i l ih =>
      intro cs h
      rw [List.mapM_cons] at h
      cases hc : w.cell? (a.add i) with
      | none => rw [hc] at h; simp at h
      | some v =>
        cases hl : l.mapM (fun i => w.cell? (a.add i)) with
        | none => rw [hc, hl] at h; simp at h
        | some r =>
          rw [hc, hl] at h
          simp at h
          subst h
          obtain ⟨h1, h2⟩ := ih r hl
          refine ⟨by simp [h1], fun j u hj => ?_⟩
          cases j with
          | zero => simp at hj; subst hj; exact ⟨i, by simp, hc⟩
          | succ j => obtain ⟨i', h3, h4⟩ := h2 j u (by simpa using hj); exact ⟨i', by simpa using h3, h4⟩
  obtain ⟨h1, h2⟩ := key _ _ h
  refine ⟨by simpa using h1, fun j u hj => ?_⟩
  obtain ⟨i, h3, h4⟩ := h2 j u hj
  have hlt := (List.getElem?_eq_some_iff.1 h3).1
  have : i = j := by
    obtain ⟨_, e⟩ := List.getElem?_eq_some_iff.1 h3
    simpa using e.symm
  subst this
  exact h4
theorem read_ok (T : TyOk P ty) : ∀ (n : Nat) (t : TypeId) (K : Kd), readB ty n t K = true → ReadAt P enc w spare held t K
  | 0, t, K, h => by simp [readB] at h
  | n + 1, t, K, h => by
    intro fuel cs d ps ht hw
    rw [readB] at h
    split at h
    · cases h
    · next ti hti =>
      have hT := T _ _ hti
      obtain ⟨td, hu, hk⟩ := hT.kind
      split at h
      · next k k' hk1 =>
        have : k = k' := by simpa using h
        subst this
        rw [hk1] at hk; simp only at hk; subst hk
        obtain ⟨m, rfl, _, hwf⟩ := DataW.trod_int hu ht
        simp only [Lit.wf, Bool.and_eq_true, decide_eq_true_eq] at hwf
        exact ⟨m, rfl, hwf⟩
      · next hk1 =>
        rw [hk1] at hk; simp only at hk; subst hk
        obtain ⟨b, rfl, _⟩ := DataW.trod_bool hu ht
        exact ⟨b, rfl, trivial⟩
      · next hk1 =>
        rw [hk1] at hk; simp only at hk; subst hk
        obtain ⟨s, rfl, hx, _⟩ := DataW.trod_string hu ht
        cases hx
        refine ⟨s.data.toList, rfl, ?_⟩
        have := hw _ (by rw [DataW.weights]; exact List.mem_cons_self)
        simpa [Wf, reachBytes] using this
      · next hk1 =>
        rw [hk1] at hk; simp only at hk; subst hk
        cases fuel with
        | zero => simp [DataW.trod] at ht
        | succ m =>
          unfold DataW.trod at ht
          rw [hu] at ht
          split at ht
          case h_3 k k' b e1 =>
            simp only [Option.some.injEq, TypeDesc.float.injEq] at e1
            subst e1
            split at ht
            · next hh =>
              obtain ⟨rfl, hwf⟩ := hh
              refine ⟨b, rfl, ?_⟩
              simpa [Lit.wf, Wf] using hwf
            · cases ht
          all_goals simp_all
      · next e hk1 =>
        rw [hk1] at hk; simp only at hk; subst hk
        simp only [Bool.and_eq_true] at h
        obtain ⟨h1, h2⟩ := h
        split at h1
        · next ei hei =>
          simp only [Bool.and_eq_true] at h1
          obtain ⟨⟨h3, h4⟩, h5⟩ := h1
          have h3 : 0 < ei.size := Nat.le_of_ble_eq_true h3
          have h4 := beqN.1 h4
          have h5 := Nat.le_of_ble_eq_true h5
          have hE := T _ _ hei
          rcases DataW.trod_slice hu ht with ⟨rfl, _⟩ | ⟨a, len, cap, elems, rest, m, rfl, rfl, hx, _, hlc, hcm, hel, hat, _⟩
          · exact ⟨[], ⟨none, 0, rfl, Nat.le_refl _, .inl rfl⟩, by simp, fun y hy => by cases hy⟩
          · cases hx
            rw [DataW.weights, hu] at hw
            simp only at hw
            have hlen := hw _ List.mem_cons_self
            rw [List.length_map, List.length_map, hE.bytesOf] at hlen
            rw [hE.cellsOf, h4] at hat
            have ih := read_ok T n _ _ h2
            have each : ∀ i, i < len → ∃ (y : e.T) (c : List Value), RD w (fun _ => True) e y c ∧ Wf e y ∧ ∀ (j : Nat) (u : Value), c[j]? = some u → w.cell? (a.add (i * e.sz + j)) = some u := by
              intro i hi
              have h6 := hat i hi
              have h7 : elems[i]? = some elems[i] := by simp [hel, hi]
              rw [h7] at h6
              cases hc : w.cells? 0 (a.add (i * e.sz)) e.sz with
              | none => rw [hc] at h6; simp at h6
              | some c =>
                rw [hc, Option.bind_some] at h6
                obtain ⟨y, hy1, hy2⟩ := ih m c elems[i].1 elems[i].2 (by rw [h6]) (fun q hq => hw q (List.mem_cons_of_mem _ (List.mem_append_left _ (wqmh (List.mem_map.2 ⟨elems[i], List.getElem_mem _, rfl⟩) q hq))))
                obtain ⟨_, hcell⟩ := wq125 (P := P) hc
                refine ⟨y, c, hy1, hy2, fun j u hj => ?_⟩
                rw [← Addr.add_add]; exact hcell j u hj
            have all : ∃ l : List e.T, l.length = len ∧ (∀ y ∈ l, Wf e y) ∧ ∀ (i : Nat) (y : e.T), l[i]? = some y → ∃ c, RD w (fun _ => True) e y c ∧ ∀ (j : Nat) (u : Value), c[j]? = some u → w.cell? (a.add (i * e.sz + j)) = some u := by
              have key : ∀ k, k ≤ len → ∃ l : List e.T, l.length = k ∧ (∀ y ∈ l, Wf e y) ∧ ∀ (i : Nat) (y : e.T), l[i]? = some y → ∃ c, RD w (fun _ => True) e y c ∧ ∀ (j : Nat) (u : Value), c[j]? = some u → w.cell? (a.add (i * e.sz + j)) = some u := by
                intro k
                induction k with
                | zero => intro _; exact ⟨[], rfl, fun y hy => (by cases hy), fun i y hi => by simp at hi⟩
                | succ k ihk =>
                  intro hk
                  obtain ⟨l, hl1, hl2, hl3⟩ := ihk (by omega)
                  obtain ⟨y, c, e1, e2, e3⟩ := each k (by omega)
                  refine ⟨l ++ [y], by simp [hl1], fun z hz => ?_, fun i z hz => ?_⟩
                  · rcases List.mem_append.1 hz with hz | hz
                    · exact hl2 z hz
                    · simp at hz; subst hz; exact e2
                  · by_cases hi : i < l.length
                    · rw [List.getElem?_append_left hi] at hz; exact hl3 i z hz
                    · rw [List.getElem?_append_right (by omega)] at hz
                      have hi2 : i = k := by
                        have := (List.getElem?_eq_some_iff.1 hz).1
                        simp at this; omega
                      subst hi2
                      simp [hl1] at hz; subst hz
                      exact ⟨c, e1, e3⟩
              exact key len (Nat.le_refl _)
            obtain ⟨l, hl1, hl2, hl3⟩ := all
            refine ⟨l, ⟨some a, cap, by rw [hl1], by omega, ?_⟩, ?_, hl2⟩
            · by_cases hnil : l = []
              · exact .inl hnil
              · refine .inr ⟨a, rfl, trivial, ?_, hl3⟩
                have hpos : 0 < l.length := List.length_pos_iff.2 hnil
                obtain ⟨c, hc, hu'⟩ := hl3 0 l[0] (by simp)
                have hcl := hc.len
                have h0c : 0 < c.length := by omega
                have := hu' 0 c[0] (by simp [h0c])
                simp only [Nat.zero_mul, Nat.add_zero, Addr.add_zero'] at this
                refine Classical.byContradiction fun hno => ?_
                simp [World.cell?, Array.getElem?_eq_none (Nat.le_of_not_lt hno)] at this
            · rw [hl1, ← hel]
              refine Nat.le_trans (Nat.mul_le_mul_left _ h5) ?_
              refine Nat.le_trans (Nat.mul_le_mul_right _ (Nat.le_add_right _ rest.length)) ?_
              simpa [reachBytes] using hlen
        · cases h1
      · next hk1 =>
        rw [hk1] at hk; simp only at hk
        obtain ⟨fs, rfl, hfs, _⟩ := hk
        simp only [Bool.and_eq_true] at h
        obtain ⟨h1, h2⟩ := h
        obtain ⟨xs, m, rfl, hx, hcl, hxl, hat⟩ := DataW.trod_struct hu ht
        cases hx
        rw [DataW.weights, hu] at hw
        simp only at hw
        rw [hT.cellsOf, beqN.1 h2] at hcl
        have := wqzj (enc := enc) (w := w) (spare := spare) (held := held) T (f := readB ty n) (fun t K h => read_ok T n t K h) (n := m) (cs := cs) fs.toList ti.fs 0 _ xs hfs h1 (fun i g hg => hat i g (by simpa using hg)) (by simpa using hxl) hw (by omega)
        rwa [List.drop_zero] at this
      · cases h
theorem okT {h : Heap} {G : Gh} (hh : ∀ n, h n = none) (hX : ∀ b, ¬ G.X b) {b : Nat} : okB h G b := ⟨fun n hn => by simp [blkOf, hh n] at hn, hX b⟩
theorem arg_data (T : TyOk P ty) {n base : Nat} {r : Reach} {t : TypeId} {K : Kd} (hr : readB ty n t K = true) (hs : (match ty t with | some ti => (match ti.k with | .struct => false | _ => true) | none => false) = true) {v : Value} {d : DataW H} {p : List MemPlace} (hval : Value.okWide P w r base t v) (hd : DataW.Trod enc P w 0 spare held t v d p)
    (hw : ∀ m ∈ DataW.weights P t d, m ≤ reachBytes) {h : Heap} {G : Gh} (hh : ∀ n, h n = none) (hX : ∀ b, ¬ G.X b) : ∃ x : K.T, Wf K x ∧ RV h G w (.v K x) v := by
  obtain ⟨fuel, hf⟩ := hd
  obtain ⟨x, h1, h2⟩ := read_ok T n t K hr fuel _ d p hf hw
  refine ⟨x, h2, ?_⟩
  have hc : v.cells.toList = [v] := by
    split at hs
    · next ti hti =>
      obtain ⟨td, hu, hk⟩ := (T _ _ hti).kind
      rw [readB.eq_def] at hr
      cases n with
      | zero => simp at hr
      | succ n =>
        simp only [hti] at hr
        split at hr
        · next hk1 => rw [hk1] at hk; simp only at hk; subst hk; obtain ⟨m, rfl⟩ := WideShapes.okWide_int hu hval; rfl
        · next hk1 => rw [hk1] at hk; simp only at hk; subst hk; simp only [Value.okWide, hu, Cell.okWide] at hval; cases v <;> simp_all [Cell.ok, Value.cells]
        · next hk1 => rw [hk1] at hk; simp only at hk; subst hk; obtain ⟨m, rfl⟩ := WideShapes.okWide_string hu hval; rfl
        · next hk1 => rw [hk1] at hk; simp only at hk; subst hk; simp only [Value.okWide, hu, Cell.okWide] at hval; cases v <;> simp_all [Cell.ok, Value.cells]
        · next hk1 => rw [hk1] at hk; simp only at hk; subst hk; obtain ⟨a, l, c, rfl⟩ := WideShapes.okWide_slice hu hval; rfl
        · next hk1 => rw [hk1] at hs; cases hs
        · cases hr
    · cases hs
  show RD w (okB h G) K x [v]
  rw [← hc]
  exact h1.mono fun b _ _ => ⟨okT hh hX, rfl⟩
theorem wq12p (T : TyOk P ty) {n base : Nat} {r : Reach} {t : TypeId} {K : Kd} (hr : readB ty n t K = true) (hs : (match ty t with | some ti => (match ti.k with | .struct => true | _ => false) | none => false) = true) {v : Value} {d : DataW H} {p : List MemPlace} (hval : Value.okWide P w r base t v) (hd : DataW.Trod enc P w 0 spare held t v d p)
    (hw : ∀ m ∈ DataW.weights P t d, m ≤ reachBytes) {h : Heap} {G : Gh} (hh : ∀ n, h n = none) (hX : ∀ b, ¬ G.X b) : ∃ x : K.T, Wf K x ∧ RV h G w (.agg (K.cells x)) v := by
  obtain ⟨fuel, hf⟩ := hd
  obtain ⟨x, h1, h2⟩ := read_ok T n t K hr fuel _ d p hf hw
  refine ⟨x, h2, ?_⟩
  split at hs
  · next ti hti =>
    split at hs
    · next hk1 =>
      obtain ⟨td, hu, hk⟩ := (T _ _ hti).kind
      rw [hk1] at hk; simp only at hk
      obtain ⟨fs, rfl, _⟩ := hk
      obtain ⟨cs, rfl, _⟩ := WideShapes.okWide_struct hu hval
      refine ⟨cs.toList, by simp, ?_⟩
      have : RD w (okB h G) K x cs.toList := h1.mono fun b _ _ => ⟨okT hh hX, rfl⟩
      exact wqde this
    · cases hs
  · cases hs
def lawK : Out → Option Bool
  | .ret [.v .bool y] [] => some y
  | _ => none
def G0 : Gh := ⟨fun _ => 0, fun _ => .nilIface, fun _ => False⟩
theorem enters {f : FuncId} {fn : Func} {c : Code} (hfn : P.funcs[f]? = some fn) (hb : fn.body = some c) (hname : (fn.name == "runtime.NumGoroutine") = false) (args : Array Value) (w : World) : (callFunc f args).run P w = .ok (.enter f args) w := by
  have hn2 : ¬ fn.name = "runtime.NumGoroutine" := by simpa using hname
  simp [callFunc, program, Sem.run, hfn, hn2, hb]
theorem wqzk {f : FuncId} {fn : Func} {c : Code} (hfn : P.funcs[f]? = some fn) (hb : fn.body = some c) (hname : (fn.name == "runtime.NumGoroutine") = false) {ps : List PV} {b : Bool} (h : DoesTo P f ps [] fun out => lawK out = some b) {vals : List Value} (hv : RVs (mkH []) G0 w ps vals) :
    Calls P f vals.toArray w fun e w' => e = .returned (.bool b) ∧ Below w.heap.size w w' := by
  have := h G0 w vals hv (fun n o hn => by cases hn) ⟨fun n m b hn => by simp [blkOf, mkH, look] at hn, fun n b hn => by simp [blkOf, mkH, look] at hn, fun b hb => hb.elim⟩
  unfold Does at this
  rw [enters hfn hb hname] at this
  refine Calls.mono this fun e w' hh => ?_
  obtain ⟨out, ho, G', hout, F⟩ := hh
  unfold lawK at ho
  split at ho
  · cases ho
    obtain ⟨v, rfl, hv⟩ := hout
    have hv : RD _ _ .bool b [v] := hv
    simp only [RD, List.cons.injEq, and_true] at hv
    subst hv
    exact ⟨rfl, F.os, F.tape, F.out, F.grow, fun k hk => F.blk k hk fun n hn => by simp [blkOf, mkH, look] at hn⟩
  · cases ho
theorem wqzl {G : Gh} {w w' : World} (b : Below w.heap.size w w') : Fin [] [] G w G w' :=
  ⟨fun n o h => (by cases h), fun n m b h => (by simp [blkOf, mkH, look] at h), fun n t cs h => (by cases h), fun k hk _ => b.block k hk, rfl, fun n b h => (by simp [blkOf, mkH, look] at h), b.size, b.os, b.tape, b.output⟩
theorem wq11b {ts : List TypeId} {ds : List (DataW H)} {vt : List TypeId} {gs : List (DataW H)} (h : (DataW.weightsEach P (ts ++ vt) (ds ++ gs)).all (· ≤ reachBytes) = true) : ∀ (i : Nat) (t : TypeId) (d : DataW H), ts[i]? = some t → ds[i]? = some d → ∀ m ∈ DataW.weights P t d, m ≤ reachBytes := by
  have key : ∀ (ts : List TypeId) (ds : List (DataW H)), (∀ m ∈ DataW.weightsEach P (ts ++ vt) (ds ++ gs), m ≤ reachBytes) → ∀ (i : Nat) (t : TypeId) (d : DataW H), ts[i]? = some t → ds[i]? = some d → ∀ m ∈ DataW.weights P t d, m ≤ reachBytes := by
    intro ts
    induction ts with
    | nil => intro ds _ i t d ht; simp at ht
    | cons t0 ts ih =>
      intro ds hw i t d ht hd m hm
      cases ds with
      | nil => simp at hd
      | cons d0 ds =>
        simp only [List.cons_append, DataW.weightsEach] at hw
        cases i with
        | zero => simp at ht hd; subst ht hd; exact hw m (List.mem_append_left _ hm)
        | succ i => exact ih ds (fun m hm => hw m (List.mem_append_right _ hm)) i t d (by simpa using ht) (by simpa using hd) m hm
  exact key ts ds (by simpa using h)
end
end Go.Proofs.YtpfbdepoammjmaaGreatDoor.Pvm
