/- The Go function ShowTexts answers true for every input: one text alone may be just as the reference tells; no further condition. -/
import Derived.LoopN
import Derived.Scope
import Derived.Recover
import Derived.WalkKit
import Derived.ProofKit
import Derived.OpenShut
import Derived.ShutString
import Derived.ChangeOld
import Derived.Below
import Derived.SizedLaws
import Derived.ChangeArms
import Derived.Test.YtdfhgimidmfgfaaDoorProg
import Derived.KernelRfl
import Derived.Test.YtdfhgimidmfgfaaDoorChecked
import Derived.WalkSpells
import Derived.WalkLawsBesides
import Derived.Lib.Builder
import Derived.Lib.AppendStr
import Derived.Lib.UnsafeStr
import Derived.Laws.Externs
import Derived.Shelf.RegionOpenPlain
import Derived.Deep.Heap
import Derived.Shelf.Strings.Repeat
import Derived.Test.YtdfhgimidmfgfaaDoorShowTextsM0
import Derived.Test.YtdfhgimidmfgfaaDoorShowTextsM1
set_option linter.unusedVariables false
set_option linter.unusedSimpArgs false
set_option linter.unusedSectionVars false
noncomputable section
namespace Go.Proofs.YtdfhgimidmfgfaaDoor.Pvm
open Go
structure RetSpec where
  res : List LS
  objs : List (Nm × LS)
  pan : List (Nm × LS)
def resP (ty : TypeId → Option TI) (st : St) : List ResultVar → Option (List PV)
  | [] => some []
  | .tmp t :: r => match resP ty st r with
    | some l => some (useO [] (st.t t) :: l)
    | none => none
  | .cell a t :: r => match ty t with
    | some ti => match evLoad ti st.h (useO [] (st.t a)) with
      | some ev => match resP ty st r with
        | some l => some (ev.val :: l)
        | none => none
      | none => none
    | none => none
def endK (cx : Ctx) {R : Type} (objs : List (Nm × LS)) (res : List LS) (ps : List PV) (st : St) (K : List PV → List (Nm × HObj) → Option R) : Option R :=
  match normObjs st.h ⟨[], [], []⟩ objs with
  | none => none
  | some na1 => match normPs st.h na1 res ps with
    | none => none
    | some (qs, na) => bif fine na && stay na.nm cx.pv then K qs na.hp else none
def retK (cx : Ctx) {R : Type} (sp : RetSpec) (rs : List ResultVar) (st : St) (K : Out → Option R) : Option R :=
  match resP cx.ty st rs with
  | none => none
  | some ps => endK cx sp.objs sp.res ps st fun qs hs => K (.ret qs hs)
def panK (cx : Ctx) {R : Type} (sp : RetSpec) (p : PV) (st : St) (K : Out → Option R) : Option R :=
  endK cx sp.pan [.any] [p] st fun qs hs => match qs with
    | [q] => K (.pan q hs)
    | _ => none
def varsIn (pv : List Nm) : List (Nm × HObj) → Bool
  | [] => true
  | (n, .var _ _) :: r => isIn n pv && varsIn pv r
  | (_, .mp _ _ _) :: _ => false
  | _ :: r => varsIn pv r
def argsT (args : List PV) : Nat → PV := fun i => args.getD i .un
def outK (cx : Ctx) {R : Type} (sp : RetSpec) (rs : List ResultVar) (K : Out → Option R) : Ex → St → Option R := fun e st => match e with
  | .normal => retK cx sp rs st K
  | .ret => retK cx sp rs st K
  | .panic p => panK cx sp p st K
  | .exit _ => none
def fnK (cx : Ctx) (k : Nat) {R : Type} (c : Code) (n : Nat) (rs : List ResultVar) (sp : RetSpec) (args : List PV) (hp : List (Nm × HObj)) (K : Out → Option R) : Option R :=
  bif varsIn cx.pv hp && Nat.ble args.length n then execK cx k c ⟨argsT args, mkH hp⟩ (outK cx sp rs K) else none
section
variable {P : Program} {w0 : World} {fr : Nat → Prop} {X0 : Org} {n : Nat} {ds : List Deferred} {st : St} {G : Gh} {a : Act} {w : World}
def resF (tmps : Array Value) : ResultVar → Sem Value
  | .tmp t => pure (tmps.getD t undef)
  | .cell x t => do loadVar t (← asAddr (tmps.getD x undef))
theorem wq1dj (fn : Func) (tmps : Array Value) : results fn tmps = (fn.results.mapM (resF tmps) >>= fun vs => pure (if h : vs.size = 1 then vs[0] else .tuple vs)) := by
  unfold results
  have : (fun r : ResultVar => match r with
    | .tmp t => (pure (tmps.getD t undef) : Sem Value)
    | .cell a t => do loadVar t (← asAddr (tmps.getD a undef))) = resF tmps := by
    funext r; cases r <;> rfl
  rw [← this]
  rfl
theorem wq16q {cx : Ctx} (X : cx.Ok P) (R : Rel w0 fr X0 n ds st G a w) : ∀ (rs : List ResultVar) {ps : List PV}, resP cx.ty st rs = some ps →
    ∃ vs : List Value, RVs st.h G w ps vs ∧ (rs.mapM (resF a.tmps)).run P w = .ok vs w
  | [], ps, he => by cases he; exact ⟨[], rfl, rfl⟩
  | .tmp t :: r, ps, he => by
    rw [resP] at he
    split at he
    · next l hl =>
      cases he
      obtain ⟨vs, h1, h2⟩ := wq16q X R r hl
      refine ⟨tmOf a t :: vs, ⟨_, _, rfl, R.use noTags (.tmp t), h1⟩, ?_⟩
      rw [List.mapM_cons]
      simp only [Sem.run_bind, resF, Sem.run_pure, Result.andThen_ok]
      rw [h2]
      rfl
    · cases he
  | .cell x t :: r, ps, he => by
    rw [resP] at he
    split at he
    · next ti hti =>
      split at he
      · next ev hev =>
        split at he
        · next l hl =>
          cases he
          obtain ⟨vs, h1, h2⟩ := wq16q X R r hl
          obtain ⟨u, e1, e2, _⟩ := wq13q (P := P) X.ty hti R.obj hev (R.use noTags (.tmp x))
          refine ⟨u :: vs, ⟨_, _, rfl, e2, h1⟩, ?_⟩
          have hld : (resF a.tmps (.cell x t)).run P w = .ok u w := by
            have e3 : (Instr.loadAt t (a.tmps.getD x undef)).run P w = .ok u w := e1
            unfold Instr.loadAt Instr.sureAddr at e3
            show (do loadVar t (← asAddr (a.tmps.getD x undef))).run P w = _
            split at e3
            · next A hA =>
              rw [hA]
              exact e3
            · simp [stuck, Sem.run] at e3
          rw [List.mapM_cons, Sem.run_bind, hld, Result.andThen_ok, Sem.run_bind, h2]
          rfl
        · cases he
      · cases he
    · cases he
theorem wqtm {fn : Func} {rs : List ResultVar} (hrs : fn.results.toList = rs) {tmps : Array Value} {vs : List Value} (h : (rs.mapM (resF tmps)).run P w = .ok vs w) :
    (results fn tmps).run P w = .ok (if h : vs.toArray.size = 1 then vs.toArray[0] else .tuple vs.toArray) w := by
  rw [wq1dj, Sem.run_bind, Array.mapM_eq_mapM_toList, Sem.run_map, hrs, h]
  rfl
theorem tup_ok {ps : List PV} {vs : List Value} {h : Heap} (hr : RVs h G w ps vs) : RV h G w (tupOf ps) (if h : vs.toArray.size = 1 then vs.toArray[0] else .tuple vs.toArray) := by
  cases ps with
  | nil => cases hr; exact ⟨[], rfl, rfl⟩
  | cons p r =>
    obtain ⟨v, l, rfl, hv, hl⟩ := hr
    cases r with
    | nil => cases hl; exact hv
    | cons q r =>
      obtain ⟨u, l', rfl, hu, hl'⟩ := hl
      have : ¬ ((v :: u :: l').toArray.size = 1) := by simp
      rw [dif_neg this]
      exact ⟨_, rfl, v, _, rfl, hv, u, _, rfl, hu, hl'⟩
def frOf (hp : List (Nm × HObj)) (G : Gh) (w : World) (b : Nat) : Prop := b < w.heap.size ∧ freeB (mkH hp) G b
def varsL (G : Gh) : List (Nm × HObj) → List (Nm × TypeId × Nat)
  | [] => []
  | (n, .var t _) :: r => (n, t, G.bk n) :: varsL G r
  | _ :: r => varsL G r
def orgOf (hp : List (Nm × HObj)) (G : Gh) : Org := ⟨G.X, (varsL G hp).filter fun x => match look hp x.1 with | some (.var t _) => Nat.beq t x.2.1 | _ => false⟩
theorem wqrl : ∀ {hp : List (Nm × HObj)} {x}, x ∈ varsL G hp → x.2.2 = G.bk x.1
  | [], x, h => by cases h
  | (n, .var t cs) :: r, x, h => by
    rw [varsL] at h
    rcases List.mem_cons.1 h with rfl | h
    · rfl
    · exact wqrl h
  | (n, .row e K xs) :: r, x, h => wqrl (hp := r) (by simpa [varsL] using h)
  | (n, .mp ag V es) :: r, x, h => wqrl (hp := r) (by simpa [varsL] using h)
theorem wqwk : ∀ {hp : List (Nm × HObj)} {n : Nm} {t : TypeId} {cs : List PV}, (n, .var t cs) ∈ hp → (n, t, G.bk n) ∈ varsL G hp
  | (m, .var t' cs') :: r, n, t, cs, h => by
    rw [varsL]
    rcases List.mem_cons.1 h with e | h
    · cases e; exact List.mem_cons_self
    · exact List.mem_cons_of_mem _ (wqwk h)
  | (m, .row e K xs) :: r, n, t, cs, h => by
    rcases List.mem_cons.1 h with e | h
    · cases e
    · show _ ∈ varsL G r
      exact wqwk h
  | (m, .mp ag V es) :: r, n, t, cs, h => by
    rcases List.mem_cons.1 h with e | h
    · cases e
    · show _ ∈ varsL G r
      exact wqwk h
  | [], n, t, cs, h => by cases h
theorem wq145 {pv : List Nm} : ∀ {hp : List (Nm × HObj)} {n : Nm} {ag : MK} {V : Kd} {es : List (List UInt8 × V.T)}, varsIn pv hp = true → (n, .mp ag V es) ∈ hp → False
  | [], _, _, _, _, _, h => by cases h
  | (m, .var t cs) :: r, n, ag, V, es, hv, h => by
    simp only [varsIn, Bool.and_eq_true] at hv
    rcases List.mem_cons.1 h with e | h
    · cases e
    · exact wq145 hv.2 h
  | (m, .row e K xs) :: r, n, ag, V, es, hv, h => by
    rcases List.mem_cons.1 h with e | h
    · cases e
    · exact wq145 (hp := r) hv h
  | (m, .mp ag' V' es') :: r, n, ag, V, es, hv, h => by simp [varsIn] at hv
theorem wqtn {pv : List Nm} : ∀ {hp : List (Nm × HObj)}, varsIn pv hp = true → ∀ x ∈ varsL G hp, x.1 ∈ pv
  | [], _, x, hx => by cases hx
  | (n, .var t cs) :: r, h, x, hx => by
    simp only [varsIn, Bool.and_eq_true] at h
    rw [varsL] at hx
    rcases List.mem_cons.1 hx with rfl | hx
    · exact wq84.1 h.1
    · exact wqtn h.2 x hx
  | (n, .row e K xs) :: r, h, x, hx => wqtn (hp := r) (by simpa [varsIn] using h) x (by simpa [varsL] using hx)
  | (n, .mp ag V es) :: r, h, x, hx => by simp [varsIn] at h
theorem wq1ft {h : Heap} : ∀ {args : List PV} {vals : List Value}, RVs h G w args vals → ∀ i, RV h G w (argsT args i) ((vals.toArray ++ Array.replicate (n - vals.toArray.size) undef).getD i undef) := by
  intro args vals hr i
  have hl := hr.length
  unfold argsT
  by_cases hi : i < args.length
  · obtain ⟨v, hv, hp⟩ := hr.get i args[i] (by simp [hi])
    have h1 : args.getD i .un = args[i] := by simp [List.getD, hi]
    rw [h1]
    have h2 : (vals.toArray ++ Array.replicate (n - vals.toArray.size) undef).getD i undef = v := by
      rw [Array.getD_eq_getD_getElem?, Array.getElem?_append_left (by simp; omega)]
      simp [hv]
    rw [h2]; exact hp
  · have h1 : args.getD i .un = .un := by simp [List.getD, Nat.le_of_not_lt hi]
    rw [h1]; trivial
theorem Rel.start {hp : List (Nm × HObj)} {args : List PV} {vals : List Value} (hr : RVs (mkH hp) G w args vals) (obj : ∀ n o, mkH hp n = some o → RO (mkH hp) G w n o) (dis : Dis (mkH hp) G w) (hn : args.length ≤ n) :
    Rel w (frOf hp G w) (orgOf hp G) n [] ⟨argsT args, mkH hp⟩ G { tmps := vals.toArray ++ Array.replicate (n - vals.toArray.size) undef, defers := [] } w := by
  refine ⟨fun i => wqia (wq1ft hr i), ?_, obj, dis.inj, fun m b hb hf => hf.2 m hb, fun b hb => ⟨dis.xlt b hb, fun m hm => dis.xo m b hm hb⟩, rfl, fun x hx => ?_, fun _ _ => rfl, Nat.le_refl _, rfl, rfl, rfl, rfl⟩
  · have := hr.length
    simp; omega
  · obtain ⟨h1, h2⟩ := List.mem_filter.1 hx
    refine ⟨?_, (wqrl h1).symm⟩
    show ∃ cs, look hp x.1 = _
    split at h2
    · next t cs hl => rw [beqN.1 h2] at hl; exact ⟨cs, hl⟩
    · cases h2
theorem wq16r {cx : Ctx} {hp : List (Nm × HObj)} {G0 : Gh} (R : Rel w0 (frOf hp G0 w0) (orgOf hp G0) n ds st G a w) (hv : varsIn cx.pv hp = true) {R0 : Type} {objs : List (Nm × LS)} {res : List LS} {ps : List PV} {K : List PV → List (Nm × HObj) → Option R0} {r : R0} {vs : List Value}
    (hr : RVs st.h G w ps vs) (he : endK cx objs res ps st K = some r) :
    ∃ qs hs G', K qs hs = some r ∧ RVs (mkH hs) G' w qs vs ∧ Fin hp hs G0 w0 G' w := by
  have hf : ∀ b, frOf hp G0 w0 b → b < w0.heap.size := fun b hb => hb.1
  unfold endK at he
  split at he
  · cases he
  · next na1 h1 =>
    split at he
    · cases he
    · next qs na h2 =>
      cases hfi : (fine na && stay na.nm cx.pv) with
      | false => rw [hfi] at he; cases he
      | true =>
        rw [hfi, cond_true] at he
        simp only [Bool.and_eq_true] at hfi
        obtain ⟨hfi, hst⟩ := hfi
        have F0 : Found st.h ⟨[], [], []⟩ := ⟨fun k o hk => (by cases hk), fun m hm => (by cases hm)⟩
        obtain ⟨F1, L1⟩ := wqfq _ _ h1 F0
        obtain ⟨F2, L2⟩ := normPs_found _ _ _ h2 F1
        have S : Sub st.h G w na := ⟨wqwi hfi, F2, R.obj, R.toDis hf⟩
        have hO := Sub.normObjs S _ _ h1 L2 F0
        obtain ⟨hS, hO2⟩ := Sub.norms S _ _ _ h2 (.refl na) F1 hr
        have hobj : ∀ k o, mkH na.hp k = some o → RO (mkH na.hp) (subG G na (subX st.h G na)) w k o := fun k o hk => by
          rcases hO2 (k, o) (wq3a hk) with h | h
          · rcases hO _ h with h | h
            · cases h
            · exact h
          · exact h
        let G1 := subG G na (subX st.h G na)
        let G2 : Gh := { G1 with X := G.X }
        have ok : ∀ b, okB (mkH na.hp) G1 b → okB (mkH na.hp) G2 b := fun b hb => ⟨hb.1, fun hx => hb.2 (.inl hx)⟩
        have C : Carry (mkH na.hp) G1 w (mkH na.hp) G2 w .row :=
          ⟨fun b ho _ => ⟨ok b ho, rfl⟩, fun n t cs hn => ⟨⟨cs, hn⟩, rfl⟩, fun n ag V es hn => ⟨⟨es, hn⟩, rfl⟩, fun n e K xs hn => ⟨⟨rfl, e, K, xs, hn⟩, fun m hm => by cases hm; exact ⟨e, xs, hn, Nat.le_refl _⟩⟩⟩
        have hRVs : RVs (mkH na.hp) G2 w qs vs := by
          have := RVs.carry C _ _ hS
          have e : ∀ l : List PV, mapRs .row l = l := by
            intro l
            induction l with
            | nil => rfl
            | cons p r ih => rw [mapRs, ih, PV.mapR_row]
          rwa [e] at this
        have hpv : ∀ x ∈ (orgOf hp G0).vs, x.1 ∈ cx.pv := fun x hx => wqtn hv x (List.mem_filter.1 hx).1
        refine ⟨qs, na.hp, G2, he, hRVs, ⟨fun k o hk => ?_, fun k m b h1 h2 => S.toDis.inj k m b h1 h2, fun m t cs hm o ho => ?_, fun m ag V es hm o ho => (wq145 hv (wq3a hm)).elim, fun b hb hfree => R.ext b ⟨hb, hfree⟩, R.xeq, fun k b hb => ?_, R.grow, R.os, R.tape, R.out⟩⟩
        · have := RO.carry C hk (hobj k o hk) (fun b _ => rfl) rfl rfl
          rwa [wqg6] at this
        · have hmem : (m, t, G0.bk m) ∈ (orgOf hp G0).vs := List.mem_filter.2 ⟨wqwk (wq3a hm), by simp [hm]⟩
          obtain ⟨⟨cs', h1⟩, h2⟩ := wq1dh (X := G.X) R S hst hpv _ hmem
          have h1 : look na.hp m = some (.var t cs') := h1
          rw [ho] at h1
          exact ⟨⟨cs', by simpa using h1⟩, h2⟩
        · obtain ⟨m, _, hm⟩ := S.blk k b hb
          have := R.apart m b hm
          by_cases hlt : b < w0.heap.size
          · refine .inl (Classical.byContradiction fun hno => this ⟨hlt, fun m hm => hno ⟨m, hm⟩⟩)
          · exact .inr (Nat.le_of_not_lt hlt)
theorem fn_ok {cx : Ctx} (X : cx.Ok P) (hm : P.follows .mixedOrders = true) {f : FuncId} {fn : Func} {c : Code} (hfn : P.funcs[f]? = some fn) (hb : fn.body = some c) (hname : (fn.name == "runtime.NumGoroutine") = false) {rs : List ResultVar} (hrs : fn.results.toList = rs) (hco : codeOk fn.ntmps c = true)
    {k : Nat} {R0 : Type} {sp : RetSpec} {args : List PV} {hp : List (Nm × HObj)} {K : Out → Option R0} {r : R0} (he : fnK cx k c fn.ntmps rs sp args hp K = some r) : DoesTo P f args hp fun out => K out = some r := by
  intro G w vals hr obj dis
  unfold fnK at he
  cases hc1 : (varsIn cx.pv hp && Nat.ble args.length fn.ntmps) with
  | false => rw [hc1] at he; cases he
  | true =>
    rw [hc1, cond_true] at he
    simp only [Bool.and_eq_true] at hc1
    have hrun : (callFunc f vals.toArray).run P w = .ok (.enter f vals.toArray) w := by
      have hn2 : ¬ fn.name = "runtime.NumGoroutine" := by simpa using hname
      simp [callFunc, program, Sem.run, hfn, hn2, hb]
    unfold Does
    rw [hrun]
    have R := Rel.start hr obj dis (Nat.le_of_ble_eq_true hc1.2)
    have hf : ∀ b, frOf hp G w b → b < w.heap.size := fun b hb => hb.1
    have hpv : ∀ x ∈ (orgOf hp G).vs, x.1 ∈ cx.pv := fun x hx => wqtn hc1.1 x (List.mem_filter.1 hx).1
    have hret : ∀ {st : St} {G' : Gh} {a : Act} {w' : World}, retK cx sp rs st K = some r → Rel w (frOf hp G w) (orgOf hp G) fn.ntmps [] st G' a w' → ∃ v, (results fn a.tmps).run P w' = .ok v w' ∧ ∃ out, K out = some r ∧ ∃ G'', OutIs G'' w' (.returned v) out ∧ Fin hp out.hs G w G'' w' := by
      intro st G' a w' he R
      unfold retK at he
      split at he
      · cases he
      · next ps hps =>
        obtain ⟨vs, h1, h2⟩ := wq16q X R rs hps
        obtain ⟨qs, hs, G'', h3, h4, h5⟩ := wq16r R hc1.1 h1 he
        exact ⟨_, wqtm hrs h2, .ret qs hs, h3, G'', ⟨_, rfl, tup_ok h4⟩, h5⟩
    refine calls_of_wp hfn hb (wp_mono (wqdr X hpv hm k hf c hco he R) fun e a w' h => ?_)
    cases e with
    | normal =>
      obtain ⟨st, G', h1, h2⟩ := h
      obtain ⟨v, h3, h4⟩ := hret h1 h2
      exact ⟨h2.defers, v, h3, h4⟩
    | ret =>
      obtain ⟨st, G', h1, h2⟩ := h
      obtain ⟨v, h3, h4⟩ := hret h1 h2
      exact ⟨h2.defers, v, h3, h4⟩
    | panic ch =>
      obtain ⟨st, G', a0, p, v, rfl, h1, h2, h3, h4, _⟩ := h
      refine ⟨h4.trans h2.defers, ?_⟩
      simp only [outK] at h1
      unfold panK at h1
      obtain ⟨qs, hs, G'', h5, h6, h7⟩ := wq16r h2 hc1.1 (ps := [p]) (vs := [v]) ⟨v, [], rfl, h3, rfl⟩ h1
      split at h5
      · next q =>
        obtain ⟨u, l, hu, h8, h9⟩ := h6
        cases hu
        exact ⟨.pan q hs, h5, G'', ⟨v, rfl, h8⟩, h7⟩
      · cases h5
    | exit i => obtain ⟨st, G', h1, h2⟩ := h; cases h1
    | goto l => exact h
    | outgrown => exact h.elim
end
end Go.Proofs.YtdfhgimidmfgfaaDoor.Pvm
namespace Go.Proofs.YtdfhgimidmfgfaaDoor.Pvm
open Go
variable {P : Program}
def zcells : Kd → List Value
  | .int k => [.int k 0]
  | .bool => [.bool false]
  | .str => [.string ⟨#[]⟩]
  | .flt => [.float .f64 0]
  | .nil => []
  | .sl _ => [.slice none 0 0]
  | .pr a b => zcells a ++ zcells b
theorem wq146 {w : World} {ok : Nat → Prop} : ∀ K : Kd, RD w ok K K.zero (zcells K)
  | .int _ => rfl
  | .bool => rfl
  | .str => rfl
  | .flt => rfl
  | .nil => rfl
  | .sl _ => ⟨none, 0, rfl, Nat.le_refl _, .inl rfl⟩
  | .pr a b => ⟨_, _, rfl, wq146 a, wq146 b⟩
def kdB (ti : TI) (z : List Value) : Prop :=
  match ti.kd with
  | none => True
  | some K => (decide (0 < K.sz) && decide (K.sz = ti.size)) = true ∧ z = zcells K
def wq1f2 (P : Program) (fs : Array Field) : Bool := (fs.toList.mapM (fun f => (P.info? f.type).map fun i => (f.offset, i.size))).isSome
theorem TiOk.of {t : TypeId} {ti : TI} {z : Value} {d : TypeDesc} (hi : (P.info? t).map (fun i => (i.size, i.bytes, i.zero)) = some (ti.size, ti.bytes, some z)) (hz : z.cells.toList.map cv = ti.zero) (hs : z.cells.size = ti.size)
    (hk : kdB ti z.cells.toList) (hsh : match ti.k with | .struct => ∃ cs, z = .agg cs | .int k => z = .int k 0 | _ => z.cells = #[z])
    (hm : match ti.k with
      | .int k => d = .int k
      | .bool => d = .bool
      | .str => d = .string
      | .flt => d = .float .f64
      | .slice => d = .slice ti.el
      | .ptr => d = .pointer ti.el
      | .struct => ∃ fs, d = .struct fs ∧ fs.toList.map (fun f => (f.offset, f.type)) = ti.fs ∧ wq1f2 P fs = true
      | .iface => ∃ ms, d = .interface ms
      | .map => ∃ kt, d = .map kt ti.el ∧ P.underlying kt = some .string
      | .other => (match d with | .struct _ | .array _ _ | .interface _ => False | _ => True))
    (hd : P.underlying t = some d) (he : ti.eqs = true → ti.k = .struct → wq1am P t = true) : TiOk P t ti := by
  obtain ⟨i, h1, h2⟩ := Option.map_eq_some_iff.1 hi
  simp only [Prod.mk.injEq] at h2
  refine ⟨⟨i, z, h1, h2.1, h2.2.1, h2.2.2, hz, hs, fun K hK => ?_, hsh⟩, ⟨d, hd, ?_⟩, he⟩
  · unfold kdB at hk
    rw [hK] at hk
    simp only [Bool.and_eq_true, decide_eq_true_eq] at hk
    exact ⟨hk.1.1, hk.1.2, fun w ok => by rw [hk.2]; exact wq146 K⟩
  · revert hm
    cases ti.k <;> simp only [] <;> intro hm <;> first
      | exact hm
      | (obtain ⟨fs, h1, h2, h3⟩ := hm
         unfold wq1f2 at h3
         obtain ⟨pl, hpl⟩ := Option.isSome_iff_exists.1 h3
         exact ⟨fs, h1, h2, pl, hpl⟩)
theorem wq1gj {l : List (Nat × TI)} (h : ∀ x ∈ l, TiOk P x.1 x.2) : TyOk P (look l) := fun t ti ht => h (t, ti) (wq3a ht)
theorem wq1gk : ∀ x ∈ ([] : List (Nat × TI)), TiOk P x.1 x.2 := fun x hx => by cases hx
theorem all_cons {t : Nat} {ti : TI} {l : List (Nat × TI)} (h : TiOk P t ti) (hl : ∀ x ∈ l, TiOk P x.1 x.2) : ∀ x ∈ (t, ti) :: l, TiOk P x.1 x.2 := fun x hx => by
  rcases List.mem_cons.1 hx with rfl | hx
  · exact h
  · exact hl x hx
end Go.Proofs.YtdfhgimidmfgfaaDoor.Pvm
namespace Go.Proofs.YtdfhgimidmfgfaaDoor.Pvm
open Go
def at_ : List Nat → Code → Code
  | [], c => c
  | 0 :: p, .seq a _ => at_ p a
  | _ :: p, .seq _ b => at_ p b
  | 0 :: p, .cond _ a _ => at_ p a
  | _ :: p, .cond _ _ b => at_ p b
  | _ :: p, .block _ b => at_ p b
  | _ :: p, .scope b => at_ p b
  | _ :: p, .loop b => at_ p b
  | _, c => c
def konts (cx : Ctx) (k : Nat) {R : Type} (I : Nat → St → Option R) : List Nat → Code → (Ex → St → Option R) → (Ex → St → Option R)
  | [], _, K => K
  | 0 :: p, .seq a b, K => konts cx k I p a (seqK (execK cx k b) K)
  | _ :: p, .seq _ b, K => konts cx k I p b K
  | 0 :: p, .cond _ a _, K => konts cx k I p a K
  | _ :: p, .cond _ _ b, K => konts cx k I p b K
  | _ :: p, .block id b, K => konts cx k I p b (blockK id K)
  | _ :: p, .scope b, K => konts cx k I p b K
  | _ :: p, .loop b, K => konts cx k I p b (stepK cx.pv (look cx.cuts (1000 + wqjx b)) (I (1000 + wqjx b)) K)
  | _, _, K => K
theorem DoesTo.mono {P : Program} {f : FuncId} {ps : List PV} {hp : List (Nm × HObj)} {O O' : Out → Prop} (h : DoesTo P f ps hp O) (ho : ∀ out, O out → O' out) : DoesTo P f ps hp O' :=
  fun G w vals h1 h2 h3 => (h G w vals h1 h2 h3).mono fun e w' ⟨out, h4, h5⟩ => ⟨out, ho out h4, h5⟩
def noMp : List (Nm × HObj) → Bool
  | [] => true
  | (_, .mp _ _ _) :: _ => false
  | _ :: r => noMp r
theorem wqhp : ∀ {hp : List (Nm × HObj)}, noMp hp = true → ∀ {n : Nm} {ag : MK} {V : Kd} {es : List (List UInt8 × V.T)}, look hp n = some (.mp ag V es) → False
  | [], _, n, ag, V, es, hl => by cases hl
  | (m, .mp _ _ _) :: r, h, n, ag, V, es, hl => by simp [noMp] at h
  | (m, .var t cs) :: r, h, n, ag, V, es, hl => by
    rw [look] at hl
    cases hb : Nat.beq m n with
    | true => rw [hb] at hl; cases hl
    | false => rw [hb] at hl; exact wqhp (hp := r) h hl
  | (m, .row e K xs) :: r, h, n, ag, V, es, hl => by
    rw [look] at hl
    cases hb : Nat.beq m n with
    | true => rw [hb] at hl; cases hl
    | false => rw [hb] at hl; exact wqhp (hp := r) h hl
def wq1f3 (h : Heap) (G : Gh) (w : World) : PV → FrameMode → FrameMode → Prop
  | .nilif, u, u1 => u = .returning ∧ u1 = .returning
  | .ifc t p, u, u1 => ∃ v, RV h G w (.ifc t p) v ∧ u = .panicking [{ v, recovered := false }] ∧ u1 = .panicking [{ v, recovered := true }]
  | _, _, _ => False
def DoesToD (P : Program) (g : FuncId) (rec : PV) (caps : List PV) (hp : List (Nm × HObj)) (O : Out → Prop) : Prop :=
  ∀ (G : Gh) (w : World) (vals : List Value) (u u1 : FrameMode), RVs (mkH hp) G w caps vals → wq1f3 (mkH hp) G w rec u u1 → (∀ n o, mkH hp n = some o → RO (mkH hp) G w n o) → Dis (mkH hp) G w →
    CallsD P g vals.toArray u w fun e u' w' => u' = u1 ∧ ∃ out, O out ∧ ∃ G', OutIs G' w' e out ∧ Fin hp out.hs G w G' w'
theorem DoesToD.mono {P : Program} {g : FuncId} {rec : PV} {caps : List PV} {hp : List (Nm × HObj)} {O O' : Out → Prop} (h : DoesToD P g rec caps hp O) (ho : ∀ out, O out → O' out) : DoesToD P g rec caps hp O' :=
  fun G w vals u u1 h1 h2 h3 h4 => (h G w vals u u1 h1 h2 h3 h4).mono fun e u' w' ⟨h5, out, h6, h7⟩ => ⟨h5, out, ho out h6, h7⟩
def fnCK (cx : Ctx) (k : Nat) {R : Type} (c : Code) (n : Nat) (rs : List ResultVar) (sp : RetSpec) (caps : List PV) (s : Nat) (rec : PV) (hp : List (Nm × HObj)) (K : Out → Option R) : Option R :=
  bif varsIn cx.pv hp && Nat.ble caps.length n && Nat.blt s n then execK cx k c ⟨upd (argsT caps) s rec, mkH hp⟩ (outK cx sp rs K) else none
def opsAt : Code → Array Oper
  | .region _ ops _ => ops
  | _ => #[]
def recOps (ops : List Oper) : Option Nat :=
  match ops with
  | [o] => match o.guard, o.dst, o.op with
    | none, some s, .call { callee := .builtin .recover, args, .. } => bif Nat.beq args.size 0 then some s else none
    | _, _, _ => none
  | _ => none
theorem wq1bv {ops : Array Oper} {s : Nat} (h : recOps ops.toList = some s) : ∃ o ats, ops = #[o] ∧ o.guard = none ∧ o.dst = some s ∧ o.op = .call { callee := .builtin .recover, args := #[], argTypes := ats } := by
  unfold recOps at h
  split at h
  · next o hl =>
    split at h
    · next e1 e2 e3 =>
      next args _ =>
      cases hb : Nat.beq args.size 0 with
      | false => rw [hb] at h; cases h
      | true =>
        rw [hb, cond_true] at h
        cases h
        have ha : args = #[] := Array.eq_empty_of_size_eq_zero (beqN.1 hb)
        subst ha
        exact ⟨o, _, by apply Array.ext'; simpa using hl, e1, e2, e3⟩
    · cases h
  · cases h
def wq19f (ops : List Oper) : Option (Nat × FuncId × List Operand) :=
  match ops with
  | [o1, o2] => match o1.guard, o2.guard, o1.dst, o2.dst with
    | none, none, some s, none => match o1.op, o2.op with
      | .makeFunc (.func g) first caps, .defer { callee := .value (.tmp s'), args, .. } => bif Nat.beq first.size 0 && Nat.beq s' s && Nat.beq args.size 0 then some (s, g, caps.toList) else none
      | _, _ => none
    | _, _, _, _ => none
  | _ => none
def wq16s (st : St) : List Operand → List (Nm × Nat) → Bool
  | [], [] => true
  | x :: xs, (n, off) :: r => (match useO [] (st.get x) with | .ptr m o => Nat.beq m n && Nat.beq o off | _ => false) && wq16s st xs r
  | _, _ => false
def capsIn (st : St) (pv : List Nm) : List (Nm × Nat) → Bool
  | [] => true
  | (n, _) :: r => isIn n pv && (match st.h n with | some (.var _ _) => true | _ => false) && capsIn st pv r
def capP : List (Nm × Nat) → List PV
  | [] => []
  | (n, off) :: r => .ptr n off :: capP r
def wqxf (ks : List Nat) : List ResultVar → Bool
  | [] => true
  | .tmp t :: r => isIn t ks && wqxf ks r
  | .cell a _ :: r => isIn a ks && wqxf ks r
def modeOk (pan : Bool) : PV → Bool
  | .nilif => !pan
  | .ifc _ _ => pan
  | _ => false
def callD (cx : Ctx) {R : Type} (runD : PV → List PV → List (Nm × HObj) → (Out → Option R) → Option R) (sigD : List LS) (caps : List (Nm × Nat)) (sp : RetSpec) (rs : List ResultVar) (K : Out → Option R) (pan : Bool) (rec : PV) (st : St) : Option R :=
  match normPs st.h ⟨[], [], []⟩ (.any :: sigD) (rec :: capP caps) with
  | some (q :: ps, na) => bif fine na && modeOk pan q then runD q ps na.hp fun o => match o with
      | .ret _ hs => match back st 9000 na hs (hasSlH hs) with
        | some st' => retK cx sp rs st' K
        | none => none
      | .pan _ _ => none
    else none
  | _ => none
def endD (cx : Ctx) {R : Type} (runD : PV → List PV → List (Nm × HObj) → (Out → Option R) → Option R) (sigD : List LS) (caps : List (Nm × Nat)) (sp : RetSpec) (rs : List ResultVar) (K : Out → Option R) : Ex → St → Option R := fun e st => match e with
  | .normal => callD cx runD sigD caps sp rs K false .nilif st
  | .ret => callD cx runD sigD caps sp rs K false .nilif st
  | .panic p => callD cx runD sigD caps sp rs K true p st
  | .exit _ => none
def dfrK {R : Type} (ex : Ctx → Code → St → (Ex → St → Option R) → Option R) (cx : Ctx) (pv2 : List Nm) (pre : Code) (ops : Array Oper) (rest : Code) (n : Nat) (rs : List ResultVar) (sp : RetSpec)
    (runD : PV → List PV → List (Nm × HObj) → (Out → Option R) → Option R) (sigD : List LS) (caps : List (Nm × Nat)) (args : List PV) (hp : List (Nm × HObj)) (K : Out → Option R) : Option R :=
  bif varsIn cx.pv hp && Nat.ble args.length n && subL cx.pv pv2 && wqxf cx.keep rs then
    ex cx pre ⟨argsT args, mkH hp⟩ fun e st => match e with
      | .normal => match wq19f ops.toList with
        | some (s, g, xs) => bif wq16s st xs caps && capsIn st pv2 caps && Nat.blt s n then
            ex { cx with pv := pv2 } rest ⟨upd st.t s (.clo g (capP caps)), st.h⟩ (endD cx runD sigD caps sp rs K)
          else none
        | none => none
      | _ => none
  else none
def fnDK (cx : Ctx) (k : Nat) {R : Type} (pv2 : List Nm) (pre : Code) (ops : Array Oper) (rest : Code) (n : Nat) (rs : List ResultVar) (sp : RetSpec)
    (runD : PV → List PV → List (Nm × HObj) → (Out → Option R) → Option R) (sigD : List LS) (caps : List (Nm × Nat)) (args : List PV) (hp : List (Nm × HObj)) (K : Out → Option R) : Option R :=
  dfrK (fun cx c st K => execK cx k c st K) cx pv2 pre ops rest n rs sp runD sigD caps args hp K
section
variable {P : Program} {w0 : World} {fr : Nat → Prop} {X0 : Org} {n : Nat} {ds : List Deferred} {st : St} {G : Gh} {a : Act} {w : World}
theorem nblt {a b : Nat} (h : Nat.blt a b = true) : a < b := Nat.le_of_ble_eq_true h
theorem wq1f4 {cx : Ctx} (X : cx.Ok P) (hm : P.follows .mixedOrders = true) {f : FuncId} {fn : Func} {id : Nat} {ops : Array Oper} {c : Code} (hfn : P.funcs[f]? = some fn) (hb : fn.body = some (.seq (.region id ops false) c))
    {s : Nat} (hops : recOps ops.toList = some s) {rs : List ResultVar} (hrs : fn.results.toList = rs) (hco : codeOk fn.ntmps c = true)
    {k : Nat} {R0 : Type} {sp : RetSpec} {caps : List PV} {rec : PV} {hp : List (Nm × HObj)} {K : Out → Option R0} {r : R0} (he : fnCK cx k c fn.ntmps rs sp caps s rec hp K = some r) : DoesToD P f rec caps hp fun out => K out = some r := by
  intro G w vals u u1 hr hmode obj dis
  obtain ⟨o, ats, hops, hg, hds, hop⟩ := wq1bv hops
  unfold fnCK at he
  cases hc1 : (varsIn cx.pv hp && Nat.ble caps.length fn.ntmps && Nat.blt s fn.ntmps) with
  | false => rw [hc1] at he; cases he
  | true =>
    rw [hc1, cond_true] at he
    simp only [Bool.and_eq_true] at hc1
    obtain ⟨⟨hc0, hc2⟩, hc3⟩ := hc1
    have R := Rel.start hr obj dis (Nat.le_of_ble_eq_true hc2)
    have hf : ∀ b, frOf hp G w b → b < w.heap.size := fun b hb => hb.1
    have hpv : ∀ x ∈ (orgOf hp G).vs, x.1 ∈ cx.pv := fun x hx => wqtn hc0 x (List.mem_filter.1 hx).1
    have hret : ∀ {st : St} {G' : Gh} {a : Act} {w' : World}, retK cx sp rs st K = some r → Rel w (frOf hp G w) (orgOf hp G) fn.ntmps [] st G' a w' → ∃ v, (results fn a.tmps).run P w' = .ok v w' ∧ ∃ out, K out = some r ∧ ∃ G'', OutIs G'' w' (.returned v) out ∧ Fin hp out.hs G w G'' w' := by
      intro st G' a w' he R
      unfold retK at he
      split at he
      · cases he
      · next ps hps =>
        obtain ⟨vs, h1, h2⟩ := wq16q X R rs hps
        obtain ⟨qs, hs, G'', h3, h4, h5⟩ := wq16r R hc0 h1 he
        exact ⟨_, wqtm hrs h2, .ret qs hs, h3, G'', ⟨_, rfl, tup_ok h4⟩, h5⟩
    refine callsD_of_wpS hfn hb fun c₀ cs hu => ?_
    refine wpS_seq (wpS_region ?_)
    subst hops
    have hwant : Region.wanted o (yielded #[o] (vals.toArray ++ Array.replicate (fn.ntmps - vals.toArray.size) undef)) = true := by simp [Region.wanted, hg]
    have hrun : ∀ ρ : Operand → Value, (execOp ρ o).run P w = .ok .recover w := by
      intro ρ
      simp [execOp, hop, resolve, invoke, builtin]
    have key : ∀ (v : Value) (cs' : List Frame), RV (mkH hp) G w rec v → cs' = { c₀ with mode := u1 } :: cs →
        Exit.thenS (c.wpS P (bodyPostS P fn c₀ cs fun e u' w' => u' = u1 ∧ ∃ out, K out = some r ∧ ∃ G', OutIs G' w' e out ∧ Fin hp out.hs G w G' w')) (bodyPostS P fn c₀ cs fun e u' w' => u' = u1 ∧ ∃ out, K out = some r ∧ ∃ G', OutIs G' w' e out ∧ Fin hp out.hs G w G' w') .normal
          (({ tmps := vals.toArray ++ Array.replicate (fn.ntmps - vals.toArray.size) undef, defers := [] } : Act).put o.dst v) cs' w := by
      rintro v cs' hv rfl
      show c.wpS _ _ _ _ _
      rw [hds]
      have R2 := R.putV hf (d := some s) (fun i hi => by cases hi; exact nblt hc3) hv
      refine wpS_of_wp (wp_mono (wqdr X hpv hm k hf c hco he R2) fun e a w' h => ?_)
      cases e with
      | normal =>
        obtain ⟨st, G', h1, h2⟩ := h
        obtain ⟨v, h3, h4⟩ := hret h1 h2
        exact ⟨h2.defers, u1, rfl, v, h3, rfl, h4⟩
      | ret =>
        obtain ⟨st, G', h1, h2⟩ := h
        obtain ⟨v, h3, h4⟩ := hret h1 h2
        exact ⟨h2.defers, u1, rfl, v, h3, rfl, h4⟩
      | panic ch =>
        obtain ⟨st, G', a0, p, v, rfl, h1, h2, h3, h4, _⟩ := h
        refine ⟨h4.trans h2.defers, u1, rfl, rfl, ?_⟩
        simp only [outK] at h1
        unfold panK at h1
        obtain ⟨qs, hs, G'', h5, h6, h7⟩ := wq16r h2 hc0 (ps := [p]) (vs := [v]) ⟨v, [], rfl, h3, rfl⟩ h1
        split at h5
        · next q =>
          obtain ⟨u, l, hu, h8, h9⟩ := h6
          cases hu
          exact ⟨.pan q hs, h5, G'', ⟨v, rfl, h8⟩, h7⟩
        · cases h5
      | exit i => obtain ⟨st, G', h1, h2⟩ := h; cases h1
      | goto l => exact h
      | outgrown => exact h.elim
    show wpOpsS P #[o] _ [0] _ _ _
    simp only [wpOpsS, List.getElem?_toArray, List.getElem?_cons_zero, hwant, if_true, hrun]
    cases rec with
    | nilif =>
      obtain ⟨rfl, rfl⟩ := hmode
      have hrec : recoverD (c₀ :: cs) = none := by simp [recoverD, hu]
      rw [hrec]
      refine key .nilIface (c₀ :: cs) rfl ?_
      cases c₀; simp_all
    | ifc t p =>
      obtain ⟨v, hv, rfl, rfl⟩ := hmode
      have hrec : recoverD (c₀ :: cs) = some (v, { c₀ with mode := .panicking [{ v, recovered := true }] } :: cs) := by simp [recoverD, hu]
      rw [hrec]
      exact key v _ hv rfl
    | _ => exact hmode.elim
theorem wqxg {ks : List Nat} {a a0 : Act} (h : ∀ i ∈ ks, tmOf a i = tmOf a0 i) : ∀ {rs : List ResultVar}, wqxf ks rs = true → rs.mapM (resF a.tmps) = rs.mapM (resF a0.tmps)
  | [], _ => rfl
  | .tmp t :: r, hk => by
    simp only [wqxf, Bool.and_eq_true] at hk
    have e1 : a.tmps.getD t undef = a0.tmps.getD t undef := h t (wq84.1 hk.1)
    rw [List.mapM_cons, List.mapM_cons, wqxg h hk.2]
    simp only [resF, e1]
  | .cell x t :: r, hk => by
    simp only [wqxf, Bool.and_eq_true] at hk
    have e1 : a.tmps.getD x undef = a0.tmps.getD x undef := h x (wq84.1 hk.1)
    rw [List.mapM_cons, List.mapM_cons, wqxg h hk.2]
    simp only [resF, e1]
theorem wq16t (R : Rel w0 fr X0 n ds st G a w) : ∀ (xs : List Operand) (caps : List (Nm × Nat)), wq16s st xs caps = true → RVs st.h G w (capP caps) (xs.map a.eval)
  | [], [], _ => rfl
  | [], _ :: _, h => by cases h
  | x :: xs, [], h => by cases h
  | x :: xs, (m, off) :: r, h => by
    simp only [wq16s, Bool.and_eq_true] at h
    obtain ⟨h1, h2⟩ := h
    refine ⟨a.eval x, xs.map a.eval, rfl, ?_, wq16t R xs r h2⟩
    have := R.use noTags x
    split at h1
    · next m' o' hx =>
      rw [hx] at this
      simp only [Bool.and_eq_true] at h1
      rw [beqN.1 h1.1, beqN.1 h1.2] at this
      exact this
    · cases h1
theorem wq1b3 {pv : List Nm} : ∀ {caps : List (Nm × Nat)}, capsIn st pv caps = true → ∀ x ∈ caps, x.1 ∈ pv ∧ ∃ t cs, st.h x.1 = some (.var t cs)
  | [], _, x, hx => by cases hx
  | (m, off) :: r, h, x, hx => by
    simp only [capsIn, Bool.and_eq_true] at h
    obtain ⟨⟨h1, h2⟩, h3⟩ := h
    rcases List.mem_cons.1 hx with rfl | hx
    · refine ⟨wq84.1 h1, ?_⟩
      split at h2
      · next t cs ht => exact ⟨t, cs, ht⟩
      · cases h2
    · exact wq1b3 h3 x hx
def typeIn (h : Heap) (n : Nm) : TypeId := match h n with | some (.var t _) => t | _ => 0
def capOrg (st : St) (G : Gh) : List (Nm × Nat) → List (Nm × TypeId × Nat)
  | [] => []
  | (n, _) :: r => (n, typeIn st.h n, G.bk n) :: capOrg st G r
theorem wqxh {st : St} {G : Gh} : ∀ {caps : List (Nm × Nat)} {x}, x ∈ capOrg st G caps → ∃ y ∈ caps, x = (y.1, typeIn st.h y.1, G.bk y.1)
  | [], x, h => by cases h
  | (n, off) :: r, x, h => by
    rw [capOrg] at h
    rcases List.mem_cons.1 h with rfl | h
    · exact ⟨_, List.mem_cons_self, rfl⟩
    · obtain ⟨y, hy, e⟩ := wqxh h
      exact ⟨y, List.mem_cons_of_mem _ hy, e⟩
theorem wq1b4 {st : St} {G : Gh} : ∀ {caps : List (Nm × Nat)} {y}, y ∈ caps → (y.1, typeIn st.h y.1, G.bk y.1) ∈ capOrg st G caps
  | (n, off) :: r, y, h => by
    rw [capOrg]
    rcases List.mem_cons.1 h with rfl | h
    · exact List.mem_cons_self
    · exact List.mem_cons_of_mem _ (wq1b4 h)
theorem wq16u {st0 : St} {G0 : Gh} {w0' : World} : ∀ {caps : List (Nm × Nat)} {vals : List Value}, RVs st0.h G0 w0' (capP caps) vals → (∀ y ∈ caps, (∃ t cs, st.h y.1 = some (.var t cs)) ∧ G.bk y.1 = G0.bk y.1) → RVs st.h G w (capP caps) vals
  | [], vals, hr, _ => hr
  | (m, off) :: r, vals, ⟨v, l, e, hv, hl⟩, h => by
    obtain ⟨rfl, _⟩ := hv
    obtain ⟨⟨t, cs, h1⟩, h2⟩ := h (m, off) List.mem_cons_self
    exact ⟨_, l, e, ⟨by rw [h2], t, cs, h1⟩, wq16u hl fun y hy => h y (List.mem_cons_of_mem _ hy)⟩
theorem wq1gl {l r : List Nat} (h : subL l r = true) : ∀ x ∈ l, x ∈ r := by
  induction l with
  | nil => intro x hx; cases hx
  | cons n l ih =>
    simp only [subL, Bool.and_eq_true] at h
    intro x hx
    rcases List.mem_cons.1 hx with rfl | hx
    · exact wq84.1 h.1
    · exact ih h.2 x hx
def Invokes (P : Program) (g : FuncId) : Prop := ∀ (cap : Array Value) (w : World), (invoke (.fn (.func g) cap) #[]).run P w = .ok (.enter g cap) w
theorem Invokes.of {f : FuncId} {fn : Func} {c : Code} (hfn : P.funcs[f]? = some fn) (hb : fn.body = some c) (hname : (fn.name == "runtime.NumGoroutine") = false) : Invokes P f := by
  intro cap w
  have hn2 : ¬ fn.name = "runtime.NumGoroutine" := by simpa using hname
  simp [invoke, callFunc, program, Sem.run, hfn, hn2, hb]
theorem wq1gm {cx : Ctx} (X : cx.Ok P) (hm : P.follows .mixedOrders = true) {f : FuncId} {fn : Func} {pre rest : Code} {id : Nat} {ops : Array Oper} (hfn : P.funcs[f]? = some fn) (hb : fn.body = some (.seq pre (.seq (.region id ops false) rest)))
    (hname : (fn.name == "runtime.NumGoroutine") = false) {rs : List ResultVar} (hrs : fn.results.toList = rs) (hco : codeOk fn.ntmps pre = true) (hco2 : codeOk fn.ntmps rest = true)
    {g : FuncId} {s : Nat} {xs : List Operand} (hops : wq19f ops.toList = some (s, g, xs))
    {k : Nat} {R0 : Type} {sp : RetSpec} {pv2 : List Nm} {runD : PV → List PV → List (Nm × HObj) → (Out → Option R0) → Option R0} {sigD : List LS} {caps : List (Nm × Nat)}
    (hinv : Invokes P g) (hrunD : ∀ rec ps hp (K : Out → Option R0) (r : R0), runD rec ps hp K = some r → DoesToD P g rec ps hp fun out => K out = some r)
    {args : List PV} {hp : List (Nm × HObj)} {K : Out → Option R0} {r : R0} (he : fnDK cx k pv2 pre ops rest fn.ntmps rs sp runD sigD caps args hp K = some r) : DoesTo P f args hp fun out => K out = some r := by
  intro G w vals hr obj dis
  unfold fnDK dfrK at he
  cases hc1 : (varsIn cx.pv hp && Nat.ble args.length fn.ntmps && subL cx.pv pv2 && wqxf cx.keep rs) with
  | false => rw [hc1] at he; cases he
  | true =>
    rw [hc1, cond_true] at he
    simp only [Bool.and_eq_true] at hc1
    obtain ⟨⟨⟨hc0, hc2⟩, hsub⟩, hkeep⟩ := hc1
    have hrun : (callFunc f vals.toArray).run P w = .ok (.enter f vals.toArray) w := by
      have hn2 : ¬ fn.name = "runtime.NumGoroutine" := by simpa using hname
      simp [callFunc, program, Sem.run, hfn, hn2, hb]
    unfold Does
    rw [hrun]
    have R := Rel.start hr obj dis (Nat.le_of_ble_eq_true hc2)
    have hf : ∀ b, frOf hp G w b → b < w.heap.size := fun b hb => hb.1
    have hpv : ∀ x ∈ (orgOf hp G).vs, x.1 ∈ cx.pv := fun x hx => wqtn hc0 x (List.mem_filter.1 hx).1
    refine calls_of_wp_defers hfn hb (wp_seq (wp_mono (wqdr X hpv hm k hf pre hco he R) fun e a1 w1 h => ?_))
    cases e with
    | exit i => obtain ⟨st, G', h1, h2⟩ := h; cases h1
    | ret => obtain ⟨st, G', h1, h2⟩ := h; cases h1
    | panic ch => obtain ⟨st, G', a0, p, v, rfl, h1, h2⟩ := h; cases h1
    | goto l => exact h.elim
    | outgrown => exact h.elim
    | normal =>
      obtain ⟨st1, G1, h1, R1⟩ := h
      simp only [hops] at h1
      cases hc3 : (wq16s st1 xs caps && capsIn st1 pv2 caps && Nat.blt s fn.ntmps) with
      | false => rw [hc3] at h1; cases h1
      | true =>
        rw [hc3, cond_true] at h1
        simp only [Bool.and_eq_true] at hc3
        obtain ⟨⟨hca, hci⟩, hs⟩ := hc3
        have hcaps := wq16t R1 xs caps hca
        have hcin := wq1b3 hci
        have hsh : ∃ o1 o2 first cps args ats s', ops.toList = [o1, o2] ∧ o1.guard = none ∧ o2.guard = none ∧ o1.dst = some s ∧ o2.dst = none ∧ o1.op = .makeFunc (.func g) first cps ∧ o2.op = .defer { callee := .value (.tmp s'), args := args, argTypes := ats } ∧ first = #[] ∧ s' = s ∧ args = #[] ∧ cps.toList = xs := by
          unfold wq19f at hops
          split at hops
          · next o1 o2 hl =>
            split at hops
            · next e1 e2 e3 e4 =>
              split at hops
              · next g' first cps s1 args ats e5 e6 =>
                cases hbb : (Nat.beq first.size 0 && Nat.beq s1 _ && Nat.beq args.size 0) with
                | false => rw [hbb] at hops; cases hops
                | true =>
                  rw [hbb, cond_true] at hops
                  cases hops
                  simp only [Bool.and_eq_true] at hbb
                  exact ⟨o1, o2, first, cps, args, _, s1, hl, e1, e2, e3, e4, e5, e6, Array.eq_empty_of_size_eq_zero (beqN.1 hbb.1.1), beqN.1 hbb.1.2, Array.eq_empty_of_size_eq_zero (beqN.1 hbb.2), rfl⟩
              · cases hops
            · cases hops
          · cases hops
        obtain ⟨o1, o2, first, cps, args', ats, s', hl, g1, g2, d1, d2, p1, p2, rfl, rfl, rfl, hx⟩ := hsh
        have hs := nblt hs
        have hsz := R1.size
        let F : Value := .func (.func g) #[] (cps.map a1.eval)
        let d : Deferred := { target := .fn (.func g) (cps.map a1.eval), args := #[] }
        let a2 : Act := { (a1.put (some s') F) with defers := d :: a1.defers }
        have hcapsA : RVs st1.h G1 w1 (capP caps) (cps.map a1.eval).toList := by rw [Array.toList_map, hx]; exact hcaps
        let X0' : Org := ⟨(orgOf hp G).X, capOrg st1 G1 caps ++ (orgOf hp G).vs⟩
        have R2 : Rel w (frOf hp G w) X0' fn.ntmps [d] ⟨upd st1.t s' (.clo g (capP caps)), st1.h⟩ G1 a2 w1 := by
          have := R1.putV hf (d := some s') (fun i hi => by cases hi; exact hs) (p := .clo g (capP caps)) (v := F) ⟨(cps.map a1.eval).toList, by simp only [F, Array.toArray_toList], hcapsA⟩
          refine ⟨this.tm, this.size, this.obj, this.dis, this.apart, this.xfr, this.xeq, fun x hx => ?_, this.ext, this.grow, this.os, this.tape, this.out, by simp [a2, R1.defers]⟩
          rcases List.mem_append.1 hx with hx | hx
          · obtain ⟨y, hy, rfl⟩ := wqxh hx
            obtain ⟨_, t, cs, ht⟩ := hcin y hy
            exact ⟨⟨cs, by simp only [typeIn]; rw [show st1.h y.1 = _ from ht]⟩, rfl⟩
          · exact this.org x hx
        have hpv2 : ∀ x ∈ X0'.vs, x.1 ∈ pv2 := by
          intro x hx
          rcases List.mem_append.1 hx with hx | hx
          · obtain ⟨y, hy, rfl⟩ := wqxh hx
            exact (hcin y hy).1
          · exact wq1gl hsub _ (hpv x hx)
        have X2 : Ctx.Ok P { cx with pv := pv2 } := ⟨X.ty, X.C, X.sh⟩
        have fin : ∀ {pan : Bool} {rec : PV} {v : Value} {st : St} {G' : Gh} {a b : Act} {w' : World}, rs.mapM (resF b.tmps) = rs.mapM (resF a.tmps) → b.defers = a.defers → callD cx runD sigD caps sp rs K pan rec st = some r → Rel w (frOf hp G w) X0' fn.ntmps [d] st G' a w' → RV st.h G' w' rec v →
            Leaves P fn b.tmps (fun e w' => ∃ out, K out = some r ∧ ∃ G', OutIs G' w' e out ∧ Fin hp out.hs G w G' w') b.defers (bif pan then .panicking [{ v, recovered := false }] else .returning) w' := by
          intro pan rec v st G' a b w' hbm hbd he R3 hv
          rw [hbd, R3.defers]
          refine leaves_cons (f := g) (args := cps.map a1.eval) (by cases pan <;> simp) (hinv _ _) ?_
          unfold callD at he
          split at he
          · next q ps na hn =>
            cases hfi : (fine na && modeOk pan q) with
            | false => rw [hfi] at he; cases he
            | true =>
              rw [hfi, cond_true] at he
              simp only [Bool.and_eq_true] at hfi
              obtain ⟨hfi, hmo⟩ := hfi
              have hc := hrunD _ _ _ _ _ he
              have F0 : Found st.h ⟨[], [], []⟩ := ⟨fun k o hk => (by cases hk), fun m hm => (by cases hm)⟩
              obtain ⟨F1, L1⟩ := normPs_found _ _ _ hn F0
              have S : Sub st.h G' w' na := ⟨wqwi hfi, F1, R3.obj, R3.toDis hf⟩
              have hcl : RVs st.h G' w' (capP caps) (cps.map a1.eval).toList := by
                refine wq16u hcapsA fun y hy => ?_
                obtain ⟨⟨cs, h1⟩, h2⟩ := R3.org (y.1, typeIn st1.h y.1, G1.bk y.1) (List.mem_append_left _ (wq1b4 hy))
                exact ⟨⟨_, cs, h1⟩, h2⟩
              obtain ⟨h1, h2⟩ := Sub.norms S _ _ _ hn (.refl na) F0 (vs := v :: (cps.map a1.eval).toList) ⟨v, _, rfl, hv, hcl⟩
              obtain ⟨v', l', hvl, hq, hps⟩ := h1
              simp only [List.cons.injEq] at hvl
              obtain ⟨rfl, rfl⟩ := hvl
              have hobj : ∀ k o, mkH na.hp k = some o → RO (mkH na.hp) (subG G' na (subX st.h G' na)) w' k o := fun k o hk => by
                rcases h2 (k, o) (wq3a hk) with h | h
                · cases h
                · exact h
              have hrec : wq1f3 (mkH na.hp) (subG G' na (subX st.h G' na)) w' q (bif pan then .panicking [{ v, recovered := false }] else .returning) (bif pan then .panicking [{ v, recovered := true }] else .returning) := by
                cases q with
                | nilif => cases pan with
                  | false => exact ⟨rfl, rfl⟩
                  | true => cases hmo
                | ifc t p => cases pan with
                  | false => cases hmo
                  | true => exact ⟨v, hq, rfl, rfl⟩
                | _ => cases hmo
              have hcd := hc _ w' _ _ _ hps hrec hobj S.toDis
              rw [Array.toArray_toList] at hcd
              refine hcd.mono fun e u' w'' hh => ?_
              obtain ⟨rfl, out, ho, G3, hout, Fi⟩ := hh
              cases out with
              | pan p hs => cases ho
              | ret rs' hs' =>
                obtain ⟨v3, rfl, hv3⟩ := hout
                simp only at ho
                split at ho
                · next st' hbk =>
                  obtain ⟨G4, L, ht, hren⟩ := wq1cv S hbk Fi (fun h => h)
                  have R4 := R3.loud0 hf L
                  rw [← ht] at R4
                  have R5 : Rel w (frOf hp G w) (orgOf hp G) fn.ntmps [d] st' G4 a w'' :=
                    ⟨R4.tm, R4.size, R4.obj, R4.dis, R4.apart, R4.xfr, R4.xeq, fun x hx => R4.org x (List.mem_append_right _ hx), R4.ext, R4.grow, R4.os, R4.tape, R4.out, R4.defers⟩
                  have hset : settle (bif pan then .panicking [{ v, recovered := true }] else .returning) = .returning := by cases pan <;> rfl
                  show Leaves P fn b.tmps _ [] (settle _) w''
                  rw [hset]
                  unfold retK at ho
                  split at ho
                  · cases ho
                  · next ps2 hps2 =>
                    obtain ⟨vs, h1, h2⟩ := wq16q X R5 rs hps2
                    obtain ⟨qs, hs2, G'', h3, h4, h5⟩ := wq16r R5 hc0 h1 ho
                    exact ⟨_, wqtm hrs (by rw [hbm]; exact h2), .ret qs hs2, h3, G'', ⟨_, rfl, tup_ok h4⟩, h5⟩
                · cases ho
          · cases he
        have hrest : rest.wp P (bodyPostD P fn fun e w' => ∃ out, K out = some r ∧ ∃ G', OutIs G' w' e out ∧ Fin hp out.hs G w G' w') a2 w1 := by
          refine wp_mono (wqdr X2 hpv2 hm k hf rest hco2 h1 R2) fun e a w' h => ?_
          cases e with
          | normal =>
            obtain ⟨st, G', h1, h2⟩ := h
            exact fin (pan := false) rfl rfl h1 h2 (v := .nilIface) rfl
          | ret =>
            obtain ⟨st, G', h1, h2⟩ := h
            exact fin (pan := false) rfl rfl h1 h2 (v := .nilIface) rfl
          | panic ch =>
            obtain ⟨st, G', a0, p, v, rfl, h1, h2, h3, h4, h5, h6⟩ := h
            exact fin (pan := true) (wqxg h6 hkeep) h4 h1 h2 h3
          | exit i => obtain ⟨st, G', h1, h2⟩ := h; cases h1
          | goto l => exact h
          | outgrown => exact h.elim
        refine wp_seq (wp_region_list ?_)
        rw [hl]
        have w1' : Region.wanted o1 (yielded ops a1.tmps) = true := by simp [Region.wanted, g1]
        have w2' : ∀ t, Region.wanted o2 (yielded ops t) = true := fun t => by simp [Region.wanted, g2]
        have e1 : (execOp a1.eval o1).run P w1 = .ok (.value F) w1 := by simp [execOp, p1, Instr.makeFunc, F]
        have e2 : (execOp (a1.put (some s') F).eval o2).run P w1 = .ok (.defer d) w1 := by
          have : (a1.put (some s') F).eval (.tmp s') = F := by
            simp [Act.eval, Act.put, hsz, hs]
          simp [execOp, p2, resolve, this, F, Deferred.ofValue, d]
        unfold wpList
        rw [if_pos w1']
        refine .inl ?_
        unfold Oper.wp
        rw [e1, Oper.upon_value, d1]
        unfold wpList
        rw [if_pos (w2' _)]
        refine .inl ?_
        unfold Oper.wp
        rw [e2, Oper.upon_defer, d2]
        exact hrest
end
end Go.Proofs.YtdfhgimidmfgfaaDoor.Pvm
namespace Go.Proofs.YtdfhgimidmfgfaaDoor.Pvm
open Go Go.RowKit
def Kd.lob : Kd → Nat
  | .int k => k.bits / 8
  | .bool => 1
  | .str => 16
  | .flt => 8
  | .sl _ => 24
  | .pr a b => a.lob + b.lob
  | .nil => 0
def Wf : (K : Kd) → K.T → Prop
  | .int k, x => k.min ≤ x ∧ x ≤ k.max
  | .bool, _ => True
  | .str, x => x.length ≤ 140737488351232
  | .flt, x => x < 2 ^ 64
  | .sl e, x => x.length * e.lob ≤ 140737488351232 ∧ ∀ y ∈ x, Wf e y
  | .pr a b, x => Wf a x.1 ∧ Wf b x.2
  | .nil, _ => True
def readFs (ty : TypeId → Option TI) (f : TypeId → Kd → Bool) : Nat → List (Nat × TypeId) → Kd → Bool
  | off, [(o, t)], K => Nat.beq o off && f t K && (match ty t with | some ti => Nat.beq ti.size K.sz | none => false)
  | off, (o, t) :: fs, .pr a b => Nat.beq o off && f t a && (match ty t with | some ti => Nat.beq ti.size a.sz | none => false) && readFs ty f (off + a.sz) fs b
  | _, _, _ => false
def readB (ty : TypeId → Option TI) : Nat → TypeId → Kd → Bool
  | 0, _, _ => false
  | n + 1, t, K => match ty t with
    | none => false
    | some ti => match ti.k, K with
      | .int k, .int k' => decide (k = k')
      | .bool, .bool => true
      | .str, .str => true
      | .flt, .flt => true
      | .slice, .sl e => (match ty ti.el with | some ei => Nat.blt 0 ei.size && Nat.beq ei.size e.sz && Nat.ble e.lob ei.bytes | none => false) && readB ty n ti.el e
      | .struct, K => readFs ty (readB ty n) 0 ti.fs K && Nat.beq ti.size K.sz
      | _, _ => false
section
variable {P : Program} {ty : TypeId → Option TI} {H : Type} {enc : TypeId × Value → H} {w : World} {spare : Nat → Bool} {held : Bool}
theorem TiOk.cellsOf {t : TypeId} {ti : TI} (h : TiOk P t ti) : P.cellsOf t = ti.size := by
  obtain ⟨i, z, h1, h2, _⟩ := h.info
  simp [Program.cellsOf, h1, h2]
theorem TiOk.bytesOf {t : TypeId} {ti : TI} (h : TiOk P t ti) : P.bytesOf t = ti.bytes := by
  obtain ⟨i, z, h1, _, h2, _⟩ := h.info
  simp [Program.bytesOf, h1, h2]
def ReadAt (P : Program) (enc : TypeId × Value → H) (w : World) (spare : Nat → Bool) (held : Bool) (t : TypeId) (K : Kd) : Prop :=
  ∀ (fuel : Nat) (cs : List Value) (d : DataW H) (ps : List MemPlace), DataW.trod enc P w 0 spare held fuel t cs = some (d, ps) → (∀ m ∈ DataW.weights P t d, m ≤ reachBytes) →
    ∃ x : K.T, RD w (fun _ => True) K x cs ∧ Wf K x
theorem wq1b5 (T : TyOk P ty) {f : TypeId → Kd → Bool} (hf : ∀ t K, f t K = true → ReadAt P enc w spare held t K) {n : Nat} {cs : List Value} :
    ∀ (fl : List Field) (tfs : List (Nat × TypeId)) (off : Nat) (K : Kd) (xs : List (DataW H × List MemPlace)), fl.map (fun g => (g.offset, g.type)) = tfs → readFs ty f off tfs K = true →
      (∀ (i : Nat) (g : Field), fl[i]? = some g → DataW.trod enc P w 0 spare held n g.type ((cs.drop g.offset).take (P.cellsOf g.type)) = xs[i]?) → xs.length = fl.length →
      (∀ m ∈ DataW.weightsEach P (fl.map (·.type)) (xs.map (·.1)), m ≤ reachBytes) → cs.length = off + K.sz →
      ∃ x : K.T, RD w (fun _ => True) K x (cs.drop off) ∧ Wf K x
  | [], tfs, off, K, xs, ht, hr, _, _, _, _ => by subst ht; simp [readFs] at hr
  | g :: fl, tfs, off, K, xs, ht, hr, hx, hl, hw, hc => by
    cases xs with
    | nil => simp at hl
    | cons x xs =>
      have h0 := hx 0 g (by simp)
      have key : ∀ a : Kd, Nat.beq g.offset off = true → f g.type a = true → (match ty g.type with | some ti => Nat.beq ti.size a.sz | none => false) = true → a.sz ≤ cs.length - off →
          ∃ y : a.T, RD w (fun _ => True) a y ((cs.drop off).take a.sz) ∧ Wf a y := by
        intro a h1 h2 h3 h4
        split at h3
        · next ti hti =>
          have hsz : P.cellsOf g.type = a.sz := by rw [(T _ _ hti).cellsOf]; exact beqN.1 h3
          rw [beqN.1 h1, hsz] at h0
          obtain ⟨d, ps⟩ := x
          refine hf _ _ h2 n _ d ps (by simpa using h0) fun m hm => hw m ?_
          simp [DataW.weightsEach, hm]
        · cases h3
      cases fl with
      | nil =>
        subst ht
        simp only [List.map_cons, List.map_nil, readFs, Bool.and_eq_true] at hr
        obtain ⟨⟨h1, h2⟩, h3⟩ := hr
        obtain ⟨y, hy1, hy2⟩ := key K h1 h2 h3 (by omega)
        refine ⟨y, ?_, hy2⟩
        rw [List.take_of_length_le (by rw [List.length_drop]; omega)] at hy1
        exact hy1
      | cons g2 fl =>
        subst ht
        cases K with
        | pr a b =>
          simp only [List.map_cons, readFs, Bool.and_eq_true] at hr
          obtain ⟨⟨⟨h1, h2⟩, h3⟩, h4⟩ := hr
          rw [Kd.sz] at hc
          obtain ⟨y, hy1, hy2⟩ := key a h1 h2 h3 (by omega)
          obtain ⟨z, hz1, hz2⟩ := wq1b5 T hf (n := n) (g2 :: fl) _ (off + a.sz) b xs rfl h4 (fun i g' hg' => by simpa using hx (i + 1) g' (by simpa using hg')) (by simpa using hl)
            (fun m hm => hw m (by simp [DataW.weightsEach] at hm ⊢; exact .inr hm)) (by omega)
          refine ⟨(y, z), ⟨(cs.drop off).take a.sz, (cs.drop off).drop a.sz, (List.take_append_drop _ _).symm, hy1, ?_⟩, hy2, hz2⟩
          rw [List.drop_drop]; exact hz1
        | _ => simp [readFs] at hr
theorem wqrm {e : TypeId} : ∀ {l : List (DataW H)} {d : DataW H}, d ∈ l → ∀ m ∈ DataW.weights P e d, m ∈ DataW.weightsAll P e l
  | a :: r, d, h, m, hm => by
    rw [DataW.weightsAll]
    rcases List.mem_cons.1 h with rfl | h
    · exact List.mem_append_left _ hm
    · exact List.mem_append_right _ (wqrm h m hm)
  | [], d, h, m, hm => by cases h
theorem wq1eo {P : Program} {w : World} {a : Addr} {n : Nat} {cs : List Value} (h : w.cells? 0 a n = some cs) : cs.length = n ∧ ∀ (j : Nat) (u : Value), cs[j]? = some u → w.cell? (a.add j) = some u := by
  unfold World.cells? at h
  rw [if_pos (Nat.zero_le _)] at h
  have key : ∀ (l : List Nat) (cs : List Value), l.mapM (fun i => w.cell? (a.add i)) = some cs → cs.length = l.length ∧ ∀ (j : Nat) (u : Value), cs[j]? = some u → ∃ i, l[j]? = some i ∧ w.cell? (a.add i) = some u := by
    intro l
    induction l with
    | nil => intro cs h; simp at h; subst h; exact ⟨rfl, fun j u hj => by simp at hj⟩
    | cons i l ih =>
      intro cs h
      rw [List.mapM_cons] at h
      cases hc : w.cell? (a.add i) with
      | none => rw [hc] at h; simp at h
      | some v =>
        cases hl : l.mapM (fun i => w.cell? (a.add i)) with
        | none => rw [hc, hl] at h; simp at h
        | some r =>
          rw [hc, hl] at h
          simp at h
          subst h
          obtain ⟨h1, h2⟩ := ih r hl
          refine ⟨by simp [h1], fun j u hj => ?_⟩
          cases j with
          | zero => simp at hj; subst hj; exact ⟨i, by simp, hc⟩
          | succ j => obtain ⟨i', h3, h4⟩ := h2 j u (by simpa using hj); exact ⟨i', by simpa using h3, h4⟩
  obtain ⟨h1, h2⟩ := key _ _ h
  refine ⟨by simpa using h1, fun j u hj => ?_⟩
  obtain ⟨i, h3, h4⟩ := h2 j u hj
  have hlt := (List.getElem?_eq_some_iff.1 h3).1
  have : i = j := by
    obtain ⟨_, e⟩ := List.getElem?_eq_some_iff.1 h3
    simpa using e.symm
  subst this
  exact h4
theorem wq1b6 (T : TyOk P ty) : ∀ (n : Nat) (t : TypeId) (K : Kd), readB ty n t K = true → ReadAt P enc w spare held t K
  | 0, t, K, h => by simp [readB] at h
  | n + 1, t, K, h => by
    intro fuel cs d ps ht hw
    rw [readB] at h
    split at h
    · cases h
    · next ti hti =>
      have hT := T _ _ hti
      obtain ⟨td, hu, hk⟩ := hT.kind
      split at h
      · next k k' hk1 =>
        have : k = k' := by simpa using h
        subst this
        rw [hk1] at hk; simp only at hk; subst hk
        obtain ⟨m, rfl, _, hwf⟩ := DataW.trod_int hu ht
        simp only [Lit.wf, Bool.and_eq_true, decide_eq_true_eq] at hwf
        exact ⟨m, rfl, hwf⟩
      · next hk1 =>
        rw [hk1] at hk; simp only at hk; subst hk
        obtain ⟨b, rfl, _⟩ := DataW.trod_bool hu ht
        exact ⟨b, rfl, trivial⟩
      · next hk1 =>
        rw [hk1] at hk; simp only at hk; subst hk
        obtain ⟨s, rfl, hx, _⟩ := DataW.trod_string hu ht
        cases hx
        refine ⟨s.data.toList, rfl, ?_⟩
        have := hw _ (by rw [DataW.weights]; exact List.mem_cons_self)
        simpa [Wf, reachBytes] using this
      · next hk1 =>
        rw [hk1] at hk; simp only at hk; subst hk
        cases fuel with
        | zero => simp [DataW.trod] at ht
        | succ m =>
          unfold DataW.trod at ht
          rw [hu] at ht
          split at ht
          case h_3 k k' b e1 =>
            simp only [Option.some.injEq, TypeDesc.float.injEq] at e1
            subst e1
            split at ht
            · next hh =>
              obtain ⟨rfl, hwf⟩ := hh
              refine ⟨b, rfl, ?_⟩
              simpa [Lit.wf, Wf] using hwf
            · cases ht
          all_goals simp_all
      · next e hk1 =>
        rw [hk1] at hk; simp only at hk; subst hk
        simp only [Bool.and_eq_true] at h
        obtain ⟨h1, h2⟩ := h
        split at h1
        · next ei hei =>
          simp only [Bool.and_eq_true] at h1
          obtain ⟨⟨h3, h4⟩, h5⟩ := h1
          have h3 : 0 < ei.size := Nat.le_of_ble_eq_true h3
          have h4 := beqN.1 h4
          have h5 := Nat.le_of_ble_eq_true h5
          have hE := T _ _ hei
          rcases DataW.trod_slice hu ht with ⟨rfl, _⟩ | ⟨a, len, cap, elems, rest, m, rfl, rfl, hx, _, hlc, hcm, hel, hat, _⟩
          · exact ⟨[], ⟨none, 0, rfl, Nat.le_refl _, .inl rfl⟩, by simp, fun y hy => by cases hy⟩
          · cases hx
            rw [DataW.weights, hu] at hw
            simp only at hw
            have hlen := hw _ List.mem_cons_self
            rw [List.length_map, List.length_map, hE.bytesOf] at hlen
            rw [hE.cellsOf, h4] at hat
            have ih := wq1b6 T n _ _ h2
            have each : ∀ i, i < len → ∃ (y : e.T) (c : List Value), RD w (fun _ => True) e y c ∧ Wf e y ∧ ∀ (j : Nat) (u : Value), c[j]? = some u → w.cell? (a.add (i * e.sz + j)) = some u := by
              intro i hi
              have h6 := hat i hi
              have h7 : elems[i]? = some elems[i] := by simp [hel, hi]
              rw [h7] at h6
              cases hc : w.cells? 0 (a.add (i * e.sz)) e.sz with
              | none => rw [hc] at h6; simp at h6
              | some c =>
                rw [hc, Option.bind_some] at h6
                obtain ⟨y, hy1, hy2⟩ := ih m c elems[i].1 elems[i].2 (by rw [h6]) (fun q hq => hw q (List.mem_cons_of_mem _ (List.mem_append_left _ (wqrm (List.mem_map.2 ⟨elems[i], List.getElem_mem _, rfl⟩) q hq))))
                obtain ⟨_, hcell⟩ := wq1eo (P := P) hc
                refine ⟨y, c, hy1, hy2, fun j u hj => ?_⟩
                rw [← Addr.add_add]; exact hcell j u hj
            have all : ∃ l : List e.T, l.length = len ∧ (∀ y ∈ l, Wf e y) ∧ ∀ (i : Nat) (y : e.T), l[i]? = some y → ∃ c, RD w (fun _ => True) e y c ∧ ∀ (j : Nat) (u : Value), c[j]? = some u → w.cell? (a.add (i * e.sz + j)) = some u := by
              have key : ∀ k, k ≤ len → ∃ l : List e.T, l.length = k ∧ (∀ y ∈ l, Wf e y) ∧ ∀ (i : Nat) (y : e.T), l[i]? = some y → ∃ c, RD w (fun _ => True) e y c ∧ ∀ (j : Nat) (u : Value), c[j]? = some u → w.cell? (a.add (i * e.sz + j)) = some u := by
                intro k
                induction k with
                | zero => intro _; exact ⟨[], rfl, fun y hy => (by cases hy), fun i y hi => by simp at hi⟩
                | succ k ihk =>
                  intro hk
                  obtain ⟨l, hl1, hl2, hl3⟩ := ihk (by omega)
                  obtain ⟨y, c, e1, e2, e3⟩ := each k (by omega)
                  refine ⟨l ++ [y], by simp [hl1], fun z hz => ?_, fun i z hz => ?_⟩
                  · rcases List.mem_append.1 hz with hz | hz
                    · exact hl2 z hz
                    · simp at hz; subst hz; exact e2
                  · by_cases hi : i < l.length
                    · rw [List.getElem?_append_left hi] at hz; exact hl3 i z hz
                    · rw [List.getElem?_append_right (by omega)] at hz
                      have hi2 : i = k := by
                        have := (List.getElem?_eq_some_iff.1 hz).1
                        simp at this; omega
                      subst hi2
                      simp [hl1] at hz; subst hz
                      exact ⟨c, e1, e3⟩
              exact key len (Nat.le_refl _)
            obtain ⟨l, hl1, hl2, hl3⟩ := all
            refine ⟨l, ⟨some a, cap, by rw [hl1], by omega, ?_⟩, ?_, hl2⟩
            · by_cases hnil : l = []
              · exact .inl hnil
              · refine .inr ⟨a, rfl, trivial, ?_, hl3⟩
                have hpos : 0 < l.length := List.length_pos_iff.2 hnil
                obtain ⟨c, hc, hu'⟩ := hl3 0 l[0] (by simp)
                have hcl := hc.len
                have h0c : 0 < c.length := by omega
                have := hu' 0 c[0] (by simp [h0c])
                simp only [Nat.zero_mul, Nat.add_zero, Addr.add_zero'] at this
                refine Classical.byContradiction fun hno => ?_
                simp [World.cell?, Array.getElem?_eq_none (Nat.le_of_not_lt hno)] at this
            · rw [hl1, ← hel]
              refine Nat.le_trans (Nat.mul_le_mul_left _ h5) ?_
              refine Nat.le_trans (Nat.mul_le_mul_right _ (Nat.le_add_right _ rest.length)) ?_
              simpa [reachBytes] using hlen
        · cases h1
      · next hk1 =>
        rw [hk1] at hk; simp only at hk
        obtain ⟨fs, rfl, hfs, _⟩ := hk
        simp only [Bool.and_eq_true] at h
        obtain ⟨h1, h2⟩ := h
        obtain ⟨xs, m, rfl, hx, hcl, hxl, hat⟩ := DataW.trod_struct hu ht
        cases hx
        rw [DataW.weights, hu] at hw
        simp only at hw
        rw [hT.cellsOf, beqN.1 h2] at hcl
        have := wq1b5 (enc := enc) (w := w) (spare := spare) (held := held) T (f := readB ty n) (fun t K h => wq1b6 T n t K h) (n := m) (cs := cs) fs.toList ti.fs 0 _ xs hfs h1 (fun i g hg => hat i g (by simpa using hg)) (by simpa using hxl) hw (by omega)
        rwa [List.drop_zero] at this
      · cases h
theorem okT {h : Heap} {G : Gh} (hh : ∀ n, h n = none) (hX : ∀ b, ¬ G.X b) {b : Nat} : okB h G b := ⟨fun n hn => by simp [blkOf, hh n] at hn, hX b⟩
theorem wq1dk (T : TyOk P ty) {n base : Nat} {r : Reach} {t : TypeId} {K : Kd} (hr : readB ty n t K = true) (hs : (match ty t with | some ti => (match ti.k with | .struct => false | _ => true) | none => false) = true) {v : Value} {d : DataW H} {p : List MemPlace} (hval : Value.okWide P w r base t v) (hd : DataW.Trod enc P w 0 spare held t v d p)
    (hw : ∀ m ∈ DataW.weights P t d, m ≤ reachBytes) {h : Heap} {G : Gh} (hh : ∀ n, h n = none) (hX : ∀ b, ¬ G.X b) : ∃ x : K.T, Wf K x ∧ RV h G w (.v K x) v := by
  obtain ⟨fuel, hf⟩ := hd
  obtain ⟨x, h1, h2⟩ := wq1b6 T n t K hr fuel _ d p hf hw
  refine ⟨x, h2, ?_⟩
  have hc : v.cells.toList = [v] := by
    split at hs
    · next ti hti =>
      obtain ⟨td, hu, hk⟩ := (T _ _ hti).kind
      rw [readB.eq_def] at hr
      cases n with
      | zero => simp at hr
      | succ n =>
        simp only [hti] at hr
        split at hr
        · next hk1 => rw [hk1] at hk; simp only at hk; subst hk; obtain ⟨m, rfl⟩ := WideShapes.okWide_int hu hval; rfl
        · next hk1 => rw [hk1] at hk; simp only at hk; subst hk; simp only [Value.okWide, hu, Cell.okWide] at hval; cases v <;> simp_all [Cell.ok, Value.cells]
        · next hk1 => rw [hk1] at hk; simp only at hk; subst hk; obtain ⟨m, rfl⟩ := WideShapes.okWide_string hu hval; rfl
        · next hk1 => rw [hk1] at hk; simp only at hk; subst hk; simp only [Value.okWide, hu, Cell.okWide] at hval; cases v <;> simp_all [Cell.ok, Value.cells]
        · next hk1 => rw [hk1] at hk; simp only at hk; subst hk; obtain ⟨a, l, c, rfl⟩ := WideShapes.okWide_slice hu hval; rfl
        · next hk1 => rw [hk1] at hs; cases hs
        · cases hr
    · cases hs
  show RD w (okB h G) K x [v]
  rw [← hc]
  exact h1.mono fun b _ _ => ⟨okT hh hX, rfl⟩
theorem wq1gn (T : TyOk P ty) {n base : Nat} {r : Reach} {t : TypeId} {K : Kd} (hr : readB ty n t K = true) (hs : (match ty t with | some ti => (match ti.k with | .struct => true | _ => false) | none => false) = true) {v : Value} {d : DataW H} {p : List MemPlace} (hval : Value.okWide P w r base t v) (hd : DataW.Trod enc P w 0 spare held t v d p)
    (hw : ∀ m ∈ DataW.weights P t d, m ≤ reachBytes) {h : Heap} {G : Gh} (hh : ∀ n, h n = none) (hX : ∀ b, ¬ G.X b) : ∃ x : K.T, Wf K x ∧ RV h G w (.agg (K.cells x)) v := by
  obtain ⟨fuel, hf⟩ := hd
  obtain ⟨x, h1, h2⟩ := wq1b6 T n t K hr fuel _ d p hf hw
  refine ⟨x, h2, ?_⟩
  split at hs
  · next ti hti =>
    split at hs
    · next hk1 =>
      obtain ⟨td, hu, hk⟩ := (T _ _ hti).kind
      rw [hk1] at hk; simp only at hk
      obtain ⟨fs, rfl, _⟩ := hk
      obtain ⟨cs, rfl, _⟩ := WideShapes.okWide_struct hu hval
      refine ⟨cs.toList, by simp, ?_⟩
      have : RD w (okB h G) K x cs.toList := h1.mono fun b _ _ => ⟨okT hh hX, rfl⟩
      exact wqel this
    · cases hs
  · cases hs
def lawK : Out → Option Bool
  | .ret [.v .bool y] [] => some y
  | _ => none
def G0 : Gh := ⟨fun _ => 0, fun _ => .nilIface, fun _ => False⟩
theorem enters {f : FuncId} {fn : Func} {c : Code} (hfn : P.funcs[f]? = some fn) (hb : fn.body = some c) (hname : (fn.name == "runtime.NumGoroutine") = false) (args : Array Value) (w : World) : (callFunc f args).run P w = .ok (.enter f args) w := by
  have hn2 : ¬ fn.name = "runtime.NumGoroutine" := by simpa using hname
  simp [callFunc, program, Sem.run, hfn, hn2, hb]
theorem wq1ep {f : FuncId} {fn : Func} {c : Code} (hfn : P.funcs[f]? = some fn) (hb : fn.body = some c) (hname : (fn.name == "runtime.NumGoroutine") = false) {ps : List PV} {b : Bool} (h : DoesTo P f ps [] fun out => lawK out = some b) {vals : List Value} (hv : RVs (mkH []) G0 w ps vals) :
    Calls P f vals.toArray w fun e w' => e = .returned (.bool b) ∧ Below w.heap.size w w' := by
  have := h G0 w vals hv (fun n o hn => by cases hn) ⟨fun n m b hn => by simp [blkOf, mkH, look] at hn, fun n b hn => by simp [blkOf, mkH, look] at hn, fun b hb => hb.elim⟩
  unfold Does at this
  rw [enters hfn hb hname] at this
  refine Calls.mono this fun e w' hh => ?_
  obtain ⟨out, ho, G', hout, F⟩ := hh
  unfold lawK at ho
  split at ho
  · cases ho
    obtain ⟨v, rfl, hv⟩ := hout
    have hv : RD _ _ .bool b [v] := hv
    simp only [RD, List.cons.injEq, and_true] at hv
    subst hv
    exact ⟨rfl, F.os, F.tape, F.out, F.grow, fun k hk => F.blk k hk fun n hn => by simp [blkOf, mkH, look] at hn⟩
  · cases ho
theorem wq1eq {G : Gh} {w w' : World} (b : Below w.heap.size w w') : Fin [] [] G w G w' :=
  ⟨fun n o h => (by cases h), fun n m b h => (by simp [blkOf, mkH, look] at h), fun n t cs h => (by cases h), fun n ag V es h => (by cases h), fun k hk _ => b.block k hk, rfl, fun n b h => (by simp [blkOf, mkH, look] at h), b.size, b.os, b.tape, b.output⟩
theorem wq1dl {ts : List TypeId} {ds : List (DataW H)} {vt : List TypeId} {gs : List (DataW H)} (h : (DataW.weightsEach P (ts ++ vt) (ds ++ gs)).all (· ≤ reachBytes) = true) : ∀ (i : Nat) (t : TypeId) (d : DataW H), ts[i]? = some t → ds[i]? = some d → ∀ m ∈ DataW.weights P t d, m ≤ reachBytes := by
  have key : ∀ (ts : List TypeId) (ds : List (DataW H)), (∀ m ∈ DataW.weightsEach P (ts ++ vt) (ds ++ gs), m ≤ reachBytes) → ∀ (i : Nat) (t : TypeId) (d : DataW H), ts[i]? = some t → ds[i]? = some d → ∀ m ∈ DataW.weights P t d, m ≤ reachBytes := by
    intro ts
    induction ts with
    | nil => intro ds _ i t d ht; simp at ht
    | cons t0 ts ih =>
      intro ds hw i t d ht hd m hm
      cases ds with
      | nil => simp at hd
      | cons d0 ds =>
        simp only [List.cons_append, DataW.weightsEach] at hw
        cases i with
        | zero => simp at ht hd; subst ht hd; exact hw m (List.mem_append_left _ hm)
        | succ i => exact ih ds (fun m hm => hw m (List.mem_append_right _ hm)) i t d (by simpa using ht) (by simpa using hd) m hm
  exact key ts ds (by simpa using h)
end
end Go.Proofs.YtdfhgimidmfgfaaDoor.Pvm
set_option maxRecDepth 100000
namespace Go.Proofs.YtdfhgimidmfgfaaDoor.Pvm
open Go Go.Proofs
abbrev kI : Kd := .int .i64
abbrev kdT7 : Kd := (.pr (.int .i64) (.pr (.int .i64) (.pr .bool (.int .u8))))
abbrev kdT23 : Kd := (.sl (.pr (.int .i64) (.pr (.int .i64) (.pr .str (.pr .bool (.pr (.sl .str) (.sl (.int .i64))))))))
abbrev kdT36 : Kd := (.pr (.int .i64) (.pr (.int .i64) (.pr .str (.pr .bool (.pr (.sl .str) (.sl (.int .i64)))))))
abbrev kdT81 : Kd := (.pr (.int .i64) (.pr (.int .i64) .str))
abbrev kdT83 : Kd := (.pr (.int .i64) (.pr (.int .i64) (.pr (.int .i64) (.pr .str .bool))))
abbrev kdT96 : Kd := (.pr (.pr (.int .i64) (.pr (.int .i64) .str)) (.pr (.int .i64) (.sl (.pr (.int .i64) (.pr (.int .i64) (.pr (.int .i64) (.pr .str .bool)))))))
def ti1 : TI := ⟨.other, 1, 8, none, [.un], [], 0, false⟩
theorem ti1_ok : TiOk Tryd.prog 1 ti1 := TiOk.of (z := Go.Value.nilFunc) (d := (@Go.TypeDesc.func (@Array.mk Nat (@List.nil Nat)) (@Array.mk Nat (@List.nil Nat)) Bool.false)) (by kernel_rfl) (by kernel_rfl) (by kernel_rfl) trivial rfl trivial (by kernel_rfl) (fun h => nomatch h)
def ti2 : TI := ⟨.int .i64, 1, 8, some (.int .i64), [.v (.int .i64) 0], [], 0, false⟩
theorem ti2_ok : TiOk Tryd.prog 2 ti2 := TiOk.of (z := (@Go.Value.int Go.IntKind.i64 (@Int.ofNat 0))) (d := (@Go.TypeDesc.int Go.IntKind.i64)) (by kernel_rfl) (by kernel_rfl) (by kernel_rfl) ⟨by kernel_rfl, by kernel_rfl⟩ rfl rfl (by kernel_rfl) (fun h => nomatch h)
def ti3 : TI := ⟨.int .i64, 1, 8, some (.int .i64), [.v (.int .i64) 0], [], 0, false⟩
theorem ti3_ok : TiOk Tryd.prog 3 ti3 := TiOk.of (z := (@Go.Value.int Go.IntKind.i64 (@Int.ofNat 0))) (d := (@Go.TypeDesc.int Go.IntKind.i64)) (by kernel_rfl) (by kernel_rfl) (by kernel_rfl) ⟨by kernel_rfl, by kernel_rfl⟩ rfl rfl (by kernel_rfl) (fun h => nomatch h)
def ti4 : TI := ⟨.bool, 1, 1, some .bool, [.v .bool false], [], 0, false⟩
theorem ti4_ok : TiOk Tryd.prog 4 ti4 := TiOk.of (z := (@Go.Value.bool Bool.false)) (d := Go.TypeDesc.bool) (by kernel_rfl) (by kernel_rfl) (by kernel_rfl) ⟨by kernel_rfl, by kernel_rfl⟩ rfl rfl (by kernel_rfl) (fun h => nomatch h)
def ti5 : TI := ⟨.int .u8, 1, 1, some (.int .u8), [.v (.int .u8) 0], [], 0, false⟩
theorem ti5_ok : TiOk Tryd.prog 5 ti5 := TiOk.of (z := (@Go.Value.int Go.IntKind.u8 (@Int.ofNat 0))) (d := (@Go.TypeDesc.int Go.IntKind.u8)) (by kernel_rfl) (by kernel_rfl) (by kernel_rfl) ⟨by kernel_rfl, by kernel_rfl⟩ rfl rfl (by kernel_rfl) (fun h => nomatch h)
def ti9 : TI := ⟨.str, 1, 16, some .str, [.v .str []], [], 0, false⟩
theorem ti9_ok : TiOk Tryd.prog 9 ti9 := TiOk.of (z := (@Go.Value.string (@ByteArray.mk (@Array.mk UInt8 (@List.nil UInt8))))) (d := Go.TypeDesc.string) (by kernel_rfl) (by kernel_rfl) (by kernel_rfl) ⟨by kernel_rfl, by kernel_rfl⟩ rfl rfl (by kernel_rfl) (fun h => nomatch h)
def ti20 : TI := ⟨.iface, 1, 16, none, [.nilif], [], 0, false⟩
theorem wq1go : TiOk Tryd.prog 20 ti20 := TiOk.of (z := Go.Value.nilIface) (d := (@Go.TypeDesc.interface (@Array.mk (@Prod String Nat) (@List.nil (@Prod String Nat))))) (by kernel_rfl) (by kernel_rfl) (by kernel_rfl) trivial rfl ⟨_, rfl⟩ (by kernel_rfl) (fun h => nomatch h)
def ti21 : TI := ⟨.int .i32, 1, 4, some (.int .i32), [.v (.int .i32) 0], [], 0, false⟩
theorem wq1gp : TiOk Tryd.prog 21 ti21 := TiOk.of (z := (@Go.Value.int Go.IntKind.i32 (@Int.ofNat 0))) (d := (@Go.TypeDesc.int Go.IntKind.i32)) (by kernel_rfl) (by kernel_rfl) (by kernel_rfl) ⟨by kernel_rfl, by kernel_rfl⟩ rfl rfl (by kernel_rfl) (fun h => nomatch h)
def ti22 : TI := ⟨.slice, 1, 24, some (.sl (.pr (.int .i64) (.pr (.int .i64) (.pr .str (.pr .bool (.pr (.sl .str) (.sl (.int .i64)))))))), [.nilsl], [], 37, false⟩
theorem wq1gq : TiOk Tryd.prog 22 ti22 := TiOk.of (z := (@Go.Value.slice (@Option.none Go.Addr) 0 0)) (d := (@Go.TypeDesc.slice 37)) (by kernel_rfl) (by kernel_rfl) (by kernel_rfl) ⟨by kernel_rfl, by kernel_rfl⟩ rfl rfl (by kernel_rfl) (fun h => nomatch h)
def ti24 : TI := ⟨.struct, 1, 24, some (.sl (.pr (.int .i64) (.pr (.int .i64) (.pr .str (.pr .bool (.pr (.sl .str) (.sl (.int .i64)))))))), [.nilsl], [(0, 22)], 0, false⟩
theorem wq1gr : TiOk Tryd.prog 24 ti24 := TiOk.of (z := (@Go.Value.agg (@Array.mk Go.Value (@List.cons Go.Value (@Go.Value.slice (@Option.none Go.Addr) 0 0) (@List.nil Go.Value))))) (d := (@Go.TypeDesc.struct (@Array.mk Go.Field (@List.cons Go.Field (@Go.Field.mk "Nodes" 22 0 Bool.false "" "" 0) (@List.nil Go.Field))))) (by kernel_rfl) (by kernel_rfl) (by kernel_rfl) ⟨by kernel_rfl, by kernel_rfl⟩ ⟨_, rfl⟩ ⟨_, rfl, by kernel_rfl, by kernel_rfl⟩ (by kernel_rfl) (fun h => nomatch h)
def ti27 : TI := ⟨.slice, 1, 24, some (.sl (.int .u8)), [.nilsl], [], 5, false⟩
theorem wq1gs : TiOk Tryd.prog 27 ti27 := TiOk.of (z := (@Go.Value.slice (@Option.none Go.Addr) 0 0)) (d := (@Go.TypeDesc.slice 5)) (by kernel_rfl) (by kernel_rfl) (by kernel_rfl) ⟨by kernel_rfl, by kernel_rfl⟩ rfl rfl (by kernel_rfl) (fun h => nomatch h)
def ti28 : TI := ⟨.int .i64, 1, 8, some (.int .i64), [.v (.int .i64) 0], [], 0, false⟩
theorem wq1gt : TiOk Tryd.prog 28 ti28 := TiOk.of (z := (@Go.Value.int Go.IntKind.i64 (@Int.ofNat 0))) (d := (@Go.TypeDesc.int Go.IntKind.i64)) (by kernel_rfl) (by kernel_rfl) (by kernel_rfl) ⟨by kernel_rfl, by kernel_rfl⟩ rfl rfl (by kernel_rfl) (fun h => nomatch h)
def ti34 : TI := ⟨.slice, 1, 24, some (.sl .str), [.nilsl], [], 9, false⟩
theorem wq1gu : TiOk Tryd.prog 34 ti34 := TiOk.of (z := (@Go.Value.slice (@Option.none Go.Addr) 0 0)) (d := (@Go.TypeDesc.slice 9)) (by kernel_rfl) (by kernel_rfl) (by kernel_rfl) ⟨by kernel_rfl, by kernel_rfl⟩ rfl rfl (by kernel_rfl) (fun h => nomatch h)
def ti35 : TI := ⟨.slice, 1, 24, some (.sl (.int .i64)), [.nilsl], [], 3, false⟩
theorem wq1gv : TiOk Tryd.prog 35 ti35 := TiOk.of (z := (@Go.Value.slice (@Option.none Go.Addr) 0 0)) (d := (@Go.TypeDesc.slice 3)) (by kernel_rfl) (by kernel_rfl) (by kernel_rfl) ⟨by kernel_rfl, by kernel_rfl⟩ rfl rfl (by kernel_rfl) (fun h => nomatch h)
def ti37 : TI := ⟨.struct, 6, 88, some (.pr (.int .i64) (.pr (.int .i64) (.pr .str (.pr .bool (.pr (.sl .str) (.sl (.int .i64))))))), [.v (.int .i64) 0, .v (.int .i64) 0, .v .str [], .v .bool false, .nilsl, .nilsl], [(0, 3), (1, 3), (2, 9), (3, 4), (4, 34), (5, 35)], 0, false⟩
theorem wq1gw : TiOk Tryd.prog 37 ti37 := TiOk.of (z := (@Go.Value.agg (@Array.mk Go.Value (@List.cons Go.Value (@Go.Value.int Go.IntKind.i64 (@Int.ofNat 0)) (@List.cons Go.Value (@Go.Value.int Go.IntKind.i64 (@Int.ofNat 0)) (@List.cons Go.Value (@Go.Value.string (@ByteArray.mk (@Array.mk UInt8 (@List.nil UInt8)))) (@List.cons Go.Value (@Go.Value.bool Bool.false) (@List.cons Go.Value (@Go.Value.slice (@Option.none Go.Addr) 0 0) (@List.cons Go.Value (@Go.Value.slice (@Option.none Go.Addr) 0 0) (@List.nil Go.Value)))))))))) (d := (@Go.TypeDesc.struct (@Array.mk Go.Field (@List.cons Go.Field (@Go.Field.mk "Kind" 3 0 Bool.false "" "" 0) (@List.cons Go.Field (@Go.Field.mk "Line" 3 1 Bool.false "" "" 8) (@List.cons Go.Field (@Go.Field.mk "Text" 9 2 Bool.false "" "" 16) (@List.cons Go.Field (@Go.Field.mk "Quoted" 4 3 Bool.false "" "" 32) (@List.cons Go.Field (@Go.Field.mk "Keys" 34 4 Bool.false "" "" 40) (@List.cons Go.Field (@Go.Field.mk "Kids" 35 5 Bool.false "" "" 64) (@List.nil Go.Field)))))))))) (by kernel_rfl) (by kernel_rfl) (by kernel_rfl) ⟨by kernel_rfl, by kernel_rfl⟩ ⟨_, rfl⟩ ⟨_, rfl, by kernel_rfl, by kernel_rfl⟩ (by kernel_rfl) (fun h => nomatch h)
def ti39 : TI := ⟨.ptr, 1, 8, none, [.nilptr], [], 44, false⟩
theorem wq1gx : TiOk Tryd.prog 39 ti39 := TiOk.of (z := (@Go.Value.pointer (@Option.none Go.Addr))) (d := (@Go.TypeDesc.pointer 44)) (by kernel_rfl) (by kernel_rfl) (by kernel_rfl) trivial rfl rfl (by kernel_rfl) (fun h => nomatch h)
def ti40 : TI := ⟨.ptr, 1, 8, none, [.nilptr], [], 42, false⟩
theorem wq1gy : TiOk Tryd.prog 40 ti40 := TiOk.of (z := (@Go.Value.pointer (@Option.none Go.Addr))) (d := (@Go.TypeDesc.pointer 42)) (by kernel_rfl) (by kernel_rfl) (by kernel_rfl) trivial rfl rfl (by kernel_rfl) (fun h => nomatch h)
def ti42 : TI := ⟨.struct, 2, 32, none, [.nilptr, .nilsl], [(0, 40), (1, 27)], 0, false⟩
theorem wq1gz : TiOk Tryd.prog 42 ti42 := TiOk.of (z := (@Go.Value.agg (@Array.mk Go.Value (@List.cons Go.Value (@Go.Value.pointer (@Option.none Go.Addr)) (@List.cons Go.Value (@Go.Value.slice (@Option.none Go.Addr) 0 0) (@List.nil Go.Value)))))) (d := (@Go.TypeDesc.struct (@Array.mk Go.Field (@List.cons Go.Field (@Go.Field.mk "addr" 40 0 Bool.false "" "strings" 0) (@List.cons Go.Field (@Go.Field.mk "buf" 27 1 Bool.false "" "strings" 8) (@List.nil Go.Field)))))) (by kernel_rfl) (by kernel_rfl) (by kernel_rfl) trivial ⟨_, rfl⟩ ⟨_, rfl, by kernel_rfl, by kernel_rfl⟩ (by kernel_rfl) (fun h => nomatch h)
def ti44 : TI := ⟨.struct, 3, 56, none, [.nilsl, .nilptr, .nilsl], [(0, 24), (1, 42)], 0, false⟩
theorem wq1h0 : TiOk Tryd.prog 44 ti44 := TiOk.of (z := (@Go.Value.agg (@Array.mk Go.Value (@List.cons Go.Value (@Go.Value.slice (@Option.none Go.Addr) 0 0) (@List.cons Go.Value (@Go.Value.pointer (@Option.none Go.Addr)) (@List.cons Go.Value (@Go.Value.slice (@Option.none Go.Addr) 0 0) (@List.nil Go.Value))))))) (d := (@Go.TypeDesc.struct (@Array.mk Go.Field (@List.cons Go.Field (@Go.Field.mk "d" 24 0 Bool.false "" "turncock/show" 0) (@List.cons Go.Field (@Go.Field.mk "b" 42 1 Bool.false "" "turncock/show" 24) (@List.nil Go.Field)))))) (by kernel_rfl) (by kernel_rfl) (by kernel_rfl) trivial ⟨_, rfl⟩ ⟨_, rfl, by kernel_rfl, by kernel_rfl⟩ (by kernel_rfl) (fun h => nomatch h)
def ti53 : TI := ⟨.other, 1, 8, none, [.un], [], 0, false⟩
theorem wq1h1 : TiOk Tryd.prog 53 ti53 := TiOk.of (z := Go.Value.nilFunc) (d := (@Go.TypeDesc.func (@Array.mk Nat (@List.cons Nat 37 (@List.cons Nat 37 (@List.nil Nat)))) (@Array.mk Nat (@List.cons Nat 4 (@List.nil Nat))) Bool.false)) (by kernel_rfl) (by kernel_rfl) (by kernel_rfl) trivial rfl trivial (by kernel_rfl) (fun h => nomatch h)
def ti55 : TI := ⟨.iface, 1, 16, none, [.nilif], [], 0, false⟩
theorem wq1h2 : TiOk Tryd.prog 55 ti55 := TiOk.of (z := Go.Value.nilIface) (d := (@Go.TypeDesc.interface (@Array.mk (@Prod String Nat) (@List.cons (@Prod String Nat) (@Prod.mk String Nat "Error" 47) (@List.nil (@Prod String Nat)))))) (by kernel_rfl) (by kernel_rfl) (by kernel_rfl) trivial rfl ⟨_, rfl⟩ (by kernel_rfl) (fun h => nomatch h)
def ti56 : TI := ⟨.iface, 1, 16, none, [.nilif], [], 0, false⟩
theorem wq1h3 : TiOk Tryd.prog 56 ti56 := TiOk.of (z := Go.Value.nilIface) (d := (@Go.TypeDesc.interface (@Array.mk (@Prod String Nat) (@List.cons (@Prod String Nat) (@Prod.mk String Nat "Error" 47) (@List.nil (@Prod String Nat)))))) (by kernel_rfl) (by kernel_rfl) (by kernel_rfl) trivial rfl ⟨_, rfl⟩ (by kernel_rfl) (fun h => nomatch h)
def ti60 : TI := ⟨.ptr, 1, 8, none, [.nilptr], [], 5, false⟩
theorem wq1h4 : TiOk Tryd.prog 60 ti60 := TiOk.of (z := (@Go.Value.pointer (@Option.none Go.Addr))) (d := (@Go.TypeDesc.pointer 5)) (by kernel_rfl) (by kernel_rfl) (by kernel_rfl) trivial rfl rfl (by kernel_rfl) (fun h => nomatch h)
def ti65 : TI := ⟨.int .u64, 1, 8, some (.int .u64), [.v (.int .u64) 0], [], 0, false⟩
theorem wq1h5 : TiOk Tryd.prog 65 ti65 := TiOk.of (z := (@Go.Value.int Go.IntKind.u64 (@Int.ofNat 0))) (d := (@Go.TypeDesc.int Go.IntKind.u64)) (by kernel_rfl) (by kernel_rfl) (by kernel_rfl) ⟨by kernel_rfl, by kernel_rfl⟩ rfl rfl (by kernel_rfl) (fun h => nomatch h)
def ti76 : TI := ⟨.slice, 1, 24, some (.sl (.pr (.int .i64) (.pr (.int .i64) (.pr (.int .i64) (.pr .str .bool))))), [.nilsl], [], 84, false⟩
theorem wq1h6 : TiOk Tryd.prog 76 ti76 := TiOk.of (z := (@Go.Value.slice (@Option.none Go.Addr) 0 0)) (d := (@Go.TypeDesc.slice 84)) (by kernel_rfl) (by kernel_rfl) (by kernel_rfl) ⟨by kernel_rfl, by kernel_rfl⟩ rfl rfl (by kernel_rfl) (fun h => nomatch h)
def ti78 : TI := ⟨.struct, 2, 16, some (.pr (.int .i64) (.int .i64)), [.v (.int .i64) 0, .v (.int .i64) 0], [(0, 3), (1, 3)], 0, true⟩
theorem wq1h7 : TiOk Tryd.prog 78 ti78 := TiOk.of (z := (@Go.Value.agg (@Array.mk Go.Value (@List.cons Go.Value (@Go.Value.int Go.IntKind.i64 (@Int.ofNat 0)) (@List.cons Go.Value (@Go.Value.int Go.IntKind.i64 (@Int.ofNat 0)) (@List.nil Go.Value)))))) (d := (@Go.TypeDesc.struct (@Array.mk Go.Field (@List.cons Go.Field (@Go.Field.mk "Kind" 3 0 Bool.false "" "" 0) (@List.cons Go.Field (@Go.Field.mk "Line" 3 1 Bool.false "" "" 8) (@List.nil Go.Field)))))) (by kernel_rfl) (by kernel_rfl) (by kernel_rfl) ⟨by kernel_rfl, by kernel_rfl⟩ ⟨_, rfl⟩ ⟨_, rfl, by kernel_rfl, by kernel_rfl⟩ (by kernel_rfl) (fun _ _ => by kernel_rfl)
def ti82 : TI := ⟨.struct, 3, 32, some (.pr (.int .i64) (.pr (.int .i64) .str)), [.v (.int .i64) 0, .v (.int .i64) 0, .v .str []], [(0, 3), (1, 3), (2, 9)], 0, true⟩
theorem wq1h8 : TiOk Tryd.prog 82 ti82 := TiOk.of (z := (@Go.Value.agg (@Array.mk Go.Value (@List.cons Go.Value (@Go.Value.int Go.IntKind.i64 (@Int.ofNat 0)) (@List.cons Go.Value (@Go.Value.int Go.IntKind.i64 (@Int.ofNat 0)) (@List.cons Go.Value (@Go.Value.string (@ByteArray.mk (@Array.mk UInt8 (@List.nil UInt8)))) (@List.nil Go.Value))))))) (d := (@Go.TypeDesc.struct (@Array.mk Go.Field (@List.cons Go.Field (@Go.Field.mk "No" 3 0 Bool.false "" "" 0) (@List.cons Go.Field (@Go.Field.mk "Indent" 3 1 Bool.false "" "" 8) (@List.cons Go.Field (@Go.Field.mk "Text" 9 2 Bool.false "" "" 16) (@List.nil Go.Field))))))) (by kernel_rfl) (by kernel_rfl) (by kernel_rfl) ⟨by kernel_rfl, by kernel_rfl⟩ ⟨_, rfl⟩ ⟨_, rfl, by kernel_rfl, by kernel_rfl⟩ (by kernel_rfl) (fun _ _ => by kernel_rfl)
def ti84 : TI := ⟨.struct, 5, 48, some (.pr (.int .i64) (.pr (.int .i64) (.pr (.int .i64) (.pr .str .bool)))), [.v (.int .i64) 0, .v (.int .i64) 0, .v (.int .i64) 0, .v .str [], .v .bool false], [(0, 3), (1, 3), (2, 3), (3, 9), (4, 4)], 0, true⟩
theorem wq1h9 : TiOk Tryd.prog 84 ti84 := TiOk.of (z := (@Go.Value.agg (@Array.mk Go.Value (@List.cons Go.Value (@Go.Value.int Go.IntKind.i64 (@Int.ofNat 0)) (@List.cons Go.Value (@Go.Value.int Go.IntKind.i64 (@Int.ofNat 0)) (@List.cons Go.Value (@Go.Value.int Go.IntKind.i64 (@Int.ofNat 0)) (@List.cons Go.Value (@Go.Value.string (@ByteArray.mk (@Array.mk UInt8 (@List.nil UInt8)))) (@List.cons Go.Value (@Go.Value.bool Bool.false) (@List.nil Go.Value))))))))) (d := (@Go.TypeDesc.struct (@Array.mk Go.Field (@List.cons Go.Field (@Go.Field.mk "Kind" 3 0 Bool.false "" "" 0) (@List.cons Go.Field (@Go.Field.mk "Line" 3 1 Bool.false "" "" 8) (@List.cons Go.Field (@Go.Field.mk "Col" 3 2 Bool.false "" "" 16) (@List.cons Go.Field (@Go.Field.mk "Text" 9 3 Bool.false "" "" 24) (@List.cons Go.Field (@Go.Field.mk "Quoted" 4 4 Bool.false "" "" 40) (@List.nil Go.Field))))))))) (by kernel_rfl) (by kernel_rfl) (by kernel_rfl) ⟨by kernel_rfl, by kernel_rfl⟩ ⟨_, rfl⟩ ⟨_, rfl, by kernel_rfl, by kernel_rfl⟩ (by kernel_rfl) (fun _ _ => by kernel_rfl)
def ti85 : TI := ⟨.map, 1, 8, none, [.un], [], 4, false⟩
theorem wq1ha : TiOk Tryd.prog 85 ti85 := TiOk.of (z := (@Go.Value.map (@Option.none Nat))) (d := (@Go.TypeDesc.map 9 4)) (by kernel_rfl) (by kernel_rfl) (by kernel_rfl) trivial rfl ⟨_, rfl, by kernel_rfl⟩ (by kernel_rfl) (fun h => nomatch h)
def ti86 : TI := ⟨.int .u32, 1, 4, some (.int .u32), [.v (.int .u32) 0], [], 0, false⟩
theorem wq1hb : TiOk Tryd.prog 86 ti86 := TiOk.of (z := (@Go.Value.int Go.IntKind.u32 (@Int.ofNat 0))) (d := (@Go.TypeDesc.int Go.IntKind.u32)) (by kernel_rfl) (by kernel_rfl) (by kernel_rfl) ⟨by kernel_rfl, by kernel_rfl⟩ rfl rfl (by kernel_rfl) (fun h => nomatch h)
def ti89 : TI := ⟨.int .u64, 1, 8, some (.int .u64), [.v (.int .u64) 0], [], 0, false⟩
theorem wq1hc : TiOk Tryd.prog 89 ti89 := TiOk.of (z := (@Go.Value.int Go.IntKind.u64 (@Int.ofNat 0))) (d := (@Go.TypeDesc.int Go.IntKind.u64)) (by kernel_rfl) (by kernel_rfl) (by kernel_rfl) ⟨by kernel_rfl, by kernel_rfl⟩ rfl rfl (by kernel_rfl) (fun h => nomatch h)
def ti95 : TI := ⟨.ptr, 1, 8, none, [.nilptr], [], 97, false⟩
theorem wq1hd : TiOk Tryd.prog 95 ti95 := TiOk.of (z := (@Go.Value.pointer (@Option.none Go.Addr))) (d := (@Go.TypeDesc.pointer 97)) (by kernel_rfl) (by kernel_rfl) (by kernel_rfl) trivial rfl rfl (by kernel_rfl) (fun h => nomatch h)
def ti97 : TI := ⟨.struct, 5, 64, some (.pr (.pr (.int .i64) (.pr (.int .i64) .str)) (.pr (.int .i64) (.sl (.pr (.int .i64) (.pr (.int .i64) (.pr (.int .i64) (.pr .str .bool))))))), [.v (.int .i64) 0, .v (.int .i64) 0, .v .str [], .v (.int .i64) 0, .nilsl], [(0, 82), (3, 3), (4, 76)], 0, false⟩
theorem wq1he : TiOk Tryd.prog 97 ti97 := TiOk.of (z := (@Go.Value.agg (@Array.mk Go.Value (@List.cons Go.Value (@Go.Value.int Go.IntKind.i64 (@Int.ofNat 0)) (@List.cons Go.Value (@Go.Value.int Go.IntKind.i64 (@Int.ofNat 0)) (@List.cons Go.Value (@Go.Value.string (@ByteArray.mk (@Array.mk UInt8 (@List.nil UInt8)))) (@List.cons Go.Value (@Go.Value.int Go.IntKind.i64 (@Int.ofNat 0)) (@List.cons Go.Value (@Go.Value.slice (@Option.none Go.Addr) 0 0) (@List.nil Go.Value))))))))) (d := (@Go.TypeDesc.struct (@Array.mk Go.Field (@List.cons Go.Field (@Go.Field.mk "l" 82 0 Bool.false "" "turncock/lex" 0) (@List.cons Go.Field (@Go.Field.mk "at" 3 3 Bool.false "" "turncock/lex" 32) (@List.cons Go.Field (@Go.Field.mk "out" 76 4 Bool.false "" "turncock/lex" 40) (@List.nil Go.Field))))))) (by kernel_rfl) (by kernel_rfl) (by kernel_rfl) ⟨by kernel_rfl, by kernel_rfl⟩ ⟨_, rfl⟩ ⟨_, rfl, by kernel_rfl, by kernel_rfl⟩ (by kernel_rfl) (fun h => nomatch h)
def ti108 : TI := ⟨.ptr, 1, 8, none, [.nilptr], [], 104, false⟩
theorem wq1fu : TiOk Tryd.prog 108 ti108 := TiOk.of (z := (@Go.Value.pointer (@Option.none Go.Addr))) (d := (@Go.TypeDesc.pointer 104)) (by kernel_rfl) (by kernel_rfl) (by kernel_rfl) trivial rfl rfl (by kernel_rfl) (fun h => nomatch h)
def tyL : List (Nat × TI) := [(1, ti1), (2, ti2), (3, ti3), (4, ti4), (5, ti5), (9, ti9), (20, ti20), (21, ti21), (22, ti22), (24, ti24), (27, ti27), (28, ti28), (34, ti34), (35, ti35), (37, ti37), (39, ti39), (40, ti40), (42, ti42), (44, ti44), (53, ti53), (55, ti55), (56, ti56), (60, ti60), (65, ti65), (76, ti76), (78, ti78), (82, ti82), (84, ti84), (85, ti85), (86, ti86), (89, ti89), (95, ti95), (97, ti97), (108, ti108)]
def tyT : TypeId → Option TI := look tyL
theorem tyT_ok : TyOk Tryd.prog tyT := wq1gj (all_cons ti1_ok (all_cons ti2_ok (all_cons ti3_ok (all_cons ti4_ok (all_cons ti5_ok (all_cons ti9_ok (all_cons wq1go (all_cons wq1gp (all_cons wq1gq (all_cons wq1gr (all_cons wq1gs (all_cons wq1gt (all_cons wq1gu (all_cons wq1gv (all_cons wq1gw (all_cons wq1gx (all_cons wq1gy (all_cons wq1gz (all_cons wq1h0 (all_cons wq1h1 (all_cons wq1h2 (all_cons wq1h3 (all_cons wq1h4 (all_cons wq1h5 (all_cons wq1h6 (all_cons wq1h7 (all_cons wq1h8 (all_cons wq1h9 (all_cons wq1ha (all_cons wq1hb (all_cons wq1hc (all_cons wq1hd (all_cons wq1he (all_cons wq1fu (wq1gk)))))))))))))))))))))))))))))))))))
end Go.Proofs.YtdfhgimidmfgfaaDoor.Pvm
set_option maxRecDepth 1000000
set_option maxHeartbeats 0
namespace Go.Proofs.YtdfhgimidmfgfaaDoor.Pvm
open Go Go.Proofs
def wq19g : List LS := [.any]
def wq16v (k : Nat) : CTab := CTab.nil
def wqlx {R : Type} (K : (Bool → Option R)) : Out → Option R
  | .ret [.v .bool y0] [] => K y0
  | _ => none
def wq134 : RetSpec := ⟨[.any], [], []⟩
def wq16w : List (Nat × CutSpec) := []
def wq147 : List (Nat × Plan) := []
def wqto (k : Nat) : Ctx := ⟨tyT, wq16w, wq16v k, [], [], wq147, @SH⟩
def wqly : Code := Tryd.f57.body.getD .skip
def wqxi (k : Nat) {R : Type}  (x0 : Int) (K : (Bool → Option R)) : Option R := (K (@cond (@Kd.T Kd.bool) (@cond (@Kd.T Kd.bool) (@cond (@Kd.T Kd.bool) (@cond (@Kd.T Kd.bool) (@cond (@Kd.T Kd.bool) (@cond (@Kd.T Kd.bool) (@Decidable.decide (@GE.ge Int Int.instLEInt x0 (97 : Int)) (@Int.decLe (97 : Int) x0)) (@Decidable.decide (@LE.le Int Int.instLEInt x0 (122 : Int)) (@Int.decLe x0 (122 : Int))) Bool.false) Bool.true (@cond (@Kd.T Kd.bool) (@Decidable.decide (@GE.ge Int Int.instLEInt x0 (65 : Int)) (@Int.decLe (65 : Int) x0)) (@Decidable.decide (@LE.le Int Int.instLEInt x0 (90 : Int)) (@Int.decLe x0 (90 : Int))) Bool.false)) Bool.true (@cond (@Kd.T Kd.bool) (@Decidable.decide (@GE.ge Int Int.instLEInt x0 (48 : Int)) (@Int.decLe (48 : Int) x0)) (@Decidable.decide (@LE.le Int Int.instLEInt x0 (57 : Int)) (@Int.decLe x0 (57 : Int))) Bool.false)) Bool.true (@BEq.beq Int (@instBEqOfDecidableEq Int @Int.instDecidableEq) x0 (95 : Int))) Bool.true (@BEq.beq Int (@instBEqOfDecidableEq Int @Int.instDecidableEq) x0 (45 : Int))) Bool.true (@BEq.beq Int (@instBEqOfDecidableEq Int @Int.instDecidableEq) x0 (46 : Int))))
theorem wq16x (k : Nat) {R : Type} (I : Nat → St → Option R) (x0 : Int) (K : (Bool → Option R)) : fnK (wqto k) k wqly 37 [.tmp 2] wq134 [.v (.int .u8) x0] [] (wqlx K) = wqxi k  x0 K := by kernel_rfl
def wqlz (k : Nat) {R : Type} (x0 : Int) (K : (Bool → Option R)) : Option R := wqxi k  x0 K
theorem wq16y (k : Nat) {R : Type} (x0 : Int) (K : (Bool → Option R)) : fnK (wqto k) k wqly 37 [.tmp 2] wq134 [.v (.int .u8) x0] [] (wqlx K) = wqlz k x0 K := by
  exact wq16x k (fun _ _ => none) x0 K
def wqph (k : Nat) {R : Type} : List PV → List (Nm × HObj) → (Out → Option R) → Option R
  | [.v (.int .u8) x0], [], K => wqlz k x0 (fun y0 => K (.ret [.v .bool y0] []))
  | _, _, _ => none
theorem wq16z (k : Nat) : (wq16v k).Ok Tryd.prog := CTab.nil_ok
theorem wq1dm (k : Nat) {ps : List PV} {hp : List (Nm × HObj)} {R : Type} {K : Out → Option R} {r : R} (h : wqph k ps hp K = some r) : DoesTo Tryd.prog 57 ps hp fun out => K out = some r := by
  unfold wqph at h
  split at h
  · rw [← wq16y] at h
    have := fn_ok (P := Tryd.prog) (cx := wqto k) (f := 57) ⟨tyT_ok, wq16z k, fun _ _ => rfl⟩ (by kernel_rfl) (fn := Tryd.f57) (c := wqly) (by kernel_rfl) (by kernel_rfl) (by kernel_rfl) (rs := [.tmp 2]) (by kernel_rfl) (by kernel_rfl) h
    exact this.mono fun out ho => by
      unfold wqlx at ho
      split at ho <;> first | exact ho | cases ho
  · cases h
def wqun : List LS := [.any]
def wq135 (k : Nat) : CTab := (CTab.add 57 wq19g (wqph k) CTab.nil)
def wq8g {R : Type} (K : (Bool → Option R)) : Out → Option R
  | .ret [.v .bool y0] [] => K y0
  | _ => none
def wqbw : RetSpec := ⟨[.any], [], []⟩
def wq148 : List (Nat × CutSpec) := [(1002, ⟨[(0, .any), (5, .any), (6, .any)], []⟩)]
def wq10p : List (Nat × Plan) := []
def wq23 (k : Nat) : Ctx := ⟨tyT, wq148, wq135 k, [], [], wq10p, @SH⟩
def wq46 : Code := Tryd.f45.body.getD .skip
def wq8a (s0 : (List UInt8)) (s1 s2 : Int) : St := ⟨mkT [(0, .v .str s0), (5, .v (.int .i64) s1), (6, .v (.int .i64) s2)], mkH []⟩
def wqal (k : Nat) {R : Type} (E1002 : ((List UInt8) → Int → Int → Option R)) (s0 : (List UInt8)) (s1 s2 : Int) (K : (Bool → Option R)) : Option R := (@cond (@Option R) (@Decidable.decide (@LT.lt Int Int.instLTInt s2 s1) (@Int.decLt s2 s1)) (@cond (@Option R) (@inb s2 (@Nat.cast Int instNatCastInt (@List.length UInt8 s0))) (@wqlz k R (@Nat.cast Int instNatCastInt (@UInt8.toNat (@List.getD UInt8 s0 (@Int.toNat s2) (0 : UInt8)))) (fun y7 => (@cond (@Option R) (@Bool.not y7) (K Bool.false) (E1002 s0 s1 (@Go.IntKind.wrap Go.IntKind.i64 (@HAdd.hAdd Int Int Int (@instHAdd Int @Int.instAdd) s2 (1 : Int))))))) (@Option.none R)) (K (@Bool.not (@BEq.beq (@List UInt8) (@List.instBEq UInt8 (@instBEqOfDecidableEq UInt8 @instDecidableEqUInt8)) s0 []))))
theorem wqrn (k : Nat) {R : Type} (I : Nat → St → Option R) (s0 : (List UInt8)) (s1 s2 : Int) (K : (Bool → Option R)) : execK (wq23 k) k (at_ [1, 0, 1, 0, 0] wq46) (wq8a s0 s1 s2) (konts (wq23 k) k I [1, 0, 1, 0, 0] wq46 (outK (wq23 k) wqbw [.tmp 2] (wq8g K))) = wqal k (fun s0 s1 s2 => I 1002 (wq8a s0 s1 s2)) s0 s1 s2 K := by kernel_rfl
def wqno (k : Nat) {R : Type} (E1002 : ((List UInt8) → Int → Int → Option R)) (x0 : (List UInt8)) (K : (Bool → Option R)) : Option R := (E1002 x0 (@Nat.cast Int instNatCastInt (@List.length UInt8 x0)) (0 : Int))
theorem wq149 (k : Nat) {R : Type} (I : Nat → St → Option R) (x0 : (List UInt8)) (K : (Bool → Option R)) : fnK (wq23 k) k wq46 17 [.tmp 2] wqbw [.v .str x0] [] (wq8g K) = wqno k (fun s0 s1 s2 => iter (wq23 k).pv (look (wq23 k).cuts 1002) (execK (wq23 k) k (at_ [1, 0, 1, 0, 0] wq46)) k (wq8a s0 s1 s2) (konts (wq23 k) k I [1, 0, 1, 0] wq46 (outK (wq23 k) wqbw [.tmp 2] (wq8g K)))) x0 K := by kernel_rfl
def wq5a (k : Nat) {R : Type}  : Nat → (List UInt8) → Int → Int → (Bool → Option R) → Option R
  | 0, _, _, _, _ => none
  | n + 1, s0, s1, s2, K => wqal k (fun s0 s1 s2 => wq5a k  n s0 s1 s2 K) s0 s1 s2 K
theorem wqro (k : Nat) {R : Type} (I : Nat → St → Option R) (K : (Bool → Option R)) : ∀ (n : Nat) (s0 : (List UInt8)) (s1 s2 : Int), iter (wq23 k).pv (look (wq23 k).cuts 1002) (execK (wq23 k) k (at_ [1, 0, 1, 0, 0] wq46)) n (wq8a s0 s1 s2) (konts (wq23 k) k I [1, 0, 1, 0] wq46 (outK (wq23 k) wqbw [.tmp 2] (wq8g K))) = wq5a k  n s0 s1 s2 K := by
  intro n
  induction n with
  | zero => intros; rfl
  | succ n ih =>
    intro s0 s1 s2
    let I' : Nat → St → Option R := fun id s => bif Nat.beq id 1002 then iter (wq23 k).pv (look (wq23 k).cuts 1002) (execK (wq23 k) k (at_ [1, 0, 1, 0, 0] wq46)) n s (konts (wq23 k) k I [1, 0, 1, 0] wq46 (outK (wq23 k) wqbw [.tmp 2] (wq8g K))) else I id s
    have e := wqrn k I' s0 s1 s2 K
    have h1002 : (fun s0 s1 s2 => I' 1002 (wq8a s0 s1 s2)) = (fun s0 s1 s2 => wq5a k  n s0 s1 s2 K) := by funext s0 s1 s2; exact ih s0 s1 s2
    refine Eq.trans (?_ : _ = _) (e.trans (Eq.trans ((congrArg ((fun E1002 => wqal k E1002 s0 s1 s2 K)) h1002)) (by rw [wq5a])))
    rfl
def wqg3 (k : Nat) {R : Type} (x0 : (List UInt8)) (K : (Bool → Option R)) : Option R := wqno k (fun s0 s1 s2 => wq5a k k s0 s1 s2 K) x0 K
theorem wq14a (k : Nat) {R : Type} (x0 : (List UInt8)) (K : (Bool → Option R)) : fnK (wq23 k) k wq46 17 [.tmp 2] wqbw [.v .str x0] [] (wq8g K) = wqg3 k x0 K := by
  let I : Nat → St → Option R := fun _ _ => none
  have h1002 : (fun s0 s1 s2 => iter (wq23 k).pv (look (wq23 k).cuts 1002) (execK (wq23 k) k (at_ [1, 0, 1, 0, 0] wq46)) k (wq8a s0 s1 s2) (konts (wq23 k) k I [1, 0, 1, 0] wq46 (outK (wq23 k) wqbw [.tmp 2] (wq8g K)))) = (fun s0 s1 s2 => wq5a k k s0 s1 s2 K) := by funext s0 s1 s2; exact wqro k I K k s0 s1 s2
  exact (wq149 k I x0 K).trans (congrArg ((fun E1002 => wqno k E1002 x0 K)) h1002)
def wqhq (k : Nat) {R : Type} : List PV → List (Nm × HObj) → (Out → Option R) → Option R
  | [.v .str x0], [], K => wqg3 k x0 (fun y0 => K (.ret [.v .bool y0] []))
  | _, _, _ => none
theorem wq14b (k : Nat) : (wq135 k).Ok Tryd.prog := (CTab.add_ok (fun h => wq1dm k h) CTab.nil_ok)
theorem wq136 (k : Nat) {ps : List PV} {hp : List (Nm × HObj)} {R : Type} {K : Out → Option R} {r : R} (h : wqhq k ps hp K = some r) : DoesTo Tryd.prog 45 ps hp fun out => K out = some r := by
  unfold wqhq at h
  split at h
  · rw [← wq14a] at h
    have := fn_ok (P := Tryd.prog) (cx := wq23 k) (f := 45) ⟨tyT_ok, wq14b k, fun _ _ => rfl⟩ (by kernel_rfl) (fn := Tryd.f45) (c := wq46) (by kernel_rfl) (by kernel_rfl) (by kernel_rfl) (rs := [.tmp 2]) (by kernel_rfl) (by kernel_rfl) h
    exact this.mono fun out ho => by
      unfold wq8g at ho
      split at ho <;> first | exact ho | cases ho
  · cases h
def wq14c : List LS := [.sl .str]
def wqxj (k : Nat) : CTab := (CTab.add 45 wqun (wqhq k) CTab.nil)
def wq7e {R : Type} (K : (Bool → Option R)) : Out → Option R
  | .ret [.v .bool y0] [] => K y0
  | _ => none
def wqam : RetSpec := ⟨[.any], [], []⟩
def wq10q : List (Nat × CutSpec) := [(1003, ⟨[(3, .mpo 73 .one .bool), (7, .sl .str), (8, .any), (9, .any)], []⟩)]
def wqxk : List (Nat × Plan) := []
def wq1o (k : Nat) : Ctx := ⟨tyT, wq10q, wqxj k, [], [], wqxk, @SH⟩
def wq3k : Code := Tryd.f36.body.getD .skip
def wq7m (s0 : (List (List UInt8 × Bool))) (s1 : (List (List UInt8))) (s2 s3 : Int) : St := ⟨mkT [(3, .mpp 73), (7, .v (.sl .str) s1), (8, .v (.int .i64) s2), (9, .v (.int .i64) s3)], mkH [(73, .mp .one .bool s0)]⟩
def wq9y (k : Nat) {R : Type} (E1003 : ((List (List UInt8 × Bool)) → (List (List UInt8)) → Int → Int → Option R)) (s0 : (List (List UInt8 × Bool))) (s1 : (List (List UInt8))) (s2 s3 : Int) (K : (Bool → Option R)) : Option R := (@cond (@Option R) (@Decidable.decide (@LT.lt Int Int.instLTInt s3 s2) (@Int.decLt s3 s2)) (@cond (@Option R) (@inb s3 (@Nat.cast Int instNatCastInt (@List.length (@Kd.T Kd.str) s1))) (@wqg3 k R (@List.getD (@Kd.T Kd.str) s1 (@Int.toNat s3) (@Kd.zero Kd.str)) (fun y8 => (@cond (@Option R) (@BEq.beq (@Kd.T Kd.bool) (@instBEqOfDecidableEq (@Kd.T Kd.bool) @instDecidableEqBool) (@cond (@Kd.T Kd.bool) (@Bool.not y8) Bool.true (@Decidable.decide (@GT.gt Int Int.instLTInt (@Nat.cast Int instNatCastInt (@List.length UInt8 (@List.getD (@Kd.T Kd.str) s1 (@Int.toNat s3) (@Kd.zero Kd.str)))) (64 : Int)) (@Int.decLt (64 : Int) (@Nat.cast Int instNatCastInt (@List.length UInt8 (@List.getD (@Kd.T Kd.str) s1 (@Int.toNat s3) (@Kd.zero Kd.str))))))) Bool.false) (@cond (@Option R) (@mget Kd.bool (@List.getD (@Kd.T Kd.str) s1 (@Int.toNat s3) (@Kd.zero Kd.str)) s0) (K Bool.false) (E1003 (@mset Kd.bool (@List.getD (@Kd.T Kd.str) s1 (@Int.toNat s3) (@Kd.zero Kd.str)) Bool.true s0) s1 s2 (@Go.IntKind.wrap Go.IntKind.i64 (@HAdd.hAdd Int Int Int (@instHAdd Int @Int.instAdd) s3 (1 : Int))))) (K Bool.false)))) (@Option.none R)) (K Bool.true))
theorem wqpi (k : Nat) {R : Type} (I : Nat → St → Option R) (s0 : (List (List UInt8 × Bool))) (s1 : (List (List UInt8))) (s2 s3 : Int) (K : (Bool → Option R)) : execK (wq1o k) k (at_ [1, 1, 0, 1, 0, 0] wq3k) (wq7m s0 s1 s2 s3) (konts (wq1o k) k I [1, 1, 0, 1, 0, 0] wq3k (outK (wq1o k) wqam [.tmp 2] (wq7e K))) = wq9y k (fun s0 s1 s2 s3 => I 1003 (wq7m s0 s1 s2 s3)) s0 s1 s2 s3 K := by kernel_rfl
def wqk3 (k : Nat) {R : Type} (E1003 : ((List (List UInt8 × Bool)) → (List (List UInt8)) → Int → Int → Option R)) (x0 : (List (List UInt8))) (K : (Bool → Option R)) : Option R := (E1003 [] x0 (@Nat.cast Int instNatCastInt (@List.length (@Kd.T Kd.str) x0)) (0 : Int))
theorem wq10r (k : Nat) {R : Type} (I : Nat → St → Option R) (x0 : (List (List UInt8))) (K : (Bool → Option R)) : fnK (wq1o k) k wq3k 29 [.tmp 2] wqam [.v (.sl .str) x0] [] (wq7e K) = wqk3 k (fun s0 s1 s2 s3 => iter (wq1o k).pv (look (wq1o k).cuts 1003) (execK (wq1o k) k (at_ [1, 1, 0, 1, 0, 0] wq3k)) k (wq7m s0 s1 s2 s3) (konts (wq1o k) k I [1, 1, 0, 1, 0] wq3k (outK (wq1o k) wqam [.tmp 2] (wq7e K)))) x0 K := by kernel_rfl
def wq4q (k : Nat) {R : Type}  : Nat → (List (List UInt8 × Bool)) → (List (List UInt8)) → Int → Int → (Bool → Option R) → Option R
  | 0, _, _, _, _, _ => none
  | n + 1, s0, s1, s2, s3, K => wq9y k (fun s0 s1 s2 s3 => wq4q k  n s0 s1 s2 s3 K) s0 s1 s2 s3 K
theorem wqpj (k : Nat) {R : Type} (I : Nat → St → Option R) (K : (Bool → Option R)) : ∀ (n : Nat) (s0 : (List (List UInt8 × Bool))) (s1 : (List (List UInt8))) (s2 s3 : Int), iter (wq1o k).pv (look (wq1o k).cuts 1003) (execK (wq1o k) k (at_ [1, 1, 0, 1, 0, 0] wq3k)) n (wq7m s0 s1 s2 s3) (konts (wq1o k) k I [1, 1, 0, 1, 0] wq3k (outK (wq1o k) wqam [.tmp 2] (wq7e K))) = wq4q k  n s0 s1 s2 s3 K := by
  intro n
  induction n with
  | zero => intros; rfl
  | succ n ih =>
    intro s0 s1 s2 s3
    let I' : Nat → St → Option R := fun id s => bif Nat.beq id 1003 then iter (wq1o k).pv (look (wq1o k).cuts 1003) (execK (wq1o k) k (at_ [1, 1, 0, 1, 0, 0] wq3k)) n s (konts (wq1o k) k I [1, 1, 0, 1, 0] wq3k (outK (wq1o k) wqam [.tmp 2] (wq7e K))) else I id s
    have e := wqpi k I' s0 s1 s2 s3 K
    have h1003 : (fun s0 s1 s2 s3 => I' 1003 (wq7m s0 s1 s2 s3)) = (fun s0 s1 s2 s3 => wq4q k  n s0 s1 s2 s3 K) := by funext s0 s1 s2 s3; exact ih s0 s1 s2 s3
    refine Eq.trans (?_ : _ = _) (e.trans (Eq.trans ((congrArg ((fun E1003 => wq9y k E1003 s0 s1 s2 s3 K)) h1003)) (by rw [wq4q])))
    rfl
def wqga (k : Nat) {R : Type} (x0 : (List (List UInt8))) (K : (Bool → Option R)) : Option R := wqk3 k (fun s0 s1 s2 s3 => wq4q k k s0 s1 s2 s3 K) x0 K
theorem wq10s (k : Nat) {R : Type} (x0 : (List (List UInt8))) (K : (Bool → Option R)) : fnK (wq1o k) k wq3k 29 [.tmp 2] wqam [.v (.sl .str) x0] [] (wq7e K) = wqga k x0 K := by
  let I : Nat → St → Option R := fun _ _ => none
  have h1003 : (fun s0 s1 s2 s3 => iter (wq1o k).pv (look (wq1o k).cuts 1003) (execK (wq1o k) k (at_ [1, 1, 0, 1, 0, 0] wq3k)) k (wq7m s0 s1 s2 s3) (konts (wq1o k) k I [1, 1, 0, 1, 0] wq3k (outK (wq1o k) wqam [.tmp 2] (wq7e K)))) = (fun s0 s1 s2 s3 => wq4q k k s0 s1 s2 s3 K) := by funext s0 s1 s2 s3; exact wqpj k I K k s0 s1 s2 s3
  exact (wq10r k I x0 K).trans (congrArg ((fun E1003 => wqk3 k E1003 x0 K)) h1003)
def wqk4 (k : Nat) {R : Type} : List PV → List (Nm × HObj) → (Out → Option R) → Option R
  | [.v (.sl .str) x0], [], K => wqga k x0 (fun y0 => K (.ret [.v .bool y0] []))
  | _, _, _ => none
theorem wq10t (k : Nat) : (wqxj k).Ok Tryd.prog := (CTab.add_ok (fun h => wq136 k h) CTab.nil_ok)
theorem wq19h (k : Nat) {ps : List PV} {hp : List (Nm × HObj)} {R : Type} {K : Out → Option R} {r : R} (h : wqk4 k ps hp K = some r) : DoesTo Tryd.prog 36 ps hp fun out => K out = some r := by
  unfold wqk4 at h
  split at h
  · rw [← wq10s] at h
    have := fn_ok (P := Tryd.prog) (cx := wq1o k) (f := 36) ⟨tyT_ok, wq10t k, fun _ _ => rfl⟩ (by kernel_rfl) (fn := Tryd.f36) (c := wq3k) (by kernel_rfl) (by kernel_rfl) (by kernel_rfl) (rs := [.tmp 2]) (by kernel_rfl) (by kernel_rfl) h
    exact this.mono fun out ho => by
      unfold wq7e at ho
      split at ho <;> first | exact ho | cases ho
  · cases h
def wquo : List LS := [.obj 1 [.sl (.pr (.int .i64) (.pr (.int .i64) (.pr (.int .i64) (.pr .str .bool))))], .obj 2 [.any, .any]]
def wqup (k : Nat) : CTab := CTab.nil
def wqgb {R : Type} (K : ((List (Int × (Int × (Int × ((List UInt8) × Bool))))) → Int → Int → Option R)) : Out → Option R
  | .ret [] [(1, .var 76 [.v (.sl (.pr (.int .i64) (.pr (.int .i64) (.pr (.int .i64) (.pr .str .bool))))) y0]), (2, .var 78 [.v (.int .i64) y1, .v (.int .i64) y2])] => K y0 y1 y2
  | _ => none
def wqrp : RetSpec := ⟨[], [(1, .obj 1 [.sl (.pr (.int .i64) (.pr (.int .i64) (.pr (.int .i64) (.pr .str .bool))))]), (2, .obj 2 [.any, .any])], []⟩
def wqxl : List (Nat × CutSpec) := []
def wqvh : List (Nat × Plan) := [(7, (.of [(0, 2), (1, 0), (2, 0)] .done))]
def wqk5 (k : Nat) : Ctx := ⟨tyT, wqxl, wqup k, [], [1, 2], wqvh, @SH⟩
def wqcu : Code := Tryd.f55.body.getD .skip
def wqm0 (k : Nat) {R : Type}  (x0 : (List (Int × (Int × (Int × ((List UInt8) × Bool)))))) (x1 x2 : Int) (K : ((List (Int × (Int × (Int × ((List UInt8) × Bool))))) → Int → Int → Option R)) : Option R := (K x0 x1 x2)
theorem wqxm (k : Nat) {R : Type} (I : Nat → St → Option R) (x0 : (List (Int × (Int × (Int × ((List UInt8) × Bool)))))) (x1 x2 : Int) (K : ((List (Int × (Int × (Int × ((List UInt8) × Bool))))) → Int → Int → Option R)) : fnCK (wqk5 k) k (at_ [1] wqcu) 12 [] wqrp [.ptr 1 0, .ptr 2 0] 5 (.nilif) [(1, .var 76 [.v (.sl (.pr (.int .i64) (.pr (.int .i64) (.pr (.int .i64) (.pr .str .bool))))) x0]), (2, .var 78 [.v (.int .i64) x1, .v (.int .i64) x2])] (wqgb K) = wqm0 k  x0 x1 x2 K := by kernel_rfl
def wqep (k : Nat) {R : Type} (x0 : (List (Int × (Int × (Int × ((List UInt8) × Bool)))))) (x1 x2 : Int) (K : ((List (Int × (Int × (Int × ((List UInt8) × Bool))))) → Int → Int → Option R)) : Option R := wqm0 k  x0 x1 x2 K
theorem wqxn (k : Nat) {R : Type} (x0 : (List (Int × (Int × (Int × ((List UInt8) × Bool)))))) (x1 x2 : Int) (K : ((List (Int × (Int × (Int × ((List UInt8) × Bool))))) → Int → Int → Option R)) : fnCK (wqk5 k) k (at_ [1] wqcu) 12 [] wqrp [.ptr 1 0, .ptr 2 0] 5 (.nilif) [(1, .var 76 [.v (.sl (.pr (.int .i64) (.pr (.int .i64) (.pr (.int .i64) (.pr .str .bool))))) x0]), (2, .var 78 [.v (.int .i64) x1, .v (.int .i64) x2])] (wqgb K) = wqep k x0 x1 x2 K := by
  exact wqxm k (fun _ _ => none) x0 x1 x2 K
def wqoy (k : Nat) {R : Type} : PV → List PV → List (Nm × HObj) → (Out → Option R) → Option R
  | .nilif, [.ptr 1 0, .ptr 2 0], [(1, .var 76 [.v (.sl (.pr (.int .i64) (.pr (.int .i64) (.pr (.int .i64) (.pr .str .bool))))) x0]), (2, .var 78 [.v (.int .i64) x1, .v (.int .i64) x2])], K => wqep k x0 x1 x2 (fun y0 y1 y2 => K (.ret [] [(1, .var 76 [.v (.sl (.pr (.int .i64) (.pr (.int .i64) (.pr (.int .i64) (.pr .str .bool))))) y0]), (2, .var 78 [.v (.int .i64) y1, .v (.int .i64) y2])]))
  | _, _, _, _ => none
theorem wqxo (k : Nat) : (wqup k).Ok Tryd.prog := CTab.nil_ok
theorem wq14d (k : Nat) {rec : PV} {ps : List PV} {hp : List (Nm × HObj)} {R : Type} {K : Out → Option R} {r : R} (h : wqoy k rec ps hp K = some r) : DoesToD Tryd.prog 55 rec ps hp fun out => K out = some r := by
  unfold wqoy at h
  split at h
  · rw [← wqxn] at h
    have := wq1f4 (P := Tryd.prog) (cx := wqk5 k) (f := 55) ⟨tyT_ok, wqxo k, fun _ _ => rfl⟩ (by kernel_rfl) (fn := Tryd.f55) (id := 0) (ops := opsAt (at_ [0] wqcu)) (c := at_ [1] wqcu) (by kernel_rfl) (by kernel_rfl) (by kernel_rfl) (rs := []) (by kernel_rfl) (by kernel_rfl) h
    exact this.mono fun out ho => by
      unfold wqgb at ho
      split at ho <;> first | exact ho | cases ho
  · cases h
def wquq (k : Nat) : CTab := CTab.nil
def wqgc {R : Type} (K : ((List (Int × (Int × (Int × ((List UInt8) × Bool))))) → Int → Int → Option R)) : Out → Option R
  | .ret [] [(1, .var 76 [.v (.sl (.pr (.int .i64) (.pr (.int .i64) (.pr (.int .i64) (.pr .str .bool))))) y0]), (2, .var 78 [.v (.int .i64) y1, .v (.int .i64) y2])] => K y0 y1 y2
  | _ => none
def wqrq : RetSpec := ⟨[], [(1, .obj 1 [.sl (.pr (.int .i64) (.pr (.int .i64) (.pr (.int .i64) (.pr .str .bool))))]), (2, .obj 2 [.any, .any])], []⟩
def wqxp : List (Nat × CutSpec) := []
def wqvi : List (Nat × Plan) := [(7, (.of [(0, 2), (1, 0), (2, 0)] .done))]
def wqk6 (k : Nat) : Ctx := ⟨tyT, wqxp, wquq k, [], [1, 2], wqvi, @SH⟩
def wqcv : Code := Tryd.f55.body.getD .skip
def wqm1 (k : Nat) {R : Type}  (x0 : (List (Int × (Int × (Int × ((List UInt8) × Bool)))))) (x1 x2 x3 x4 : Int) (K : ((List (Int × (Int × (Int × ((List UInt8) × Bool))))) → Int → Int → Option R)) : Option R := (K [] x3 x4)
theorem wqxq (k : Nat) {R : Type} (I : Nat → St → Option R) (x0 : (List (Int × (Int × (Int × ((List UInt8) × Bool)))))) (x1 x2 x3 x4 : Int) (K : ((List (Int × (Int × (Int × ((List UInt8) × Bool))))) → Int → Int → Option R)) : fnCK (wqk6 k) k (at_ [1] wqcv) 12 [] wqrq [.ptr 1 0, .ptr 2 0] 5 (.ifc 78 (.agg [.v (.int .i64) x3, .v (.int .i64) x4])) [(1, .var 76 [.v (.sl (.pr (.int .i64) (.pr (.int .i64) (.pr (.int .i64) (.pr .str .bool))))) x0]), (2, .var 78 [.v (.int .i64) x1, .v (.int .i64) x2])] (wqgc K) = wqm1 k  x0 x1 x2 x3 x4 K := by kernel_rfl
def wqeq (k : Nat) {R : Type} (x0 : (List (Int × (Int × (Int × ((List UInt8) × Bool)))))) (x1 x2 x3 x4 : Int) (K : ((List (Int × (Int × (Int × ((List UInt8) × Bool))))) → Int → Int → Option R)) : Option R := wqm1 k  x0 x1 x2 x3 x4 K
theorem wqxr (k : Nat) {R : Type} (x0 : (List (Int × (Int × (Int × ((List UInt8) × Bool)))))) (x1 x2 x3 x4 : Int) (K : ((List (Int × (Int × (Int × ((List UInt8) × Bool))))) → Int → Int → Option R)) : fnCK (wqk6 k) k (at_ [1] wqcv) 12 [] wqrq [.ptr 1 0, .ptr 2 0] 5 (.ifc 78 (.agg [.v (.int .i64) x3, .v (.int .i64) x4])) [(1, .var 76 [.v (.sl (.pr (.int .i64) (.pr (.int .i64) (.pr (.int .i64) (.pr .str .bool))))) x0]), (2, .var 78 [.v (.int .i64) x1, .v (.int .i64) x2])] (wqgc K) = wqeq k x0 x1 x2 x3 x4 K := by
  exact wqxq k (fun _ _ => none) x0 x1 x2 x3 x4 K
def wqoz (k : Nat) {R : Type} : PV → List PV → List (Nm × HObj) → (Out → Option R) → Option R
  | .ifc 78 (.agg [.v (.int .i64) x3, .v (.int .i64) x4]), [.ptr 1 0, .ptr 2 0], [(1, .var 76 [.v (.sl (.pr (.int .i64) (.pr (.int .i64) (.pr (.int .i64) (.pr .str .bool))))) x0]), (2, .var 78 [.v (.int .i64) x1, .v (.int .i64) x2])], K => wqeq k x0 x1 x2 x3 x4 (fun y0 y1 y2 => K (.ret [] [(1, .var 76 [.v (.sl (.pr (.int .i64) (.pr (.int .i64) (.pr (.int .i64) (.pr .str .bool))))) y0]), (2, .var 78 [.v (.int .i64) y1, .v (.int .i64) y2])]))
  | _, _, _, _ => none
theorem wqxs (k : Nat) : (wquq k).Ok Tryd.prog := CTab.nil_ok
theorem wq14e (k : Nat) {rec : PV} {ps : List PV} {hp : List (Nm × HObj)} {R : Type} {K : Out → Option R} {r : R} (h : wqoz k rec ps hp K = some r) : DoesToD Tryd.prog 55 rec ps hp fun out => K out = some r := by
  unfold wqoz at h
  split at h
  · rw [← wqxr] at h
    have := wq1f4 (P := Tryd.prog) (cx := wqk6 k) (f := 55) ⟨tyT_ok, wqxs k, fun _ _ => rfl⟩ (by kernel_rfl) (fn := Tryd.f55) (id := 0) (ops := opsAt (at_ [0] wqcv)) (c := at_ [1] wqcv) (by kernel_rfl) (by kernel_rfl) (by kernel_rfl) (rs := []) (by kernel_rfl) (by kernel_rfl) h
    exact this.mono fun out ho => by
      unfold wqgc at ho
      split at ho <;> first | exact ho | cases ho
  · cases h
def wqrr : List LS := [.any, .any]
def wql6 (k : Nat) : CTab := CTab.nil
def wqbx {R : Type} (K : (Bool → Option R)) : Out → Option R
  | .ret [.v .bool y0] [] => K y0
  | _ => none
def wqjd : RetSpec := ⟨[.any], [], []⟩
def wqpk : List (Nat × CutSpec) := []
def wqnv : List (Nat × Plan) := []
def wqds (k : Nat) : Ctx := ⟨tyT, wqpk, wql6 k, [], [], wqnv, @SH⟩
def wqby : Code := Tryd.f51.body.getD .skip
def wqf4 (k : Nat) {R : Type}  (x0 x1 : (List UInt8)) (K : (Bool → Option R)) : Option R := (@cond (@Option R) (@Bool.or (@Bool.not (@BEq.beq (@Kd.T Kd.bool) (@instBEqOfDecidableEq (@Kd.T Kd.bool) @instDecidableEqBool) (@Decidable.decide (@GE.ge Int Int.instLEInt (@Nat.cast Int instNatCastInt (@List.length UInt8 x0)) (@Nat.cast Int instNatCastInt (@List.length UInt8 x1))) (@Int.decLe (@Nat.cast Int instNatCastInt (@List.length UInt8 x1)) (@Nat.cast Int instNatCastInt (@List.length UInt8 x0)))) Bool.true)) (@bnd (0 : Int) (@Nat.cast Int instNatCastInt (@List.length UInt8 x1)) (@Nat.cast Int instNatCastInt (@List.length UInt8 x0)))) (K (@cond (@Kd.T Kd.bool) (@Decidable.decide (@GE.ge Int Int.instLEInt (@Nat.cast Int instNatCastInt (@List.length UInt8 x0)) (@Nat.cast Int instNatCastInt (@List.length UInt8 x1))) (@Int.decLe (@Nat.cast Int instNatCastInt (@List.length UInt8 x1)) (@Nat.cast Int instNatCastInt (@List.length UInt8 x0)))) (@BEq.beq (@List UInt8) (@List.instBEq UInt8 (@instBEqOfDecidableEq UInt8 @instDecidableEqUInt8)) (@cut UInt8 x0 (0 : Int) (@Nat.cast Int instNatCastInt (@List.length UInt8 x1))) x1) Bool.false)) (@Option.none R))
theorem wqpl (k : Nat) {R : Type} (I : Nat → St → Option R) (x0 x1 : (List UInt8)) (K : (Bool → Option R)) : fnK (wqds k) k wqby 18 [.tmp 4] wqjd [.v .str x0, .v .str x1] [] (wqbx K) = wqf4 k  x0 x1 K := by kernel_rfl
def wqbs (k : Nat) {R : Type} (x0 x1 : (List UInt8)) (K : (Bool → Option R)) : Option R := wqf4 k  x0 x1 K
theorem wqpm (k : Nat) {R : Type} (x0 x1 : (List UInt8)) (K : (Bool → Option R)) : fnK (wqds k) k wqby 18 [.tmp 4] wqjd [.v .str x0, .v .str x1] [] (wqbx K) = wqbs k x0 x1 K := by
  exact wqpl k (fun _ _ => none) x0 x1 K
def wqcw (k : Nat) {R : Type} : List PV → List (Nm × HObj) → (Out → Option R) → Option R
  | [.v .str x0, .v .str x1], [], K => wqbs k x0 x1 (fun y0 => K (.ret [.v .bool y0] []))
  | _, _, _ => none
theorem wqpn (k : Nat) : (wql6 k).Ok Tryd.prog := CTab.nil_ok
theorem wqvj (k : Nat) {ps : List PV} {hp : List (Nm × HObj)} {R : Type} {K : Out → Option R} {r : R} (h : wqcw k ps hp K = some r) : DoesTo Tryd.prog 51 ps hp fun out => K out = some r := by
  unfold wqcw at h
  split at h
  · rw [← wqpm] at h
    have := fn_ok (P := Tryd.prog) (cx := wqds k) (f := 51) ⟨tyT_ok, wqpn k, fun _ _ => rfl⟩ (by kernel_rfl) (fn := Tryd.f51) (c := wqby) (by kernel_rfl) (by kernel_rfl) (by kernel_rfl) (rs := [.tmp 4]) (by kernel_rfl) (by kernel_rfl) h
    exact this.mono fun out ho => by
      unfold wqbx at ho
      split at ho <;> first | exact ho | cases ho
  · cases h
def wqnw : List LS := [.any, .any]
def wqhr (k : Nat) : CTab := (CTab.add 51 wqrr (wqcw k) CTab.nil)
def wqan {R : Type} (K : (Bool → Option R)) : Out → Option R
  | .ret [.v .bool y0] [] => K y0
  | _ => none
def wqgd : RetSpec := ⟨[.any], [], []⟩
def wqm2 : List (Nat × CutSpec) := []
def wqli : List (Nat × Plan) := []
def wqbz (k : Nat) : Ctx := ⟨tyT, wqm2, wqhr k, [], [], wqli, @SH⟩
def wqao : Code := Tryd.f41.body.getD .skip
def wqcx (k : Nat) {R : Type}  (x0 x1 : (List UInt8)) (K : (Bool → Option R)) : Option R := (@wqbs k R x0 x1 (fun y5 => (K y5)))
theorem wqm3 (k : Nat) {R : Type} (I : Nat → St → Option R) (x0 x1 : (List UInt8)) (K : (Bool → Option R)) : fnK (wqbz k) k wqao 8 [.tmp 4] wqgd [.v .str x0, .v .str x1] [] (wqan K) = wqcx k  x0 x1 K := by kernel_rfl
def wqae (k : Nat) {R : Type} (x0 x1 : (List UInt8)) (K : (Bool → Option R)) : Option R := wqcx k  x0 x1 K
theorem wqm4 (k : Nat) {R : Type} (x0 x1 : (List UInt8)) (K : (Bool → Option R)) : fnK (wqbz k) k wqao 8 [.tmp 4] wqgd [.v .str x0, .v .str x1] [] (wqan K) = wqae k x0 x1 K := by
  exact wqm3 k (fun _ _ => none) x0 x1 K
def wqbe (k : Nat) {R : Type} : List PV → List (Nm × HObj) → (Out → Option R) → Option R
  | [.v .str x0, .v .str x1], [], K => wqae k x0 x1 (fun y0 => K (.ret [.v .bool y0] []))
  | _, _, _ => none
theorem wqm5 (k : Nat) : (wqhr k).Ok Tryd.prog := (CTab.add_ok (fun h => wqvj k h) CTab.nil_ok)
theorem wqrs (k : Nat) {ps : List PV} {hp : List (Nm × HObj)} {R : Type} {K : Out → Option R} {r : R} (h : wqbe k ps hp K = some r) : DoesTo Tryd.prog 41 ps hp fun out => K out = some r := by
  unfold wqbe at h
  split at h
  · rw [← wqm4] at h
    have := fn_ok (P := Tryd.prog) (cx := wqbz k) (f := 41) ⟨tyT_ok, wqm5 k, fun _ _ => rfl⟩ (by kernel_rfl) (fn := Tryd.f41) (c := wqao) (by kernel_rfl) (by kernel_rfl) (by kernel_rfl) (rs := [.tmp 4]) (by kernel_rfl) (by kernel_rfl) h
    exact this.mono fun out ho => by
      unfold wqan at ho
      split at ho <;> first | exact ho | cases ho
  · cases h
def wqxt : List LS := [.any]
def wq170 (k : Nat) : CTab := (CTab.add 41 wqnw (wqbe k) CTab.nil)
def wqm6 {R : Type} (K : (Bool → Option R)) : Out → Option R
  | .ret [.v .bool y0] [] => K y0
  | _ => none
def wq137 : RetSpec := ⟨[.any], [], []⟩
def wq171 : List (Nat × CutSpec) := []
def wq14f : List (Nat × Plan) := []
def wqtp (k : Nat) : Ctx := ⟨tyT, wq171, wq170 k, [], [], wq14f, @SH⟩
def wqm7 : Code := Tryd.f72.body.getD .skip
def wqxu (k : Nat) {R : Type}  (x0 : (List UInt8)) (K : (Bool → Option R)) : Option R := (@cond (@Option R) (@BEq.beq (@Kd.T Kd.bool) (@instBEqOfDecidableEq (@Kd.T Kd.bool) @instDecidableEqBool) (@BEq.beq (@List UInt8) (@List.instBEq UInt8 (@instBEqOfDecidableEq UInt8 @instDecidableEqUInt8)) x0 ((45 : UInt8) :: [])) Bool.false) (@wqae k R x0 ((45 : UInt8) :: ((32 : UInt8) :: [])) (fun y4 => (K y4))) (K Bool.true))
theorem wq172 (k : Nat) {R : Type} (I : Nat → St → Option R) (x0 : (List UInt8)) (K : (Bool → Option R)) : fnK (wqtp k) k wqm7 9 [.tmp 2] wq137 [.v .str x0] [] (wqm6 K) = wqxu k  x0 K := by kernel_rfl
def wqje (k : Nat) {R : Type} (x0 : (List UInt8)) (K : (Bool → Option R)) : Option R := wqxu k  x0 K
theorem wq173 (k : Nat) {R : Type} (x0 : (List UInt8)) (K : (Bool → Option R)) : fnK (wqtp k) k wqm7 9 [.tmp 2] wq137 [.v .str x0] [] (wqm6 K) = wqje k x0 K := by
  exact wq172 k (fun _ _ => none) x0 K
def wqk7 (k : Nat) {R : Type} : List PV → List (Nm × HObj) → (Out → Option R) → Option R
  | [.v .str x0], [], K => wqje k x0 (fun y0 => K (.ret [.v .bool y0] []))
  | _, _, _ => none
theorem wq174 (k : Nat) : (wq170 k).Ok Tryd.prog := (CTab.add_ok (fun h => wqrs k h) CTab.nil_ok)
theorem wq175 (k : Nat) {ps : List PV} {hp : List (Nm × HObj)} {R : Type} {K : Out → Option R} {r : R} (h : wqk7 k ps hp K = some r) : DoesTo Tryd.prog 72 ps hp fun out => K out = some r := by
  unfold wqk7 at h
  split at h
  · rw [← wq173] at h
    have := fn_ok (P := Tryd.prog) (cx := wqtp k) (f := 72) ⟨tyT_ok, wq174 k, fun _ _ => rfl⟩ (by kernel_rfl) (fn := Tryd.f72) (c := wqm7) (by kernel_rfl) (by kernel_rfl) (by kernel_rfl) (rs := [.tmp 2]) (by kernel_rfl) (by kernel_rfl) h
    exact this.mono fun out ho => by
      unfold wqm6 at ho
      split at ho <;> first | exact ho | cases ho
  · cases h
def wqjf (s : List UInt8) (c : Int) : Int :=
  match (List.range s.length).find? fun i => s.getD i 0 == UInt8.ofNat c.toNat with
  | some i => (i : Int)
  | none => -1
theorem wq1bw {P : Program} (x0 : List UInt8) (x1 : Int) (w : World) : (Go.Extern.BytealgIndexByte.indexByte #[.string ⟨x0.toArray⟩, .int .u8 x1]).run P w = .ok (.int .i64 (wqjf x0 x1)) w := by
  have e5 : (Go.Extern.BytealgIndexByte.indexByte #[.string ⟨x0.toArray⟩, .int .u8 x1]).run P w = (match (List.range (ByteArray.mk x0.toArray).size).find? fun i => (ByteArray.mk x0.toArray)[i]! == x1.toNat.toUInt8 with
    | some i => (pure (goInt i) : Sem Value)
    | none => pure (goInt (-1))).run P w := rfl
  rw [e5]
  unfold wqjf
  have e6 : (ByteArray.mk x0.toArray).size = x0.length := by simp [ByteArray.size]
  have e7 : ∀ i, (ByteArray.mk x0.toArray)[i]! = x0.getD i 0 := by
    intro i
    by_cases hi : i < x0.length
    · rw [getElem!_pos (ByteArray.mk x0.toArray) i (by rw [e6]; exact hi)]
      have : x0.getD i 0 = x0[i] := by simp [List.getD, hi]
      rw [this]; rfl
    · rw [getElem!_neg (ByteArray.mk x0.toArray) i (by rw [e6]; exact hi)]
      have : x0.getD i 0 = 0 := by simp [List.getD, Nat.le_of_not_lt hi]
      rw [this]; rfl
  simp only [e6, e7]
  have e8 : ∀ i, (x0.getD i 0 == x1.toNat.toUInt8) = (x0.getD i 0 == UInt8.ofNat x1.toNat) := fun i => rfl
  simp only [e8]
  cases (List.range x0.length).find? fun i => x0.getD i 0 == UInt8.ofNat x1.toNat with
  | none => rfl
  | some i => rfl
def wqk8 : List LS := [.any, .any]
def wqap (k : Nat) {R : Type} (x0 : List UInt8) (x1 : Int) (K : Int → Option R) : Option R := K (wqjf x0 x1)
def wq9l (k : Nat) {R : Type} : List PV → List (Nm × HObj) → (Out → Option R) → Option R
  | [.v .str x0, .v (.int .u8) x1], [], K => wqap k x0 x1 (fun y0 => K (.ret [.v (.int .i64) y0] []))
  | _, _, _ => none
theorem wq1fv {G : Gh} {w : World} : Fin [] [] G w G w :=
  ⟨fun n o h => (by cases h), fun n m b h => (by simp [blkOf, mkH, look] at h), fun n t cs h => (by cases h), fun n ag V es h => (by cases h), fun _ _ _ => rfl, rfl, fun n b h => (by simp [blkOf, mkH, look] at h), Nat.le_refl _, rfl, rfl, rfl⟩
theorem wqjg : Extern.find Tryd.f95 = some Go.Extern.BytealgIndexByte.indexByte := by kernel_rfl
theorem wqfr : (Extern.findNext Tryd.f95).isNone = true := by kernel_rfl
theorem wqlj : Tryd.prog.funcs[95]? = some Tryd.f95 := by kernel_rfl
theorem wqcm : (Tryd.f95.name == "runtime.NumGoroutine") = false := by kernel_rfl
theorem wqjh : Tryd.f95.body.isNone = true := by kernel_rfl
theorem wqm8 (k : Nat) {ps : List PV} {hp : List (Nm × HObj)} {R : Type} {K : Out → Option R} {r : R} (h : wq9l k ps hp K = some r) : DoesTo Tryd.prog 95 ps hp fun out => K out = some r := by
  unfold wq9l at h
  split at h
  · next x0 x1 =>
    intro G w vals hr obj dis
    obtain ⟨v0, l0, rfl, h0, v1, l1, rfl, h1, rfl⟩ := hr
    have e0 : v0 = .string ⟨x0.toArray⟩ := by simpa [RV, RD] using h0
    have e1 : v1 = .int .u8 x1 := by simpa [RV, RD] using h1
    subst e0 e1
    have hrun : (callFunc 95 #[.string ⟨x0.toArray⟩, .int .u8 x1]).run Tryd.prog w = .ok (.value (.int .i64 (wqjf x0 x1))) w := by
      have hn2 : ¬ Tryd.f95.name = "runtime.NumGoroutine" := by simpa using wqcm
      have hn3 : Extern.findNext Tryd.f95 = none := by
        cases hq : Extern.findNext Tryd.f95 with
        | none => rfl
        | some e => have := wqfr; rw [hq] at this; cases this
      have e1 : (callFunc 95 #[.string ⟨x0.toArray⟩, .int .u8 x1]).run Tryd.prog w = (Go.Extern.BytealgIndexByte.indexByte #[.string ⟨x0.toArray⟩, .int .u8 x1] >>= fun v => pure (Next.value v)).run Tryd.prog w := by
        unfold callFunc
        rw [Sem.run_bind]
        have e2 : (program).run Tryd.prog w = .ok Tryd.prog w := rfl
        rw [e2, Result.andThen_ok, wqlj]
        simp only [wqcm, wqjh, if_true, Bool.false_eq_true, if_false]
        rw [Sem.run_bind]
        have e3 : (mark (.extern 95)).run Tryd.prog w = .ok () w := rfl
        rw [e3, Result.andThen_ok, hn3, wqjg]
      rw [e1]
      have e4 := wq1bw (P := Tryd.prog) x0 x1 w
      rw [Sem.run_bind, e4]; rfl
    show Does _ _ #[_, _] _ _
    unfold Does
    rw [hrun]
    exact ⟨.ret [.v (.int .i64) (wqjf x0 x1)] [], h, G, ⟨_, rfl, rfl⟩, wq1fv⟩
  · cases h
def wqhs : List LS := [.any, .any]
def wql7 (k : Nat) : CTab := (CTab.add 95 wqk8 (wq9l k) CTab.nil)
def wqc0 {R : Type} (K : (Int → Option R)) : Out → Option R
  | .ret [.v (.int .i64) y0] [] => K y0
  | _ => none
def wqji : RetSpec := ⟨[.any], [], []⟩
def wqpo : List (Nat × CutSpec) := []
def wqnx : List (Nat × Plan) := []
def wqdt (k : Nat) : Ctx := ⟨tyT, wqpo, wql7 k, [], [], wqnx, @SH⟩
def wqc1 : Code := Tryd.f89.body.getD .skip
def wqf5 (k : Nat) {R : Type}  (x0 : (List UInt8)) (x1 : Int) (K : (Int → Option R)) : Option R := (@wqap k R x0 x1 (fun y5 => (K y5)))
theorem wqpp (k : Nat) {R : Type} (I : Nat → St → Option R) (x0 : (List UInt8)) (x1 : Int) (K : (Int → Option R)) : fnK (wqdt k) k wqc1 8 [.tmp 4] wqji [.v .str x0, .v (.int .u8) x1] [] (wqc0 K) = wqf5 k  x0 x1 K := by kernel_rfl
def wq9z (k : Nat) {R : Type} (x0 : (List UInt8)) (x1 : Int) (K : (Int → Option R)) : Option R := wqf5 k  x0 x1 K
theorem wqpq (k : Nat) {R : Type} (x0 : (List UInt8)) (x1 : Int) (K : (Int → Option R)) : fnK (wqdt k) k wqc1 8 [.tmp 4] wqji [.v .str x0, .v (.int .u8) x1] [] (wqc0 K) = wq9z k x0 x1 K := by
  exact wqpp k (fun _ _ => none) x0 x1 K
def wqaf (k : Nat) {R : Type} : List PV → List (Nm × HObj) → (Out → Option R) → Option R
  | [.v .str x0, .v (.int .u8) x1], [], K => wq9z k x0 x1 (fun y0 => K (.ret [.v (.int .i64) y0] []))
  | _, _, _ => none
theorem wqpr (k : Nat) : (wql7 k).Ok Tryd.prog := (CTab.add_ok (fun h => wqm8 k h) CTab.nil_ok)
theorem wql8 (k : Nat) {ps : List PV} {hp : List (Nm × HObj)} {R : Type} {K : Out → Option R} {r : R} (h : wqaf k ps hp K = some r) : DoesTo Tryd.prog 89 ps hp fun out => K out = some r := by
  unfold wqaf at h
  split at h
  · rw [← wqpq] at h
    have := fn_ok (P := Tryd.prog) (cx := wqdt k) (f := 89) ⟨tyT_ok, wqpr k, fun _ _ => rfl⟩ (by kernel_rfl) (fn := Tryd.f89) (c := wqc1) (by kernel_rfl) (by kernel_rfl) (by kernel_rfl) (rs := [.tmp 4]) (by kernel_rfl) (by kernel_rfl) h
    exact this.mono fun out ho => by
      unfold wqc0 at ho
      split at ho <;> first | exact ho | cases ho
  · cases h
def wq10u : List LS := [.any, .any]
def wqur (k : Nat) : CTab := (CTab.add 89 wqhs (wqaf k) CTab.nil)
def wqge {R : Type} (K : (Int → Option R)) : Out → Option R
  | .ret [.v (.int .i64) y0] [] => K y0
  | _ => none
def wqrt : RetSpec := ⟨[.any], [], []⟩
def wqxv : List (Nat × CutSpec) := []
def wqvk : List (Nat × Plan) := []
def wqk9 (k : Nat) : Ctx := ⟨tyT, wqxv, wqur k, [], [], wqvk, @SH⟩
def wqgf : Code := Tryd.f94.body.getD .skip
def wqm9 (k : Nat) {R : Type}  (x0 : (List UInt8)) (x1 : UInt8) (K : (Int → Option R)) : Option R := (@cond (@Option R) (@cond (@Kd.T Kd.bool) (@BEq.beq Int (@instBEqOfDecidableEq Int @Int.instDecidableEq) (@Nat.cast Int instNatCastInt (@List.length UInt8 (x1 :: []))) (0 : Int)) Bool.true (@BEq.beq (@List UInt8) (@List.instBEq UInt8 (@instBEqOfDecidableEq UInt8 @instDecidableEqUInt8)) (x1 :: []) x0)) (K (0 : Int)) (@wq9z k R x0 (@Nat.cast Int instNatCastInt (@UInt8.toNat (@List.getD UInt8 (x1 :: []) (@Int.toNat (0 : Int)) (0 : UInt8)))) (fun y5 => (K y5))))
theorem wqxw (k : Nat) {R : Type} (I : Nat → St → Option R) (x0 : (List UInt8)) (x1 : UInt8) (K : (Int → Option R)) : fnK (wqk9 k) k wqgf 143 [.tmp 4] wqrt [.v .str x0, .v .str [x1]] [] (wqge K) = wqm9 k  x0 x1 K := by kernel_rfl
def wqht (k : Nat) {R : Type} (x0 : (List UInt8)) (x1 : UInt8) (K : (Int → Option R)) : Option R := wqm9 k  x0 x1 K
theorem wqxx (k : Nat) {R : Type} (x0 : (List UInt8)) (x1 : UInt8) (K : (Int → Option R)) : fnK (wqk9 k) k wqgf 143 [.tmp 4] wqrt [.v .str x0, .v .str [x1]] [] (wqge K) = wqht k x0 x1 K := by
  exact wqxw k (fun _ _ => none) x0 x1 K
def wqic (k : Nat) {R : Type} : List PV → List (Nm × HObj) → (Out → Option R) → Option R
  | [.v .str x0, .v .str [x1]], [], K => wqht k x0 x1 (fun y0 => K (.ret [.v (.int .i64) y0] []))
  | _, _, _ => none
theorem wqxy (k : Nat) : (wqur k).Ok Tryd.prog := (CTab.add_ok (fun h => wql8 k h) CTab.nil_ok)
theorem wq176 (k : Nat) {ps : List PV} {hp : List (Nm × HObj)} {R : Type} {K : Out → Option R} {r : R} (h : wqic k ps hp K = some r) : DoesTo Tryd.prog 94 ps hp fun out => K out = some r := by
  unfold wqic at h
  split at h
  · rw [← wqxx] at h
    have := fn_ok (P := Tryd.prog) (cx := wqk9 k) (f := 94) ⟨tyT_ok, wqxy k, fun _ _ => rfl⟩ (by kernel_rfl) (fn := Tryd.f94) (c := wqgf) (by kernel_rfl) (by kernel_rfl) (by kernel_rfl) (rs := [.tmp 4]) (by kernel_rfl) (by kernel_rfl) h
    exact this.mono fun out ho => by
      unfold wqge at ho
      split at ho <;> first | exact ho | cases ho
  · cases h
def wq177 : List LS := [.any, .any]
def wq138 (k : Nat) : CTab := (CTab.add 94 wq10u (wqic k) CTab.nil)
def wqka {R : Type} (K : ((List UInt8) → (List UInt8) → Bool → Option R)) : Out → Option R
  | .ret [.v .str y0, .v .str y1, .v .bool y2] [] => K y0 y1 y2
  | _ => none
def wqxz : RetSpec := ⟨[.any, .any, .any], [], []⟩
def wq14g : List (Nat × CutSpec) := []
def wq10v : List (Nat × Plan) := [(3, (.of [(0, 1), (1, 1), (2, 1), (3, 1), (4, 1), (5, 1), (6, 1), (7, 1), (8, 1), (9, 1), (10, 1), (11, 1)] .done))]
def wqps (k : Nat) : Ctx := ⟨tyT, wq14g, wq138 k, [], [], wq10v, @SH⟩
def wqkb : Code := Tryd.f87.body.getD .skip
def wqtq (k : Nat) {R : Type}  (x0 : (List UInt8)) (x1 : UInt8) (K : ((List UInt8) → (List UInt8) → Bool → Option R)) : Option R := (@wqht k R x0 x1 (fun y5 => (@cond (@Option R) (@Decidable.decide (@GE.ge Int Int.instLEInt y5 (0 : Int)) (@Int.decLe (0 : Int) y5)) (@cond (@Option R) (@bnd (0 : Int) y5 (@Nat.cast Int instNatCastInt (@List.length UInt8 x0))) (@cond (@Option R) (@bnd (@Go.IntKind.wrap Go.IntKind.i64 (@HAdd.hAdd Int Int Int (@instHAdd Int @Int.instAdd) y5 (@Nat.cast Int instNatCastInt (@List.length UInt8 (x1 :: []))))) (@Nat.cast Int instNatCastInt (@List.length UInt8 x0)) (@Nat.cast Int instNatCastInt (@List.length UInt8 x0))) (K (@cut UInt8 x0 (0 : Int) y5) (@cut UInt8 x0 (@Go.IntKind.wrap Go.IntKind.i64 (@HAdd.hAdd Int Int Int (@instHAdd Int @Int.instAdd) y5 (@Nat.cast Int instNatCastInt (@List.length UInt8 (x1 :: []))))) (@Nat.cast Int instNatCastInt (@List.length UInt8 x0))) Bool.true) (@Option.none R)) (@Option.none R)) (K x0 [] Bool.false))))
theorem wq14h (k : Nat) {R : Type} (I : Nat → St → Option R) (x0 : (List UInt8)) (x1 : UInt8) (K : ((List UInt8) → (List UInt8) → Bool → Option R)) : fnK (wqps k) k wqkb 23 [.tmp 4, .tmp 5, .tmp 6] wqxz [.v .str x0, .v .str [x1]] [] (wqka K) = wqtq k  x0 x1 K := by kernel_rfl
def wqnp (k : Nat) {R : Type} (x0 : (List UInt8)) (x1 : UInt8) (K : ((List UInt8) → (List UInt8) → Bool → Option R)) : Option R := wqtq k  x0 x1 K
theorem wq14i (k : Nat) {R : Type} (x0 : (List UInt8)) (x1 : UInt8) (K : ((List UInt8) → (List UInt8) → Bool → Option R)) : fnK (wqps k) k wqkb 23 [.tmp 4, .tmp 5, .tmp 6] wqxz [.v .str x0, .v .str [x1]] [] (wqka K) = wqnp k x0 x1 K := by
  exact wq14h k (fun _ _ => none) x0 x1 K
def wqma (k : Nat) {R : Type} : List PV → List (Nm × HObj) → (Out → Option R) → Option R
  | [.v .str x0, .v .str [x1]], [], K => wqnp k x0 x1 (fun y0 y1 y2 => K (.ret [.v .str y0, .v .str y1, .v .bool y2] []))
  | _, _, _ => none
theorem wq14j (k : Nat) : (wq138 k).Ok Tryd.prog := (CTab.add_ok (fun h => wq176 k h) CTab.nil_ok)
theorem wq1bx (k : Nat) {ps : List PV} {hp : List (Nm × HObj)} {R : Type} {K : Out → Option R} {r : R} (h : wqma k ps hp K = some r) : DoesTo Tryd.prog 87 ps hp fun out => K out = some r := by
  unfold wqma at h
  split at h
  · rw [← wq14i] at h
    have := fn_ok (P := Tryd.prog) (cx := wqps k) (f := 87) ⟨tyT_ok, wq14j k, fun _ _ => rfl⟩ (by kernel_rfl) (fn := Tryd.f87) (c := wqkb) (by kernel_rfl) (by kernel_rfl) (by kernel_rfl) (rs := [.tmp 4, .tmp 5, .tmp 6]) (by kernel_rfl) (by kernel_rfl) h
    exact this.mono fun out ho => by
      unfold wqka at ho
      split at ho <;> first | exact ho | cases ho
  · cases h
def wq10w : List LS := [.any, .any]
def wqus (k : Nat) : CTab := (CTab.add 87 wq177 (wqma k) CTab.nil)
def wqgg {R : Type} (K : ((List UInt8) → (List UInt8) → Bool → Option R)) : Out → Option R
  | .ret [.v .str y0, .v .str y1, .v .bool y2] [] => K y0 y1 y2
  | _ => none
def wqru : RetSpec := ⟨[.any, .any, .any], [], []⟩
def wqy0 : List (Nat × CutSpec) := []
def wqvl : List (Nat × Plan) := []
def wqkc (k : Nat) : Ctx := ⟨tyT, wqy0, wqus k, [], [], wqvl, @SH⟩
def wqgh : Code := Tryd.f80.body.getD .skip
def wqmb (k : Nat) {R : Type}  (x0 : (List UInt8)) (x1 : UInt8) (K : ((List UInt8) → (List UInt8) → Bool → Option R)) : Option R := (@wqnp k R x0 x1 (fun y5 y6 y7 => (K y5 y6 y7)))
theorem wqy1 (k : Nat) {R : Type} (I : Nat → St → Option R) (x0 : (List UInt8)) (x1 : UInt8) (K : ((List UInt8) → (List UInt8) → Bool → Option R)) : fnK (wqkc k) k wqgh 13 [.tmp 4, .tmp 5, .tmp 6] wqru [.v .str x0, .v .str [x1]] [] (wqgg K) = wqmb k  x0 x1 K := by kernel_rfl
def wqer (k : Nat) {R : Type} (x0 : (List UInt8)) (x1 : UInt8) (K : ((List UInt8) → (List UInt8) → Bool → Option R)) : Option R := wqmb k  x0 x1 K
theorem wqy2 (k : Nat) {R : Type} (x0 : (List UInt8)) (x1 : UInt8) (K : ((List UInt8) → (List UInt8) → Bool → Option R)) : fnK (wqkc k) k wqgh 13 [.tmp 4, .tmp 5, .tmp 6] wqru [.v .str x0, .v .str [x1]] [] (wqgg K) = wqer k x0 x1 K := by
  exact wqy1 k (fun _ _ => none) x0 x1 K
def wqid (k : Nat) {R : Type} : List PV → List (Nm × HObj) → (Out → Option R) → Option R
  | [.v .str x0, .v .str [x1]], [], K => wqer k x0 x1 (fun y0 y1 y2 => K (.ret [.v .str y0, .v .str y1, .v .bool y2] []))
  | _, _, _ => none
theorem wqy3 (k : Nat) : (wqus k).Ok Tryd.prog := (CTab.add_ok (fun h => wq1bx k h) CTab.nil_ok)
theorem wq178 (k : Nat) {ps : List PV} {hp : List (Nm × HObj)} {R : Type} {K : Out → Option R} {r : R} (h : wqid k ps hp K = some r) : DoesTo Tryd.prog 80 ps hp fun out => K out = some r := by
  unfold wqid at h
  split at h
  · rw [← wqy2] at h
    have := fn_ok (P := Tryd.prog) (cx := wqkc k) (f := 80) ⟨tyT_ok, wqy3 k, fun _ _ => rfl⟩ (by kernel_rfl) (fn := Tryd.f80) (c := wqgh) (by kernel_rfl) (by kernel_rfl) (by kernel_rfl) (rs := [.tmp 4, .tmp 5, .tmp 6]) (by kernel_rfl) (by kernel_rfl) h
    exact this.mono fun out ho => by
      unfold wqgg at ho
      split at ho <;> first | exact ho | cases ho
  · cases h
def wq139 : List LS := [.any]
def wq1b7 (k : Nat) : CTab := (CTab.add 45 wqun (wqhq k) (CTab.add 80 wq10w (wqid k) CTab.nil))
def wqpt {R : Type} (K : ((List UInt8) → Option R)) : Out → Option R
  | .ret [.v .str y0] [] => K y0
  | _ => none
def wq179 : RetSpec := ⟨[.any], [], []⟩
def wq19i : List (Nat × CutSpec) := []
def wq17a : List (Nat × Plan) := []
def wqy4 (k : Nat) : Ctx := ⟨tyT, wq19i, wq1b7 k, [], [], wq17a, @SH⟩
def wqpu : Code := Tryd.f74.body.getD .skip
def wq14k (k : Nat) {R : Type}  (x0 : (List UInt8)) (K : ((List UInt8) → Option R)) : Option R := (@wqer k R x0 (58 : UInt8) (fun y4 y5 y6 => (@cond (@Option R) (@BEq.beq (@Kd.T Kd.bool) (@instBEqOfDecidableEq (@Kd.T Kd.bool) @instDecidableEqBool) (@Bool.not y6) Bool.false) (@wqg3 k R y4 (fun y7 => (@cond (@Option R) (@Bool.or (@Bool.not (@Bool.and (@BEq.beq (@Kd.T Kd.bool) (@instBEqOfDecidableEq (@Kd.T Kd.bool) @instDecidableEqBool) (@Bool.not y7) Bool.false) (@BEq.beq (@Kd.T Kd.bool) (@instBEqOfDecidableEq (@Kd.T Kd.bool) @instDecidableEqBool) (@Bool.not (@BEq.beq (@List UInt8) (@List.instBEq UInt8 (@instBEqOfDecidableEq UInt8 @instDecidableEqUInt8)) y5 [])) Bool.true))) (@inb (0 : Int) (@Nat.cast Int instNatCastInt (@List.length UInt8 y5)))) (@cond (@Option R) (@cond (@Kd.T Kd.bool) (@Bool.not y7) Bool.true (@cond (@Kd.T Kd.bool) (@Bool.not (@BEq.beq (@List UInt8) (@List.instBEq UInt8 (@instBEqOfDecidableEq UInt8 @instDecidableEqUInt8)) y5 [])) (@bne Int (@instBEqOfDecidableEq Int @Int.instDecidableEq) (@Nat.cast Int instNatCastInt (@UInt8.toNat (@List.getD UInt8 y5 (@Int.toNat (0 : Int)) (0 : UInt8)))) (32 : Int)) Bool.false)) (K []) (K y4)) (@Option.none R)))) (K []))))
theorem wq19j (k : Nat) {R : Type} (I : Nat → St → Option R) (x0 : (List UInt8)) (K : ((List UInt8) → Option R)) : fnK (wqy4 k) k wqpu 29 [.tmp 2] wq179 [.v .str x0] [] (wqpt K) = wq14k k  x0 K := by kernel_rfl
def wqkd (k : Nat) {R : Type} (x0 : (List UInt8)) (K : ((List UInt8) → Option R)) : Option R := wq14k k  x0 K
theorem wq19k (k : Nat) {R : Type} (x0 : (List UInt8)) (K : ((List UInt8) → Option R)) : fnK (wqy4 k) k wqpu 29 [.tmp 2] wq179 [.v .str x0] [] (wqpt K) = wqkd k x0 K := by
  exact wq19j k (fun _ _ => none) x0 K
def wqnq (k : Nat) {R : Type} : List PV → List (Nm × HObj) → (Out → Option R) → Option R
  | [.v .str x0], [], K => wqkd k x0 (fun y0 => K (.ret [.v .str y0] []))
  | _, _, _ => none
theorem wq19l (k : Nat) : (wq1b7 k).Ok Tryd.prog := (CTab.add_ok (fun h => wq136 k h) (CTab.add_ok (fun h => wq178 k h) CTab.nil_ok))
theorem wq1b8 (k : Nat) {ps : List PV} {hp : List (Nm × HObj)} {R : Type} {K : Out → Option R} {r : R} (h : wqnq k ps hp K = some r) : DoesTo Tryd.prog 74 ps hp fun out => K out = some r := by
  unfold wqnq at h
  split at h
  · rw [← wq19k] at h
    have := fn_ok (P := Tryd.prog) (cx := wqy4 k) (f := 74) ⟨tyT_ok, wq19l k, fun _ _ => rfl⟩ (by kernel_rfl) (fn := Tryd.f74) (c := wqpu) (by kernel_rfl) (by kernel_rfl) (by kernel_rfl) (rs := [.tmp 2]) (by kernel_rfl) (by kernel_rfl) h
    exact this.mono fun out ho => by
      unfold wqpt at ho
      split at ho <;> first | exact ho | cases ho
  · cases h
def wq8h : List LS := [.obj 1 [.any, .any, .any, .any, .own 21 84 (.pr (.int .i64) (.pr (.int .i64) (.pr (.int .i64) (.pr .str .bool))))], .any]
def wql9 (k : Nat) : CTab := CTab.nil
def wqc2 {R : Type} (K : (Int → Int → (List UInt8) → Int → (List (Int × (Int × (Int × ((List UInt8) × Bool))))) → Option R)) (E : (Int → Int → (List UInt8) → Int → (List (Int × (Int × (Int × ((List UInt8) × Bool))))) → Int → Int → Option R)) : Out → Option R
  | .ret [] [(21, .row 84 (.pr (.int .i64) (.pr (.int .i64) (.pr (.int .i64) (.pr .str .bool)))) y4), (1, .var 97 [.v (.int .i64) y0, .v (.int .i64) y1, .v .str y2, .v (.int .i64) y3, .row 21])] => K y0 y1 y2 y3 y4
  | .pan (.ifc 78 (.agg [.v (.int .i64) z5, .v (.int .i64) z6])) [(21, .row 84 (.pr (.int .i64) (.pr (.int .i64) (.pr (.int .i64) (.pr .str .bool)))) z4), (1, .var 97 [.v (.int .i64) z0, .v (.int .i64) z1, .v .str z2, .v (.int .i64) z3, .row 21])] => E z0 z1 z2 z3 z4 z5 z6
  | _ => none
def wqjj : RetSpec := ⟨[], [(1, .obj 1 [.any, .any, .any, .any, .own 21 84 (.pr (.int .i64) (.pr (.int .i64) (.pr (.int .i64) (.pr .str .bool))))])], [(1, .obj 1 [.any, .any, .any, .any, .own 21 84 (.pr (.int .i64) (.pr (.int .i64) (.pr (.int .i64) (.pr .str .bool))))])]⟩
def wqpv : List (Nat × CutSpec) := []
def wqny : List (Nat × Plan) := []
def wqdu (k : Nat) : Ctx := ⟨tyT, wqpv, wql9 k, [], [1], wqny, @SH⟩
def wqc3 : Code := Tryd.f70.body.getD .skip
def wqla (k : Nat) {R : Type}  (x0 x1 : Int) (x2 : (List UInt8)) (x3 : Int) (x4 : (List (Int × (Int × (Int × ((List UInt8) × Bool)))))) (x5 : Int) (K : (Int → Int → (List UInt8) → Int → (List (Int × (Int × (Int × ((List UInt8) × Bool))))) → Option R)) (E : (Int → Int → (List UInt8) → Int → (List (Int × (Int × (Int × ((List UInt8) × Bool))))) → Int → Int → Option R)) : Option R := (E x0 x1 x2 x3 x4 x5 x0)
theorem wqpw (k : Nat) {R : Type} (I : Nat → St → Option R) (x0 x1 : Int) (x2 : (List UInt8)) (x3 : Int) (x4 : (List (Int × (Int × (Int × ((List UInt8) × Bool)))))) (x5 : Int) (K : (Int → Int → (List UInt8) → Int → (List (Int × (Int × (Int × ((List UInt8) × Bool))))) → Option R)) (E : (Int → Int → (List UInt8) → Int → (List (Int × (Int × (Int × ((List UInt8) × Bool))))) → Int → Int → Option R)) : fnK (wqdu k) k wqc3 12 [] wqjj [.ptr 1 0, .v (.int .i64) x5] [(21, .row 84 (.pr (.int .i64) (.pr (.int .i64) (.pr (.int .i64) (.pr .str .bool)))) x4), (1, .var 97 [.v (.int .i64) x0, .v (.int .i64) x1, .v .str x2, .v (.int .i64) x3, .row 21])] (wqc2 K E) = wqla k  x0 x1 x2 x3 x4 x5 K E := by kernel_rfl
def wqi (k : Nat) {R : Type} (x0 x1 : Int) (x2 : (List UInt8)) (x3 : Int) (x4 : (List (Int × (Int × (Int × ((List UInt8) × Bool)))))) (x5 : Int) (K : (Int → Int → (List UInt8) → Int → (List (Int × (Int × (Int × ((List UInt8) × Bool))))) → Option R)) (E : (Int → Int → (List UInt8) → Int → (List (Int × (Int × (Int × ((List UInt8) × Bool))))) → Int → Int → Option R)) : Option R := wqla k  x0 x1 x2 x3 x4 x5 K E
theorem wqpx (k : Nat) {R : Type} (x0 x1 : Int) (x2 : (List UInt8)) (x3 : Int) (x4 : (List (Int × (Int × (Int × ((List UInt8) × Bool)))))) (x5 : Int) (K : (Int → Int → (List UInt8) → Int → (List (Int × (Int × (Int × ((List UInt8) × Bool))))) → Option R)) (E : (Int → Int → (List UInt8) → Int → (List (Int × (Int × (Int × ((List UInt8) × Bool))))) → Int → Int → Option R)) : fnK (wqdu k) k wqc3 12 [] wqjj [.ptr 1 0, .v (.int .i64) x5] [(21, .row 84 (.pr (.int .i64) (.pr (.int .i64) (.pr (.int .i64) (.pr .str .bool)))) x4), (1, .var 97 [.v (.int .i64) x0, .v (.int .i64) x1, .v .str x2, .v (.int .i64) x3, .row 21])] (wqc2 K E) = wqi k x0 x1 x2 x3 x4 x5 K E := by
  exact wqpw k (fun _ _ => none) x0 x1 x2 x3 x4 x5 K E
def wq5b (k : Nat) {R : Type} : List PV → List (Nm × HObj) → (Out → Option R) → Option R
  | [.ptr 1 0, .v (.int .i64) x5], [(21, .row 84 (.pr (.int .i64) (.pr (.int .i64) (.pr (.int .i64) (.pr .str .bool)))) x4), (1, .var 97 [.v (.int .i64) x0, .v (.int .i64) x1, .v .str x2, .v (.int .i64) x3, .row 21])], K => wqi k x0 x1 x2 x3 x4 x5 (fun y0 y1 y2 y3 y4 => K (.ret [] [(21, .row 84 (.pr (.int .i64) (.pr (.int .i64) (.pr (.int .i64) (.pr .str .bool)))) y4), (1, .var 97 [.v (.int .i64) y0, .v (.int .i64) y1, .v .str y2, .v (.int .i64) y3, .row 21])])) (fun z0 z1 z2 z3 z4 z5 z6 => K (.pan (.ifc 78 (.agg [.v (.int .i64) z5, .v (.int .i64) z6])) [(21, .row 84 (.pr (.int .i64) (.pr (.int .i64) (.pr (.int .i64) (.pr .str .bool)))) z4), (1, .var 97 [.v (.int .i64) z0, .v (.int .i64) z1, .v .str z2, .v (.int .i64) z3, .row 21])]))
  | _, _, _ => none
theorem wqpy (k : Nat) : (wql9 k).Ok Tryd.prog := CTab.nil_ok
theorem wqa0 (k : Nat) {ps : List PV} {hp : List (Nm × HObj)} {R : Type} {K : Out → Option R} {r : R} (h : wq5b k ps hp K = some r) : DoesTo Tryd.prog 70 ps hp fun out => K out = some r := by
  unfold wq5b at h
  split at h
  · rw [← wqpx] at h
    have := fn_ok (P := Tryd.prog) (cx := wqdu k) (f := 70) ⟨tyT_ok, wqpy k, fun _ _ => rfl⟩ (by kernel_rfl) (fn := Tryd.f70) (c := wqc3) (by kernel_rfl) (by kernel_rfl) (by kernel_rfl) (rs := []) (by kernel_rfl) (by kernel_rfl) h
    exact this.mono fun out ho => by
      unfold wqc2 at ho
      split at ho <;> first | exact ho | cases ho
  · cases h
def wqhu : List LS := [.obj 1 [.any, .any, .any, .any, .own 21 84 (.pr (.int .i64) (.pr (.int .i64) (.pr (.int .i64) (.pr .str .bool))))], .any, .any, .any, .any]
def wqlb (k : Nat) : CTab := CTab.nil
def wqc4 {R : Type} (K : (Int → Int → (List UInt8) → Int → (List (Int × (Int × (Int × ((List UInt8) × Bool))))) → Option R)) : Out → Option R
  | .ret [] [(21, .row 84 (.pr (.int .i64) (.pr (.int .i64) (.pr (.int .i64) (.pr .str .bool)))) y4), (1, .var 97 [.v (.int .i64) y0, .v (.int .i64) y1, .v .str y2, .v (.int .i64) y3, .row 21])] => K y0 y1 y2 y3 y4
  | _ => none
def wqjk : RetSpec := ⟨[], [(1, .obj 1 [.any, .any, .any, .any, .own 21 84 (.pr (.int .i64) (.pr (.int .i64) (.pr (.int .i64) (.pr .str .bool))))])], []⟩
def wqpz : List (Nat × CutSpec) := []
def wqnz : List (Nat × Plan) := [(0, (.of [(0, 1), (1, 1), (2, 1), (3, 1), (5, 1), (6, 1), (7, 1), (8, 1), (9, 1), (11, 1), (12, 1), (13, 1), (14, 1), (16, 1), (17, 1), (18, 1), (21, 1), (22, 1), (4, 1), (10, 1), (15, 1), (19, 1), (20, 1), (23, 1), (24, 0), (25, 0), (26, 1), (27, 1), (28, 0)] .done))]
def wqdv (k : Nat) : Ctx := ⟨tyT, wqpz, wqlb k, [], [1], wqnz, @SH⟩
def wqc5 : Code := Tryd.f73.body.getD .skip
def wqf6 (k : Nat) {R : Type}  (x0 x1 : Int) (x2 : (List UInt8)) (x3 : Int) (x4 : (List (Int × (Int × (Int × ((List UInt8) × Bool)))))) (x5 : Int) (x6 : (List UInt8)) (x7 : Bool) (x8 : Int) (K : (Int → Int → (List UInt8) → Int → (List (Int × (Int × (Int × ((List UInt8) × Bool))))) → Option R)) : Option R := (@cond (@Option R) (@fits (@List.length (@Kd.T (@Kd.pr kI (@Kd.pr kI (@Kd.pr kI (@Kd.pr Kd.str Kd.bool))))) x4) (@List.length (@Kd.T (@Kd.pr kI (@Kd.pr kI (@Kd.pr kI (@Kd.pr Kd.str Kd.bool))))) ((x5, (x0, ((@Go.IntKind.wrap Go.IntKind.i64 (@HAdd.hAdd Int Int Int (@instHAdd Int @Int.instAdd) x1 x3)), (x6, x7)))) :: [])) (48 : Nat)) (K x0 x1 x2 (@Go.IntKind.wrap Go.IntKind.i64 (@HAdd.hAdd Int Int Int (@instHAdd Int @Int.instAdd) x3 x8)) (@HAppend.hAppend (@Kd.T (@Kd.sl (@Kd.pr kI (@Kd.pr kI (@Kd.pr kI (@Kd.pr Kd.str Kd.bool)))))) (@List (@Kd.T (@Kd.pr kI (@Kd.pr kI (@Kd.pr kI (@Kd.pr Kd.str Kd.bool)))))) (@Kd.T (@Kd.sl (@Kd.pr kI (@Kd.pr kI (@Kd.pr kI (@Kd.pr Kd.str Kd.bool)))))) (@instHAppendOfAppend (@Kd.T (@Kd.sl (@Kd.pr kI (@Kd.pr kI (@Kd.pr kI (@Kd.pr Kd.str Kd.bool)))))) (@List.instAppend (@Kd.T (@Kd.pr kI (@Kd.pr kI (@Kd.pr kI (@Kd.pr Kd.str Kd.bool))))))) x4 ((x5, (x0, ((@Go.IntKind.wrap Go.IntKind.i64 (@HAdd.hAdd Int Int Int (@instHAdd Int @Int.instAdd) x1 x3)), (x6, x7)))) :: []))) (@Option.none R))
theorem wqq0 (k : Nat) {R : Type} (I : Nat → St → Option R) (x0 x1 : Int) (x2 : (List UInt8)) (x3 : Int) (x4 : (List (Int × (Int × (Int × ((List UInt8) × Bool)))))) (x5 : Int) (x6 : (List UInt8)) (x7 : Bool) (x8 : Int) (K : (Int → Int → (List UInt8) → Int → (List (Int × (Int × (Int × ((List UInt8) × Bool))))) → Option R)) : fnK (wqdv k) k wqc5 46 [] wqjk [.ptr 1 0, .v (.int .i64) x5, .v .str x6, .v .bool x7, .v (.int .i64) x8] [(21, .row 84 (.pr (.int .i64) (.pr (.int .i64) (.pr (.int .i64) (.pr .str .bool)))) x4), (1, .var 97 [.v (.int .i64) x0, .v (.int .i64) x1, .v .str x2, .v (.int .i64) x3, .row 21])] (wqc4 K) = wqf6 k  x0 x1 x2 x3 x4 x5 x6 x7 x8 K := by kernel_rfl
def wqn (k : Nat) {R : Type} (x0 x1 : Int) (x2 : (List UInt8)) (x3 : Int) (x4 : (List (Int × (Int × (Int × ((List UInt8) × Bool)))))) (x5 : Int) (x6 : (List UInt8)) (x7 : Bool) (x8 : Int) (K : (Int → Int → (List UInt8) → Int → (List (Int × (Int × (Int × ((List UInt8) × Bool))))) → Option R)) : Option R := wqf6 k  x0 x1 x2 x3 x4 x5 x6 x7 x8 K
theorem wqq1 (k : Nat) {R : Type} (x0 x1 : Int) (x2 : (List UInt8)) (x3 : Int) (x4 : (List (Int × (Int × (Int × ((List UInt8) × Bool)))))) (x5 : Int) (x6 : (List UInt8)) (x7 : Bool) (x8 : Int) (K : (Int → Int → (List UInt8) → Int → (List (Int × (Int × (Int × ((List UInt8) × Bool))))) → Option R)) : fnK (wqdv k) k wqc5 46 [] wqjk [.ptr 1 0, .v (.int .i64) x5, .v .str x6, .v .bool x7, .v (.int .i64) x8] [(21, .row 84 (.pr (.int .i64) (.pr (.int .i64) (.pr (.int .i64) (.pr .str .bool)))) x4), (1, .var 97 [.v (.int .i64) x0, .v (.int .i64) x1, .v .str x2, .v (.int .i64) x3, .row 21])] (wqc4 K) = wqn k x0 x1 x2 x3 x4 x5 x6 x7 x8 K := by
  exact wqq0 k (fun _ _ => none) x0 x1 x2 x3 x4 x5 x6 x7 x8 K
def wqag (k : Nat) {R : Type} : List PV → List (Nm × HObj) → (Out → Option R) → Option R
  | [.ptr 1 0, .v (.int .i64) x5, .v .str x6, .v .bool x7, .v (.int .i64) x8], [(21, .row 84 (.pr (.int .i64) (.pr (.int .i64) (.pr (.int .i64) (.pr .str .bool)))) x4), (1, .var 97 [.v (.int .i64) x0, .v (.int .i64) x1, .v .str x2, .v (.int .i64) x3, .row 21])], K => wqn k x0 x1 x2 x3 x4 x5 x6 x7 x8 (fun y0 y1 y2 y3 y4 => K (.ret [] [(21, .row 84 (.pr (.int .i64) (.pr (.int .i64) (.pr (.int .i64) (.pr .str .bool)))) y4), (1, .var 97 [.v (.int .i64) y0, .v (.int .i64) y1, .v .str y2, .v (.int .i64) y3, .row 21])]))
  | _, _, _ => none
theorem wqq2 (k : Nat) : (wqlb k).Ok Tryd.prog := CTab.nil_ok
theorem wqlc (k : Nat) {ps : List PV} {hp : List (Nm × HObj)} {R : Type} {K : Out → Option R} {r : R} (h : wqag k ps hp K = some r) : DoesTo Tryd.prog 73 ps hp fun out => K out = some r := by
  unfold wqag at h
  split at h
  · rw [← wqq1] at h
    have := fn_ok (P := Tryd.prog) (cx := wqdv k) (f := 73) ⟨tyT_ok, wqq2 k, fun _ _ => rfl⟩ (by kernel_rfl) (fn := Tryd.f73) (c := wqc5) (by kernel_rfl) (by kernel_rfl) (by kernel_rfl) (rs := []) (by kernel_rfl) (by kernel_rfl) h
    exact this.mono fun out ho => by
      unfold wqc4 at ho
      split at ho <;> first | exact ho | cases ho
  · cases h
abbrev wq5n (R : Type) : Type := (Int → Int → (List UInt8) → Int → (List (Int × (Int × (Int × ((List UInt8) × Bool))))) → (List UInt8) → Option R)
def wqtr : List LS := [.obj 1 [.any, .any, .any, .any, .own 21 84 (.pr (.int .i64) (.pr (.int .i64) (.pr (.int .i64) (.pr .str .bool))))]]
def wqmc (k : Nat) : CTab := CTab.nil
def wq4j {R : Type} (K : wq5n R) : Out → Option R
  | .ret [.v .str y5] [(21, .row 84 (.pr (.int .i64) (.pr (.int .i64) (.pr (.int .i64) (.pr .str .bool)))) y4), (1, .var 97 [.v (.int .i64) y0, .v (.int .i64) y1, .v .str y2, .v (.int .i64) y3, .row 21])] => K y0 y1 y2 y3 y4 y5
  | _ => none
def wq70 : RetSpec := ⟨[.any], [(1, .obj 1 [.any, .any, .any, .any, .own 21 84 (.pr (.int .i64) (.pr (.int .i64) (.pr (.int .i64) (.pr .str .bool))))])], []⟩
def wqrv : List (Nat × CutSpec) := [(1001, ⟨[(0, .obj 1 [.any, .any, .any, .any, .own 21 84 (.pr (.int .i64) (.pr (.int .i64) (.pr (.int .i64) (.pr .str .bool))))])], [(1, .obj 1 [.any, .any, .any, .any, .own 21 84 (.pr (.int .i64) (.pr (.int .i64) (.pr (.int .i64) (.pr .str .bool))))])]⟩)]
def wqq3 : List (Nat × Plan) := [(1, (.of [(0, 1), (1, 1), (2, 1), (4, 1), (5, 1), (6, 1), (7, 1), (3, 1), (8, 1), (9, 1), (10, 1), (11, 1), (12, 1), (13, 1), (14, 1), (15, 1), (17, 1), (18, 1), (19, 1), (16, 1), (20, 1), (21, 1), (22, 1), (23, 1)] .done)), (3, (.of [(0, 1), (1, 1), (2, 1), (3, 1), (5, 1), (6, 1), (7, 1), (4, 1), (8, 1), (9, 1), (10, 1)] .done))]
def wqx (k : Nat) : Ctx := ⟨tyT, wqrv, wqmc k, [], [1], wqq3, @SH⟩
def wq2a : Code := Tryd.f71.body.getD .skip
def wq4x (s0 s1 : Int) (s2 : (List UInt8)) (s3 : Int) (s4 : (List (Int × (Int × (Int × ((List UInt8) × Bool)))))) : St := ⟨mkT [(0, .ptr 1 0)], mkH [(21, .row 84 (.pr (.int .i64) (.pr (.int .i64) (.pr (.int .i64) (.pr .str .bool)))) s4), (1, .var 97 [.v (.int .i64) s0, .v (.int .i64) s1, .v .str s2, .v (.int .i64) s3, .row 21])]⟩
def wq76 (k : Nat) {R : Type} (E1001 : (Int → Int → (List UInt8) → Int → (List (Int × (Int × (Int × ((List UInt8) × Bool))))) → Option R)) (s0 s1 : Int) (s2 : (List UInt8)) (s3 : Int) (s4 : (List (Int × (Int × (Int × ((List UInt8) × Bool)))))) (K : wq5n R) : Option R := (@cond (@Option R) (@Bool.or (@Bool.not (@BEq.beq (@Kd.T Kd.bool) (@instBEqOfDecidableEq (@Kd.T Kd.bool) @instDecidableEqBool) (@Decidable.decide (@LT.lt Int Int.instLTInt s3 (@Nat.cast Int instNatCastInt (@List.length UInt8 s2))) (@Int.decLt s3 (@Nat.cast Int instNatCastInt (@List.length UInt8 s2)))) Bool.true)) (@inb s3 (@Nat.cast Int instNatCastInt (@List.length UInt8 s2)))) (@cond (@Option R) (@cond (@Kd.T Kd.bool) (@Decidable.decide (@LT.lt Int Int.instLTInt s3 (@Nat.cast Int instNatCastInt (@List.length UInt8 s2))) (@Int.decLt s3 (@Nat.cast Int instNatCastInt (@List.length UInt8 s2)))) (@BEq.beq Int (@instBEqOfDecidableEq Int @Int.instDecidableEq) (@Nat.cast Int instNatCastInt (@UInt8.toNat (@List.getD UInt8 s2 (@Int.toNat s3) (0 : UInt8)))) (32 : Int)) Bool.false) (E1001 s0 s1 s2 (@Go.IntKind.wrap Go.IntKind.i64 (@HAdd.hAdd Int Int Int (@instHAdd Int @Int.instAdd) s3 (1 : Int))) s4) (@cond (@Option R) (@bnd s3 (@Nat.cast Int instNatCastInt (@List.length UInt8 s2)) (@Nat.cast Int instNatCastInt (@List.length UInt8 s2))) (K s0 s1 s2 s3 s4 (@cut UInt8 s2 s3 (@Nat.cast Int instNatCastInt (@List.length UInt8 s2)))) (@Option.none R))) (@Option.none R))
theorem wqke (k : Nat) {R : Type} (I : Nat → St → Option R) (s0 s1 : Int) (s2 : (List UInt8)) (s3 : Int) (s4 : (List (Int × (Int × (Int × ((List UInt8) × Bool)))))) (K : wq5n R) : execK (wqx k) k (at_ [1, 0, 0, 0] wq2a) (wq4x s0 s1 s2 s3 s4) (konts (wqx k) k I [1, 0, 0, 0] wq2a (outK (wqx k) wq70 [.tmp 2] (wq4j K))) = wq76 k (fun s0 s1 s2 s3 s4 => I 1001 (wq4x s0 s1 s2 s3 s4)) s0 s1 s2 s3 s4 K := by kernel_rfl
def wqcy (k : Nat) {R : Type} (E1001 : (Int → Int → (List UInt8) → Int → (List (Int × (Int × (Int × ((List UInt8) × Bool))))) → Option R)) (x0 x1 : Int) (x2 : (List UInt8)) (x3 : Int) (x4 : (List (Int × (Int × (Int × ((List UInt8) × Bool)))))) (K : wq5n R) : Option R := (E1001 x0 x1 x2 x3 x4)
theorem wqrw (k : Nat) {R : Type} (I : Nat → St → Option R) (x0 x1 : Int) (x2 : (List UInt8)) (x3 : Int) (x4 : (List (Int × (Int × (Int × ((List UInt8) × Bool)))))) (K : wq5n R) : fnK (wqx k) k wq2a 44 [.tmp 2] wq70 [.ptr 1 0] [(21, .row 84 (.pr (.int .i64) (.pr (.int .i64) (.pr (.int .i64) (.pr .str .bool)))) x4), (1, .var 97 [.v (.int .i64) x0, .v (.int .i64) x1, .v .str x2, .v (.int .i64) x3, .row 21])] (wq4j K) = wqcy k (fun s0 s1 s2 s3 s4 => iter (wqx k).pv (look (wqx k).cuts 1001) (execK (wqx k) k (at_ [1, 0, 0, 0] wq2a)) k (wq4x s0 s1 s2 s3 s4) (konts (wqx k) k I [1, 0, 0] wq2a (outK (wqx k) wq70 [.tmp 2] (wq4j K)))) x0 x1 x2 x3 x4 K := by kernel_rfl
def wq2z (k : Nat) {R : Type}  : Nat → Int → Int → (List UInt8) → Int → (List (Int × (Int × (Int × ((List UInt8) × Bool))))) → (Int → Int → (List UInt8) → Int → (List (Int × (Int × (Int × ((List UInt8) × Bool))))) → (List UInt8) → Option R) → Option R
  | 0, _, _, _, _, _, _ => none
  | n + 1, s0, s1, s2, s3, s4, K => wq76 k (fun s0 s1 s2 s3 s4 => wq2z k  n s0 s1 s2 s3 s4 K) s0 s1 s2 s3 s4 K
theorem wqkf (k : Nat) {R : Type} (I : Nat → St → Option R) (K : wq5n R) : ∀ (n : Nat) (s0 s1 : Int) (s2 : (List UInt8)) (s3 : Int) (s4 : (List (Int × (Int × (Int × ((List UInt8) × Bool)))))), iter (wqx k).pv (look (wqx k).cuts 1001) (execK (wqx k) k (at_ [1, 0, 0, 0] wq2a)) n (wq4x s0 s1 s2 s3 s4) (konts (wqx k) k I [1, 0, 0] wq2a (outK (wqx k) wq70 [.tmp 2] (wq4j K))) = wq2z k  n s0 s1 s2 s3 s4 K := by
  intro n
  induction n with
  | zero => intros; rfl
  | succ n ih =>
    intro s0 s1 s2 s3 s4
    let I' : Nat → St → Option R := fun id s => bif Nat.beq id 1001 then iter (wqx k).pv (look (wqx k).cuts 1001) (execK (wqx k) k (at_ [1, 0, 0, 0] wq2a)) n s (konts (wqx k) k I [1, 0, 0] wq2a (outK (wqx k) wq70 [.tmp 2] (wq4j K))) else I id s
    have e := wqke k I' s0 s1 s2 s3 s4 K
    have h1001 : (fun s0 s1 s2 s3 s4 => I' 1001 (wq4x s0 s1 s2 s3 s4)) = (fun s0 s1 s2 s3 s4 => wq2z k  n s0 s1 s2 s3 s4 K) := by funext s0 s1 s2 s3 s4; exact ih s0 s1 s2 s3 s4
    refine Eq.trans (?_ : _ = _) (e.trans (Eq.trans ((congrArg ((fun E1001 => wq76 k E1001 s0 s1 s2 s3 s4 K)) h1001)) (by rw [wq2z])))
    rfl
def wq5c (k : Nat) {R : Type} (x0 x1 : Int) (x2 : (List UInt8)) (x3 : Int) (x4 : (List (Int × (Int × (Int × ((List UInt8) × Bool)))))) (K : wq5n R) : Option R := wqcy k (fun s0 s1 s2 s3 s4 => wq2z k k s0 s1 s2 s3 s4 K) x0 x1 x2 x3 x4 K
theorem wqrx (k : Nat) {R : Type} (x0 x1 : Int) (x2 : (List UInt8)) (x3 : Int) (x4 : (List (Int × (Int × (Int × ((List UInt8) × Bool)))))) (K : wq5n R) : fnK (wqx k) k wq2a 44 [.tmp 2] wq70 [.ptr 1 0] [(21, .row 84 (.pr (.int .i64) (.pr (.int .i64) (.pr (.int .i64) (.pr .str .bool)))) x4), (1, .var 97 [.v (.int .i64) x0, .v (.int .i64) x1, .v .str x2, .v (.int .i64) x3, .row 21])] (wq4j K) = wq5c k x0 x1 x2 x3 x4 K := by
  let I : Nat → St → Option R := fun _ _ => none
  have h1001 : (fun s0 s1 s2 s3 s4 => iter (wqx k).pv (look (wqx k).cuts 1001) (execK (wqx k) k (at_ [1, 0, 0, 0] wq2a)) k (wq4x s0 s1 s2 s3 s4) (konts (wqx k) k I [1, 0, 0] wq2a (outK (wqx k) wq70 [.tmp 2] (wq4j K)))) = (fun s0 s1 s2 s3 s4 => wq2z k k s0 s1 s2 s3 s4 K) := by funext s0 s1 s2 s3 s4; exact wqkf k I K k s0 s1 s2 s3 s4
  exact (wqrw k I x0 x1 x2 x3 x4 K).trans (congrArg ((fun E1001 => wqcy k E1001 x0 x1 x2 x3 x4 K)) h1001)
def wqdw (k : Nat) {R : Type} : List PV → List (Nm × HObj) → (Out → Option R) → Option R
  | [.ptr 1 0], [(21, .row 84 (.pr (.int .i64) (.pr (.int .i64) (.pr (.int .i64) (.pr .str .bool)))) x4), (1, .var 97 [.v (.int .i64) x0, .v (.int .i64) x1, .v .str x2, .v (.int .i64) x3, .row 21])], K => wq5c k x0 x1 x2 x3 x4 (fun y0 y1 y2 y3 y4 y5 => K (.ret [.v .str y5] [(21, .row 84 (.pr (.int .i64) (.pr (.int .i64) (.pr (.int .i64) (.pr .str .bool)))) y4), (1, .var 97 [.v (.int .i64) y0, .v (.int .i64) y1, .v .str y2, .v (.int .i64) y3, .row 21])]))
  | _, _, _ => none
theorem wqry (k : Nat) : (wqmc k).Ok Tryd.prog := CTab.nil_ok
theorem wqy5 (k : Nat) {ps : List PV} {hp : List (Nm × HObj)} {R : Type} {K : Out → Option R} {r : R} (h : wqdw k ps hp K = some r) : DoesTo Tryd.prog 71 ps hp fun out => K out = some r := by
  unfold wqdw at h
  split at h
  · rw [← wqrx] at h
    have := fn_ok (P := Tryd.prog) (cx := wqx k) (f := 71) ⟨tyT_ok, wqry k, fun _ _ => rfl⟩ (by kernel_rfl) (fn := Tryd.f71) (c := wq2a) (by kernel_rfl) (by kernel_rfl) (by kernel_rfl) (rs := [.tmp 2]) (by kernel_rfl) (by kernel_rfl) h
    exact this.mono fun out ho => by
      unfold wq4j at ho
      split at ho <;> first | exact ho | cases ho
  · cases h
def wqfm : List LS := [.any, .any]
def wqhv (k : Nat) : CTab := (CTab.add 89 wqhs (wqaf k) CTab.nil)
def wqaq {R : Type} (K : (Int → Option R)) : Out → Option R
  | .ret [.v (.int .i64) y0] [] => K y0
  | _ => none
def wqgi : RetSpec := ⟨[.any], [], []⟩
def wqmd : List (Nat × CutSpec) := []
def wqlk : List (Nat × Plan) := []
def wqc6 (k : Nat) : Ctx := ⟨tyT, wqmd, wqhv k, [], [], wqlk, @SH⟩
def wqar : Code := Tryd.f83.body.getD .skip
def wqhw (k : Nat) {R : Type}  (x0 : (List UInt8)) (x1 : Int) (K : (Int → Option R)) : Option R := (@wq9z k R x0 x1 (fun y5 => (K y5)))
theorem wqme (k : Nat) {R : Type} (I : Nat → St → Option R) (x0 : (List UInt8)) (x1 : Int) (K : (Int → Option R)) : fnK (wqc6 k) k wqar 8 [.tmp 4] wqgi [.v .str x0, .v (.int .u8) x1] [] (wqaq K) = wqhw k  x0 x1 K := by kernel_rfl
def wq2m (k : Nat) {R : Type} (x0 : (List UInt8)) (x1 : Int) (K : (Int → Option R)) : Option R := wqhw k  x0 x1 K
theorem wqmf (k : Nat) {R : Type} (x0 : (List UInt8)) (x1 : Int) (K : (Int → Option R)) : fnK (wqc6 k) k wqar 8 [.tmp 4] wqgi [.v .str x0, .v (.int .u8) x1] [] (wqaq K) = wq2m k x0 x1 K := by
  exact wqme k (fun _ _ => none) x0 x1 K
def wq90 (k : Nat) {R : Type} : List PV → List (Nm × HObj) → (Out → Option R) → Option R
  | [.v .str x0, .v (.int .u8) x1], [], K => wq2m k x0 x1 (fun y0 => K (.ret [.v (.int .i64) y0] []))
  | _, _, _ => none
theorem wqmg (k : Nat) : (wqhv k).Ok Tryd.prog := (CTab.add_ok (fun h => wql8 k h) CTab.nil_ok)
theorem wqhx (k : Nat) {ps : List PV} {hp : List (Nm × HObj)} {R : Type} {K : Out → Option R} {r : R} (h : wq90 k ps hp K = some r) : DoesTo Tryd.prog 83 ps hp fun out => K out = some r := by
  unfold wq90 at h
  split at h
  · rw [← wqmf] at h
    have := fn_ok (P := Tryd.prog) (cx := wqc6 k) (f := 83) ⟨tyT_ok, wqmg k, fun _ _ => rfl⟩ (by kernel_rfl) (fn := Tryd.f83) (c := wqar) (by kernel_rfl) (by kernel_rfl) (by kernel_rfl) (rs := [.tmp 4]) (by kernel_rfl) (by kernel_rfl) h
    exact this.mono fun out ho => by
      unfold wqaq at ho
      split at ho <;> first | exact ho | cases ho
  · cases h
def wqrz : List LS := [.obj 1 [.any, .any, .any, .any, .own 21 84 (.pr (.int .i64) (.pr (.int .i64) (.pr (.int .i64) (.pr .str .bool))))], .any]
def wqld (k : Nat) : CTab := (CTab.add 70 wq8h (wq5b k) (CTab.add 83 wqfm (wq90 k) CTab.nil))
def wqc7 {R : Type} (K : (Int → Int → (List UInt8) → Int → (List (Int × (Int × (Int × ((List UInt8) × Bool))))) → Int → Int → Option R)) (E : (Int → Int → (List UInt8) → Int → (List (Int × (Int × (Int × ((List UInt8) × Bool))))) → Int → Int → Option R)) : Out → Option R
  | .ret [.v (.int .u8) y5, .v (.int .i64) y6] [(21, .row 84 (.pr (.int .i64) (.pr (.int .i64) (.pr (.int .i64) (.pr .str .bool)))) y4), (1, .var 97 [.v (.int .i64) y0, .v (.int .i64) y1, .v .str y2, .v (.int .i64) y3, .row 21])] => K y0 y1 y2 y3 y4 y5 y6
  | .pan (.ifc 78 (.agg [.v (.int .i64) z5, .v (.int .i64) z6])) [(21, .row 84 (.pr (.int .i64) (.pr (.int .i64) (.pr (.int .i64) (.pr .str .bool)))) z4), (1, .var 97 [.v (.int .i64) z0, .v (.int .i64) z1, .v .str z2, .v (.int .i64) z3, .row 21])] => E z0 z1 z2 z3 z4 z5 z6
  | _ => none
def wqjl : RetSpec := ⟨[.any, .any], [(1, .obj 1 [.any, .any, .any, .any, .own 21 84 (.pr (.int .i64) (.pr (.int .i64) (.pr (.int .i64) (.pr .str .bool))))])], [(1, .obj 1 [.any, .any, .any, .any, .own 21 84 (.pr (.int .i64) (.pr (.int .i64) (.pr (.int .i64) (.pr .str .bool))))])]⟩
def wqq4 : List (Nat × CutSpec) := []
def wqo0 : List (Nat × Plan) := [(14, (.of [(0, 1), (1, 1), (3, 1), (4, 1), (2, 0), (5, 0), (6, 1), (7, 1)] .done))]
def wqdx (k : Nat) : Ctx := ⟨tyT, wqq4, wqld k, [], [1], wqo0, @SH⟩
def wqc8 : Code := Tryd.f88.body.getD .skip
def wqf7 (k : Nat) {R : Type}  (x0 x1 : Int) (x2 : (List UInt8)) (x3 : Int) (x4 : (List (Int × (Int × (Int × ((List UInt8) × Bool)))))) (x5 : (List UInt8)) (K : (Int → Int → (List UInt8) → Int → (List (Int × (Int × (Int × ((List UInt8) × Bool))))) → Int → Int → Option R)) (E : (Int → Int → (List UInt8) → Int → (List (Int × (Int × (Int × ((List UInt8) × Bool))))) → Int → Int → Option R)) : Option R := (@cond (@Option R) (@BEq.beq (@List UInt8) (@List.instBEq UInt8 (@instBEqOfDecidableEq UInt8 @instDecidableEqUInt8)) x5 []) (@wqi k R x0 x1 x2 x3 x4 (3 : Int) (fun y10 y11 y12 y13 y14 => (@cond (@Option R) (@inb (0 : Int) (@Nat.cast Int instNatCastInt (@List.length UInt8 x5))) (@cond (@Option R) (@BEq.beq Int (@instBEqOfDecidableEq Int @Int.instDecidableEq) (@Nat.cast Int instNatCastInt (@UInt8.toNat (@List.getD UInt8 x5 (@Int.toNat (0 : Int)) (0 : UInt8)))) (92 : Int)) (@cond (@Option R) (@inb (0 : Int) (@Nat.cast Int instNatCastInt (@List.length UInt8 x5))) (K y10 y11 y12 y13 y14 (@Nat.cast Int instNatCastInt (@UInt8.toNat (@List.getD UInt8 x5 (@Int.toNat (0 : Int)) (0 : UInt8)))) (1 : Int)) (@Option.none R)) (@cond (@Option R) (@BEq.beq Int (@instBEqOfDecidableEq Int @Int.instDecidableEq) (@Nat.cast Int instNatCastInt (@UInt8.toNat (@List.getD UInt8 x5 (@Int.toNat (0 : Int)) (0 : UInt8)))) (34 : Int)) (@cond (@Option R) (@inb (0 : Int) (@Nat.cast Int instNatCastInt (@List.length UInt8 x5))) (K y10 y11 y12 y13 y14 (@Nat.cast Int instNatCastInt (@UInt8.toNat (@List.getD UInt8 x5 (@Int.toNat (0 : Int)) (0 : UInt8)))) (1 : Int)) (@Option.none R)) (@cond (@Option R) (@BEq.beq Int (@instBEqOfDecidableEq Int @Int.instDecidableEq) (@Nat.cast Int instNatCastInt (@UInt8.toNat (@List.getD UInt8 x5 (@Int.toNat (0 : Int)) (0 : UInt8)))) (110 : Int)) (K y10 y11 y12 y13 y14 (10 : Int) (1 : Int)) (@cond (@Option R) (@BEq.beq Int (@instBEqOfDecidableEq Int @Int.instDecidableEq) (@Nat.cast Int instNatCastInt (@UInt8.toNat (@List.getD UInt8 x5 (@Int.toNat (0 : Int)) (0 : UInt8)))) (116 : Int)) (K y10 y11 y12 y13 y14 (9 : Int) (1 : Int)) (@cond (@Option R) (@BEq.beq Int (@instBEqOfDecidableEq Int @Int.instDecidableEq) (@Nat.cast Int instNatCastInt (@UInt8.toNat (@List.getD UInt8 x5 (@Int.toNat (0 : Int)) (0 : UInt8)))) (120 : Int)) (@cond (@Option R) (@Decidable.decide (@LT.lt Int Int.instLTInt (@Nat.cast Int instNatCastInt (@List.length UInt8 x5)) (3 : Int)) (@Int.decLt (@Nat.cast Int instNatCastInt (@List.length UInt8 x5)) (3 : Int))) (@wqi k R y10 y11 y12 y13 y14 (3 : Int) (fun y15 y16 y17 y18 y19 => (@cond (@Option R) (@inb (1 : Int) (@Nat.cast Int instNatCastInt (@List.length UInt8 x5))) (@cond (@Option R) (@inb (2 : Int) (@Nat.cast Int instNatCastInt (@List.length UInt8 x5))) (@wq2m k R ((48 : UInt8) :: ((49 : UInt8) :: ((50 : UInt8) :: ((51 : UInt8) :: ((52 : UInt8) :: ((53 : UInt8) :: ((54 : UInt8) :: ((55 : UInt8) :: ((56 : UInt8) :: ((57 : UInt8) :: ((97 : UInt8) :: ((98 : UInt8) :: ((99 : UInt8) :: ((100 : UInt8) :: ((101 : UInt8) :: ((102 : UInt8) :: [])))))))))))))))) (@Nat.cast Int instNatCastInt (@UInt8.toNat (@List.getD UInt8 x5 (@Int.toNat (1 : Int)) (0 : UInt8)))) (fun y20 => (@wq2m k R ((48 : UInt8) :: ((49 : UInt8) :: ((50 : UInt8) :: ((51 : UInt8) :: ((52 : UInt8) :: ((53 : UInt8) :: ((54 : UInt8) :: ((55 : UInt8) :: ((56 : UInt8) :: ((57 : UInt8) :: ((97 : UInt8) :: ((98 : UInt8) :: ((99 : UInt8) :: ((100 : UInt8) :: ((101 : UInt8) :: ((102 : UInt8) :: [])))))))))))))))) (@Nat.cast Int instNatCastInt (@UInt8.toNat (@List.getD UInt8 x5 (@Int.toNat (2 : Int)) (0 : UInt8)))) (fun y21 => (@cond (@Option R) (@cond (@Kd.T Kd.bool) (@Decidable.decide (@LT.lt Int Int.instLTInt y20 (0 : Int)) (@Int.decLt y20 (0 : Int))) Bool.true (@Decidable.decide (@LT.lt Int Int.instLTInt y21 (0 : Int)) (@Int.decLt y21 (0 : Int)))) (@wqi k R y15 y16 y17 y18 y19 (3 : Int) (fun y22 y23 y24 y25 y26 => (K y22 y23 y24 y25 y26 (@Go.IntKind.wrap Go.IntKind.u8 (@Go.IntKind.wrap Go.IntKind.i64 (@HAdd.hAdd Int Int Int (@instHAdd Int @Int.instAdd) (@Go.IntKind.wrap Go.IntKind.i64 (@HMul.hMul Int Int Int (@instHMul Int @Int.instMul) (16 : Int) y20)) y21))) (3 : Int))) (fun y22 y23 y24 y25 y26 y27 y28 => (E y22 y23 y24 y25 y26 y27 y28))) (K y15 y16 y17 y18 y19 (@Go.IntKind.wrap Go.IntKind.u8 (@Go.IntKind.wrap Go.IntKind.i64 (@HAdd.hAdd Int Int Int (@instHAdd Int @Int.instAdd) (@Go.IntKind.wrap Go.IntKind.i64 (@HMul.hMul Int Int Int (@instHMul Int @Int.instMul) (16 : Int) y20)) y21))) (3 : Int))))))) (@Option.none R)) (@Option.none R))) (fun y15 y16 y17 y18 y19 y20 y21 => (E y15 y16 y17 y18 y19 y20 y21))) (@cond (@Option R) (@inb (1 : Int) (@Nat.cast Int instNatCastInt (@List.length UInt8 x5))) (@cond (@Option R) (@inb (2 : Int) (@Nat.cast Int instNatCastInt (@List.length UInt8 x5))) (@wq2m k R ((48 : UInt8) :: ((49 : UInt8) :: ((50 : UInt8) :: ((51 : UInt8) :: ((52 : UInt8) :: ((53 : UInt8) :: ((54 : UInt8) :: ((55 : UInt8) :: ((56 : UInt8) :: ((57 : UInt8) :: ((97 : UInt8) :: ((98 : UInt8) :: ((99 : UInt8) :: ((100 : UInt8) :: ((101 : UInt8) :: ((102 : UInt8) :: [])))))))))))))))) (@Nat.cast Int instNatCastInt (@UInt8.toNat (@List.getD UInt8 x5 (@Int.toNat (1 : Int)) (0 : UInt8)))) (fun y15 => (@wq2m k R ((48 : UInt8) :: ((49 : UInt8) :: ((50 : UInt8) :: ((51 : UInt8) :: ((52 : UInt8) :: ((53 : UInt8) :: ((54 : UInt8) :: ((55 : UInt8) :: ((56 : UInt8) :: ((57 : UInt8) :: ((97 : UInt8) :: ((98 : UInt8) :: ((99 : UInt8) :: ((100 : UInt8) :: ((101 : UInt8) :: ((102 : UInt8) :: [])))))))))))))))) (@Nat.cast Int instNatCastInt (@UInt8.toNat (@List.getD UInt8 x5 (@Int.toNat (2 : Int)) (0 : UInt8)))) (fun y16 => (@cond (@Option R) (@cond (@Kd.T Kd.bool) (@Decidable.decide (@LT.lt Int Int.instLTInt y15 (0 : Int)) (@Int.decLt y15 (0 : Int))) Bool.true (@Decidable.decide (@LT.lt Int Int.instLTInt y16 (0 : Int)) (@Int.decLt y16 (0 : Int)))) (@wqi k R y10 y11 y12 y13 y14 (3 : Int) (fun y17 y18 y19 y20 y21 => (K y17 y18 y19 y20 y21 (@Go.IntKind.wrap Go.IntKind.u8 (@Go.IntKind.wrap Go.IntKind.i64 (@HAdd.hAdd Int Int Int (@instHAdd Int @Int.instAdd) (@Go.IntKind.wrap Go.IntKind.i64 (@HMul.hMul Int Int Int (@instHMul Int @Int.instMul) (16 : Int) y15)) y16))) (3 : Int))) (fun y17 y18 y19 y20 y21 y22 y23 => (E y17 y18 y19 y20 y21 y22 y23))) (K y10 y11 y12 y13 y14 (@Go.IntKind.wrap Go.IntKind.u8 (@Go.IntKind.wrap Go.IntKind.i64 (@HAdd.hAdd Int Int Int (@instHAdd Int @Int.instAdd) (@Go.IntKind.wrap Go.IntKind.i64 (@HMul.hMul Int Int Int (@instHMul Int @Int.instMul) (16 : Int) y15)) y16))) (3 : Int))))))) (@Option.none R)) (@Option.none R))) (@wqi k R y10 y11 y12 y13 y14 (3 : Int) (fun y15 y16 y17 y18 y19 => (K y15 y16 y17 y18 y19 (0 : Int) (0 : Int))) (fun y15 y16 y17 y18 y19 y20 y21 => (E y15 y16 y17 y18 y19 y20 y21)))))))) (@Option.none R))) (fun y10 y11 y12 y13 y14 y15 y16 => (E y10 y11 y12 y13 y14 y15 y16))) (@cond (@Option R) (@inb (0 : Int) (@Nat.cast Int instNatCastInt (@List.length UInt8 x5))) (@cond (@Option R) (@BEq.beq Int (@instBEqOfDecidableEq Int @Int.instDecidableEq) (@Nat.cast Int instNatCastInt (@UInt8.toNat (@List.getD UInt8 x5 (@Int.toNat (0 : Int)) (0 : UInt8)))) (92 : Int)) (@cond (@Option R) (@inb (0 : Int) (@Nat.cast Int instNatCastInt (@List.length UInt8 x5))) (K x0 x1 x2 x3 x4 (@Nat.cast Int instNatCastInt (@UInt8.toNat (@List.getD UInt8 x5 (@Int.toNat (0 : Int)) (0 : UInt8)))) (1 : Int)) (@Option.none R)) (@cond (@Option R) (@BEq.beq Int (@instBEqOfDecidableEq Int @Int.instDecidableEq) (@Nat.cast Int instNatCastInt (@UInt8.toNat (@List.getD UInt8 x5 (@Int.toNat (0 : Int)) (0 : UInt8)))) (34 : Int)) (@cond (@Option R) (@inb (0 : Int) (@Nat.cast Int instNatCastInt (@List.length UInt8 x5))) (K x0 x1 x2 x3 x4 (@Nat.cast Int instNatCastInt (@UInt8.toNat (@List.getD UInt8 x5 (@Int.toNat (0 : Int)) (0 : UInt8)))) (1 : Int)) (@Option.none R)) (@cond (@Option R) (@BEq.beq Int (@instBEqOfDecidableEq Int @Int.instDecidableEq) (@Nat.cast Int instNatCastInt (@UInt8.toNat (@List.getD UInt8 x5 (@Int.toNat (0 : Int)) (0 : UInt8)))) (110 : Int)) (K x0 x1 x2 x3 x4 (10 : Int) (1 : Int)) (@cond (@Option R) (@BEq.beq Int (@instBEqOfDecidableEq Int @Int.instDecidableEq) (@Nat.cast Int instNatCastInt (@UInt8.toNat (@List.getD UInt8 x5 (@Int.toNat (0 : Int)) (0 : UInt8)))) (116 : Int)) (K x0 x1 x2 x3 x4 (9 : Int) (1 : Int)) (@cond (@Option R) (@BEq.beq Int (@instBEqOfDecidableEq Int @Int.instDecidableEq) (@Nat.cast Int instNatCastInt (@UInt8.toNat (@List.getD UInt8 x5 (@Int.toNat (0 : Int)) (0 : UInt8)))) (120 : Int)) (@cond (@Option R) (@Decidable.decide (@LT.lt Int Int.instLTInt (@Nat.cast Int instNatCastInt (@List.length UInt8 x5)) (3 : Int)) (@Int.decLt (@Nat.cast Int instNatCastInt (@List.length UInt8 x5)) (3 : Int))) (@wqi k R x0 x1 x2 x3 x4 (3 : Int) (fun y10 y11 y12 y13 y14 => (@cond (@Option R) (@inb (1 : Int) (@Nat.cast Int instNatCastInt (@List.length UInt8 x5))) (@cond (@Option R) (@inb (2 : Int) (@Nat.cast Int instNatCastInt (@List.length UInt8 x5))) (@wq2m k R ((48 : UInt8) :: ((49 : UInt8) :: ((50 : UInt8) :: ((51 : UInt8) :: ((52 : UInt8) :: ((53 : UInt8) :: ((54 : UInt8) :: ((55 : UInt8) :: ((56 : UInt8) :: ((57 : UInt8) :: ((97 : UInt8) :: ((98 : UInt8) :: ((99 : UInt8) :: ((100 : UInt8) :: ((101 : UInt8) :: ((102 : UInt8) :: [])))))))))))))))) (@Nat.cast Int instNatCastInt (@UInt8.toNat (@List.getD UInt8 x5 (@Int.toNat (1 : Int)) (0 : UInt8)))) (fun y15 => (@wq2m k R ((48 : UInt8) :: ((49 : UInt8) :: ((50 : UInt8) :: ((51 : UInt8) :: ((52 : UInt8) :: ((53 : UInt8) :: ((54 : UInt8) :: ((55 : UInt8) :: ((56 : UInt8) :: ((57 : UInt8) :: ((97 : UInt8) :: ((98 : UInt8) :: ((99 : UInt8) :: ((100 : UInt8) :: ((101 : UInt8) :: ((102 : UInt8) :: [])))))))))))))))) (@Nat.cast Int instNatCastInt (@UInt8.toNat (@List.getD UInt8 x5 (@Int.toNat (2 : Int)) (0 : UInt8)))) (fun y16 => (@cond (@Option R) (@cond (@Kd.T Kd.bool) (@Decidable.decide (@LT.lt Int Int.instLTInt y15 (0 : Int)) (@Int.decLt y15 (0 : Int))) Bool.true (@Decidable.decide (@LT.lt Int Int.instLTInt y16 (0 : Int)) (@Int.decLt y16 (0 : Int)))) (@wqi k R y10 y11 y12 y13 y14 (3 : Int) (fun y17 y18 y19 y20 y21 => (K y17 y18 y19 y20 y21 (@Go.IntKind.wrap Go.IntKind.u8 (@Go.IntKind.wrap Go.IntKind.i64 (@HAdd.hAdd Int Int Int (@instHAdd Int @Int.instAdd) (@Go.IntKind.wrap Go.IntKind.i64 (@HMul.hMul Int Int Int (@instHMul Int @Int.instMul) (16 : Int) y15)) y16))) (3 : Int))) (fun y17 y18 y19 y20 y21 y22 y23 => (E y17 y18 y19 y20 y21 y22 y23))) (K y10 y11 y12 y13 y14 (@Go.IntKind.wrap Go.IntKind.u8 (@Go.IntKind.wrap Go.IntKind.i64 (@HAdd.hAdd Int Int Int (@instHAdd Int @Int.instAdd) (@Go.IntKind.wrap Go.IntKind.i64 (@HMul.hMul Int Int Int (@instHMul Int @Int.instMul) (16 : Int) y15)) y16))) (3 : Int))))))) (@Option.none R)) (@Option.none R))) (fun y10 y11 y12 y13 y14 y15 y16 => (E y10 y11 y12 y13 y14 y15 y16))) (@cond (@Option R) (@inb (1 : Int) (@Nat.cast Int instNatCastInt (@List.length UInt8 x5))) (@cond (@Option R) (@inb (2 : Int) (@Nat.cast Int instNatCastInt (@List.length UInt8 x5))) (@wq2m k R ((48 : UInt8) :: ((49 : UInt8) :: ((50 : UInt8) :: ((51 : UInt8) :: ((52 : UInt8) :: ((53 : UInt8) :: ((54 : UInt8) :: ((55 : UInt8) :: ((56 : UInt8) :: ((57 : UInt8) :: ((97 : UInt8) :: ((98 : UInt8) :: ((99 : UInt8) :: ((100 : UInt8) :: ((101 : UInt8) :: ((102 : UInt8) :: [])))))))))))))))) (@Nat.cast Int instNatCastInt (@UInt8.toNat (@List.getD UInt8 x5 (@Int.toNat (1 : Int)) (0 : UInt8)))) (fun y10 => (@wq2m k R ((48 : UInt8) :: ((49 : UInt8) :: ((50 : UInt8) :: ((51 : UInt8) :: ((52 : UInt8) :: ((53 : UInt8) :: ((54 : UInt8) :: ((55 : UInt8) :: ((56 : UInt8) :: ((57 : UInt8) :: ((97 : UInt8) :: ((98 : UInt8) :: ((99 : UInt8) :: ((100 : UInt8) :: ((101 : UInt8) :: ((102 : UInt8) :: [])))))))))))))))) (@Nat.cast Int instNatCastInt (@UInt8.toNat (@List.getD UInt8 x5 (@Int.toNat (2 : Int)) (0 : UInt8)))) (fun y11 => (@cond (@Option R) (@cond (@Kd.T Kd.bool) (@Decidable.decide (@LT.lt Int Int.instLTInt y10 (0 : Int)) (@Int.decLt y10 (0 : Int))) Bool.true (@Decidable.decide (@LT.lt Int Int.instLTInt y11 (0 : Int)) (@Int.decLt y11 (0 : Int)))) (@wqi k R x0 x1 x2 x3 x4 (3 : Int) (fun y12 y13 y14 y15 y16 => (K y12 y13 y14 y15 y16 (@Go.IntKind.wrap Go.IntKind.u8 (@Go.IntKind.wrap Go.IntKind.i64 (@HAdd.hAdd Int Int Int (@instHAdd Int @Int.instAdd) (@Go.IntKind.wrap Go.IntKind.i64 (@HMul.hMul Int Int Int (@instHMul Int @Int.instMul) (16 : Int) y10)) y11))) (3 : Int))) (fun y12 y13 y14 y15 y16 y17 y18 => (E y12 y13 y14 y15 y16 y17 y18))) (K x0 x1 x2 x3 x4 (@Go.IntKind.wrap Go.IntKind.u8 (@Go.IntKind.wrap Go.IntKind.i64 (@HAdd.hAdd Int Int Int (@instHAdd Int @Int.instAdd) (@Go.IntKind.wrap Go.IntKind.i64 (@HMul.hMul Int Int Int (@instHMul Int @Int.instMul) (16 : Int) y10)) y11))) (3 : Int))))))) (@Option.none R)) (@Option.none R))) (@wqi k R x0 x1 x2 x3 x4 (3 : Int) (fun y10 y11 y12 y13 y14 => (K y10 y11 y12 y13 y14 (0 : Int) (0 : Int))) (fun y10 y11 y12 y13 y14 y15 y16 => (E y10 y11 y12 y13 y14 y15 y16)))))))) (@Option.none R)))
theorem wqq5 (k : Nat) {R : Type} (I : Nat → St → Option R) (x0 x1 : Int) (x2 : (List UInt8)) (x3 : Int) (x4 : (List (Int × (Int × (Int × ((List UInt8) × Bool)))))) (x5 : (List UInt8)) (K : (Int → Int → (List UInt8) → Int → (List (Int × (Int × (Int × ((List UInt8) × Bool))))) → Int → Int → Option R)) (E : (Int → Int → (List UInt8) → Int → (List (Int × (Int × (Int × ((List UInt8) × Bool))))) → Int → Int → Option R)) : fnK (wqdx k) k wqc8 51 [.tmp 4, .tmp 5] wqjl [.ptr 1 0, .v .str x5] [(21, .row 84 (.pr (.int .i64) (.pr (.int .i64) (.pr (.int .i64) (.pr .str .bool)))) x4), (1, .var 97 [.v (.int .i64) x0, .v (.int .i64) x1, .v .str x2, .v (.int .i64) x3, .row 21])] (wqc7 K E) = wqf7 k  x0 x1 x2 x3 x4 x5 K E := by kernel_rfl
def wqa1 (k : Nat) {R : Type} (x0 x1 : Int) (x2 : (List UInt8)) (x3 : Int) (x4 : (List (Int × (Int × (Int × ((List UInt8) × Bool)))))) (x5 : (List UInt8)) (K : (Int → Int → (List UInt8) → Int → (List (Int × (Int × (Int × ((List UInt8) × Bool))))) → Int → Int → Option R)) (E : (Int → Int → (List UInt8) → Int → (List (Int × (Int × (Int × ((List UInt8) × Bool))))) → Int → Int → Option R)) : Option R := wqf7 k  x0 x1 x2 x3 x4 x5 K E
theorem wqq6 (k : Nat) {R : Type} (x0 x1 : Int) (x2 : (List UInt8)) (x3 : Int) (x4 : (List (Int × (Int × (Int × ((List UInt8) × Bool)))))) (x5 : (List UInt8)) (K : (Int → Int → (List UInt8) → Int → (List (Int × (Int × (Int × ((List UInt8) × Bool))))) → Int → Int → Option R)) (E : (Int → Int → (List UInt8) → Int → (List (Int × (Int × (Int × ((List UInt8) × Bool))))) → Int → Int → Option R)) : fnK (wqdx k) k wqc8 51 [.tmp 4, .tmp 5] wqjl [.ptr 1 0, .v .str x5] [(21, .row 84 (.pr (.int .i64) (.pr (.int .i64) (.pr (.int .i64) (.pr .str .bool)))) x4), (1, .var 97 [.v (.int .i64) x0, .v (.int .i64) x1, .v .str x2, .v (.int .i64) x3, .row 21])] (wqc7 K E) = wqa1 k x0 x1 x2 x3 x4 x5 K E := by
  exact wqq5 k (fun _ _ => none) x0 x1 x2 x3 x4 x5 K E
def wqcz (k : Nat) {R : Type} : List PV → List (Nm × HObj) → (Out → Option R) → Option R
  | [.ptr 1 0, .v .str x5], [(21, .row 84 (.pr (.int .i64) (.pr (.int .i64) (.pr (.int .i64) (.pr .str .bool)))) x4), (1, .var 97 [.v (.int .i64) x0, .v (.int .i64) x1, .v .str x2, .v (.int .i64) x3, .row 21])], K => wqa1 k x0 x1 x2 x3 x4 x5 (fun y0 y1 y2 y3 y4 y5 y6 => K (.ret [.v (.int .u8) y5, .v (.int .i64) y6] [(21, .row 84 (.pr (.int .i64) (.pr (.int .i64) (.pr (.int .i64) (.pr .str .bool)))) y4), (1, .var 97 [.v (.int .i64) y0, .v (.int .i64) y1, .v .str y2, .v (.int .i64) y3, .row 21])])) (fun z0 z1 z2 z3 z4 z5 z6 => K (.pan (.ifc 78 (.agg [.v (.int .i64) z5, .v (.int .i64) z6])) [(21, .row 84 (.pr (.int .i64) (.pr (.int .i64) (.pr (.int .i64) (.pr .str .bool)))) z4), (1, .var 97 [.v (.int .i64) z0, .v (.int .i64) z1, .v .str z2, .v (.int .i64) z3, .row 21])]))
  | _, _, _ => none
theorem wqq7 (k : Nat) : (wqld k).Ok Tryd.prog := (CTab.add_ok (fun h => wqa0 k h) (CTab.add_ok (fun h => wqhx k h) CTab.nil_ok))
theorem wqvm (k : Nat) {ps : List PV} {hp : List (Nm × HObj)} {R : Type} {K : Out → Option R} {r : R} (h : wqcz k ps hp K = some r) : DoesTo Tryd.prog 88 ps hp fun out => K out = some r := by
  unfold wqcz at h
  split at h
  · rw [← wqq6] at h
    have := fn_ok (P := Tryd.prog) (cx := wqdx k) (f := 88) ⟨tyT_ok, wqq7 k, fun _ _ => rfl⟩ (by kernel_rfl) (fn := Tryd.f88) (c := wqc8) (by kernel_rfl) (by kernel_rfl) (by kernel_rfl) (rs := [.tmp 4, .tmp 5]) (by kernel_rfl) (by kernel_rfl) h
    exact this.mono fun out ho => by
      unfold wqc7 at ho
      split at ho <;> first | exact ho | cases ho
  · cases h
end Go.Proofs.YtdfhgimidmfgfaaDoor.Pvm
set_option maxHeartbeats 2000000
set_option maxRecDepth 100000
namespace Go.Proofs.YtdfhgimidmfgfaaDoor.Pvm
open Go Go.Proofs Go.RowKit
theorem wq19m (b g cap : Nat) (p : Value) (l : List UInt8) (cur : Array Value) (w : World) (hbk : w.heap[b]? = some (.cells #[p, .slice (some ⟨g, 0, none⟩) l.length cap] 42 (0, 0))) (h0 : l ≠ [])
    (hg : w.heap[g]? = some (.cells cur 5 (0, 0))) (hnc : l.length ≤ cap) (hcm : cap ≤ maxLen) (hcs : cur.size = cap) (htake : ∀ (j : Nat) (x : UInt8), l[j]? = some x → w.cell? ⟨g, j, none⟩ = some (.int .u8 x.toNat)) :
    Calls Tryd.prog 16 #[.pointer (some ⟨b, 0, none⟩)] w fun e w' => e = .returned (.string ⟨l.toArray⟩) ∧ w' = w.drew.freeze ⟨g, 0, none⟩ l.length := by
  have hl0 : l.length ≠ 0 := by simpa using h0
  have mixed : Tryd.prog.follows .mixedOrders = true := by kernel_rfl
  have t86 : Tryd.prog.underlying 60 = some (.pointer 5) := by kernel_rfl
  have c1 : w.drew.cell? ⟨b, 1, none⟩ = some (.slice (some ⟨g, 0, none⟩) l.length cap) := by
    have : w.drew.heap[b]? = some (.cells #[p, .slice (some ⟨g, 0, none⟩) l.length cap] 42 (0, 0)) := hbk
    rw [Lib.cell_of_heap this]; rfl
  have hSD : (Builtin.unsafeSliceData_ #[27] 60 #[.slice (some ⟨g, 0, none⟩) l.length cap]).run Tryd.prog w.drew = .ok (.pointer (some ⟨g, 0, none⟩)) w.drew :=
    Lib.run_unsafeSliceData_row _ _ _ _ _ _ (by omega)
  have hUS : (Builtin.unsafeString_ #[60, 3] 9 #[.pointer (some ⟨g, 0, none⟩), .int .i64 l.length]).run Tryd.prog w.drew = .ok (.string ⟨l.toArray⟩) (w.drew.freeze ⟨g, 0, none⟩ l.length) := by
    refine Lib.run_unsafeString_row w.drew 60 3 9 5 t86 (by kernel_rfl) g cur.size (by have hg' : w.drew.heap[g]? = some (.cells cur 5 (0, 0)) := hg; simp [World.shape?, hg']) l h0 (by omega) (by unfold maxLen at hcm; omega) ?_
    intro j x hx
    have := htake j x hx
    rw [show (⟨g, 0, none⟩ : Addr).add j = ⟨g, j, none⟩ by simp [Addr.add]; omega]
    exact this
  go_enter Tryd.func16, Tryd.ntmps16
  go_wp2
  go_region_o
  all_goals (go_wp2; go_ret; exact ⟨rfl, rfl⟩)
theorem wq13a (W : World) (q : Option Addr) : (Builtin.unsafeString_ #[60, 3] 9 #[.pointer q, .int .i64 0]).run Tryd.prog W = .ok (.string .empty) W :=
  Lib.run_unsafeString_none W _ _ _ q
theorem wq1dn (b : Nat) (p : Value) (w : World) (hbk : w.heap[b]? = some (.cells #[p, .slice none 0 0] 42 (0, 0))) :
    Calls Tryd.prog 16 #[.pointer (some ⟨b, 0, none⟩)] w fun e w' => e = .returned (.string ⟨#[]⟩) ∧ w' = w.drew := by
  have hUS := wq13a
  have mixed : Tryd.prog.follows .mixedOrders = true := by kernel_rfl
  have c1 : w.drew.cell? ⟨b, 1, none⟩ = some (.slice none 0 0) := by
    have : w.drew.heap[b]? = some (.cells #[p, .slice none 0 0] 42 (0, 0)) := hbk
    rw [Lib.cell_of_heap this]; rfl
  have hSD : (Builtin.unsafeSliceData_ #[27] 60 #[.slice none 0 0]).run Tryd.prog w.drew = .ok (.pointer none) w.drew := rfl
  go_enter Tryd.func16, Tryd.ntmps16
  go_wp2
  go_region_o
  all_goals (go_wp2; go_ret; exact ⟨rfl, rfl⟩)
theorem wq1by (b g cap : Nat) (p : Value) (w : World) (hc0 : cap ≠ 0) (hbk : w.heap[b]? = some (.cells #[p, .slice (some ⟨g, 0, none⟩) 0 cap] 42 (0, 0))) :
    Calls Tryd.prog 16 #[.pointer (some ⟨b, 0, none⟩)] w fun e w' => e = .returned (.string ⟨#[]⟩) ∧ w' = w.drew := by
  have hUS := wq13a
  have mixed : Tryd.prog.follows .mixedOrders = true := by kernel_rfl
  have c1 : w.drew.cell? ⟨b, 1, none⟩ = some (.slice (some ⟨g, 0, none⟩) 0 cap) := by
    have : w.drew.heap[b]? = some (.cells #[p, .slice (some ⟨g, 0, none⟩) 0 cap] 42 (0, 0)) := hbk
    rw [Lib.cell_of_heap this]; rfl
  have hSD : (Builtin.unsafeSliceData_ #[27] 60 #[.slice (some ⟨g, 0, none⟩) 0 cap]).run Tryd.prog w.drew = .ok (.pointer (some ⟨g, 0, none⟩)) w.drew :=
    Lib.run_unsafeSliceData_row _ _ _ _ _ _ hc0
  clear hc0
  go_enter Tryd.func16, Tryd.ntmps16
  go_wp2
  go_region_o
  all_goals (go_wp2; go_ret; exact ⟨rfl, rfl⟩)
theorem wq17b (b g : Nat) (p : Value) (cur : Array Value) (w : World) (hbk : w.heap[b]? = some (.cells #[p, .slice (some ⟨g, 0, none⟩) 0 0] 42 (0, 0))) (hg : w.heap[g]? = some (.cells cur 5 (0, 0))) :
    Calls Tryd.prog 16 #[.pointer (some ⟨b, 0, none⟩)] w fun e w' => e = .returned (.string ⟨#[]⟩) ∧ ∃ o, w' = (w.alloc o).drew := by
  have hUS := wq13a
  have hlt : b < w.heap.size := (Array.getElem?_eq_some_iff.1 hbk).1
  have mixed : Tryd.prog.follows .mixedOrders = true := by kernel_rfl
  have c1 : w.drew.cell? ⟨b, 1, none⟩ = some (.slice (some ⟨g, 0, none⟩) 0 0) := by
    have : w.drew.heap[b]? = some (.cells #[p, .slice (some ⟨g, 0, none⟩) 0 0] 42 (0, 0)) := hbk
    rw [Lib.cell_of_heap this]; rfl
  have hSD : (Builtin.unsafeSliceData_ #[27] 60 #[.slice (some ⟨g, 0, none⟩) 0 0]).run Tryd.prog w.drew = .ok (.pointer (some ⟨w.drew.heap.size, 0, none⟩)) (w.drew.alloc (.view ⟨g, 0, none⟩ 5)) :=
    Lib.run_unsafeSliceData_zero w.drew _ _ 5 (by kernel_rfl) ⟨g, 0, none⟩ 0 (5, cur.size) (by have hg' : w.drew.heap[g]? = some (.cells cur 5 (0, 0)) := hg; simp [World.shape?, hg'])
  have c2 : (w.drew.alloc (.view ⟨g, 0, none⟩ 5)).cell? ⟨b, 1, none⟩ = some (.slice (some ⟨g, 0, none⟩) 0 0) := by
    have : (w.drew.alloc (.view ⟨g, 0, none⟩ 5)).heap[b]? = _ := (Lib.alloc_old w.drew _ b hlt).trans hbk
    rw [Lib.cell_of_heap this]; rfl
  have c3 : (w.alloc (.view ⟨g, 0, none⟩ 5)).drew.cell? ⟨b, 1, none⟩ = some (.slice (some ⟨g, 0, none⟩) 0 0) := c2
  have c0 : w.cell? ⟨b, 1, none⟩ = some (.slice (some ⟨g, 0, none⟩) 0 0) := c1
  go_enter Tryd.func16, Tryd.ntmps16
  go_wp2
  go_region_o
  all_goals (go_wp2; go_ret; exact ⟨rfl, _, rfl⟩)
def allB : List Int → Bool
  | [] => true
  | x :: r => decide (0 ≤ x) && decide (x < 256) && allB r
def wq8s : List LS := [.obj 1 [.nps 1 0, .own 21 5 (.int .u8)]]
def wq3d (k : Nat) {R : Type} (x0 : List Int) (K : List Int → List UInt8 → Option R) : Option R := bif allB x0 then K x0 (wq6q x0) else none
def wq4p (k : Nat) {R : Type} : List PV → List (Nm × HObj) → (Out → Option R) → Option R
  | [.ptr 1 0], [(21, .row 5 (.int .u8) x0), (1, .var 42 [.nps 1 0, .row 21])], K => wq3d k x0 (fun y0 y1 => K (.ret [.v .str y1] [(1, .var 42 [.nps 1 0, .v (.sl (.int .u8)) y0])]))
  | _, _, _ => none
theorem wqes (vs : Array Value) (w : World) : (callFunc 16 vs).run Tryd.prog w = .ok (.enter 16 vs) w := by
  have h1 : Tryd.prog.funcs[16]? = some Tryd.f16 := by kernel_rfl
  have h2 : (Tryd.f16.name == "runtime.NumGoroutine") = false := by kernel_rfl
  have h3 : Tryd.f16.body.isNone = false := by kernel_rfl
  unfold callFunc
  rw [Sem.run_bind]
  have e2 : (program).run Tryd.prog w = .ok Tryd.prog w := rfl
  rw [e2, Result.andThen_ok, h1]
  simp only [h2, h3, Bool.false_eq_true, if_false]
  rfl
theorem wq1do : ∀ {l : List Int}, allB l = true → ∀ (i : Nat) (y : Int), l[i]? = some y → 0 ≤ y ∧ y < 256
  | [], _, i, y, h => by simp at h
  | x :: r, hb, 0, y, h => by
    simp only [allB, Bool.and_eq_true, decide_eq_true_eq] at hb
    simp at h; subst h; exact hb.1
  | x :: r, hb, i + 1, y, h => by
    simp only [allB, Bool.and_eq_true] at hb
    exact wq1do hb.2 i y (by simpa using h)
theorem wq19n {G : Gh} {w w' : World} {x0 : List Int} {HP : List (Nm × HObj)} (hHP : HP = [(21, .row 5 (.int .u8) x0), (1, .var 42 [.nps 1 0, .row 21])])
    (obj : ∀ n o, mkH HP n = some o → RO (mkH HP) G w n o) (dis : Dis (mkH HP) G w) (hblk : ∀ b, b < w.heap.size → (∀ g, (G.rv 21).ownBlock = some g → b ≠ g) → w'.heap[b]? = w.heap[b]?)
    (hcell : ∀ g o, (G.rv 21).ownBlock = some g → w'.cell? ⟨g, o, none⟩ = w.cell? ⟨g, o, none⟩) (grow : w.heap.size ≤ w'.heap.size) (os : w'.os = w.os) (tape : w'.tape = w.tape) (out : w'.output = w.output) :
    Fin HP [(1, .var 42 [.nps 1 0, .v (.sl (.int .u8)) x0])] G w G w' := by
  have l1 : mkH HP 1 = some (.var 42 [.nps 1 0, .row 21]) := by subst hHP; rfl
  have l2 : mkH HP 21 = some (.row 5 (.int .u8) x0) := by subst hHP; rfl
  generalize hHS : [((1 : Nm), HObj.var 42 [.nps 1 0, .v (.sl (.int .u8)) x0])] = HS
  have m1 : mkH HS 1 = some (.var 42 [.nps 1 0, .v (.sl (.int .u8)) x0]) := by subst hHS; rfl
  have mo : ∀ n o, mkH HS n = some o → n = 1 := by
    intro n o h
    subst hHS
    simp only [mkH, look] at h
    cases hb : Nat.beq 1 n with
    | true => exact (Nat.eq_of_beq_eq_true hb).symm
    | false => rw [hb] at h; cases h
  have bk1 : blkOf (mkH HP) G 1 = some (G.bk 1) := by simp [blkOf, l1]
  have bk2 : blkOf (mkH HP) G 21 = (G.rv 21).ownBlock := by simp [blkOf, l2]
  have ck1 : blkOf (mkH HS) G 1 = some (G.bk 1) := by simp [blkOf, m1]
  have ck : ∀ n b, blkOf (mkH HS) G n = some b → n = 1 ∧ b = G.bk 1 := by
    intro n b h
    cases hn : mkH HS n with
    | none => simp [blkOf, hn] at h
    | some o => have := mo n o hn; subst this; rw [ck1] at h; cases h; exact ⟨rfl, rfl⟩
  have hne : ∀ g, (G.rv 21).ownBlock = some g → G.bk 1 ≠ g := fun g hg e => by
    have := dis.inj 1 21 g (by rw [bk1, e]) (by rw [bk2, hg])
    cases this
  obtain ⟨vs, hw, q1, t1, rfl, hq1, q2, t2, rfl, hq2, rfl⟩ := obj 1 _ l1
  obtain ⟨rfl, _⟩ := hq2
  have hlt : G.bk 1 < w.heap.size := (Array.getElem?_eq_some_iff.1 hw).1
  have hw' : w'.heap[G.bk 1]? = some (.cells [q1, G.rv 21].toArray 42 (0, 0)) := by rw [hblk _ hlt hne]; exact hw
  have hdat : RD w' (okB (mkH HS) G) (.sl (.int .u8)) x0 [G.rv 21] := by
    have hro := obj 21 _ l2
    obtain ⟨us, hown, hr, _⟩ := hro
    rcases hown.2 with ⟨hv, hn⟩ | ⟨g, cap, cur, hv, _, hgb, hnc, hcm, hcs, _⟩
    · exact ⟨none, 0, by rw [hv, hn], by omega, .inl (List.eq_nil_of_length_eq_zero hn)⟩
    · have hgo : (G.rv 21).ownBlock = some g := by rw [hv]; rfl
      refine ⟨_, cap, by rw [hv], hnc, .inr ⟨_, rfl, ?_, ?_, ?_⟩⟩
      · refine ⟨fun n hn => ?_, fun hx => dis.xo 21 g (by rw [bk2, hgo]) hx⟩
        obtain ⟨_, e⟩ := ck n g hn
        exact hne g hgo e.symm
      · have : g < w.heap.size := (Array.getElem?_eq_some_iff.1 hgb).1
        exact Nat.lt_of_lt_of_le this grow
      · intro i y hy
        obtain ⟨c, hc, hu⟩ := hr.get i y hy
        refine ⟨c, hc, fun j u hj => ?_⟩
        have := hown.cells hgo _ _ (hu j u hj)
        rw [Addr.add_lit] at this ⊢
        rw [hcell g _ hgo]
        exact this
  refine ⟨fun n o hn => ?_, fun n m b h1 h2 => (ck n b h1).1.trans (ck m b h2).1.symm, fun n t cs hn o ho => ?_, fun n ag V es hn o ho => (wqhp (by rw [hHP]; rfl) hn).elim, fun b hb hf => hblk b hb fun g hg e => hf 21 (by rw [bk2, hg, e]), rfl, fun n b hn => .inl ⟨1, by rw [(ck n b hn).2]; exact bk1⟩, grow, os, tape, out⟩
  · have := mo n o hn; subst this
    rw [m1] at hn; cases hn
    refine ⟨_, hw', _, _, rfl, ?_, _, _, rfl, hdat, rfl⟩
    rcases hq1 with h | ⟨h, _⟩
    · exact .inl h
    · exact .inr ⟨h, _, _, m1⟩
  · have e1 := mo n o ho
    subst e1
    have e2 : mkH HS 1 = some o := ho
    have e3 : mkH HP 1 = some (.var t cs) := hn
    rw [m1] at e2; rw [l1] at e3; cases e2; cases e3
    exact ⟨⟨_, rfl⟩, rfl⟩
theorem wq9m (k : Nat) {ps : List PV} {hp : List (Nm × HObj)} {R : Type} {K : Out → Option R} {r : R} (h : wq4p k ps hp K = some r) : DoesTo Tryd.prog 16 ps hp fun out => K out = some r := by
  unfold wq4p at h
  split at h
  · next x0 =>
    intro G w vals hr obj dis
    unfold wq3d at h
    cases hb : allB x0 with
    | false => rw [hb] at h; cases h
    | true =>
      rw [hb, cond_true] at h
      obtain ⟨v0, l0, rfl, h0, rfl⟩ := hr
      obtain ⟨rfl, _⟩ := h0
      generalize hHP : [(21, HObj.row 5 (.int .u8) x0), (1, .var 42 [.nps 1 0, .row 21])] = HP at *
      have l1 : mkH HP 1 = some (.var 42 [.nps 1 0, .row 21]) := by subst hHP; rfl
      have l2 : mkH HP 21 = some (.row 5 (.int .u8) x0) := by subst hHP; rfl
      show Does _ _ #[_] _ _
      unfold Does
      rw [wqes]
      obtain ⟨vs, hw, q1, t1, rfl, hq1, q2, t2, rfl, hq2, rfl⟩ := obj 1 _ l1
      obtain ⟨rfl, _⟩ := hq2
      have hro := obj 21 _ l2
      obtain ⟨us, hown, hrd, _⟩ := hro
      have fin : ∀ {e : Ending} {w' : World}, e = .returned (.string ⟨(wq6q x0).toArray⟩) → (∀ b, b < w.heap.size → (∀ g, (G.rv 21).ownBlock = some g → b ≠ g) → w'.heap[b]? = w.heap[b]?) → (∀ g o, (G.rv 21).ownBlock = some g → w'.cell? ⟨g, o, none⟩ = w.cell? ⟨g, o, none⟩) → w.heap.size ≤ w'.heap.size → w'.os = w.os → w'.tape = w.tape → w'.output = w.output →
          ∃ out, K out = some r ∧ ∃ G', OutIs G' w' e out ∧ Fin HP out.hs G w G' w' := by
        intro e w' he h1 h2 h3 h4 h5 h6
        exact ⟨_, h, G, ⟨_, he, rfl⟩, wq19n hHP.symm obj dis h1 h2 h3 h4 h5 h6⟩
      rcases hown.2 with ⟨hv, hn⟩ | ⟨g, cap, cur, hv, _, hgb, hnc, hcm, hcs, htk⟩
      · have hx : x0 = [] := List.eq_nil_of_length_eq_zero hn
        subst hx
        rw [hv] at hw
        refine Calls.mono (wq1dn (G.bk 1) q1 w hw) fun e w' hh => ?_
        obtain ⟨rfl, rfl⟩ := hh
        exact fin rfl (fun _ _ _ => rfl) (fun _ _ _ => rfl) (Nat.le_refl _) rfl rfl rfl
      · have hgo : (G.rv 21).ownBlock = some g := by rw [hv]; rfl
        rw [hv] at hw
        by_cases hx : x0 = []
        · subst hx
          by_cases hc0 : cap = 0
          · subst hc0
            refine Calls.mono (wq17b (G.bk 1) g q1 cur w hw hgb) fun e w' hh => ?_
            obtain ⟨rfl, o, rfl⟩ := hh
            have hold : ∀ b, b < w.heap.size → (w.alloc o).drew.heap[b]? = w.heap[b]? := fun b hb => Lib.alloc_old w _ b hb
            refine fin rfl (fun b hb _ => hold b hb) (fun g' o' hg' => ?_) (by have := World.size_alloc w o; show _ ≤ (w.alloc o).heap.size; omega) rfl rfl rfl
            rw [hgo] at hg'; cases hg'
            exact World.cell?_of_block (hold g (Array.getElem?_eq_some_iff.1 hgb).1)
          · refine Calls.mono (wq1by (G.bk 1) g cap q1 w hc0 hw) fun e w' hh => ?_
            obtain ⟨rfl, rfl⟩ := hh
            exact fin rfl (fun _ _ _ => rfl) (fun _ _ _ => rfl) (Nat.le_refl _) rfl rfl rfl
        · have hlen : (wq6q x0).length = x0.length := by simp [wq6q]
          have hbytes : ∀ (j : Nat) (x : UInt8), (wq6q x0)[j]? = some x → w.cell? ⟨g, j, none⟩ = some (.int .u8 x.toNat) := by
            intro j x hj
            have hjl : j < x0.length := by rw [← hlen]; exact (List.getElem?_eq_some_iff.1 hj).1
            have hy : x0[j]? = some x0[j] := by simp [hjl]
            obtain ⟨c, hc, hu⟩ := hrd.get j _ hy
            have hc : c = [.int .u8 x0[j]] := hc
            have h9 := hown.cells hgo _ _ (hu 0 (.int .u8 x0[j]) (by rw [hc]; rfl))
            rw [Addr.add_lit] at h9
            have hj2 : x = UInt8.ofNat (x0[j]).toNat := by
              simp only [wq6q, List.getElem?_map, hy, Option.map_some, Option.some.injEq] at hj
              exact hj.symm
            obtain ⟨h10, h11⟩ := wq1do hb j _ hy
            have : ((x.toNat : Nat) : Int) = x0[j] := by
              rw [hj2, UInt8.toNat_ofNat']
              omega
            rw [this]
            have e0 : 0 + (j * Kd.sz (.int .u8) + 0) = j := by simp [Kd.sz]
            rw [e0] at h9
            exact h9
          rw [← hlen] at hw
          have hne : wq6q x0 ≠ [] := by intro e; rw [e] at hlen; exact hx (List.eq_nil_of_length_eq_zero hlen.symm)
          refine Calls.mono (wq19m (G.bk 1) g cap q1 (wq6q x0) cur w hw hne hgb (by omega) hcm (by simpa [Kd.sz] using hcs) hbytes) fun e w' hh => ?_
          obtain ⟨rfl, rfl⟩ := hh
          have hfz : ∀ b, b ≠ g → (w.drew.freeze ⟨g, 0, none⟩ (wq6q x0).length).heap[b]? = w.heap[b]? := by
            intro b hb
            unfold World.freeze
            split
            · rfl
            · show (w.heap.modify g _)[b]? = _
              rw [Array.getElem?_modify, if_neg (Ne.symm hb)]
          refine fin rfl (fun b _ hb => hfz b (hb g hgo)) (fun g' o' hg' => ?_) ?_ ?_ ?_ ?_
          · rw [hgo] at hg'; cases hg'
            unfold World.freeze
            split
            · rfl
            · simp only [World.cell?, World.drew, Array.getElem?_modify, if_true, hgb, Option.map_some]
          all_goals
            unfold World.freeze
            split
            · first | rfl | exact Nat.le_refl _
            · first | rfl | (show w.heap.size ≤ (w.heap.modify g _).size; rw [Array.size_modify]; exact Nat.le_refl _)
  · cases h
end Go.Proofs.YtdfhgimidmfgfaaDoor.Pvm
set_option maxHeartbeats 1000000
namespace Go.Proofs.YtdfhgimidmfgfaaDoor.Pvm
open Go Go.Proofs Go.RowKit
theorem wq14l (b : Nat) (w : World) (h0 : w.cell? ⟨b, 0, none⟩ = some (.pointer (some ⟨b, 0, none⟩))) :
    Calls Tryd.prog 33 #[.pointer (some ⟨b, 0, none⟩)] w fun e w' => e = .returned (.tuple #[]) ∧ w' = w := by
  have t76 : Tryd.prog.underlying 40 = some (.pointer 42) := by kernel_rfl
  have hs : (Tryd.prog.info? 42).isSome = true := by kernel_rfl
  obtain ⟨j, hj⟩ := Option.isSome_iff_exists.1 hs
  go_enter Tryd.func33, Tryd.ntmps33
  go_wp2
  rw [Lib.run_neq_ptr_same w _ t76 hj]
  go_wp2
  go_end0
  exact ⟨rfl, rfl⟩
theorem wq10x (b : Nat) (w : World) (h0 : w.cell? ⟨b, 0, none⟩ = some (.pointer none)) (hsh : w.shape? b = some (42, 2)) (hfz : w.frozen? ⟨b, 0, none⟩ = false) :
    Calls Tryd.prog 33 #[.pointer (some ⟨b, 0, none⟩)] w fun e w' => e = .returned (.tuple #[]) ∧ w' = w.setCell ⟨b, 0, none⟩ (.pointer (some ⟨b, 0, none⟩)) := by
  have t76 : Tryd.prog.underlying 40 = some (.pointer 42) := by kernel_rfl
  have t89 : Tryd.prog.underlying 69 = some .unsafePointer := by kernel_rfl
  have hs : (Tryd.prog.info? 42).map (·.size) = some 2 := by kernel_rfl
  obtain ⟨j, hj, hjs⟩ := Option.map_eq_some_iff.1 hs
  have hlies : liesAt Tryd.prog Tryd.prog.depth 42 (2 / Tryd.prog.cellsOf 42) 0 42 1 = true := by kernel_rfl
  go_enter Tryd.func33, Tryd.ntmps33
  go_wp2
  rw [Lib.run_to_unsafe w ⟨b, 0, none⟩ t76 t89 hj (by rw [hjs]; decide) hsh (Nat.zero_lt_succ 1)]
  simp only [Result.andThen]
  rw [Oper.upon_value]
  go_wp2
  rw [run_callFunc_extern Tryd.func39 (by kernel_rfl) (by kernel_rfl) (by kernel_rfl) (e := Extern.AbiNoEscape.same) (by kernel_rfl)]
  rw [Lib.run_noEscape]
  simp only [Result.andThen]
  rw [Oper.upon_value]
  go_wp2
  rw [Lib.run_from_unsafe w ⟨b, 0, none⟩ t89 t76 hj hsh hlies]
  simp only [Result.andThen]
  rw [Oper.upon_value]
  go_wp2
  go_end0
  exact ⟨rfl, rfl⟩
end Go.Proofs.YtdfhgimidmfgfaaDoor.Pvm
set_option maxRecDepth 1000000
namespace Go.Proofs.YtdfhgimidmfgfaaDoor.Pvm
open Go Go.Proofs
def wqah : List LS := [.obj 1 [.nps 1 0, .own 21 5 (.int .u8)]]
def wq4h (k : Nat) {R : Type} (x0 : List Int) (K : List Int → Option R) : Option R := K x0
def wq53 (k : Nat) {R : Type} : List PV → List (Nm × HObj) → (Out → Option R) → Option R
  | [.ptr 1 0], [(21, .row 5 (.int .u8) x0), (1, .var 42 [.nps 1 0, .row 21])], K => wq4h k x0 (fun y0 => K (.ret [] [(21, .row 5 (.int .u8) y0), (1, .var 42 [.nps 1 0, .row 21])]))
  | _, _, _ => none
theorem wqd0 (vs : Array Value) (w : World) : (callFunc 33 vs).run Tryd.prog w = .ok (.enter 33 vs) w := by
  have h1 : Tryd.prog.funcs[33]? = some Tryd.f33 := by kernel_rfl
  have h2 : (Tryd.f33.name == "runtime.NumGoroutine") = false := by kernel_rfl
  have h3 : Tryd.f33.body.isNone = false := by kernel_rfl
  unfold callFunc
  rw [Sem.run_bind]
  have e2 : (program).run Tryd.prog w = .ok Tryd.prog w := rfl
  rw [e2, Result.andThen_ok, h1]
  simp only [h2, h3, Bool.false_eq_true, if_false]
  rfl
theorem wqbc (k : Nat) {ps : List PV} {hp : List (Nm × HObj)} {R : Type} {K : Out → Option R} {r : R} (h : wq53 k ps hp K = some r) : DoesTo Tryd.prog 33 ps hp fun out => K out = some r := by
  unfold wq53 at h
  split at h
  · next x0 =>
    intro G w vals hr obj dis
    obtain ⟨v0, l0, rfl, h0, rfl⟩ := hr
    obtain ⟨rfl, _⟩ := h0
    generalize hHP : [(21, HObj.row 5 (.int .u8) x0), (1, .var 42 [.nps 1 0, .row 21])] = HP at *
    have hK : K (.ret [] HP) = some r := by subst hHP; exact h
    have l1 : mkH HP 1 = some (.var 42 [.nps 1 0, .row 21]) := by subst hHP; rfl
    have hob := obj 1 _ l1
    obtain ⟨vs, hw, q1, t1, rfl, hq1, q2, t2, rfl, hq2, rfl⟩ := hob
    show Does _ _ #[_] _ _
    unfold Does
    rw [wqd0]
    have hcell : w.cell? ⟨G.bk 1, 0, none⟩ = some q1 := by simp [World.cell?, hw]
    have hlt : G.bk 1 < w.heap.size := (Array.getElem?_eq_some_iff.1 hw).1
    rcases hq1 with rfl | ⟨rfl, _⟩
    · refine Calls.mono (wq10x (G.bk 1) w hcell (by simp [World.shape?, hw]) (by simp [World.frozen?, hw])) fun e w' hh => ?_
      obtain ⟨rfl, rfl⟩ := hh
      have oth : ∀ b, b ≠ G.bk 1 → (w.setCell ⟨G.bk 1, 0, none⟩ (.pointer (some ⟨G.bk 1, 0, none⟩))).heap[b]? = w.heap[b]? := fun b hb => Go.Deep.blk_setCell_other w _ _ b hb
      have bk1 : blkOf (mkH HP) G 1 = some (G.bk 1) := by simp [blkOf, l1]
      have C : Carry (mkH HP) G w (mkH HP) G (w.setCell ⟨G.bk 1, 0, none⟩ (.pointer (some ⟨G.bk 1, 0, none⟩))) .row :=
        ⟨fun b ho _ => ⟨ho, oth b fun e => ho.1 1 (by rw [bk1, e])⟩, fun n t cs hn => ⟨⟨cs, hn⟩, rfl⟩, fun n ag V es hn => ⟨⟨es, hn⟩, rfl⟩, fun n e K xs hn => ⟨⟨rfl, e, K, xs, hn⟩, fun m hm => by cases hm; exact ⟨e, xs, hn, Nat.le_refl _⟩⟩⟩
      have hq2' := RV.carry C _ _ hq2
      refine ⟨.ret [] HP, hK, G, ⟨_, rfl, ⟨[], rfl, rfl⟩⟩, ⟨fun n o hn => ?_, dis.inj, fun n t cs hn o ho => ?_, fun n ag V es hn o ho => (wqhp (by rw [← hHP]; rfl) hn).elim, fun b hb hf => oth b fun e => hf 1 (by rw [bk1, e]), rfl, fun n b hb => .inl ⟨n, hb⟩, by simp [World.setCell], rfl, rfl, rfl⟩⟩
      · by_cases hn1 : n = 1
        · subst hn1
          rw [show mkH (Out.hs (.ret [] HP)) 1 = some (.var 42 [.nps 1 0, .row 21]) from l1] at hn
          cases hn
          refine ⟨[.pointer (some ⟨G.bk 1, 0, none⟩), q2], ?_, _, _, rfl, .inr ⟨rfl, 42, _, l1⟩, _, _, rfl, hq2', rfl⟩
          have hw2 := (Array.getElem?_eq_some_iff.1 hw).2
          simp only [World.setCell, Array.getElem?_modify, if_pos, hw]
          simp
        · have hne : ∀ b, blkOf (mkH HP) G n = some b → b ≠ G.bk 1 := fun b hb e => hn1 (dis.inj n 1 b hb (by rw [bk1, e]))
          have := RO.carry C hn (obj n o hn) (fun b hb => oth b (hne b hb)) rfl rfl
          rwa [wqg6] at this
      · have e1 : look HP n = some o := ho
        rw [hn] at e1; cases e1
        exact ⟨⟨cs, rfl⟩, rfl⟩
    · refine Calls.mono (wq14l (G.bk 1) w hcell) fun e w' hh => ?_
      obtain ⟨rfl, rfl⟩ := hh
      refine ⟨.ret [] HP, hK, G, ⟨_, rfl, ⟨[], rfl, rfl⟩⟩, ⟨obj, dis.inj, fun n t cs hn o ho => ?_, fun n ag V es hn o ho => (wqhp (by rw [← hHP]; rfl) hn).elim, fun _ _ _ => rfl, rfl, fun n b hb => .inl ⟨n, hb⟩, Nat.le_refl _, rfl, rfl, rfl⟩⟩
      have e1 : look HP n = some o := ho
      rw [hn] at e1; cases e1
      exact ⟨⟨cs, rfl⟩, rfl⟩
  · cases h
end Go.Proofs.YtdfhgimidmfgfaaDoor.Pvm
set_option maxHeartbeats 0
namespace Go.Proofs.YtdfhgimidmfgfaaDoor.Pvm
open Go Go.Proofs
def wq77 : List LS := [.obj 1 [.nps 1 0, .own 21 5 (.int .u8)], .any]
def wqbd (k : Nat) : CTab := (CTab.add 33 wqah (wq53 k) CTab.nil)
def wq71 {R : Type} (K : ((List Int) → Option R)) : Out → Option R
  | .ret [.nilif] [(21, .row 5 (.int .u8) y0), (1, .var 42 [.nps 1 0, .row 21])] => K y0
  | _ => none
def wqas : RetSpec := ⟨[.any], [(1, .obj 1 [.nps 1 0, .own 21 5 (.int .u8)])], []⟩
def wqf8 : List (Nat × CutSpec) := []
def wqet : List (Nat × Plan) := []
def wq7x (k : Nat) : Ctx := ⟨tyT, wqf8, wqbd k, [], [1], wqet, @SH⟩
def wq72 : Code := Tryd.f32.body.getD .skip
def wq85 (k : Nat) {R : Type}  (x0 : (List Int)) (x1 : Int) (K : ((List Int) → Option R)) : Option R := (@wq4h k R x0 (fun y5 => (@cond (@Option R) (@fits (@List.length (@Kd.T (@Kd.int Go.IntKind.u8)) y5) (@List.length (@Kd.T (@Kd.int Go.IntKind.u8)) (x1 :: [])) (1 : Nat)) (K (@HAppend.hAppend (@Kd.T (@Kd.sl (@Kd.int Go.IntKind.u8))) (@List (@Kd.T (@Kd.int Go.IntKind.u8))) (@Kd.T (@Kd.sl (@Kd.int Go.IntKind.u8))) (@instHAppendOfAppend (@Kd.T (@Kd.sl (@Kd.int Go.IntKind.u8))) (@List.instAppend (@Kd.T (@Kd.int Go.IntKind.u8)))) y5 (x1 :: []))) (@Option.none R))))
theorem wqf9 (k : Nat) {R : Type} (I : Nat → St → Option R) (x0 : (List Int)) (x1 : Int) (K : ((List Int) → Option R)) : fnK (wq7x k) k wq72 17 [.tmp 4] wqas [.ptr 1 0, .v (.int .u8) x1] [(21, .row 5 (.int .u8) x0), (1, .var 42 [.nps 1 0, .row 21])] (wq71 K) = wq85 k  x0 x1 K := by kernel_rfl
def wq1b (k : Nat) {R : Type} (x0 : (List Int)) (x1 : Int) (K : ((List Int) → Option R)) : Option R := wq85 k  x0 x1 K
theorem wqfa (k : Nat) {R : Type} (x0 : (List Int)) (x1 : Int) (K : ((List Int) → Option R)) : fnK (wq7x k) k wq72 17 [.tmp 4] wqas [.ptr 1 0, .v (.int .u8) x1] [(21, .row 5 (.int .u8) x0), (1, .var 42 [.nps 1 0, .row 21])] (wq71 K) = wq1b k x0 x1 K := by
  exact wqf9 k (fun _ _ => none) x0 x1 K
def wq3w (k : Nat) {R : Type} : List PV → List (Nm × HObj) → (Out → Option R) → Option R
  | [.ptr 1 0, .v (.int .u8) x1], [(21, .row 5 (.int .u8) x0), (1, .var 42 [.nps 1 0, .row 21])], K => wq1b k x0 x1 (fun y0 => K (.ret [.nilif] [(21, .row 5 (.int .u8) y0), (1, .var 42 [.nps 1 0, .row 21])]))
  | _, _, _ => none
theorem wqfb (k : Nat) : (wqbd k).Ok Tryd.prog := (CTab.add_ok (fun h => wqbc k h) CTab.nil_ok)
theorem wq86 (k : Nat) {ps : List PV} {hp : List (Nm × HObj)} {R : Type} {K : Out → Option R} {r : R} (h : wq3w k ps hp K = some r) : DoesTo Tryd.prog 32 ps hp fun out => K out = some r := by
  unfold wq3w at h
  split at h
  · rw [← wqfa] at h
    have := fn_ok (P := Tryd.prog) (cx := wq7x k) (f := 32) ⟨tyT_ok, wqfb k, fun _ _ => rfl⟩ (by kernel_rfl) (fn := Tryd.f32) (c := wq72) (by kernel_rfl) (by kernel_rfl) (by kernel_rfl) (rs := [.tmp 4]) (by kernel_rfl) (by kernel_rfl) h
    exact this.mono fun out ho => by
      unfold wq71 at ho
      split at ho <;> first | exact ho | cases ho
  · cases h
abbrev wq4k (R : Type) : Type := (Int → Int → (List UInt8) → Int → (List (Int × (Int × (Int × ((List UInt8) × Bool))))) → (List UInt8) → Int → Option R)
abbrev wq4l (R : Type) : Type := (Int → Int → (List UInt8) → Int → (List (Int × (Int × (Int × ((List UInt8) × Bool))))) → Int → Int → Option R)
def wqq8 : List LS := [.obj 1 [.any, .any, .any, .any, .own 21 84 (.pr (.int .i64) (.pr (.int .i64) (.pr (.int .i64) (.pr .str .bool))))], .any]
def wqjm (k : Nat) : CTab := (CTab.add 16 wq8s (wq4p k) (CTab.add 32 wq77 (wq3w k) (CTab.add 70 wq8h (wq5b k) (CTab.add 88 wqrz (wqcz k) CTab.nil))))
def wq3u {R : Type} (K : wq4k R) (E : wq4l R) : Out → Option R
  | .ret [.v .str y5, .v (.int .i64) y6] [(21, .row 84 (.pr (.int .i64) (.pr (.int .i64) (.pr (.int .i64) (.pr .str .bool)))) y4), (1, .var 97 [.v (.int .i64) y0, .v (.int .i64) y1, .v .str y2, .v (.int .i64) y3, .row 21])] => K y0 y1 y2 y3 y4 y5 y6
  | .pan (.ifc 78 (.agg [.v (.int .i64) z5, .v (.int .i64) z6])) [(21, .row 84 (.pr (.int .i64) (.pr (.int .i64) (.pr (.int .i64) (.pr .str .bool)))) z4), (1, .var 97 [.v (.int .i64) z0, .v (.int .i64) z1, .v .str z2, .v (.int .i64) z3, .row 21])] => E z0 z1 z2 z3 z4 z5 z6
  | _ => none
def wq5d : RetSpec := ⟨[.any, .any], [(1, .obj 1 [.any, .any, .any, .any, .own 21 84 (.pr (.int .i64) (.pr (.int .i64) (.pr (.int .i64) (.pr .str .bool))))])], [(1, .obj 1 [.any, .any, .any, .any, .own 21 84 (.pr (.int .i64) (.pr (.int .i64) (.pr (.int .i64) (.pr .str .bool))))])]⟩
def wqo1 : List (Nat × CutSpec) := [(1003, ⟨[(0, .obj 1 [.any, .any, .any, .any, .own 21 84 (.pr (.int .i64) (.pr (.int .i64) (.pr (.int .i64) (.pr .str .bool))))]), (1, .any), (6, .obj 16 [.nps 16 0, .own 36 5 (.int .u8)]), (7, .any)], [(1, .obj 1 [.any, .any, .any, .any, .own 21 84 (.pr (.int .i64) (.pr (.int .i64) (.pr (.int .i64) (.pr .str .bool))))])]⟩)]
def wqmh : List (Nat × Plan) := []
def wqq (k : Nat) : Ctx := ⟨tyT, wqo1, wqjm k, [], [1], wqmh, @SH⟩
def wq1u : Code := Tryd.f82.body.getD .skip
def wq47 (s0 s1 : Int) (s2 : (List UInt8)) (s3 : Int) (s4 : (List (Int × (Int × (Int × ((List UInt8) × Bool)))))) (s5 : (List UInt8)) (s6 : (List Int)) (s7 : Int) : St := ⟨mkT [(0, .ptr 1 0), (1, .v .str s5), (6, .ptr 16 0), (7, .v (.int .i64) s7)], mkH [(21, .row 84 (.pr (.int .i64) (.pr (.int .i64) (.pr (.int .i64) (.pr .str .bool)))) s4), (1, .var 97 [.v (.int .i64) s0, .v (.int .i64) s1, .v .str s2, .v (.int .i64) s3, .row 21]), (36, .row 5 (.int .u8) s6), (16, .var 42 [.nps 16 0, .row 36])]⟩
def wq5w (k : Nat) {R : Type} (E1003 : (Int → Int → (List UInt8) → Int → (List (Int × (Int × (Int × ((List UInt8) × Bool))))) → (List UInt8) → (List Int) → Int → Option R)) (s0 s1 : Int) (s2 : (List UInt8)) (s3 : Int) (s4 : (List (Int × (Int × (Int × ((List UInt8) × Bool)))))) (s5 : (List UInt8)) (s6 : (List Int)) (s7 : Int) (K : wq4k R) (E : wq4l R) : Option R := (@cond (@Option R) (@Decidable.decide (@LT.lt Int Int.instLTInt s7 (@Nat.cast Int instNatCastInt (@List.length UInt8 s5))) (@Int.decLt s7 (@Nat.cast Int instNatCastInt (@List.length UInt8 s5)))) (@cond (@Option R) (@inb s7 (@Nat.cast Int instNatCastInt (@List.length UInt8 s5))) (@cond (@Option R) (@BEq.beq Int (@instBEqOfDecidableEq Int @Int.instDecidableEq) (@Nat.cast Int instNatCastInt (@UInt8.toNat (@List.getD UInt8 s5 (@Int.toNat s7) (0 : UInt8)))) (34 : Int)) (@wq3d k R s6 (fun y13 y14 => (K s0 s1 s2 s3 s4 y14 (@Go.IntKind.wrap Go.IntKind.i64 (@HAdd.hAdd Int Int Int (@instHAdd Int @Int.instAdd) s7 (1 : Int)))))) (@cond (@Option R) (@BEq.beq Int (@instBEqOfDecidableEq Int @Int.instDecidableEq) (@Nat.cast Int instNatCastInt (@UInt8.toNat (@List.getD UInt8 s5 (@Int.toNat s7) (0 : UInt8)))) (92 : Int)) (@cond (@Option R) (@bnd (@Go.IntKind.wrap Go.IntKind.i64 (@HAdd.hAdd Int Int Int (@instHAdd Int @Int.instAdd) s7 (1 : Int))) (@Nat.cast Int instNatCastInt (@List.length UInt8 s5)) (@Nat.cast Int instNatCastInt (@List.length UInt8 s5))) (@wqa1 k R s0 s1 s2 s3 s4 (@cut UInt8 s5 (@Go.IntKind.wrap Go.IntKind.i64 (@HAdd.hAdd Int Int Int (@instHAdd Int @Int.instAdd) s7 (1 : Int))) (@Nat.cast Int instNatCastInt (@List.length UInt8 s5))) (fun y13 y14 y15 y16 y17 y18 y19 => (@wq1b k R s6 y18 (fun y20 => (E1003 y13 y14 y15 y16 y17 s5 y20 (@Go.IntKind.wrap Go.IntKind.i64 (@HAdd.hAdd Int Int Int (@instHAdd Int @Int.instAdd) (@Go.IntKind.wrap Go.IntKind.i64 (@HAdd.hAdd Int Int Int (@instHAdd Int @Int.instAdd) s7 y19)) (1 : Int))))))) (fun y13 y14 y15 y16 y17 y18 y19 => (E y13 y14 y15 y16 y17 y18 y19))) (@Option.none R)) (@cond (@Option R) (@inb s7 (@Nat.cast Int instNatCastInt (@List.length UInt8 s5))) (@wq1b k R s6 (@Nat.cast Int instNatCastInt (@UInt8.toNat (@List.getD UInt8 s5 (@Int.toNat s7) (0 : UInt8)))) (fun y13 => (E1003 s0 s1 s2 s3 s4 s5 y13 (@Go.IntKind.wrap Go.IntKind.i64 (@HAdd.hAdd Int Int Int (@instHAdd Int @Int.instAdd) s7 (1 : Int)))))) (@Option.none R)))) (@Option.none R)) (@wqi k R s0 s1 s2 s3 s4 (3 : Int) (fun y13 y14 y15 y16 y17 => (K y13 y14 y15 y16 y17 [] (0 : Int))) (fun y13 y14 y15 y16 y17 y18 y19 => (E y13 y14 y15 y16 y17 y18 y19))))
theorem wqie (k : Nat) {R : Type} (I : Nat → St → Option R) (s0 s1 : Int) (s2 : (List UInt8)) (s3 : Int) (s4 : (List (Int × (Int × (Int × ((List UInt8) × Bool)))))) (s5 : (List UInt8)) (s6 : (List Int)) (s7 : Int) (K : wq4k R) (E : wq4l R) : execK (wqq k) k (at_ [1, 1, 0, 1, 0, 0] wq1u) (wq47 s0 s1 s2 s3 s4 s5 s6 s7) (konts (wqq k) k I [1, 1, 0, 1, 0, 0] wq1u (outK (wqq k) wq5d [.tmp 4, .tmp 5] (wq3u K E))) = wq5w k (fun s0 s1 s2 s3 s4 s5 s6 s7 => I 1003 (wq47 s0 s1 s2 s3 s4 s5 s6 s7)) s0 s1 s2 s3 s4 s5 s6 s7 K E := by kernel_rfl
def wqb5 (k : Nat) {R : Type} (E1003 : (Int → Int → (List UInt8) → Int → (List (Int × (Int × (Int × ((List UInt8) × Bool))))) → (List UInt8) → (List Int) → Int → Option R)) (x0 x1 : Int) (x2 : (List UInt8)) (x3 : Int) (x4 : (List (Int × (Int × (Int × ((List UInt8) × Bool)))))) (x5 : (List UInt8)) (K : wq4k R) (E : wq4l R) : Option R := (E1003 x0 x1 x2 x3 x4 x5 [] (1 : Int))
theorem wqo2 (k : Nat) {R : Type} (I : Nat → St → Option R) (x0 x1 : Int) (x2 : (List UInt8)) (x3 : Int) (x4 : (List (Int × (Int × (Int × ((List UInt8) × Bool)))))) (x5 : (List UInt8)) (K : wq4k R) (E : wq4l R) : fnK (wqq k) k wq1u 46 [.tmp 4, .tmp 5] wq5d [.ptr 1 0, .v .str x5] [(21, .row 84 (.pr (.int .i64) (.pr (.int .i64) (.pr (.int .i64) (.pr .str .bool)))) x4), (1, .var 97 [.v (.int .i64) x0, .v (.int .i64) x1, .v .str x2, .v (.int .i64) x3, .row 21])] (wq3u K E) = wqb5 k (fun s0 s1 s2 s3 s4 s5 s6 s7 => iter (wqq k).pv (look (wqq k).cuts 1003) (execK (wqq k) k (at_ [1, 1, 0, 1, 0, 0] wq1u)) k (wq47 s0 s1 s2 s3 s4 s5 s6 s7) (konts (wqq k) k I [1, 1, 0, 1, 0] wq1u (outK (wqq k) wq5d [.tmp 4, .tmp 5] (wq3u K E)))) x0 x1 x2 x3 x4 x5 K E := by kernel_rfl
def wq2n (k : Nat) {R : Type}  : Nat → Int → Int → (List UInt8) → Int → (List (Int × (Int × (Int × ((List UInt8) × Bool))))) → (List UInt8) → (List Int) → Int → (Int → Int → (List UInt8) → Int → (List (Int × (Int × (Int × ((List UInt8) × Bool))))) → (List UInt8) → Int → Option R) → (Int → Int → (List UInt8) → Int → (List (Int × (Int × (Int × ((List UInt8) × Bool))))) → Int → Int → Option R) → Option R
  | 0, _, _, _, _, _, _, _, _, _, _ => none
  | n + 1, s0, s1, s2, s3, s4, s5, s6, s7, K, E => wq5w k (fun s0 s1 s2 s3 s4 s5 s6 s7 => wq2n k  n s0 s1 s2 s3 s4 s5 s6 s7 K E) s0 s1 s2 s3 s4 s5 s6 s7 K E
theorem wqif (k : Nat) {R : Type} (I : Nat → St → Option R) (K : wq4k R) (E : wq4l R) : ∀ (n : Nat) (s0 s1 : Int) (s2 : (List UInt8)) (s3 : Int) (s4 : (List (Int × (Int × (Int × ((List UInt8) × Bool)))))) (s5 : (List UInt8)) (s6 : (List Int)) (s7 : Int), iter (wqq k).pv (look (wqq k).cuts 1003) (execK (wqq k) k (at_ [1, 1, 0, 1, 0, 0] wq1u)) n (wq47 s0 s1 s2 s3 s4 s5 s6 s7) (konts (wqq k) k I [1, 1, 0, 1, 0] wq1u (outK (wqq k) wq5d [.tmp 4, .tmp 5] (wq3u K E))) = wq2n k  n s0 s1 s2 s3 s4 s5 s6 s7 K E := by
  intro n
  induction n with
  | zero => intros; rfl
  | succ n ih =>
    intro s0 s1 s2 s3 s4 s5 s6 s7
    let I' : Nat → St → Option R := fun id s => bif Nat.beq id 1003 then iter (wqq k).pv (look (wqq k).cuts 1003) (execK (wqq k) k (at_ [1, 1, 0, 1, 0, 0] wq1u)) n s (konts (wqq k) k I [1, 1, 0, 1, 0] wq1u (outK (wqq k) wq5d [.tmp 4, .tmp 5] (wq3u K E))) else I id s
    have e := wqie k I' s0 s1 s2 s3 s4 s5 s6 s7 K E
    have h1003 : (fun s0 s1 s2 s3 s4 s5 s6 s7 => I' 1003 (wq47 s0 s1 s2 s3 s4 s5 s6 s7)) = (fun s0 s1 s2 s3 s4 s5 s6 s7 => wq2n k  n s0 s1 s2 s3 s4 s5 s6 s7 K E) := by funext s0 s1 s2 s3 s4 s5 s6 s7; exact ih s0 s1 s2 s3 s4 s5 s6 s7
    refine Eq.trans (?_ : _ = _) (e.trans (Eq.trans ((congrArg ((fun E1003 => wq5w k E1003 s0 s1 s2 s3 s4 s5 s6 s7 K E)) h1003)) (by rw [wq2n])))
    rfl
def wq91 (k : Nat) {R : Type} (x0 x1 : Int) (x2 : (List UInt8)) (x3 : Int) (x4 : (List (Int × (Int × (Int × ((List UInt8) × Bool)))))) (x5 : (List UInt8)) (K : wq4k R) (E : wq4l R) : Option R := wqb5 k (fun s0 s1 s2 s3 s4 s5 s6 s7 => wq2n k k s0 s1 s2 s3 s4 s5 s6 s7 K E) x0 x1 x2 x3 x4 x5 K E
theorem wqo3 (k : Nat) {R : Type} (x0 x1 : Int) (x2 : (List UInt8)) (x3 : Int) (x4 : (List (Int × (Int × (Int × ((List UInt8) × Bool)))))) (x5 : (List UInt8)) (K : wq4k R) (E : wq4l R) : fnK (wqq k) k wq1u 46 [.tmp 4, .tmp 5] wq5d [.ptr 1 0, .v .str x5] [(21, .row 84 (.pr (.int .i64) (.pr (.int .i64) (.pr (.int .i64) (.pr .str .bool)))) x4), (1, .var 97 [.v (.int .i64) x0, .v (.int .i64) x1, .v .str x2, .v (.int .i64) x3, .row 21])] (wq3u K E) = wq91 k x0 x1 x2 x3 x4 x5 K E := by
  let I : Nat → St → Option R := fun _ _ => none
  have h1003 : (fun s0 s1 s2 s3 s4 s5 s6 s7 => iter (wqq k).pv (look (wqq k).cuts 1003) (execK (wqq k) k (at_ [1, 1, 0, 1, 0, 0] wq1u)) k (wq47 s0 s1 s2 s3 s4 s5 s6 s7) (konts (wqq k) k I [1, 1, 0, 1, 0] wq1u (outK (wqq k) wq5d [.tmp 4, .tmp 5] (wq3u K E)))) = (fun s0 s1 s2 s3 s4 s5 s6 s7 => wq2n k k s0 s1 s2 s3 s4 s5 s6 s7 K E) := by funext s0 s1 s2 s3 s4 s5 s6 s7; exact wqif k I K E k s0 s1 s2 s3 s4 s5 s6 s7
  exact (wqo2 k I x0 x1 x2 x3 x4 x5 K E).trans (congrArg ((fun E1003 => wqb5 k E1003 x0 x1 x2 x3 x4 x5 K E)) h1003)
def wqc9 (k : Nat) {R : Type} : List PV → List (Nm × HObj) → (Out → Option R) → Option R
  | [.ptr 1 0, .v .str x5], [(21, .row 84 (.pr (.int .i64) (.pr (.int .i64) (.pr (.int .i64) (.pr .str .bool)))) x4), (1, .var 97 [.v (.int .i64) x0, .v (.int .i64) x1, .v .str x2, .v (.int .i64) x3, .row 21])], K => wq91 k x0 x1 x2 x3 x4 x5 (fun y0 y1 y2 y3 y4 y5 y6 => K (.ret [.v .str y5, .v (.int .i64) y6] [(21, .row 84 (.pr (.int .i64) (.pr (.int .i64) (.pr (.int .i64) (.pr .str .bool)))) y4), (1, .var 97 [.v (.int .i64) y0, .v (.int .i64) y1, .v .str y2, .v (.int .i64) y3, .row 21])])) (fun z0 z1 z2 z3 z4 z5 z6 => K (.pan (.ifc 78 (.agg [.v (.int .i64) z5, .v (.int .i64) z6])) [(21, .row 84 (.pr (.int .i64) (.pr (.int .i64) (.pr (.int .i64) (.pr .str .bool)))) z4), (1, .var 97 [.v (.int .i64) z0, .v (.int .i64) z1, .v .str z2, .v (.int .i64) z3, .row 21])]))
  | _, _, _ => none
theorem wqo4 (k : Nat) : (wqjm k).Ok Tryd.prog := (CTab.add_ok (fun h => wq9m k h) (CTab.add_ok (fun h => wq86 k h) (CTab.add_ok (fun h => wqa0 k h) (CTab.add_ok (fun h => wqvm k h) CTab.nil_ok))))
theorem wqts (k : Nat) {ps : List PV} {hp : List (Nm × HObj)} {R : Type} {K : Out → Option R} {r : R} (h : wqc9 k ps hp K = some r) : DoesTo Tryd.prog 82 ps hp fun out => K out = some r := by
  unfold wqc9 at h
  split at h
  · rw [← wqo3] at h
    have := fn_ok (P := Tryd.prog) (cx := wqq k) (f := 82) ⟨tyT_ok, wqo4 k, fun _ _ => rfl⟩ (by kernel_rfl) (fn := Tryd.f82) (c := wq1u) (by kernel_rfl) (by kernel_rfl) (by kernel_rfl) (rs := [.tmp 4, .tmp 5]) (by kernel_rfl) (by kernel_rfl) h
    exact this.mono fun out ho => by
      unfold wq3u at ho
      split at ho <;> first | exact ho | cases ho
  · cases h
abbrev wq4m (R : Type) : Type := (Int → Int → (List UInt8) → Int → (List (Int × (Int × (Int × ((List UInt8) × Bool))))) → (List UInt8) → Int → Option R)
abbrev wq4n (R : Type) : Type := (Int → Int → (List UInt8) → Int → (List (Int × (Int × (Int × ((List UInt8) × Bool))))) → Int → Int → Option R)
def wqq9 : List LS := [.obj 1 [.any, .any, .any, .any, .own 21 84 (.pr (.int .i64) (.pr (.int .i64) (.pr (.int .i64) (.pr .str .bool))))], .any]
def wqjn (k : Nat) : CTab := (CTab.add 16 wq8s (wq4p k) (CTab.add 32 wq77 (wq3w k) (CTab.add 70 wq8h (wq5b k) CTab.nil)))
def wq3v {R : Type} (K : wq4m R) (E : wq4n R) : Out → Option R
  | .ret [.v .str y5, .v (.int .i64) y6] [(21, .row 84 (.pr (.int .i64) (.pr (.int .i64) (.pr (.int .i64) (.pr .str .bool)))) y4), (1, .var 97 [.v (.int .i64) y0, .v (.int .i64) y1, .v .str y2, .v (.int .i64) y3, .row 21])] => K y0 y1 y2 y3 y4 y5 y6
  | .pan (.ifc 78 (.agg [.v (.int .i64) z5, .v (.int .i64) z6])) [(21, .row 84 (.pr (.int .i64) (.pr (.int .i64) (.pr (.int .i64) (.pr .str .bool)))) z4), (1, .var 97 [.v (.int .i64) z0, .v (.int .i64) z1, .v .str z2, .v (.int .i64) z3, .row 21])] => E z0 z1 z2 z3 z4 z5 z6
  | _ => none
def wq5e : RetSpec := ⟨[.any, .any], [(1, .obj 1 [.any, .any, .any, .any, .own 21 84 (.pr (.int .i64) (.pr (.int .i64) (.pr (.int .i64) (.pr .str .bool))))])], [(1, .obj 1 [.any, .any, .any, .any, .own 21 84 (.pr (.int .i64) (.pr (.int .i64) (.pr (.int .i64) (.pr .str .bool))))])]⟩
def wqo5 : List (Nat × CutSpec) := [(1003, ⟨[(0, .obj 1 [.any, .any, .any, .any, .own 21 84 (.pr (.int .i64) (.pr (.int .i64) (.pr (.int .i64) (.pr .str .bool))))]), (1, .any), (6, .obj 16 [.nps 16 0, .own 36 5 (.int .u8)]), (7, .any)], [(1, .obj 1 [.any, .any, .any, .any, .own 21 84 (.pr (.int .i64) (.pr (.int .i64) (.pr (.int .i64) (.pr .str .bool))))])]⟩)]
def wqmi : List (Nat × Plan) := []
def wqr (k : Nat) : Ctx := ⟨tyT, wqo5, wqjn k, [], [1], wqmi, @SH⟩
def wq1v : Code := Tryd.f81.body.getD .skip
def wq48 (s0 s1 : Int) (s2 : (List UInt8)) (s3 : Int) (s4 : (List (Int × (Int × (Int × ((List UInt8) × Bool)))))) (s5 : (List UInt8)) (s6 : (List Int)) (s7 : Int) : St := ⟨mkT [(0, .ptr 1 0), (1, .v .str s5), (6, .ptr 16 0), (7, .v (.int .i64) s7)], mkH [(21, .row 84 (.pr (.int .i64) (.pr (.int .i64) (.pr (.int .i64) (.pr .str .bool)))) s4), (1, .var 97 [.v (.int .i64) s0, .v (.int .i64) s1, .v .str s2, .v (.int .i64) s3, .row 21]), (36, .row 5 (.int .u8) s6), (16, .var 42 [.nps 16 0, .row 36])]⟩
def wq5x (k : Nat) {R : Type} (E1003 : (Int → Int → (List UInt8) → Int → (List (Int × (Int × (Int × ((List UInt8) × Bool))))) → (List UInt8) → (List Int) → Int → Option R)) (s0 s1 : Int) (s2 : (List UInt8)) (s3 : Int) (s4 : (List (Int × (Int × (Int × ((List UInt8) × Bool)))))) (s5 : (List UInt8)) (s6 : (List Int)) (s7 : Int) (K : wq4m R) (E : wq4n R) : Option R := (@cond (@Option R) (@Decidable.decide (@LT.lt Int Int.instLTInt s7 (@Nat.cast Int instNatCastInt (@List.length UInt8 s5))) (@Int.decLt s7 (@Nat.cast Int instNatCastInt (@List.length UInt8 s5)))) (@cond (@Option R) (@inb s7 (@Nat.cast Int instNatCastInt (@List.length UInt8 s5))) (@cond (@Option R) (@bne Int (@instBEqOfDecidableEq Int @Int.instDecidableEq) (@Nat.cast Int instNatCastInt (@UInt8.toNat (@List.getD UInt8 s5 (@Int.toNat s7) (0 : UInt8)))) (39 : Int)) (@cond (@Option R) (@inb s7 (@Nat.cast Int instNatCastInt (@List.length UInt8 s5))) (@wq1b k R s6 (@Nat.cast Int instNatCastInt (@UInt8.toNat (@List.getD UInt8 s5 (@Int.toNat s7) (0 : UInt8)))) (fun y13 => (E1003 s0 s1 s2 s3 s4 s5 y13 (@Go.IntKind.wrap Go.IntKind.i64 (@HAdd.hAdd Int Int Int (@instHAdd Int @Int.instAdd) s7 (1 : Int)))))) (@Option.none R)) (@cond (@Option R) (@Bool.or (@Bool.not (@BEq.beq (@Kd.T Kd.bool) (@instBEqOfDecidableEq (@Kd.T Kd.bool) @instDecidableEqBool) (@Decidable.decide (@GE.ge Int Int.instLEInt (@Go.IntKind.wrap Go.IntKind.i64 (@HAdd.hAdd Int Int Int (@instHAdd Int @Int.instAdd) s7 (1 : Int))) (@Nat.cast Int instNatCastInt (@List.length UInt8 s5))) (@Int.decLe (@Nat.cast Int instNatCastInt (@List.length UInt8 s5)) (@Go.IntKind.wrap Go.IntKind.i64 (@HAdd.hAdd Int Int Int (@instHAdd Int @Int.instAdd) s7 (1 : Int))))) Bool.false)) (@inb (@Go.IntKind.wrap Go.IntKind.i64 (@HAdd.hAdd Int Int Int (@instHAdd Int @Int.instAdd) s7 (1 : Int))) (@Nat.cast Int instNatCastInt (@List.length UInt8 s5)))) (@cond (@Option R) (@cond (@Kd.T Kd.bool) (@Decidable.decide (@GE.ge Int Int.instLEInt (@Go.IntKind.wrap Go.IntKind.i64 (@HAdd.hAdd Int Int Int (@instHAdd Int @Int.instAdd) s7 (1 : Int))) (@Nat.cast Int instNatCastInt (@List.length UInt8 s5))) (@Int.decLe (@Nat.cast Int instNatCastInt (@List.length UInt8 s5)) (@Go.IntKind.wrap Go.IntKind.i64 (@HAdd.hAdd Int Int Int (@instHAdd Int @Int.instAdd) s7 (1 : Int))))) Bool.true (@bne Int (@instBEqOfDecidableEq Int @Int.instDecidableEq) (@Nat.cast Int instNatCastInt (@UInt8.toNat (@List.getD UInt8 s5 (@Int.toNat (@Go.IntKind.wrap Go.IntKind.i64 (@HAdd.hAdd Int Int Int (@instHAdd Int @Int.instAdd) s7 (1 : Int)))) (0 : UInt8)))) (39 : Int))) (@wq3d k R s6 (fun y13 y14 => (K s0 s1 s2 s3 s4 y14 (@Go.IntKind.wrap Go.IntKind.i64 (@HAdd.hAdd Int Int Int (@instHAdd Int @Int.instAdd) s7 (1 : Int)))))) (@wq1b k R s6 (39 : Int) (fun y13 => (E1003 s0 s1 s2 s3 s4 s5 y13 (@Go.IntKind.wrap Go.IntKind.i64 (@HAdd.hAdd Int Int Int (@instHAdd Int @Int.instAdd) (@Go.IntKind.wrap Go.IntKind.i64 (@HAdd.hAdd Int Int Int (@instHAdd Int @Int.instAdd) s7 (1 : Int))) (1 : Int))))))) (@Option.none R))) (@Option.none R)) (@wqi k R s0 s1 s2 s3 s4 (3 : Int) (fun y13 y14 y15 y16 y17 => (K y13 y14 y15 y16 y17 [] (0 : Int))) (fun y13 y14 y15 y16 y17 y18 y19 => (E y13 y14 y15 y16 y17 y18 y19))))
theorem wqig (k : Nat) {R : Type} (I : Nat → St → Option R) (s0 s1 : Int) (s2 : (List UInt8)) (s3 : Int) (s4 : (List (Int × (Int × (Int × ((List UInt8) × Bool)))))) (s5 : (List UInt8)) (s6 : (List Int)) (s7 : Int) (K : wq4m R) (E : wq4n R) : execK (wqr k) k (at_ [1, 1, 0, 1, 0, 0] wq1v) (wq48 s0 s1 s2 s3 s4 s5 s6 s7) (konts (wqr k) k I [1, 1, 0, 1, 0, 0] wq1v (outK (wqr k) wq5e [.tmp 4, .tmp 5] (wq3v K E))) = wq5x k (fun s0 s1 s2 s3 s4 s5 s6 s7 => I 1003 (wq48 s0 s1 s2 s3 s4 s5 s6 s7)) s0 s1 s2 s3 s4 s5 s6 s7 K E := by kernel_rfl
def wqb6 (k : Nat) {R : Type} (E1003 : (Int → Int → (List UInt8) → Int → (List (Int × (Int × (Int × ((List UInt8) × Bool))))) → (List UInt8) → (List Int) → Int → Option R)) (x0 x1 : Int) (x2 : (List UInt8)) (x3 : Int) (x4 : (List (Int × (Int × (Int × ((List UInt8) × Bool)))))) (x5 : (List UInt8)) (K : wq4m R) (E : wq4n R) : Option R := (E1003 x0 x1 x2 x3 x4 x5 [] (1 : Int))
theorem wqo6 (k : Nat) {R : Type} (I : Nat → St → Option R) (x0 x1 : Int) (x2 : (List UInt8)) (x3 : Int) (x4 : (List (Int × (Int × (Int × ((List UInt8) × Bool)))))) (x5 : (List UInt8)) (K : wq4m R) (E : wq4n R) : fnK (wqr k) k wq1v 42 [.tmp 4, .tmp 5] wq5e [.ptr 1 0, .v .str x5] [(21, .row 84 (.pr (.int .i64) (.pr (.int .i64) (.pr (.int .i64) (.pr .str .bool)))) x4), (1, .var 97 [.v (.int .i64) x0, .v (.int .i64) x1, .v .str x2, .v (.int .i64) x3, .row 21])] (wq3v K E) = wqb6 k (fun s0 s1 s2 s3 s4 s5 s6 s7 => iter (wqr k).pv (look (wqr k).cuts 1003) (execK (wqr k) k (at_ [1, 1, 0, 1, 0, 0] wq1v)) k (wq48 s0 s1 s2 s3 s4 s5 s6 s7) (konts (wqr k) k I [1, 1, 0, 1, 0] wq1v (outK (wqr k) wq5e [.tmp 4, .tmp 5] (wq3v K E)))) x0 x1 x2 x3 x4 x5 K E := by kernel_rfl
def wq2o (k : Nat) {R : Type}  : Nat → Int → Int → (List UInt8) → Int → (List (Int × (Int × (Int × ((List UInt8) × Bool))))) → (List UInt8) → (List Int) → Int → (Int → Int → (List UInt8) → Int → (List (Int × (Int × (Int × ((List UInt8) × Bool))))) → (List UInt8) → Int → Option R) → (Int → Int → (List UInt8) → Int → (List (Int × (Int × (Int × ((List UInt8) × Bool))))) → Int → Int → Option R) → Option R
  | 0, _, _, _, _, _, _, _, _, _, _ => none
  | n + 1, s0, s1, s2, s3, s4, s5, s6, s7, K, E => wq5x k (fun s0 s1 s2 s3 s4 s5 s6 s7 => wq2o k  n s0 s1 s2 s3 s4 s5 s6 s7 K E) s0 s1 s2 s3 s4 s5 s6 s7 K E
theorem wqih (k : Nat) {R : Type} (I : Nat → St → Option R) (K : wq4m R) (E : wq4n R) : ∀ (n : Nat) (s0 s1 : Int) (s2 : (List UInt8)) (s3 : Int) (s4 : (List (Int × (Int × (Int × ((List UInt8) × Bool)))))) (s5 : (List UInt8)) (s6 : (List Int)) (s7 : Int), iter (wqr k).pv (look (wqr k).cuts 1003) (execK (wqr k) k (at_ [1, 1, 0, 1, 0, 0] wq1v)) n (wq48 s0 s1 s2 s3 s4 s5 s6 s7) (konts (wqr k) k I [1, 1, 0, 1, 0] wq1v (outK (wqr k) wq5e [.tmp 4, .tmp 5] (wq3v K E))) = wq2o k  n s0 s1 s2 s3 s4 s5 s6 s7 K E := by
  intro n
  induction n with
  | zero => intros; rfl
  | succ n ih =>
    intro s0 s1 s2 s3 s4 s5 s6 s7
    let I' : Nat → St → Option R := fun id s => bif Nat.beq id 1003 then iter (wqr k).pv (look (wqr k).cuts 1003) (execK (wqr k) k (at_ [1, 1, 0, 1, 0, 0] wq1v)) n s (konts (wqr k) k I [1, 1, 0, 1, 0] wq1v (outK (wqr k) wq5e [.tmp 4, .tmp 5] (wq3v K E))) else I id s
    have e := wqig k I' s0 s1 s2 s3 s4 s5 s6 s7 K E
    have h1003 : (fun s0 s1 s2 s3 s4 s5 s6 s7 => I' 1003 (wq48 s0 s1 s2 s3 s4 s5 s6 s7)) = (fun s0 s1 s2 s3 s4 s5 s6 s7 => wq2o k  n s0 s1 s2 s3 s4 s5 s6 s7 K E) := by funext s0 s1 s2 s3 s4 s5 s6 s7; exact ih s0 s1 s2 s3 s4 s5 s6 s7
    refine Eq.trans (?_ : _ = _) (e.trans (Eq.trans ((congrArg ((fun E1003 => wq5x k E1003 s0 s1 s2 s3 s4 s5 s6 s7 K E)) h1003)) (by rw [wq2o])))
    rfl
def wq92 (k : Nat) {R : Type} (x0 x1 : Int) (x2 : (List UInt8)) (x3 : Int) (x4 : (List (Int × (Int × (Int × ((List UInt8) × Bool)))))) (x5 : (List UInt8)) (K : wq4m R) (E : wq4n R) : Option R := wqb6 k (fun s0 s1 s2 s3 s4 s5 s6 s7 => wq2o k k s0 s1 s2 s3 s4 s5 s6 s7 K E) x0 x1 x2 x3 x4 x5 K E
theorem wqo7 (k : Nat) {R : Type} (x0 x1 : Int) (x2 : (List UInt8)) (x3 : Int) (x4 : (List (Int × (Int × (Int × ((List UInt8) × Bool)))))) (x5 : (List UInt8)) (K : wq4m R) (E : wq4n R) : fnK (wqr k) k wq1v 42 [.tmp 4, .tmp 5] wq5e [.ptr 1 0, .v .str x5] [(21, .row 84 (.pr (.int .i64) (.pr (.int .i64) (.pr (.int .i64) (.pr .str .bool)))) x4), (1, .var 97 [.v (.int .i64) x0, .v (.int .i64) x1, .v .str x2, .v (.int .i64) x3, .row 21])] (wq3v K E) = wq92 k x0 x1 x2 x3 x4 x5 K E := by
  let I : Nat → St → Option R := fun _ _ => none
  have h1003 : (fun s0 s1 s2 s3 s4 s5 s6 s7 => iter (wqr k).pv (look (wqr k).cuts 1003) (execK (wqr k) k (at_ [1, 1, 0, 1, 0, 0] wq1v)) k (wq48 s0 s1 s2 s3 s4 s5 s6 s7) (konts (wqr k) k I [1, 1, 0, 1, 0] wq1v (outK (wqr k) wq5e [.tmp 4, .tmp 5] (wq3v K E)))) = (fun s0 s1 s2 s3 s4 s5 s6 s7 => wq2o k k s0 s1 s2 s3 s4 s5 s6 s7 K E) := by funext s0 s1 s2 s3 s4 s5 s6 s7; exact wqih k I K E k s0 s1 s2 s3 s4 s5 s6 s7
  exact (wqo6 k I x0 x1 x2 x3 x4 x5 K E).trans (congrArg ((fun E1003 => wqb6 k E1003 x0 x1 x2 x3 x4 x5 K E)) h1003)
def wqca (k : Nat) {R : Type} : List PV → List (Nm × HObj) → (Out → Option R) → Option R
  | [.ptr 1 0, .v .str x5], [(21, .row 84 (.pr (.int .i64) (.pr (.int .i64) (.pr (.int .i64) (.pr .str .bool)))) x4), (1, .var 97 [.v (.int .i64) x0, .v (.int .i64) x1, .v .str x2, .v (.int .i64) x3, .row 21])], K => wq92 k x0 x1 x2 x3 x4 x5 (fun y0 y1 y2 y3 y4 y5 y6 => K (.ret [.v .str y5, .v (.int .i64) y6] [(21, .row 84 (.pr (.int .i64) (.pr (.int .i64) (.pr (.int .i64) (.pr .str .bool)))) y4), (1, .var 97 [.v (.int .i64) y0, .v (.int .i64) y1, .v .str y2, .v (.int .i64) y3, .row 21])])) (fun z0 z1 z2 z3 z4 z5 z6 => K (.pan (.ifc 78 (.agg [.v (.int .i64) z5, .v (.int .i64) z6])) [(21, .row 84 (.pr (.int .i64) (.pr (.int .i64) (.pr (.int .i64) (.pr .str .bool)))) z4), (1, .var 97 [.v (.int .i64) z0, .v (.int .i64) z1, .v .str z2, .v (.int .i64) z3, .row 21])]))
  | _, _, _ => none
theorem wqo8 (k : Nat) : (wqjn k).Ok Tryd.prog := (CTab.add_ok (fun h => wq9m k h) (CTab.add_ok (fun h => wq86 k h) (CTab.add_ok (fun h => wqa0 k h) CTab.nil_ok)))
theorem wqtt (k : Nat) {ps : List PV} {hp : List (Nm × HObj)} {R : Type} {K : Out → Option R} {r : R} (h : wqca k ps hp K = some r) : DoesTo Tryd.prog 81 ps hp fun out => K out = some r := by
  unfold wqca at h
  split at h
  · rw [← wqo7] at h
    have := fn_ok (P := Tryd.prog) (cx := wqr k) (f := 81) ⟨tyT_ok, wqo8 k, fun _ _ => rfl⟩ (by kernel_rfl) (fn := Tryd.f81) (c := wq1v) (by kernel_rfl) (by kernel_rfl) (by kernel_rfl) (rs := [.tmp 4, .tmp 5]) (by kernel_rfl) (by kernel_rfl) h
    exact this.mono fun out ho => by
      unfold wq3v at ho
      split at ho <;> first | exact ho | cases ho
  · cases h
def wqtu : List LS := [.obj 1 [.any, .any, .any, .any, .own 21 84 (.pr (.int .i64) (.pr (.int .i64) (.pr (.int .i64) (.pr .str .bool))))], .any]
def wqmj (k : Nat) : CTab := (CTab.add 70 wq8h (wq5b k) (CTab.add 72 wqxt (wqk7 k) (CTab.add 73 wqhu (wqag k) (CTab.add 74 wq139 (wqnq k) (CTab.add 81 wqq9 (wqca k) (CTab.add 82 wqq8 (wqc9 k) (CTab.add 83 wqfm (wq90 k) CTab.nil)))))))
def wqd1 {R : Type} (K : (Int → Int → (List UInt8) → Int → (List (Int × (Int × (Int × ((List UInt8) × Bool))))) → Option R)) (E : (Int → Int → (List UInt8) → Int → (List (Int × (Int × (Int × ((List UInt8) × Bool))))) → Int → Int → Option R)) : Out → Option R
  | .ret [] [(21, .row 84 (.pr (.int .i64) (.pr (.int .i64) (.pr (.int .i64) (.pr .str .bool)))) y4), (1, .var 97 [.v (.int .i64) y0, .v (.int .i64) y1, .v .str y2, .v (.int .i64) y3, .row 21])] => K y0 y1 y2 y3 y4
  | .pan (.ifc 78 (.agg [.v (.int .i64) z5, .v (.int .i64) z6])) [(21, .row 84 (.pr (.int .i64) (.pr (.int .i64) (.pr (.int .i64) (.pr .str .bool)))) z4), (1, .var 97 [.v (.int .i64) z0, .v (.int .i64) z1, .v .str z2, .v (.int .i64) z3, .row 21])] => E z0 z1 z2 z3 z4 z5 z6
  | _ => none
def wqle : RetSpec := ⟨[], [(1, .obj 1 [.any, .any, .any, .any, .own 21 84 (.pr (.int .i64) (.pr (.int .i64) (.pr (.int .i64) (.pr .str .bool))))])], [(1, .obj 1 [.any, .any, .any, .any, .own 21 84 (.pr (.int .i64) (.pr (.int .i64) (.pr (.int .i64) (.pr .str .bool))))])]⟩
def wqs0 : List (Nat × CutSpec) := []
def wqqa : List (Nat × Plan) := []
def wqfc (k : Nat) : Ctx := ⟨tyT, wqs0, wqmj k, [], [1], wqqa, @SH⟩
def wqd2 : Code := Tryd.f75.body.getD .skip
def wqgj (k : Nat) {R : Type}  (x0 x1 : Int) (x2 : (List UInt8)) (x3 : Int) (x4 : (List (Int × (Int × (Int × ((List UInt8) × Bool)))))) (x5 : (List UInt8)) (K : (Int → Int → (List UInt8) → Int → (List (Int × (Int × (Int × ((List UInt8) × Bool))))) → Option R)) (E : (Int → Int → (List UInt8) → Int → (List (Int × (Int × (Int × ((List UInt8) × Bool))))) → Int → Int → Option R)) : Option R := (@cond (@Option R) (@inb (0 : Int) (@Nat.cast Int instNatCastInt (@List.length UInt8 x5))) (@cond (@Option R) (@BEq.beq Int (@instBEqOfDecidableEq Int @Int.instDecidableEq) (@Nat.cast Int instNatCastInt (@UInt8.toNat (@List.getD UInt8 x5 (@Int.toNat (0 : Int)) (0 : UInt8)))) (39 : Int)) (@wq92 k R x0 x1 x2 x3 x4 x5 (fun y10 y11 y12 y13 y14 y15 y16 => (@cond (@Option R) (@bne Int (@instBEqOfDecidableEq Int @Int.instDecidableEq) y16 (@Nat.cast Int instNatCastInt (@List.length UInt8 x5))) (@wqi k R y10 y11 y12 y13 y14 (3 : Int) (fun y17 y18 y19 y20 y21 => (@cond (@Option R) (@Decidable.decide (@GT.gt Int Int.instLTInt (@Nat.cast Int instNatCastInt (@List.length UInt8 y15)) (200 : Int)) (@Int.decLt (200 : Int) (@Nat.cast Int instNatCastInt (@List.length UInt8 y15)))) (@wqi k R y17 y18 y19 y20 y21 (4 : Int) (fun y22 y23 y24 y25 y26 => (@wqn k R y22 y23 y24 y25 y26 (3 : Int) y15 Bool.true y16 (fun y27 y28 y29 y30 y31 => (K y27 y28 y29 y30 y31)))) (fun y22 y23 y24 y25 y26 y27 y28 => (E y22 y23 y24 y25 y26 y27 y28))) (@wqn k R y17 y18 y19 y20 y21 (3 : Int) y15 Bool.true y16 (fun y22 y23 y24 y25 y26 => (K y22 y23 y24 y25 y26))))) (fun y17 y18 y19 y20 y21 y22 y23 => (E y17 y18 y19 y20 y21 y22 y23))) (@cond (@Option R) (@Decidable.decide (@GT.gt Int Int.instLTInt (@Nat.cast Int instNatCastInt (@List.length UInt8 y15)) (200 : Int)) (@Int.decLt (200 : Int) (@Nat.cast Int instNatCastInt (@List.length UInt8 y15)))) (@wqi k R y10 y11 y12 y13 y14 (4 : Int) (fun y17 y18 y19 y20 y21 => (@wqn k R y17 y18 y19 y20 y21 (3 : Int) y15 Bool.true y16 (fun y22 y23 y24 y25 y26 => (K y22 y23 y24 y25 y26)))) (fun y17 y18 y19 y20 y21 y22 y23 => (E y17 y18 y19 y20 y21 y22 y23))) (@wqn k R y10 y11 y12 y13 y14 (3 : Int) y15 Bool.true y16 (fun y17 y18 y19 y20 y21 => (K y17 y18 y19 y20 y21)))))) (fun y10 y11 y12 y13 y14 y15 y16 => (E y10 y11 y12 y13 y14 y15 y16))) (@cond (@Option R) (@BEq.beq Int (@instBEqOfDecidableEq Int @Int.instDecidableEq) (@Nat.cast Int instNatCastInt (@UInt8.toNat (@List.getD UInt8 x5 (@Int.toNat (0 : Int)) (0 : UInt8)))) (34 : Int)) (@wq91 k R x0 x1 x2 x3 x4 x5 (fun y10 y11 y12 y13 y14 y15 y16 => (@cond (@Option R) (@bne Int (@instBEqOfDecidableEq Int @Int.instDecidableEq) y16 (@Nat.cast Int instNatCastInt (@List.length UInt8 x5))) (@wqi k R y10 y11 y12 y13 y14 (3 : Int) (fun y17 y18 y19 y20 y21 => (@cond (@Option R) (@Decidable.decide (@GT.gt Int Int.instLTInt (@Nat.cast Int instNatCastInt (@List.length UInt8 y15)) (200 : Int)) (@Int.decLt (200 : Int) (@Nat.cast Int instNatCastInt (@List.length UInt8 y15)))) (@wqi k R y17 y18 y19 y20 y21 (4 : Int) (fun y22 y23 y24 y25 y26 => (@wqn k R y22 y23 y24 y25 y26 (3 : Int) y15 Bool.true y16 (fun y27 y28 y29 y30 y31 => (K y27 y28 y29 y30 y31)))) (fun y22 y23 y24 y25 y26 y27 y28 => (E y22 y23 y24 y25 y26 y27 y28))) (@wqn k R y17 y18 y19 y20 y21 (3 : Int) y15 Bool.true y16 (fun y22 y23 y24 y25 y26 => (K y22 y23 y24 y25 y26))))) (fun y17 y18 y19 y20 y21 y22 y23 => (E y17 y18 y19 y20 y21 y22 y23))) (@cond (@Option R) (@Decidable.decide (@GT.gt Int Int.instLTInt (@Nat.cast Int instNatCastInt (@List.length UInt8 y15)) (200 : Int)) (@Int.decLt (200 : Int) (@Nat.cast Int instNatCastInt (@List.length UInt8 y15)))) (@wqi k R y10 y11 y12 y13 y14 (4 : Int) (fun y17 y18 y19 y20 y21 => (@wqn k R y17 y18 y19 y20 y21 (3 : Int) y15 Bool.true y16 (fun y22 y23 y24 y25 y26 => (K y22 y23 y24 y25 y26)))) (fun y17 y18 y19 y20 y21 y22 y23 => (E y17 y18 y19 y20 y21 y22 y23))) (@wqn k R y10 y11 y12 y13 y14 (3 : Int) y15 Bool.true y16 (fun y17 y18 y19 y20 y21 => (K y17 y18 y19 y20 y21)))))) (fun y10 y11 y12 y13 y14 y15 y16 => (E y10 y11 y12 y13 y14 y15 y16))) (@cond (@Option R) (@inb (0 : Int) (@Nat.cast Int instNatCastInt (@List.length UInt8 x5))) (@wq2m k R ((91 : UInt8) :: ((93 : UInt8) :: ((123 : UInt8) :: ((125 : UInt8) :: ((38 : UInt8) :: ((42 : UInt8) :: ((33 : UInt8) :: ((124 : UInt8) :: ((62 : UInt8) :: ((37 : UInt8) :: ((64 : UInt8) :: ((44 : UInt8) :: ((63 : UInt8) :: ((96 : UInt8) :: [])))))))))))))) (@Nat.cast Int instNatCastInt (@UInt8.toNat (@List.getD UInt8 x5 (@Int.toNat (0 : Int)) (0 : UInt8)))) (fun y10 => (@cond (@Option R) (@BEq.beq (@Kd.T Kd.bool) (@instBEqOfDecidableEq (@Kd.T Kd.bool) @instDecidableEqBool) (@Decidable.decide (@GE.ge Int Int.instLEInt y10 (0 : Int)) (@Int.decLe (0 : Int) y10)) Bool.false) (@wqje k R x5 (fun y11 => (@cond (@Option R) (@BEq.beq (@Kd.T Kd.bool) (@instBEqOfDecidableEq (@Kd.T Kd.bool) @instDecidableEqBool) y11 Bool.false) (@wqkd k R x5 (fun y12 => (@cond (@Option R) (@Bool.not (@BEq.beq (@List UInt8) (@List.instBEq UInt8 (@instBEqOfDecidableEq UInt8 @instDecidableEqUInt8)) y12 [])) (@wqi k R x0 x1 x2 x3 x4 (4 : Int) (fun y13 y14 y15 y16 y17 => (@cond (@Option R) (@bne Int (@instBEqOfDecidableEq Int @Int.instDecidableEq) (@Nat.cast Int instNatCastInt (@List.length UInt8 x5)) (@Nat.cast Int instNatCastInt (@List.length UInt8 x5))) (@wqi k R y13 y14 y15 y16 y17 (3 : Int) (fun y18 y19 y20 y21 y22 => (@cond (@Option R) (@Decidable.decide (@GT.gt Int Int.instLTInt (@Nat.cast Int instNatCastInt (@List.length UInt8 x5)) (200 : Int)) (@Int.decLt (200 : Int) (@Nat.cast Int instNatCastInt (@List.length UInt8 x5)))) (@wqi k R y18 y19 y20 y21 y22 (4 : Int) (fun y23 y24 y25 y26 y27 => (@wqn k R y23 y24 y25 y26 y27 (3 : Int) x5 Bool.false (@Nat.cast Int instNatCastInt (@List.length UInt8 x5)) (fun y28 y29 y30 y31 y32 => (K y28 y29 y30 y31 y32)))) (fun y23 y24 y25 y26 y27 y28 y29 => (E y23 y24 y25 y26 y27 y28 y29))) (@wqn k R y18 y19 y20 y21 y22 (3 : Int) x5 Bool.false (@Nat.cast Int instNatCastInt (@List.length UInt8 x5)) (fun y23 y24 y25 y26 y27 => (K y23 y24 y25 y26 y27))))) (fun y18 y19 y20 y21 y22 y23 y24 => (E y18 y19 y20 y21 y22 y23 y24))) (@cond (@Option R) (@Decidable.decide (@GT.gt Int Int.instLTInt (@Nat.cast Int instNatCastInt (@List.length UInt8 x5)) (200 : Int)) (@Int.decLt (200 : Int) (@Nat.cast Int instNatCastInt (@List.length UInt8 x5)))) (@wqi k R y13 y14 y15 y16 y17 (4 : Int) (fun y18 y19 y20 y21 y22 => (@wqn k R y18 y19 y20 y21 y22 (3 : Int) x5 Bool.false (@Nat.cast Int instNatCastInt (@List.length UInt8 x5)) (fun y23 y24 y25 y26 y27 => (K y23 y24 y25 y26 y27)))) (fun y18 y19 y20 y21 y22 y23 y24 => (E y18 y19 y20 y21 y22 y23 y24))) (@wqn k R y13 y14 y15 y16 y17 (3 : Int) x5 Bool.false (@Nat.cast Int instNatCastInt (@List.length UInt8 x5)) (fun y18 y19 y20 y21 y22 => (K y18 y19 y20 y21 y22)))))) (fun y13 y14 y15 y16 y17 y18 y19 => (E y13 y14 y15 y16 y17 y18 y19))) (@cond (@Option R) (@bne Int (@instBEqOfDecidableEq Int @Int.instDecidableEq) (@Nat.cast Int instNatCastInt (@List.length UInt8 x5)) (@Nat.cast Int instNatCastInt (@List.length UInt8 x5))) (@wqi k R x0 x1 x2 x3 x4 (3 : Int) (fun y13 y14 y15 y16 y17 => (@cond (@Option R) (@Decidable.decide (@GT.gt Int Int.instLTInt (@Nat.cast Int instNatCastInt (@List.length UInt8 x5)) (200 : Int)) (@Int.decLt (200 : Int) (@Nat.cast Int instNatCastInt (@List.length UInt8 x5)))) (@wqi k R y13 y14 y15 y16 y17 (4 : Int) (fun y18 y19 y20 y21 y22 => (@wqn k R y18 y19 y20 y21 y22 (3 : Int) x5 Bool.false (@Nat.cast Int instNatCastInt (@List.length UInt8 x5)) (fun y23 y24 y25 y26 y27 => (K y23 y24 y25 y26 y27)))) (fun y18 y19 y20 y21 y22 y23 y24 => (E y18 y19 y20 y21 y22 y23 y24))) (@wqn k R y13 y14 y15 y16 y17 (3 : Int) x5 Bool.false (@Nat.cast Int instNatCastInt (@List.length UInt8 x5)) (fun y18 y19 y20 y21 y22 => (K y18 y19 y20 y21 y22))))) (fun y13 y14 y15 y16 y17 y18 y19 => (E y13 y14 y15 y16 y17 y18 y19))) (@cond (@Option R) (@Decidable.decide (@GT.gt Int Int.instLTInt (@Nat.cast Int instNatCastInt (@List.length UInt8 x5)) (200 : Int)) (@Int.decLt (200 : Int) (@Nat.cast Int instNatCastInt (@List.length UInt8 x5)))) (@wqi k R x0 x1 x2 x3 x4 (4 : Int) (fun y13 y14 y15 y16 y17 => (@wqn k R y13 y14 y15 y16 y17 (3 : Int) x5 Bool.false (@Nat.cast Int instNatCastInt (@List.length UInt8 x5)) (fun y18 y19 y20 y21 y22 => (K y18 y19 y20 y21 y22)))) (fun y13 y14 y15 y16 y17 y18 y19 => (E y13 y14 y15 y16 y17 y18 y19))) (@wqn k R x0 x1 x2 x3 x4 (3 : Int) x5 Bool.false (@Nat.cast Int instNatCastInt (@List.length UInt8 x5)) (fun y13 y14 y15 y16 y17 => (K y13 y14 y15 y16 y17)))))))) (@wqi k R x0 x1 x2 x3 x4 (4 : Int) (fun y12 y13 y14 y15 y16 => (@cond (@Option R) (@bne Int (@instBEqOfDecidableEq Int @Int.instDecidableEq) (@Nat.cast Int instNatCastInt (@List.length UInt8 x5)) (@Nat.cast Int instNatCastInt (@List.length UInt8 x5))) (@wqi k R y12 y13 y14 y15 y16 (3 : Int) (fun y17 y18 y19 y20 y21 => (@cond (@Option R) (@Decidable.decide (@GT.gt Int Int.instLTInt (@Nat.cast Int instNatCastInt (@List.length UInt8 x5)) (200 : Int)) (@Int.decLt (200 : Int) (@Nat.cast Int instNatCastInt (@List.length UInt8 x5)))) (@wqi k R y17 y18 y19 y20 y21 (4 : Int) (fun y22 y23 y24 y25 y26 => (@wqn k R y22 y23 y24 y25 y26 (3 : Int) x5 Bool.false (@Nat.cast Int instNatCastInt (@List.length UInt8 x5)) (fun y27 y28 y29 y30 y31 => (K y27 y28 y29 y30 y31)))) (fun y22 y23 y24 y25 y26 y27 y28 => (E y22 y23 y24 y25 y26 y27 y28))) (@wqn k R y17 y18 y19 y20 y21 (3 : Int) x5 Bool.false (@Nat.cast Int instNatCastInt (@List.length UInt8 x5)) (fun y22 y23 y24 y25 y26 => (K y22 y23 y24 y25 y26))))) (fun y17 y18 y19 y20 y21 y22 y23 => (E y17 y18 y19 y20 y21 y22 y23))) (@cond (@Option R) (@Decidable.decide (@GT.gt Int Int.instLTInt (@Nat.cast Int instNatCastInt (@List.length UInt8 x5)) (200 : Int)) (@Int.decLt (200 : Int) (@Nat.cast Int instNatCastInt (@List.length UInt8 x5)))) (@wqi k R y12 y13 y14 y15 y16 (4 : Int) (fun y17 y18 y19 y20 y21 => (@wqn k R y17 y18 y19 y20 y21 (3 : Int) x5 Bool.false (@Nat.cast Int instNatCastInt (@List.length UInt8 x5)) (fun y22 y23 y24 y25 y26 => (K y22 y23 y24 y25 y26)))) (fun y17 y18 y19 y20 y21 y22 y23 => (E y17 y18 y19 y20 y21 y22 y23))) (@wqn k R y12 y13 y14 y15 y16 (3 : Int) x5 Bool.false (@Nat.cast Int instNatCastInt (@List.length UInt8 x5)) (fun y17 y18 y19 y20 y21 => (K y17 y18 y19 y20 y21)))))) (fun y12 y13 y14 y15 y16 y17 y18 => (E y12 y13 y14 y15 y16 y17 y18)))))) (@wqi k R x0 x1 x2 x3 x4 (4 : Int) (fun y11 y12 y13 y14 y15 => (@cond (@Option R) (@bne Int (@instBEqOfDecidableEq Int @Int.instDecidableEq) (@Nat.cast Int instNatCastInt (@List.length UInt8 x5)) (@Nat.cast Int instNatCastInt (@List.length UInt8 x5))) (@wqi k R y11 y12 y13 y14 y15 (3 : Int) (fun y16 y17 y18 y19 y20 => (@cond (@Option R) (@Decidable.decide (@GT.gt Int Int.instLTInt (@Nat.cast Int instNatCastInt (@List.length UInt8 x5)) (200 : Int)) (@Int.decLt (200 : Int) (@Nat.cast Int instNatCastInt (@List.length UInt8 x5)))) (@wqi k R y16 y17 y18 y19 y20 (4 : Int) (fun y21 y22 y23 y24 y25 => (@wqn k R y21 y22 y23 y24 y25 (3 : Int) x5 Bool.false (@Nat.cast Int instNatCastInt (@List.length UInt8 x5)) (fun y26 y27 y28 y29 y30 => (K y26 y27 y28 y29 y30)))) (fun y21 y22 y23 y24 y25 y26 y27 => (E y21 y22 y23 y24 y25 y26 y27))) (@wqn k R y16 y17 y18 y19 y20 (3 : Int) x5 Bool.false (@Nat.cast Int instNatCastInt (@List.length UInt8 x5)) (fun y21 y22 y23 y24 y25 => (K y21 y22 y23 y24 y25))))) (fun y16 y17 y18 y19 y20 y21 y22 => (E y16 y17 y18 y19 y20 y21 y22))) (@cond (@Option R) (@Decidable.decide (@GT.gt Int Int.instLTInt (@Nat.cast Int instNatCastInt (@List.length UInt8 x5)) (200 : Int)) (@Int.decLt (200 : Int) (@Nat.cast Int instNatCastInt (@List.length UInt8 x5)))) (@wqi k R y11 y12 y13 y14 y15 (4 : Int) (fun y16 y17 y18 y19 y20 => (@wqn k R y16 y17 y18 y19 y20 (3 : Int) x5 Bool.false (@Nat.cast Int instNatCastInt (@List.length UInt8 x5)) (fun y21 y22 y23 y24 y25 => (K y21 y22 y23 y24 y25)))) (fun y16 y17 y18 y19 y20 y21 y22 => (E y16 y17 y18 y19 y20 y21 y22))) (@wqn k R y11 y12 y13 y14 y15 (3 : Int) x5 Bool.false (@Nat.cast Int instNatCastInt (@List.length UInt8 x5)) (fun y16 y17 y18 y19 y20 => (K y16 y17 y18 y19 y20)))))) (fun y11 y12 y13 y14 y15 y16 y17 => (E y11 y12 y13 y14 y15 y16 y17)))))) (@Option.none R)))) (@Option.none R))
theorem wqs1 (k : Nat) {R : Type} (I : Nat → St → Option R) (x0 x1 : Int) (x2 : (List UInt8)) (x3 : Int) (x4 : (List (Int × (Int × (Int × ((List UInt8) × Bool)))))) (x5 : (List UInt8)) (K : (Int → Int → (List UInt8) → Int → (List (Int × (Int × (Int × ((List UInt8) × Bool))))) → Option R)) (E : (Int → Int → (List UInt8) → Int → (List (Int × (Int × (Int × ((List UInt8) × Bool))))) → Int → Int → Option R)) : fnK (wqfc k) k wqd2 59 [] wqle [.ptr 1 0, .v .str x5] [(21, .row 84 (.pr (.int .i64) (.pr (.int .i64) (.pr (.int .i64) (.pr .str .bool)))) x4), (1, .var 97 [.v (.int .i64) x0, .v (.int .i64) x1, .v .str x2, .v (.int .i64) x3, .row 21])] (wqd1 K E) = wqgj k  x0 x1 x2 x3 x4 x5 K E := by kernel_rfl
def wq6e (k : Nat) {R : Type} (x0 x1 : Int) (x2 : (List UInt8)) (x3 : Int) (x4 : (List (Int × (Int × (Int × ((List UInt8) × Bool)))))) (x5 : (List UInt8)) (K : (Int → Int → (List UInt8) → Int → (List (Int × (Int × (Int × ((List UInt8) × Bool))))) → Option R)) (E : (Int → Int → (List UInt8) → Int → (List (Int × (Int × (Int × ((List UInt8) × Bool))))) → Int → Int → Option R)) : Option R := wqgj k  x0 x1 x2 x3 x4 x5 K E
theorem wqs2 (k : Nat) {R : Type} (x0 x1 : Int) (x2 : (List UInt8)) (x3 : Int) (x4 : (List (Int × (Int × (Int × ((List UInt8) × Bool)))))) (x5 : (List UInt8)) (K : (Int → Int → (List UInt8) → Int → (List (Int × (Int × (Int × ((List UInt8) × Bool))))) → Option R)) (E : (Int → Int → (List UInt8) → Int → (List (Int × (Int × (Int × ((List UInt8) × Bool))))) → Int → Int → Option R)) : fnK (wqfc k) k wqd2 59 [] wqle [.ptr 1 0, .v .str x5] [(21, .row 84 (.pr (.int .i64) (.pr (.int .i64) (.pr (.int .i64) (.pr .str .bool)))) x4), (1, .var 97 [.v (.int .i64) x0, .v (.int .i64) x1, .v .str x2, .v (.int .i64) x3, .row 21])] (wqd1 K E) = wq6e k x0 x1 x2 x3 x4 x5 K E := by
  exact wqs1 k (fun _ _ => none) x0 x1 x2 x3 x4 x5 K E
def wqdy (k : Nat) {R : Type} : List PV → List (Nm × HObj) → (Out → Option R) → Option R
  | [.ptr 1 0, .v .str x5], [(21, .row 84 (.pr (.int .i64) (.pr (.int .i64) (.pr (.int .i64) (.pr .str .bool)))) x4), (1, .var 97 [.v (.int .i64) x0, .v (.int .i64) x1, .v .str x2, .v (.int .i64) x3, .row 21])], K => wq6e k x0 x1 x2 x3 x4 x5 (fun y0 y1 y2 y3 y4 => K (.ret [] [(21, .row 84 (.pr (.int .i64) (.pr (.int .i64) (.pr (.int .i64) (.pr .str .bool)))) y4), (1, .var 97 [.v (.int .i64) y0, .v (.int .i64) y1, .v .str y2, .v (.int .i64) y3, .row 21])])) (fun z0 z1 z2 z3 z4 z5 z6 => K (.pan (.ifc 78 (.agg [.v (.int .i64) z5, .v (.int .i64) z6])) [(21, .row 84 (.pr (.int .i64) (.pr (.int .i64) (.pr (.int .i64) (.pr .str .bool)))) z4), (1, .var 97 [.v (.int .i64) z0, .v (.int .i64) z1, .v .str z2, .v (.int .i64) z3, .row 21])]))
  | _, _, _ => none
theorem wqs3 (k : Nat) : (wqmj k).Ok Tryd.prog := (CTab.add_ok (fun h => wqa0 k h) (CTab.add_ok (fun h => wq175 k h) (CTab.add_ok (fun h => wqlc k h) (CTab.add_ok (fun h => wq1b8 k h) (CTab.add_ok (fun h => wqtt k h) (CTab.add_ok (fun h => wqts k h) (CTab.add_ok (fun h => wqhx k h) CTab.nil_ok)))))))
theorem wqy6 (k : Nat) {ps : List PV} {hp : List (Nm × HObj)} {R : Type} {K : Out → Option R} {r : R} (h : wqdy k ps hp K = some r) : DoesTo Tryd.prog 75 ps hp fun out => K out = some r := by
  unfold wqdy at h
  split at h
  · rw [← wqs2] at h
    have := fn_ok (P := Tryd.prog) (cx := wqfc k) (f := 75) ⟨tyT_ok, wqs3 k, fun _ _ => rfl⟩ (by kernel_rfl) (fn := Tryd.f75) (c := wqd2) (by kernel_rfl) (by kernel_rfl) (by kernel_rfl) (rs := []) (by kernel_rfl) (by kernel_rfl) h
    exact this.mono fun out ho => by
      unfold wqd1 at ho
      split at ho <;> first | exact ho | cases ho
  · cases h
abbrev wq6f (R : Type) : Type := (Int → Int → (List UInt8) → Int → (List (Int × (Int × (Int × ((List UInt8) × Bool))))) → Option R)
abbrev wq6g (R : Type) : Type := (Int → Int → (List UInt8) → Int → (List (Int × (Int × (Int × ((List UInt8) × Bool))))) → Int → Int → Option R)
def wqvn : List LS := [.obj 1 [.any, .any, .any, .any, .own 21 84 (.pr (.int .i64) (.pr (.int .i64) (.pr (.int .i64) (.pr .str .bool))))]]
def wqp0 (k : Nat) : CTab := (CTab.add 70 wq8h (wq5b k) (CTab.add 71 wqtr (wqdw k) (CTab.add 72 wqxt (wqk7 k) (CTab.add 73 wqhu (wqag k) (CTab.add 74 wq139 (wqnq k) (CTab.add 75 wqtu (wqdy k) CTab.nil))))))
def wq4y {R : Type} (K : wq6f R) (E : wq6g R) : Out → Option R
  | .ret [] [(21, .row 84 (.pr (.int .i64) (.pr (.int .i64) (.pr (.int .i64) (.pr .str .bool)))) y4), (1, .var 97 [.v (.int .i64) y0, .v (.int .i64) y1, .v .str y2, .v (.int .i64) y3, .row 21])] => K y0 y1 y2 y3 y4
  | .pan (.ifc 78 (.agg [.v (.int .i64) z5, .v (.int .i64) z6])) [(21, .row 84 (.pr (.int .i64) (.pr (.int .i64) (.pr (.int .i64) (.pr .str .bool)))) z4), (1, .var 97 [.v (.int .i64) z0, .v (.int .i64) z1, .v .str z2, .v (.int .i64) z3, .row 21])] => E z0 z1 z2 z3 z4 z5 z6
  | _ => none
def wq7y : RetSpec := ⟨[], [(1, .obj 1 [.any, .any, .any, .any, .own 21 84 (.pr (.int .i64) (.pr (.int .i64) (.pr (.int .i64) (.pr .str .bool))))])], [(1, .obj 1 [.any, .any, .any, .any, .own 21 84 (.pr (.int .i64) (.pr (.int .i64) (.pr (.int .i64) (.pr .str .bool))))])]⟩
def wqtv : List (Nat × CutSpec) := [(1003, ⟨[(0, .obj 1 [.any, .any, .any, .any, .own 21 84 (.pr (.int .i64) (.pr (.int .i64) (.pr (.int .i64) (.pr .str .bool))))]), (2, .any)], [(1, .obj 1 [.any, .any, .any, .any, .own 21 84 (.pr (.int .i64) (.pr (.int .i64) (.pr (.int .i64) (.pr .str .bool))))])]⟩)]
def wqs4 : List (Nat × Plan) := []
def wq10 (k : Nat) : Ctx := ⟨tyT, wqtv, wqp0 k, [], [1], wqs4, @SH⟩
def wq2j : Code := Tryd.f56.body.getD .skip
def wq5m (s0 s1 : Int) (s2 : (List UInt8)) (s3 : Int) (s4 : (List (Int × (Int × (Int × ((List UInt8) × Bool)))))) (s5 : (List UInt8)) : St := ⟨mkT [(0, .ptr 1 0), (2, .v .str s5)], mkH [(21, .row 84 (.pr (.int .i64) (.pr (.int .i64) (.pr (.int .i64) (.pr .str .bool)))) s4), (1, .var 97 [.v (.int .i64) s0, .v (.int .i64) s1, .v .str s2, .v (.int .i64) s3, .row 21])]⟩
def wq9n (k : Nat) {R : Type} (E1003 : (Int → Int → (List UInt8) → Int → (List (Int × (Int × (Int × ((List UInt8) × Bool))))) → (List UInt8) → Option R)) (s0 s1 : Int) (s2 : (List UInt8)) (s3 : Int) (s4 : (List (Int × (Int × (Int × ((List UInt8) × Bool)))))) (s5 : (List UInt8)) (K : wq6f R) (E : wq6g R) : Option R := (@wqje k R s5 (fun y11 => (@cond (@Option R) y11 (@wqn k R s0 s1 s2 s3 s4 (1 : Int) [] Bool.false (1 : Int) (fun y12 y13 y14 y15 y16 => (@wq5c k R y12 y13 y14 y15 y16 (fun y17 y18 y19 y20 y21 y22 => (E1003 y17 y18 y19 y20 y21 y22))))) (@wqkd k R s5 (fun y12 => (@cond (@Option R) (@Bool.not (@BEq.beq (@List UInt8) (@List.instBEq UInt8 (@instBEqOfDecidableEq UInt8 @instDecidableEqUInt8)) y12 [])) (@cond (@Option R) (@Decidable.decide (@GT.gt Int Int.instLTInt (@Nat.cast Int instNatCastInt (@List.length UInt8 y12)) (64 : Int)) (@Int.decLt (64 : Int) (@Nat.cast Int instNatCastInt (@List.length UInt8 y12)))) (@wqi k R s0 s1 s2 s3 s4 (5 : Int) (fun y13 y14 y15 y16 y17 => (@wqn k R y13 y14 y15 y16 y17 (2 : Int) y12 Bool.false (@Go.IntKind.wrap Go.IntKind.i64 (@HAdd.hAdd Int Int Int (@instHAdd Int @Int.instAdd) (@Nat.cast Int instNatCastInt (@List.length UInt8 y12)) (1 : Int))) (fun y18 y19 y20 y21 y22 => (@wq5c k R y18 y19 y20 y21 y22 (fun y23 y24 y25 y26 y27 y28 => (@cond (@Option R) (@Bool.not (@BEq.beq (@List UInt8) (@List.instBEq UInt8 (@instBEqOfDecidableEq UInt8 @instDecidableEqUInt8)) y28 [])) (@wq6e k R y23 y24 y25 y26 y27 y28 (fun y29 y30 y31 y32 y33 => (K y29 y30 y31 y32 y33)) (fun y29 y30 y31 y32 y33 y34 y35 => (E y29 y30 y31 y32 y33 y34 y35))) (K y23 y24 y25 y26 y27))))))) (fun y13 y14 y15 y16 y17 y18 y19 => (E y13 y14 y15 y16 y17 y18 y19))) (@wqn k R s0 s1 s2 s3 s4 (2 : Int) y12 Bool.false (@Go.IntKind.wrap Go.IntKind.i64 (@HAdd.hAdd Int Int Int (@instHAdd Int @Int.instAdd) (@Nat.cast Int instNatCastInt (@List.length UInt8 y12)) (1 : Int))) (fun y13 y14 y15 y16 y17 => (@wq5c k R y13 y14 y15 y16 y17 (fun y18 y19 y20 y21 y22 y23 => (@cond (@Option R) (@Bool.not (@BEq.beq (@List UInt8) (@List.instBEq UInt8 (@instBEqOfDecidableEq UInt8 @instDecidableEqUInt8)) y23 [])) (@wq6e k R y18 y19 y20 y21 y22 y23 (fun y24 y25 y26 y27 y28 => (K y24 y25 y26 y27 y28)) (fun y24 y25 y26 y27 y28 y29 y30 => (E y24 y25 y26 y27 y28 y29 y30))) (K y18 y19 y20 y21 y22))))))) (@cond (@Option R) (@Bool.not (@BEq.beq (@List UInt8) (@List.instBEq UInt8 (@instBEqOfDecidableEq UInt8 @instDecidableEqUInt8)) s5 [])) (@wq6e k R s0 s1 s2 s3 s4 s5 (fun y13 y14 y15 y16 y17 => (K y13 y14 y15 y16 y17)) (fun y13 y14 y15 y16 y17 y18 y19 => (E y13 y14 y15 y16 y17 y18 y19))) (K s0 s1 s2 s3 s4))))))))
theorem wqll (k : Nat) {R : Type} (I : Nat → St → Option R) (s0 s1 : Int) (s2 : (List UInt8)) (s3 : Int) (s4 : (List (Int × (Int × (Int × ((List UInt8) × Bool)))))) (s5 : (List UInt8)) (K : wq6f R) (E : wq6g R) : execK (wq10 k) k (at_ [1, 1, 0, 0, 0] wq2j) (wq5m s0 s1 s2 s3 s4 s5) (konts (wq10 k) k I [1, 1, 0, 0, 0] wq2j (outK (wq10 k) wq7y [] (wq4y K E))) = wq9n k (fun s0 s1 s2 s3 s4 s5 => I 1003 (wq5m s0 s1 s2 s3 s4 s5)) s0 s1 s2 s3 s4 s5 K E := by kernel_rfl
def wqem (k : Nat) {R : Type} (E1003 : (Int → Int → (List UInt8) → Int → (List (Int × (Int × (Int × ((List UInt8) × Bool))))) → (List UInt8) → Option R)) (x0 x1 : Int) (x2 : (List UInt8)) (x3 : Int) (x4 : (List (Int × (Int × (Int × ((List UInt8) × Bool)))))) (K : wq6f R) (E : wq6g R) : Option R := (@cond (@Option R) (@cond (@Kd.T Kd.bool) (@Decidable.decide (@LT.lt Int Int.instLTInt x1 (0 : Int)) (@Int.decLt x1 (0 : Int))) Bool.true (@Decidable.decide (@GT.gt Int Int.instLTInt x1 (16384 : Int)) (@Int.decLt (16384 : Int) x1))) (@wqi k R x0 x1 x2 x3 x4 (6 : Int) (fun y10 y11 y12 y13 y14 => (@wq5c k R y10 y11 y12 y13 y14 (fun y15 y16 y17 y18 y19 y20 => (E1003 y15 y16 y17 y18 y19 y20)))) (fun y10 y11 y12 y13 y14 y15 y16 => (E y10 y11 y12 y13 y14 y15 y16))) (@wq5c k R x0 x1 x2 x3 x4 (fun y10 y11 y12 y13 y14 y15 => (E1003 y10 y11 y12 y13 y14 y15))))
theorem wqtw (k : Nat) {R : Type} (I : Nat → St → Option R) (x0 x1 : Int) (x2 : (List UInt8)) (x3 : Int) (x4 : (List (Int × (Int × (Int × ((List UInt8) × Bool)))))) (K : wq6f R) (E : wq6g R) : fnK (wq10 k) k wq2j 50 [] wq7y [.ptr 1 0] [(21, .row 84 (.pr (.int .i64) (.pr (.int .i64) (.pr (.int .i64) (.pr .str .bool)))) x4), (1, .var 97 [.v (.int .i64) x0, .v (.int .i64) x1, .v .str x2, .v (.int .i64) x3, .row 21])] (wq4y K E) = wqem k (fun s0 s1 s2 s3 s4 s5 => iter (wq10 k).pv (look (wq10 k).cuts 1003) (execK (wq10 k) k (at_ [1, 1, 0, 0, 0] wq2j)) k (wq5m s0 s1 s2 s3 s4 s5) (konts (wq10 k) k I [1, 1, 0, 0] wq2j (outK (wq10 k) wq7y [] (wq4y K E)))) x0 x1 x2 x3 x4 K E := by kernel_rfl
def wq3e (k : Nat) {R : Type}  : Nat → Int → Int → (List UInt8) → Int → (List (Int × (Int × (Int × ((List UInt8) × Bool))))) → (List UInt8) → (Int → Int → (List UInt8) → Int → (List (Int × (Int × (Int × ((List UInt8) × Bool))))) → Option R) → (Int → Int → (List UInt8) → Int → (List (Int × (Int × (Int × ((List UInt8) × Bool))))) → Int → Int → Option R) → Option R
  | 0, _, _, _, _, _, _, _, _ => none
  | n + 1, s0, s1, s2, s3, s4, s5, K, E => wq9n k (fun s0 s1 s2 s3 s4 s5 => wq3e k  n s0 s1 s2 s3 s4 s5 K E) s0 s1 s2 s3 s4 s5 K E
theorem wqlm (k : Nat) {R : Type} (I : Nat → St → Option R) (K : wq6f R) (E : wq6g R) : ∀ (n : Nat) (s0 s1 : Int) (s2 : (List UInt8)) (s3 : Int) (s4 : (List (Int × (Int × (Int × ((List UInt8) × Bool)))))) (s5 : (List UInt8)), iter (wq10 k).pv (look (wq10 k).cuts 1003) (execK (wq10 k) k (at_ [1, 1, 0, 0, 0] wq2j)) n (wq5m s0 s1 s2 s3 s4 s5) (konts (wq10 k) k I [1, 1, 0, 0] wq2j (outK (wq10 k) wq7y [] (wq4y K E))) = wq3e k  n s0 s1 s2 s3 s4 s5 K E := by
  intro n
  induction n with
  | zero => intros; rfl
  | succ n ih =>
    intro s0 s1 s2 s3 s4 s5
    let I' : Nat → St → Option R := fun id s => bif Nat.beq id 1003 then iter (wq10 k).pv (look (wq10 k).cuts 1003) (execK (wq10 k) k (at_ [1, 1, 0, 0, 0] wq2j)) n s (konts (wq10 k) k I [1, 1, 0, 0] wq2j (outK (wq10 k) wq7y [] (wq4y K E))) else I id s
    have e := wqll k I' s0 s1 s2 s3 s4 s5 K E
    have h1003 : (fun s0 s1 s2 s3 s4 s5 => I' 1003 (wq5m s0 s1 s2 s3 s4 s5)) = (fun s0 s1 s2 s3 s4 s5 => wq3e k  n s0 s1 s2 s3 s4 s5 K E) := by funext s0 s1 s2 s3 s4 s5; exact ih s0 s1 s2 s3 s4 s5
    refine Eq.trans (?_ : _ = _) (e.trans (Eq.trans ((congrArg ((fun E1003 => wq9n k E1003 s0 s1 s2 s3 s4 s5 K E)) h1003)) (by rw [wq3e])))
    rfl
def wqen (k : Nat) {R : Type} (x0 x1 : Int) (x2 : (List UInt8)) (x3 : Int) (x4 : (List (Int × (Int × (Int × ((List UInt8) × Bool)))))) (K : wq6f R) (E : wq6g R) : Option R := wqem k (fun s0 s1 s2 s3 s4 s5 => wq3e k k s0 s1 s2 s3 s4 s5 K E) x0 x1 x2 x3 x4 K E
theorem wqtx (k : Nat) {R : Type} (x0 x1 : Int) (x2 : (List UInt8)) (x3 : Int) (x4 : (List (Int × (Int × (Int × ((List UInt8) × Bool)))))) (K : wq6f R) (E : wq6g R) : fnK (wq10 k) k wq2j 50 [] wq7y [.ptr 1 0] [(21, .row 84 (.pr (.int .i64) (.pr (.int .i64) (.pr (.int .i64) (.pr .str .bool)))) x4), (1, .var 97 [.v (.int .i64) x0, .v (.int .i64) x1, .v .str x2, .v (.int .i64) x3, .row 21])] (wq4y K E) = wqen k x0 x1 x2 x3 x4 K E := by
  let I : Nat → St → Option R := fun _ _ => none
  have h1003 : (fun s0 s1 s2 s3 s4 s5 => iter (wq10 k).pv (look (wq10 k).cuts 1003) (execK (wq10 k) k (at_ [1, 1, 0, 0, 0] wq2j)) k (wq5m s0 s1 s2 s3 s4 s5) (konts (wq10 k) k I [1, 1, 0, 0] wq2j (outK (wq10 k) wq7y [] (wq4y K E)))) = (fun s0 s1 s2 s3 s4 s5 => wq3e k k s0 s1 s2 s3 s4 s5 K E) := by funext s0 s1 s2 s3 s4 s5; exact wqlm k I K E k s0 s1 s2 s3 s4 s5
  exact (wqtw k I x0 x1 x2 x3 x4 K E).trans (congrArg ((fun E1003 => wqem k E1003 x0 x1 x2 x3 x4 K E)) h1003)
def wqfd (k : Nat) {R : Type} : List PV → List (Nm × HObj) → (Out → Option R) → Option R
  | [.ptr 1 0], [(21, .row 84 (.pr (.int .i64) (.pr (.int .i64) (.pr (.int .i64) (.pr .str .bool)))) x4), (1, .var 97 [.v (.int .i64) x0, .v (.int .i64) x1, .v .str x2, .v (.int .i64) x3, .row 21])], K => wqen k x0 x1 x2 x3 x4 (fun y0 y1 y2 y3 y4 => K (.ret [] [(21, .row 84 (.pr (.int .i64) (.pr (.int .i64) (.pr (.int .i64) (.pr .str .bool)))) y4), (1, .var 97 [.v (.int .i64) y0, .v (.int .i64) y1, .v .str y2, .v (.int .i64) y3, .row 21])])) (fun z0 z1 z2 z3 z4 z5 z6 => K (.pan (.ifc 78 (.agg [.v (.int .i64) z5, .v (.int .i64) z6])) [(21, .row 84 (.pr (.int .i64) (.pr (.int .i64) (.pr (.int .i64) (.pr .str .bool)))) z4), (1, .var 97 [.v (.int .i64) z0, .v (.int .i64) z1, .v .str z2, .v (.int .i64) z3, .row 21])]))
  | _, _, _ => none
theorem wqty (k : Nat) : (wqp0 k).Ok Tryd.prog := (CTab.add_ok (fun h => wqa0 k h) (CTab.add_ok (fun h => wqy5 k h) (CTab.add_ok (fun h => wq175 k h) (CTab.add_ok (fun h => wqlc k h) (CTab.add_ok (fun h => wq1b8 k h) (CTab.add_ok (fun h => wqy6 k h) CTab.nil_ok))))))
theorem wq10y (k : Nat) {ps : List PV} {hp : List (Nm × HObj)} {R : Type} {K : Out → Option R} {r : R} (h : wqfd k ps hp K = some r) : DoesTo Tryd.prog 56 ps hp fun out => K out = some r := by
  unfold wqfd at h
  split at h
  · rw [← wqtx] at h
    have := fn_ok (P := Tryd.prog) (cx := wq10 k) (f := 56) ⟨tyT_ok, wqty k, fun _ _ => rfl⟩ (by kernel_rfl) (fn := Tryd.f56) (c := wq2j) (by kernel_rfl) (by kernel_rfl) (by kernel_rfl) (rs := []) (by kernel_rfl) (by kernel_rfl) h
    exact this.mono fun out ho => by
      unfold wq4y at ho
      split at ho <;> first | exact ho | cases ho
  · cases h
def wq1bz : List LS := [.ag [.any, .any, .any]]
def wq1b9 (k : Nat) : CTab := (CTab.add 56 wqvn (wqfd k) CTab.nil)
def wqqb {R : Type} (K : ((List (Int × (Int × (Int × ((List UInt8) × Bool))))) → Int → Int → Option R)) : Out → Option R
  | .ret [.v (.sl (.pr (.int .i64) (.pr (.int .i64) (.pr (.int .i64) (.pr .str .bool))))) y0, .agg [.v (.int .i64) y1, .v (.int .i64) y2]] [] => K y0 y1 y2
  | _ => none
def wq17c : RetSpec := ⟨[.sl (.pr (.int .i64) (.pr (.int .i64) (.pr (.int .i64) (.pr .str .bool)))), .ag [.any, .any]], [], []⟩
def wq19o : List (Nat × CutSpec) := []
def wq17d : List (Nat × Plan) := []
def wqy7 (k : Nat) : Ctx := ⟨tyT, wq19o, wq1b9 k, [2, 3], [], wq17d, @SH⟩
def wq9o : Code := Tryd.f44.body.getD .skip
def wqkg (k : Nat) {R : Type} : PV → List PV → List (Nm × HObj) → (Out → Option R) → Option R
  | .nilif, [.ptr 1 0, .ptr 2 0], [(1, .var 76 [.v (.sl (.pr (.int .i64) (.pr (.int .i64) (.pr (.int .i64) (.pr .str .bool))))) x0]), (2, .var 78 [.v (.int .i64) x1, .v (.int .i64) x2])], K => wqep k x0 x1 x2 (fun y0 y1 y2 => K (.ret [] [(1, .var 76 [.v (.sl (.pr (.int .i64) (.pr (.int .i64) (.pr (.int .i64) (.pr .str .bool))))) y0]), (2, .var 78 [.v (.int .i64) y1, .v (.int .i64) y2])]))
  | .ifc 78 (.agg [.v (.int .i64) x3, .v (.int .i64) x4]), [.ptr 1 0, .ptr 2 0], [(1, .var 76 [.v (.sl (.pr (.int .i64) (.pr (.int .i64) (.pr (.int .i64) (.pr .str .bool))))) x0]), (2, .var 78 [.v (.int .i64) x1, .v (.int .i64) x2])], K => wqeq k x0 x1 x2 x3 x4 (fun y0 y1 y2 => K (.ret [] [(1, .var 76 [.v (.sl (.pr (.int .i64) (.pr (.int .i64) (.pr (.int .i64) (.pr .str .bool))))) y0]), (2, .var 78 [.v (.int .i64) y1, .v (.int .i64) y2])]))
  | _, _, _, _ => none
def wq14m (k : Nat) {R : Type}  (x0 x1 : Int) (x2 : (List UInt8)) (K : ((List (Int × (Int × (Int × ((List UInt8) × Bool))))) → Int → Int → Option R)) : Option R := (@wqen k R x0 x1 x2 (0 : (@Kd.T kI)) [] (fun y6 y7 y8 y9 y10 => (@wqep k R y10 (0 : (@Kd.T kI)) (0 : (@Kd.T kI)) (fun y11 y12 y13 => (K y11 y12 y13)))) (fun y6 y7 y8 y9 y10 y11 y12 => (@wqeq k R [] (0 : (@Kd.T kI)) (0 : (@Kd.T kI)) y11 y12 (fun y13 y14 y15 => (K y13 y14 y15)))))
theorem wq19p (k : Nat) {R : Type} (I : Nat → St → Option R) (x0 x1 : Int) (x2 : (List UInt8)) (K : ((List (Int × (Int × (Int × ((List UInt8) × Bool))))) → Int → Int → Option R)) : fnDK (wqy7 k) k [300, 400] (at_ [0] wq9o) (opsAt (at_ [1, 0] wq9o)) (at_ [1, 1] wq9o) 16 [.cell 2 76, .cell 3 78] wq17c (wqkg k) wquo [(300, 0), (400, 0)] [.agg [.v (.int .i64) x0, .v (.int .i64) x1, .v .str x2]] [] (wqqb K) = wq14m k  x0 x1 x2 K := by kernel_rfl
def wqs5 (k : Nat) {R : Type} (x0 x1 : Int) (x2 : (List UInt8)) (K : ((List (Int × (Int × (Int × ((List UInt8) × Bool))))) → Int → Int → Option R)) : Option R := wq14m k  x0 x1 x2 K
theorem wq19q (k : Nat) {R : Type} (x0 x1 : Int) (x2 : (List UInt8)) (K : ((List (Int × (Int × (Int × ((List UInt8) × Bool))))) → Int → Int → Option R)) : fnDK (wqy7 k) k [300, 400] (at_ [0] wq9o) (opsAt (at_ [1, 0] wq9o)) (at_ [1, 1] wq9o) 16 [.cell 2 76, .cell 3 78] wq17c (wqkg k) wquo [(300, 0), (400, 0)] [.agg [.v (.int .i64) x0, .v (.int .i64) x1, .v .str x2]] [] (wqqb K) = wqs5 k x0 x1 x2 K := by
  exact wq19p k (fun _ _ => none) x0 x1 x2 K
def wqtz (k : Nat) {R : Type} : List PV → List (Nm × HObj) → (Out → Option R) → Option R
  | [.agg [.v (.int .i64) x0, .v (.int .i64) x1, .v .str x2]], [], K => wqs5 k x0 x1 x2 (fun y0 y1 y2 => K (.ret [.v (.sl (.pr (.int .i64) (.pr (.int .i64) (.pr (.int .i64) (.pr .str .bool))))) y0, .agg [.v (.int .i64) y1, .v (.int .i64) y2]] []))
  | _, _, _ => none
theorem wq19r (k : Nat) : (wq1b9 k).Ok Tryd.prog := (CTab.add_ok (fun h => wq10y k h) CTab.nil_ok)
theorem wq10z (k : Nat) {R : Type} (rec : PV) (ps : List PV) (hp : List (Nm × HObj)) (K : Out → Option R) (r : R) (h : wqkg k rec ps hp K = some r) : DoesToD Tryd.prog 55 rec ps hp fun out => K out = some r := by
  unfold wqkg at h
  split at h
  · exact wq14d k h
  · exact wq14e k h
  · cases h
theorem wq1er (k : Nat) {ps : List PV} {hp : List (Nm × HObj)} {R : Type} {K : Out → Option R} {r : R} (h : wqtz k ps hp K = some r) : DoesTo Tryd.prog 44 ps hp fun out => K out = some r := by
  unfold wqtz at h
  split at h
  · rw [← wq19q] at h
    have := wq1gm (P := Tryd.prog) (cx := wqy7 k) (f := 44) ⟨tyT_ok, wq19r k, fun _ _ => rfl⟩ (by kernel_rfl) (fn := Tryd.f44) (id := 1) (pre := at_ [0] wq9o) (rest := at_ [1, 1] wq9o) (ops := opsAt (at_ [1, 0] wq9o)) (by kernel_rfl) (by kernel_rfl) (by kernel_rfl) (rs := [.cell 2 76, .cell 3 78]) (by kernel_rfl) (by kernel_rfl) (by kernel_rfl) (g := 55) (s := 5) (xs := [.tmp 2, .tmp 3]) (by kernel_rfl) (Invokes.of (fn := Tryd.f55) (by kernel_rfl) (c := Tryd.f55.body.getD .skip) (by kernel_rfl) (by kernel_rfl)) (wq10z k) h
    exact this.mono fun out ho => by
      unfold wqqb at ho
      split at ho <;> first | exact ho | cases ho
  · cases h
end Go.Proofs.YtdfhgimidmfgfaaDoor.Pvm
end
