/- For every text the Go function FieldRatio of turncocklaw14 returns true. -/
import Derived.LoopN
import Derived.Scope
import Derived.Recover
import Derived.WalkKit
import Derived.ProofKit
import Derived.OpenShut
import Derived.ShutString
import Derived.ChangeOld
import Derived.Below
import Derived.SizedLaws
import Derived.ChangeArms
import Derived.Test.YtmdmpogommehpaaDoorProg
import Derived.KernelRfl
import Derived.Lib.BytesEntry
import Derived.Test.YtmdmpogommehpaaDoorChecked
import Derived.WalkSpells
import Derived.WalkLawsBesides
import Derived.Lib.Builder
import Derived.Lib.AppendStr
import Derived.Lib.UnsafeStr
import Derived.Laws.Externs
import Derived.Shelf.RegionOpenPlain
import Derived.Deep.Heap
import Derived.Lib.TrimU
import Derived.Test.YtmdmpogommehpaaDoorFieldRatioM0
import Derived.Test.YtmdmpogommehpaaDoorFieldRatioM1
set_option linter.unusedVariables false
set_option linter.unusedSimpArgs false
set_option linter.unusedSectionVars false
noncomputable section
namespace Go.Proofs.YtmdmpogommehpaaDoor.Pvm
open Go
structure RetSpec where
  res : List LS
  objs : List (Nm × LS)
  pan : List (Nm × LS)
def resP (ty : TypeId → Option TI) (st : St) : List ResultVar → Option (List PV)
  | [] => some []
  | .tmp t :: r => match resP ty st r with
    | some l => some (useO [] (st.t t) :: l)
    | none => none
  | .cell a t :: r => match ty t with
    | some ti => match evLoad ti st.h (useO [] (st.t a)) with
      | some ev => match resP ty st r with
        | some l => some (ev.val :: l)
        | none => none
      | none => none
    | none => none
def endK (cx : Ctx) {R : Type} (objs : List (Nm × LS)) (res : List LS) (ps : List PV) (st : St) (K : List PV → List (Nm × HObj) → Option R) : Option R :=
  match normObjs st.h ⟨[], [], []⟩ objs with
  | none => none
  | some na1 => match normPs st.h na1 res ps with
    | none => none
    | some (qs, na) => bif fine na && stay na.nm cx.pv then K qs na.hp else none
def retK (cx : Ctx) {R : Type} (sp : RetSpec) (rs : List ResultVar) (st : St) (K : Out → Option R) : Option R :=
  match resP cx.ty st rs with
  | none => none
  | some ps => endK cx sp.objs sp.res ps st fun qs hs => K (.ret qs hs)
def panK (cx : Ctx) {R : Type} (sp : RetSpec) (p : PV) (st : St) (K : Out → Option R) : Option R :=
  endK cx sp.pan [.any] [p] st fun qs hs => match qs with
    | [q] => K (.pan q hs)
    | _ => none
def varsIn (pv : List Nm) : List (Nm × HObj) → Bool
  | [] => true
  | (n, .var _ _) :: r => isIn n pv && varsIn pv r
  | (_, .mp _ _ _) :: _ => false
  | _ :: r => varsIn pv r
def argsT (args : List PV) : Nat → PV := fun i => args.getD i .un
def outK (cx : Ctx) {R : Type} (sp : RetSpec) (rs : List ResultVar) (K : Out → Option R) : Ex → St → Option R := fun e st => match e with
  | .normal => retK cx sp rs st K
  | .ret => retK cx sp rs st K
  | .panic p => panK cx sp p st K
  | .exit _ => none
def fnK (cx : Ctx) (k : Nat) {R : Type} (c : Code) (n : Nat) (rs : List ResultVar) (sp : RetSpec) (args : List PV) (hp : List (Nm × HObj)) (K : Out → Option R) : Option R :=
  bif varsIn cx.pv hp && Nat.ble args.length n then execK cx k c ⟨argsT args, mkH hp⟩ (outK cx sp rs K) else none
section
variable {P : Program} {w0 : World} {fr : Nat → Prop} {X0 : Org} {n : Nat} {ds : List Deferred} {st : St} {G : Gh} {a : Act} {w : World}
def resF (tmps : Array Value) : ResultVar → Sem Value
  | .tmp t => pure (tmps.getD t undef)
  | .cell x t => do loadVar t (← asAddr (tmps.getD x undef))
theorem wqwm (fn : Func) (tmps : Array Value) : results fn tmps = (fn.results.mapM (resF tmps) >>= fun vs => pure (if h : vs.size = 1 then vs[0] else .tuple vs)) := by
  unfold results
  have : (fun r : ResultVar => match r with
    | .tmp t => (pure (tmps.getD t undef) : Sem Value)
    | .cell a t => do loadVar t (← asAddr (tmps.getD a undef))) = resF tmps := by
    funext r; cases r <;> rfl
  rw [← this]
  rfl
theorem wqps {cx : Ctx} (X : cx.Ok P) (R : Rel w0 fr X0 n ds st G a w) : ∀ (rs : List ResultVar) {ps : List PV}, resP cx.ty st rs = some ps →
    ∃ vs : List Value, RVs st.h G w ps vs ∧ (rs.mapM (resF a.tmps)).run P w = .ok vs w
  | [], ps, he => by cases he; exact ⟨[], rfl, rfl⟩
  | .tmp t :: r, ps, he => by
    rw [resP] at he
    split at he
    · next l hl =>
      cases he
      obtain ⟨vs, h1, h2⟩ := wqps X R r hl
      refine ⟨tmOf a t :: vs, ⟨_, _, rfl, R.use noTags (.tmp t), h1⟩, ?_⟩
      rw [List.mapM_cons]
      simp only [Sem.run_bind, resF, Sem.run_pure, Result.andThen_ok]
      rw [h2]
      rfl
    · cases he
  | .cell x t :: r, ps, he => by
    rw [resP] at he
    split at he
    · next ti hti =>
      split at he
      · next ev hev =>
        split at he
        · next l hl =>
          cases he
          obtain ⟨vs, h1, h2⟩ := wqps X R r hl
          obtain ⟨u, e1, e2, _⟩ := wqnh (P := P) X.ty hti R.obj hev (R.use noTags (.tmp x))
          refine ⟨u :: vs, ⟨_, _, rfl, e2, h1⟩, ?_⟩
          have hld : (resF a.tmps (.cell x t)).run P w = .ok u w := by
            have e3 : (Instr.loadAt t (a.tmps.getD x undef)).run P w = .ok u w := e1
            unfold Instr.loadAt Instr.sureAddr at e3
            show (do loadVar t (← asAddr (a.tmps.getD x undef))).run P w = _
            split at e3
            · next A hA =>
              rw [hA]
              exact e3
            · simp [stuck, Sem.run] at e3
          rw [List.mapM_cons, Sem.run_bind, hld, Result.andThen_ok, Sem.run_bind, h2]
          rfl
        · cases he
      · cases he
    · cases he
theorem wqhm {fn : Func} {rs : List ResultVar} (hrs : fn.results.toList = rs) {tmps : Array Value} {vs : List Value} (h : (rs.mapM (resF tmps)).run P w = .ok vs w) :
    (results fn tmps).run P w = .ok (if h : vs.toArray.size = 1 then vs.toArray[0] else .tuple vs.toArray) w := by
  rw [wqwm, Sem.run_bind, Array.mapM_eq_mapM_toList, Sem.run_map, hrs, h]
  rfl
theorem tup_ok {ps : List PV} {vs : List Value} {h : Heap} (hr : RVs h G w ps vs) : RV h G w (tupOf ps) (if h : vs.toArray.size = 1 then vs.toArray[0] else .tuple vs.toArray) := by
  cases ps with
  | nil => cases hr; exact ⟨[], rfl, rfl⟩
  | cons p r =>
    obtain ⟨v, l, rfl, hv, hl⟩ := hr
    cases r with
    | nil => cases hl; exact hv
    | cons q r =>
      obtain ⟨u, l', rfl, hu, hl'⟩ := hl
      have : ¬ ((v :: u :: l').toArray.size = 1) := by simp
      rw [dif_neg this]
      exact ⟨_, rfl, v, _, rfl, hv, u, _, rfl, hu, hl'⟩
def frOf (hp : List (Nm × HObj)) (G : Gh) (w : World) (b : Nat) : Prop := b < w.heap.size ∧ freeB (mkH hp) G b
def varsL (G : Gh) : List (Nm × HObj) → List (Nm × TypeId × Nat)
  | [] => []
  | (n, .var t _) :: r => (n, t, G.bk n) :: varsL G r
  | _ :: r => varsL G r
def orgOf (hp : List (Nm × HObj)) (G : Gh) : Org := ⟨G.X, (varsL G hp).filter fun x => match look hp x.1 with | some (.var t _) => Nat.beq t x.2.1 | _ => false⟩
theorem wqg3 : ∀ {hp : List (Nm × HObj)} {x}, x ∈ varsL G hp → x.2.2 = G.bk x.1
  | [], x, h => by cases h
  | (n, .var t cs) :: r, x, h => by
    rw [varsL] at h
    rcases List.mem_cons.1 h with rfl | h
    · rfl
    · exact wqg3 h
  | (n, .row e K xs) :: r, x, h => wqg3 (hp := r) (by simpa [varsL] using h)
  | (n, .mp ag V es) :: r, x, h => wqg3 (hp := r) (by simpa [varsL] using h)
theorem wqk0 : ∀ {hp : List (Nm × HObj)} {n : Nm} {t : TypeId} {cs : List PV}, (n, .var t cs) ∈ hp → (n, t, G.bk n) ∈ varsL G hp
  | (m, .var t' cs') :: r, n, t, cs, h => by
    rw [varsL]
    rcases List.mem_cons.1 h with e | h
    · cases e; exact List.mem_cons_self
    · exact List.mem_cons_of_mem _ (wqk0 h)
  | (m, .row e K xs) :: r, n, t, cs, h => by
    rcases List.mem_cons.1 h with e | h
    · cases e
    · show _ ∈ varsL G r
      exact wqk0 h
  | (m, .mp ag V es) :: r, n, t, cs, h => by
    rcases List.mem_cons.1 h with e | h
    · cases e
    · show _ ∈ varsL G r
      exact wqk0 h
  | [], n, t, cs, h => by cases h
theorem wqnw {pv : List Nm} : ∀ {hp : List (Nm × HObj)} {n : Nm} {ag : MK} {V : Kd} {es : List (List UInt8 × V.T)}, varsIn pv hp = true → (n, .mp ag V es) ∈ hp → False
  | [], _, _, _, _, _, h => by cases h
  | (m, .var t cs) :: r, n, ag, V, es, hv, h => by
    simp only [varsIn, Bool.and_eq_true] at hv
    rcases List.mem_cons.1 h with e | h
    · cases e
    · exact wqnw hv.2 h
  | (m, .row e K xs) :: r, n, ag, V, es, hv, h => by
    rcases List.mem_cons.1 h with e | h
    · cases e
    · exact wqnw (hp := r) hv h
  | (m, .mp ag' V' es') :: r, n, ag, V, es, hv, h => by simp [varsIn] at hv
theorem wqhn {pv : List Nm} : ∀ {hp : List (Nm × HObj)}, varsIn pv hp = true → ∀ x ∈ varsL G hp, x.1 ∈ pv
  | [], _, x, hx => by cases hx
  | (n, .var t cs) :: r, h, x, hx => by
    simp only [varsIn, Bool.and_eq_true] at h
    rw [varsL] at hx
    rcases List.mem_cons.1 hx with rfl | hx
    · exact wq2r.1 h.1
    · exact wqhn h.2 x hx
  | (n, .row e K xs) :: r, h, x, hx => wqhn (hp := r) (by simpa [varsIn] using h) x (by simpa [varsL] using hx)
  | (n, .mp ag V es) :: r, h, x, hx => by simp [varsIn] at h
theorem wqzl {h : Heap} : ∀ {args : List PV} {vals : List Value}, RVs h G w args vals → ∀ i, RV h G w (argsT args i) ((vals.toArray ++ Array.replicate (n - vals.toArray.size) undef).getD i undef) := by
  intro args vals hr i
  have hl := hr.length
  unfold argsT
  by_cases hi : i < args.length
  · obtain ⟨v, hv, hp⟩ := hr.get i args[i] (by simp [hi])
    have h1 : args.getD i .un = args[i] := by simp [List.getD, hi]
    rw [h1]
    have h2 : (vals.toArray ++ Array.replicate (n - vals.toArray.size) undef).getD i undef = v := by
      rw [Array.getD_eq_getD_getElem?, Array.getElem?_append_left (by simp; omega)]
      simp [hv]
    rw [h2]; exact hp
  · have h1 : args.getD i .un = .un := by simp [List.getD, Nat.le_of_not_lt hi]
    rw [h1]; trivial
theorem Rel.start {hp : List (Nm × HObj)} {args : List PV} {vals : List Value} (hr : RVs (mkH hp) G w args vals) (obj : ∀ n o, mkH hp n = some o → RO (mkH hp) G w n o) (dis : Dis (mkH hp) G w) (hn : args.length ≤ n) :
    Rel w (frOf hp G w) (orgOf hp G) n [] ⟨argsT args, mkH hp⟩ G { tmps := vals.toArray ++ Array.replicate (n - vals.toArray.size) undef, defers := [] } w := by
  refine ⟨fun i => wqac (wqzl hr i), ?_, obj, dis.inj, fun m b hb hf => hf.2 m hb, fun b hb => ⟨dis.xlt b hb, fun m hm => dis.xo m b hm hb⟩, rfl, fun x hx => ?_, fun _ _ => rfl, Nat.le_refl _, rfl, rfl, rfl, rfl⟩
  · have := hr.length
    simp; omega
  · obtain ⟨h1, h2⟩ := List.mem_filter.1 hx
    refine ⟨?_, (wqg3 h1).symm⟩
    show ∃ cs, look hp x.1 = _
    split at h2
    · next t cs hl => rw [beqN.1 h2] at hl; exact ⟨cs, hl⟩
    · cases h2
theorem wqpt {cx : Ctx} {hp : List (Nm × HObj)} {G0 : Gh} (R : Rel w0 (frOf hp G0 w0) (orgOf hp G0) n ds st G a w) (hv : varsIn cx.pv hp = true) {R0 : Type} {objs : List (Nm × LS)} {res : List LS} {ps : List PV} {K : List PV → List (Nm × HObj) → Option R0} {r : R0} {vs : List Value}
    (hr : RVs st.h G w ps vs) (he : endK cx objs res ps st K = some r) :
    ∃ qs hs G', K qs hs = some r ∧ RVs (mkH hs) G' w qs vs ∧ Fin hp hs G0 w0 G' w := by
  have hf : ∀ b, frOf hp G0 w0 b → b < w0.heap.size := fun b hb => hb.1
  unfold endK at he
  split at he
  · cases he
  · next na1 h1 =>
    split at he
    · cases he
    · next qs na h2 =>
      cases hfi : (fine na && stay na.nm cx.pv) with
      | false => rw [hfi] at he; cases he
      | true =>
        rw [hfi, cond_true] at he
        simp only [Bool.and_eq_true] at hfi
        obtain ⟨hfi, hst⟩ := hfi
        have F0 : Found st.h ⟨[], [], []⟩ := ⟨fun k o hk => (by cases hk), fun m hm => (by cases hm)⟩
        obtain ⟨F1, L1⟩ := wq8d _ _ h1 F0
        obtain ⟨F2, L2⟩ := normPs_found _ _ _ h2 F1
        have S : Sub st.h G w na := ⟨wqjy hfi, F2, R.obj, R.toDis hf⟩
        have hO := Sub.normObjs S _ _ h1 L2 F0
        obtain ⟨hS, hO2⟩ := Sub.norms S _ _ _ h2 (.refl na) F1 hr
        have hobj : ∀ k o, mkH na.hp k = some o → RO (mkH na.hp) (subG G na (subX st.h G na)) w k o := fun k o hk => by
          rcases hO2 (k, o) (wqj hk) with h | h
          · rcases hO _ h with h | h
            · cases h
            · exact h
          · exact h
        let G1 := subG G na (subX st.h G na)
        let G2 : Gh := { G1 with X := G.X }
        have ok : ∀ b, okB (mkH na.hp) G1 b → okB (mkH na.hp) G2 b := fun b hb => ⟨hb.1, fun hx => hb.2 (.inl hx)⟩
        have C : Carry (mkH na.hp) G1 w (mkH na.hp) G2 w .row :=
          ⟨fun b ho _ => ⟨ok b ho, rfl⟩, fun n t cs hn => ⟨⟨cs, hn⟩, rfl⟩, fun n ag V es hn => ⟨⟨es, hn⟩, rfl⟩, fun n e K xs hn => ⟨⟨rfl, e, K, xs, hn⟩, fun m hm => by cases hm; exact ⟨e, xs, hn, Nat.le_refl _⟩⟩⟩
        have hRVs : RVs (mkH na.hp) G2 w qs vs := by
          have := RVs.carry C _ _ hS
          have e : ∀ l : List PV, mapRs .row l = l := by
            intro l
            induction l with
            | nil => rfl
            | cons p r ih => rw [mapRs, ih, PV.mapR_row]
          rwa [e] at this
        have hpv : ∀ x ∈ (orgOf hp G0).vs, x.1 ∈ cx.pv := fun x hx => wqhn hv x (List.mem_filter.1 hx).1
        refine ⟨qs, na.hp, G2, he, hRVs, ⟨fun k o hk => ?_, fun k m b h1 h2 => S.toDis.inj k m b h1 h2, fun m t cs hm o ho => ?_, fun m ag V es hm o ho => (wqnw hv (wqj hm)).elim, fun b hb hfree => R.ext b ⟨hb, hfree⟩, R.xeq, fun k b hb => ?_, R.grow, R.os, R.tape, R.out⟩⟩
        · have := RO.carry C hk (hobj k o hk) (fun b _ => rfl) rfl rfl
          rwa [wqad] at this
        · have hmem : (m, t, G0.bk m) ∈ (orgOf hp G0).vs := List.mem_filter.2 ⟨wqk0 (wqj hm), by simp [hm]⟩
          obtain ⟨⟨cs', h1⟩, h2⟩ := wqwk (X := G.X) R S hst hpv _ hmem
          have h1 : look na.hp m = some (.var t cs') := h1
          rw [ho] at h1
          exact ⟨⟨cs', by simpa using h1⟩, h2⟩
        · obtain ⟨m, _, hm⟩ := S.blk k b hb
          have := R.apart m b hm
          by_cases hlt : b < w0.heap.size
          · refine .inl (Classical.byContradiction fun hno => this ⟨hlt, fun m hm => hno ⟨m, hm⟩⟩)
          · exact .inr (Nat.le_of_not_lt hlt)
theorem fn_ok {cx : Ctx} (X : cx.Ok P) (hm : P.follows .mixedOrders = true) {f : FuncId} {fn : Func} {c : Code} (hfn : P.funcs[f]? = some fn) (hb : fn.body = some c) (hname : (fn.name == "runtime.NumGoroutine") = false) {rs : List ResultVar} (hrs : fn.results.toList = rs) (hco : codeOk fn.ntmps c = true)
    {k : Nat} {R0 : Type} {sp : RetSpec} {args : List PV} {hp : List (Nm × HObj)} {K : Out → Option R0} {r : R0} (he : fnK cx k c fn.ntmps rs sp args hp K = some r) : DoesTo P f args hp fun out => K out = some r := by
  intro G w vals hr obj dis
  unfold fnK at he
  cases hc1 : (varsIn cx.pv hp && Nat.ble args.length fn.ntmps) with
  | false => rw [hc1] at he; cases he
  | true =>
    rw [hc1, cond_true] at he
    simp only [Bool.and_eq_true] at hc1
    have hrun : (callFunc f vals.toArray).run P w = .ok (.enter f vals.toArray) w := by
      have hn2 : ¬ fn.name = "runtime.NumGoroutine" := by simpa using hname
      simp [callFunc, program, Sem.run, hfn, hn2, hb]
    unfold Does
    rw [hrun]
    have R := Rel.start hr obj dis (Nat.le_of_ble_eq_true hc1.2)
    have hf : ∀ b, frOf hp G w b → b < w.heap.size := fun b hb => hb.1
    have hpv : ∀ x ∈ (orgOf hp G).vs, x.1 ∈ cx.pv := fun x hx => wqhn hc1.1 x (List.mem_filter.1 hx).1
    have hret : ∀ {st : St} {G' : Gh} {a : Act} {w' : World}, retK cx sp rs st K = some r → Rel w (frOf hp G w) (orgOf hp G) fn.ntmps [] st G' a w' → ∃ v, (results fn a.tmps).run P w' = .ok v w' ∧ ∃ out, K out = some r ∧ ∃ G'', OutIs G'' w' (.returned v) out ∧ Fin hp out.hs G w G'' w' := by
      intro st G' a w' he R
      unfold retK at he
      split at he
      · cases he
      · next ps hps =>
        obtain ⟨vs, h1, h2⟩ := wqps X R rs hps
        obtain ⟨qs, hs, G'', h3, h4, h5⟩ := wqpt R hc1.1 h1 he
        exact ⟨_, wqhm hrs h2, .ret qs hs, h3, G'', ⟨_, rfl, tup_ok h4⟩, h5⟩
    refine calls_of_wp hfn hb (wp_mono (wq6r X hpv hm k hf c hco he R) fun e a w' h => ?_)
    cases e with
    | normal =>
      obtain ⟨st, G', h1, h2⟩ := h
      obtain ⟨v, h3, h4⟩ := hret h1 h2
      exact ⟨h2.defers, v, h3, h4⟩
    | ret =>
      obtain ⟨st, G', h1, h2⟩ := h
      obtain ⟨v, h3, h4⟩ := hret h1 h2
      exact ⟨h2.defers, v, h3, h4⟩
    | panic ch =>
      obtain ⟨st, G', a0, p, v, rfl, h1, h2, h3, h4, _⟩ := h
      refine ⟨h4.trans h2.defers, ?_⟩
      simp only [outK] at h1
      unfold panK at h1
      obtain ⟨qs, hs, G'', h5, h6, h7⟩ := wqpt h2 hc1.1 (ps := [p]) (vs := [v]) ⟨v, [], rfl, h3, rfl⟩ h1
      split at h5
      · next q =>
        obtain ⟨u, l, hu, h8, h9⟩ := h6
        cases hu
        exact ⟨.pan q hs, h5, G'', ⟨v, rfl, h8⟩, h7⟩
      · cases h5
    | exit i => obtain ⟨st, G', h1, h2⟩ := h; cases h1
    | goto l => exact h
    | outgrown => exact h.elim
end
end Go.Proofs.YtmdmpogommehpaaDoor.Pvm
namespace Go.Proofs.YtmdmpogommehpaaDoor.Pvm
open Go
variable {P : Program}
def zcells : Kd → List Value
  | .int k => [.int k 0]
  | .bool => [.bool false]
  | .str => [.string ⟨#[]⟩]
  | .flt => [.float .f64 0]
  | .nil => []
  | .sl _ => [.slice none 0 0]
  | .pr a b => zcells a ++ zcells b
theorem wqnx {w : World} {ok : Nat → Prop} : ∀ K : Kd, RD w ok K K.zero (zcells K)
  | .int _ => rfl
  | .bool => rfl
  | .str => rfl
  | .flt => rfl
  | .nil => rfl
  | .sl _ => ⟨none, 0, rfl, Nat.le_refl _, .inl rfl⟩
  | .pr a b => ⟨_, _, rfl, wqnx a, wqnx b⟩
def kdB (ti : TI) (z : List Value) : Prop :=
  match ti.kd with
  | none => True
  | some K => (decide (0 < K.sz) && decide (K.sz = ti.size)) = true ∧ z = zcells K
def wqyu (P : Program) (fs : Array Field) : Bool := (fs.toList.mapM (fun f => (P.info? f.type).map fun i => (f.offset, i.size))).isSome
theorem TiOk.of {t : TypeId} {ti : TI} {z : Value} {d : TypeDesc} (hi : (P.info? t).map (fun i => (i.size, i.bytes, i.zero)) = some (ti.size, ti.bytes, some z)) (hz : z.cells.toList.map cv = ti.zero) (hs : z.cells.size = ti.size)
    (hk : kdB ti z.cells.toList) (hsh : match ti.k with | .struct => ∃ cs, z = .agg cs | .int k => z = .int k 0 | _ => z.cells = #[z])
    (hm : match ti.k with
      | .int k => d = .int k
      | .bool => d = .bool
      | .str => d = .string
      | .flt => d = .float .f64
      | .slice => d = .slice ti.el
      | .ptr => d = .pointer ti.el
      | .struct => ∃ fs, d = .struct fs ∧ fs.toList.map (fun f => (f.offset, f.type)) = ti.fs ∧ wqyu P fs = true
      | .iface => ∃ ms, d = .interface ms
      | .map => ∃ kt, d = .map kt ti.el ∧ P.underlying kt = some .string
      | .other => (match d with | .struct _ | .array _ _ | .interface _ => False | _ => True))
    (hd : P.underlying t = some d) (he : ti.eqs = true → ti.k = .struct → wqt5 P t = true) : TiOk P t ti := by
  obtain ⟨i, h1, h2⟩ := Option.map_eq_some_iff.1 hi
  simp only [Prod.mk.injEq] at h2
  refine ⟨⟨i, z, h1, h2.1, h2.2.1, h2.2.2, hz, hs, fun K hK => ?_, hsh⟩, ⟨d, hd, ?_⟩, he⟩
  · unfold kdB at hk
    rw [hK] at hk
    simp only [Bool.and_eq_true, decide_eq_true_eq] at hk
    exact ⟨hk.1.1, hk.1.2, fun w ok => by rw [hk.2]; exact wqnx K⟩
  · revert hm
    cases ti.k <;> simp only [] <;> intro hm <;> first
      | exact hm
      | (obtain ⟨fs, h1, h2, h3⟩ := hm
         unfold wqyu at h3
         obtain ⟨pl, hpl⟩ := Option.isSome_iff_exists.1 h3
         exact ⟨fs, h1, h2, pl, hpl⟩)
theorem wq10c {l : List (Nat × TI)} (h : ∀ x ∈ l, TiOk P x.1 x.2) : TyOk P (look l) := fun t ti ht => h (t, ti) (wqj ht)
theorem wq10d : ∀ x ∈ ([] : List (Nat × TI)), TiOk P x.1 x.2 := fun x hx => by cases hx
theorem all_cons {t : Nat} {ti : TI} {l : List (Nat × TI)} (h : TiOk P t ti) (hl : ∀ x ∈ l, TiOk P x.1 x.2) : ∀ x ∈ (t, ti) :: l, TiOk P x.1 x.2 := fun x hx => by
  rcases List.mem_cons.1 hx with rfl | hx
  · exact h
  · exact hl x hx
end Go.Proofs.YtmdmpogommehpaaDoor.Pvm
namespace Go.Proofs.YtmdmpogommehpaaDoor.Pvm
open Go
def at_ : List Nat → Code → Code
  | [], c => c
  | 0 :: p, .seq a _ => at_ p a
  | _ :: p, .seq _ b => at_ p b
  | 0 :: p, .cond _ a _ => at_ p a
  | _ :: p, .cond _ _ b => at_ p b
  | _ :: p, .block _ b => at_ p b
  | _ :: p, .scope b => at_ p b
  | _ :: p, .loop b => at_ p b
  | _, c => c
def konts (cx : Ctx) (k : Nat) {R : Type} (I : Nat → St → Option R) : List Nat → Code → (Ex → St → Option R) → (Ex → St → Option R)
  | [], _, K => K
  | 0 :: p, .seq a b, K => konts cx k I p a (seqK (execK cx k b) K)
  | _ :: p, .seq _ b, K => konts cx k I p b K
  | 0 :: p, .cond _ a _, K => konts cx k I p a K
  | _ :: p, .cond _ _ b, K => konts cx k I p b K
  | _ :: p, .block id b, K => konts cx k I p b (blockK id K)
  | _ :: p, .scope b, K => konts cx k I p b K
  | _ :: p, .loop b, K => konts cx k I p b (stepK cx.pv (look cx.cuts (1000 + wqb5 b)) (I (1000 + wqb5 b)) K)
  | _, _, K => K
theorem DoesTo.mono {P : Program} {f : FuncId} {ps : List PV} {hp : List (Nm × HObj)} {O O' : Out → Prop} (h : DoesTo P f ps hp O) (ho : ∀ out, O out → O' out) : DoesTo P f ps hp O' :=
  fun G w vals h1 h2 h3 => (h G w vals h1 h2 h3).mono fun e w' ⟨out, h4, h5⟩ => ⟨out, ho out h4, h5⟩
def noMp : List (Nm × HObj) → Bool
  | [] => true
  | (_, .mp _ _ _) :: _ => false
  | _ :: r => noMp r
theorem wqg4 : ∀ {hp : List (Nm × HObj)}, noMp hp = true → ∀ {n : Nm} {ag : MK} {V : Kd} {es : List (List UInt8 × V.T)}, look hp n = some (.mp ag V es) → False
  | [], _, n, ag, V, es, hl => by cases hl
  | (m, .mp _ _ _) :: r, h, n, ag, V, es, hl => by simp [noMp] at h
  | (m, .var t cs) :: r, h, n, ag, V, es, hl => by
    rw [look] at hl
    cases hb : Nat.beq m n with
    | true => rw [hb] at hl; cases hl
    | false => rw [hb] at hl; exact wqg4 (hp := r) h hl
  | (m, .row e K xs) :: r, h, n, ag, V, es, hl => by
    rw [look] at hl
    cases hb : Nat.beq m n with
    | true => rw [hb] at hl; cases hl
    | false => rw [hb] at hl; exact wqg4 (hp := r) h hl
def wqyv (h : Heap) (G : Gh) (w : World) : PV → FrameMode → FrameMode → Prop
  | .nilif, u, u1 => u = .returning ∧ u1 = .returning
  | .ifc t p, u, u1 => ∃ v, RV h G w (.ifc t p) v ∧ u = .panicking [{ v, recovered := false }] ∧ u1 = .panicking [{ v, recovered := true }]
  | _, _, _ => False
def DoesToD (P : Program) (g : FuncId) (rec : PV) (caps : List PV) (hp : List (Nm × HObj)) (O : Out → Prop) : Prop :=
  ∀ (G : Gh) (w : World) (vals : List Value) (u u1 : FrameMode), RVs (mkH hp) G w caps vals → wqyv (mkH hp) G w rec u u1 → (∀ n o, mkH hp n = some o → RO (mkH hp) G w n o) → Dis (mkH hp) G w →
    CallsD P g vals.toArray u w fun e u' w' => u' = u1 ∧ ∃ out, O out ∧ ∃ G', OutIs G' w' e out ∧ Fin hp out.hs G w G' w'
theorem DoesToD.mono {P : Program} {g : FuncId} {rec : PV} {caps : List PV} {hp : List (Nm × HObj)} {O O' : Out → Prop} (h : DoesToD P g rec caps hp O) (ho : ∀ out, O out → O' out) : DoesToD P g rec caps hp O' :=
  fun G w vals u u1 h1 h2 h3 h4 => (h G w vals u u1 h1 h2 h3 h4).mono fun e u' w' ⟨h5, out, h6, h7⟩ => ⟨h5, out, ho out h6, h7⟩
def fnCK (cx : Ctx) (k : Nat) {R : Type} (c : Code) (n : Nat) (rs : List ResultVar) (sp : RetSpec) (caps : List PV) (s : Nat) (rec : PV) (hp : List (Nm × HObj)) (K : Out → Option R) : Option R :=
  bif varsIn cx.pv hp && Nat.ble caps.length n && Nat.blt s n then execK cx k c ⟨upd (argsT caps) s rec, mkH hp⟩ (outK cx sp rs K) else none
def opsAt : Code → Array Oper
  | .region _ ops _ => ops
  | _ => #[]
def recOps (ops : List Oper) : Option Nat :=
  match ops with
  | [o] => match o.guard, o.dst, o.op with
    | none, some s, .call { callee := .builtin .recover, args, .. } => bif Nat.beq args.size 0 then some s else none
    | _, _, _ => none
  | _ => none
theorem wquh {ops : Array Oper} {s : Nat} (h : recOps ops.toList = some s) : ∃ o ats, ops = #[o] ∧ o.guard = none ∧ o.dst = some s ∧ o.op = .call { callee := .builtin .recover, args := #[], argTypes := ats } := by
  unfold recOps at h
  split at h
  · next o hl =>
    split at h
    · next e1 e2 e3 =>
      next args _ =>
      cases hb : Nat.beq args.size 0 with
      | false => rw [hb] at h; cases h
      | true =>
        rw [hb, cond_true] at h
        cases h
        have ha : args = #[] := Array.eq_empty_of_size_eq_zero (beqN.1 hb)
        subst ha
        exact ⟨o, _, by apply Array.ext'; simpa using hl, e1, e2, e3⟩
    · cases h
  · cases h
def wqs1 (ops : List Oper) : Option (Nat × FuncId × List Operand) :=
  match ops with
  | [o1, o2] => match o1.guard, o2.guard, o1.dst, o2.dst with
    | none, none, some s, none => match o1.op, o2.op with
      | .makeFunc (.func g) first caps, .defer { callee := .value (.tmp s'), args, .. } => bif Nat.beq first.size 0 && Nat.beq s' s && Nat.beq args.size 0 then some (s, g, caps.toList) else none
      | _, _ => none
    | _, _, _, _ => none
  | _ => none
def wqpu (st : St) : List Operand → List (Nm × Nat) → Bool
  | [], [] => true
  | x :: xs, (n, off) :: r => (match useO [] (st.get x) with | .ptr m o => Nat.beq m n && Nat.beq o off | _ => false) && wqpu st xs r
  | _, _ => false
def capsIn (st : St) (pv : List Nm) : List (Nm × Nat) → Bool
  | [] => true
  | (n, _) :: r => isIn n pv && (match st.h n with | some (.var _ _) => true | _ => false) && capsIn st pv r
def capP : List (Nm × Nat) → List PV
  | [] => []
  | (n, off) :: r => .ptr n off :: capP r
def wqkt (ks : List Nat) : List ResultVar → Bool
  | [] => true
  | .tmp t :: r => isIn t ks && wqkt ks r
  | .cell a _ :: r => isIn a ks && wqkt ks r
def modeOk (pan : Bool) : PV → Bool
  | .nilif => !pan
  | .ifc _ _ => pan
  | _ => false
def callD (cx : Ctx) {R : Type} (runD : PV → List PV → List (Nm × HObj) → (Out → Option R) → Option R) (sigD : List LS) (caps : List (Nm × Nat)) (sp : RetSpec) (rs : List ResultVar) (K : Out → Option R) (pan : Bool) (rec : PV) (st : St) : Option R :=
  match normPs st.h ⟨[], [], []⟩ (.any :: sigD) (rec :: capP caps) with
  | some (q :: ps, na) => bif fine na && modeOk pan q then runD q ps na.hp fun o => match o with
      | .ret _ hs => match back st 9000 na hs (hasSlH hs) with
        | some st' => retK cx sp rs st' K
        | none => none
      | .pan _ _ => none
    else none
  | _ => none
def endD (cx : Ctx) {R : Type} (runD : PV → List PV → List (Nm × HObj) → (Out → Option R) → Option R) (sigD : List LS) (caps : List (Nm × Nat)) (sp : RetSpec) (rs : List ResultVar) (K : Out → Option R) : Ex → St → Option R := fun e st => match e with
  | .normal => callD cx runD sigD caps sp rs K false .nilif st
  | .ret => callD cx runD sigD caps sp rs K false .nilif st
  | .panic p => callD cx runD sigD caps sp rs K true p st
  | .exit _ => none
def dfrK {R : Type} (ex : Ctx → Code → St → (Ex → St → Option R) → Option R) (cx : Ctx) (pv2 : List Nm) (pre : Code) (ops : Array Oper) (rest : Code) (n : Nat) (rs : List ResultVar) (sp : RetSpec)
    (runD : PV → List PV → List (Nm × HObj) → (Out → Option R) → Option R) (sigD : List LS) (caps : List (Nm × Nat)) (args : List PV) (hp : List (Nm × HObj)) (K : Out → Option R) : Option R :=
  bif varsIn cx.pv hp && Nat.ble args.length n && subL cx.pv pv2 && wqkt cx.keep rs then
    ex cx pre ⟨argsT args, mkH hp⟩ fun e st => match e with
      | .normal => match wqs1 ops.toList with
        | some (s, g, xs) => bif wqpu st xs caps && capsIn st pv2 caps && Nat.blt s n then
            ex { cx with pv := pv2 } rest ⟨upd st.t s (.clo g (capP caps)), st.h⟩ (endD cx runD sigD caps sp rs K)
          else none
        | none => none
      | _ => none
  else none
def fnDK (cx : Ctx) (k : Nat) {R : Type} (pv2 : List Nm) (pre : Code) (ops : Array Oper) (rest : Code) (n : Nat) (rs : List ResultVar) (sp : RetSpec)
    (runD : PV → List PV → List (Nm × HObj) → (Out → Option R) → Option R) (sigD : List LS) (caps : List (Nm × Nat)) (args : List PV) (hp : List (Nm × HObj)) (K : Out → Option R) : Option R :=
  dfrK (fun cx c st K => execK cx k c st K) cx pv2 pre ops rest n rs sp runD sigD caps args hp K
section
variable {P : Program} {w0 : World} {fr : Nat → Prop} {X0 : Org} {n : Nat} {ds : List Deferred} {st : St} {G : Gh} {a : Act} {w : World}
theorem nblt {a b : Nat} (h : Nat.blt a b = true) : a < b := Nat.le_of_ble_eq_true h
theorem wqyw {cx : Ctx} (X : cx.Ok P) (hm : P.follows .mixedOrders = true) {f : FuncId} {fn : Func} {id : Nat} {ops : Array Oper} {c : Code} (hfn : P.funcs[f]? = some fn) (hb : fn.body = some (.seq (.region id ops false) c))
    {s : Nat} (hops : recOps ops.toList = some s) {rs : List ResultVar} (hrs : fn.results.toList = rs) (hco : codeOk fn.ntmps c = true)
    {k : Nat} {R0 : Type} {sp : RetSpec} {caps : List PV} {rec : PV} {hp : List (Nm × HObj)} {K : Out → Option R0} {r : R0} (he : fnCK cx k c fn.ntmps rs sp caps s rec hp K = some r) : DoesToD P f rec caps hp fun out => K out = some r := by
  intro G w vals u u1 hr hmode obj dis
  obtain ⟨o, ats, hops, hg, hds, hop⟩ := wquh hops
  unfold fnCK at he
  cases hc1 : (varsIn cx.pv hp && Nat.ble caps.length fn.ntmps && Nat.blt s fn.ntmps) with
  | false => rw [hc1] at he; cases he
  | true =>
    rw [hc1, cond_true] at he
    simp only [Bool.and_eq_true] at hc1
    obtain ⟨⟨hc0, hc2⟩, hc3⟩ := hc1
    have R := Rel.start hr obj dis (Nat.le_of_ble_eq_true hc2)
    have hf : ∀ b, frOf hp G w b → b < w.heap.size := fun b hb => hb.1
    have hpv : ∀ x ∈ (orgOf hp G).vs, x.1 ∈ cx.pv := fun x hx => wqhn hc0 x (List.mem_filter.1 hx).1
    have hret : ∀ {st : St} {G' : Gh} {a : Act} {w' : World}, retK cx sp rs st K = some r → Rel w (frOf hp G w) (orgOf hp G) fn.ntmps [] st G' a w' → ∃ v, (results fn a.tmps).run P w' = .ok v w' ∧ ∃ out, K out = some r ∧ ∃ G'', OutIs G'' w' (.returned v) out ∧ Fin hp out.hs G w G'' w' := by
      intro st G' a w' he R
      unfold retK at he
      split at he
      · cases he
      · next ps hps =>
        obtain ⟨vs, h1, h2⟩ := wqps X R rs hps
        obtain ⟨qs, hs, G'', h3, h4, h5⟩ := wqpt R hc0 h1 he
        exact ⟨_, wqhm hrs h2, .ret qs hs, h3, G'', ⟨_, rfl, tup_ok h4⟩, h5⟩
    refine callsD_of_wpS hfn hb fun c₀ cs hu => ?_
    refine wpS_seq (wpS_region ?_)
    subst hops
    have hwant : Region.wanted o (yielded #[o] (vals.toArray ++ Array.replicate (fn.ntmps - vals.toArray.size) undef)) = true := by simp [Region.wanted, hg]
    have hrun : ∀ ρ : Operand → Value, (execOp ρ o).run P w = .ok .recover w := by
      intro ρ
      simp [execOp, hop, resolve, invoke, builtin]
    have key : ∀ (v : Value) (cs' : List Frame), RV (mkH hp) G w rec v → cs' = { c₀ with mode := u1 } :: cs →
        Exit.thenS (c.wpS P (bodyPostS P fn c₀ cs fun e u' w' => u' = u1 ∧ ∃ out, K out = some r ∧ ∃ G', OutIs G' w' e out ∧ Fin hp out.hs G w G' w')) (bodyPostS P fn c₀ cs fun e u' w' => u' = u1 ∧ ∃ out, K out = some r ∧ ∃ G', OutIs G' w' e out ∧ Fin hp out.hs G w G' w') .normal
          (({ tmps := vals.toArray ++ Array.replicate (fn.ntmps - vals.toArray.size) undef, defers := [] } : Act).put o.dst v) cs' w := by
      rintro v cs' hv rfl
      show c.wpS _ _ _ _ _
      rw [hds]
      have R2 := R.putV hf (d := some s) (fun i hi => by cases hi; exact nblt hc3) hv
      refine wpS_of_wp (wp_mono (wq6r X hpv hm k hf c hco he R2) fun e a w' h => ?_)
      cases e with
      | normal =>
        obtain ⟨st, G', h1, h2⟩ := h
        obtain ⟨v, h3, h4⟩ := hret h1 h2
        exact ⟨h2.defers, u1, rfl, v, h3, rfl, h4⟩
      | ret =>
        obtain ⟨st, G', h1, h2⟩ := h
        obtain ⟨v, h3, h4⟩ := hret h1 h2
        exact ⟨h2.defers, u1, rfl, v, h3, rfl, h4⟩
      | panic ch =>
        obtain ⟨st, G', a0, p, v, rfl, h1, h2, h3, h4, _⟩ := h
        refine ⟨h4.trans h2.defers, u1, rfl, rfl, ?_⟩
        simp only [outK] at h1
        unfold panK at h1
        obtain ⟨qs, hs, G'', h5, h6, h7⟩ := wqpt h2 hc0 (ps := [p]) (vs := [v]) ⟨v, [], rfl, h3, rfl⟩ h1
        split at h5
        · next q =>
          obtain ⟨u, l, hu, h8, h9⟩ := h6
          cases hu
          exact ⟨.pan q hs, h5, G'', ⟨v, rfl, h8⟩, h7⟩
        · cases h5
      | exit i => obtain ⟨st, G', h1, h2⟩ := h; cases h1
      | goto l => exact h
      | outgrown => exact h.elim
    show wpOpsS P #[o] _ [0] _ _ _
    simp only [wpOpsS, List.getElem?_toArray, List.getElem?_cons_zero, hwant, if_true, hrun]
    cases rec with
    | nilif =>
      obtain ⟨rfl, rfl⟩ := hmode
      have hrec : recoverD (c₀ :: cs) = none := by simp [recoverD, hu]
      rw [hrec]
      refine key .nilIface (c₀ :: cs) rfl ?_
      cases c₀; simp_all
    | ifc t p =>
      obtain ⟨v, hv, rfl, rfl⟩ := hmode
      have hrec : recoverD (c₀ :: cs) = some (v, { c₀ with mode := .panicking [{ v, recovered := true }] } :: cs) := by simp [recoverD, hu]
      rw [hrec]
      exact key v _ hv rfl
    | _ => exact hmode.elim
theorem wqku {ks : List Nat} {a a0 : Act} (h : ∀ i ∈ ks, tmOf a i = tmOf a0 i) : ∀ {rs : List ResultVar}, wqkt ks rs = true → rs.mapM (resF a.tmps) = rs.mapM (resF a0.tmps)
  | [], _ => rfl
  | .tmp t :: r, hk => by
    simp only [wqkt, Bool.and_eq_true] at hk
    have e1 : a.tmps.getD t undef = a0.tmps.getD t undef := h t (wq2r.1 hk.1)
    rw [List.mapM_cons, List.mapM_cons, wqku h hk.2]
    simp only [resF, e1]
  | .cell x t :: r, hk => by
    simp only [wqkt, Bool.and_eq_true] at hk
    have e1 : a.tmps.getD x undef = a0.tmps.getD x undef := h x (wq2r.1 hk.1)
    rw [List.mapM_cons, List.mapM_cons, wqku h hk.2]
    simp only [resF, e1]
theorem wqpv (R : Rel w0 fr X0 n ds st G a w) : ∀ (xs : List Operand) (caps : List (Nm × Nat)), wqpu st xs caps = true → RVs st.h G w (capP caps) (xs.map a.eval)
  | [], [], _ => rfl
  | [], _ :: _, h => by cases h
  | x :: xs, [], h => by cases h
  | x :: xs, (m, off) :: r, h => by
    simp only [wqpu, Bool.and_eq_true] at h
    obtain ⟨h1, h2⟩ := h
    refine ⟨a.eval x, xs.map a.eval, rfl, ?_, wqpv R xs r h2⟩
    have := R.use noTags x
    split at h1
    · next m' o' hx =>
      rw [hx] at this
      simp only [Bool.and_eq_true] at h1
      rw [beqN.1 h1.1, beqN.1 h1.2] at this
      exact this
    · cases h1
theorem wqtm {pv : List Nm} : ∀ {caps : List (Nm × Nat)}, capsIn st pv caps = true → ∀ x ∈ caps, x.1 ∈ pv ∧ ∃ t cs, st.h x.1 = some (.var t cs)
  | [], _, x, hx => by cases hx
  | (m, off) :: r, h, x, hx => by
    simp only [capsIn, Bool.and_eq_true] at h
    obtain ⟨⟨h1, h2⟩, h3⟩ := h
    rcases List.mem_cons.1 hx with rfl | hx
    · refine ⟨wq2r.1 h1, ?_⟩
      split at h2
      · next t cs ht => exact ⟨t, cs, ht⟩
      · cases h2
    · exact wqtm h3 x hx
def typeIn (h : Heap) (n : Nm) : TypeId := match h n with | some (.var t _) => t | _ => 0
def capOrg (st : St) (G : Gh) : List (Nm × Nat) → List (Nm × TypeId × Nat)
  | [] => []
  | (n, _) :: r => (n, typeIn st.h n, G.bk n) :: capOrg st G r
theorem wqkv {st : St} {G : Gh} : ∀ {caps : List (Nm × Nat)} {x}, x ∈ capOrg st G caps → ∃ y ∈ caps, x = (y.1, typeIn st.h y.1, G.bk y.1)
  | [], x, h => by cases h
  | (n, off) :: r, x, h => by
    rw [capOrg] at h
    rcases List.mem_cons.1 h with rfl | h
    · exact ⟨_, List.mem_cons_self, rfl⟩
    · obtain ⟨y, hy, e⟩ := wqkv h
      exact ⟨y, List.mem_cons_of_mem _ hy, e⟩
theorem wqtn {st : St} {G : Gh} : ∀ {caps : List (Nm × Nat)} {y}, y ∈ caps → (y.1, typeIn st.h y.1, G.bk y.1) ∈ capOrg st G caps
  | (n, off) :: r, y, h => by
    rw [capOrg]
    rcases List.mem_cons.1 h with rfl | h
    · exact List.mem_cons_self
    · exact List.mem_cons_of_mem _ (wqtn h)
theorem wqpw {st0 : St} {G0 : Gh} {w0' : World} : ∀ {caps : List (Nm × Nat)} {vals : List Value}, RVs st0.h G0 w0' (capP caps) vals → (∀ y ∈ caps, (∃ t cs, st.h y.1 = some (.var t cs)) ∧ G.bk y.1 = G0.bk y.1) → RVs st.h G w (capP caps) vals
  | [], vals, hr, _ => hr
  | (m, off) :: r, vals, ⟨v, l, e, hv, hl⟩, h => by
    obtain ⟨rfl, _⟩ := hv
    obtain ⟨⟨t, cs, h1⟩, h2⟩ := h (m, off) List.mem_cons_self
    exact ⟨_, l, e, ⟨by rw [h2], t, cs, h1⟩, wqpw hl fun y hy => h y (List.mem_cons_of_mem _ hy)⟩
theorem wq10e {l r : List Nat} (h : subL l r = true) : ∀ x ∈ l, x ∈ r := by
  induction l with
  | nil => intro x hx; cases hx
  | cons n l ih =>
    simp only [subL, Bool.and_eq_true] at h
    intro x hx
    rcases List.mem_cons.1 hx with rfl | hx
    · exact wq2r.1 h.1
    · exact ih h.2 x hx
def Invokes (P : Program) (g : FuncId) : Prop := ∀ (cap : Array Value) (w : World), (invoke (.fn (.func g) cap) #[]).run P w = .ok (.enter g cap) w
theorem Invokes.of {f : FuncId} {fn : Func} {c : Code} (hfn : P.funcs[f]? = some fn) (hb : fn.body = some c) (hname : (fn.name == "runtime.NumGoroutine") = false) : Invokes P f := by
  intro cap w
  have hn2 : ¬ fn.name = "runtime.NumGoroutine" := by simpa using hname
  simp [invoke, callFunc, program, Sem.run, hfn, hn2, hb]
theorem wq10f {cx : Ctx} (X : cx.Ok P) (hm : P.follows .mixedOrders = true) {f : FuncId} {fn : Func} {pre rest : Code} {id : Nat} {ops : Array Oper} (hfn : P.funcs[f]? = some fn) (hb : fn.body = some (.seq pre (.seq (.region id ops false) rest)))
    (hname : (fn.name == "runtime.NumGoroutine") = false) {rs : List ResultVar} (hrs : fn.results.toList = rs) (hco : codeOk fn.ntmps pre = true) (hco2 : codeOk fn.ntmps rest = true)
    {g : FuncId} {s : Nat} {xs : List Operand} (hops : wqs1 ops.toList = some (s, g, xs))
    {k : Nat} {R0 : Type} {sp : RetSpec} {pv2 : List Nm} {runD : PV → List PV → List (Nm × HObj) → (Out → Option R0) → Option R0} {sigD : List LS} {caps : List (Nm × Nat)}
    (hinv : Invokes P g) (hrunD : ∀ rec ps hp (K : Out → Option R0) (r : R0), runD rec ps hp K = some r → DoesToD P g rec ps hp fun out => K out = some r)
    {args : List PV} {hp : List (Nm × HObj)} {K : Out → Option R0} {r : R0} (he : fnDK cx k pv2 pre ops rest fn.ntmps rs sp runD sigD caps args hp K = some r) : DoesTo P f args hp fun out => K out = some r := by
  intro G w vals hr obj dis
  unfold fnDK dfrK at he
  cases hc1 : (varsIn cx.pv hp && Nat.ble args.length fn.ntmps && subL cx.pv pv2 && wqkt cx.keep rs) with
  | false => rw [hc1] at he; cases he
  | true =>
    rw [hc1, cond_true] at he
    simp only [Bool.and_eq_true] at hc1
    obtain ⟨⟨⟨hc0, hc2⟩, hsub⟩, hkeep⟩ := hc1
    have hrun : (callFunc f vals.toArray).run P w = .ok (.enter f vals.toArray) w := by
      have hn2 : ¬ fn.name = "runtime.NumGoroutine" := by simpa using hname
      simp [callFunc, program, Sem.run, hfn, hn2, hb]
    unfold Does
    rw [hrun]
    have R := Rel.start hr obj dis (Nat.le_of_ble_eq_true hc2)
    have hf : ∀ b, frOf hp G w b → b < w.heap.size := fun b hb => hb.1
    have hpv : ∀ x ∈ (orgOf hp G).vs, x.1 ∈ cx.pv := fun x hx => wqhn hc0 x (List.mem_filter.1 hx).1
    refine calls_of_wp_defers hfn hb (wp_seq (wp_mono (wq6r X hpv hm k hf pre hco he R) fun e a1 w1 h => ?_))
    cases e with
    | exit i => obtain ⟨st, G', h1, h2⟩ := h; cases h1
    | ret => obtain ⟨st, G', h1, h2⟩ := h; cases h1
    | panic ch => obtain ⟨st, G', a0, p, v, rfl, h1, h2⟩ := h; cases h1
    | goto l => exact h.elim
    | outgrown => exact h.elim
    | normal =>
      obtain ⟨st1, G1, h1, R1⟩ := h
      simp only [hops] at h1
      cases hc3 : (wqpu st1 xs caps && capsIn st1 pv2 caps && Nat.blt s fn.ntmps) with
      | false => rw [hc3] at h1; cases h1
      | true =>
        rw [hc3, cond_true] at h1
        simp only [Bool.and_eq_true] at hc3
        obtain ⟨⟨hca, hci⟩, hs⟩ := hc3
        have hcaps := wqpv R1 xs caps hca
        have hcin := wqtm hci
        have hsh : ∃ o1 o2 first cps args ats s', ops.toList = [o1, o2] ∧ o1.guard = none ∧ o2.guard = none ∧ o1.dst = some s ∧ o2.dst = none ∧ o1.op = .makeFunc (.func g) first cps ∧ o2.op = .defer { callee := .value (.tmp s'), args := args, argTypes := ats } ∧ first = #[] ∧ s' = s ∧ args = #[] ∧ cps.toList = xs := by
          unfold wqs1 at hops
          split at hops
          · next o1 o2 hl =>
            split at hops
            · next e1 e2 e3 e4 =>
              split at hops
              · next g' first cps s1 args ats e5 e6 =>
                cases hbb : (Nat.beq first.size 0 && Nat.beq s1 _ && Nat.beq args.size 0) with
                | false => rw [hbb] at hops; cases hops
                | true =>
                  rw [hbb, cond_true] at hops
                  cases hops
                  simp only [Bool.and_eq_true] at hbb
                  exact ⟨o1, o2, first, cps, args, _, s1, hl, e1, e2, e3, e4, e5, e6, Array.eq_empty_of_size_eq_zero (beqN.1 hbb.1.1), beqN.1 hbb.1.2, Array.eq_empty_of_size_eq_zero (beqN.1 hbb.2), rfl⟩
              · cases hops
            · cases hops
          · cases hops
        obtain ⟨o1, o2, first, cps, args', ats, s', hl, g1, g2, d1, d2, p1, p2, rfl, rfl, rfl, hx⟩ := hsh
        have hs := nblt hs
        have hsz := R1.size
        let F : Value := .func (.func g) #[] (cps.map a1.eval)
        let d : Deferred := { target := .fn (.func g) (cps.map a1.eval), args := #[] }
        let a2 : Act := { (a1.put (some s') F) with defers := d :: a1.defers }
        have hcapsA : RVs st1.h G1 w1 (capP caps) (cps.map a1.eval).toList := by rw [Array.toList_map, hx]; exact hcaps
        let X0' : Org := ⟨(orgOf hp G).X, capOrg st1 G1 caps ++ (orgOf hp G).vs⟩
        have R2 : Rel w (frOf hp G w) X0' fn.ntmps [d] ⟨upd st1.t s' (.clo g (capP caps)), st1.h⟩ G1 a2 w1 := by
          have := R1.putV hf (d := some s') (fun i hi => by cases hi; exact hs) (p := .clo g (capP caps)) (v := F) ⟨(cps.map a1.eval).toList, by simp only [F, Array.toArray_toList], hcapsA⟩
          refine ⟨this.tm, this.size, this.obj, this.dis, this.apart, this.xfr, this.xeq, fun x hx => ?_, this.ext, this.grow, this.os, this.tape, this.out, by simp [a2, R1.defers]⟩
          rcases List.mem_append.1 hx with hx | hx
          · obtain ⟨y, hy, rfl⟩ := wqkv hx
            obtain ⟨_, t, cs, ht⟩ := hcin y hy
            exact ⟨⟨cs, by simp only [typeIn]; rw [show st1.h y.1 = _ from ht]⟩, rfl⟩
          · exact this.org x hx
        have hpv2 : ∀ x ∈ X0'.vs, x.1 ∈ pv2 := by
          intro x hx
          rcases List.mem_append.1 hx with hx | hx
          · obtain ⟨y, hy, rfl⟩ := wqkv hx
            exact (hcin y hy).1
          · exact wq10e hsub _ (hpv x hx)
        have X2 : Ctx.Ok P { cx with pv := pv2 } := ⟨X.ty, X.C, X.sh⟩
        have fin : ∀ {pan : Bool} {rec : PV} {v : Value} {st : St} {G' : Gh} {a b : Act} {w' : World}, rs.mapM (resF b.tmps) = rs.mapM (resF a.tmps) → b.defers = a.defers → callD cx runD sigD caps sp rs K pan rec st = some r → Rel w (frOf hp G w) X0' fn.ntmps [d] st G' a w' → RV st.h G' w' rec v →
            Leaves P fn b.tmps (fun e w' => ∃ out, K out = some r ∧ ∃ G', OutIs G' w' e out ∧ Fin hp out.hs G w G' w') b.defers (bif pan then .panicking [{ v, recovered := false }] else .returning) w' := by
          intro pan rec v st G' a b w' hbm hbd he R3 hv
          rw [hbd, R3.defers]
          refine leaves_cons (f := g) (args := cps.map a1.eval) (by cases pan <;> simp) (hinv _ _) ?_
          unfold callD at he
          split at he
          · next q ps na hn =>
            cases hfi : (fine na && modeOk pan q) with
            | false => rw [hfi] at he; cases he
            | true =>
              rw [hfi, cond_true] at he
              simp only [Bool.and_eq_true] at hfi
              obtain ⟨hfi, hmo⟩ := hfi
              have hc := hrunD _ _ _ _ _ he
              have F0 : Found st.h ⟨[], [], []⟩ := ⟨fun k o hk => (by cases hk), fun m hm => (by cases hm)⟩
              obtain ⟨F1, L1⟩ := normPs_found _ _ _ hn F0
              have S : Sub st.h G' w' na := ⟨wqjy hfi, F1, R3.obj, R3.toDis hf⟩
              have hcl : RVs st.h G' w' (capP caps) (cps.map a1.eval).toList := by
                refine wqpw hcapsA fun y hy => ?_
                obtain ⟨⟨cs, h1⟩, h2⟩ := R3.org (y.1, typeIn st1.h y.1, G1.bk y.1) (List.mem_append_left _ (wqtn hy))
                exact ⟨⟨_, cs, h1⟩, h2⟩
              obtain ⟨h1, h2⟩ := Sub.norms S _ _ _ hn (.refl na) F0 (vs := v :: (cps.map a1.eval).toList) ⟨v, _, rfl, hv, hcl⟩
              obtain ⟨v', l', hvl, hq, hps⟩ := h1
              simp only [List.cons.injEq] at hvl
              obtain ⟨rfl, rfl⟩ := hvl
              have hobj : ∀ k o, mkH na.hp k = some o → RO (mkH na.hp) (subG G' na (subX st.h G' na)) w' k o := fun k o hk => by
                rcases h2 (k, o) (wqj hk) with h | h
                · cases h
                · exact h
              have hrec : wqyv (mkH na.hp) (subG G' na (subX st.h G' na)) w' q (bif pan then .panicking [{ v, recovered := false }] else .returning) (bif pan then .panicking [{ v, recovered := true }] else .returning) := by
                cases q with
                | nilif => cases pan with
                  | false => exact ⟨rfl, rfl⟩
                  | true => cases hmo
                | ifc t p => cases pan with
                  | false => cases hmo
                  | true => exact ⟨v, hq, rfl, rfl⟩
                | _ => cases hmo
              have hcd := hc _ w' _ _ _ hps hrec hobj S.toDis
              rw [Array.toArray_toList] at hcd
              refine hcd.mono fun e u' w'' hh => ?_
              obtain ⟨rfl, out, ho, G3, hout, Fi⟩ := hh
              cases out with
              | pan p hs => cases ho
              | ret rs' hs' =>
                obtain ⟨v3, rfl, hv3⟩ := hout
                simp only at ho
                split at ho
                · next st' hbk =>
                  obtain ⟨G4, L, ht, hren⟩ := wqvz S hbk Fi (fun h => h)
                  have R4 := R3.loud0 hf L
                  rw [← ht] at R4
                  have R5 : Rel w (frOf hp G w) (orgOf hp G) fn.ntmps [d] st' G4 a w'' :=
                    ⟨R4.tm, R4.size, R4.obj, R4.dis, R4.apart, R4.xfr, R4.xeq, fun x hx => R4.org x (List.mem_append_right _ hx), R4.ext, R4.grow, R4.os, R4.tape, R4.out, R4.defers⟩
                  have hset : settle (bif pan then .panicking [{ v, recovered := true }] else .returning) = .returning := by cases pan <;> rfl
                  show Leaves P fn b.tmps _ [] (settle _) w''
                  rw [hset]
                  unfold retK at ho
                  split at ho
                  · cases ho
                  · next ps2 hps2 =>
                    obtain ⟨vs, h1, h2⟩ := wqps X R5 rs hps2
                    obtain ⟨qs, hs2, G'', h3, h4, h5⟩ := wqpt R5 hc0 h1 ho
                    exact ⟨_, wqhm hrs (by rw [hbm]; exact h2), .ret qs hs2, h3, G'', ⟨_, rfl, tup_ok h4⟩, h5⟩
                · cases ho
          · cases he
        have hrest : rest.wp P (bodyPostD P fn fun e w' => ∃ out, K out = some r ∧ ∃ G', OutIs G' w' e out ∧ Fin hp out.hs G w G' w') a2 w1 := by
          refine wp_mono (wq6r X2 hpv2 hm k hf rest hco2 h1 R2) fun e a w' h => ?_
          cases e with
          | normal =>
            obtain ⟨st, G', h1, h2⟩ := h
            exact fin (pan := false) rfl rfl h1 h2 (v := .nilIface) rfl
          | ret =>
            obtain ⟨st, G', h1, h2⟩ := h
            exact fin (pan := false) rfl rfl h1 h2 (v := .nilIface) rfl
          | panic ch =>
            obtain ⟨st, G', a0, p, v, rfl, h1, h2, h3, h4, h5, h6⟩ := h
            exact fin (pan := true) (wqku h6 hkeep) h4 h1 h2 h3
          | exit i => obtain ⟨st, G', h1, h2⟩ := h; cases h1
          | goto l => exact h
          | outgrown => exact h.elim
        refine wp_seq (wp_region_list ?_)
        rw [hl]
        have w1' : Region.wanted o1 (yielded ops a1.tmps) = true := by simp [Region.wanted, g1]
        have w2' : ∀ t, Region.wanted o2 (yielded ops t) = true := fun t => by simp [Region.wanted, g2]
        have e1 : (execOp a1.eval o1).run P w1 = .ok (.value F) w1 := by simp [execOp, p1, Instr.makeFunc, F]
        have e2 : (execOp (a1.put (some s') F).eval o2).run P w1 = .ok (.defer d) w1 := by
          have : (a1.put (some s') F).eval (.tmp s') = F := by
            simp [Act.eval, Act.put, hsz, hs]
          simp [execOp, p2, resolve, this, F, Deferred.ofValue, d]
        unfold wpList
        rw [if_pos w1']
        refine .inl ?_
        unfold Oper.wp
        rw [e1, Oper.upon_value, d1]
        unfold wpList
        rw [if_pos (w2' _)]
        refine .inl ?_
        unfold Oper.wp
        rw [e2, Oper.upon_defer, d2]
        exact hrest
end
end Go.Proofs.YtmdmpogommehpaaDoor.Pvm
namespace Go.Proofs.YtmdmpogommehpaaDoor.Pvm
open Go Go.RowKit
def Kd.lob : Kd → Nat
  | .int k => k.bits / 8
  | .bool => 1
  | .str => 16
  | .flt => 8
  | .sl _ => 24
  | .pr a b => a.lob + b.lob
  | .nil => 0
def Wf : (K : Kd) → K.T → Prop
  | .int k, x => k.min ≤ x ∧ x ≤ k.max
  | .bool, _ => True
  | .str, x => x.length ≤ 140737488351232
  | .flt, x => x < 2 ^ 64
  | .sl e, x => x.length * e.lob ≤ 140737488351232 ∧ ∀ y ∈ x, Wf e y
  | .pr a b, x => Wf a x.1 ∧ Wf b x.2
  | .nil, _ => True
def readFs (ty : TypeId → Option TI) (f : TypeId → Kd → Bool) : Nat → List (Nat × TypeId) → Kd → Bool
  | off, [(o, t)], K => Nat.beq o off && f t K && (match ty t with | some ti => Nat.beq ti.size K.sz | none => false)
  | off, (o, t) :: fs, .pr a b => Nat.beq o off && f t a && (match ty t with | some ti => Nat.beq ti.size a.sz | none => false) && readFs ty f (off + a.sz) fs b
  | _, _, _ => false
def readB (ty : TypeId → Option TI) : Nat → TypeId → Kd → Bool
  | 0, _, _ => false
  | n + 1, t, K => match ty t with
    | none => false
    | some ti => match ti.k, K with
      | .int k, .int k' => decide (k = k')
      | .bool, .bool => true
      | .str, .str => true
      | .flt, .flt => true
      | .slice, .sl e => (match ty ti.el with | some ei => Nat.blt 0 ei.size && Nat.beq ei.size e.sz && Nat.ble e.lob ei.bytes | none => false) && readB ty n ti.el e
      | .struct, K => readFs ty (readB ty n) 0 ti.fs K && Nat.beq ti.size K.sz
      | _, _ => false
section
variable {P : Program} {ty : TypeId → Option TI} {H : Type} {enc : TypeId × Value → H} {w : World} {spare : Nat → Bool} {held : Bool}
theorem TiOk.cellsOf {t : TypeId} {ti : TI} (h : TiOk P t ti) : P.cellsOf t = ti.size := by
  obtain ⟨i, z, h1, h2, _⟩ := h.info
  simp [Program.cellsOf, h1, h2]
theorem TiOk.bytesOf {t : TypeId} {ti : TI} (h : TiOk P t ti) : P.bytesOf t = ti.bytes := by
  obtain ⟨i, z, h1, _, h2, _⟩ := h.info
  simp [Program.bytesOf, h1, h2]
def ReadAt (P : Program) (enc : TypeId × Value → H) (w : World) (spare : Nat → Bool) (held : Bool) (t : TypeId) (K : Kd) : Prop :=
  ∀ (fuel : Nat) (cs : List Value) (d : DataW H) (ps : List MemPlace), DataW.trod enc P w 0 spare held fuel t cs = some (d, ps) → (∀ m ∈ DataW.weights P t d, m ≤ reachBytes) →
    ∃ x : K.T, RD w (fun _ => True) K x cs ∧ Wf K x
theorem wqto (T : TyOk P ty) {f : TypeId → Kd → Bool} (hf : ∀ t K, f t K = true → ReadAt P enc w spare held t K) {n : Nat} {cs : List Value} :
    ∀ (fl : List Field) (tfs : List (Nat × TypeId)) (off : Nat) (K : Kd) (xs : List (DataW H × List MemPlace)), fl.map (fun g => (g.offset, g.type)) = tfs → readFs ty f off tfs K = true →
      (∀ (i : Nat) (g : Field), fl[i]? = some g → DataW.trod enc P w 0 spare held n g.type ((cs.drop g.offset).take (P.cellsOf g.type)) = xs[i]?) → xs.length = fl.length →
      (∀ m ∈ DataW.weightsEach P (fl.map (·.type)) (xs.map (·.1)), m ≤ reachBytes) → cs.length = off + K.sz →
      ∃ x : K.T, RD w (fun _ => True) K x (cs.drop off) ∧ Wf K x
  | [], tfs, off, K, xs, ht, hr, _, _, _, _ => by subst ht; simp [readFs] at hr
  | g :: fl, tfs, off, K, xs, ht, hr, hx, hl, hw, hc => by
    cases xs with
    | nil => simp at hl
    | cons x xs =>
      have h0 := hx 0 g (by simp)
      have key : ∀ a : Kd, Nat.beq g.offset off = true → f g.type a = true → (match ty g.type with | some ti => Nat.beq ti.size a.sz | none => false) = true → a.sz ≤ cs.length - off →
          ∃ y : a.T, RD w (fun _ => True) a y ((cs.drop off).take a.sz) ∧ Wf a y := by
        intro a h1 h2 h3 h4
        split at h3
        · next ti hti =>
          have hsz : P.cellsOf g.type = a.sz := by rw [(T _ _ hti).cellsOf]; exact beqN.1 h3
          rw [beqN.1 h1, hsz] at h0
          obtain ⟨d, ps⟩ := x
          refine hf _ _ h2 n _ d ps (by simpa using h0) fun m hm => hw m ?_
          simp [DataW.weightsEach, hm]
        · cases h3
      cases fl with
      | nil =>
        subst ht
        simp only [List.map_cons, List.map_nil, readFs, Bool.and_eq_true] at hr
        obtain ⟨⟨h1, h2⟩, h3⟩ := hr
        obtain ⟨y, hy1, hy2⟩ := key K h1 h2 h3 (by omega)
        refine ⟨y, ?_, hy2⟩
        rw [List.take_of_length_le (by rw [List.length_drop]; omega)] at hy1
        exact hy1
      | cons g2 fl =>
        subst ht
        cases K with
        | pr a b =>
          simp only [List.map_cons, readFs, Bool.and_eq_true] at hr
          obtain ⟨⟨⟨h1, h2⟩, h3⟩, h4⟩ := hr
          rw [Kd.sz] at hc
          obtain ⟨y, hy1, hy2⟩ := key a h1 h2 h3 (by omega)
          obtain ⟨z, hz1, hz2⟩ := wqto T hf (n := n) (g2 :: fl) _ (off + a.sz) b xs rfl h4 (fun i g' hg' => by simpa using hx (i + 1) g' (by simpa using hg')) (by simpa using hl)
            (fun m hm => hw m (by simp [DataW.weightsEach] at hm ⊢; exact .inr hm)) (by omega)
          refine ⟨(y, z), ⟨(cs.drop off).take a.sz, (cs.drop off).drop a.sz, (List.take_append_drop _ _).symm, hy1, ?_⟩, hy2, hz2⟩
          rw [List.drop_drop]; exact hz1
        | _ => simp [readFs] at hr
theorem wqg5 {e : TypeId} : ∀ {l : List (DataW H)} {d : DataW H}, d ∈ l → ∀ m ∈ DataW.weights P e d, m ∈ DataW.weightsAll P e l
  | a :: r, d, h, m, hm => by
    rw [DataW.weightsAll]
    rcases List.mem_cons.1 h with rfl | h
    · exact List.mem_append_left _ hm
    · exact List.mem_append_right _ (wqg5 h m hm)
  | [], d, h, m, hm => by cases h
theorem wqy9 {P : Program} {w : World} {a : Addr} {n : Nat} {cs : List Value} (h : w.cells? 0 a n = some cs) : cs.length = n ∧ ∀ (j : Nat) (u : Value), cs[j]? = some u → w.cell? (a.add j) = some u := by
  unfold World.cells? at h
  rw [if_pos (Nat.zero_le _)] at h
  have key : ∀ (l : List Nat) (cs : List Value), l.mapM (fun i => w.cell? (a.add i)) = some cs → cs.length = l.length ∧ ∀ (j : Nat) (u : Value), cs[j]? = some u → ∃ i, l[j]? = some i ∧ w.cell? (a.add i) = some u := by
    intro l
    induction l with
    | nil => intro cs h; simp at h; subst h; exact ⟨rfl, fun j u hj => by simp at hj⟩
    | cons i l ih =>
      intro cs h
      rw [List.mapM_cons] at h
      cases hc : w.cell? (a.add i) with
      | none => rw [hc] at h; simp at h
      | some v =>
        cases hl : l.mapM (fun i => w.cell? (a.add i)) with
        | none => rw [hc, hl] at h; simp at h
        | some r =>
          rw [hc, hl] at h
          simp at h
          subst h
          obtain ⟨h1, h2⟩ := ih r hl
          refine ⟨by simp [h1], fun j u hj => ?_⟩
          cases j with
          | zero => simp at hj; subst hj; exact ⟨i, by simp, hc⟩
          | succ j => obtain ⟨i', h3, h4⟩ := h2 j u (by simpa using hj); exact ⟨i', by simpa using h3, h4⟩
  obtain ⟨h1, h2⟩ := key _ _ h
  refine ⟨by simpa using h1, fun j u hj => ?_⟩
  obtain ⟨i, h3, h4⟩ := h2 j u hj
  have hlt := (List.getElem?_eq_some_iff.1 h3).1
  have : i = j := by
    obtain ⟨_, e⟩ := List.getElem?_eq_some_iff.1 h3
    simpa using e.symm
  subst this
  exact h4
theorem wqwn (T : TyOk P ty) : ∀ (n : Nat) (t : TypeId) (K : Kd), readB ty n t K = true → ReadAt P enc w spare held t K
  | 0, t, K, h => by simp [readB] at h
  | n + 1, t, K, h => by
    intro fuel cs d ps ht hw
    rw [readB] at h
    split at h
    · cases h
    · next ti hti =>
      have hT := T _ _ hti
      obtain ⟨td, hu, hk⟩ := hT.kind
      split at h
      · next k k' hk1 =>
        have : k = k' := by simpa using h
        subst this
        rw [hk1] at hk; simp only at hk; subst hk
        obtain ⟨m, rfl, _, hwf⟩ := DataW.trod_int hu ht
        simp only [Lit.wf, Bool.and_eq_true, decide_eq_true_eq] at hwf
        exact ⟨m, rfl, hwf⟩
      · next hk1 =>
        rw [hk1] at hk; simp only at hk; subst hk
        obtain ⟨b, rfl, _⟩ := DataW.trod_bool hu ht
        exact ⟨b, rfl, trivial⟩
      · next hk1 =>
        rw [hk1] at hk; simp only at hk; subst hk
        obtain ⟨s, rfl, hx, _⟩ := DataW.trod_string hu ht
        cases hx
        refine ⟨s.data.toList, rfl, ?_⟩
        have := hw _ (by rw [DataW.weights]; exact List.mem_cons_self)
        simpa [Wf, reachBytes] using this
      · next hk1 =>
        rw [hk1] at hk; simp only at hk; subst hk
        cases fuel with
        | zero => simp [DataW.trod] at ht
        | succ m =>
          unfold DataW.trod at ht
          rw [hu] at ht
          split at ht
          case h_3 k k' b e1 =>
            simp only [Option.some.injEq, TypeDesc.float.injEq] at e1
            subst e1
            split at ht
            · next hh =>
              obtain ⟨rfl, hwf⟩ := hh
              refine ⟨b, rfl, ?_⟩
              simpa [Lit.wf, Wf] using hwf
            · cases ht
          all_goals simp_all
      · next e hk1 =>
        rw [hk1] at hk; simp only at hk; subst hk
        simp only [Bool.and_eq_true] at h
        obtain ⟨h1, h2⟩ := h
        split at h1
        · next ei hei =>
          simp only [Bool.and_eq_true] at h1
          obtain ⟨⟨h3, h4⟩, h5⟩ := h1
          have h3 : 0 < ei.size := Nat.le_of_ble_eq_true h3
          have h4 := beqN.1 h4
          have h5 := Nat.le_of_ble_eq_true h5
          have hE := T _ _ hei
          rcases DataW.trod_slice hu ht with ⟨rfl, _⟩ | ⟨a, len, cap, elems, rest, m, rfl, rfl, hx, _, hlc, hcm, hel, hat, _⟩
          · exact ⟨[], ⟨none, 0, rfl, Nat.le_refl _, .inl rfl⟩, by simp, fun y hy => by cases hy⟩
          · cases hx
            rw [DataW.weights, hu] at hw
            simp only at hw
            have hlen := hw _ List.mem_cons_self
            rw [List.length_map, List.length_map, hE.bytesOf] at hlen
            rw [hE.cellsOf, h4] at hat
            have ih := wqwn T n _ _ h2
            have each : ∀ i, i < len → ∃ (y : e.T) (c : List Value), RD w (fun _ => True) e y c ∧ Wf e y ∧ ∀ (j : Nat) (u : Value), c[j]? = some u → w.cell? (a.add (i * e.sz + j)) = some u := by
              intro i hi
              have h6 := hat i hi
              have h7 : elems[i]? = some elems[i] := by simp [hel, hi]
              rw [h7] at h6
              cases hc : w.cells? 0 (a.add (i * e.sz)) e.sz with
              | none => rw [hc] at h6; simp at h6
              | some c =>
                rw [hc, Option.bind_some] at h6
                obtain ⟨y, hy1, hy2⟩ := ih m c elems[i].1 elems[i].2 (by rw [h6]) (fun q hq => hw q (List.mem_cons_of_mem _ (List.mem_append_left _ (wqg5 (List.mem_map.2 ⟨elems[i], List.getElem_mem _, rfl⟩) q hq))))
                obtain ⟨_, hcell⟩ := wqy9 (P := P) hc
                refine ⟨y, c, hy1, hy2, fun j u hj => ?_⟩
                rw [← Addr.add_add]; exact hcell j u hj
            have all : ∃ l : List e.T, l.length = len ∧ (∀ y ∈ l, Wf e y) ∧ ∀ (i : Nat) (y : e.T), l[i]? = some y → ∃ c, RD w (fun _ => True) e y c ∧ ∀ (j : Nat) (u : Value), c[j]? = some u → w.cell? (a.add (i * e.sz + j)) = some u := by
              have key : ∀ k, k ≤ len → ∃ l : List e.T, l.length = k ∧ (∀ y ∈ l, Wf e y) ∧ ∀ (i : Nat) (y : e.T), l[i]? = some y → ∃ c, RD w (fun _ => True) e y c ∧ ∀ (j : Nat) (u : Value), c[j]? = some u → w.cell? (a.add (i * e.sz + j)) = some u := by
                intro k
                induction k with
                | zero => intro _; exact ⟨[], rfl, fun y hy => (by cases hy), fun i y hi => by simp at hi⟩
                | succ k ihk =>
                  intro hk
                  obtain ⟨l, hl1, hl2, hl3⟩ := ihk (by omega)
                  obtain ⟨y, c, e1, e2, e3⟩ := each k (by omega)
                  refine ⟨l ++ [y], by simp [hl1], fun z hz => ?_, fun i z hz => ?_⟩
                  · rcases List.mem_append.1 hz with hz | hz
                    · exact hl2 z hz
                    · simp at hz; subst hz; exact e2
                  · by_cases hi : i < l.length
                    · rw [List.getElem?_append_left hi] at hz; exact hl3 i z hz
                    · rw [List.getElem?_append_right (by omega)] at hz
                      have hi2 : i = k := by
                        have := (List.getElem?_eq_some_iff.1 hz).1
                        simp at this; omega
                      subst hi2
                      simp [hl1] at hz; subst hz
                      exact ⟨c, e1, e3⟩
              exact key len (Nat.le_refl _)
            obtain ⟨l, hl1, hl2, hl3⟩ := all
            refine ⟨l, ⟨some a, cap, by rw [hl1], by omega, ?_⟩, ?_, hl2⟩
            · by_cases hnil : l = []
              · exact .inl hnil
              · refine .inr ⟨a, rfl, trivial, ?_, hl3⟩
                have hpos : 0 < l.length := List.length_pos_iff.2 hnil
                obtain ⟨c, hc, hu'⟩ := hl3 0 l[0] (by simp)
                have hcl := hc.len
                have h0c : 0 < c.length := by omega
                have := hu' 0 c[0] (by simp [h0c])
                simp only [Nat.zero_mul, Nat.add_zero, Addr.add_zero'] at this
                refine Classical.byContradiction fun hno => ?_
                simp [World.cell?, Array.getElem?_eq_none (Nat.le_of_not_lt hno)] at this
            · rw [hl1, ← hel]
              refine Nat.le_trans (Nat.mul_le_mul_left _ h5) ?_
              refine Nat.le_trans (Nat.mul_le_mul_right _ (Nat.le_add_right _ rest.length)) ?_
              simpa [reachBytes] using hlen
        · cases h1
      · next hk1 =>
        rw [hk1] at hk; simp only at hk
        obtain ⟨fs, rfl, hfs, _⟩ := hk
        simp only [Bool.and_eq_true] at h
        obtain ⟨h1, h2⟩ := h
        obtain ⟨xs, m, rfl, hx, hcl, hxl, hat⟩ := DataW.trod_struct hu ht
        cases hx
        rw [DataW.weights, hu] at hw
        simp only at hw
        rw [hT.cellsOf, beqN.1 h2] at hcl
        have := wqto (enc := enc) (w := w) (spare := spare) (held := held) T (f := readB ty n) (fun t K h => wqwn T n t K h) (n := m) (cs := cs) fs.toList ti.fs 0 _ xs hfs h1 (fun i g hg => hat i g (by simpa using hg)) (by simpa using hxl) hw (by omega)
        rwa [List.drop_zero] at this
      · cases h
theorem okT {h : Heap} {G : Gh} (hh : ∀ n, h n = none) (hX : ∀ b, ¬ G.X b) {b : Nat} : okB h G b := ⟨fun n hn => by simp [blkOf, hh n] at hn, hX b⟩
theorem wqzm (T : TyOk P ty) {n base : Nat} {r : Reach} {t : TypeId} {K : Kd} (hr : readB ty n t K = true) (hs : (match ty t with | some ti => (match ti.k with | .struct => false | _ => true) | none => false) = true) {v : Value} {d : DataW H} {p : List MemPlace} (hval : Value.okWide P w r base t v) (hd : DataW.Trod enc P w 0 spare held t v d p)
    (hw : ∀ m ∈ DataW.weights P t d, m ≤ reachBytes) {h : Heap} {G : Gh} (hh : ∀ n, h n = none) (hX : ∀ b, ¬ G.X b) : ∃ x : K.T, Wf K x ∧ RV h G w (.v K x) v := by
  obtain ⟨fuel, hf⟩ := hd
  obtain ⟨x, h1, h2⟩ := wqwn T n t K hr fuel _ d p hf hw
  refine ⟨x, h2, ?_⟩
  have hc : v.cells.toList = [v] := by
    split at hs
    · next ti hti =>
      obtain ⟨td, hu, hk⟩ := (T _ _ hti).kind
      rw [readB.eq_def] at hr
      cases n with
      | zero => simp at hr
      | succ n =>
        simp only [hti] at hr
        split at hr
        · next hk1 => rw [hk1] at hk; simp only at hk; subst hk; obtain ⟨m, rfl⟩ := WideShapes.okWide_int hu hval; rfl
        · next hk1 => rw [hk1] at hk; simp only at hk; subst hk; simp only [Value.okWide, hu, Cell.okWide] at hval; cases v <;> simp_all [Cell.ok, Value.cells]
        · next hk1 => rw [hk1] at hk; simp only at hk; subst hk; obtain ⟨m, rfl⟩ := WideShapes.okWide_string hu hval; rfl
        · next hk1 => rw [hk1] at hk; simp only at hk; subst hk; simp only [Value.okWide, hu, Cell.okWide] at hval; cases v <;> simp_all [Cell.ok, Value.cells]
        · next hk1 => rw [hk1] at hk; simp only at hk; subst hk; obtain ⟨a, l, c, rfl⟩ := WideShapes.okWide_slice hu hval; rfl
        · next hk1 => rw [hk1] at hs; cases hs
        · cases hr
    · cases hs
  show RD w (okB h G) K x [v]
  rw [← hc]
  exact h1.mono fun b _ _ => ⟨okT hh hX, rfl⟩
def lawK : Out → Option Bool
  | .ret [.v .bool y] [] => some y
  | _ => none
def G0 : Gh := ⟨fun _ => 0, fun _ => .nilIface, fun _ => False⟩
theorem enters {f : FuncId} {fn : Func} {c : Code} (hfn : P.funcs[f]? = some fn) (hb : fn.body = some c) (hname : (fn.name == "runtime.NumGoroutine") = false) (args : Array Value) (w : World) : (callFunc f args).run P w = .ok (.enter f args) w := by
  have hn2 : ¬ fn.name = "runtime.NumGoroutine" := by simpa using hname
  simp [callFunc, program, Sem.run, hfn, hn2, hb]
theorem wqya {f : FuncId} {fn : Func} {c : Code} (hfn : P.funcs[f]? = some fn) (hb : fn.body = some c) (hname : (fn.name == "runtime.NumGoroutine") = false) {ps : List PV} {b : Bool} (h : DoesTo P f ps [] fun out => lawK out = some b) {vals : List Value} (hv : RVs (mkH []) G0 w ps vals) :
    Calls P f vals.toArray w fun e w' => e = .returned (.bool b) ∧ Below w.heap.size w w' := by
  have := h G0 w vals hv (fun n o hn => by cases hn) ⟨fun n m b hn => by simp [blkOf, mkH, look] at hn, fun n b hn => by simp [blkOf, mkH, look] at hn, fun b hb => hb.elim⟩
  unfold Does at this
  rw [enters hfn hb hname] at this
  refine Calls.mono this fun e w' hh => ?_
  obtain ⟨out, ho, G', hout, F⟩ := hh
  unfold lawK at ho
  split at ho
  · cases ho
    obtain ⟨v, rfl, hv⟩ := hout
    have hv : RD _ _ .bool b [v] := hv
    simp only [RD, List.cons.injEq, and_true] at hv
    subst hv
    exact ⟨rfl, F.os, F.tape, F.out, F.grow, fun k hk => F.blk k hk fun n hn => by simp [blkOf, mkH, look] at hn⟩
  · cases ho
theorem wqwo {ts : List TypeId} {ds : List (DataW H)} {vt : List TypeId} {gs : List (DataW H)} (h : (DataW.weightsEach P (ts ++ vt) (ds ++ gs)).all (· ≤ reachBytes) = true) : ∀ (i : Nat) (t : TypeId) (d : DataW H), ts[i]? = some t → ds[i]? = some d → ∀ m ∈ DataW.weights P t d, m ≤ reachBytes := by
  have key : ∀ (ts : List TypeId) (ds : List (DataW H)), (∀ m ∈ DataW.weightsEach P (ts ++ vt) (ds ++ gs), m ≤ reachBytes) → ∀ (i : Nat) (t : TypeId) (d : DataW H), ts[i]? = some t → ds[i]? = some d → ∀ m ∈ DataW.weights P t d, m ≤ reachBytes := by
    intro ts
    induction ts with
    | nil => intro ds _ i t d ht; simp at ht
    | cons t0 ts ih =>
      intro ds hw i t d ht hd m hm
      cases ds with
      | nil => simp at hd
      | cons d0 ds =>
        simp only [List.cons_append, DataW.weightsEach] at hw
        cases i with
        | zero => simp at ht hd; subst ht hd; exact hw m (List.mem_append_left _ hm)
        | succ i => exact ih ds (fun m hm => hw m (List.mem_append_right _ hm)) i t d (by simpa using ht) (by simpa using hd) m hm
  exact key ts ds (by simpa using h)
end
end Go.Proofs.YtmdmpogommehpaaDoor.Pvm
set_option maxRecDepth 100000
namespace Go.Proofs.YtmdmpogommehpaaDoor.Pvm
open Go Go.Proofs
abbrev kI : Kd := .int .i64
abbrev kdT30 : Kd := (.pr (.int .i64) (.pr (.int .i64) (.pr .str (.pr .bool (.pr (.sl .str) (.sl (.int .i64)))))))
abbrev kdT33 : Kd := (.sl (.pr (.int .i64) (.pr (.int .i64) (.pr .str (.pr .bool (.pr (.sl .str) (.sl (.int .i64))))))))
abbrev kdT93 : Kd := (.pr (.int .i64) (.pr (.int .i64) (.pr (.int .i64) (.pr .str .bool))))
abbrev dT93 : Type := (Int × (Int × (Int × ((List UInt8) × Bool))))
abbrev dT30 : Type := (Int × (Int × ((List UInt8) × (Bool × ((List (List UInt8)) × (List Int))))))
theorem mixed : Tryd.prog.follows .mixedOrders = true := by kernel_rfl
def ti1 : TI := ⟨.other, 1, 8, none, [.un], [], 0, false⟩
theorem ti1_ok : TiOk Tryd.prog 1 ti1 := TiOk.of (z := Go.Value.nilFunc) (d := (@Go.TypeDesc.func (@Array.mk Nat (@List.nil Nat)) (@Array.mk Nat (@List.nil Nat)) Bool.false)) (by kernel_rfl) (by kernel_rfl) (by kernel_rfl) trivial rfl trivial (by kernel_rfl) (fun h => nomatch h)
def ti2 : TI := ⟨.int .i64, 1, 8, some (.int .i64), [.v (.int .i64) 0], [], 0, false⟩
theorem ti2_ok : TiOk Tryd.prog 2 ti2 := TiOk.of (z := (@Go.Value.int Go.IntKind.i64 (@Int.ofNat 0))) (d := (@Go.TypeDesc.int Go.IntKind.i64)) (by kernel_rfl) (by kernel_rfl) (by kernel_rfl) ⟨by kernel_rfl, by kernel_rfl⟩ rfl rfl (by kernel_rfl) (fun h => nomatch h)
def ti3 : TI := ⟨.int .i64, 1, 8, some (.int .i64), [.v (.int .i64) 0], [], 0, false⟩
theorem ti3_ok : TiOk Tryd.prog 3 ti3 := TiOk.of (z := (@Go.Value.int Go.IntKind.i64 (@Int.ofNat 0))) (d := (@Go.TypeDesc.int Go.IntKind.i64)) (by kernel_rfl) (by kernel_rfl) (by kernel_rfl) ⟨by kernel_rfl, by kernel_rfl⟩ rfl rfl (by kernel_rfl) (fun h => nomatch h)
def ti4 : TI := ⟨.bool, 1, 1, some .bool, [.v .bool false], [], 0, false⟩
theorem ti4_ok : TiOk Tryd.prog 4 ti4 := TiOk.of (z := (@Go.Value.bool Bool.false)) (d := Go.TypeDesc.bool) (by kernel_rfl) (by kernel_rfl) (by kernel_rfl) ⟨by kernel_rfl, by kernel_rfl⟩ rfl rfl (by kernel_rfl) (fun h => nomatch h)
def ti5 : TI := ⟨.int .u8, 1, 1, some (.int .u8), [.v (.int .u8) 0], [], 0, false⟩
theorem ti5_ok : TiOk Tryd.prog 5 ti5 := TiOk.of (z := (@Go.Value.int Go.IntKind.u8 (@Int.ofNat 0))) (d := (@Go.TypeDesc.int Go.IntKind.u8)) (by kernel_rfl) (by kernel_rfl) (by kernel_rfl) ⟨by kernel_rfl, by kernel_rfl⟩ rfl rfl (by kernel_rfl) (fun h => nomatch h)
def ti9 : TI := ⟨.str, 1, 16, some .str, [.v .str []], [], 0, false⟩
theorem ti9_ok : TiOk Tryd.prog 9 ti9 := TiOk.of (z := (@Go.Value.string (@ByteArray.mk (@Array.mk UInt8 (@List.nil UInt8))))) (d := Go.TypeDesc.string) (by kernel_rfl) (by kernel_rfl) (by kernel_rfl) ⟨by kernel_rfl, by kernel_rfl⟩ rfl rfl (by kernel_rfl) (fun h => nomatch h)
def ti20 : TI := ⟨.iface, 1, 16, none, [.nilif], [], 0, false⟩
theorem wq10g : TiOk Tryd.prog 20 ti20 := TiOk.of (z := Go.Value.nilIface) (d := (@Go.TypeDesc.interface (@Array.mk (@Prod String Nat) (@List.nil (@Prod String Nat))))) (by kernel_rfl) (by kernel_rfl) (by kernel_rfl) trivial rfl ⟨_, rfl⟩ (by kernel_rfl) (fun h => nomatch h)
def ti21 : TI := ⟨.int .i32, 1, 4, some (.int .i32), [.v (.int .i32) 0], [], 0, false⟩
theorem wq10h : TiOk Tryd.prog 21 ti21 := TiOk.of (z := (@Go.Value.int Go.IntKind.i32 (@Int.ofNat 0))) (d := (@Go.TypeDesc.int Go.IntKind.i32)) (by kernel_rfl) (by kernel_rfl) (by kernel_rfl) ⟨by kernel_rfl, by kernel_rfl⟩ rfl rfl (by kernel_rfl) (fun h => nomatch h)
def ti23 : TI := ⟨.flt, 1, 8, some .flt, [.v .flt 0], [], 0, false⟩
theorem wq10i : TiOk Tryd.prog 23 ti23 := TiOk.of (z := (@Go.Value.float Go.FloatKind.f64 0)) (d := (@Go.TypeDesc.float Go.FloatKind.f64)) (by kernel_rfl) (by kernel_rfl) (by kernel_rfl) ⟨by kernel_rfl, by kernel_rfl⟩ rfl rfl (by kernel_rfl) (fun h => nomatch h)
def ti25 : TI := ⟨.struct, 2, 16, some (.pr (.int .i64) (.int .i64)), [.v (.int .i64) 0, .v (.int .i64) 0], [(0, 3), (1, 3)], 0, true⟩
theorem wq10j : TiOk Tryd.prog 25 ti25 := TiOk.of (z := (@Go.Value.agg (@Array.mk Go.Value (@List.cons Go.Value (@Go.Value.int Go.IntKind.i64 (@Int.ofNat 0)) (@List.cons Go.Value (@Go.Value.int Go.IntKind.i64 (@Int.ofNat 0)) (@List.nil Go.Value)))))) (d := (@Go.TypeDesc.struct (@Array.mk Go.Field (@List.cons Go.Field (@Go.Field.mk "Kind" 3 0 Bool.false "" "" 0) (@List.cons Go.Field (@Go.Field.mk "Line" 3 1 Bool.false "" "" 8) (@List.nil Go.Field)))))) (by kernel_rfl) (by kernel_rfl) (by kernel_rfl) ⟨by kernel_rfl, by kernel_rfl⟩ ⟨_, rfl⟩ ⟨_, rfl, by kernel_rfl, by kernel_rfl⟩ (by kernel_rfl) (fun _ _ => by kernel_rfl)
def ti28 : TI := ⟨.slice, 1, 24, some (.sl .str), [.nilsl], [], 9, false⟩
theorem wq10k : TiOk Tryd.prog 28 ti28 := TiOk.of (z := (@Go.Value.slice (@Option.none Go.Addr) 0 0)) (d := (@Go.TypeDesc.slice 9)) (by kernel_rfl) (by kernel_rfl) (by kernel_rfl) ⟨by kernel_rfl, by kernel_rfl⟩ rfl rfl (by kernel_rfl) (fun h => nomatch h)
def ti29 : TI := ⟨.slice, 1, 24, some (.sl (.int .i64)), [.nilsl], [], 3, false⟩
theorem wq10l : TiOk Tryd.prog 29 ti29 := TiOk.of (z := (@Go.Value.slice (@Option.none Go.Addr) 0 0)) (d := (@Go.TypeDesc.slice 3)) (by kernel_rfl) (by kernel_rfl) (by kernel_rfl) ⟨by kernel_rfl, by kernel_rfl⟩ rfl rfl (by kernel_rfl) (fun h => nomatch h)
def ti31 : TI := ⟨.struct, 6, 88, some (.pr (.int .i64) (.pr (.int .i64) (.pr .str (.pr .bool (.pr (.sl .str) (.sl (.int .i64))))))), [.v (.int .i64) 0, .v (.int .i64) 0, .v .str [], .v .bool false, .nilsl, .nilsl], [(0, 3), (1, 3), (2, 9), (3, 4), (4, 28), (5, 29)], 0, false⟩
theorem wq10m : TiOk Tryd.prog 31 ti31 := TiOk.of (z := (@Go.Value.agg (@Array.mk Go.Value (@List.cons Go.Value (@Go.Value.int Go.IntKind.i64 (@Int.ofNat 0)) (@List.cons Go.Value (@Go.Value.int Go.IntKind.i64 (@Int.ofNat 0)) (@List.cons Go.Value (@Go.Value.string (@ByteArray.mk (@Array.mk UInt8 (@List.nil UInt8)))) (@List.cons Go.Value (@Go.Value.bool Bool.false) (@List.cons Go.Value (@Go.Value.slice (@Option.none Go.Addr) 0 0) (@List.cons Go.Value (@Go.Value.slice (@Option.none Go.Addr) 0 0) (@List.nil Go.Value)))))))))) (d := (@Go.TypeDesc.struct (@Array.mk Go.Field (@List.cons Go.Field (@Go.Field.mk "Kind" 3 0 Bool.false "" "" 0) (@List.cons Go.Field (@Go.Field.mk "Line" 3 1 Bool.false "" "" 8) (@List.cons Go.Field (@Go.Field.mk "Text" 9 2 Bool.false "" "" 16) (@List.cons Go.Field (@Go.Field.mk "Quoted" 4 3 Bool.false "" "" 32) (@List.cons Go.Field (@Go.Field.mk "Keys" 28 4 Bool.false "" "" 40) (@List.cons Go.Field (@Go.Field.mk "Kids" 29 5 Bool.false "" "" 64) (@List.nil Go.Field)))))))))) (by kernel_rfl) (by kernel_rfl) (by kernel_rfl) ⟨by kernel_rfl, by kernel_rfl⟩ ⟨_, rfl⟩ ⟨_, rfl, by kernel_rfl, by kernel_rfl⟩ (by kernel_rfl) (fun h => nomatch h)
def ti32 : TI := ⟨.slice, 1, 24, some (.sl (.pr (.int .i64) (.pr (.int .i64) (.pr .str (.pr .bool (.pr (.sl .str) (.sl (.int .i64)))))))), [.nilsl], [], 31, false⟩
theorem wq10n : TiOk Tryd.prog 32 ti32 := TiOk.of (z := (@Go.Value.slice (@Option.none Go.Addr) 0 0)) (d := (@Go.TypeDesc.slice 31)) (by kernel_rfl) (by kernel_rfl) (by kernel_rfl) ⟨by kernel_rfl, by kernel_rfl⟩ rfl rfl (by kernel_rfl) (fun h => nomatch h)
def ti34 : TI := ⟨.struct, 1, 24, some (.sl (.pr (.int .i64) (.pr (.int .i64) (.pr .str (.pr .bool (.pr (.sl .str) (.sl (.int .i64)))))))), [.nilsl], [(0, 32)], 0, false⟩
theorem wq10o : TiOk Tryd.prog 34 ti34 := TiOk.of (z := (@Go.Value.agg (@Array.mk Go.Value (@List.cons Go.Value (@Go.Value.slice (@Option.none Go.Addr) 0 0) (@List.nil Go.Value))))) (d := (@Go.TypeDesc.struct (@Array.mk Go.Field (@List.cons Go.Field (@Go.Field.mk "Nodes" 32 0 Bool.false "" "" 0) (@List.nil Go.Field))))) (by kernel_rfl) (by kernel_rfl) (by kernel_rfl) ⟨by kernel_rfl, by kernel_rfl⟩ ⟨_, rfl⟩ ⟨_, rfl, by kernel_rfl, by kernel_rfl⟩ (by kernel_rfl) (fun h => nomatch h)
def ti35 : TI := ⟨.int .u64, 1, 8, some (.int .u64), [.v (.int .u64) 0], [], 0, false⟩
theorem wq10p : TiOk Tryd.prog 35 ti35 := TiOk.of (z := (@Go.Value.int Go.IntKind.u64 (@Int.ofNat 0))) (d := (@Go.TypeDesc.int Go.IntKind.u64)) (by kernel_rfl) (by kernel_rfl) (by kernel_rfl) ⟨by kernel_rfl, by kernel_rfl⟩ rfl rfl (by kernel_rfl) (fun h => nomatch h)
def ti48 : TI := ⟨.struct, 1, 24, some (.sl (.pr (.int .i64) (.pr (.int .i64) (.pr .str (.pr .bool (.pr (.sl .str) (.sl (.int .i64)))))))), [.nilsl], [(0, 34)], 0, false⟩
theorem wq10q : TiOk Tryd.prog 48 ti48 := TiOk.of (z := (@Go.Value.agg (@Array.mk Go.Value (@List.cons Go.Value (@Go.Value.slice (@Option.none Go.Addr) 0 0) (@List.nil Go.Value))))) (d := (@Go.TypeDesc.struct (@Array.mk Go.Field (@List.cons Go.Field (@Go.Field.mk "D" 34 0 Bool.false "" "" 0) (@List.nil Go.Field))))) (by kernel_rfl) (by kernel_rfl) (by kernel_rfl) ⟨by kernel_rfl, by kernel_rfl⟩ ⟨_, rfl⟩ ⟨_, rfl, by kernel_rfl, by kernel_rfl⟩ (by kernel_rfl) (fun h => nomatch h)
def ti58 : TI := ⟨.int .i64, 1, 8, some (.int .i64), [.v (.int .i64) 0], [], 0, false⟩
theorem wq10r : TiOk Tryd.prog 58 ti58 := TiOk.of (z := (@Go.Value.int Go.IntKind.i64 (@Int.ofNat 0))) (d := (@Go.TypeDesc.int Go.IntKind.i64)) (by kernel_rfl) (by kernel_rfl) (by kernel_rfl) ⟨by kernel_rfl, by kernel_rfl⟩ rfl rfl (by kernel_rfl) (fun h => nomatch h)
def ti83 : TI := ⟨.slice, 1, 24, some (.sl (.int .u8)), [.nilsl], [], 5, false⟩
theorem wq10s : TiOk Tryd.prog 83 ti83 := TiOk.of (z := (@Go.Value.slice (@Option.none Go.Addr) 0 0)) (d := (@Go.TypeDesc.slice 5)) (by kernel_rfl) (by kernel_rfl) (by kernel_rfl) ⟨by kernel_rfl, by kernel_rfl⟩ rfl rfl (by kernel_rfl) (fun h => nomatch h)
def ti88 : TI := ⟨.slice, 1, 24, some (.sl (.pr (.int .i64) (.pr (.int .i64) (.pr (.int .i64) (.pr .str .bool))))), [.nilsl], [], 94, false⟩
theorem wq10t : TiOk Tryd.prog 88 ti88 := TiOk.of (z := (@Go.Value.slice (@Option.none Go.Addr) 0 0)) (d := (@Go.TypeDesc.slice 94)) (by kernel_rfl) (by kernel_rfl) (by kernel_rfl) ⟨by kernel_rfl, by kernel_rfl⟩ rfl rfl (by kernel_rfl) (fun h => nomatch h)
def ti92 : TI := ⟨.struct, 3, 32, some (.pr (.int .i64) (.pr (.int .i64) .str)), [.v (.int .i64) 0, .v (.int .i64) 0, .v .str []], [(0, 3), (1, 3), (2, 9)], 0, true⟩
theorem wq10u : TiOk Tryd.prog 92 ti92 := TiOk.of (z := (@Go.Value.agg (@Array.mk Go.Value (@List.cons Go.Value (@Go.Value.int Go.IntKind.i64 (@Int.ofNat 0)) (@List.cons Go.Value (@Go.Value.int Go.IntKind.i64 (@Int.ofNat 0)) (@List.cons Go.Value (@Go.Value.string (@ByteArray.mk (@Array.mk UInt8 (@List.nil UInt8)))) (@List.nil Go.Value))))))) (d := (@Go.TypeDesc.struct (@Array.mk Go.Field (@List.cons Go.Field (@Go.Field.mk "No" 3 0 Bool.false "" "" 0) (@List.cons Go.Field (@Go.Field.mk "Indent" 3 1 Bool.false "" "" 8) (@List.cons Go.Field (@Go.Field.mk "Text" 9 2 Bool.false "" "" 16) (@List.nil Go.Field))))))) (by kernel_rfl) (by kernel_rfl) (by kernel_rfl) ⟨by kernel_rfl, by kernel_rfl⟩ ⟨_, rfl⟩ ⟨_, rfl, by kernel_rfl, by kernel_rfl⟩ (by kernel_rfl) (fun _ _ => by kernel_rfl)
def ti94 : TI := ⟨.struct, 5, 48, some (.pr (.int .i64) (.pr (.int .i64) (.pr (.int .i64) (.pr .str .bool)))), [.v (.int .i64) 0, .v (.int .i64) 0, .v (.int .i64) 0, .v .str [], .v .bool false], [(0, 3), (1, 3), (2, 3), (3, 9), (4, 4)], 0, true⟩
theorem wq10v : TiOk Tryd.prog 94 ti94 := TiOk.of (z := (@Go.Value.agg (@Array.mk Go.Value (@List.cons Go.Value (@Go.Value.int Go.IntKind.i64 (@Int.ofNat 0)) (@List.cons Go.Value (@Go.Value.int Go.IntKind.i64 (@Int.ofNat 0)) (@List.cons Go.Value (@Go.Value.int Go.IntKind.i64 (@Int.ofNat 0)) (@List.cons Go.Value (@Go.Value.string (@ByteArray.mk (@Array.mk UInt8 (@List.nil UInt8)))) (@List.cons Go.Value (@Go.Value.bool Bool.false) (@List.nil Go.Value))))))))) (d := (@Go.TypeDesc.struct (@Array.mk Go.Field (@List.cons Go.Field (@Go.Field.mk "Kind" 3 0 Bool.false "" "" 0) (@List.cons Go.Field (@Go.Field.mk "Line" 3 1 Bool.false "" "" 8) (@List.cons Go.Field (@Go.Field.mk "Col" 3 2 Bool.false "" "" 16) (@List.cons Go.Field (@Go.Field.mk "Text" 9 3 Bool.false "" "" 24) (@List.cons Go.Field (@Go.Field.mk "Quoted" 4 4 Bool.false "" "" 40) (@List.nil Go.Field))))))))) (by kernel_rfl) (by kernel_rfl) (by kernel_rfl) ⟨by kernel_rfl, by kernel_rfl⟩ ⟨_, rfl⟩ ⟨_, rfl, by kernel_rfl, by kernel_rfl⟩ (by kernel_rfl) (fun _ _ => by kernel_rfl)
def ti95 : TI := ⟨.map, 1, 8, none, [.un], [], 4, false⟩
theorem wq10w : TiOk Tryd.prog 95 ti95 := TiOk.of (z := (@Go.Value.map (@Option.none Nat))) (d := (@Go.TypeDesc.map 9 4)) (by kernel_rfl) (by kernel_rfl) (by kernel_rfl) trivial rfl ⟨_, rfl, by kernel_rfl⟩ (by kernel_rfl) (fun h => nomatch h)
def ti97 : TI := ⟨.int .u64, 1, 8, some (.int .u64), [.v (.int .u64) 0], [], 0, false⟩
theorem wq10x : TiOk Tryd.prog 97 ti97 := TiOk.of (z := (@Go.Value.int Go.IntKind.u64 (@Int.ofNat 0))) (d := (@Go.TypeDesc.int Go.IntKind.u64)) (by kernel_rfl) (by kernel_rfl) (by kernel_rfl) ⟨by kernel_rfl, by kernel_rfl⟩ rfl rfl (by kernel_rfl) (fun h => nomatch h)
def ti100 : TI := ⟨.ptr, 1, 8, none, [.nilptr], [], 102, false⟩
theorem wqzn : TiOk Tryd.prog 100 ti100 := TiOk.of (z := (@Go.Value.pointer (@Option.none Go.Addr))) (d := (@Go.TypeDesc.pointer 102)) (by kernel_rfl) (by kernel_rfl) (by kernel_rfl) trivial rfl rfl (by kernel_rfl) (fun h => nomatch h)
def ti102 : TI := ⟨.struct, 5, 64, some (.pr (.pr (.int .i64) (.pr (.int .i64) .str)) (.pr (.int .i64) (.sl (.pr (.int .i64) (.pr (.int .i64) (.pr (.int .i64) (.pr .str .bool))))))), [.v (.int .i64) 0, .v (.int .i64) 0, .v .str [], .v (.int .i64) 0, .nilsl], [(0, 92), (3, 3), (4, 88)], 0, false⟩
theorem wqzo : TiOk Tryd.prog 102 ti102 := TiOk.of (z := (@Go.Value.agg (@Array.mk Go.Value (@List.cons Go.Value (@Go.Value.int Go.IntKind.i64 (@Int.ofNat 0)) (@List.cons Go.Value (@Go.Value.int Go.IntKind.i64 (@Int.ofNat 0)) (@List.cons Go.Value (@Go.Value.string (@ByteArray.mk (@Array.mk UInt8 (@List.nil UInt8)))) (@List.cons Go.Value (@Go.Value.int Go.IntKind.i64 (@Int.ofNat 0)) (@List.cons Go.Value (@Go.Value.slice (@Option.none Go.Addr) 0 0) (@List.nil Go.Value))))))))) (d := (@Go.TypeDesc.struct (@Array.mk Go.Field (@List.cons Go.Field (@Go.Field.mk "l" 92 0 Bool.false "" "turncock/lex" 0) (@List.cons Go.Field (@Go.Field.mk "at" 3 3 Bool.false "" "turncock/lex" 32) (@List.cons Go.Field (@Go.Field.mk "out" 88 4 Bool.false "" "turncock/lex" 40) (@List.nil Go.Field))))))) (by kernel_rfl) (by kernel_rfl) (by kernel_rfl) ⟨by kernel_rfl, by kernel_rfl⟩ ⟨_, rfl⟩ ⟨_, rfl, by kernel_rfl, by kernel_rfl⟩ (by kernel_rfl) (fun h => nomatch h)
def ti113 : TI := ⟨.ptr, 1, 8, none, [.nilptr], [], 109, false⟩
theorem wqzp : TiOk Tryd.prog 113 ti113 := TiOk.of (z := (@Go.Value.pointer (@Option.none Go.Addr))) (d := (@Go.TypeDesc.pointer 109)) (by kernel_rfl) (by kernel_rfl) (by kernel_rfl) trivial rfl rfl (by kernel_rfl) (fun h => nomatch h)
def ti125 : TI := ⟨.ptr, 1, 8, none, [.nilptr], [], 127, false⟩
theorem wqzq : TiOk Tryd.prog 125 ti125 := TiOk.of (z := (@Go.Value.pointer (@Option.none Go.Addr))) (d := (@Go.TypeDesc.pointer 127)) (by kernel_rfl) (by kernel_rfl) (by kernel_rfl) trivial rfl rfl (by kernel_rfl) (fun h => nomatch h)
def ti127 : TI := ⟨.struct, 2, 32, none, [.nilptr, .nilsl], [(0, 125), (1, 83)], 0, false⟩
theorem wqzr : TiOk Tryd.prog 127 ti127 := TiOk.of (z := (@Go.Value.agg (@Array.mk Go.Value (@List.cons Go.Value (@Go.Value.pointer (@Option.none Go.Addr)) (@List.cons Go.Value (@Go.Value.slice (@Option.none Go.Addr) 0 0) (@List.nil Go.Value)))))) (d := (@Go.TypeDesc.struct (@Array.mk Go.Field (@List.cons Go.Field (@Go.Field.mk "addr" 125 0 Bool.false "" "strings" 0) (@List.cons Go.Field (@Go.Field.mk "buf" 83 1 Bool.false "" "strings" 8) (@List.nil Go.Field)))))) (by kernel_rfl) (by kernel_rfl) (by kernel_rfl) trivial ⟨_, rfl⟩ ⟨_, rfl, by kernel_rfl, by kernel_rfl⟩ (by kernel_rfl) (fun h => nomatch h)
def ti129 : TI := ⟨.iface, 1, 16, none, [.nilif], [], 0, false⟩
theorem wqzs : TiOk Tryd.prog 129 ti129 := TiOk.of (z := Go.Value.nilIface) (d := (@Go.TypeDesc.interface (@Array.mk (@Prod String Nat) (@List.cons (@Prod String Nat) (@Prod.mk String Nat "Error" 115) (@List.nil (@Prod String Nat)))))) (by kernel_rfl) (by kernel_rfl) (by kernel_rfl) trivial rfl ⟨_, rfl⟩ (by kernel_rfl) (fun h => nomatch h)
def ti134 : TI := ⟨.ptr, 1, 8, none, [.nilptr], [], 5, false⟩
theorem wqzt : TiOk Tryd.prog 134 ti134 := TiOk.of (z := (@Go.Value.pointer (@Option.none Go.Addr))) (d := (@Go.TypeDesc.pointer 5)) (by kernel_rfl) (by kernel_rfl) (by kernel_rfl) trivial rfl rfl (by kernel_rfl) (fun h => nomatch h)
def tyL : List (Nat × TI) := [(1, ti1), (2, ti2), (3, ti3), (4, ti4), (5, ti5), (9, ti9), (20, ti20), (21, ti21), (23, ti23), (25, ti25), (28, ti28), (29, ti29), (31, ti31), (32, ti32), (34, ti34), (35, ti35), (48, ti48), (58, ti58), (83, ti83), (88, ti88), (92, ti92), (94, ti94), (95, ti95), (97, ti97), (100, ti100), (102, ti102), (113, ti113), (125, ti125), (127, ti127), (129, ti129), (134, ti134)]
def tyT : TypeId → Option TI := look tyL
theorem tyT_ok : TyOk Tryd.prog tyT := wq10c (all_cons ti1_ok (all_cons ti2_ok (all_cons ti3_ok (all_cons ti4_ok (all_cons ti5_ok (all_cons ti9_ok (all_cons wq10g (all_cons wq10h (all_cons wq10i (all_cons wq10j (all_cons wq10k (all_cons wq10l (all_cons wq10m (all_cons wq10n (all_cons wq10o (all_cons wq10p (all_cons wq10q (all_cons wq10r (all_cons wq10s (all_cons wq10t (all_cons wq10u (all_cons wq10v (all_cons wq10w (all_cons wq10x (all_cons wqzn (all_cons wqzo (all_cons wqzp (all_cons wqzq (all_cons wqzr (all_cons wqzs (all_cons wqzt (wq10d))))))))))))))))))))))))))))))))
end Go.Proofs.YtmdmpogommehpaaDoor.Pvm
namespace Go.Proofs.YtmdmpogommehpaaDoor.Pvm
open Go
variable {P : Program}
def cdOf (fn : Func) : Code := fn.body.getD .skip
def fnW (cx : Ctx) (k : Nat) (fn : Func) (sp : RetSpec) {R : Type} (ps : List PV) (hp : List (Nm × HObj)) (wr : Out → Option R) : Option R := fnK cx k (cdOf fn) fn.ntmps fn.results.toList sp ps hp wr
def bodyK (cx : Ctx) (k : Nat) (fn : Func) (sp : RetSpec) (p : List Nat) {R : Type} (I : Nat → St → Option R) (s : St) (wr : Out → Option R) : Option R :=
  execK cx k (at_ p (cdOf fn)) s (konts cx k I p (cdOf fn) (outK cx sp fn.results.toList wr))
def loopK (cx : Ctx) (k : Nat) (fn : Func) (sp : RetSpec) (id : Nat) (p : List Nat) {R : Type} (I : Nat → St → Option R) (n : Nat) (s : St) (wr : Out → Option R) : Option R :=
  iter cx.pv (look cx.cuts id) (execK cx k (at_ (p ++ [0]) (cdOf fn))) n s (konts cx k I p (cdOf fn) (outK cx sp fn.results.toList wr))
def upI {R : Type} (id : Nat) (f : St → Option R) (I : Nat → St → Option R) : Nat → St → Option R := fun i s => bif Nat.beq i id then f s else I i s
theorem wq3x {R : Type} (id : Nat) (f : St → Option R) (I : Nat → St → Option R) (s : St) : upI id f I id s = f s := by unfold upI; rw [Nat.beq_refl]; rfl
def DOK (P : Program) (f : FuncId) (run : {R : Type} → List PV → List (Nm × HObj) → (Out → Option R) → Option R) : Prop :=
  ∀ (ps : List PV) (hp : List (Nm × HObj)) (R : Type) (K : Out → Option R) (r : R), run ps hp K = some r → DoesTo P f ps hp fun out => K out = some r
theorem wq5 {f : FuncId} {s : List LS} {C : CTab} {run : {R : Type} → List PV → List (Nm × HObj) → (Out → Option R) → Option R} (h : DOK P f run) (hC : C.Ok P) : (CTab.add f s run C).Ok P := CTab.add_ok (h _ _ _ _ _) hC
theorem fnW_ok {cx : Ctx} (X : cx.Ok P) (hm : P.follows .mixedOrders = true) {f : FuncId} {fn : Func} (h1 : P.funcs[f]? = some fn) (h2 : (fn.body.isSome && !(fn.name == "runtime.NumGoroutine") && codeOk fn.ntmps (cdOf fn)) = true)
    {k : Nat} {sp : RetSpec} {ps : List PV} {hp : List (Nm × HObj)} {R : Type} {wr K : Out → Option R} {r : R} (h : fnW cx k fn sp ps hp wr = some r) (hw : ∀ o, wr o = some r → K o = some r) : DoesTo P f ps hp fun out => K out = some r := by
  simp only [Bool.and_eq_true, Bool.not_eq_true'] at h2
  obtain ⟨⟨h3, h4⟩, h5⟩ := h2
  obtain ⟨c, hc⟩ := Option.isSome_iff_exists.1 h3
  have e : cdOf fn = c := by unfold cdOf; rw [hc]; rfl
  unfold fnW at h
  rw [e] at h h5
  exact (fn_ok X hm h1 hc h4 rfl h5 h).mono hw
end Go.Proofs.YtmdmpogommehpaaDoor.Pvm
set_option maxRecDepth 1000000
set_option maxHeartbeats 0
noncomputable section
namespace Go.Proofs.YtmdmpogommehpaaDoor.Pvm
open Go Go.Proofs
def wq19 : List LS := [.ag [.sl kdT30], .any, .any]
def wq85 {R : Type} (K : (Int → Int → Option R)) : Out → Option R
  | .ret [.agg [.v (.int .i64) y0, .v (.int .i64) y1]] [] => K y0 y1
  | _ => none
def wqg6 : RetSpec := ⟨[.ag [.any, .any]], [], []⟩
def wqg7 (k : Nat) : Ctx := ⟨tyT, [], .nil, [], [], [], @SH⟩
def wq6s (k : Nat) {R : Type}  (x0 : (List dT30)) (x1 x2 : Int) (K : (Int → Int → Option R)) : Option R := (cond (inb x1 (x0.length : Int)) (K x2 ((x0.getD x1.toNat (Kd.zero (@Kd.pr kI (@Kd.pr kI (@Kd.pr Kd.str (@Kd.pr Kd.bool (@Kd.pr (@Kd.sl Kd.str) (@Kd.sl kI)))))))).2).1) none)
def wqe (k : Nat) {R : Type} (x0 : (List dT30)) (x1 x2 : Int) (K : (Int → Int → Option R)) : Option R := wq6s k  x0 x1 x2 K
theorem wqdo (k : Nat) {R : Type} (x0 : (List dT30)) (x1 x2 : Int) (K : (Int → Int → Option R)) : fnW (wqg7 k) k Tryd.f25 wqg6 [.agg [.v kdT33 x0], .v kI x1, .v kI x2] [] (wq85 K) = wqe k x0 x1 x2 K := by
  kernel_rfl
def wql (k : Nat) {R : Type} : List PV → List (Nm × HObj) → (Out → Option R) → Option R
  | [.agg [.v (.sl (.pr (.int .i64) (.pr (.int .i64) (.pr .str (.pr .bool (.pr (.sl .str) (.sl (.int .i64)))))))) x0], .v (.int .i64) x1, .v (.int .i64) x2], [], K => wqe k x0 x1 x2 (fun y0 y1 => K (.ret [.agg [.v (.int .i64) y0, .v (.int .i64) y1]] []))
  | _, _, _ => none
theorem wq1z (k : Nat) : DOK Tryd.prog 25 (wql k) := by
  intro ps hp R K r h
  have h : wql k ps hp K = some r := h
  unfold wql at h
  split at h
  · rw [← wqdo] at h
    exact fnW_ok ⟨tyT_ok, CTab.nil_ok, fun _ _ => rfl⟩ mixed (by kernel_rfl) (by kernel_rfl) h fun o ho => by unfold wq85 at ho; split at ho <;> first | exact ho | cases ho
  · cases h
end Go.Proofs.YtmdmpogommehpaaDoor.Pvm
end


noncomputable section
namespace Go.Proofs.YtmdmpogommehpaaDoor.Pvm
open Go Go.Proofs
def wq5z : List LS := [.ag [.sl kdT30], .any, .any]
def wq93 {R : Type} (K : (Int → Int → Option R)) : Out → Option R
  | .ret [.agg [.v (.int .i64) y0, .v (.int .i64) y1]] [] => K y0 y1
  | _ => none
def wqho : RetSpec := ⟨[.ag [.any, .any]], [], []⟩
def wqhp (k : Nat) : Ctx := ⟨tyT, [], (.add 25 wq19 (wql k) .nil), [], [], [], @SH⟩
def wqbv (k : Nat) {R : Type}  (x0 : (List dT30)) (x1 x2 : Int) (K : (Int → Int → Option R)) : Option R := (cond (inb x1 (x0.length : Int)) (cond ((x0.getD x1.toNat (Kd.zero (@Kd.pr kI (@Kd.pr kI (@Kd.pr Kd.str (@Kd.pr Kd.bool (@Kd.pr (@Kd.sl Kd.str) (@Kd.sl kI)))))))).1 != x2) (wqe k x0 x1 11 (fun y6 y7 => (K y6 y7))) (K 0 0)) none)
def wq1n (k : Nat) {R : Type} (x0 : (List dT30)) (x1 x2 : Int) (K : (Int → Int → Option R)) : Option R := wqbv k  x0 x1 x2 K
theorem wqem (k : Nat) {R : Type} (x0 : (List dT30)) (x1 x2 : Int) (K : (Int → Int → Option R)) : fnW (wqhp k) k Tryd.f20 wqho [.agg [.v kdT33 x0], .v kI x1, .v kI x2] [] (wq93 K) = wq1n k x0 x1 x2 K := by
  kernel_rfl
def wq1h (k : Nat) {R : Type} : List PV → List (Nm × HObj) → (Out → Option R) → Option R
  | [.agg [.v (.sl (.pr (.int .i64) (.pr (.int .i64) (.pr .str (.pr .bool (.pr (.sl .str) (.sl (.int .i64)))))))) x0], .v (.int .i64) x1, .v (.int .i64) x2], [], K => wq1n k x0 x1 x2 (fun y0 y1 => K (.ret [.agg [.v (.int .i64) y0, .v (.int .i64) y1]] []))
  | _, _, _ => none
theorem wq7t (k : Nat) : DOK Tryd.prog 20 (wq1h k) := by
  intro ps hp R K r h
  have h : wq1h k ps hp K = some r := h
  unfold wq1h at h
  split at h
  · rw [← wqem] at h
    exact fnW_ok ⟨tyT_ok, (wq5 (wq1z k) CTab.nil_ok), fun _ _ => rfl⟩ mixed (by kernel_rfl) (by kernel_rfl) h fun o ho => by unfold wq93 at ho; split at ho <;> first | exact ho | cases ho
  · cases h
end Go.Proofs.YtmdmpogommehpaaDoor.Pvm
end


noncomputable section
namespace Go.Proofs.YtmdmpogommehpaaDoor.Pvm
open Go Go.Proofs
def wq60 : List LS := [.ag [.sl kdT30], .any, .any]
def wq94 {R : Type} (K : ((List UInt8) → Int → Int → Option R)) : Out → Option R
  | .ret [.v .str y0, .agg [.v (.int .i64) y1, .v (.int .i64) y2]] [] => K y0 y1 y2
  | _ => none
def wqhq : RetSpec := ⟨[.any, .ag [.any, .any]], [], []⟩
def wqhr (k : Nat) : Ctx := ⟨tyT, [], (.add 20 wq5z (wq1h k) (.add 25 wq19 (wql k) .nil)), [], [], [(3, (.of [(1, 1), (0, 1), (2, 0)] .done))], @SH⟩
def wqbw (k : Nat) {R : Type}  (x0 : (List dT30)) (x1 x2 : Int) (K : ((List UInt8) → Int → Int → Option R)) : Option R := (wq1n k x0 x1 1 (fun y6 y7 => (cond (y6 != 0) (K [] y6 y7) (cond (inb x1 (x0.length : Int)) (cond ((((x0.getD x1.toNat (Kd.zero (@Kd.pr kI (@Kd.pr kI (@Kd.pr Kd.str (@Kd.pr Kd.bool (@Kd.pr (@Kd.sl Kd.str) (@Kd.sl kI)))))))).2).2).2).1 (wqe k x0 x1 x2 (fun y8 y9 => (K [] y8 y9))) (cond (inb x1 (x0.length : Int)) (K (((x0.getD x1.toNat (Kd.zero (@Kd.pr kI (@Kd.pr kI (@Kd.pr Kd.str (@Kd.pr Kd.bool (@Kd.pr (@Kd.sl Kd.str) (@Kd.sl kI)))))))).2).2).1 0 0) none)) none))))
def wq1o (k : Nat) {R : Type} (x0 : (List dT30)) (x1 x2 : Int) (K : ((List UInt8) → Int → Int → Option R)) : Option R := wqbw k  x0 x1 x2 K
theorem wqen (k : Nat) {R : Type} (x0 : (List dT30)) (x1 x2 : Int) (K : ((List UInt8) → Int → Int → Option R)) : fnW (wqhr k) k Tryd.f22 wqhq [.agg [.v kdT33 x0], .v kI x1, .v kI x2] [] (wq94 K) = wq1o k x0 x1 x2 K := by
  kernel_rfl
def wq1i (k : Nat) {R : Type} : List PV → List (Nm × HObj) → (Out → Option R) → Option R
  | [.agg [.v (.sl (.pr (.int .i64) (.pr (.int .i64) (.pr .str (.pr .bool (.pr (.sl .str) (.sl (.int .i64)))))))) x0], .v (.int .i64) x1, .v (.int .i64) x2], [], K => wq1o k x0 x1 x2 (fun y0 y1 y2 => K (.ret [.v .str y0, .agg [.v (.int .i64) y1, .v (.int .i64) y2]] []))
  | _, _, _ => none
theorem wq7u (k : Nat) : DOK Tryd.prog 22 (wq1i k) := by
  intro ps hp R K r h
  have h : wq1i k ps hp K = some r := h
  unfold wq1i at h
  split at h
  · rw [← wqen] at h
    exact fnW_ok ⟨tyT_ok, (wq5 (wq7t k) (wq5 (wq1z k) CTab.nil_ok)), fun _ _ => rfl⟩ mixed (by kernel_rfl) (by kernel_rfl) h fun o ho => by unfold wq94 at ho; split at ho <;> first | exact ho | cases ho
  · cases h
end Go.Proofs.YtmdmpogommehpaaDoor.Pvm
end


namespace Go.Proofs.YtmdmpogommehpaaDoor.Pvm
open Go Go.Proofs
theorem wqwp {G : Gh} {w : World} : Fin [] [] G w G w :=
  ⟨fun n o h => (by cases h), fun n m b h => (by simp [blkOf, mkH, look] at h), fun n t cs h => (by cases h), fun n ag V es h => (by cases h), fun _ _ _ => rfl, rfl, fun n b h => (by simp [blkOf, mkH, look] at h), Nat.le_refl _, rfl, rfl, rfl⟩
theorem wqyx {P : Program} {f : FuncId} {fn : Func} {g : Array Value → Sem Value} (h1 : P.funcs[f]? = some fn) (h2 : (fn.name == "runtime.NumGoroutine") = false) (h3 : fn.body.isNone = true) (h4 : (Extern.findNext fn).isNone = true)
    (h5 : Extern.find fn = some g) (args : Array Value) (w : World) {v : Value} (h6 : (g args).run P w = .ok v w) : (callFunc f args).run P w = .ok (.value v) w := by
  have h4' : Extern.findNext fn = none := by
    cases hq : Extern.findNext fn with
    | none => rfl
    | some e => rw [hq] at h4; cases h4
  have h2' : ¬ fn.name = "runtime.NumGoroutine" := by simpa using h2
  have e1 : (callFunc f args).run P w = (g args >>= fun v => pure (Next.value v)).run P w := by
    unfold callFunc
    rw [Sem.run_bind]
    have e2 : (program).run P w = .ok P w := rfl
    rw [e2, Result.andThen_ok, h1]
    simp only [h2, h3, if_true, Bool.false_eq_true, if_false]
    rw [Sem.run_bind]
    have e3 : (mark (.extern f)).run P w = .ok () w := rfl
    rw [e3, Result.andThen_ok, h4', h5]
  rw [e1, Sem.run_bind, h6]
  rfl
def wq3g : List LS := [.any]
def wqh (k : Nat) {R : Type} (x0 : Nat) (K : Int → Option R) : Option R := K (x0 : Int)
def wq1a (k : Nat) {R : Type} : List PV → List (Nm × HObj) → (Out → Option R) → Option R
  | [.v (.flt) x0], [], K => wqh k x0 (fun y0 => K (.ret [.v (.int .u64) y0] []))
  | _, _, _ => none
theorem wq4k (k : Nat) {ps : List PV} {hp : List (Nm × HObj)} {R : Type} {K : Out → Option R} {r : R} (h : wq1a k ps hp K = some r) : DoesTo Tryd.prog 6 ps hp fun out => K out = some r := by
  unfold wq1a at h
  split at h
  · next x0 =>
    intro G w vals hr obj dis
    obtain ⟨v0, l0, rfl, h0, rfl⟩ := hr
    have e0 : v0 = .float .f64 x0 := by simpa [RV, RD] using h0
    subst e0
    have hrun : (callFunc 6 #[.float .f64 x0]).run Tryd.prog w = .ok (.value (.int .u64 (x0 : Int))) w :=
      wqyx (fn := Tryd.f6) (g := Extern.MathFloatBits.float64bits) (by kernel_rfl) (by kernel_rfl) (by kernel_rfl) (by kernel_rfl) (by kernel_rfl) _ w rfl
    show Does _ _ #[_] _ _
    unfold Does
    rw [hrun]
    exact ⟨.ret [.v (.int .u64) _] [], h, G, ⟨_, rfl, rfl⟩, wqwp⟩
  · cases h
def wq1s : List LS := [.any]
def wqk (k : Nat) {R : Type} (x0 : Int) (K : Nat → Option R) : Option R := K x0.toNat
def wqt (k : Nat) {R : Type} : List PV → List (Nm × HObj) → (Out → Option R) → Option R
  | [.v (.int .u64) x0], [], K => wqk k x0 (fun y0 => K (.ret [.v (.flt) y0] []))
  | _, _, _ => none
theorem wq2h (k : Nat) {ps : List PV} {hp : List (Nm × HObj)} {R : Type} {K : Out → Option R} {r : R} (h : wqt k ps hp K = some r) : DoesTo Tryd.prog 39 ps hp fun out => K out = some r := by
  unfold wqt at h
  split at h
  · next x0 =>
    intro G w vals hr obj dis
    obtain ⟨v0, l0, rfl, h0, rfl⟩ := hr
    have e0 : v0 = .int .u64 x0 := by simpa [RV, RD] using h0
    subst e0
    have hrun : (callFunc 39 #[.int .u64 x0]).run Tryd.prog w = .ok (.value (.float .f64 x0.toNat)) w :=
      wqyx (fn := Tryd.f39) (g := Extern.MathFloatBits.float64frombits) (by kernel_rfl) (by kernel_rfl) (by kernel_rfl) (by kernel_rfl) (by kernel_rfl) _ w rfl
    show Does _ _ #[_] _ _
    unfold Does
    rw [hrun]
    exact ⟨.ret [.v (.flt) _] [], h, G, ⟨_, rfl, rfl⟩, wqwp⟩
  · cases h
end Go.Proofs.YtmdmpogommehpaaDoor.Pvm
noncomputable section
namespace Go.Proofs.YtmdmpogommehpaaDoor.Pvm
open Go Go.Proofs
def wqs2 : List LS := [.any]
def wqiu {R : Type} (K : (Nat → Option R)) : Out → Option R
  | .ret [.v .flt y0] [] => K y0
  | _ => none
def wqui : RetSpec := ⟨[.any], [], []⟩
def wquj (k : Nat) : Ctx := ⟨tyT, [], (.add 6 wq3g (wq1a k) (.add 39 wq1s (wqt k) .nil)), [], [], [], @SH⟩
def wqpx (k : Nat) {R : Type}  (x0 : Nat) (K : (Nat → Option R)) : Option R := (wqh k x0 (fun y4 => (wqk k (ibits @Go.BinOp.andNot Go.IntKind.u64 y4 9223372036854775808) (fun y5 => (K y5)))))
def wqcj (k : Nat) {R : Type} (x0 : Nat) (K : (Nat → Option R)) : Option R := wqpx k  x0 K
theorem wqpy (k : Nat) {R : Type} (x0 : Nat) (K : (Nat → Option R)) : fnW (wquj k) k Tryd.f26 wqui [.v .flt x0] [] (wqiu K) = wqcj k x0 K := by
  kernel_rfl
def wqbb (k : Nat) {R : Type} : List PV → List (Nm × HObj) → (Out → Option R) → Option R
  | [.v .flt x0], [], K => wqcj k x0 (fun y0 => K (.ret [.v .flt y0] []))
  | _, _, _ => none
theorem wqwq (k : Nat) : DOK Tryd.prog 26 (wqbb k) := by
  intro ps hp R K r h
  have h : wqbb k ps hp K = some r := h
  unfold wqbb at h
  split at h
  · rw [← wqpy] at h
    exact fnW_ok ⟨tyT_ok, (CTab.add_ok (fun h => wq4k k h) (CTab.add_ok (fun h => wq2h k h) CTab.nil_ok)), fun _ _ => rfl⟩ mixed (by kernel_rfl) (by kernel_rfl) h fun o ho => by unfold wqiu at ho; split at ho <;> first | exact ho | cases ho
  · cases h
end Go.Proofs.YtmdmpogommehpaaDoor.Pvm
end


noncomputable section
namespace Go.Proofs.YtmdmpogommehpaaDoor.Pvm
open Go Go.Proofs
def wqny : List LS := [.any]
def wqe3 {R : Type} (K : (Bool → Option R)) : Out → Option R
  | .ret [.v .bool y0] [] => K y0
  | _ => none
def wqpz : RetSpec := ⟨[.any], [], []⟩
def wqq0 (k : Nat) : Ctx := ⟨tyT, [], .nil, [], [], [], @SH⟩
def wqkw (k : Nat) {R : Type}  (x0 : Nat) (K : (Bool → Option R)) : Option R := (K (@fltIs @Go.BinOp.neq x0 x0))
def wqbc (k : Nat) {R : Type} (x0 : Nat) (K : (Bool → Option R)) : Option R := wqkw k  x0 K
theorem wqm3 (k : Nat) {R : Type} (x0 : Nat) (K : (Bool → Option R)) : fnW (wqq0 k) k Tryd.f24 wqpz [.v .flt x0] [] (wqe3 K) = wqbc k x0 K := by
  kernel_rfl
def wq8e (k : Nat) {R : Type} : List PV → List (Nm × HObj) → (Out → Option R) → Option R
  | [.v .flt x0], [], K => wqbc k x0 (fun y0 => K (.ret [.v .bool y0] []))
  | _, _, _ => none
theorem wqs3 (k : Nat) : DOK Tryd.prog 24 (wq8e k) := by
  intro ps hp R K r h
  have h : wq8e k ps hp K = some r := h
  unfold wq8e at h
  split at h
  · rw [← wqm3] at h
    exact fnW_ok ⟨tyT_ok, CTab.nil_ok, fun _ _ => rfl⟩ mixed (by kernel_rfl) (by kernel_rfl) h fun o ho => by unfold wqe3 at ho; split at ho <;> first | exact ho | cases ho
  · cases h
end Go.Proofs.YtmdmpogommehpaaDoor.Pvm
end


noncomputable section
namespace Go.Proofs.YtmdmpogommehpaaDoor.Pvm
open Go Go.Proofs
def wqjh : List LS := [.any, .any]
def wqas {R : Type} (K : (Nat → Option R)) : Out → Option R
  | .ret [.v .flt y0] [] => K y0
  | _ => none
def wqkx : RetSpec := ⟨[.any], [], []⟩
def wqky (k : Nat) : Ctx := ⟨tyT, [], (.add 6 wq3g (wq1a k) (.add 39 wq1s (wqt k) .nil)), [], [], [], @SH⟩
def wqe4 (k : Nat) {R : Type}  (x0 x1 : Nat) (K : (Nat → Option R)) : Option R := (wqh k x0 (fun y5 => (wqh k x1 (fun y6 => (wqk k (ibits @Go.BinOp.or Go.IntKind.u64 (ibits @Go.BinOp.andNot Go.IntKind.u64 y5 9223372036854775808) (ibits @Go.BinOp.and Go.IntKind.u64 y6 9223372036854775808)) (fun y7 => (K y7)))))))
def wq2t (k : Nat) {R : Type} (x0 x1 : Nat) (K : (Nat → Option R)) : Option R := wqe4 k  x0 x1 K
theorem wqhs (k : Nat) {R : Type} (x0 x1 : Nat) (K : (Nat → Option R)) : fnW (wqky k) k Tryd.f38 wqkx [.v .flt x0, .v .flt x1] [] (wqas K) = wq2t k x0 x1 K := by
  kernel_rfl
def wq5a (k : Nat) {R : Type} : List PV → List (Nm × HObj) → (Out → Option R) → Option R
  | [.v .flt x0, .v .flt x1], [], K => wq2t k x0 x1 (fun y0 => K (.ret [.v .flt y0] []))
  | _, _, _ => none
theorem wqm4 (k : Nat) : DOK Tryd.prog 38 (wq5a k) := by
  intro ps hp R K r h
  have h : wq5a k ps hp K = some r := h
  unfold wq5a at h
  split at h
  · rw [← wqhs] at h
    exact fnW_ok ⟨tyT_ok, (CTab.add_ok (fun h => wq4k k h) (CTab.add_ok (fun h => wq2h k h) CTab.nil_ok)), fun _ _ => rfl⟩ mixed (by kernel_rfl) (by kernel_rfl) h fun o ho => by unfold wqas at ho; split at ho <;> first | exact ho | cases ho
  · cases h
end Go.Proofs.YtmdmpogommehpaaDoor.Pvm
end


noncomputable section
namespace Go.Proofs.YtmdmpogommehpaaDoor.Pvm
open Go Go.Proofs
def wqs4 : List LS := [.any]
def wqiv {R : Type} (K : (Nat → Option R)) : Out → Option R
  | .ret [.v .flt y0] [] => K y0
  | _ => none
def wquk : RetSpec := ⟨[.any], [], []⟩
def wqul (k : Nat) : Ctx := ⟨tyT, [], (.add 39 wq1s (wqt k) .nil), [], [], [], @SH⟩
def wqwr (k : Nat) {R : Type}  (x0 : Int) (K : (Nat → Option R)) : Option R := (cond (decide (x0 ≥ 0)) (wqk k 9218868437227405312 (fun y4 => (K y4))) (wqk k 18442240474082181120 (fun y4 => (K y4))))
def wqg8 (k : Nat) {R : Type} (x0 : Int) (K : (Nat → Option R)) : Option R := wqwr k  x0 K
theorem wqq1 (k : Nat) {R : Type} (x0 : Int) (K : (Nat → Option R)) : fnW (wqul k) k Tryd.f32 wquk [.v kI x0] [] (wqiv K) = wqg8 k x0 K := by
  kernel_rfl
def wqbd (k : Nat) {R : Type} : List PV → List (Nm × HObj) → (Out → Option R) → Option R
  | [.v (.int .i64) x0], [], K => wqg8 k x0 (fun y0 => K (.ret [.v .flt y0] []))
  | _, _, _ => none
theorem wqws (k : Nat) : DOK Tryd.prog 32 (wqbd k) := by
  intro ps hp R K r h
  have h : wqbd k ps hp K = some r := h
  unfold wqbd at h
  split at h
  · rw [← wqq1] at h
    exact fnW_ok ⟨tyT_ok, (CTab.add_ok (fun h => wq2h k h) CTab.nil_ok), fun _ _ => rfl⟩ mixed (by kernel_rfl) (by kernel_rfl) h fun o ho => by unfold wqiv at ho; split at ho <;> first | exact ho | cases ho
  · cases h
end Go.Proofs.YtmdmpogommehpaaDoor.Pvm
end


noncomputable section
namespace Go.Proofs.YtmdmpogommehpaaDoor.Pvm
open Go Go.Proofs
def wqs5 : List LS := []
def wqiw {R : Type} (K : (Nat → Option R)) : Out → Option R
  | .ret [.v .flt y0] [] => K y0
  | _ => none
def wqum : RetSpec := ⟨[.any], [], []⟩
def wqun (k : Nat) : Ctx := ⟨tyT, [], (.add 39 wq1s (wqt k) .nil), [], [], [], @SH⟩
def wqwt (k : Nat) {R : Type}   (K : (Nat → Option R)) : Option R := (wqk k 9221120237041090561 (fun y3 => (K y3)))
def wqkz (k : Nat) {R : Type}  (K : (Nat → Option R)) : Option R := wqwt k   K
theorem wqq2 (k : Nat) {R : Type}  (K : (Nat → Option R)) : fnW (wqun k) k Tryd.f31 wqum [] [] (wqiw K) = wqkz k  K := by
  kernel_rfl
def wqbe (k : Nat) {R : Type} : List PV → List (Nm × HObj) → (Out → Option R) → Option R
  | [], [], K => wqkz k  (fun y0 => K (.ret [.v .flt y0] []))
  | _, _, _ => none
theorem wqwu (k : Nat) : DOK Tryd.prog 31 (wqbe k) := by
  intro ps hp R K r h
  have h : wqbe k ps hp K = some r := h
  unfold wqbe at h
  split at h
  · rw [← wqq2] at h
    exact fnW_ok ⟨tyT_ok, (CTab.add_ok (fun h => wq2h k h) CTab.nil_ok), fun _ _ => rfl⟩ mixed (by kernel_rfl) (by kernel_rfl) h fun o ho => by unfold wqiw at ho; split at ho <;> first | exact ho | cases ho
  · cases h
end Go.Proofs.YtmdmpogommehpaaDoor.Pvm
end


noncomputable section
namespace Go.Proofs.YtmdmpogommehpaaDoor.Pvm
open Go Go.Proofs
def wql0 : List LS := [.any, .any]
def wq5b {R : Type} (K : (Bool → Option R)) : Out → Option R
  | .ret [.v .bool y0] [] => K y0
  | _ => none
def wqaf : RetSpec := ⟨[.any], [], []⟩
def wqag (k : Nat) : Ctx := ⟨tyT, [(1002, ⟨[(0, .any), (1, .any), (8, .mpo 78 .it kI)], []⟩)], .nil, [], [], [], @SH⟩
def wq3h (s0 : (List UInt8)) (s1 : Int) (s2 : (List UInt8)) (s3 : Int) : St := ⟨mkT [(0, .v .str s0), (1, .v kI s1), (8, .mpp 78)], mkH [(78, .mp .it kI [(s2, s3)])]⟩
def wq61 (k : Nat) {R : Type} (I : Nat → St → Option R) (n : Nat) (s : St) (K : (Bool → Option R)) : Option R := loopK (wqag k) k Tryd.f35 wqaf 1002 [1, 0, 1, 0] I n s (wq5b K)
def wq43 (k : Nat) {R : Type} (E1002 : ((List UInt8) → Int → (List UInt8) → Int → Option R)) (s0 : (List UInt8)) (s1 : Int) (s2 : (List UInt8)) (s3 : Int) (K : (Bool → Option R)) : Option R := (cond (decide (s3 < (s2.length : Int))) (cond (decide (s3 < (s2.length : Int))) (cond (cond (decide ((nxtC s2 s3) < 48)) true (decide ((nxtC s2 s3) > 57))) (K false) (E1002 s0 s1 s2 (nxtP s2 s3))) none) (K (cond (decide ((s0.length : Int) ≥ 1)) (decide ((s0.length : Int) ≤ s1)) false)))
theorem wqck (k : Nat) {R : Type} (I : Nat → St → Option R) (s0 : (List UInt8)) (s1 : Int) (s2 : (List UInt8)) (s3 : Int) (K : (Bool → Option R)) : bodyK (wqag k) k Tryd.f35 wqaf [1, 0, 1, 0, 0] I (wq3h s0 s1 s2 s3) (wq5b K) = wq43 k (fun s0 s1 s2 s3 => I 1002 (wq3h s0 s1 s2 s3)) s0 s1 s2 s3 K := by kernel_rfl
def wqbf (k : Nat) {R : Type} (E1002 : ((List UInt8) → Int → (List UInt8) → Int → Option R)) (x0 : (List UInt8)) (x1 : Int) (K : (Bool → Option R)) : Option R := (E1002 x0 x1 x0 0)
def wq1j (k : Nat) {R : Type}  : Nat → (List UInt8) → Int → (List UInt8) → Int → (Bool → Option R) → Option R
  | 0, _, _, _, _, _ => none
  | n + 1, s0, s1, s2, s3, K => wq43 k (fun s0 s1 s2 s3 => wq1j k  n s0 s1 s2 s3 K) s0 s1 s2 s3 K
theorem wqcl (k : Nat) {R : Type} (I : Nat → St → Option R) (K : (Bool → Option R)) (n : Nat) : ∀ (s0 : (List UInt8)) (s1 : Int) (s2 : (List UInt8)) (s3 : Int), wq61 k I n (wq3h s0 s1 s2 s3) K = wq1j k  n s0 s1 s2 s3 K := by
  induction n with
  | zero => intros; rfl
  | succ n ih =>
    intro s0 s1 s2 s3
    refine (?_ : _ = _).trans ((wqck k (upI 1002 (fun s => wq61 k I n s K) I) s0 s1 s2 s3 K).trans ?_)
    · rfl
    · simp only [wq3x, ih] <;> rfl
def wq1t (k : Nat) {R : Type} (x0 : (List UInt8)) (x1 : Int) (K : (Bool → Option R)) : Option R := wqbf k (fun s0 s1 s2 s3 => wq1j k k s0 s1 s2 s3 K) x0 x1 K
theorem wqji (k : Nat) {R : Type} (x0 : (List UInt8)) (x1 : Int) (K : (Bool → Option R)) : fnW (wqag k) k Tryd.f35 wqaf [.v .str x0, .v kI x1] [] (wq5b K) = wq1t k x0 x1 K := by
  refine Eq.trans (b := wqbf k (fun s0 s1 s2 s3 => wq61 k (fun _ _ => none) k (wq3h s0 s1 s2 s3) K) x0 x1 K) (by kernel_rfl) ?_
  simp only [wqcl] <;> rfl
def wq62 (k : Nat) {R : Type} : List PV → List (Nm × HObj) → (Out → Option R) → Option R
  | [.v .str x0, .v (.int .i64) x1], [], K => wq1t k x0 x1 (fun y0 => K (.ret [.v .bool y0] []))
  | _, _, _ => none
theorem wqnz (k : Nat) : DOK Tryd.prog 35 (wq62 k) := by
  intro ps hp R K r h
  have h : wq62 k ps hp K = some r := h
  unfold wq62 at h
  split at h
  · rw [← wqji] at h
    exact fnW_ok ⟨tyT_ok, CTab.nil_ok, fun _ _ => rfl⟩ mixed (by kernel_rfl) (by kernel_rfl) h fun o ho => by unfold wq5b at ho; split at ho <;> first | exact ho | cases ho
  · cases h
end Go.Proofs.YtmdmpogommehpaaDoor.Pvm
end


noncomputable section
namespace Go.Proofs.YtmdmpogommehpaaDoor.Pvm
open Go Go.Proofs
def wqq3 : List LS := [.any]
def wq8f {R : Type} (K : (Int → Option R)) : Out → Option R
  | .ret [.v (.int .i64) y0] [] => K y0
  | _ => none
def wqeo : RetSpec := ⟨[.any], [], []⟩
def wqep (k : Nat) : Ctx := ⟨tyT, [(1003, ⟨[(3, .any), (4, .any), (5, .any)], []⟩)], .nil, [], [], [], @SH⟩
def wq5c (s0 s1 s2 : Int) : St := ⟨mkT [(3, .v kI s0), (4, .v kI s1), (5, .v kI s2)], mkH []⟩
def wq95 (k : Nat) {R : Type} (I : Nat → St → Option R) (n : Nat) (s : St) (K : (Int → Option R)) : Option R := loopK (wqep k) k Tryd.f37 wqeo 1003 [1, 1, 0, 1, 0] I n s (wq8f K)
def wq63 (k : Nat) {R : Type} (E1003 : (Int → Int → Int → Option R)) (s0 s1 s2 : Int) (K : (Int → Option R)) : Option R := (cond (decide (s2 < s1)) (E1003 (@Go.IntKind.wrap Go.IntKind.i64 (s0 * 10)) s1 (@Go.IntKind.wrap Go.IntKind.i64 (s2 + 1))) (K s0))
theorem wqg9 (k : Nat) {R : Type} (I : Nat → St → Option R) (s0 s1 s2 : Int) (K : (Int → Option R)) : bodyK (wqep k) k Tryd.f37 wqeo [1, 1, 0, 1, 0, 0] I (wq5c s0 s1 s2) (wq8f K) = wq63 k (fun s0 s1 s2 => I 1003 (wq5c s0 s1 s2)) s0 s1 s2 K := by kernel_rfl
def wqht (k : Nat) {R : Type} (E1003 : (Int → Int → Int → Option R)) (x0 : Int) (K : (Int → Option R)) : Option R := (E1003 1 x0 0)
def wq34 (k : Nat) {R : Type}  : Nat → Int → Int → Int → (Int → Option R) → Option R
  | 0, _, _, _, _ => none
  | n + 1, s0, s1, s2, K => wq63 k (fun s0 s1 s2 => wq34 k  n s0 s1 s2 K) s0 s1 s2 K
theorem wqga (k : Nat) {R : Type} (I : Nat → St → Option R) (K : (Int → Option R)) (n : Nat) : ∀ (s0 s1 s2 : Int), wq95 k I n (wq5c s0 s1 s2) K = wq34 k  n s0 s1 s2 K := by
  induction n with
  | zero => intros; rfl
  | succ n ih =>
    intro s0 s1 s2
    refine (?_ : _ = _).trans ((wqg9 k (upI 1003 (fun s => wq95 k I n s K) I) s0 s1 s2 K).trans ?_)
    · rfl
    · simp only [wq3x, ih] <;> rfl
def wq6t (k : Nat) {R : Type} (x0 : Int) (K : (Int → Option R)) : Option R := wqht k (fun s0 s1 s2 => wq34 k k s0 s1 s2 K) x0 K
theorem wqo0 (k : Nat) {R : Type} (x0 : Int) (K : (Int → Option R)) : fnW (wqep k) k Tryd.f37 wqeo [.v kI x0] [] (wq8f K) = wq6t k x0 K := by
  refine Eq.trans (b := wqht k (fun s0 s1 s2 => wq95 k (fun _ _ => none) k (wq5c s0 s1 s2) K) x0 K) (by kernel_rfl) ?_
  simp only [wqga] <;> rfl
def wq9x (k : Nat) {R : Type} : List PV → List (Nm × HObj) → (Out → Option R) → Option R
  | [.v (.int .i64) x0], [], K => wq6t k x0 (fun y0 => K (.ret [.v (.int .i64) y0] []))
  | _, _, _ => none
theorem wquo (k : Nat) : DOK Tryd.prog 37 (wq9x k) := by
  intro ps hp R K r h
  have h : wq9x k ps hp K = some r := h
  unfold wq9x at h
  split at h
  · rw [← wqo0] at h
    exact fnW_ok ⟨tyT_ok, CTab.nil_ok, fun _ _ => rfl⟩ mixed (by kernel_rfl) (by kernel_rfl) h fun o ho => by unfold wq8f at ho; split at ho <;> first | exact ho | cases ho
  · cases h
end Go.Proofs.YtmdmpogommehpaaDoor.Pvm
end


noncomputable section
namespace Go.Proofs.YtmdmpogommehpaaDoor.Pvm
open Go Go.Proofs
def wqm5 : List LS := [.any]
def wq64 {R : Type} (K : (Int → Option R)) : Out → Option R
  | .ret [.v (.int .i64) y0] [] => K y0
  | _ => none
def wqbg : RetSpec := ⟨[.any], [], []⟩
def wqbh (k : Nat) : Ctx := ⟨tyT, [(1003, ⟨[(3, .any), (7, .mpo 77 .it kI)], []⟩)], .nil, [], [], [], @SH⟩
def wq44 (s0 : Int) (s1 : (List UInt8)) (s2 : Int) : St := ⟨mkT [(3, .v kI s0), (7, .mpp 77)], mkH [(77, .mp .it kI [(s1, s2)])]⟩
def wq6u (k : Nat) {R : Type} (I : Nat → St → Option R) (n : Nat) (s : St) (K : (Int → Option R)) : Option R := loopK (wqbh k) k Tryd.f36 wqbg 1003 [1, 1, 0, 1, 0] I n s (wq64 K)
def wq4l (k : Nat) {R : Type} (E1003 : (Int → (List UInt8) → Int → Option R)) (s0 : Int) (s1 : (List UInt8)) (s2 : Int) (K : (Int → Option R)) : Option R := (cond (decide (s2 < (s1.length : Int))) (cond (decide (s2 < (s1.length : Int))) (E1003 (@Go.IntKind.wrap Go.IntKind.i64 ((@Go.IntKind.wrap Go.IntKind.i64 ((10 : Int) * s0)) + (@Go.IntKind.wrap Go.IntKind.i64 (@Go.IntKind.wrap Go.IntKind.i32 ((nxtC s1 s2) - 48))))) s1 (nxtP s1 s2)) none) (K s0))
theorem wqdp (k : Nat) {R : Type} (I : Nat → St → Option R) (s0 : Int) (s1 : (List UInt8)) (s2 : Int) (K : (Int → Option R)) : bodyK (wqbh k) k Tryd.f36 wqbg [1, 1, 0, 1, 0, 0] I (wq44 s0 s1 s2) (wq64 K) = wq4l k (fun s0 s1 s2 => I 1003 (wq44 s0 s1 s2)) s0 s1 s2 K := by kernel_rfl
def wqcm (k : Nat) {R : Type} (E1003 : (Int → (List UInt8) → Int → Option R)) (x0 : (List UInt8)) (K : (Int → Option R)) : Option R := (E1003 0 x0 0)
def wq20 (k : Nat) {R : Type}  : Nat → Int → (List UInt8) → Int → (Int → Option R) → Option R
  | 0, _, _, _, _ => none
  | n + 1, s0, s1, s2, K => wq4l k (fun s0 s1 s2 => wq20 k  n s0 s1 s2 K) s0 s1 s2 K
theorem wqdq (k : Nat) {R : Type} (I : Nat → St → Option R) (K : (Int → Option R)) (n : Nat) : ∀ (s0 : Int) (s1 : (List UInt8)) (s2 : Int), wq6u k I n (wq44 s0 s1 s2) K = wq20 k  n s0 s1 s2 K := by
  induction n with
  | zero => intros; rfl
  | succ n ih =>
    intro s0 s1 s2
    refine (?_ : _ = _).trans ((wqdp k (upI 1003 (fun s => wq6u k I n s K) I) s0 s1 s2 K).trans ?_)
    · rfl
    · simp only [wq3x, ih] <;> rfl
def wq4g (k : Nat) {R : Type} (x0 : (List UInt8)) (K : (Int → Option R)) : Option R := wqcm k (fun s0 s1 s2 => wq20 k k s0 s1 s2 K) x0 K
theorem wql1 (k : Nat) {R : Type} (x0 : (List UInt8)) (K : (Int → Option R)) : fnW (wqbh k) k Tryd.f36 wqbg [.v .str x0] [] (wq64 K) = wq4g k x0 K := by
  refine Eq.trans (b := wqcm k (fun s0 s1 s2 => wq6u k (fun _ _ => none) k (wq44 s0 s1 s2) K) x0 K) (by kernel_rfl) ?_
  simp only [wqdq] <;> rfl
def wq75 (k : Nat) {R : Type} : List PV → List (Nm × HObj) → (Out → Option R) → Option R
  | [.v .str x0], [], K => wq4g k x0 (fun y0 => K (.ret [.v (.int .i64) y0] []))
  | _, _, _ => none
theorem wqq4 (k : Nat) : DOK Tryd.prog 36 (wq75 k) := by
  intro ps hp R K r h
  have h : wq75 k ps hp K = some r := h
  unfold wq75 at h
  split at h
  · rw [← wql1] at h
    exact fnW_ok ⟨tyT_ok, CTab.nil_ok, fun _ _ => rfl⟩ mixed (by kernel_rfl) (by kernel_rfl) h fun o ho => by unfold wq64 at ho; split at ho <;> first | exact ho | cases ho
  · cases h
end Go.Proofs.YtmdmpogommehpaaDoor.Pvm
end


namespace Go.Proofs.YtmdmpogommehpaaDoor.Pvm
open Go Go.Proofs
def wqat (s : List UInt8) (c : Int) : Int :=
  match (List.range s.length).find? fun i => s.getD i 0 == UInt8.ofNat c.toNat with
  | some i => (i : Int)
  | none => -1
theorem wqup {P : Program} (x0 : List UInt8) (x1 : Int) (w : World) : (Go.Extern.BytealgIndexByte.indexByte #[.string ⟨x0.toArray⟩, .int .u8 x1]).run P w = .ok (.int .i64 (wqat x0 x1)) w := by
  have e5 : (Go.Extern.BytealgIndexByte.indexByte #[.string ⟨x0.toArray⟩, .int .u8 x1]).run P w = (match (List.range (ByteArray.mk x0.toArray).size).find? fun i => (ByteArray.mk x0.toArray)[i]! == x1.toNat.toUInt8 with
    | some i => (pure (goInt i) : Sem Value)
    | none => pure (goInt (-1))).run P w := rfl
  rw [e5]
  unfold wqat
  have e6 : (ByteArray.mk x0.toArray).size = x0.length := by simp [ByteArray.size]
  have e7 : ∀ i, (ByteArray.mk x0.toArray)[i]! = x0.getD i 0 := by
    intro i
    by_cases hi : i < x0.length
    · rw [getElem!_pos (ByteArray.mk x0.toArray) i (by rw [e6]; exact hi)]
      have : x0.getD i 0 = x0[i] := by simp [List.getD, hi]
      rw [this]; rfl
    · rw [getElem!_neg (ByteArray.mk x0.toArray) i (by rw [e6]; exact hi)]
      have : x0.getD i 0 = 0 := by simp [List.getD, Nat.le_of_not_lt hi]
      rw [this]; rfl
  simp only [e6, e7]
  have e8 : ∀ i, (x0.getD i 0 == x1.toNat.toUInt8) = (x0.getD i 0 == UInt8.ofNat x1.toNat) := fun i => rfl
  simp only [e8]
  cases (List.range x0.length).find? fun i => x0.getD i 0 == UInt8.ofNat x1.toNat with
  | none => rfl
  | some i => rfl
def wqbi : List LS := [.any, .any]
def wq4h (k : Nat) {R : Type} (x0 : List UInt8) (x1 : Int) (K : Int → Option R) : Option R := K (wqat x0 x1)
def wq3i (k : Nat) {R : Type} : List PV → List (Nm × HObj) → (Out → Option R) → Option R
  | [.v .str x0, .v (.int .u8) x1], [], K => wq4h k x0 x1 (fun y0 => K (.ret [.v (.int .i64) y0] []))
  | _, _, _ => none
theorem wqzu {G : Gh} {w : World} : Fin [] [] G w G w :=
  ⟨fun n o h => (by cases h), fun n m b h => (by simp [blkOf, mkH, look] at h), fun n t cs h => (by cases h), fun n ag V es h => (by cases h), fun _ _ _ => rfl, rfl, fun n b h => (by simp [blkOf, mkH, look] at h), Nat.le_refl _, rfl, rfl, rfl⟩
theorem wqau : Extern.find Tryd.f63 = some Go.Extern.BytealgIndexByte.indexByte := by kernel_rfl
theorem wq8g : (Extern.findNext Tryd.f63).isNone = true := by kernel_rfl
theorem wqc8 : Tryd.prog.funcs[63]? = some Tryd.f63 := by kernel_rfl
theorem wq5u : (Tryd.f63.name == "runtime.NumGoroutine") = false := by kernel_rfl
theorem wqav : Tryd.f63.body.isNone = true := by kernel_rfl
theorem wqcn (k : Nat) {ps : List PV} {hp : List (Nm × HObj)} {R : Type} {K : Out → Option R} {r : R} (h : wq3i k ps hp K = some r) : DoesTo Tryd.prog 63 ps hp fun out => K out = some r := by
  unfold wq3i at h
  split at h
  · next x0 x1 =>
    intro G w vals hr obj dis
    obtain ⟨v0, l0, rfl, h0, v1, l1, rfl, h1, rfl⟩ := hr
    have e0 : v0 = .string ⟨x0.toArray⟩ := by simpa [RV, RD] using h0
    have e1 : v1 = .int .u8 x1 := by simpa [RV, RD] using h1
    subst e0 e1
    have hrun : (callFunc 63 #[.string ⟨x0.toArray⟩, .int .u8 x1]).run Tryd.prog w = .ok (.value (.int .i64 (wqat x0 x1))) w := by
      have hn2 : ¬ Tryd.f63.name = "runtime.NumGoroutine" := by simpa using wq5u
      have hn3 : Extern.findNext Tryd.f63 = none := by
        cases hq : Extern.findNext Tryd.f63 with
        | none => rfl
        | some e => have := wq8g; rw [hq] at this; cases this
      have e1 : (callFunc 63 #[.string ⟨x0.toArray⟩, .int .u8 x1]).run Tryd.prog w = (Go.Extern.BytealgIndexByte.indexByte #[.string ⟨x0.toArray⟩, .int .u8 x1] >>= fun v => pure (Next.value v)).run Tryd.prog w := by
        unfold callFunc
        rw [Sem.run_bind]
        have e2 : (program).run Tryd.prog w = .ok Tryd.prog w := rfl
        rw [e2, Result.andThen_ok, wqc8]
        simp only [wq5u, wqav, if_true, Bool.false_eq_true, if_false]
        rw [Sem.run_bind]
        have e3 : (mark (.extern 63)).run Tryd.prog w = .ok () w := rfl
        rw [e3, Result.andThen_ok, hn3, wqau]
      rw [e1]
      have e4 := wqup (P := Tryd.prog) x0 x1 w
      rw [Sem.run_bind, e4]; rfl
    show Does _ _ #[_, _] _ _
    unfold Does
    rw [hrun]
    exact ⟨.ret [.v (.int .i64) (wqat x0 x1)] [], h, G, ⟨_, rfl, rfl⟩, wqzu⟩
  · cases h
end Go.Proofs.YtmdmpogommehpaaDoor.Pvm
noncomputable section
namespace Go.Proofs.YtmdmpogommehpaaDoor.Pvm
open Go Go.Proofs
def wq9y : List LS := [.any, .any]
def wq96 {R : Type} (K : (Int → Option R)) : Out → Option R
  | .ret [.v (.int .i64) y0] [] => K y0
  | _ => none
def wqhu : RetSpec := ⟨[.any], [], []⟩
def wqhv (k : Nat) : Ctx := ⟨tyT, [], (.add 63 wqbi (wq3i k) .nil), [], [], [], @SH⟩
def wqbx (k : Nat) {R : Type}  (x0 : (List UInt8)) (x1 : Int) (K : (Int → Option R)) : Option R := (wq4h k x0 x1 (fun y5 => (K y5)))
def wq3s (k : Nat) {R : Type} (x0 : (List UInt8)) (x1 : Int) (K : (Int → Option R)) : Option R := wqbx k  x0 x1 K
theorem wqeq (k : Nat) {R : Type} (x0 : (List UInt8)) (x1 : Int) (K : (Int → Option R)) : fnW (wqhv k) k Tryd.f54 wqhu [.v .str x0, .v (.int .u8) x1] [] (wq96 K) = wq3s k x0 x1 K := by
  kernel_rfl
def wq2i (k : Nat) {R : Type} : List PV → List (Nm × HObj) → (Out → Option R) → Option R
  | [.v .str x0, .v (.int .u8) x1], [], K => wq3s k x0 x1 (fun y0 => K (.ret [.v (.int .i64) y0] []))
  | _, _, _ => none
theorem wqby (k : Nat) : DOK Tryd.prog 54 (wq2i k) := by
  intro ps hp R K r h
  have h : wq2i k ps hp K = some r := h
  unfold wq2i at h
  split at h
  · rw [← wqeq] at h
    exact fnW_ok ⟨tyT_ok, (CTab.add_ok (fun h => wqcn k h) CTab.nil_ok), fun _ _ => rfl⟩ mixed (by kernel_rfl) (by kernel_rfl) h fun o ho => by unfold wq96 at ho; split at ho <;> first | exact ho | cases ho
  · cases h
end Go.Proofs.YtmdmpogommehpaaDoor.Pvm
end


noncomputable section
namespace Go.Proofs.YtmdmpogommehpaaDoor.Pvm
open Go Go.Proofs
def wqm6 : List LS := [.any, .any]
def wqco {R : Type} (K : (Int → Option R)) : Out → Option R
  | .ret [.v (.int .i64) y0] [] => K y0
  | _ => none
def wqo1 : RetSpec := ⟨[.any], [], []⟩
def wqo2 (k : Nat) : Ctx := ⟨tyT, [], (.add 54 wq9y (wq2i k) .nil), [], [], [], @SH⟩
def wqix (k : Nat) {R : Type}  (x0 : (List UInt8)) (x1 : UInt8) (K : (Int → Option R)) : Option R := (cond (cond ((@List.length UInt8 [x1] : Int) == 0) true ([x1] == x0)) (K 0) (wq3s k x0 ((([x1]).getD (Int.toNat 0) 0).toNat : Int) (fun y5 => (K y5))))
def wq9z (k : Nat) {R : Type} (x0 : (List UInt8)) (x1 : UInt8) (K : (Int → Option R)) : Option R := wqix k  x0 x1 K
theorem wql2 (k : Nat) {R : Type} (x0 : (List UInt8)) (x1 : UInt8) (K : (Int → Option R)) : fnW (wqo2 k) k Tryd.f50 wqo1 [.v .str x0, .v .str [x1]] [] (wqco K) = wq9z k x0 x1 K := by
  kernel_rfl
def wq76 (k : Nat) {R : Type} : List PV → List (Nm × HObj) → (Out → Option R) → Option R
  | [.v .str x0, .v .str [x1]], [], K => wq9z k x0 x1 (fun y0 => K (.ret [.v (.int .i64) y0] []))
  | _, _, _ => none
theorem wqq5 (k : Nat) : DOK Tryd.prog 50 (wq76 k) := by
  intro ps hp R K r h
  have h : wq76 k ps hp K = some r := h
  unfold wq76 at h
  split at h
  · rw [← wql2] at h
    exact fnW_ok ⟨tyT_ok, (wq5 (wqby k) CTab.nil_ok), fun _ _ => rfl⟩ mixed (by kernel_rfl) (by kernel_rfl) h fun o ho => by unfold wqco at ho; split at ho <;> first | exact ho | cases ho
  · cases h
end Go.Proofs.YtmdmpogommehpaaDoor.Pvm
end


noncomputable section
namespace Go.Proofs.YtmdmpogommehpaaDoor.Pvm
open Go Go.Proofs
def wqq6 : List LS := [.any, .any]
def wqgb {R : Type} (K : ((List UInt8) → (List UInt8) → Bool → Option R)) : Out → Option R
  | .ret [.v .str y0, .v .str y1, .v .bool y2] [] => K y0 y1 y2
  | _ => none
def wqs6 : RetSpec := ⟨[.any, .any, .any], [], []⟩
def wqs7 (k : Nat) : Ctx := ⟨tyT, [], (.add 50 wqm6 (wq76 k) .nil), [], [], [(3, (.of [(0, 1), (1, 1), (2, 1), (3, 1), (4, 1), (5, 1), (6, 1), (7, 1), (8, 1), (9, 1), (10, 1), (11, 1)] .done))], @SH⟩
def wqn6 (k : Nat) {R : Type}  (x0 : (List UInt8)) (x1 : UInt8) (K : ((List UInt8) → (List UInt8) → Bool → Option R)) : Option R := (wq9z k x0 x1 (fun y5 => (cond (decide (y5 ≥ 0)) (cond (bnd 0 y5 (x0.length : Int)) (cond (bnd (@Go.IntKind.wrap Go.IntKind.i64 (y5 + (@List.length UInt8 [x1] : Int))) (x0.length : Int) (x0.length : Int)) (K (cut x0 0 y5) (cut x0 (@Go.IntKind.wrap Go.IntKind.i64 (y5 + (@List.length UInt8 [x1] : Int))) (x0.length : Int)) true) none) none) (K x0 [] false))))
def wqdk (k : Nat) {R : Type} (x0 : (List UInt8)) (x1 : UInt8) (K : ((List UInt8) → (List UInt8) → Bool → Option R)) : Option R := wqn6 k  x0 x1 K
theorem wqo3 (k : Nat) {R : Type} (x0 : (List UInt8)) (x1 : UInt8) (K : ((List UInt8) → (List UInt8) → Bool → Option R)) : fnW (wqs7 k) k Tryd.f45 wqs6 [.v .str x0, .v .str [x1]] [] (wqgb K) = wqdk k x0 x1 K := by
  kernel_rfl
def wqa0 (k : Nat) {R : Type} : List PV → List (Nm × HObj) → (Out → Option R) → Option R
  | [.v .str x0, .v .str [x1]], [], K => wqdk k x0 x1 (fun y0 y1 y2 => K (.ret [.v .str y0, .v .str y1, .v .bool y2] []))
  | _, _, _ => none
theorem wquq (k : Nat) : DOK Tryd.prog 45 (wqa0 k) := by
  intro ps hp R K r h
  have h : wqa0 k ps hp K = some r := h
  unfold wqa0 at h
  split at h
  · rw [← wqo3] at h
    exact fnW_ok ⟨tyT_ok, (wq5 (wqq5 k) CTab.nil_ok), fun _ _ => rfl⟩ mixed (by kernel_rfl) (by kernel_rfl) h fun o ho => by unfold wqgb at ho; split at ho <;> first | exact ho | cases ho
  · cases h
end Go.Proofs.YtmdmpogommehpaaDoor.Pvm
end


noncomputable section
namespace Go.Proofs.YtmdmpogommehpaaDoor.Pvm
open Go Go.Proofs
def wqe5 : List LS := [.any, .any]
def wqcp {R : Type} (K : ((List UInt8) → (List UInt8) → Bool → Option R)) : Out → Option R
  | .ret [.v .str y0, .v .str y1, .v .bool y2] [] => K y0 y1 y2
  | _ => none
def wqo4 : RetSpec := ⟨[.any, .any, .any], [], []⟩
def wqo5 (k : Nat) : Ctx := ⟨tyT, [], (.add 45 wqq6 (wqa0 k) .nil), [], [], [], @SH⟩
def wqiy (k : Nat) {R : Type}  (x0 : (List UInt8)) (x1 : UInt8) (K : ((List UInt8) → (List UInt8) → Bool → Option R)) : Option R := (wqdk k x0 x1 (fun y5 y6 y7 => (K y5 y6 y7)))
def wq5v (k : Nat) {R : Type} (x0 : (List UInt8)) (x1 : UInt8) (K : ((List UInt8) → (List UInt8) → Bool → Option R)) : Option R := wqiy k  x0 x1 K
theorem wql3 (k : Nat) {R : Type} (x0 : (List UInt8)) (x1 : UInt8) (K : ((List UInt8) → (List UInt8) → Bool → Option R)) : fnW (wqo5 k) k Tryd.f34 wqo4 [.v .str x0, .v .str [x1]] [] (wqcp K) = wq5v k x0 x1 K := by
  kernel_rfl
def wq53 (k : Nat) {R : Type} : List PV → List (Nm × HObj) → (Out → Option R) → Option R
  | [.v .str x0, .v .str [x1]], [], K => wq5v k x0 x1 (fun y0 y1 y2 => K (.ret [.v .str y0, .v .str y1, .v .bool y2] []))
  | _, _, _ => none
theorem wqiz (k : Nat) : DOK Tryd.prog 34 (wq53 k) := by
  intro ps hp R K r h
  have h : wq53 k ps hp K = some r := h
  unfold wq53 at h
  split at h
  · rw [← wql3] at h
    exact fnW_ok ⟨tyT_ok, (wq5 (wquq k) CTab.nil_ok), fun _ _ => rfl⟩ mixed (by kernel_rfl) (by kernel_rfl) h fun o ho => by unfold wqcp at ho; split at ho <;> first | exact ho | cases ho
  · cases h
end Go.Proofs.YtmdmpogommehpaaDoor.Pvm
end


noncomputable section
namespace Go.Proofs.YtmdmpogommehpaaDoor.Pvm
open Go Go.Proofs
def wqa1 : List LS := [.any, .any]
def wq97 {R : Type} (K : (Bool → Option R)) : Out → Option R
  | .ret [.v .bool y0] [] => K y0
  | _ => none
def wqhw : RetSpec := ⟨[.any], [], []⟩
def wqhx (k : Nat) : Ctx := ⟨tyT, [], .nil, [], [], [], @SH⟩
def wq7v (k : Nat) {R : Type}  (x0 x1 : (List UInt8)) (K : (Bool → Option R)) : Option R := (cond ((!((decide ((x0.length : Int) ≥ (x1.length : Int))) == true)) || (bnd 0 (x1.length : Int) (x0.length : Int))) (K (cond (decide ((x0.length : Int) ≥ (x1.length : Int))) ((cut x0 0 (x1.length : Int)) == x1) false)) none)
def wq2c (k : Nat) {R : Type} (x0 x1 : (List UInt8)) (K : (Bool → Option R)) : Option R := wq7v k  x0 x1 K
theorem wqer (k : Nat) {R : Type} (x0 x1 : (List UInt8)) (K : (Bool → Option R)) : fnW (wqhx k) k Tryd.f49 wqhw [.v .str x0, .v .str x1] [] (wq97 K) = wq2c k x0 x1 K := by
  kernel_rfl
def wq2j (k : Nat) {R : Type} : List PV → List (Nm × HObj) → (Out → Option R) → Option R
  | [.v .str x0, .v .str x1], [], K => wq2c k x0 x1 (fun y0 => K (.ret [.v .bool y0] []))
  | _, _, _ => none
theorem wqbz (k : Nat) : DOK Tryd.prog 49 (wq2j k) := by
  intro ps hp R K r h
  have h : wq2j k ps hp K = some r := h
  unfold wq2j at h
  split at h
  · rw [← wqer] at h
    exact fnW_ok ⟨tyT_ok, CTab.nil_ok, fun _ _ => rfl⟩ mixed (by kernel_rfl) (by kernel_rfl) h fun o ho => by unfold wq97 at ho; split at ho <;> first | exact ho | cases ho
  · cases h
end Go.Proofs.YtmdmpogommehpaaDoor.Pvm
end


noncomputable section
namespace Go.Proofs.YtmdmpogommehpaaDoor.Pvm
open Go Go.Proofs
def wqgc : List LS := [.any, .any]
def wq98 {R : Type} (K : ((List UInt8) → Bool → Option R)) : Out → Option R
  | .ret [.v .str y0, .v .bool y1] [] => K y0 y1
  | _ => none
def wqhy : RetSpec := ⟨[.any, .any], [], []⟩
def wqhz (k : Nat) : Ctx := ⟨tyT, [], (.add 49 wqa1 (wq2j k) .nil), [], [], [], @SH⟩
def wqc0 (k : Nat) {R : Type}  (x0 : (List UInt8)) (x1 : UInt8) (K : ((List UInt8) → Bool → Option R)) : Option R := (wq2c k x0 [x1] (fun y5 => (cond (!y5) (K x0 false) (cond (bnd (@List.length UInt8 [x1] : Int) (x0.length : Int) (x0.length : Int)) (K (cut x0 (@List.length UInt8 [x1] : Int) (x0.length : Int)) true) none))))
def wq5d (k : Nat) {R : Type} (x0 : (List UInt8)) (x1 : UInt8) (K : ((List UInt8) → Bool → Option R)) : Option R := wqc0 k  x0 x1 K
theorem wqes (k : Nat) {R : Type} (x0 : (List UInt8)) (x1 : UInt8) (K : ((List UInt8) → Bool → Option R)) : fnW (wqhz k) k Tryd.f44 wqhy [.v .str x0, .v .str [x1]] [] (wq98 K) = wq5d k x0 x1 K := by
  kernel_rfl
def wq45 (k : Nat) {R : Type} : List PV → List (Nm × HObj) → (Out → Option R) → Option R
  | [.v .str x0, .v .str [x1]], [], K => wq5d k x0 x1 (fun y0 y1 => K (.ret [.v .str y0, .v .bool y1] []))
  | _, _, _ => none
theorem wqjj (k : Nat) : DOK Tryd.prog 44 (wq45 k) := by
  intro ps hp R K r h
  have h : wq45 k ps hp K = some r := h
  unfold wq45 at h
  split at h
  · rw [← wqes] at h
    exact fnW_ok ⟨tyT_ok, (wq5 (wqbz k) CTab.nil_ok), fun _ _ => rfl⟩ mixed (by kernel_rfl) (by kernel_rfl) h fun o ho => by unfold wq98 at ho; split at ho <;> first | exact ho | cases ho
  · cases h
end Go.Proofs.YtmdmpogommehpaaDoor.Pvm
end


noncomputable section
namespace Go.Proofs.YtmdmpogommehpaaDoor.Pvm
open Go Go.Proofs
def wqdr : List LS := [.any, .any]
def wq7g {R : Type} (K : ((List UInt8) → Bool → Option R)) : Out → Option R
  | .ret [.v .str y0, .v .bool y1] [] => K y0 y1
  | _ => none
def wqet : RetSpec := ⟨[.any, .any], [], []⟩
def wqeu (k : Nat) : Ctx := ⟨tyT, [], (.add 44 wqgc (wq45 k) .nil), [], [], [], @SH⟩
def wqa2 (k : Nat) {R : Type}  (x0 : (List UInt8)) (x1 : UInt8) (K : ((List UInt8) → Bool → Option R)) : Option R := (wq5d k x0 x1 (fun y5 y6 => (K y5 y6)))
def wq2k (k : Nat) {R : Type} (x0 : (List UInt8)) (x1 : UInt8) (K : ((List UInt8) → Bool → Option R)) : Option R := wqa2 k  x0 x1 K
theorem wqcq (k : Nat) {R : Type} (x0 : (List UInt8)) (x1 : UInt8) (K : ((List UInt8) → Bool → Option R)) : fnW (wqeu k) k Tryd.f33 wqet [.v .str x0, .v .str [x1]] [] (wq7g K) = wq2k k x0 x1 K := by
  kernel_rfl
def wq2v (k : Nat) {R : Type} : List PV → List (Nm × HObj) → (Out → Option R) → Option R
  | [.v .str x0, .v .str [x1]], [], K => wq2k k x0 x1 (fun y0 y1 => K (.ret [.v .str y0, .v .bool y1] []))
  | _, _, _ => none
theorem wqgd (k : Nat) : DOK Tryd.prog 33 (wq2v k) := by
  intro ps hp R K r h
  have h : wq2v k ps hp K = some r := h
  unfold wq2v at h
  split at h
  · rw [← wqcq] at h
    exact fnW_ok ⟨tyT_ok, (wq5 (wqjj k) CTab.nil_ok), fun _ _ => rfl⟩ mixed (by kernel_rfl) (by kernel_rfl) h fun o ho => by unfold wq7g at ho; split at ho <;> first | exact ho | cases ho
  · cases h
end Go.Proofs.YtmdmpogommehpaaDoor.Pvm
end


noncomputable section
namespace Go.Proofs.YtmdmpogommehpaaDoor.Pvm
open Go Go.Proofs
def wqm7 : List LS := [.any]
def wqcr {R : Type} (K : (Nat → Bool → Option R)) : Out → Option R
  | .ret [.v .flt y0, .v .bool y1] [] => K y0 y1
  | _ => none
def wqo6 : RetSpec := ⟨[.any, .any], [], []⟩
def wqo7 (k : Nat) : Ctx := ⟨tyT, [], (.add 31 wqs5 (wqbe k) (.add 32 wqs4 (wqbd k) (.add 33 wqdr (wq2v k) (.add 34 wqe5 (wq53 k) (.add 35 wql0 (wq62 k) (.add 36 wqm5 (wq75 k) (.add 37 wqq3 (wq9x k) (.add 38 wqjh (wq5a k) .nil)))))))), [], [], [], @SH⟩
def wqj0 (k : Nat) {R : Type}  (x0 : (List UInt8)) (K : (Nat → Bool → Option R)) : Option R := (cond (x0 == [(110 : UInt8), 97, 110]) (wqkz k (fun y4 => (K y4 true))) (cond (x0 == [(105 : UInt8), 110, 102]) (wqg8 k 1 (fun y4 => (K y4 true))) (cond (x0 == [(45 : UInt8), 105, 110, 102]) (wqg8 k (@Neg.neg Int @Int.instNegInt (1 : Int)) (fun y4 => (K y4 true))) (wq2k k x0 45 (fun y4 y5 => (wq5v k y4 46 (fun y6 y7 y8 => (wq1t k y6 9 (fun y9 => (cond ((!(((!y9) == false) && ((decide ((y6.length : Int) > 1)) == true))) || (inb 0 (y6.length : Int))) (cond ((cond (!y9) true (cond (decide ((y6.length : Int) > 1)) (((y6.getD (Int.toNat 0) 0).toNat : Int) == 48) false)) == false) (cond (y8 == true) (wq1t k y7 6 (fun y10 => (cond (!y10) (K 0 false) (cond (joins y6 y7) (wq4g k (y6 ++ y7) (fun y11 => (wq6t k (y7.length : Int) (fun y12 => (cond (@Option.isSome Nat (@fltAr @Go.BinOp.quo (@fltOf y11) (@fltOf y12))) (cond y5 (wq2t k (@Option.getD Nat (@fltAr @Go.BinOp.quo (@fltOf y11) (@fltOf y12)) (0 : Nat)) 13830554455654793216 (fun y13 => (K y13 true))) (K (@Option.getD Nat (@fltAr @Go.BinOp.quo (@fltOf y11) (@fltOf y12)) (0 : Nat)) true)) none))))) none)))) (cond (joins y6 y7) (wq4g k (y6 ++ y7) (fun y10 => (wq6t k (y7.length : Int) (fun y11 => (cond (@Option.isSome Nat (@fltAr @Go.BinOp.quo (@fltOf y10) (@fltOf y11))) (cond y5 (wq2t k (@Option.getD Nat (@fltAr @Go.BinOp.quo (@fltOf y10) (@fltOf y11)) (0 : Nat)) 13830554455654793216 (fun y12 => (K y12 true))) (K (@Option.getD Nat (@fltAr @Go.BinOp.quo (@fltOf y10) (@fltOf y11)) (0 : Nat)) true)) none))))) none)) (K 0 false)) none))))))))))
def wq7h (k : Nat) {R : Type} (x0 : (List UInt8)) (K : (Nat → Bool → Option R)) : Option R := wqj0 k  x0 K
theorem wql4 (k : Nat) {R : Type} (x0 : (List UInt8)) (K : (Nat → Bool → Option R)) : fnW (wqo7 k) k Tryd.f23 wqo6 [.v .str x0] [] (wqcr K) = wq7h k x0 K := by
  kernel_rfl
def wq77 (k : Nat) {R : Type} : List PV → List (Nm × HObj) → (Out → Option R) → Option R
  | [.v .str x0], [], K => wq7h k x0 (fun y0 y1 => K (.ret [.v .flt y0, .v .bool y1] []))
  | _, _, _ => none
theorem wqq7 (k : Nat) : DOK Tryd.prog 23 (wq77 k) := by
  intro ps hp R K r h
  have h : wq77 k ps hp K = some r := h
  unfold wq77 at h
  split at h
  · rw [← wql4] at h
    exact fnW_ok ⟨tyT_ok, (wq5 (wqwu k) (wq5 (wqws k) (wq5 (wqgd k) (wq5 (wqiz k) (wq5 (wqnz k) (wq5 (wqq4 k) (wq5 (wquo k) (wq5 (wqm4 k) CTab.nil_ok)))))))), fun _ _ => rfl⟩ mixed (by kernel_rfl) (by kernel_rfl) h fun o ho => by unfold wqcr at ho; split at ho <;> first | exact ho | cases ho
  · cases h
end Go.Proofs.YtmdmpogommehpaaDoor.Pvm
end


noncomputable section
namespace Go.Proofs.YtmdmpogommehpaaDoor.Pvm
open Go Go.Proofs
def wqev : List LS := [.ag [.sl kdT30], .any]
def wq86 {R : Type} (K : (Nat → Int → Int → Option R)) : Out → Option R
  | .ret [.v .flt y0, .agg [.v (.int .i64) y1, .v (.int .i64) y2]] [] => K y0 y1 y2
  | _ => none
def wqge : RetSpec := ⟨[.any, .ag [.any, .any]], [], []⟩
def wqgf (k : Nat) : Ctx := ⟨tyT, [], (.add 22 wq60 (wq1i k) (.add 23 wqm7 (wq77 k) (.add 24 wqny (wq8e k) (.add 25 wq19 (wql k) (.add 26 wqs2 (wqbb k) .nil))))), [], [], [(3, (.of [(1, 1), (0, 1), (2, 0)] .done))], @SH⟩
def wqaw (k : Nat) {R : Type}  (x0 : (List dT30)) (x1 : Int) (K : (Nat → Int → Int → Option R)) : Option R := (wq1o k x0 x1 15 (fun y5 y6 y7 => (cond (y6 != 0) (K 0 y6 y7) (wq7h k y5 (fun y8 y9 => (cond ((!y9) == false) (wqbc k y8 (fun y10 => (cond (cond (cond y10 true (@fltIs @Go.BinOp.lss y8 (0 : Nat))) true (@fltIs @Go.BinOp.gtr y8 (4607182418800017408 : Nat))) (wqe k x0 x1 15 (fun y11 y12 => (K 0 y11 y12))) (wqcj k y8 (fun y11 => (K y11 0 0)))))) (wqe k x0 x1 15 (fun y10 y11 => (K 0 y10 y11)))))))))
def wq4m (k : Nat) {R : Type} (x0 : (List dT30)) (x1 : Int) (K : (Nat → Int → Int → Option R)) : Option R := wqaw k  x0 x1 K
theorem wqds (k : Nat) {R : Type} (x0 : (List dT30)) (x1 : Int) (K : (Nat → Int → Int → Option R)) : fnW (wqgf k) k Tryd.f14 wqge [.agg [.v kdT33 x0], .v kI x1] [] (wq86 K) = wq4m k x0 x1 K := by
  kernel_rfl
def wq3j (k : Nat) {R : Type} : List PV → List (Nm × HObj) → (Out → Option R) → Option R
  | [.agg [.v (.sl (.pr (.int .i64) (.pr (.int .i64) (.pr .str (.pr .bool (.pr (.sl .str) (.sl (.int .i64)))))))) x0], .v (.int .i64) x1], [], K => wq4m k x0 x1 (fun y0 y1 y2 => K (.ret [.v .flt y0, .agg [.v (.int .i64) y1, .v (.int .i64) y2]] []))
  | _, _, _ => none
theorem wqi0 (k : Nat) : DOK Tryd.prog 14 (wq3j k) := by
  intro ps hp R K r h
  have h : wq3j k ps hp K = some r := h
  unfold wq3j at h
  split at h
  · rw [← wqds] at h
    exact fnW_ok ⟨tyT_ok, (wq5 (wq7u k) (wq5 (wqq7 k) (wq5 (wqs3 k) (wq5 (wq1z k) (wq5 (wqwq k) CTab.nil_ok))))), fun _ _ => rfl⟩ mixed (by kernel_rfl) (by kernel_rfl) h fun o ho => by unfold wq86 at ho; split at ho <;> first | exact ho | cases ho
  · cases h
end Go.Proofs.YtmdmpogommehpaaDoor.Pvm
end


noncomputable section
namespace Go.Proofs.YtmdmpogommehpaaDoor.Pvm
open Go Go.Proofs
def wq65 : List LS := []
def wqe6 {R : Type} (K : (Int → Int → Option R)) : Out → Option R
  | .ret [.agg [.v (.int .i64) y0, .v (.int .i64) y1]] [] => K y0 y1
  | _ => none
def wqq8 : RetSpec := ⟨[.ag [.any, .any]], [], []⟩
def wqq9 (k : Nat) : Ctx := ⟨tyT, [], .nil, [], [], [], @SH⟩
def wqs8 (k : Nat) {R : Type}   (K : (Int → Int → Option R)) : Option R := (K 11 0)
def wq5p (k : Nat) {R : Type}  (K : (Int → Int → Option R)) : Option R := wqs8 k   K
theorem wqm8 (k : Nat) {R : Type}  (K : (Int → Int → Option R)) : fnW (wqq9 k) k Tryd.f15 wqq8 [] [] (wqe6 K) = wq5p k  K := by
  kernel_rfl
def wq2l (k : Nat) {R : Type} : List PV → List (Nm × HObj) → (Out → Option R) → Option R
  | [], [], K => wq5p k  (fun y0 y1 => K (.ret [.agg [.v (.int .i64) y0, .v (.int .i64) y1]] []))
  | _, _, _ => none
theorem wq99 (k : Nat) : DOK Tryd.prog 15 (wq2l k) := by
  intro ps hp R K r h
  have h : wq2l k ps hp K = some r := h
  unfold wq2l at h
  split at h
  · rw [← wqm8] at h
    exact fnW_ok ⟨tyT_ok, CTab.nil_ok, fun _ _ => rfl⟩ mixed (by kernel_rfl) (by kernel_rfl) h fun o ho => by unfold wqe6 at ho; split at ho <;> first | exact ho | cases ho
  · cases h
end Go.Proofs.YtmdmpogommehpaaDoor.Pvm
end


noncomputable section
namespace Go.Proofs.YtmdmpogommehpaaDoor.Pvm
open Go Go.Proofs
def wqs9 : List LS := [.any]
def wqj1 {R : Type} (K : (Bool → Option R)) : Out → Option R
  | .ret [.v .bool y0] [] => K y0
  | _ => none
def wqur : RetSpec := ⟨[.any], [], []⟩
def wqus (k : Nat) : Ctx := ⟨tyT, [], .nil, [], [], [], @SH⟩
def wqqa (k : Nat) {R : Type}  (x0 : Int) (K : (Bool → Option R)) : Option R := (K (cond (cond (cond (cond (cond (cond (decide (x0 ≥ 97)) (decide (x0 ≤ 122)) false) true (cond (decide (x0 ≥ 65)) (decide (x0 ≤ 90)) false)) true (cond (decide (x0 ≥ 48)) (decide (x0 ≤ 57)) false)) true (x0 == 95)) true (x0 == 45)) true (x0 == 46)))
def wqcs (k : Nat) {R : Type} (x0 : Int) (K : (Bool → Option R)) : Option R := wqqa k  x0 K
theorem wqqb (k : Nat) {R : Type} (x0 : Int) (K : (Bool → Option R)) : fnW (wqus k) k Tryd.f62 wqur [.v (.int .u8) x0] [] (wqj1 K) = wqcs k x0 K := by
  kernel_rfl
def wqbj (k : Nat) {R : Type} : List PV → List (Nm × HObj) → (Out → Option R) → Option R
  | [.v (.int .u8) x0], [], K => wqcs k x0 (fun y0 => K (.ret [.v .bool y0] []))
  | _, _, _ => none
theorem wqwv (k : Nat) : DOK Tryd.prog 62 (wqbj k) := by
  intro ps hp R K r h
  have h : wqbj k ps hp K = some r := h
  unfold wqbj at h
  split at h
  · rw [← wqqb] at h
    exact fnW_ok ⟨tyT_ok, CTab.nil_ok, fun _ _ => rfl⟩ mixed (by kernel_rfl) (by kernel_rfl) h fun o ho => by unfold wqj1 at ho; split at ho <;> first | exact ho | cases ho
  · cases h
end Go.Proofs.YtmdmpogommehpaaDoor.Pvm
end


noncomputable section
namespace Go.Proofs.YtmdmpogommehpaaDoor.Pvm
open Go Go.Proofs
def wqj2 : List LS := [.any]
def wq8h {R : Type} (K : (Bool → Option R)) : Out → Option R
  | .ret [.v .bool y0] [] => K y0
  | _ => none
def wqew : RetSpec := ⟨[.any], [], []⟩
def wqex (k : Nat) : Ctx := ⟨tyT, [(1002, ⟨[(0, .any), (5, .any), (6, .any)], []⟩)], (.add 62 wqs9 (wqbj k) .nil), [], [], [], @SH⟩
def wq5e (s0 : (List UInt8)) (s1 s2 : Int) : St := ⟨mkT [(0, .v .str s0), (5, .v kI s1), (6, .v kI s2)], mkH []⟩
def wq9a (k : Nat) {R : Type} (I : Nat → St → Option R) (n : Nat) (s : St) (K : (Bool → Option R)) : Option R := loopK (wqex k) k Tryd.f53 wqew 1002 [1, 0, 1, 0] I n s (wq8h K)
def wq66 (k : Nat) {R : Type} (E1002 : ((List UInt8) → Int → Int → Option R)) (s0 : (List UInt8)) (s1 s2 : Int) (K : (Bool → Option R)) : Option R := (cond (decide (s2 < s1)) (cond (inb s2 (s0.length : Int)) (wqcs k ((s0.getD s2.toNat 0).toNat : Int) (fun y7 => (cond (!y7) (K false) (E1002 s0 s1 (@Go.IntKind.wrap Go.IntKind.i64 (s2 + 1)))))) none) (K (!(s0 == []))))
theorem wqgg (k : Nat) {R : Type} (I : Nat → St → Option R) (s0 : (List UInt8)) (s1 s2 : Int) (K : (Bool → Option R)) : bodyK (wqex k) k Tryd.f53 wqew [1, 0, 1, 0, 0] I (wq5e s0 s1 s2) (wq8h K) = wq66 k (fun s0 s1 s2 => I 1002 (wq5e s0 s1 s2)) s0 s1 s2 K := by kernel_rfl
def wqi1 (k : Nat) {R : Type} (E1002 : ((List UInt8) → Int → Int → Option R)) (x0 : (List UInt8)) (K : (Bool → Option R)) : Option R := (E1002 x0 (x0.length : Int) 0)
def wq35 (k : Nat) {R : Type}  : Nat → (List UInt8) → Int → Int → (Bool → Option R) → Option R
  | 0, _, _, _, _ => none
  | n + 1, s0, s1, s2, K => wq66 k (fun s0 s1 s2 => wq35 k  n s0 s1 s2 K) s0 s1 s2 K
theorem wqgh (k : Nat) {R : Type} (I : Nat → St → Option R) (K : (Bool → Option R)) (n : Nat) : ∀ (s0 : (List UInt8)) (s1 s2 : Int), wq9a k I n (wq5e s0 s1 s2) K = wq35 k  n s0 s1 s2 K := by
  induction n with
  | zero => intros; rfl
  | succ n ih =>
    intro s0 s1 s2
    refine (?_ : _ = _).trans ((wqgg k (upI 1002 (fun s => wq9a k I n s K) I) s0 s1 s2 K).trans ?_)
    · rfl
    · simp only [wq3x, ih] <;> rfl
def wq8x (k : Nat) {R : Type} (x0 : (List UInt8)) (K : (Bool → Option R)) : Option R := wqi1 k (fun s0 s1 s2 => wq35 k k s0 s1 s2 K) x0 K
theorem wqo8 (k : Nat) {R : Type} (x0 : (List UInt8)) (K : (Bool → Option R)) : fnW (wqex k) k Tryd.f53 wqew [.v .str x0] [] (wq8h K) = wq8x k x0 K := by
  refine Eq.trans (b := wqi1 k (fun s0 s1 s2 => wq9a k (fun _ _ => none) k (wq5e s0 s1 s2) K) x0 K) (by kernel_rfl) ?_
  simp only [wqgh] <;> rfl
def wq7i (k : Nat) {R : Type} : List PV → List (Nm × HObj) → (Out → Option R) → Option R
  | [.v .str x0], [], K => wq8x k x0 (fun y0 => K (.ret [.v .bool y0] []))
  | _, _, _ => none
theorem wqn7 (k : Nat) : DOK Tryd.prog 53 (wq7i k) := by
  intro ps hp R K r h
  have h : wq7i k ps hp K = some r := h
  unfold wq7i at h
  split at h
  · rw [← wqo8] at h
    exact fnW_ok ⟨tyT_ok, (wq5 (wqwv k) CTab.nil_ok), fun _ _ => rfl⟩ mixed (by kernel_rfl) (by kernel_rfl) h fun o ho => by unfold wq8h at ho; split at ho <;> first | exact ho | cases ho
  · cases h
end Go.Proofs.YtmdmpogommehpaaDoor.Pvm
end


noncomputable section
namespace Go.Proofs.YtmdmpogommehpaaDoor.Pvm
open Go Go.Proofs
def wqo9 : List LS := [.sl .str]
def wq78 {R : Type} (K : (Bool → Option R)) : Out → Option R
  | .ret [.v .bool y0] [] => K y0
  | _ => none
def wqct : RetSpec := ⟨[.any], [], []⟩
def wqcu (k : Nat) : Ctx := ⟨tyT, [(1003, ⟨[(3, .mpo 73 .one .bool), (7, .sl .str), (8, .any), (9, .any)], []⟩)], (.add 53 wqj2 (wq7i k) .nil), [], [], [], @SH⟩
def wq4n (s0 : (List (List UInt8 × Bool))) (s1 : (List (List UInt8))) (s2 s3 : Int) : St := ⟨mkT [(3, .mpp 73), (7, .v (.sl .str) s1), (8, .v kI s2), (9, .v kI s3)], mkH [(73, .mp .one .bool s0)]⟩
def wq7w (k : Nat) {R : Type} (I : Nat → St → Option R) (n : Nat) (s : St) (K : (Bool → Option R)) : Option R := loopK (wqcu k) k Tryd.f48 wqct 1003 [1, 1, 0, 1, 0] I n s (wq78 K)
def wq5f (k : Nat) {R : Type} (E1003 : ((List (List UInt8 × Bool)) → (List (List UInt8)) → Int → Int → Option R)) (s0 : (List (List UInt8 × Bool))) (s1 : (List (List UInt8))) (s2 s3 : Int) (K : (Bool → Option R)) : Option R := (cond (decide (s3 < s2)) (cond (inb s3 (s1.length : Int)) (wq8x k (s1.getD s3.toNat Kd.str.zero) (fun y8 => (cond ((cond (!y8) true (decide (((s1.getD s3.toNat Kd.str.zero).length : Int) > 64))) == false) (cond (mget Kd.bool (s1.getD s3.toNat Kd.str.zero) s0) (K false) (E1003 (mset Kd.bool (s1.getD s3.toNat Kd.str.zero) true s0) s1 s2 (@Go.IntKind.wrap Go.IntKind.i64 (s3 + 1)))) (K false)))) none) (K true))
theorem wqey (k : Nat) {R : Type} (I : Nat → St → Option R) (s0 : (List (List UInt8 × Bool))) (s1 : (List (List UInt8))) (s2 s3 : Int) (K : (Bool → Option R)) : bodyK (wqcu k) k Tryd.f48 wqct [1, 1, 0, 1, 0, 0] I (wq4n s0 s1 s2 s3) (wq78 K) = wq5f k (fun s0 s1 s2 s3 => I 1003 (wq4n s0 s1 s2 s3)) s0 s1 s2 s3 K := by kernel_rfl
def wqez (k : Nat) {R : Type} (E1003 : ((List (List UInt8 × Bool)) → (List (List UInt8)) → Int → Int → Option R)) (x0 : (List (List UInt8))) (K : (Bool → Option R)) : Option R := (E1003 [] x0 (x0.length : Int) 0)
def wq2d (k : Nat) {R : Type}  : Nat → (List (List UInt8 × Bool)) → (List (List UInt8)) → Int → Int → (Bool → Option R) → Option R
  | 0, _, _, _, _, _ => none
  | n + 1, s0, s1, s2, s3, K => wq5f k (fun s0 s1 s2 s3 => wq2d k  n s0 s1 s2 s3 K) s0 s1 s2 s3 K
theorem wqf0 (k : Nat) {R : Type} (I : Nat → St → Option R) (K : (Bool → Option R)) (n : Nat) : ∀ (s0 : (List (List UInt8 × Bool))) (s1 : (List (List UInt8))) (s2 s3 : Int), wq7w k I n (wq4n s0 s1 s2 s3) K = wq2d k  n s0 s1 s2 s3 K := by
  induction n with
  | zero => intros; rfl
  | succ n ih =>
    intro s0 s1 s2 s3
    refine (?_ : _ = _).trans ((wqey k (upI 1003 (fun s => wq7w k I n s K) I) s0 s1 s2 s3 K).trans ?_)
    · rfl
    · simp only [wq3x, ih] <;> rfl
def wq9b (k : Nat) {R : Type} (x0 : (List (List UInt8))) (K : (Bool → Option R)) : Option R := wqez k (fun s0 s1 s2 s3 => wq2d k k s0 s1 s2 s3 K) x0 K
theorem wqm9 (k : Nat) {R : Type} (x0 : (List (List UInt8))) (K : (Bool → Option R)) : fnW (wqcu k) k Tryd.f48 wqct [.v (.sl .str) x0] [] (wq78 K) = wq9b k x0 K := by
  refine Eq.trans (b := wqez k (fun s0 s1 s2 s3 => wq7w k (fun _ _ => none) k (wq4n s0 s1 s2 s3) K) x0 K) (by kernel_rfl) ?_
  simp only [wqf0] <;> rfl
def wq8i (k : Nat) {R : Type} : List PV → List (Nm × HObj) → (Out → Option R) → Option R
  | [.v (.sl .str) x0], [], K => wq9b k x0 (fun y0 => K (.ret [.v .bool y0] []))
  | _, _, _ => none
theorem wqsa (k : Nat) : DOK Tryd.prog 48 (wq8i k) := by
  intro ps hp R K r h
  have h : wq8i k ps hp K = some r := h
  unfold wq8i at h
  split at h
  · rw [← wqm9] at h
    exact fnW_ok ⟨tyT_ok, (wq5 (wqn7 k) CTab.nil_ok), fun _ _ => rfl⟩ mixed (by kernel_rfl) (by kernel_rfl) h fun o ho => by unfold wq78 at ho; split at ho <;> first | exact ho | cases ho
  · cases h
end Go.Proofs.YtmdmpogommehpaaDoor.Pvm
end


namespace Go.Proofs.YtmdmpogommehpaaDoor.Pvm
open Go Go.Proofs
def wqj3 : List LS := [.obj 1 [.sl (.pr (.int .i64) (.pr (.int .i64) (.pr (.int .i64) (.pr .str .bool))))], .obj 2 [.any, .any]]
def wqj4 (k : Nat) : CTab := CTab.nil
def wq9c {R : Type} (K : ((List dT93) → Int → Int → Option R)) : Out → Option R
  | .ret [] [(1, .var 88 [.v (.sl (.pr (.int .i64) (.pr (.int .i64) (.pr (.int .i64) (.pr .str .bool))))) y0]), (2, .var 25 [.v (.int .i64) y1, .v (.int .i64) y2])] => K y0 y1 y2
  | _ => none
def wqgi : RetSpec := ⟨[], [(1, .obj 1 [.sl (.pr (.int .i64) (.pr (.int .i64) (.pr (.int .i64) (.pr .str .bool))))]), (2, .obj 2 [.any, .any])], []⟩
def wql5 : List (Nat × CutSpec) := []
def wqjk : List (Nat × Plan) := [(7, (.of [(0, 2), (1, 0), (2, 0)] .done))]
def wqbk (k : Nat) : Ctx := ⟨tyT, wql5, wqj4 k, [], [1, 2], wqjk, @SH⟩
def wq67 : Code := Tryd.f60.body.getD .skip
def wqcv (k : Nat) {R : Type}  (x0 : (List dT93)) (x1 x2 : Int) (K : ((List dT93) → Int → Int → Option R)) : Option R := (K x0 x1 x2)
theorem wql6 (k : Nat) {R : Type} (I : Nat → St → Option R) (x0 : (List dT93)) (x1 x2 : Int) (K : ((List dT93) → Int → Int → Option R)) : fnCK (wqbk k) k (at_ [1] wq67) 12 [] wqgi [.ptr 1 0, .ptr 2 0] 5 (.nilif) [(1, .var 88 [.v (.sl (.pr (.int .i64) (.pr (.int .i64) (.pr (.int .i64) (.pr .str .bool))))) x0]), (2, .var 25 [.v (.int .i64) x1, .v (.int .i64) x2])] (wq9c K) = wqcv k  x0 x1 x2 K := by kernel_rfl
def wq7j (k : Nat) {R : Type} (x0 : (List dT93)) (x1 x2 : Int) (K : ((List dT93) → Int → Int → Option R)) : Option R := wqcv k  x0 x1 x2 K
theorem wql7 (k : Nat) {R : Type} (x0 : (List dT93)) (x1 x2 : Int) (K : ((List dT93) → Int → Int → Option R)) : fnCK (wqbk k) k (at_ [1] wq67) 12 [] wqgi [.ptr 1 0, .ptr 2 0] 5 (.nilif) [(1, .var 88 [.v (.sl (.pr (.int .i64) (.pr (.int .i64) (.pr (.int .i64) (.pr .str .bool))))) x0]), (2, .var 25 [.v (.int .i64) x1, .v (.int .i64) x2])] (wq9c K) = wq7j k x0 x1 x2 K := by
  exact wql6 k (fun _ _ => none) x0 x1 x2 K
def wqe7 (k : Nat) {R : Type} : PV → List PV → List (Nm × HObj) → (Out → Option R) → Option R
  | .nilif, [.ptr 1 0, .ptr 2 0], [(1, .var 88 [.v (.sl (.pr (.int .i64) (.pr (.int .i64) (.pr (.int .i64) (.pr .str .bool))))) x0]), (2, .var 25 [.v (.int .i64) x1, .v (.int .i64) x2])], K => wq7j k x0 x1 x2 (fun y0 y1 y2 => K (.ret [] [(1, .var 88 [.v (.sl (.pr (.int .i64) (.pr (.int .i64) (.pr (.int .i64) (.pr .str .bool))))) y0]), (2, .var 25 [.v (.int .i64) y1, .v (.int .i64) y2])]))
  | _, _, _, _ => none
theorem wql8 (k : Nat) : (wqj4 k).Ok Tryd.prog := CTab.nil_ok
theorem wqoa (k : Nat) {rec : PV} {ps : List PV} {hp : List (Nm × HObj)} {R : Type} {K : Out → Option R} {r : R} (h : wqe7 k rec ps hp K = some r) : DoesToD Tryd.prog 60 rec ps hp fun out => K out = some r := by
  unfold wqe7 at h
  split at h
  · rw [← wql7] at h
    have := wqyw (P := Tryd.prog) (cx := wqbk k) (f := 60) ⟨tyT_ok, wql8 k, fun _ _ => rfl⟩ (by kernel_rfl) (fn := Tryd.f60) (id := 0) (ops := opsAt (at_ [0] wq67)) (c := at_ [1] wq67) (by kernel_rfl) (by kernel_rfl) (by kernel_rfl) (rs := []) (by kernel_rfl) (by kernel_rfl) h
    exact this.mono fun out ho => by
      unfold wq9c at ho
      split at ho <;> first | exact ho | cases ho
  · cases h
def wqj5 (k : Nat) : CTab := CTab.nil
def wq9d {R : Type} (K : ((List dT93) → Int → Int → Option R)) : Out → Option R
  | .ret [] [(1, .var 88 [.v (.sl (.pr (.int .i64) (.pr (.int .i64) (.pr (.int .i64) (.pr .str .bool))))) y0]), (2, .var 25 [.v (.int .i64) y1, .v (.int .i64) y2])] => K y0 y1 y2
  | _ => none
def wqgj : RetSpec := ⟨[], [(1, .obj 1 [.sl (.pr (.int .i64) (.pr (.int .i64) (.pr (.int .i64) (.pr .str .bool))))]), (2, .obj 2 [.any, .any])], []⟩
def wql9 : List (Nat × CutSpec) := []
def wqjl : List (Nat × Plan) := [(7, (.of [(0, 2), (1, 0), (2, 0)] .done))]
def wqbl (k : Nat) : Ctx := ⟨tyT, wql9, wqj5 k, [], [1, 2], wqjl, @SH⟩
def wq68 : Code := Tryd.f60.body.getD .skip
def wqcw (k : Nat) {R : Type}  (x0 : (List dT93)) (x1 x2 x3 x4 : Int) (K : ((List dT93) → Int → Int → Option R)) : Option R := (K [] x3 x4)
theorem wqla (k : Nat) {R : Type} (I : Nat → St → Option R) (x0 : (List dT93)) (x1 x2 x3 x4 : Int) (K : ((List dT93) → Int → Int → Option R)) : fnCK (wqbl k) k (at_ [1] wq68) 12 [] wqgj [.ptr 1 0, .ptr 2 0] 5 (.ifc 25 (.agg [.v (.int .i64) x3, .v (.int .i64) x4])) [(1, .var 88 [.v (.sl (.pr (.int .i64) (.pr (.int .i64) (.pr (.int .i64) (.pr .str .bool))))) x0]), (2, .var 25 [.v (.int .i64) x1, .v (.int .i64) x2])] (wq9d K) = wqcw k  x0 x1 x2 x3 x4 K := by kernel_rfl
def wq7k (k : Nat) {R : Type} (x0 : (List dT93)) (x1 x2 x3 x4 : Int) (K : ((List dT93) → Int → Int → Option R)) : Option R := wqcw k  x0 x1 x2 x3 x4 K
theorem wqlb (k : Nat) {R : Type} (x0 : (List dT93)) (x1 x2 x3 x4 : Int) (K : ((List dT93) → Int → Int → Option R)) : fnCK (wqbl k) k (at_ [1] wq68) 12 [] wqgj [.ptr 1 0, .ptr 2 0] 5 (.ifc 25 (.agg [.v (.int .i64) x3, .v (.int .i64) x4])) [(1, .var 88 [.v (.sl (.pr (.int .i64) (.pr (.int .i64) (.pr (.int .i64) (.pr .str .bool))))) x0]), (2, .var 25 [.v (.int .i64) x1, .v (.int .i64) x2])] (wq9d K) = wq7k k x0 x1 x2 x3 x4 K := by
  exact wqla k (fun _ _ => none) x0 x1 x2 x3 x4 K
def wqe8 (k : Nat) {R : Type} : PV → List PV → List (Nm × HObj) → (Out → Option R) → Option R
  | .ifc 25 (.agg [.v (.int .i64) x3, .v (.int .i64) x4]), [.ptr 1 0, .ptr 2 0], [(1, .var 88 [.v (.sl (.pr (.int .i64) (.pr (.int .i64) (.pr (.int .i64) (.pr .str .bool))))) x0]), (2, .var 25 [.v (.int .i64) x1, .v (.int .i64) x2])], K => wq7k k x0 x1 x2 x3 x4 (fun y0 y1 y2 => K (.ret [] [(1, .var 88 [.v (.sl (.pr (.int .i64) (.pr (.int .i64) (.pr (.int .i64) (.pr .str .bool))))) y0]), (2, .var 25 [.v (.int .i64) y1, .v (.int .i64) y2])]))
  | _, _, _, _ => none
theorem wqlc (k : Nat) : (wqj5 k).Ok Tryd.prog := CTab.nil_ok
theorem wqob (k : Nat) {rec : PV} {ps : List PV} {hp : List (Nm × HObj)} {R : Type} {K : Out → Option R} {r : R} (h : wqe8 k rec ps hp K = some r) : DoesToD Tryd.prog 60 rec ps hp fun out => K out = some r := by
  unfold wqe8 at h
  split at h
  · rw [← wqlb] at h
    have := wqyw (P := Tryd.prog) (cx := wqbl k) (f := 60) ⟨tyT_ok, wqlc k, fun _ _ => rfl⟩ (by kernel_rfl) (fn := Tryd.f60) (id := 0) (ops := opsAt (at_ [0] wq68)) (c := at_ [1] wq68) (by kernel_rfl) (by kernel_rfl) (by kernel_rfl) (rs := []) (by kernel_rfl) (by kernel_rfl) h
    exact this.mono fun out ho => by
      unfold wq9d at ho
      split at ho <;> first | exact ho | cases ho
  · cases h
end Go.Proofs.YtmdmpogommehpaaDoor.Pvm
noncomputable section
namespace Go.Proofs.YtmdmpogommehpaaDoor.Pvm
open Go Go.Proofs
def wqdt : List LS := [.any, .any]
def wq7l {R : Type} (K : (Bool → Option R)) : Out → Option R
  | .ret [.v .bool y0] [] => K y0
  | _ => none
def wqf1 : RetSpec := ⟨[.any], [], []⟩
def wqf2 (k : Nat) : Ctx := ⟨tyT, [], (.add 49 wqa1 (wq2j k) .nil), [], [], [], @SH⟩
def wqa3 (k : Nat) {R : Type}  (x0 x1 : (List UInt8)) (K : (Bool → Option R)) : Option R := (wq2c k x0 x1 (fun y5 => (K y5)))
def wq46 (k : Nat) {R : Type} (x0 x1 : (List UInt8)) (K : (Bool → Option R)) : Option R := wqa3 k  x0 x1 K
theorem wqcx (k : Nat) {R : Type} (x0 x1 : (List UInt8)) (K : (Bool → Option R)) : fnW (wqf2 k) k Tryd.f78 wqf1 [.v .str x0, .v .str x1] [] (wq7l K) = wq46 k x0 x1 K := by
  kernel_rfl
def wq2w (k : Nat) {R : Type} : List PV → List (Nm × HObj) → (Out → Option R) → Option R
  | [.v .str x0, .v .str x1], [], K => wq46 k x0 x1 (fun y0 => K (.ret [.v .bool y0] []))
  | _, _, _ => none
theorem wqgk (k : Nat) : DOK Tryd.prog 78 (wq2w k) := by
  intro ps hp R K r h
  have h : wq2w k ps hp K = some r := h
  unfold wq2w at h
  split at h
  · rw [← wqcx] at h
    exact fnW_ok ⟨tyT_ok, (wq5 (wqbz k) CTab.nil_ok), fun _ _ => rfl⟩ mixed (by kernel_rfl) (by kernel_rfl) h fun o ho => by unfold wq7l at ho; split at ho <;> first | exact ho | cases ho
  · cases h
end Go.Proofs.YtmdmpogommehpaaDoor.Pvm
end


noncomputable section
namespace Go.Proofs.YtmdmpogommehpaaDoor.Pvm
open Go Go.Proofs
def wqld : List LS := [.any]
def wqj6 {R : Type} (K : (Bool → Option R)) : Out → Option R
  | .ret [.v .bool y0] [] => K y0
  | _ => none
def wqut : RetSpec := ⟨[.any], [], []⟩
def wquu (k : Nat) : Ctx := ⟨tyT, [], (.add 78 wqdt (wq2w k) .nil), [], [], [], @SH⟩
def wqqc (k : Nat) {R : Type}  (x0 : (List UInt8)) (K : (Bool → Option R)) : Option R := (cond ((x0 == [(45 : UInt8)]) == false) (wq46 k x0 [45, 32] (fun y4 => (K y4))) (K true))
def wqax (k : Nat) {R : Type} (x0 : (List UInt8)) (K : (Bool → Option R)) : Option R := wqqc k  x0 K
theorem wqqd (k : Nat) {R : Type} (x0 : (List UInt8)) (K : (Bool → Option R)) : fnW (wquu k) k Tryd.f71 wqut [.v .str x0] [] (wqj6 K) = wqax k x0 K := by
  kernel_rfl
def wq9e (k : Nat) {R : Type} : List PV → List (Nm × HObj) → (Out → Option R) → Option R
  | [.v .str x0], [], K => wqax k x0 (fun y0 => K (.ret [.v .bool y0] []))
  | _, _, _ => none
theorem wqqe (k : Nat) : DOK Tryd.prog 71 (wq9e k) := by
  intro ps hp R K r h
  have h : wq9e k ps hp K = some r := h
  unfold wq9e at h
  split at h
  · rw [← wqqd] at h
    exact fnW_ok ⟨tyT_ok, (wq5 (wqgk k) CTab.nil_ok), fun _ _ => rfl⟩ mixed (by kernel_rfl) (by kernel_rfl) h fun o ho => by unfold wqj6 at ho; split at ho <;> first | exact ho | cases ho
  · cases h
end Go.Proofs.YtmdmpogommehpaaDoor.Pvm
end


noncomputable section
namespace Go.Proofs.YtmdmpogommehpaaDoor.Pvm
open Go Go.Proofs
def wqn8 : List LS := [.any]
def wqle {R : Type} (K : ((List UInt8) → Option R)) : Out → Option R
  | .ret [.v .str y0] [] => K y0
  | _ => none
def wqww : RetSpec := ⟨[.any], [], []⟩
def wqwx (k : Nat) : Ctx := ⟨tyT, [], (.add 34 wqe5 (wq53 k) (.add 53 wqj2 (wq7i k) .nil)), [], [], [], @SH⟩
def wqtp (k : Nat) {R : Type}  (x0 : (List UInt8)) (K : ((List UInt8) → Option R)) : Option R := (wq5v k x0 58 (fun y4 y5 y6 => (cond ((!y6) == false) (wq8x k y4 (fun y7 => (cond ((!(((!y7) == false) && ((!(y5 == [])) == true))) || (inb 0 (y5.length : Int))) (cond (cond (!y7) true (cond (!(y5 == [])) (((y5.getD (Int.toNat 0) 0).toNat : Int) != 32) false)) (K []) (K y4)) none))) (K []))))
def wqbm (k : Nat) {R : Type} (x0 : (List UInt8)) (K : ((List UInt8) → Option R)) : Option R := wqtp k  x0 K
theorem wqsb (k : Nat) {R : Type} (x0 : (List UInt8)) (K : ((List UInt8) → Option R)) : fnW (wqwx k) k Tryd.f73 wqww [.v .str x0] [] (wqle K) = wqbm k x0 K := by
  kernel_rfl
def wqay (k : Nat) {R : Type} : List PV → List (Nm × HObj) → (Out → Option R) → Option R
  | [.v .str x0], [], K => wqbm k x0 (fun y0 => K (.ret [.v .str y0] []))
  | _, _, _ => none
theorem wqtq (k : Nat) : DOK Tryd.prog 73 (wqay k) := by
  intro ps hp R K r h
  have h : wqay k ps hp K = some r := h
  unfold wqay at h
  split at h
  · rw [← wqsb] at h
    exact fnW_ok ⟨tyT_ok, (wq5 (wqiz k) (wq5 (wqn7 k) CTab.nil_ok)), fun _ _ => rfl⟩ mixed (by kernel_rfl) (by kernel_rfl) h fun o ho => by unfold wqle at ho; split at ho <;> first | exact ho | cases ho
  · cases h
end Go.Proofs.YtmdmpogommehpaaDoor.Pvm
end


noncomputable section
namespace Go.Proofs.YtmdmpogommehpaaDoor.Pvm
open Go Go.Proofs
def wq2m : List LS := [.obj 1 [.any, .any, .any, .any, .own 21 94 kdT93], .any]
def wq9f {R : Type} (K : (Int → Int → (List UInt8) → Int → (List dT93) → Option R)) (E : (Int → Int → (List UInt8) → Int → (List dT93) → Int → Int → Option R)) : Out → Option R
  | .ret [] [(21, .row 94 (.pr (.int .i64) (.pr (.int .i64) (.pr (.int .i64) (.pr .str .bool)))) y4), (1, .var 102 [.v (.int .i64) y0, .v (.int .i64) y1, .v .str y2, .v (.int .i64) y3, .row 21])] => K y0 y1 y2 y3 y4
  | .pan (.ifc 25 (.agg [.v (.int .i64) z5, .v (.int .i64) z6])) [(21, .row 94 (.pr (.int .i64) (.pr (.int .i64) (.pr (.int .i64) (.pr .str .bool)))) z4), (1, .var 102 [.v (.int .i64) z0, .v (.int .i64) z1, .v .str z2, .v (.int .i64) z3, .row 21])] => E z0 z1 z2 z3 z4 z5 z6
  | _ => none
def wqi2 : RetSpec := ⟨[], [(1, .obj 1 [.any, .any, .any, .any, .own 21 94 (.pr (.int .i64) (.pr (.int .i64) (.pr (.int .i64) (.pr .str .bool))))])], [(1, .obj 1 [.any, .any, .any, .any, .own 21 94 (.pr (.int .i64) (.pr (.int .i64) (.pr (.int .i64) (.pr .str .bool))))])]⟩
def wqi3 (k : Nat) : Ctx := ⟨tyT, [], .nil, [], [1], [], @SH⟩
def wqjm (k : Nat) {R : Type}  (x0 x1 : Int) (x2 : (List UInt8)) (x3 : Int) (x4 : (List dT93)) (x5 : Int) (K : (Int → Int → (List UInt8) → Int → (List dT93) → Option R)) (E : (Int → Int → (List UInt8) → Int → (List dT93) → Int → Int → Option R)) : Option R := (E x0 x1 x2 x3 x4 x5 x0)
def wq2 (k : Nat) {R : Type} (x0 x1 : Int) (x2 : (List UInt8)) (x3 : Int) (x4 : (List dT93)) (x5 : Int) (K : (Int → Int → (List UInt8) → Int → (List dT93) → Option R)) (E : (Int → Int → (List UInt8) → Int → (List dT93) → Int → Int → Option R)) : Option R := wqjm k  x0 x1 x2 x3 x4 x5 K E
theorem wqf3 (k : Nat) {R : Type} (x0 x1 : Int) (x2 : (List UInt8)) (x3 : Int) (x4 : (List dT93)) (x5 : Int) (K : (Int → Int → (List UInt8) → Int → (List dT93) → Option R)) (E : (Int → Int → (List UInt8) → Int → (List dT93) → Int → Int → Option R)) : fnW (wqi3 k) k Tryd.f69 wqi2 [.ptr 1 0, .v kI x5] [(21, .row 94 kdT93 x4), (1, .var 102 [.v kI x0, .v kI x1, .v .str x2, .v kI x3, .row 21])] (wq9f K E) = wq2 k x0 x1 x2 x3 x4 x5 K E := by
  kernel_rfl
def wqw (k : Nat) {R : Type} : List PV → List (Nm × HObj) → (Out → Option R) → Option R
  | [.ptr 1 0, .v (.int .i64) x5], [(21, .row 94 (.pr (.int .i64) (.pr (.int .i64) (.pr (.int .i64) (.pr .str .bool)))) x4), (1, .var 102 [.v (.int .i64) x0, .v (.int .i64) x1, .v .str x2, .v (.int .i64) x3, .row 21])], K => wq2 k x0 x1 x2 x3 x4 x5 (fun y0 y1 y2 y3 y4 => K (.ret [] [(21, .row 94 (.pr (.int .i64) (.pr (.int .i64) (.pr (.int .i64) (.pr .str .bool)))) y4), (1, .var 102 [.v (.int .i64) y0, .v (.int .i64) y1, .v .str y2, .v (.int .i64) y3, .row 21])])) (fun z0 z1 z2 z3 z4 z5 z6 => K (.pan (.ifc 25 (.agg [.v (.int .i64) z5, .v (.int .i64) z6])) [(21, .row 94 (.pr (.int .i64) (.pr (.int .i64) (.pr (.int .i64) (.pr .str .bool)))) z4), (1, .var 102 [.v (.int .i64) z0, .v (.int .i64) z1, .v .str z2, .v (.int .i64) z3, .row 21])]))
  | _, _, _ => none
theorem wq3t (k : Nat) : DOK Tryd.prog 69 (wqw k) := by
  intro ps hp R K r h
  have h : wqw k ps hp K = some r := h
  unfold wqw at h
  split at h
  · rw [← wqf3] at h
    exact fnW_ok ⟨tyT_ok, CTab.nil_ok, fun _ _ => rfl⟩ mixed (by kernel_rfl) (by kernel_rfl) h fun o ho => by unfold wq9f at ho; split at ho <;> first | exact ho | cases ho
  · cases h
end Go.Proofs.YtmdmpogommehpaaDoor.Pvm
end


noncomputable section
namespace Go.Proofs.YtmdmpogommehpaaDoor.Pvm
open Go Go.Proofs
def wqa4 : List LS := [.obj 1 [.any, .any, .any, .any, .own 21 94 kdT93], .any, .any, .any, .any]
def wq9g {R : Type} (K : (Int → Int → (List UInt8) → Int → (List dT93) → Option R)) : Out → Option R
  | .ret [] [(21, .row 94 (.pr (.int .i64) (.pr (.int .i64) (.pr (.int .i64) (.pr .str .bool)))) y4), (1, .var 102 [.v (.int .i64) y0, .v (.int .i64) y1, .v .str y2, .v (.int .i64) y3, .row 21])] => K y0 y1 y2 y3 y4
  | _ => none
def wqi4 : RetSpec := ⟨[], [(1, .obj 1 [.any, .any, .any, .any, .own 21 94 (.pr (.int .i64) (.pr (.int .i64) (.pr (.int .i64) (.pr .str .bool))))])], []⟩
def wqi5 (k : Nat) : Ctx := ⟨tyT, [], .nil, [], [1], [(0, (.of [(0, 1), (1, 1), (2, 1), (3, 1), (5, 1), (6, 1), (7, 1), (8, 1), (9, 1), (11, 1), (12, 1), (13, 1), (14, 1), (16, 1), (17, 1), (18, 1), (21, 1), (22, 1), (4, 1), (10, 1), (15, 1), (19, 1), (20, 1), (23, 1), (24, 0), (25, 0), (26, 1), (27, 1), (28, 0)] .done))], @SH⟩
def wqc1 (k : Nat) {R : Type}  (x0 x1 : Int) (x2 : (List UInt8)) (x3 : Int) (x4 : (List dT93)) (x5 : Int) (x6 : (List UInt8)) (x7 : Bool) (x8 : Int) (K : (Int → Int → (List UInt8) → Int → (List dT93) → Option R)) : Option R := (cond (fits x4.length (@List.length (@Kd.T (@Kd.pr kI (@Kd.pr kI (@Kd.pr kI (@Kd.pr Kd.str Kd.bool))))) [(x5, (x0, ((@Go.IntKind.wrap Go.IntKind.i64 (x1 + x3)), (x6, x7))))]) 48) (K x0 x1 x2 (@Go.IntKind.wrap Go.IntKind.i64 (x3 + x8)) (x4 ++ [(x5, (x0, ((@Go.IntKind.wrap Go.IntKind.i64 (x1 + x3)), (x6, x7))))])) none)
def wq4 (k : Nat) {R : Type} (x0 x1 : Int) (x2 : (List UInt8)) (x3 : Int) (x4 : (List dT93)) (x5 : Int) (x6 : (List UInt8)) (x7 : Bool) (x8 : Int) (K : (Int → Int → (List UInt8) → Int → (List dT93) → Option R)) : Option R := wqc1 k  x0 x1 x2 x3 x4 x5 x6 x7 x8 K
theorem wqf4 (k : Nat) {R : Type} (x0 x1 : Int) (x2 : (List UInt8)) (x3 : Int) (x4 : (List dT93)) (x5 : Int) (x6 : (List UInt8)) (x7 : Bool) (x8 : Int) (K : (Int → Int → (List UInt8) → Int → (List dT93) → Option R)) : fnW (wqi5 k) k Tryd.f72 wqi4 [.ptr 1 0, .v kI x5, .v .str x6, .v .bool x7, .v kI x8] [(21, .row 94 kdT93 x4), (1, .var 102 [.v kI x0, .v kI x1, .v .str x2, .v kI x3, .row 21])] (wq9g K) = wq4 k x0 x1 x2 x3 x4 x5 x6 x7 x8 K := by
  kernel_rfl
def wq2n (k : Nat) {R : Type} : List PV → List (Nm × HObj) → (Out → Option R) → Option R
  | [.ptr 1 0, .v (.int .i64) x5, .v .str x6, .v .bool x7, .v (.int .i64) x8], [(21, .row 94 (.pr (.int .i64) (.pr (.int .i64) (.pr (.int .i64) (.pr .str .bool)))) x4), (1, .var 102 [.v (.int .i64) x0, .v (.int .i64) x1, .v .str x2, .v (.int .i64) x3, .row 21])], K => wq4 k x0 x1 x2 x3 x4 x5 x6 x7 x8 (fun y0 y1 y2 y3 y4 => K (.ret [] [(21, .row 94 (.pr (.int .i64) (.pr (.int .i64) (.pr (.int .i64) (.pr .str .bool)))) y4), (1, .var 102 [.v (.int .i64) y0, .v (.int .i64) y1, .v .str y2, .v (.int .i64) y3, .row 21])]))
  | _, _, _ => none
theorem wqc2 (k : Nat) : DOK Tryd.prog 72 (wq2n k) := by
  intro ps hp R K r h
  have h : wq2n k ps hp K = some r := h
  unfold wq2n at h
  split at h
  · rw [← wqf4] at h
    exact fnW_ok ⟨tyT_ok, CTab.nil_ok, fun _ _ => rfl⟩ mixed (by kernel_rfl) (by kernel_rfl) h fun o ho => by unfold wq9g at ho; split at ho <;> first | exact ho | cases ho
  · cases h
end Go.Proofs.YtmdmpogommehpaaDoor.Pvm
end


noncomputable section
namespace Go.Proofs.YtmdmpogommehpaaDoor.Pvm
open Go Go.Proofs
def wqi6 : List LS := [.obj 1 [.any, .any, .any, .any, .own 21 94 kdT93]]
def wq47 {R : Type} (K : (Int → Int → (List UInt8) → Int → (List dT93) → (List UInt8) → Option R)) : Out → Option R
  | .ret [.v .str y5] [(21, .row 94 (.pr (.int .i64) (.pr (.int .i64) (.pr (.int .i64) (.pr .str .bool)))) y4), (1, .var 102 [.v (.int .i64) y0, .v (.int .i64) y1, .v .str y2, .v (.int .i64) y3, .row 21])] => K y0 y1 y2 y3 y4 y5
  | _ => none
def wq7x : RetSpec := ⟨[.any], [(1, .obj 1 [.any, .any, .any, .any, .own 21 94 (.pr (.int .i64) (.pr (.int .i64) (.pr (.int .i64) (.pr .str .bool))))])], []⟩
def wq7y (k : Nat) : Ctx := ⟨tyT, [(1001, ⟨[(0, .obj 1 [.any, .any, .any, .any, .own 21 94 kdT93])], [(1, .obj 1 [.any, .any, .any, .any, .own 21 94 kdT93])]⟩)], .nil, [], [1], [(1, (.of [(0, 1), (1, 1), (2, 1), (4, 1), (5, 1), (6, 1), (7, 1), (3, 1), (8, 1), (9, 1), (10, 1), (11, 1), (12, 1), (13, 1), (14, 1), (15, 1), (17, 1), (18, 1), (19, 1), (16, 1), (20, 1), (21, 1), (22, 1), (23, 1)] .done)), (3, (.of [(0, 1), (1, 1), (2, 1), (3, 1), (5, 1), (6, 1), (7, 1), (4, 1), (8, 1), (9, 1), (10, 1)] .done))], @SH⟩
def wq2o (s0 s1 : Int) (s2 : (List UInt8)) (s3 : Int) (s4 : (List dT93)) : St := ⟨mkT [(0, .ptr 1 0)], mkH [(21, .row 94 kdT93 s4), (1, .var 102 [.v kI s0, .v kI s1, .v .str s2, .v kI s3, .row 21])]⟩
def wq4z (k : Nat) {R : Type} (I : Nat → St → Option R) (n : Nat) (s : St) (K : (Int → Int → (List UInt8) → Int → (List dT93) → (List UInt8) → Option R)) : Option R := loopK (wq7y k) k Tryd.f70 wq7x 1001 [1, 0, 0] I n s (wq47 K)
def wq2x (k : Nat) {R : Type} (E1001 : (Int → Int → (List UInt8) → Int → (List dT93) → Option R)) (s0 s1 : Int) (s2 : (List UInt8)) (s3 : Int) (s4 : (List dT93)) (K : (Int → Int → (List UInt8) → Int → (List dT93) → (List UInt8) → Option R)) : Option R := (cond ((!((decide (s3 < (s2.length : Int))) == true)) || (inb s3 (s2.length : Int))) (cond (cond (decide (s3 < (s2.length : Int))) (((s2.getD s3.toNat 0).toNat : Int) == 32) false) (E1001 s0 s1 s2 (@Go.IntKind.wrap Go.IntKind.i64 (s3 + 1)) s4) (cond (bnd s3 (s2.length : Int) (s2.length : Int)) (K s0 s1 s2 s3 s4 (cut s2 s3 (s2.length : Int))) none)) none)
theorem wqbn (k : Nat) {R : Type} (I : Nat → St → Option R) (s0 s1 : Int) (s2 : (List UInt8)) (s3 : Int) (s4 : (List dT93)) (K : (Int → Int → (List UInt8) → Int → (List dT93) → (List UInt8) → Option R)) : bodyK (wq7y k) k Tryd.f70 wq7x [1, 0, 0, 0] I (wq2o s0 s1 s2 s3 s4) (wq47 K) = wq2x k (fun s0 s1 s2 s3 s4 => I 1001 (wq2o s0 s1 s2 s3 s4)) s0 s1 s2 s3 s4 K := by kernel_rfl
def wq9h (k : Nat) {R : Type} (E1001 : (Int → Int → (List UInt8) → Int → (List dT93) → Option R)) (x0 x1 : Int) (x2 : (List UInt8)) (x3 : Int) (x4 : (List dT93)) (K : (Int → Int → (List UInt8) → Int → (List dT93) → (List UInt8) → Option R)) : Option R := (E1001 x0 x1 x2 x3 x4)
def wq18 (k : Nat) {R : Type}  : Nat → Int → Int → (List UInt8) → Int → (List dT93) → (Int → Int → (List UInt8) → Int → (List dT93) → (List UInt8) → Option R) → Option R
  | 0, _, _, _, _, _, _ => none
  | n + 1, s0, s1, s2, s3, s4, K => wq2x k (fun s0 s1 s2 s3 s4 => wq18 k  n s0 s1 s2 s3 s4 K) s0 s1 s2 s3 s4 K
theorem wqbo (k : Nat) {R : Type} (I : Nat → St → Option R) (K : (Int → Int → (List UInt8) → Int → (List dT93) → (List UInt8) → Option R)) (n : Nat) : ∀ (s0 s1 : Int) (s2 : (List UInt8)) (s3 : Int) (s4 : (List dT93)), wq4z k I n (wq2o s0 s1 s2 s3 s4) K = wq18 k  n s0 s1 s2 s3 s4 K := by
  induction n with
  | zero => intros; rfl
  | succ n ih =>
    intro s0 s1 s2 s3 s4
    refine (?_ : _ = _).trans ((wqbn k (upI 1001 (fun s => wq4z k I n s K) I) s0 s1 s2 s3 s4 K).trans ?_)
    · rfl
    · simp only [wq3x, ih] <;> rfl
def wq17 (k : Nat) {R : Type} (x0 x1 : Int) (x2 : (List UInt8)) (x3 : Int) (x4 : (List dT93)) (K : (Int → Int → (List UInt8) → Int → (List dT93) → (List UInt8) → Option R)) : Option R := wq9h k (fun s0 s1 s2 s3 s4 => wq18 k k s0 s1 s2 s3 s4 K) x0 x1 x2 x3 x4 K
theorem wqgl (k : Nat) {R : Type} (x0 x1 : Int) (x2 : (List UInt8)) (x3 : Int) (x4 : (List dT93)) (K : (Int → Int → (List UInt8) → Int → (List dT93) → (List UInt8) → Option R)) : fnW (wq7y k) k Tryd.f70 wq7x [.ptr 1 0] [(21, .row 94 kdT93 x4), (1, .var 102 [.v kI x0, .v kI x1, .v .str x2, .v kI x3, .row 21])] (wq47 K) = wq17 k x0 x1 x2 x3 x4 K := by
  refine Eq.trans (b := wq9h k (fun s0 s1 s2 s3 s4 => wq4z k (fun _ _ => none) k (wq2o s0 s1 s2 s3 s4) K) x0 x1 x2 x3 x4 K) (by kernel_rfl) ?_
  simp only [wqbo] <;> rfl
def wq4o (k : Nat) {R : Type} : List PV → List (Nm × HObj) → (Out → Option R) → Option R
  | [.ptr 1 0], [(21, .row 94 (.pr (.int .i64) (.pr (.int .i64) (.pr (.int .i64) (.pr .str .bool)))) x4), (1, .var 102 [.v (.int .i64) x0, .v (.int .i64) x1, .v .str x2, .v (.int .i64) x3, .row 21])], K => wq17 k x0 x1 x2 x3 x4 (fun y0 y1 y2 y3 y4 y5 => K (.ret [.v .str y5] [(21, .row 94 (.pr (.int .i64) (.pr (.int .i64) (.pr (.int .i64) (.pr .str .bool)))) y4), (1, .var 102 [.v (.int .i64) y0, .v (.int .i64) y1, .v .str y2, .v (.int .i64) y3, .row 21])]))
  | _, _, _ => none
theorem wqlf (k : Nat) : DOK Tryd.prog 70 (wq4o k) := by
  intro ps hp R K r h
  have h : wq4o k ps hp K = some r := h
  unfold wq4o at h
  split at h
  · rw [← wqgl] at h
    exact fnW_ok ⟨tyT_ok, CTab.nil_ok, fun _ _ => rfl⟩ mixed (by kernel_rfl) (by kernel_rfl) h fun o ho => by unfold wq47 at ho; split at ho <;> first | exact ho | cases ho
  · cases h
end Go.Proofs.YtmdmpogommehpaaDoor.Pvm
end


noncomputable section
namespace Go.Proofs.YtmdmpogommehpaaDoor.Pvm
open Go Go.Proofs
def wq87 : List LS := [.any, .any]
def wq7m {R : Type} (K : (Int → Option R)) : Out → Option R
  | .ret [.v (.int .i64) y0] [] => K y0
  | _ => none
def wqf5 : RetSpec := ⟨[.any], [], []⟩
def wqf6 (k : Nat) : Ctx := ⟨tyT, [], (.add 54 wq9y (wq2i k) .nil), [], [], [], @SH⟩
def wqgm (k : Nat) {R : Type}  (x0 : (List UInt8)) (x1 : Int) (K : (Int → Option R)) : Option R := (wq3s k x0 x1 (fun y5 => (K y5)))
def wqd (k : Nat) {R : Type} (x0 : (List UInt8)) (x1 : Int) (K : (Int → Option R)) : Option R := wqgm k  x0 x1 K
theorem wqcy (k : Nat) {R : Type} (x0 : (List UInt8)) (x1 : Int) (K : (Int → Option R)) : fnW (wqf6 k) k Tryd.f81 wqf5 [.v .str x0, .v (.int .u8) x1] [] (wq7m K) = wqd k x0 x1 K := by
  kernel_rfl
def wq1r (k : Nat) {R : Type} : List PV → List (Nm × HObj) → (Out → Option R) → Option R
  | [.v .str x0, .v (.int .u8) x1], [], K => wqd k x0 x1 (fun y0 => K (.ret [.v (.int .i64) y0] []))
  | _, _, _ => none
theorem wqa5 (k : Nat) : DOK Tryd.prog 81 (wq1r k) := by
  intro ps hp R K r h
  have h : wq1r k ps hp K = some r := h
  unfold wq1r at h
  split at h
  · rw [← wqcy] at h
    exact fnW_ok ⟨tyT_ok, (wq5 (wqby k) CTab.nil_ok), fun _ _ => rfl⟩ mixed (by kernel_rfl) (by kernel_rfl) h fun o ho => by unfold wq7m at ho; split at ho <;> first | exact ho | cases ho
  · cases h
end Go.Proofs.YtmdmpogommehpaaDoor.Pvm
end


noncomputable section
namespace Go.Proofs.YtmdmpogommehpaaDoor.Pvm
open Go Go.Proofs
def wqgn : List LS := [.obj 1 [.any, .any, .any, .any, .own 21 94 kdT93], .any]
def wq9i {R : Type} (K E : (Int → Int → (List UInt8) → Int → (List dT93) → Int → Int → Option R)) : Out → Option R
  | .ret [.v (.int .u8) y5, .v (.int .i64) y6] [(21, .row 94 (.pr (.int .i64) (.pr (.int .i64) (.pr (.int .i64) (.pr .str .bool)))) y4), (1, .var 102 [.v (.int .i64) y0, .v (.int .i64) y1, .v .str y2, .v (.int .i64) y3, .row 21])] => K y0 y1 y2 y3 y4 y5 y6
  | .pan (.ifc 25 (.agg [.v (.int .i64) z5, .v (.int .i64) z6])) [(21, .row 94 (.pr (.int .i64) (.pr (.int .i64) (.pr (.int .i64) (.pr .str .bool)))) z4), (1, .var 102 [.v (.int .i64) z0, .v (.int .i64) z1, .v .str z2, .v (.int .i64) z3, .row 21])] => E z0 z1 z2 z3 z4 z5 z6
  | _ => none
def wqi7 : RetSpec := ⟨[.any, .any], [(1, .obj 1 [.any, .any, .any, .any, .own 21 94 (.pr (.int .i64) (.pr (.int .i64) (.pr (.int .i64) (.pr .str .bool))))])], [(1, .obj 1 [.any, .any, .any, .any, .own 21 94 (.pr (.int .i64) (.pr (.int .i64) (.pr (.int .i64) (.pr .str .bool))))])]⟩
def wqi8 (k : Nat) : Ctx := ⟨tyT, [], (.add 69 wq2m (wqw k) (.add 81 wq87 (wq1r k) .nil)), [], [1], [(14, (.of [(0, 1), (1, 1), (3, 1), (4, 1), (2, 0), (5, 0), (6, 1), (7, 1)] .done))], @SH⟩
def wqc3 (k : Nat) {R : Type}  (x0 x1 : Int) (x2 : (List UInt8)) (x3 : Int) (x4 : (List dT93)) (x5 : (List UInt8)) (K E : (Int → Int → (List UInt8) → Int → (List dT93) → Int → Int → Option R)) : Option R := (cond (x5 == []) (wq2 k x0 x1 x2 x3 x4 3 (fun y10 y11 y12 y13 y14 => (cond (inb 0 (x5.length : Int)) (cond (((x5.getD (Int.toNat 0) 0).toNat : Int) == 92) (cond (inb 0 (x5.length : Int)) (K y10 y11 y12 y13 y14 ((x5.getD (Int.toNat 0) 0).toNat : Int) 1) none) (cond (((x5.getD (Int.toNat 0) 0).toNat : Int) == 34) (cond (inb 0 (x5.length : Int)) (K y10 y11 y12 y13 y14 ((x5.getD (Int.toNat 0) 0).toNat : Int) 1) none) (cond (((x5.getD (Int.toNat 0) 0).toNat : Int) == 110) (K y10 y11 y12 y13 y14 10 1) (cond (((x5.getD (Int.toNat 0) 0).toNat : Int) == 116) (K y10 y11 y12 y13 y14 9 1) (cond (((x5.getD (Int.toNat 0) 0).toNat : Int) == 120) (cond (decide ((x5.length : Int) < 3)) (wq2 k y10 y11 y12 y13 y14 3 (fun y15 y16 y17 y18 y19 => (cond (inb 1 (x5.length : Int)) (cond (inb 2 (x5.length : Int)) (wqd k [48, 49, 50, 51, 52, 53, 54, 55, 56, 57, 97, 98, 99, 100, 101, 102] ((x5.getD (Int.toNat 1) 0).toNat : Int) (fun y20 => (wqd k [48, 49, 50, 51, 52, 53, 54, 55, 56, 57, 97, 98, 99, 100, 101, 102] ((x5.getD (Int.toNat 2) 0).toNat : Int) (fun y21 => (cond (cond (decide (y20 < 0)) true (decide (y21 < 0))) (wq2 k y15 y16 y17 y18 y19 3 (fun y22 y23 y24 y25 y26 => (K y22 y23 y24 y25 y26 (@Go.IntKind.wrap Go.IntKind.u8 (@Go.IntKind.wrap Go.IntKind.i64 ((@Go.IntKind.wrap Go.IntKind.i64 ((16 : Int) * y20)) + y21))) 3)) (fun y22 y23 y24 y25 y26 y27 y28 => (E y22 y23 y24 y25 y26 y27 y28))) (K y15 y16 y17 y18 y19 (@Go.IntKind.wrap Go.IntKind.u8 (@Go.IntKind.wrap Go.IntKind.i64 ((@Go.IntKind.wrap Go.IntKind.i64 ((16 : Int) * y20)) + y21))) 3)))))) none) none)) (fun y15 y16 y17 y18 y19 y20 y21 => (E y15 y16 y17 y18 y19 y20 y21))) (cond (inb 1 (x5.length : Int)) (cond (inb 2 (x5.length : Int)) (wqd k [48, 49, 50, 51, 52, 53, 54, 55, 56, 57, 97, 98, 99, 100, 101, 102] ((x5.getD (Int.toNat 1) 0).toNat : Int) (fun y15 => (wqd k [48, 49, 50, 51, 52, 53, 54, 55, 56, 57, 97, 98, 99, 100, 101, 102] ((x5.getD (Int.toNat 2) 0).toNat : Int) (fun y16 => (cond (cond (decide (y15 < 0)) true (decide (y16 < 0))) (wq2 k y10 y11 y12 y13 y14 3 (fun y17 y18 y19 y20 y21 => (K y17 y18 y19 y20 y21 (@Go.IntKind.wrap Go.IntKind.u8 (@Go.IntKind.wrap Go.IntKind.i64 ((@Go.IntKind.wrap Go.IntKind.i64 ((16 : Int) * y15)) + y16))) 3)) (fun y17 y18 y19 y20 y21 y22 y23 => (E y17 y18 y19 y20 y21 y22 y23))) (K y10 y11 y12 y13 y14 (@Go.IntKind.wrap Go.IntKind.u8 (@Go.IntKind.wrap Go.IntKind.i64 ((@Go.IntKind.wrap Go.IntKind.i64 ((16 : Int) * y15)) + y16))) 3)))))) none) none)) (wq2 k y10 y11 y12 y13 y14 3 (fun y15 y16 y17 y18 y19 => (K y15 y16 y17 y18 y19 0 0)) (fun y15 y16 y17 y18 y19 y20 y21 => (E y15 y16 y17 y18 y19 y20 y21)))))))) none)) (fun y10 y11 y12 y13 y14 y15 y16 => (E y10 y11 y12 y13 y14 y15 y16))) (cond (inb 0 (x5.length : Int)) (cond (((x5.getD (Int.toNat 0) 0).toNat : Int) == 92) (cond (inb 0 (x5.length : Int)) (K x0 x1 x2 x3 x4 ((x5.getD (Int.toNat 0) 0).toNat : Int) 1) none) (cond (((x5.getD (Int.toNat 0) 0).toNat : Int) == 34) (cond (inb 0 (x5.length : Int)) (K x0 x1 x2 x3 x4 ((x5.getD (Int.toNat 0) 0).toNat : Int) 1) none) (cond (((x5.getD (Int.toNat 0) 0).toNat : Int) == 110) (K x0 x1 x2 x3 x4 10 1) (cond (((x5.getD (Int.toNat 0) 0).toNat : Int) == 116) (K x0 x1 x2 x3 x4 9 1) (cond (((x5.getD (Int.toNat 0) 0).toNat : Int) == 120) (cond (decide ((x5.length : Int) < 3)) (wq2 k x0 x1 x2 x3 x4 3 (fun y10 y11 y12 y13 y14 => (cond (inb 1 (x5.length : Int)) (cond (inb 2 (x5.length : Int)) (wqd k [48, 49, 50, 51, 52, 53, 54, 55, 56, 57, 97, 98, 99, 100, 101, 102] ((x5.getD (Int.toNat 1) 0).toNat : Int) (fun y15 => (wqd k [48, 49, 50, 51, 52, 53, 54, 55, 56, 57, 97, 98, 99, 100, 101, 102] ((x5.getD (Int.toNat 2) 0).toNat : Int) (fun y16 => (cond (cond (decide (y15 < 0)) true (decide (y16 < 0))) (wq2 k y10 y11 y12 y13 y14 3 (fun y17 y18 y19 y20 y21 => (K y17 y18 y19 y20 y21 (@Go.IntKind.wrap Go.IntKind.u8 (@Go.IntKind.wrap Go.IntKind.i64 ((@Go.IntKind.wrap Go.IntKind.i64 ((16 : Int) * y15)) + y16))) 3)) (fun y17 y18 y19 y20 y21 y22 y23 => (E y17 y18 y19 y20 y21 y22 y23))) (K y10 y11 y12 y13 y14 (@Go.IntKind.wrap Go.IntKind.u8 (@Go.IntKind.wrap Go.IntKind.i64 ((@Go.IntKind.wrap Go.IntKind.i64 ((16 : Int) * y15)) + y16))) 3)))))) none) none)) (fun y10 y11 y12 y13 y14 y15 y16 => (E y10 y11 y12 y13 y14 y15 y16))) (cond (inb 1 (x5.length : Int)) (cond (inb 2 (x5.length : Int)) (wqd k [48, 49, 50, 51, 52, 53, 54, 55, 56, 57, 97, 98, 99, 100, 101, 102] ((x5.getD (Int.toNat 1) 0).toNat : Int) (fun y10 => (wqd k [48, 49, 50, 51, 52, 53, 54, 55, 56, 57, 97, 98, 99, 100, 101, 102] ((x5.getD (Int.toNat 2) 0).toNat : Int) (fun y11 => (cond (cond (decide (y10 < 0)) true (decide (y11 < 0))) (wq2 k x0 x1 x2 x3 x4 3 (fun y12 y13 y14 y15 y16 => (K y12 y13 y14 y15 y16 (@Go.IntKind.wrap Go.IntKind.u8 (@Go.IntKind.wrap Go.IntKind.i64 ((@Go.IntKind.wrap Go.IntKind.i64 ((16 : Int) * y10)) + y11))) 3)) (fun y12 y13 y14 y15 y16 y17 y18 => (E y12 y13 y14 y15 y16 y17 y18))) (K x0 x1 x2 x3 x4 (@Go.IntKind.wrap Go.IntKind.u8 (@Go.IntKind.wrap Go.IntKind.i64 ((@Go.IntKind.wrap Go.IntKind.i64 ((16 : Int) * y10)) + y11))) 3)))))) none) none)) (wq2 k x0 x1 x2 x3 x4 3 (fun y10 y11 y12 y13 y14 => (K y10 y11 y12 y13 y14 0 0)) (fun y10 y11 y12 y13 y14 y15 y16 => (E y10 y11 y12 y13 y14 y15 y16)))))))) none))
def wq3u (k : Nat) {R : Type} (x0 x1 : Int) (x2 : (List UInt8)) (x3 : Int) (x4 : (List dT93)) (x5 : (List UInt8)) (K E : (Int → Int → (List UInt8) → Int → (List dT93) → Int → Int → Option R)) : Option R := wqc3 k  x0 x1 x2 x3 x4 x5 K E
theorem wqf7 (k : Nat) {R : Type} (x0 x1 : Int) (x2 : (List UInt8)) (x3 : Int) (x4 : (List dT93)) (x5 : (List UInt8)) (K E : (Int → Int → (List UInt8) → Int → (List dT93) → Int → Int → Option R)) : fnW (wqi8 k) k Tryd.f87 wqi7 [.ptr 1 0, .v .str x5] [(21, .row 94 kdT93 x4), (1, .var 102 [.v kI x0, .v kI x1, .v .str x2, .v kI x3, .row 21])] (wq9i K E) = wq3u k x0 x1 x2 x3 x4 x5 K E := by
  kernel_rfl
def wq48 (k : Nat) {R : Type} : List PV → List (Nm × HObj) → (Out → Option R) → Option R
  | [.ptr 1 0, .v .str x5], [(21, .row 94 (.pr (.int .i64) (.pr (.int .i64) (.pr (.int .i64) (.pr .str .bool)))) x4), (1, .var 102 [.v (.int .i64) x0, .v (.int .i64) x1, .v .str x2, .v (.int .i64) x3, .row 21])], K => wq3u k x0 x1 x2 x3 x4 x5 (fun y0 y1 y2 y3 y4 y5 y6 => K (.ret [.v (.int .u8) y5, .v (.int .i64) y6] [(21, .row 94 (.pr (.int .i64) (.pr (.int .i64) (.pr (.int .i64) (.pr .str .bool)))) y4), (1, .var 102 [.v (.int .i64) y0, .v (.int .i64) y1, .v .str y2, .v (.int .i64) y3, .row 21])])) (fun z0 z1 z2 z3 z4 z5 z6 => K (.pan (.ifc 25 (.agg [.v (.int .i64) z5, .v (.int .i64) z6])) [(21, .row 94 (.pr (.int .i64) (.pr (.int .i64) (.pr (.int .i64) (.pr .str .bool)))) z4), (1, .var 102 [.v (.int .i64) z0, .v (.int .i64) z1, .v .str z2, .v (.int .i64) z3, .row 21])]))
  | _, _, _ => none
theorem wqjn (k : Nat) : DOK Tryd.prog 87 (wq48 k) := by
  intro ps hp R K r h
  have h : wq48 k ps hp K = some r := h
  unfold wq48 at h
  split at h
  · rw [← wqf7] at h
    exact fnW_ok ⟨tyT_ok, (wq5 (wq3t k) (wq5 (wqa5 k) CTab.nil_ok)), fun _ _ => rfl⟩ mixed (by kernel_rfl) (by kernel_rfl) h fun o ho => by unfold wq9i at ho; split at ho <;> first | exact ho | cases ho
  · cases h
end Go.Proofs.YtmdmpogommehpaaDoor.Pvm
end


set_option maxHeartbeats 2000000
set_option maxRecDepth 100000
namespace Go.Proofs.YtmdmpogommehpaaDoor.Pvm
open Go Go.Proofs Go.RowKit
theorem wqsc (b g cap : Nat) (p : Value) (l : List UInt8) (cur : Array Value) (w : World) (hbk : w.heap[b]? = some (.cells #[p, .slice (some ⟨g, 0, none⟩) l.length cap] 127 (0, 0))) (h0 : l ≠ [])
    (hg : w.heap[g]? = some (.cells cur 5 (0, 0))) (hnc : l.length ≤ cap) (hcm : cap ≤ maxLen) (hcs : cur.size = cap) (htake : ∀ (j : Nat) (x : UInt8), l[j]? = some x → w.cell? ⟨g, j, none⟩ = some (.int .u8 x.toNat)) :
    Calls Tryd.prog 86 #[.pointer (some ⟨b, 0, none⟩)] w fun e w' => e = .returned (.string ⟨l.toArray⟩) ∧ w' = w.drew.freeze ⟨g, 0, none⟩ l.length := by
  have hl0 : l.length ≠ 0 := by simpa using h0
  have mixed : Tryd.prog.follows .mixedOrders = true := by kernel_rfl
  have t86 : Tryd.prog.underlying 134 = some (.pointer 5) := by kernel_rfl
  have c1 : w.drew.cell? ⟨b, 1, none⟩ = some (.slice (some ⟨g, 0, none⟩) l.length cap) := by
    have : w.drew.heap[b]? = some (.cells #[p, .slice (some ⟨g, 0, none⟩) l.length cap] 127 (0, 0)) := hbk
    rw [Lib.cell_of_heap this]; rfl
  have hSD : (Builtin.unsafeSliceData_ #[83] 134 #[.slice (some ⟨g, 0, none⟩) l.length cap]).run Tryd.prog w.drew = .ok (.pointer (some ⟨g, 0, none⟩)) w.drew :=
    Lib.run_unsafeSliceData_row _ _ _ _ _ _ (by omega)
  have hUS : (Builtin.unsafeString_ #[134, 3] 9 #[.pointer (some ⟨g, 0, none⟩), .int .i64 l.length]).run Tryd.prog w.drew = .ok (.string ⟨l.toArray⟩) (w.drew.freeze ⟨g, 0, none⟩ l.length) := by
    refine Lib.run_unsafeString_row w.drew 134 3 9 5 t86 (by kernel_rfl) g cur.size (by have hg' : w.drew.heap[g]? = some (.cells cur 5 (0, 0)) := hg; simp [World.shape?, hg']) l h0 (by omega) (by unfold maxLen at hcm; omega) ?_
    intro j x hx
    have := htake j x hx
    rw [show (⟨g, 0, none⟩ : Addr).add j = ⟨g, j, none⟩ by simp [Addr.add]; omega]
    exact this
  go_enter Tryd.func86, Tryd.ntmps86
  go_wp2
  go_region_o
  all_goals (go_wp2; go_ret; exact ⟨rfl, rfl⟩)
theorem wqwy (W : World) (q : Option Addr) : (Builtin.unsafeString_ #[134, 3] 9 #[.pointer q, .int .i64 0]).run Tryd.prog W = .ok (.string .empty) W :=
  Lib.run_unsafeString_none W _ _ _ q
theorem wqwz (b : Nat) (p : Value) (w : World) (hbk : w.heap[b]? = some (.cells #[p, .slice none 0 0] 127 (0, 0))) :
    Calls Tryd.prog 86 #[.pointer (some ⟨b, 0, none⟩)] w fun e w' => e = .returned (.string ⟨#[]⟩) ∧ w' = w.drew := by
  have hUS := wqwy
  have mixed : Tryd.prog.follows .mixedOrders = true := by kernel_rfl
  have c1 : w.drew.cell? ⟨b, 1, none⟩ = some (.slice none 0 0) := by
    have : w.drew.heap[b]? = some (.cells #[p, .slice none 0 0] 127 (0, 0)) := hbk
    rw [Lib.cell_of_heap this]; rfl
  have hSD : (Builtin.unsafeSliceData_ #[83] 134 #[.slice none 0 0]).run Tryd.prog w.drew = .ok (.pointer none) w.drew := rfl
  go_enter Tryd.func86, Tryd.ntmps86
  go_wp2
  go_region_o
  all_goals (go_wp2; go_ret; exact ⟨rfl, rfl⟩)
theorem wquv (b g cap : Nat) (p : Value) (w : World) (hc0 : cap ≠ 0) (hbk : w.heap[b]? = some (.cells #[p, .slice (some ⟨g, 0, none⟩) 0 cap] 127 (0, 0))) :
    Calls Tryd.prog 86 #[.pointer (some ⟨b, 0, none⟩)] w fun e w' => e = .returned (.string ⟨#[]⟩) ∧ w' = w.drew := by
  have hUS := wqwy
  have mixed : Tryd.prog.follows .mixedOrders = true := by kernel_rfl
  have c1 : w.drew.cell? ⟨b, 1, none⟩ = some (.slice (some ⟨g, 0, none⟩) 0 cap) := by
    have : w.drew.heap[b]? = some (.cells #[p, .slice (some ⟨g, 0, none⟩) 0 cap] 127 (0, 0)) := hbk
    rw [Lib.cell_of_heap this]; rfl
  have hSD : (Builtin.unsafeSliceData_ #[83] 134 #[.slice (some ⟨g, 0, none⟩) 0 cap]).run Tryd.prog w.drew = .ok (.pointer (some ⟨g, 0, none⟩)) w.drew :=
    Lib.run_unsafeSliceData_row _ _ _ _ _ _ hc0
  clear hc0
  go_enter Tryd.func86, Tryd.ntmps86
  go_wp2
  go_region_o
  all_goals (go_wp2; go_ret; exact ⟨rfl, rfl⟩)
theorem wqqf (b g : Nat) (p : Value) (cur : Array Value) (w : World) (hbk : w.heap[b]? = some (.cells #[p, .slice (some ⟨g, 0, none⟩) 0 0] 127 (0, 0))) (hg : w.heap[g]? = some (.cells cur 5 (0, 0))) :
    Calls Tryd.prog 86 #[.pointer (some ⟨b, 0, none⟩)] w fun e w' => e = .returned (.string ⟨#[]⟩) ∧ ∃ o, w' = (w.alloc o).drew := by
  have hUS := wqwy
  have hlt : b < w.heap.size := (Array.getElem?_eq_some_iff.1 hbk).1
  have mixed : Tryd.prog.follows .mixedOrders = true := by kernel_rfl
  have c1 : w.drew.cell? ⟨b, 1, none⟩ = some (.slice (some ⟨g, 0, none⟩) 0 0) := by
    have : w.drew.heap[b]? = some (.cells #[p, .slice (some ⟨g, 0, none⟩) 0 0] 127 (0, 0)) := hbk
    rw [Lib.cell_of_heap this]; rfl
  have hSD : (Builtin.unsafeSliceData_ #[83] 134 #[.slice (some ⟨g, 0, none⟩) 0 0]).run Tryd.prog w.drew = .ok (.pointer (some ⟨w.drew.heap.size, 0, none⟩)) (w.drew.alloc (.view ⟨g, 0, none⟩ 5)) :=
    Lib.run_unsafeSliceData_zero w.drew _ _ 5 (by kernel_rfl) ⟨g, 0, none⟩ 0 (5, cur.size) (by have hg' : w.drew.heap[g]? = some (.cells cur 5 (0, 0)) := hg; simp [World.shape?, hg'])
  have c2 : (w.drew.alloc (.view ⟨g, 0, none⟩ 5)).cell? ⟨b, 1, none⟩ = some (.slice (some ⟨g, 0, none⟩) 0 0) := by
    have : (w.drew.alloc (.view ⟨g, 0, none⟩ 5)).heap[b]? = _ := (Lib.alloc_old w.drew _ b hlt).trans hbk
    rw [Lib.cell_of_heap this]; rfl
  have c3 : (w.alloc (.view ⟨g, 0, none⟩ 5)).drew.cell? ⟨b, 1, none⟩ = some (.slice (some ⟨g, 0, none⟩) 0 0) := c2
  have c0 : w.cell? ⟨b, 1, none⟩ = some (.slice (some ⟨g, 0, none⟩) 0 0) := c1
  go_enter Tryd.func86, Tryd.ntmps86
  go_wp2
  go_region_o
  all_goals (go_wp2; go_ret; exact ⟨rfl, _, rfl⟩)
def allB : List Int → Bool
  | [] => true
  | x :: r => decide (0 ≤ x) && decide (x < 256) && allB r
def wq54 : List LS := [.obj 1 [.nps 1 0, .own 21 5 (.int .u8)]]
def wqu (k : Nat) {R : Type} (x0 : List Int) (K : List Int → List UInt8 → Option R) : Option R := bif allB x0 then K x0 (wq5t x0) else none
def wq1c (k : Nat) {R : Type} : List PV → List (Nm × HObj) → (Out → Option R) → Option R
  | [.ptr 1 0], [(21, .row 5 (.int .u8) x0), (1, .var 127 [.nps 1 0, .row 21])], K => wqu k x0 (fun y0 y1 => K (.ret [.v .str y1] [(1, .var 127 [.nps 1 0, .v (.sl (.int .u8)) y0])]))
  | _, _, _ => none
theorem wq7n (vs : Array Value) (w : World) : (callFunc 86 vs).run Tryd.prog w = .ok (.enter 86 vs) w := by
  have h1 : Tryd.prog.funcs[86]? = some Tryd.f86 := by kernel_rfl
  have h2 : (Tryd.f86.name == "runtime.NumGoroutine") = false := by kernel_rfl
  have h3 : Tryd.f86.body.isNone = false := by kernel_rfl
  unfold callFunc
  rw [Sem.run_bind]
  have e2 : (program).run Tryd.prog w = .ok Tryd.prog w := rfl
  rw [e2, Result.andThen_ok, h1]
  simp only [h2, h3, Bool.false_eq_true, if_false]
  rfl
theorem wqyy : ∀ {l : List Int}, allB l = true → ∀ (i : Nat) (y : Int), l[i]? = some y → 0 ≤ y ∧ y < 256
  | [], _, i, y, h => by simp at h
  | x :: r, hb, 0, y, h => by
    simp only [allB, Bool.and_eq_true, decide_eq_true_eq] at hb
    simp at h; subst h; exact hb.1
  | x :: r, hb, i + 1, y, h => by
    simp only [allB, Bool.and_eq_true] at hb
    exact wqyy hb.2 i y (by simpa using h)
theorem wqsd {G : Gh} {w w' : World} {x0 : List Int} {HP : List (Nm × HObj)} (hHP : HP = [(21, .row 5 (.int .u8) x0), (1, .var 127 [.nps 1 0, .row 21])])
    (obj : ∀ n o, mkH HP n = some o → RO (mkH HP) G w n o) (dis : Dis (mkH HP) G w) (hblk : ∀ b, b < w.heap.size → (∀ g, (G.rv 21).ownBlock = some g → b ≠ g) → w'.heap[b]? = w.heap[b]?)
    (hcell : ∀ g o, (G.rv 21).ownBlock = some g → w'.cell? ⟨g, o, none⟩ = w.cell? ⟨g, o, none⟩) (grow : w.heap.size ≤ w'.heap.size) (os : w'.os = w.os) (tape : w'.tape = w.tape) (out : w'.output = w.output) :
    Fin HP [(1, .var 127 [.nps 1 0, .v (.sl (.int .u8)) x0])] G w G w' := by
  have l1 : mkH HP 1 = some (.var 127 [.nps 1 0, .row 21]) := by subst hHP; rfl
  have l2 : mkH HP 21 = some (.row 5 (.int .u8) x0) := by subst hHP; rfl
  generalize hHS : [((1 : Nm), HObj.var 127 [.nps 1 0, .v (.sl (.int .u8)) x0])] = HS
  have m1 : mkH HS 1 = some (.var 127 [.nps 1 0, .v (.sl (.int .u8)) x0]) := by subst hHS; rfl
  have mo : ∀ n o, mkH HS n = some o → n = 1 := by
    intro n o h
    subst hHS
    simp only [mkH, look] at h
    cases hb : Nat.beq 1 n with
    | true => exact (Nat.eq_of_beq_eq_true hb).symm
    | false => rw [hb] at h; cases h
  have bk1 : blkOf (mkH HP) G 1 = some (G.bk 1) := by simp [blkOf, l1]
  have bk2 : blkOf (mkH HP) G 21 = (G.rv 21).ownBlock := by simp [blkOf, l2]
  have ck1 : blkOf (mkH HS) G 1 = some (G.bk 1) := by simp [blkOf, m1]
  have ck : ∀ n b, blkOf (mkH HS) G n = some b → n = 1 ∧ b = G.bk 1 := by
    intro n b h
    cases hn : mkH HS n with
    | none => simp [blkOf, hn] at h
    | some o => have := mo n o hn; subst this; rw [ck1] at h; cases h; exact ⟨rfl, rfl⟩
  have hne : ∀ g, (G.rv 21).ownBlock = some g → G.bk 1 ≠ g := fun g hg e => by
    have := dis.inj 1 21 g (by rw [bk1, e]) (by rw [bk2, hg])
    cases this
  obtain ⟨vs, hw, q1, t1, rfl, hq1, q2, t2, rfl, hq2, rfl⟩ := obj 1 _ l1
  obtain ⟨rfl, _⟩ := hq2
  have hlt : G.bk 1 < w.heap.size := (Array.getElem?_eq_some_iff.1 hw).1
  have hw' : w'.heap[G.bk 1]? = some (.cells [q1, G.rv 21].toArray 127 (0, 0)) := by rw [hblk _ hlt hne]; exact hw
  have hdat : RD w' (okB (mkH HS) G) (.sl (.int .u8)) x0 [G.rv 21] := by
    have hro := obj 21 _ l2
    obtain ⟨us, hown, hr, _⟩ := hro
    rcases hown.2 with ⟨hv, hn⟩ | ⟨g, cap, cur, hv, _, hgb, hnc, hcm, hcs, _⟩
    · exact ⟨none, 0, by rw [hv, hn], by omega, .inl (List.eq_nil_of_length_eq_zero hn)⟩
    · have hgo : (G.rv 21).ownBlock = some g := by rw [hv]; rfl
      refine ⟨_, cap, by rw [hv], hnc, .inr ⟨_, rfl, ?_, ?_, ?_⟩⟩
      · refine ⟨fun n hn => ?_, fun hx => dis.xo 21 g (by rw [bk2, hgo]) hx⟩
        obtain ⟨_, e⟩ := ck n g hn
        exact hne g hgo e.symm
      · have : g < w.heap.size := (Array.getElem?_eq_some_iff.1 hgb).1
        exact Nat.lt_of_lt_of_le this grow
      · intro i y hy
        obtain ⟨c, hc, hu⟩ := hr.get i y hy
        refine ⟨c, hc, fun j u hj => ?_⟩
        have := hown.cells hgo _ _ (hu j u hj)
        rw [Addr.add_lit] at this ⊢
        rw [hcell g _ hgo]
        exact this
  refine ⟨fun n o hn => ?_, fun n m b h1 h2 => (ck n b h1).1.trans (ck m b h2).1.symm, fun n t cs hn o ho => ?_, fun n ag V es hn o ho => (wqg4 (by rw [hHP]; rfl) hn).elim, fun b hb hf => hblk b hb fun g hg e => hf 21 (by rw [bk2, hg, e]), rfl, fun n b hn => .inl ⟨1, by rw [(ck n b hn).2]; exact bk1⟩, grow, os, tape, out⟩
  · have := mo n o hn; subst this
    rw [m1] at hn; cases hn
    refine ⟨_, hw', _, _, rfl, ?_, _, _, rfl, hdat, rfl⟩
    rcases hq1 with h | ⟨h, _⟩
    · exact .inl h
    · exact .inr ⟨h, _, _, m1⟩
  · have e1 := mo n o ho
    subst e1
    have e2 : mkH HS 1 = some o := ho
    have e3 : mkH HP 1 = some (.var t cs) := hn
    rw [m1] at e2; rw [l1] at e3; cases e2; cases e3
    exact ⟨⟨_, rfl⟩, rfl⟩
theorem wq69 (k : Nat) {ps : List PV} {hp : List (Nm × HObj)} {R : Type} {K : Out → Option R} {r : R} (h : wq1c k ps hp K = some r) : DoesTo Tryd.prog 86 ps hp fun out => K out = some r := by
  unfold wq1c at h
  split at h
  · next x0 =>
    intro G w vals hr obj dis
    unfold wqu at h
    cases hb : allB x0 with
    | false => rw [hb] at h; cases h
    | true =>
      rw [hb, cond_true] at h
      obtain ⟨v0, l0, rfl, h0, rfl⟩ := hr
      obtain ⟨rfl, _⟩ := h0
      generalize hHP : [(21, HObj.row 5 (.int .u8) x0), (1, .var 127 [.nps 1 0, .row 21])] = HP at *
      have l1 : mkH HP 1 = some (.var 127 [.nps 1 0, .row 21]) := by subst hHP; rfl
      have l2 : mkH HP 21 = some (.row 5 (.int .u8) x0) := by subst hHP; rfl
      show Does _ _ #[_] _ _
      unfold Does
      rw [wq7n]
      obtain ⟨vs, hw, q1, t1, rfl, hq1, q2, t2, rfl, hq2, rfl⟩ := obj 1 _ l1
      obtain ⟨rfl, _⟩ := hq2
      have hro := obj 21 _ l2
      obtain ⟨us, hown, hrd, _⟩ := hro
      have fin : ∀ {e : Ending} {w' : World}, e = .returned (.string ⟨(wq5t x0).toArray⟩) → (∀ b, b < w.heap.size → (∀ g, (G.rv 21).ownBlock = some g → b ≠ g) → w'.heap[b]? = w.heap[b]?) → (∀ g o, (G.rv 21).ownBlock = some g → w'.cell? ⟨g, o, none⟩ = w.cell? ⟨g, o, none⟩) → w.heap.size ≤ w'.heap.size → w'.os = w.os → w'.tape = w.tape → w'.output = w.output →
          ∃ out, K out = some r ∧ ∃ G', OutIs G' w' e out ∧ Fin HP out.hs G w G' w' := by
        intro e w' he h1 h2 h3 h4 h5 h6
        exact ⟨_, h, G, ⟨_, he, rfl⟩, wqsd hHP.symm obj dis h1 h2 h3 h4 h5 h6⟩
      rcases hown.2 with ⟨hv, hn⟩ | ⟨g, cap, cur, hv, _, hgb, hnc, hcm, hcs, htk⟩
      · have hx : x0 = [] := List.eq_nil_of_length_eq_zero hn
        subst hx
        rw [hv] at hw
        refine Calls.mono (wqwz (G.bk 1) q1 w hw) fun e w' hh => ?_
        obtain ⟨rfl, rfl⟩ := hh
        exact fin rfl (fun _ _ _ => rfl) (fun _ _ _ => rfl) (Nat.le_refl _) rfl rfl rfl
      · have hgo : (G.rv 21).ownBlock = some g := by rw [hv]; rfl
        rw [hv] at hw
        by_cases hx : x0 = []
        · subst hx
          by_cases hc0 : cap = 0
          · subst hc0
            refine Calls.mono (wqqf (G.bk 1) g q1 cur w hw hgb) fun e w' hh => ?_
            obtain ⟨rfl, o, rfl⟩ := hh
            have hold : ∀ b, b < w.heap.size → (w.alloc o).drew.heap[b]? = w.heap[b]? := fun b hb => Lib.alloc_old w _ b hb
            refine fin rfl (fun b hb _ => hold b hb) (fun g' o' hg' => ?_) (by have := World.size_alloc w o; show _ ≤ (w.alloc o).heap.size; omega) rfl rfl rfl
            rw [hgo] at hg'; cases hg'
            exact World.cell?_of_block (hold g (Array.getElem?_eq_some_iff.1 hgb).1)
          · refine Calls.mono (wquv (G.bk 1) g cap q1 w hc0 hw) fun e w' hh => ?_
            obtain ⟨rfl, rfl⟩ := hh
            exact fin rfl (fun _ _ _ => rfl) (fun _ _ _ => rfl) (Nat.le_refl _) rfl rfl rfl
        · have hlen : (wq5t x0).length = x0.length := by simp [wq5t]
          have hbytes : ∀ (j : Nat) (x : UInt8), (wq5t x0)[j]? = some x → w.cell? ⟨g, j, none⟩ = some (.int .u8 x.toNat) := by
            intro j x hj
            have hjl : j < x0.length := by rw [← hlen]; exact (List.getElem?_eq_some_iff.1 hj).1
            have hy : x0[j]? = some x0[j] := by simp [hjl]
            obtain ⟨c, hc, hu⟩ := hrd.get j _ hy
            have hc : c = [.int .u8 x0[j]] := hc
            have h9 := hown.cells hgo _ _ (hu 0 (.int .u8 x0[j]) (by rw [hc]; rfl))
            rw [Addr.add_lit] at h9
            have hj2 : x = UInt8.ofNat (x0[j]).toNat := by
              simp only [wq5t, List.getElem?_map, hy, Option.map_some, Option.some.injEq] at hj
              exact hj.symm
            obtain ⟨h10, h11⟩ := wqyy hb j _ hy
            have : ((x.toNat : Nat) : Int) = x0[j] := by
              rw [hj2, UInt8.toNat_ofNat']
              omega
            rw [this]
            have e0 : 0 + (j * Kd.sz (.int .u8) + 0) = j := by simp [Kd.sz]
            rw [e0] at h9
            exact h9
          rw [← hlen] at hw
          have hne : wq5t x0 ≠ [] := by intro e; rw [e] at hlen; exact hx (List.eq_nil_of_length_eq_zero hlen.symm)
          refine Calls.mono (wqsc (G.bk 1) g cap q1 (wq5t x0) cur w hw hne hgb (by omega) hcm (by simpa [Kd.sz] using hcs) hbytes) fun e w' hh => ?_
          obtain ⟨rfl, rfl⟩ := hh
          have hfz : ∀ b, b ≠ g → (w.drew.freeze ⟨g, 0, none⟩ (wq5t x0).length).heap[b]? = w.heap[b]? := by
            intro b hb
            unfold World.freeze
            split
            · rfl
            · show (w.heap.modify g _)[b]? = _
              rw [Array.getElem?_modify, if_neg (Ne.symm hb)]
          refine fin rfl (fun b _ hb => hfz b (hb g hgo)) (fun g' o' hg' => ?_) ?_ ?_ ?_ ?_
          · rw [hgo] at hg'; cases hg'
            unfold World.freeze
            split
            · rfl
            · simp only [World.cell?, World.drew, Array.getElem?_modify, if_true, hgb, Option.map_some]
          all_goals
            unfold World.freeze
            split
            · first | rfl | exact Nat.le_refl _
            · first | rfl | (show w.heap.size ≤ (w.heap.modify g _).size; rw [Array.size_modify]; exact Nat.le_refl _)
  · cases h
end Go.Proofs.YtmdmpogommehpaaDoor.Pvm
set_option maxHeartbeats 1000000
namespace Go.Proofs.YtmdmpogommehpaaDoor.Pvm
open Go Go.Proofs Go.RowKit
theorem wqoc (b : Nat) (w : World) (h0 : w.cell? ⟨b, 0, none⟩ = some (.pointer (some ⟨b, 0, none⟩))) :
    Calls Tryd.prog 90 #[.pointer (some ⟨b, 0, none⟩)] w fun e w' => e = .returned (.tuple #[]) ∧ w' = w := by
  have t76 : Tryd.prog.underlying 125 = some (.pointer 127) := by kernel_rfl
  have hs : (Tryd.prog.info? 127).isSome = true := by kernel_rfl
  obtain ⟨j, hj⟩ := Option.isSome_iff_exists.1 hs
  go_enter Tryd.func90, Tryd.ntmps90
  go_wp2
  rw [Lib.run_neq_ptr_same w _ t76 hj]
  go_wp2
  go_end0
  exact ⟨rfl, rfl⟩
theorem wqma (b : Nat) (w : World) (h0 : w.cell? ⟨b, 0, none⟩ = some (.pointer none)) (hsh : w.shape? b = some (127, 2)) (hfz : w.frozen? ⟨b, 0, none⟩ = false) :
    Calls Tryd.prog 90 #[.pointer (some ⟨b, 0, none⟩)] w fun e w' => e = .returned (.tuple #[]) ∧ w' = w.setCell ⟨b, 0, none⟩ (.pointer (some ⟨b, 0, none⟩)) := by
  have t76 : Tryd.prog.underlying 125 = some (.pointer 127) := by kernel_rfl
  have t89 : Tryd.prog.underlying 139 = some .unsafePointer := by kernel_rfl
  have hs : (Tryd.prog.info? 127).map (·.size) = some 2 := by kernel_rfl
  obtain ⟨j, hj, hjs⟩ := Option.map_eq_some_iff.1 hs
  have hlies : liesAt Tryd.prog Tryd.prog.depth 127 (2 / Tryd.prog.cellsOf 127) 0 127 1 = true := by kernel_rfl
  go_enter Tryd.func90, Tryd.ntmps90
  go_wp2
  rw [Lib.run_to_unsafe w ⟨b, 0, none⟩ t76 t89 hj (by rw [hjs]; decide) hsh (Nat.zero_lt_succ 1)]
  simp only [Result.andThen]
  rw [Oper.upon_value]
  go_wp2
  rw [run_callFunc_extern Tryd.func91 (by kernel_rfl) (by kernel_rfl) (by kernel_rfl) (e := Extern.AbiNoEscape.same) (by kernel_rfl)]
  rw [Lib.run_noEscape]
  simp only [Result.andThen]
  rw [Oper.upon_value]
  go_wp2
  rw [Lib.run_from_unsafe w ⟨b, 0, none⟩ t89 t76 hj hsh hlies]
  simp only [Result.andThen]
  rw [Oper.upon_value]
  go_wp2
  go_end0
  exact ⟨rfl, rfl⟩
end Go.Proofs.YtmdmpogommehpaaDoor.Pvm
set_option maxRecDepth 1000000
namespace Go.Proofs.YtmdmpogommehpaaDoor.Pvm
open Go Go.Proofs
def wq8j : List LS := [.obj 1 [.nps 1 0, .own 21 5 (.int .u8)]]
def wq2a (k : Nat) {R : Type} (x0 : List Int) (K : List Int → Option R) : Option R := K x0
def wq1u (k : Nat) {R : Type} : List PV → List (Nm × HObj) → (Out → Option R) → Option R
  | [.ptr 1 0], [(21, .row 5 (.int .u8) x0), (1, .var 127 [.nps 1 0, .row 21])], K => wq2a k x0 (fun y0 => K (.ret [] [(21, .row 5 (.int .u8) y0), (1, .var 127 [.nps 1 0, .row 21])]))
  | _, _, _ => none
theorem wq6a (vs : Array Value) (w : World) : (callFunc 90 vs).run Tryd.prog w = .ok (.enter 90 vs) w := by
  have h1 : Tryd.prog.funcs[90]? = some Tryd.f90 := by kernel_rfl
  have h2 : (Tryd.f90.name == "runtime.NumGoroutine") = false := by kernel_rfl
  have h3 : Tryd.f90.body.isNone = false := by kernel_rfl
  unfold callFunc
  rw [Sem.run_bind]
  have e2 : (program).run Tryd.prog w = .ok Tryd.prog w := rfl
  rw [e2, Result.andThen_ok, h1]
  simp only [h2, h3, Bool.false_eq_true, if_false]
  rfl
theorem wq9v (k : Nat) {ps : List PV} {hp : List (Nm × HObj)} {R : Type} {K : Out → Option R} {r : R} (h : wq1u k ps hp K = some r) : DoesTo Tryd.prog 90 ps hp fun out => K out = some r := by
  unfold wq1u at h
  split at h
  · next x0 =>
    intro G w vals hr obj dis
    obtain ⟨v0, l0, rfl, h0, rfl⟩ := hr
    obtain ⟨rfl, _⟩ := h0
    generalize hHP : [(21, HObj.row 5 (.int .u8) x0), (1, .var 127 [.nps 1 0, .row 21])] = HP at *
    have hK : K (.ret [] HP) = some r := by subst hHP; exact h
    have l1 : mkH HP 1 = some (.var 127 [.nps 1 0, .row 21]) := by subst hHP; rfl
    have hob := obj 1 _ l1
    obtain ⟨vs, hw, q1, t1, rfl, hq1, q2, t2, rfl, hq2, rfl⟩ := hob
    show Does _ _ #[_] _ _
    unfold Does
    rw [wq6a]
    have hcell : w.cell? ⟨G.bk 1, 0, none⟩ = some q1 := by simp [World.cell?, hw]
    have hlt : G.bk 1 < w.heap.size := (Array.getElem?_eq_some_iff.1 hw).1
    rcases hq1 with rfl | ⟨rfl, _⟩
    · refine Calls.mono (wqma (G.bk 1) w hcell (by simp [World.shape?, hw]) (by simp [World.frozen?, hw])) fun e w' hh => ?_
      obtain ⟨rfl, rfl⟩ := hh
      have oth : ∀ b, b ≠ G.bk 1 → (w.setCell ⟨G.bk 1, 0, none⟩ (.pointer (some ⟨G.bk 1, 0, none⟩))).heap[b]? = w.heap[b]? := fun b hb => Go.Deep.blk_setCell_other w _ _ b hb
      have bk1 : blkOf (mkH HP) G 1 = some (G.bk 1) := by simp [blkOf, l1]
      have C : Carry (mkH HP) G w (mkH HP) G (w.setCell ⟨G.bk 1, 0, none⟩ (.pointer (some ⟨G.bk 1, 0, none⟩))) .row :=
        ⟨fun b ho _ => ⟨ho, oth b fun e => ho.1 1 (by rw [bk1, e])⟩, fun n t cs hn => ⟨⟨cs, hn⟩, rfl⟩, fun n ag V es hn => ⟨⟨es, hn⟩, rfl⟩, fun n e K xs hn => ⟨⟨rfl, e, K, xs, hn⟩, fun m hm => by cases hm; exact ⟨e, xs, hn, Nat.le_refl _⟩⟩⟩
      have hq2' := RV.carry C _ _ hq2
      refine ⟨.ret [] HP, hK, G, ⟨_, rfl, ⟨[], rfl, rfl⟩⟩, ⟨fun n o hn => ?_, dis.inj, fun n t cs hn o ho => ?_, fun n ag V es hn o ho => (wqg4 (by rw [← hHP]; rfl) hn).elim, fun b hb hf => oth b fun e => hf 1 (by rw [bk1, e]), rfl, fun n b hb => .inl ⟨n, hb⟩, by simp [World.setCell], rfl, rfl, rfl⟩⟩
      · by_cases hn1 : n = 1
        · subst hn1
          rw [show mkH (Out.hs (.ret [] HP)) 1 = some (.var 127 [.nps 1 0, .row 21]) from l1] at hn
          cases hn
          refine ⟨[.pointer (some ⟨G.bk 1, 0, none⟩), q2], ?_, _, _, rfl, .inr ⟨rfl, 127, _, l1⟩, _, _, rfl, hq2', rfl⟩
          have hw2 := (Array.getElem?_eq_some_iff.1 hw).2
          simp only [World.setCell, Array.getElem?_modify, if_pos, hw]
          simp
        · have hne : ∀ b, blkOf (mkH HP) G n = some b → b ≠ G.bk 1 := fun b hb e => hn1 (dis.inj n 1 b hb (by rw [bk1, e]))
          have := RO.carry C hn (obj n o hn) (fun b hb => oth b (hne b hb)) rfl rfl
          rwa [wqad] at this
      · have e1 : look HP n = some o := ho
        rw [hn] at e1; cases e1
        exact ⟨⟨cs, rfl⟩, rfl⟩
    · refine Calls.mono (wqoc (G.bk 1) w hcell) fun e w' hh => ?_
      obtain ⟨rfl, rfl⟩ := hh
      refine ⟨.ret [] HP, hK, G, ⟨_, rfl, ⟨[], rfl, rfl⟩⟩, ⟨obj, dis.inj, fun n t cs hn o ho => ?_, fun n ag V es hn o ho => (wqg4 (by rw [← hHP]; rfl) hn).elim, fun _ _ _ => rfl, rfl, fun n b hb => .inl ⟨n, hb⟩, Nat.le_refl _, rfl, rfl, rfl⟩⟩
      have e1 : look HP n = some o := ho
      rw [hn] at e1; cases e1
      exact ⟨⟨cs, rfl⟩, rfl⟩
  · cases h
end Go.Proofs.YtmdmpogommehpaaDoor.Pvm
set_option maxHeartbeats 0
noncomputable section
namespace Go.Proofs.YtmdmpogommehpaaDoor.Pvm
open Go Go.Proofs
def wq49 : List LS := [.obj 1 [.nps 1 0, .own 21 5 (.int .u8)], .any]
def wq3v {R : Type} (K : ((List Int) → Option R)) : Out → Option R
  | .ret [.nilif] [(21, .row 5 (.int .u8) y0), (1, .var 127 [.nps 1 0, .row 21])] => K y0
  | _ => none
def wq9j : RetSpec := ⟨[.any], [(1, .obj 1 [.nps 1 0, .own 21 5 (.int .u8)])], []⟩
def wq9k (k : Nat) : Ctx := ⟨tyT, [], (.add 90 wq8j (wq1u k) .nil), [], [1], [], @SH⟩
def wq4x (k : Nat) {R : Type}  (x0 : (List Int)) (x1 : Int) (K : ((List Int) → Option R)) : Option R := (wq2a k x0 (fun y5 => (cond (fits y5.length (@List.length (@Kd.T (@Kd.int Go.IntKind.u8)) [x1]) 1) (K (y5 ++ [x1])) none)))
def wqb (k : Nat) {R : Type} (x0 : (List Int)) (x1 : Int) (K : ((List Int) → Option R)) : Option R := wq4x k  x0 x1 K
theorem wq7z (k : Nat) {R : Type} (x0 : (List Int)) (x1 : Int) (K : ((List Int) → Option R)) : fnW (wq9k k) k Tryd.f85 wq9j [.ptr 1 0, .v (.int .u8) x1] [(21, .row 5 (.int .u8) x0), (1, .var 127 [.nps 1 0, .row 21])] (wq3v K) = wqb k x0 x1 K := by
  kernel_rfl
def wqp (k : Nat) {R : Type} : List PV → List (Nm × HObj) → (Out → Option R) → Option R
  | [.ptr 1 0, .v (.int .u8) x1], [(21, .row 5 (.int .u8) x0), (1, .var 127 [.nps 1 0, .row 21])], K => wqb k x0 x1 (fun y0 => K (.ret [.nilif] [(21, .row 5 (.int .u8) y0), (1, .var 127 [.nps 1 0, .row 21])]))
  | _, _, _ => none
theorem wq4y (k : Nat) : DOK Tryd.prog 85 (wqp k) := by
  intro ps hp R K r h
  have h : wqp k ps hp K = some r := h
  unfold wqp at h
  split at h
  · rw [← wq7z] at h
    exact fnW_ok ⟨tyT_ok, (CTab.add_ok (fun h => wq9v k h) CTab.nil_ok), fun _ _ => rfl⟩ mixed (by kernel_rfl) (by kernel_rfl) h fun o ho => by unfold wq3v at ho; split at ho <;> first | exact ho | cases ho
  · cases h
end Go.Proofs.YtmdmpogommehpaaDoor.Pvm
end


noncomputable section
namespace Go.Proofs.YtmdmpogommehpaaDoor.Pvm
open Go Go.Proofs
abbrev wqx (R : Type) : Type := (Int → Int → (List UInt8) → Int → (List dT93) → (List UInt8) → Int → Option R)
def wqf8 : List LS := [.obj 1 [.any, .any, .any, .any, .own 21 94 kdT93], .any]
def wq2y {R : Type} (K : wqx R) (E : (Int → Int → (List UInt8) → Int → (List dT93) → Int → Int → Option R)) : Out → Option R
  | .ret [.v .str y5, .v (.int .i64) y6] [(21, .row 94 (.pr (.int .i64) (.pr (.int .i64) (.pr (.int .i64) (.pr .str .bool)))) y4), (1, .var 102 [.v (.int .i64) y0, .v (.int .i64) y1, .v .str y2, .v (.int .i64) y3, .row 21])] => K y0 y1 y2 y3 y4 y5 y6
  | .pan (.ifc 25 (.agg [.v (.int .i64) z5, .v (.int .i64) z6])) [(21, .row 94 (.pr (.int .i64) (.pr (.int .i64) (.pr (.int .i64) (.pr .str .bool)))) z4), (1, .var 102 [.v (.int .i64) z0, .v (.int .i64) z1, .v .str z2, .v (.int .i64) z3, .row 21])] => E z0 z1 z2 z3 z4 z5 z6
  | _ => none
def wq6b : RetSpec := ⟨[.any, .any], [(1, .obj 1 [.any, .any, .any, .any, .own 21 94 (.pr (.int .i64) (.pr (.int .i64) (.pr (.int .i64) (.pr .str .bool))))])], [(1, .obj 1 [.any, .any, .any, .any, .own 21 94 (.pr (.int .i64) (.pr (.int .i64) (.pr (.int .i64) (.pr .str .bool))))])]⟩
def wq6c (k : Nat) : Ctx := ⟨tyT, [(1003, ⟨[(0, .obj 1 [.any, .any, .any, .any, .own 21 94 kdT93]), (1, .any), (6, .obj 16 [.nps 16 0, .own 36 5 (.int .u8)]), (7, .any)], [(1, .obj 1 [.any, .any, .any, .any, .own 21 94 kdT93])]⟩)], (.add 69 wq2m (wqw k) (.add 85 wq49 (wqp k) (.add 86 wq54 (wq1c k) (.add 87 wqgn (wq48 k) .nil)))), [], [1], [], @SH⟩
def wq1v (s0 s1 : Int) (s2 : (List UInt8)) (s3 : Int) (s4 : (List dT93)) (s5 : (List UInt8)) (s6 : (List Int)) (s7 : Int) : St := ⟨mkT [(0, .ptr 1 0), (1, .v .str s5), (6, .ptr 16 0), (7, .v kI s7)], mkH [(21, .row 94 kdT93 s4), (1, .var 102 [.v kI s0, .v kI s1, .v .str s2, .v kI s3, .row 21]), (36, .row 5 (.int .u8) s6), (16, .var 127 [.nps 16 0, .row 36])]⟩
def wq3y (k : Nat) {R : Type} (I : Nat → St → Option R) (n : Nat) (s : St) (K : wqx R) (E : (Int → Int → (List UInt8) → Int → (List dT93) → Int → Int → Option R)) : Option R := loopK (wq6c k) k Tryd.f80 wq6b 1003 [1, 1, 0, 1, 0] I n s (wq2y K E)
def wq26 (k : Nat) {R : Type} (E1003 : (Int → Int → (List UInt8) → Int → (List dT93) → (List UInt8) → (List Int) → Int → Option R)) (s0 s1 : Int) (s2 : (List UInt8)) (s3 : Int) (s4 : (List dT93)) (s5 : (List UInt8)) (s6 : (List Int)) (s7 : Int) (K : wqx R) (E : (Int → Int → (List UInt8) → Int → (List dT93) → Int → Int → Option R)) : Option R := (cond (decide (s7 < (s5.length : Int))) (cond (inb s7 (s5.length : Int)) (cond (((s5.getD s7.toNat 0).toNat : Int) == 34) (wqu k s6 (fun y13 y14 => (K s0 s1 s2 s3 s4 y14 (@Go.IntKind.wrap Go.IntKind.i64 (s7 + 1))))) (cond (((s5.getD s7.toNat 0).toNat : Int) == 92) (cond (bnd (@Go.IntKind.wrap Go.IntKind.i64 (s7 + 1)) (s5.length : Int) (s5.length : Int)) (wq3u k s0 s1 s2 s3 s4 (cut s5 (@Go.IntKind.wrap Go.IntKind.i64 (s7 + 1)) (s5.length : Int)) (fun y13 y14 y15 y16 y17 y18 y19 => (wqb k s6 y18 (fun y20 => (E1003 y13 y14 y15 y16 y17 s5 y20 (@Go.IntKind.wrap Go.IntKind.i64 ((@Go.IntKind.wrap Go.IntKind.i64 (s7 + y19)) + 1)))))) (fun y13 y14 y15 y16 y17 y18 y19 => (E y13 y14 y15 y16 y17 y18 y19))) none) (cond (inb s7 (s5.length : Int)) (wqb k s6 ((s5.getD s7.toNat 0).toNat : Int) (fun y13 => (E1003 s0 s1 s2 s3 s4 s5 y13 (@Go.IntKind.wrap Go.IntKind.i64 (s7 + 1))))) none))) none) (wq2 k s0 s1 s2 s3 s4 3 (fun y13 y14 y15 y16 y17 => (K y13 y14 y15 y16 y17 [] 0)) (fun y13 y14 y15 y16 y17 y18 y19 => (E y13 y14 y15 y16 y17 y18 y19))))
theorem wqah (k : Nat) {R : Type} (I : Nat → St → Option R) (s0 s1 : Int) (s2 : (List UInt8)) (s3 : Int) (s4 : (List dT93)) (s5 : (List UInt8)) (s6 : (List Int)) (s7 : Int) (K : wqx R) (E : (Int → Int → (List UInt8) → Int → (List dT93) → Int → Int → Option R)) : bodyK (wq6c k) k Tryd.f80 wq6b [1, 1, 0, 1, 0, 0] I (wq1v s0 s1 s2 s3 s4 s5 s6 s7) (wq2y K E) = wq26 k (fun s0 s1 s2 s3 s4 s5 s6 s7 => I 1003 (wq1v s0 s1 s2 s3 s4 s5 s6 s7)) s0 s1 s2 s3 s4 s5 s6 s7 K E := by kernel_rfl
def wq6v (k : Nat) {R : Type} (E1003 : (Int → Int → (List UInt8) → Int → (List dT93) → (List UInt8) → (List Int) → Int → Option R)) (x0 x1 : Int) (x2 : (List UInt8)) (x3 : Int) (x4 : (List dT93)) (x5 : (List UInt8)) (K : wqx R) (E : (Int → Int → (List UInt8) → Int → (List dT93) → Int → Int → Option R)) : Option R := (E1003 x0 x1 x2 x3 x4 x5 [] 1)
def wqz (k : Nat) {R : Type}  : Nat → Int → Int → (List UInt8) → Int → (List dT93) → (List UInt8) → (List Int) → Int → (Int → Int → (List UInt8) → Int → (List dT93) → (List UInt8) → Int → Option R) → (Int → Int → (List UInt8) → Int → (List dT93) → Int → Int → Option R) → Option R
  | 0, _, _, _, _, _, _, _, _, _, _ => none
  | n + 1, s0, s1, s2, s3, s4, s5, s6, s7, K, E => wq26 k (fun s0 s1 s2 s3 s4 s5 s6 s7 => wqz k  n s0 s1 s2 s3 s4 s5 s6 s7 K E) s0 s1 s2 s3 s4 s5 s6 s7 K E
theorem wqai (k : Nat) {R : Type} (I : Nat → St → Option R) (K : wqx R) (E : (Int → Int → (List UInt8) → Int → (List dT93) → Int → Int → Option R)) (n : Nat) : ∀ (s0 s1 : Int) (s2 : (List UInt8)) (s3 : Int) (s4 : (List dT93)) (s5 : (List UInt8)) (s6 : (List Int)) (s7 : Int), wq3y k I n (wq1v s0 s1 s2 s3 s4 s5 s6 s7) K E = wqz k  n s0 s1 s2 s3 s4 s5 s6 s7 K E := by
  induction n with
  | zero => intros; rfl
  | succ n ih =>
    intro s0 s1 s2 s3 s4 s5 s6 s7
    refine (?_ : _ = _).trans ((wqah k (upI 1003 (fun s => wq3y k I n s K E) I) s0 s1 s2 s3 s4 s5 s6 s7 K E).trans ?_)
    · rfl
    · simp only [wq3x, ih] <;> rfl
def wq36 (k : Nat) {R : Type} (x0 x1 : Int) (x2 : (List UInt8)) (x3 : Int) (x4 : (List dT93)) (x5 : (List UInt8)) (K : wqx R) (E : (Int → Int → (List UInt8) → Int → (List dT93) → Int → Int → Option R)) : Option R := wq6v k (fun s0 s1 s2 s3 s4 s5 s6 s7 => wqz k k s0 s1 s2 s3 s4 s5 s6 s7 K E) x0 x1 x2 x3 x4 x5 K E
theorem wqdu (k : Nat) {R : Type} (x0 x1 : Int) (x2 : (List UInt8)) (x3 : Int) (x4 : (List dT93)) (x5 : (List UInt8)) (K : wqx R) (E : (Int → Int → (List UInt8) → Int → (List dT93) → Int → Int → Option R)) : fnW (wq6c k) k Tryd.f80 wq6b [.ptr 1 0, .v .str x5] [(21, .row 94 kdT93 x4), (1, .var 102 [.v kI x0, .v kI x1, .v .str x2, .v kI x3, .row 21])] (wq2y K E) = wq36 k x0 x1 x2 x3 x4 x5 K E := by
  refine Eq.trans (b := wq6v k (fun s0 s1 s2 s3 s4 s5 s6 s7 => wq3y k (fun _ _ => none) k (wq1v s0 s1 s2 s3 s4 s5 s6 s7) K E) x0 x1 x2 x3 x4 x5 K E) (by kernel_rfl) ?_
  simp only [wqai] <;> rfl
def wq3k (k : Nat) {R : Type} : List PV → List (Nm × HObj) → (Out → Option R) → Option R
  | [.ptr 1 0, .v .str x5], [(21, .row 94 (.pr (.int .i64) (.pr (.int .i64) (.pr (.int .i64) (.pr .str .bool)))) x4), (1, .var 102 [.v (.int .i64) x0, .v (.int .i64) x1, .v .str x2, .v (.int .i64) x3, .row 21])], K => wq36 k x0 x1 x2 x3 x4 x5 (fun y0 y1 y2 y3 y4 y5 y6 => K (.ret [.v .str y5, .v (.int .i64) y6] [(21, .row 94 (.pr (.int .i64) (.pr (.int .i64) (.pr (.int .i64) (.pr .str .bool)))) y4), (1, .var 102 [.v (.int .i64) y0, .v (.int .i64) y1, .v .str y2, .v (.int .i64) y3, .row 21])])) (fun z0 z1 z2 z3 z4 z5 z6 => K (.pan (.ifc 25 (.agg [.v (.int .i64) z5, .v (.int .i64) z6])) [(21, .row 94 (.pr (.int .i64) (.pr (.int .i64) (.pr (.int .i64) (.pr .str .bool)))) z4), (1, .var 102 [.v (.int .i64) z0, .v (.int .i64) z1, .v .str z2, .v (.int .i64) z3, .row 21])]))
  | _, _, _ => none
theorem wqi9 (k : Nat) : DOK Tryd.prog 80 (wq3k k) := by
  intro ps hp R K r h
  have h : wq3k k ps hp K = some r := h
  unfold wq3k at h
  split at h
  · rw [← wqdu] at h
    exact fnW_ok ⟨tyT_ok, (wq5 (wq3t k) (wq5 (wq4y k) (CTab.add_ok (fun h => wq69 k h) (wq5 (wqjn k) CTab.nil_ok)))), fun _ _ => rfl⟩ mixed (by kernel_rfl) (by kernel_rfl) h fun o ho => by unfold wq2y at ho; split at ho <;> first | exact ho | cases ho
  · cases h
end Go.Proofs.YtmdmpogommehpaaDoor.Pvm
end


noncomputable section
namespace Go.Proofs.YtmdmpogommehpaaDoor.Pvm
open Go Go.Proofs
abbrev wqy (R : Type) : Type := (Int → Int → (List UInt8) → Int → (List dT93) → (List UInt8) → Int → Option R)
def wqf9 : List LS := [.obj 1 [.any, .any, .any, .any, .own 21 94 kdT93], .any]
def wq2z {R : Type} (K : wqy R) (E : (Int → Int → (List UInt8) → Int → (List dT93) → Int → Int → Option R)) : Out → Option R
  | .ret [.v .str y5, .v (.int .i64) y6] [(21, .row 94 (.pr (.int .i64) (.pr (.int .i64) (.pr (.int .i64) (.pr .str .bool)))) y4), (1, .var 102 [.v (.int .i64) y0, .v (.int .i64) y1, .v .str y2, .v (.int .i64) y3, .row 21])] => K y0 y1 y2 y3 y4 y5 y6
  | .pan (.ifc 25 (.agg [.v (.int .i64) z5, .v (.int .i64) z6])) [(21, .row 94 (.pr (.int .i64) (.pr (.int .i64) (.pr (.int .i64) (.pr .str .bool)))) z4), (1, .var 102 [.v (.int .i64) z0, .v (.int .i64) z1, .v .str z2, .v (.int .i64) z3, .row 21])] => E z0 z1 z2 z3 z4 z5 z6
  | _ => none
def wq6d : RetSpec := ⟨[.any, .any], [(1, .obj 1 [.any, .any, .any, .any, .own 21 94 (.pr (.int .i64) (.pr (.int .i64) (.pr (.int .i64) (.pr .str .bool))))])], [(1, .obj 1 [.any, .any, .any, .any, .own 21 94 (.pr (.int .i64) (.pr (.int .i64) (.pr (.int .i64) (.pr .str .bool))))])]⟩
def wq6e (k : Nat) : Ctx := ⟨tyT, [(1003, ⟨[(0, .obj 1 [.any, .any, .any, .any, .own 21 94 kdT93]), (1, .any), (6, .obj 16 [.nps 16 0, .own 36 5 (.int .u8)]), (7, .any)], [(1, .obj 1 [.any, .any, .any, .any, .own 21 94 kdT93])]⟩)], (.add 69 wq2m (wqw k) (.add 85 wq49 (wqp k) (.add 86 wq54 (wq1c k) .nil))), [], [1], [], @SH⟩
def wq1w (s0 s1 : Int) (s2 : (List UInt8)) (s3 : Int) (s4 : (List dT93)) (s5 : (List UInt8)) (s6 : (List Int)) (s7 : Int) : St := ⟨mkT [(0, .ptr 1 0), (1, .v .str s5), (6, .ptr 16 0), (7, .v kI s7)], mkH [(21, .row 94 kdT93 s4), (1, .var 102 [.v kI s0, .v kI s1, .v .str s2, .v kI s3, .row 21]), (36, .row 5 (.int .u8) s6), (16, .var 127 [.nps 16 0, .row 36])]⟩
def wq3z (k : Nat) {R : Type} (I : Nat → St → Option R) (n : Nat) (s : St) (K : wqy R) (E : (Int → Int → (List UInt8) → Int → (List dT93) → Int → Int → Option R)) : Option R := loopK (wq6e k) k Tryd.f79 wq6d 1003 [1, 1, 0, 1, 0] I n s (wq2z K E)
def wq27 (k : Nat) {R : Type} (E1003 : (Int → Int → (List UInt8) → Int → (List dT93) → (List UInt8) → (List Int) → Int → Option R)) (s0 s1 : Int) (s2 : (List UInt8)) (s3 : Int) (s4 : (List dT93)) (s5 : (List UInt8)) (s6 : (List Int)) (s7 : Int) (K : wqy R) (E : (Int → Int → (List UInt8) → Int → (List dT93) → Int → Int → Option R)) : Option R := (cond (decide (s7 < (s5.length : Int))) (cond (inb s7 (s5.length : Int)) (cond (((s5.getD s7.toNat 0).toNat : Int) != 39) (cond (inb s7 (s5.length : Int)) (wqb k s6 ((s5.getD s7.toNat 0).toNat : Int) (fun y13 => (E1003 s0 s1 s2 s3 s4 s5 y13 (@Go.IntKind.wrap Go.IntKind.i64 (s7 + 1))))) none) (cond ((!((decide ((@Go.IntKind.wrap Go.IntKind.i64 (s7 + 1)) ≥ (s5.length : Int))) == false)) || (inb (@Go.IntKind.wrap Go.IntKind.i64 (s7 + 1)) (s5.length : Int))) (cond (cond (decide ((@Go.IntKind.wrap Go.IntKind.i64 (s7 + 1)) ≥ (s5.length : Int))) true (((s5.getD (@Go.IntKind.wrap Go.IntKind.i64 (s7 + 1)).toNat 0).toNat : Int) != 39)) (wqu k s6 (fun y13 y14 => (K s0 s1 s2 s3 s4 y14 (@Go.IntKind.wrap Go.IntKind.i64 (s7 + 1))))) (wqb k s6 39 (fun y13 => (E1003 s0 s1 s2 s3 s4 s5 y13 (@Go.IntKind.wrap Go.IntKind.i64 ((@Go.IntKind.wrap Go.IntKind.i64 (s7 + 1)) + 1)))))) none)) none) (wq2 k s0 s1 s2 s3 s4 3 (fun y13 y14 y15 y16 y17 => (K y13 y14 y15 y16 y17 [] 0)) (fun y13 y14 y15 y16 y17 y18 y19 => (E y13 y14 y15 y16 y17 y18 y19))))
theorem wqaj (k : Nat) {R : Type} (I : Nat → St → Option R) (s0 s1 : Int) (s2 : (List UInt8)) (s3 : Int) (s4 : (List dT93)) (s5 : (List UInt8)) (s6 : (List Int)) (s7 : Int) (K : wqy R) (E : (Int → Int → (List UInt8) → Int → (List dT93) → Int → Int → Option R)) : bodyK (wq6e k) k Tryd.f79 wq6d [1, 1, 0, 1, 0, 0] I (wq1w s0 s1 s2 s3 s4 s5 s6 s7) (wq2z K E) = wq27 k (fun s0 s1 s2 s3 s4 s5 s6 s7 => I 1003 (wq1w s0 s1 s2 s3 s4 s5 s6 s7)) s0 s1 s2 s3 s4 s5 s6 s7 K E := by kernel_rfl
def wq6w (k : Nat) {R : Type} (E1003 : (Int → Int → (List UInt8) → Int → (List dT93) → (List UInt8) → (List Int) → Int → Option R)) (x0 x1 : Int) (x2 : (List UInt8)) (x3 : Int) (x4 : (List dT93)) (x5 : (List UInt8)) (K : wqy R) (E : (Int → Int → (List UInt8) → Int → (List dT93) → Int → Int → Option R)) : Option R := (E1003 x0 x1 x2 x3 x4 x5 [] 1)
def wq10 (k : Nat) {R : Type}  : Nat → Int → Int → (List UInt8) → Int → (List dT93) → (List UInt8) → (List Int) → Int → (Int → Int → (List UInt8) → Int → (List dT93) → (List UInt8) → Int → Option R) → (Int → Int → (List UInt8) → Int → (List dT93) → Int → Int → Option R) → Option R
  | 0, _, _, _, _, _, _, _, _, _, _ => none
  | n + 1, s0, s1, s2, s3, s4, s5, s6, s7, K, E => wq27 k (fun s0 s1 s2 s3 s4 s5 s6 s7 => wq10 k  n s0 s1 s2 s3 s4 s5 s6 s7 K E) s0 s1 s2 s3 s4 s5 s6 s7 K E
theorem wqak (k : Nat) {R : Type} (I : Nat → St → Option R) (K : wqy R) (E : (Int → Int → (List UInt8) → Int → (List dT93) → Int → Int → Option R)) (n : Nat) : ∀ (s0 s1 : Int) (s2 : (List UInt8)) (s3 : Int) (s4 : (List dT93)) (s5 : (List UInt8)) (s6 : (List Int)) (s7 : Int), wq3z k I n (wq1w s0 s1 s2 s3 s4 s5 s6 s7) K E = wq10 k  n s0 s1 s2 s3 s4 s5 s6 s7 K E := by
  induction n with
  | zero => intros; rfl
  | succ n ih =>
    intro s0 s1 s2 s3 s4 s5 s6 s7
    refine (?_ : _ = _).trans ((wqaj k (upI 1003 (fun s => wq3z k I n s K E) I) s0 s1 s2 s3 s4 s5 s6 s7 K E).trans ?_)
    · rfl
    · simp only [wq3x, ih] <;> rfl
def wq37 (k : Nat) {R : Type} (x0 x1 : Int) (x2 : (List UInt8)) (x3 : Int) (x4 : (List dT93)) (x5 : (List UInt8)) (K : wqy R) (E : (Int → Int → (List UInt8) → Int → (List dT93) → Int → Int → Option R)) : Option R := wq6w k (fun s0 s1 s2 s3 s4 s5 s6 s7 => wq10 k k s0 s1 s2 s3 s4 s5 s6 s7 K E) x0 x1 x2 x3 x4 x5 K E
theorem wqdv (k : Nat) {R : Type} (x0 x1 : Int) (x2 : (List UInt8)) (x3 : Int) (x4 : (List dT93)) (x5 : (List UInt8)) (K : wqy R) (E : (Int → Int → (List UInt8) → Int → (List dT93) → Int → Int → Option R)) : fnW (wq6e k) k Tryd.f79 wq6d [.ptr 1 0, .v .str x5] [(21, .row 94 kdT93 x4), (1, .var 102 [.v kI x0, .v kI x1, .v .str x2, .v kI x3, .row 21])] (wq2z K E) = wq37 k x0 x1 x2 x3 x4 x5 K E := by
  refine Eq.trans (b := wq6w k (fun s0 s1 s2 s3 s4 s5 s6 s7 => wq3z k (fun _ _ => none) k (wq1w s0 s1 s2 s3 s4 s5 s6 s7) K E) x0 x1 x2 x3 x4 x5 K E) (by kernel_rfl) ?_
  simp only [wqak] <;> rfl
def wq3l (k : Nat) {R : Type} : List PV → List (Nm × HObj) → (Out → Option R) → Option R
  | [.ptr 1 0, .v .str x5], [(21, .row 94 (.pr (.int .i64) (.pr (.int .i64) (.pr (.int .i64) (.pr .str .bool)))) x4), (1, .var 102 [.v (.int .i64) x0, .v (.int .i64) x1, .v .str x2, .v (.int .i64) x3, .row 21])], K => wq37 k x0 x1 x2 x3 x4 x5 (fun y0 y1 y2 y3 y4 y5 y6 => K (.ret [.v .str y5, .v (.int .i64) y6] [(21, .row 94 (.pr (.int .i64) (.pr (.int .i64) (.pr (.int .i64) (.pr .str .bool)))) y4), (1, .var 102 [.v (.int .i64) y0, .v (.int .i64) y1, .v .str y2, .v (.int .i64) y3, .row 21])])) (fun z0 z1 z2 z3 z4 z5 z6 => K (.pan (.ifc 25 (.agg [.v (.int .i64) z5, .v (.int .i64) z6])) [(21, .row 94 (.pr (.int .i64) (.pr (.int .i64) (.pr (.int .i64) (.pr .str .bool)))) z4), (1, .var 102 [.v (.int .i64) z0, .v (.int .i64) z1, .v .str z2, .v (.int .i64) z3, .row 21])]))
  | _, _, _ => none
theorem wqia (k : Nat) : DOK Tryd.prog 79 (wq3l k) := by
  intro ps hp R K r h
  have h : wq3l k ps hp K = some r := h
  unfold wq3l at h
  split at h
  · rw [← wqdv] at h
    exact fnW_ok ⟨tyT_ok, (wq5 (wq3t k) (wq5 (wq4y k) (CTab.add_ok (fun h => wq69 k h) CTab.nil_ok))), fun _ _ => rfl⟩ mixed (by kernel_rfl) (by kernel_rfl) h fun o ho => by unfold wq2z at ho; split at ho <;> first | exact ho | cases ho
  · cases h
end Go.Proofs.YtmdmpogommehpaaDoor.Pvm
end


noncomputable section
namespace Go.Proofs.YtmdmpogommehpaaDoor.Pvm
open Go Go.Proofs
def wqib : List LS := [.obj 1 [.any, .any, .any, .any, .own 21 94 kdT93], .any]
def wqa6 {R : Type} (K : (Int → Int → (List UInt8) → Int → (List dT93) → Option R)) (E : (Int → Int → (List UInt8) → Int → (List dT93) → Int → Int → Option R)) : Out → Option R
  | .ret [] [(21, .row 94 (.pr (.int .i64) (.pr (.int .i64) (.pr (.int .i64) (.pr .str .bool)))) y4), (1, .var 102 [.v (.int .i64) y0, .v (.int .i64) y1, .v .str y2, .v (.int .i64) y3, .row 21])] => K y0 y1 y2 y3 y4
  | .pan (.ifc 25 (.agg [.v (.int .i64) z5, .v (.int .i64) z6])) [(21, .row 94 (.pr (.int .i64) (.pr (.int .i64) (.pr (.int .i64) (.pr .str .bool)))) z4), (1, .var 102 [.v (.int .i64) z0, .v (.int .i64) z1, .v .str z2, .v (.int .i64) z3, .row 21])] => E z0 z1 z2 z3 z4 z5 z6
  | _ => none
def wqjo : RetSpec := ⟨[], [(1, .obj 1 [.any, .any, .any, .any, .own 21 94 (.pr (.int .i64) (.pr (.int .i64) (.pr (.int .i64) (.pr .str .bool))))])], [(1, .obj 1 [.any, .any, .any, .any, .own 21 94 (.pr (.int .i64) (.pr (.int .i64) (.pr (.int .i64) (.pr .str .bool))))])]⟩
def wqjp (k : Nat) : Ctx := ⟨tyT, [], (.add 69 wq2m (wqw k) (.add 71 wqld (wq9e k) (.add 72 wqa4 (wq2n k) (.add 73 wqn8 (wqay k) (.add 79 wqf9 (wq3l k) (.add 80 wqf8 (wq3k k) (.add 81 wq87 (wq1r k) .nil))))))), [], [1], [], @SH⟩
def wqcz (k : Nat) {R : Type}  (x0 x1 : Int) (x2 : (List UInt8)) (x3 : Int) (x4 : (List dT93)) (x5 : (List UInt8)) (K : (Int → Int → (List UInt8) → Int → (List dT93) → Option R)) (E : (Int → Int → (List UInt8) → Int → (List dT93) → Int → Int → Option R)) : Option R := (cond (inb 0 (x5.length : Int)) (cond (((x5.getD (Int.toNat 0) 0).toNat : Int) == 39) (wq37 k x0 x1 x2 x3 x4 x5 (fun y10 y11 y12 y13 y14 y15 y16 => (cond (y16 != (x5.length : Int)) (wq2 k y10 y11 y12 y13 y14 3 (fun y17 y18 y19 y20 y21 => (cond (decide ((y15.length : Int) > 200)) (wq2 k y17 y18 y19 y20 y21 4 (fun y22 y23 y24 y25 y26 => (wq4 k y22 y23 y24 y25 y26 3 y15 true y16 (fun y27 y28 y29 y30 y31 => (K y27 y28 y29 y30 y31)))) (fun y22 y23 y24 y25 y26 y27 y28 => (E y22 y23 y24 y25 y26 y27 y28))) (wq4 k y17 y18 y19 y20 y21 3 y15 true y16 (fun y22 y23 y24 y25 y26 => (K y22 y23 y24 y25 y26))))) (fun y17 y18 y19 y20 y21 y22 y23 => (E y17 y18 y19 y20 y21 y22 y23))) (cond (decide ((y15.length : Int) > 200)) (wq2 k y10 y11 y12 y13 y14 4 (fun y17 y18 y19 y20 y21 => (wq4 k y17 y18 y19 y20 y21 3 y15 true y16 (fun y22 y23 y24 y25 y26 => (K y22 y23 y24 y25 y26)))) (fun y17 y18 y19 y20 y21 y22 y23 => (E y17 y18 y19 y20 y21 y22 y23))) (wq4 k y10 y11 y12 y13 y14 3 y15 true y16 (fun y17 y18 y19 y20 y21 => (K y17 y18 y19 y20 y21)))))) (fun y10 y11 y12 y13 y14 y15 y16 => (E y10 y11 y12 y13 y14 y15 y16))) (cond (((x5.getD (Int.toNat 0) 0).toNat : Int) == 34) (wq36 k x0 x1 x2 x3 x4 x5 (fun y10 y11 y12 y13 y14 y15 y16 => (cond (y16 != (x5.length : Int)) (wq2 k y10 y11 y12 y13 y14 3 (fun y17 y18 y19 y20 y21 => (cond (decide ((y15.length : Int) > 200)) (wq2 k y17 y18 y19 y20 y21 4 (fun y22 y23 y24 y25 y26 => (wq4 k y22 y23 y24 y25 y26 3 y15 true y16 (fun y27 y28 y29 y30 y31 => (K y27 y28 y29 y30 y31)))) (fun y22 y23 y24 y25 y26 y27 y28 => (E y22 y23 y24 y25 y26 y27 y28))) (wq4 k y17 y18 y19 y20 y21 3 y15 true y16 (fun y22 y23 y24 y25 y26 => (K y22 y23 y24 y25 y26))))) (fun y17 y18 y19 y20 y21 y22 y23 => (E y17 y18 y19 y20 y21 y22 y23))) (cond (decide ((y15.length : Int) > 200)) (wq2 k y10 y11 y12 y13 y14 4 (fun y17 y18 y19 y20 y21 => (wq4 k y17 y18 y19 y20 y21 3 y15 true y16 (fun y22 y23 y24 y25 y26 => (K y22 y23 y24 y25 y26)))) (fun y17 y18 y19 y20 y21 y22 y23 => (E y17 y18 y19 y20 y21 y22 y23))) (wq4 k y10 y11 y12 y13 y14 3 y15 true y16 (fun y17 y18 y19 y20 y21 => (K y17 y18 y19 y20 y21)))))) (fun y10 y11 y12 y13 y14 y15 y16 => (E y10 y11 y12 y13 y14 y15 y16))) (cond (inb 0 (x5.length : Int)) (wqd k [91, 93, 123, 125, 38, 42, 33, 124, 62, 37, 64, 44, 63, 96] ((x5.getD (Int.toNat 0) 0).toNat : Int) (fun y10 => (cond ((decide (y10 ≥ 0)) == false) (wqax k x5 (fun y11 => (cond (y11 == false) (wqbm k x5 (fun y12 => (cond (!(y12 == [])) (wq2 k x0 x1 x2 x3 x4 4 (fun y13 y14 y15 y16 y17 => (cond ((x5.length : Int) != (x5.length : Int)) (wq2 k y13 y14 y15 y16 y17 3 (fun y18 y19 y20 y21 y22 => (cond (decide ((x5.length : Int) > 200)) (wq2 k y18 y19 y20 y21 y22 4 (fun y23 y24 y25 y26 y27 => (wq4 k y23 y24 y25 y26 y27 3 x5 false (x5.length : Int) (fun y28 y29 y30 y31 y32 => (K y28 y29 y30 y31 y32)))) (fun y23 y24 y25 y26 y27 y28 y29 => (E y23 y24 y25 y26 y27 y28 y29))) (wq4 k y18 y19 y20 y21 y22 3 x5 false (x5.length : Int) (fun y23 y24 y25 y26 y27 => (K y23 y24 y25 y26 y27))))) (fun y18 y19 y20 y21 y22 y23 y24 => (E y18 y19 y20 y21 y22 y23 y24))) (cond (decide ((x5.length : Int) > 200)) (wq2 k y13 y14 y15 y16 y17 4 (fun y18 y19 y20 y21 y22 => (wq4 k y18 y19 y20 y21 y22 3 x5 false (x5.length : Int) (fun y23 y24 y25 y26 y27 => (K y23 y24 y25 y26 y27)))) (fun y18 y19 y20 y21 y22 y23 y24 => (E y18 y19 y20 y21 y22 y23 y24))) (wq4 k y13 y14 y15 y16 y17 3 x5 false (x5.length : Int) (fun y18 y19 y20 y21 y22 => (K y18 y19 y20 y21 y22)))))) (fun y13 y14 y15 y16 y17 y18 y19 => (E y13 y14 y15 y16 y17 y18 y19))) (cond ((x5.length : Int) != (x5.length : Int)) (wq2 k x0 x1 x2 x3 x4 3 (fun y13 y14 y15 y16 y17 => (cond (decide ((x5.length : Int) > 200)) (wq2 k y13 y14 y15 y16 y17 4 (fun y18 y19 y20 y21 y22 => (wq4 k y18 y19 y20 y21 y22 3 x5 false (x5.length : Int) (fun y23 y24 y25 y26 y27 => (K y23 y24 y25 y26 y27)))) (fun y18 y19 y20 y21 y22 y23 y24 => (E y18 y19 y20 y21 y22 y23 y24))) (wq4 k y13 y14 y15 y16 y17 3 x5 false (x5.length : Int) (fun y18 y19 y20 y21 y22 => (K y18 y19 y20 y21 y22))))) (fun y13 y14 y15 y16 y17 y18 y19 => (E y13 y14 y15 y16 y17 y18 y19))) (cond (decide ((x5.length : Int) > 200)) (wq2 k x0 x1 x2 x3 x4 4 (fun y13 y14 y15 y16 y17 => (wq4 k y13 y14 y15 y16 y17 3 x5 false (x5.length : Int) (fun y18 y19 y20 y21 y22 => (K y18 y19 y20 y21 y22)))) (fun y13 y14 y15 y16 y17 y18 y19 => (E y13 y14 y15 y16 y17 y18 y19))) (wq4 k x0 x1 x2 x3 x4 3 x5 false (x5.length : Int) (fun y13 y14 y15 y16 y17 => (K y13 y14 y15 y16 y17)))))))) (wq2 k x0 x1 x2 x3 x4 4 (fun y12 y13 y14 y15 y16 => (cond ((x5.length : Int) != (x5.length : Int)) (wq2 k y12 y13 y14 y15 y16 3 (fun y17 y18 y19 y20 y21 => (cond (decide ((x5.length : Int) > 200)) (wq2 k y17 y18 y19 y20 y21 4 (fun y22 y23 y24 y25 y26 => (wq4 k y22 y23 y24 y25 y26 3 x5 false (x5.length : Int) (fun y27 y28 y29 y30 y31 => (K y27 y28 y29 y30 y31)))) (fun y22 y23 y24 y25 y26 y27 y28 => (E y22 y23 y24 y25 y26 y27 y28))) (wq4 k y17 y18 y19 y20 y21 3 x5 false (x5.length : Int) (fun y22 y23 y24 y25 y26 => (K y22 y23 y24 y25 y26))))) (fun y17 y18 y19 y20 y21 y22 y23 => (E y17 y18 y19 y20 y21 y22 y23))) (cond (decide ((x5.length : Int) > 200)) (wq2 k y12 y13 y14 y15 y16 4 (fun y17 y18 y19 y20 y21 => (wq4 k y17 y18 y19 y20 y21 3 x5 false (x5.length : Int) (fun y22 y23 y24 y25 y26 => (K y22 y23 y24 y25 y26)))) (fun y17 y18 y19 y20 y21 y22 y23 => (E y17 y18 y19 y20 y21 y22 y23))) (wq4 k y12 y13 y14 y15 y16 3 x5 false (x5.length : Int) (fun y17 y18 y19 y20 y21 => (K y17 y18 y19 y20 y21)))))) (fun y12 y13 y14 y15 y16 y17 y18 => (E y12 y13 y14 y15 y16 y17 y18)))))) (wq2 k x0 x1 x2 x3 x4 4 (fun y11 y12 y13 y14 y15 => (cond ((x5.length : Int) != (x5.length : Int)) (wq2 k y11 y12 y13 y14 y15 3 (fun y16 y17 y18 y19 y20 => (cond (decide ((x5.length : Int) > 200)) (wq2 k y16 y17 y18 y19 y20 4 (fun y21 y22 y23 y24 y25 => (wq4 k y21 y22 y23 y24 y25 3 x5 false (x5.length : Int) (fun y26 y27 y28 y29 y30 => (K y26 y27 y28 y29 y30)))) (fun y21 y22 y23 y24 y25 y26 y27 => (E y21 y22 y23 y24 y25 y26 y27))) (wq4 k y16 y17 y18 y19 y20 3 x5 false (x5.length : Int) (fun y21 y22 y23 y24 y25 => (K y21 y22 y23 y24 y25))))) (fun y16 y17 y18 y19 y20 y21 y22 => (E y16 y17 y18 y19 y20 y21 y22))) (cond (decide ((x5.length : Int) > 200)) (wq2 k y11 y12 y13 y14 y15 4 (fun y16 y17 y18 y19 y20 => (wq4 k y16 y17 y18 y19 y20 3 x5 false (x5.length : Int) (fun y21 y22 y23 y24 y25 => (K y21 y22 y23 y24 y25)))) (fun y16 y17 y18 y19 y20 y21 y22 => (E y16 y17 y18 y19 y20 y21 y22))) (wq4 k y11 y12 y13 y14 y15 3 x5 false (x5.length : Int) (fun y16 y17 y18 y19 y20 => (K y16 y17 y18 y19 y20)))))) (fun y11 y12 y13 y14 y15 y16 y17 => (E y11 y12 y13 y14 y15 y16 y17)))))) none))) none)
def wq1e (k : Nat) {R : Type} (x0 x1 : Int) (x2 : (List UInt8)) (x3 : Int) (x4 : (List dT93)) (x5 : (List UInt8)) (K : (Int → Int → (List UInt8) → Int → (List dT93) → Option R)) (E : (Int → Int → (List UInt8) → Int → (List dT93) → Int → Int → Option R)) : Option R := wqcz k  x0 x1 x2 x3 x4 x5 K E
theorem wqgo (k : Nat) {R : Type} (x0 x1 : Int) (x2 : (List UInt8)) (x3 : Int) (x4 : (List dT93)) (x5 : (List UInt8)) (K : (Int → Int → (List UInt8) → Int → (List dT93) → Option R)) (E : (Int → Int → (List UInt8) → Int → (List dT93) → Int → Int → Option R)) : fnW (wqjp k) k Tryd.f74 wqjo [.ptr 1 0, .v .str x5] [(21, .row 94 kdT93 x4), (1, .var 102 [.v kI x0, .v kI x1, .v .str x2, .v kI x3, .row 21])] (wqa6 K E) = wq1e k x0 x1 x2 x3 x4 x5 K E := by
  kernel_rfl
def wq4p (k : Nat) {R : Type} : List PV → List (Nm × HObj) → (Out → Option R) → Option R
  | [.ptr 1 0, .v .str x5], [(21, .row 94 (.pr (.int .i64) (.pr (.int .i64) (.pr (.int .i64) (.pr .str .bool)))) x4), (1, .var 102 [.v (.int .i64) x0, .v (.int .i64) x1, .v .str x2, .v (.int .i64) x3, .row 21])], K => wq1e k x0 x1 x2 x3 x4 x5 (fun y0 y1 y2 y3 y4 => K (.ret [] [(21, .row 94 (.pr (.int .i64) (.pr (.int .i64) (.pr (.int .i64) (.pr .str .bool)))) y4), (1, .var 102 [.v (.int .i64) y0, .v (.int .i64) y1, .v .str y2, .v (.int .i64) y3, .row 21])])) (fun z0 z1 z2 z3 z4 z5 z6 => K (.pan (.ifc 25 (.agg [.v (.int .i64) z5, .v (.int .i64) z6])) [(21, .row 94 (.pr (.int .i64) (.pr (.int .i64) (.pr (.int .i64) (.pr .str .bool)))) z4), (1, .var 102 [.v (.int .i64) z0, .v (.int .i64) z1, .v .str z2, .v (.int .i64) z3, .row 21])]))
  | _, _, _ => none
theorem wqlg (k : Nat) : DOK Tryd.prog 74 (wq4p k) := by
  intro ps hp R K r h
  have h : wq4p k ps hp K = some r := h
  unfold wq4p at h
  split at h
  · rw [← wqgo] at h
    exact fnW_ok ⟨tyT_ok, (wq5 (wq3t k) (wq5 (wqqe k) (wq5 (wqc2 k) (wq5 (wqtq k) (wq5 (wqia k) (wq5 (wqi9 k) (wq5 (wqa5 k) CTab.nil_ok))))))), fun _ _ => rfl⟩ mixed (by kernel_rfl) (by kernel_rfl) h fun o ho => by unfold wqa6 at ho; split at ho <;> first | exact ho | cases ho
  · cases h
end Go.Proofs.YtmdmpogommehpaaDoor.Pvm
end


noncomputable section
namespace Go.Proofs.YtmdmpogommehpaaDoor.Pvm
open Go Go.Proofs
def wqjq : List LS := [.obj 1 [.any, .any, .any, .any, .own 21 94 kdT93]]
def wq4q {R : Type} (K : (Int → Int → (List UInt8) → Int → (List dT93) → Option R)) (E : (Int → Int → (List UInt8) → Int → (List dT93) → Int → Int → Option R)) : Out → Option R
  | .ret [] [(21, .row 94 (.pr (.int .i64) (.pr (.int .i64) (.pr (.int .i64) (.pr .str .bool)))) y4), (1, .var 102 [.v (.int .i64) y0, .v (.int .i64) y1, .v .str y2, .v (.int .i64) y3, .row 21])] => K y0 y1 y2 y3 y4
  | .pan (.ifc 25 (.agg [.v (.int .i64) z5, .v (.int .i64) z6])) [(21, .row 94 (.pr (.int .i64) (.pr (.int .i64) (.pr (.int .i64) (.pr .str .bool)))) z4), (1, .var 102 [.v (.int .i64) z0, .v (.int .i64) z1, .v .str z2, .v (.int .i64) z3, .row 21])] => E z0 z1 z2 z3 z4 z5 z6
  | _ => none
def wq9l : RetSpec := ⟨[], [(1, .obj 1 [.any, .any, .any, .any, .own 21 94 (.pr (.int .i64) (.pr (.int .i64) (.pr (.int .i64) (.pr .str .bool))))])], [(1, .obj 1 [.any, .any, .any, .any, .own 21 94 (.pr (.int .i64) (.pr (.int .i64) (.pr (.int .i64) (.pr .str .bool))))])]⟩
def wq9m (k : Nat) : Ctx := ⟨tyT, [(1003, ⟨[(0, .obj 1 [.any, .any, .any, .any, .own 21 94 kdT93]), (2, .any)], [(1, .obj 1 [.any, .any, .any, .any, .own 21 94 kdT93])]⟩)], (.add 69 wq2m (wqw k) (.add 70 wqi6 (wq4o k) (.add 71 wqld (wq9e k) (.add 72 wqa4 (wq2n k) (.add 73 wqn8 (wqay k) (.add 74 wqib (wq4p k) .nil)))))), [], [1], [], @SH⟩
def wq30 (s0 s1 : Int) (s2 : (List UInt8)) (s3 : Int) (s4 : (List dT93)) (s5 : (List UInt8)) : St := ⟨mkT [(0, .ptr 1 0), (2, .v .str s5)], mkH [(21, .row 94 kdT93 s4), (1, .var 102 [.v kI s0, .v kI s1, .v .str s2, .v kI s3, .row 21])]⟩
def wq5q (k : Nat) {R : Type} (I : Nat → St → Option R) (n : Nat) (s : St) (K : (Int → Int → (List UInt8) → Int → (List dT93) → Option R)) (E : (Int → Int → (List UInt8) → Int → (List dT93) → Int → Int → Option R)) : Option R := loopK (wq9m k) k Tryd.f61 wq9l 1003 [1, 1, 0, 0] I n s (wq4q K E)
def wq5r (k : Nat) {R : Type} (E1003 : (Int → Int → (List UInt8) → Int → (List dT93) → (List UInt8) → Option R)) (s0 s1 : Int) (s2 : (List UInt8)) (s3 : Int) (s4 : (List dT93)) (s5 : (List UInt8)) (K : (Int → Int → (List UInt8) → Int → (List dT93) → Option R)) (E : (Int → Int → (List UInt8) → Int → (List dT93) → Int → Int → Option R)) : Option R := (wqax k s5 (fun y11 => (cond y11 (wq4 k s0 s1 s2 s3 s4 1 [] false 1 (fun y12 y13 y14 y15 y16 => (wq17 k y12 y13 y14 y15 y16 (fun y17 y18 y19 y20 y21 y22 => (E1003 y17 y18 y19 y20 y21 y22))))) (wqbm k s5 (fun y12 => (cond (!(y12 == [])) (cond (decide ((y12.length : Int) > 64)) (wq2 k s0 s1 s2 s3 s4 5 (fun y13 y14 y15 y16 y17 => (wq4 k y13 y14 y15 y16 y17 2 y12 false (@Go.IntKind.wrap Go.IntKind.i64 ((y12.length : Int) + 1)) (fun y18 y19 y20 y21 y22 => (wq17 k y18 y19 y20 y21 y22 (fun y23 y24 y25 y26 y27 y28 => (cond (!(y28 == [])) (wq1e k y23 y24 y25 y26 y27 y28 (fun y29 y30 y31 y32 y33 => (K y29 y30 y31 y32 y33)) (fun y29 y30 y31 y32 y33 y34 y35 => (E y29 y30 y31 y32 y33 y34 y35))) (K y23 y24 y25 y26 y27))))))) (fun y13 y14 y15 y16 y17 y18 y19 => (E y13 y14 y15 y16 y17 y18 y19))) (wq4 k s0 s1 s2 s3 s4 2 y12 false (@Go.IntKind.wrap Go.IntKind.i64 ((y12.length : Int) + 1)) (fun y13 y14 y15 y16 y17 => (wq17 k y13 y14 y15 y16 y17 (fun y18 y19 y20 y21 y22 y23 => (cond (!(y23 == [])) (wq1e k y18 y19 y20 y21 y22 y23 (fun y24 y25 y26 y27 y28 => (K y24 y25 y26 y27 y28)) (fun y24 y25 y26 y27 y28 y29 y30 => (E y24 y25 y26 y27 y28 y29 y30))) (K y18 y19 y20 y21 y22))))))) (cond (!(s5 == [])) (wq1e k s0 s1 s2 s3 s4 s5 (fun y13 y14 y15 y16 y17 => (K y13 y14 y15 y16 y17)) (fun y13 y14 y15 y16 y17 y18 y19 => (E y13 y14 y15 y16 y17 y18 y19))) (K s0 s1 s2 s3 s4))))))))
theorem wqc9 (k : Nat) {R : Type} (I : Nat → St → Option R) (s0 s1 : Int) (s2 : (List UInt8)) (s3 : Int) (s4 : (List dT93)) (s5 : (List UInt8)) (K : (Int → Int → (List UInt8) → Int → (List dT93) → Option R)) (E : (Int → Int → (List UInt8) → Int → (List dT93) → Int → Int → Option R)) : bodyK (wq9m k) k Tryd.f61 wq9l [1, 1, 0, 0, 0] I (wq30 s0 s1 s2 s3 s4 s5) (wq4q K E) = wq5r k (fun s0 s1 s2 s3 s4 s5 => I 1003 (wq30 s0 s1 s2 s3 s4 s5)) s0 s1 s2 s3 s4 s5 K E := by kernel_rfl
def wqal (k : Nat) {R : Type} (E1003 : (Int → Int → (List UInt8) → Int → (List dT93) → (List UInt8) → Option R)) (x0 x1 : Int) (x2 : (List UInt8)) (x3 : Int) (x4 : (List dT93)) (K : (Int → Int → (List UInt8) → Int → (List dT93) → Option R)) (E : (Int → Int → (List UInt8) → Int → (List dT93) → Int → Int → Option R)) : Option R := (cond (cond (decide (x1 < 0)) true (decide (x1 > 16384))) (wq2 k x0 x1 x2 x3 x4 6 (fun y10 y11 y12 y13 y14 => (wq17 k y10 y11 y12 y13 y14 (fun y15 y16 y17 y18 y19 y20 => (E1003 y15 y16 y17 y18 y19 y20)))) (fun y10 y11 y12 y13 y14 y15 y16 => (E y10 y11 y12 y13 y14 y15 y16))) (wq17 k x0 x1 x2 x3 x4 (fun y10 y11 y12 y13 y14 y15 => (E1003 y10 y11 y12 y13 y14 y15))))
def wq1b (k : Nat) {R : Type}  : Nat → Int → Int → (List UInt8) → Int → (List dT93) → (List UInt8) → (Int → Int → (List UInt8) → Int → (List dT93) → Option R) → (Int → Int → (List UInt8) → Int → (List dT93) → Int → Int → Option R) → Option R
  | 0, _, _, _, _, _, _, _, _ => none
  | n + 1, s0, s1, s2, s3, s4, s5, K, E => wq5r k (fun s0 s1 s2 s3 s4 s5 => wq1b k  n s0 s1 s2 s3 s4 s5 K E) s0 s1 s2 s3 s4 s5 K E
theorem wqca (k : Nat) {R : Type} (I : Nat → St → Option R) (K : (Int → Int → (List UInt8) → Int → (List dT93) → Option R)) (E : (Int → Int → (List UInt8) → Int → (List dT93) → Int → Int → Option R)) (n : Nat) : ∀ (s0 s1 : Int) (s2 : (List UInt8)) (s3 : Int) (s4 : (List dT93)) (s5 : (List UInt8)), wq5q k I n (wq30 s0 s1 s2 s3 s4 s5) K E = wq1b k  n s0 s1 s2 s3 s4 s5 K E := by
  induction n with
  | zero => intros; rfl
  | succ n ih =>
    intro s0 s1 s2 s3 s4 s5
    refine (?_ : _ = _).trans ((wqc9 k (upI 1003 (fun s => wq5q k I n s K E) I) s0 s1 s2 s3 s4 s5 K E).trans ?_)
    · rfl
    · simp only [wq3x, ih] <;> rfl
def wq79 (k : Nat) {R : Type} (x0 x1 : Int) (x2 : (List UInt8)) (x3 : Int) (x4 : (List dT93)) (K : (Int → Int → (List UInt8) → Int → (List dT93) → Option R)) (E : (Int → Int → (List UInt8) → Int → (List dT93) → Int → Int → Option R)) : Option R := wqal k (fun s0 s1 s2 s3 s4 s5 => wq1b k k s0 s1 s2 s3 s4 s5 K E) x0 x1 x2 x3 x4 K E
theorem wqic (k : Nat) {R : Type} (x0 x1 : Int) (x2 : (List UInt8)) (x3 : Int) (x4 : (List dT93)) (K : (Int → Int → (List UInt8) → Int → (List dT93) → Option R)) (E : (Int → Int → (List UInt8) → Int → (List dT93) → Int → Int → Option R)) : fnW (wq9m k) k Tryd.f61 wq9l [.ptr 1 0] [(21, .row 94 kdT93 x4), (1, .var 102 [.v kI x0, .v kI x1, .v .str x2, .v kI x3, .row 21])] (wq4q K E) = wq79 k x0 x1 x2 x3 x4 K E := by
  refine Eq.trans (b := wqal k (fun s0 s1 s2 s3 s4 s5 => wq5q k (fun _ _ => none) k (wq30 s0 s1 s2 s3 s4 s5) K E) x0 x1 x2 x3 x4 K E) (by kernel_rfl) ?_
  simp only [wqca] <;> rfl
def wq5g (k : Nat) {R : Type} : List PV → List (Nm × HObj) → (Out → Option R) → Option R
  | [.ptr 1 0], [(21, .row 94 (.pr (.int .i64) (.pr (.int .i64) (.pr (.int .i64) (.pr .str .bool)))) x4), (1, .var 102 [.v (.int .i64) x0, .v (.int .i64) x1, .v .str x2, .v (.int .i64) x3, .row 21])], K => wq79 k x0 x1 x2 x3 x4 (fun y0 y1 y2 y3 y4 => K (.ret [] [(21, .row 94 (.pr (.int .i64) (.pr (.int .i64) (.pr (.int .i64) (.pr .str .bool)))) y4), (1, .var 102 [.v (.int .i64) y0, .v (.int .i64) y1, .v .str y2, .v (.int .i64) y3, .row 21])])) (fun z0 z1 z2 z3 z4 z5 z6 => K (.pan (.ifc 25 (.agg [.v (.int .i64) z5, .v (.int .i64) z6])) [(21, .row 94 (.pr (.int .i64) (.pr (.int .i64) (.pr (.int .i64) (.pr .str .bool)))) z4), (1, .var 102 [.v (.int .i64) z0, .v (.int .i64) z1, .v .str z2, .v (.int .i64) z3, .row 21])]))
  | _, _, _ => none
theorem wqmb (k : Nat) : DOK Tryd.prog 61 (wq5g k) := by
  intro ps hp R K r h
  have h : wq5g k ps hp K = some r := h
  unfold wq5g at h
  split at h
  · rw [← wqic] at h
    exact fnW_ok ⟨tyT_ok, (wq5 (wq3t k) (wq5 (wqlf k) (wq5 (wqqe k) (wq5 (wqc2 k) (wq5 (wqtq k) (wq5 (wqlg k) CTab.nil_ok)))))), fun _ _ => rfl⟩ mixed (by kernel_rfl) (by kernel_rfl) h fun o ho => by unfold wq4q at ho; split at ho <;> first | exact ho | cases ho
  · cases h
end Go.Proofs.YtmdmpogommehpaaDoor.Pvm
end


namespace Go.Proofs.YtmdmpogommehpaaDoor.Pvm
open Go Go.Proofs
def wquw : List LS := [.ag [.any, .any, .any]]
def wqtr (k : Nat) : CTab := (CTab.add 61 wqjq (wq5g k) CTab.nil)
def wqfa {R : Type} (K : ((List dT93) → Int → Int → Option R)) : Out → Option R
  | .ret [.v (.sl (.pr (.int .i64) (.pr (.int .i64) (.pr (.int .i64) (.pr .str .bool))))) y0, .agg [.v (.int .i64) y1, .v (.int .i64) y2]] [] => K y0 y1 y2
  | _ => none
def wqqg : RetSpec := ⟨[.sl (.pr (.int .i64) (.pr (.int .i64) (.pr (.int .i64) (.pr .str .bool)))), .ag [.any, .any]], [], []⟩
def wqse : List (Nat × CutSpec) := []
def wqqh : List (Nat × Plan) := []
def wqlh (k : Nat) : Ctx := ⟨tyT, wqse, wqtr k, [2, 3], [], wqqh, @SH⟩
def wq3m : Code := Tryd.f52.body.getD .skip
def wqbp (k : Nat) {R : Type} : PV → List PV → List (Nm × HObj) → (Out → Option R) → Option R
  | .nilif, [.ptr 1 0, .ptr 2 0], [(1, .var 88 [.v (.sl (.pr (.int .i64) (.pr (.int .i64) (.pr (.int .i64) (.pr .str .bool))))) x0]), (2, .var 25 [.v (.int .i64) x1, .v (.int .i64) x2])], K => wq7j k x0 x1 x2 (fun y0 y1 y2 => K (.ret [] [(1, .var 88 [.v (.sl (.pr (.int .i64) (.pr (.int .i64) (.pr (.int .i64) (.pr .str .bool))))) y0]), (2, .var 25 [.v (.int .i64) y1, .v (.int .i64) y2])]))
  | .ifc 25 (.agg [.v (.int .i64) x3, .v (.int .i64) x4]), [.ptr 1 0, .ptr 2 0], [(1, .var 88 [.v (.sl (.pr (.int .i64) (.pr (.int .i64) (.pr (.int .i64) (.pr .str .bool))))) x0]), (2, .var 25 [.v (.int .i64) x1, .v (.int .i64) x2])], K => wq7k k x0 x1 x2 x3 x4 (fun y0 y1 y2 => K (.ret [] [(1, .var 88 [.v (.sl (.pr (.int .i64) (.pr (.int .i64) (.pr (.int .i64) (.pr .str .bool))))) y0]), (2, .var 25 [.v (.int .i64) y1, .v (.int .i64) y2])]))
  | _, _, _, _ => none
def wqod (k : Nat) {R : Type}  (x0 x1 : Int) (x2 : (List UInt8)) (K : ((List dT93) → Int → Int → Option R)) : Option R := (wq79 k x0 x1 x2 0 [] (fun y6 y7 y8 y9 y10 => (wq7j k y10 0 0 (fun y11 y12 y13 => (K y11 y12 y13)))) (fun y6 y7 y8 y9 y10 y11 y12 => (wq7k k [] 0 0 y11 y12 (fun y13 y14 y15 => (K y13 y14 y15)))))
theorem wqsf (k : Nat) {R : Type} (I : Nat → St → Option R) (x0 x1 : Int) (x2 : (List UInt8)) (K : ((List dT93) → Int → Int → Option R)) : fnDK (wqlh k) k [300, 400] (at_ [0] wq3m) (opsAt (at_ [1, 0] wq3m)) (at_ [1, 1] wq3m) 16 [.cell 2 88, .cell 3 25] wqqg (wqbp k) wqj3 [(300, 0), (400, 0)] [.agg [.v (.int .i64) x0, .v (.int .i64) x1, .v .str x2]] [] (wqfa K) = wqod k  x0 x1 x2 K := by kernel_rfl
def wqgp (k : Nat) {R : Type} (x0 x1 : Int) (x2 : (List UInt8)) (K : ((List dT93) → Int → Int → Option R)) : Option R := wqod k  x0 x1 x2 K
theorem wqsg (k : Nat) {R : Type} (x0 x1 : Int) (x2 : (List UInt8)) (K : ((List dT93) → Int → Int → Option R)) : fnDK (wqlh k) k [300, 400] (at_ [0] wq3m) (opsAt (at_ [1, 0] wq3m)) (at_ [1, 1] wq3m) 16 [.cell 2 88, .cell 3 25] wqqg (wqbp k) wqj3 [(300, 0), (400, 0)] [.agg [.v (.int .i64) x0, .v (.int .i64) x1, .v .str x2]] [] (wqfa K) = wqgp k x0 x1 x2 K := by
  exact wqsf k (fun _ _ => none) x0 x1 x2 K
def wqid (k : Nat) {R : Type} : List PV → List (Nm × HObj) → (Out → Option R) → Option R
  | [.agg [.v (.int .i64) x0, .v (.int .i64) x1, .v .str x2]], [], K => wqgp k x0 x1 x2 (fun y0 y1 y2 => K (.ret [.v (.sl (.pr (.int .i64) (.pr (.int .i64) (.pr (.int .i64) (.pr .str .bool))))) y0, .agg [.v (.int .i64) y1, .v (.int .i64) y2]] []))
  | _, _, _ => none
theorem wqsh (k : Nat) : (wqtr k).Ok Tryd.prog := (wq5 (wqmb k) CTab.nil_ok)
theorem wqmc (k : Nat) {R : Type} (rec : PV) (ps : List PV) (hp : List (Nm × HObj)) (K : Out → Option R) (r : R) (h : wqbp k rec ps hp K = some r) : DoesToD Tryd.prog 60 rec ps hp fun out => K out = some r := by
  unfold wqbp at h
  split at h
  · exact wqoa k h
  · exact wqob k h
  · cases h
theorem wqyb (k : Nat) {ps : List PV} {hp : List (Nm × HObj)} {R : Type} {K : Out → Option R} {r : R} (h : wqid k ps hp K = some r) : DoesTo Tryd.prog 52 ps hp fun out => K out = some r := by
  unfold wqid at h
  split at h
  · rw [← wqsg] at h
    have := wq10f (P := Tryd.prog) (cx := wqlh k) (f := 52) ⟨tyT_ok, wqsh k, fun _ _ => rfl⟩ (by kernel_rfl) (fn := Tryd.f52) (id := 1) (pre := at_ [0] wq3m) (rest := at_ [1, 1] wq3m) (ops := opsAt (at_ [1, 0] wq3m)) (by kernel_rfl) (by kernel_rfl) (by kernel_rfl) (rs := [.cell 2 88, .cell 3 25]) (by kernel_rfl) (by kernel_rfl) (by kernel_rfl) (g := 60) (s := 5) (xs := [.tmp 2, .tmp 3]) (by kernel_rfl) (Invokes.of (fn := Tryd.f60) (by kernel_rfl) (c := Tryd.f60.body.getD .skip) (by kernel_rfl) (by kernel_rfl)) (wqmc k) h
    exact this.mono fun out ho => by
      unfold wqfa at ho
      split at ho <;> first | exact ho | cases ho
  · cases h
end Go.Proofs.YtmdmpogommehpaaDoor.Pvm
noncomputable section
namespace Go.Proofs.YtmdmpogommehpaaDoor.Pvm
open Go Go.Proofs
def wqmd : List LS := [.any, .any]
def wq6f {R : Type} (K : (Int → Bool → Option R)) : Out → Option R
  | .ret [.v (.int .i64) y0, .v .bool y1] [] => K y0 y1
  | _ => none
def wqbq : RetSpec := ⟨[.any, .any], [], []⟩
def wqbr (k : Nat) : Ctx := ⟨tyT, [(1003, ⟨[(0, .any), (6, .any), (7, .any)], []⟩)], .nil, [], [], [], @SH⟩
def wq4a (s0 : (List UInt8)) (s1 s2 : Int) : St := ⟨mkT [(0, .v .str s0), (6, .v (.int .u8) s1), (7, .v kI s2)], mkH []⟩
def wq6x (k : Nat) {R : Type} (I : Nat → St → Option R) (n : Nat) (s : St) (K : (Int → Bool → Option R)) : Option R := loopK (wqbr k) k Tryd.f58 wqbq 1003 [1, 1, 0, 1, 0] I n s (wq6f K)
def wq6y (k : Nat) {R : Type} (E1003 : ((List UInt8) → Int → Int → Option R)) (s0 : (List UInt8)) (s1 s2 : Int) (K : (Int → Bool → Option R)) : Option R := (cond (decide (s2 < (s0.length : Int))) (cond ((!((s1 == 34) == true)) || (inb s2 (s0.length : Int))) (cond (cond (s1 == 34) (((s0.getD s2.toNat 0).toNat : Int) == 92) false) (E1003 s0 s1 (@Go.IntKind.wrap Go.IntKind.i64 ((@Go.IntKind.wrap Go.IntKind.i64 (s2 + 1)) + 1))) (cond (inb s2 (s0.length : Int)) (cond (((s0.getD s2.toNat 0).toNat : Int) != s1) (E1003 s0 s1 (@Go.IntKind.wrap Go.IntKind.i64 (s2 + 1))) (cond ((!((cond (s1 == 39) (decide ((@Go.IntKind.wrap Go.IntKind.i64 (s2 + 1)) < (s0.length : Int))) false) == true)) || (inb (@Go.IntKind.wrap Go.IntKind.i64 (s2 + 1)) (s0.length : Int))) (cond (cond (cond (s1 == 39) (decide ((@Go.IntKind.wrap Go.IntKind.i64 (s2 + 1)) < (s0.length : Int))) false) (((s0.getD (@Go.IntKind.wrap Go.IntKind.i64 (s2 + 1)).toNat 0).toNat : Int) == s1) false) (E1003 s0 s1 (@Go.IntKind.wrap Go.IntKind.i64 ((@Go.IntKind.wrap Go.IntKind.i64 (s2 + 1)) + 1))) (K s2 true)) none)) none)) none) (K 0 false))
theorem wqdw (k : Nat) {R : Type} (I : Nat → St → Option R) (s0 : (List UInt8)) (s1 s2 : Int) (K : (Int → Bool → Option R)) : bodyK (wqbr k) k Tryd.f58 wqbq [1, 1, 0, 1, 0, 0] I (wq4a s0 s1 s2) (wq6f K) = wq6y k (fun s0 s1 s2 => I 1003 (wq4a s0 s1 s2)) s0 s1 s2 K := by kernel_rfl
def wqd0 (k : Nat) {R : Type} (E1003 : ((List UInt8) → Int → Int → Option R)) (x0 : (List UInt8)) (x1 : Int) (K : (Int → Bool → Option R)) : Option R := (cond (inb x1 (x0.length : Int)) (E1003 x0 ((x0.getD x1.toNat 0).toNat : Int) (@Go.IntKind.wrap Go.IntKind.i64 (x1 + 1))) none)
def wq38 (k : Nat) {R : Type}  : Nat → (List UInt8) → Int → Int → (Int → Bool → Option R) → Option R
  | 0, _, _, _, _ => none
  | n + 1, s0, s1, s2, K => wq6y k (fun s0 s1 s2 => wq38 k  n s0 s1 s2 K) s0 s1 s2 K
theorem wqdx (k : Nat) {R : Type} (I : Nat → St → Option R) (K : (Int → Bool → Option R)) (n : Nat) : ∀ (s0 : (List UInt8)) (s1 s2 : Int), wq6x k I n (wq4a s0 s1 s2) K = wq38 k  n s0 s1 s2 K := by
  induction n with
  | zero => intros; rfl
  | succ n ih =>
    intro s0 s1 s2
    refine (?_ : _ = _).trans ((wqdw k (upI 1003 (fun s => wq6x k I n s K) I) s0 s1 s2 K).trans ?_)
    · rfl
    · simp only [wq3x, ih] <;> rfl
def wq5w (k : Nat) {R : Type} (x0 : (List UInt8)) (x1 : Int) (K : (Int → Bool → Option R)) : Option R := wqd0 k (fun s0 s1 s2 => wq38 k k s0 s1 s2 K) x0 x1 K
theorem wqli (k : Nat) {R : Type} (x0 : (List UInt8)) (x1 : Int) (K : (Int → Bool → Option R)) : fnW (wqbr k) k Tryd.f58 wqbq [.v .str x0, .v kI x1] [] (wq6f K) = wq5w k x0 x1 K := by
  refine Eq.trans (b := wqd0 k (fun s0 s1 s2 => wq6x k (fun _ _ => none) k (wq4a s0 s1 s2) K) x0 x1 K) (by kernel_rfl) ?_
  simp only [wqdx] <;> rfl
def wq7a (k : Nat) {R : Type} : List PV → List (Nm × HObj) → (Out → Option R) → Option R
  | [.v .str x0, .v (.int .i64) x1], [], K => wq5w k x0 x1 (fun y0 y1 => K (.ret [.v (.int .i64) y0, .v .bool y1] []))
  | _, _, _ => none
theorem wqqi (k : Nat) : DOK Tryd.prog 58 (wq7a k) := by
  intro ps hp R K r h
  have h : wq7a k ps hp K = some r := h
  unfold wq7a at h
  split at h
  · rw [← wqli] at h
    exact fnW_ok ⟨tyT_ok, CTab.nil_ok, fun _ _ => rfl⟩ mixed (by kernel_rfl) (by kernel_rfl) h fun o ho => by unfold wq6f at ho; split at ho <;> first | exact ho | cases ho
  · cases h
end Go.Proofs.YtmdmpogommehpaaDoor.Pvm
end


noncomputable section
namespace Go.Proofs.YtmdmpogommehpaaDoor.Pvm
open Go Go.Proofs
def wqaz : List LS := [.any, .any]
def wq1d {R : Type} (K : ((List UInt8) → Option R)) : Out → Option R
  | .ret [.v .str y0] [] => K y0
  | _ => none
def wq3n : RetSpec := ⟨[.any], [], []⟩
def wq3o (k : Nat) : Ctx := ⟨tyT, [(1001, ⟨[(0, .any), (1, .any)], []⟩)], .nil, [], [], [], @SH⟩
def wq14 (s0 : (List UInt8)) (s1 : Int) : St := ⟨mkT [(0, .v .str s0), (1, .v (.int .u8) s1)], mkH []⟩
def wq23 (k : Nat) {R : Type} (I : Nat → St → Option R) (n : Nat) (s : St) (K : ((List UInt8) → Option R)) : Option R := loopK (wq3o k) k Tryd.f65 wq3n 1001 [1, 0, 0] I n s (wq1d K)
def wq24 (k : Nat) {R : Type} (E1001 : ((List UInt8) → Int → Option R)) (s0 : (List UInt8)) (s1 : Int) (K : ((List UInt8) → Option R)) : Option R := (cond ((!((decide ((s0.length : Int) > 0)) == true)) || (inb (@Go.IntKind.wrap Go.IntKind.i64 ((s0.length : Int) - 1)) (s0.length : Int))) (cond (cond (decide ((s0.length : Int) > 0)) (((s0.getD (@Go.IntKind.wrap Go.IntKind.i64 ((s0.length : Int) - 1)).toNat 0).toNat : Int) == s1) false) (cond (bnd 0 (@Go.IntKind.wrap Go.IntKind.i64 ((s0.length : Int) - 1)) (s0.length : Int)) (E1001 (cut s0 0 (@Go.IntKind.wrap Go.IntKind.i64 ((s0.length : Int) - 1))) s1) none) (K s0)) none)
theorem wq7o (k : Nat) {R : Type} (I : Nat → St → Option R) (s0 : (List UInt8)) (s1 : Int) (K : ((List UInt8) → Option R)) : bodyK (wq3o k) k Tryd.f65 wq3n [1, 0, 0, 0] I (wq14 s0 s1) (wq1d K) = wq24 k (fun s0 s1 => I 1001 (wq14 s0 s1)) s0 s1 K := by kernel_rfl
def wq40 (k : Nat) {R : Type} (E1001 : ((List UInt8) → Int → Option R)) (x0 : (List UInt8)) (x1 : Int) (K : ((List UInt8) → Option R)) : Option R := (E1001 x0 x1)
def wqr (k : Nat) {R : Type}  : Nat → (List UInt8) → Int → ((List UInt8) → Option R) → Option R
  | 0, _, _, _ => none
  | n + 1, s0, s1, K => wq24 k (fun s0 s1 => wqr k  n s0 s1 K) s0 s1 K
theorem wq7p (k : Nat) {R : Type} (I : Nat → St → Option R) (K : ((List UInt8) → Option R)) (n : Nat) : ∀ (s0 : (List UInt8)) (s1 : Int), wq23 k I n (wq14 s0 s1) K = wqr k  n s0 s1 K := by
  induction n with
  | zero => intros; rfl
  | succ n ih =>
    intro s0 s1
    refine (?_ : _ = _).trans ((wq7o k (upI 1001 (fun s => wq23 k I n s K) I) s0 s1 K).trans ?_)
    · rfl
    · simp only [wq3x, ih] <;> rfl
def wq28 (k : Nat) {R : Type} (x0 : (List UInt8)) (x1 : Int) (K : ((List UInt8) → Option R)) : Option R := wq40 k (fun s0 s1 => wqr k k s0 s1 K) x0 x1 K
theorem wqam (k : Nat) {R : Type} (x0 : (List UInt8)) (x1 : Int) (K : ((List UInt8) → Option R)) : fnW (wq3o k) k Tryd.f65 wq3n [.v .str x0, .v (.int .u8) x1] [] (wq1d K) = wq28 k x0 x1 K := by
  refine Eq.trans (b := wq40 k (fun s0 s1 => wq23 k (fun _ _ => none) k (wq14 s0 s1) K) x0 x1 K) (by kernel_rfl) ?_
  simp only [wq7p] <;> rfl
def wq1k (k : Nat) {R : Type} : List PV → List (Nm × HObj) → (Out → Option R) → Option R
  | [.v .str x0, .v (.int .u8) x1], [], K => wq28 k x0 x1 (fun y0 => K (.ret [.v .str y0] []))
  | _, _, _ => none
theorem wqcb (k : Nat) : DOK Tryd.prog 65 (wq1k k) := by
  intro ps hp R K r h
  have h : wq1k k ps hp K = some r := h
  unfold wq1k at h
  split at h
  · rw [← wqam] at h
    exact fnW_ok ⟨tyT_ok, CTab.nil_ok, fun _ _ => rfl⟩ mixed (by kernel_rfl) (by kernel_rfl) h fun o ho => by unfold wq1d at ho; split at ho <;> first | exact ho | cases ho
  · cases h
end Go.Proofs.YtmdmpogommehpaaDoor.Pvm
end


noncomputable section
namespace Go.Proofs.YtmdmpogommehpaaDoor.Pvm
open Go Go.Proofs
def wqdy : List LS := [.any, .any]
def wq7q {R : Type} (K : ((List UInt8) → Option R)) : Out → Option R
  | .ret [.v .str y0] [] => K y0
  | _ => none
def wqfb : RetSpec := ⟨[.any], [], []⟩
def wqfc (k : Nat) : Ctx := ⟨tyT, [], (.add 65 wqaz (wq1k k) .nil), [], [], [], @SH⟩
def wqa7 (k : Nat) {R : Type}  (x0 : (List UInt8)) (x1 : UInt8) (K : ((List UInt8) → Option R)) : Option R := (cond (cond (x0 == []) true ([x1] == [])) (K x0) (cond (cond ((@List.length UInt8 [x1] : Int) == 1) (decide (((([x1]).getD (Int.toNat 0) 0).toNat : Int) < 128)) false) (wq28 k x0 ((([x1]).getD (Int.toNat 0) 0).toNat : Int) (fun y5 => (K y5))) none))
def wq1l (k : Nat) {R : Type} (x0 : (List UInt8)) (x1 : UInt8) (K : ((List UInt8) → Option R)) : Option R := wqa7 k  x0 x1 K
theorem wqd1 (k : Nat) {R : Type} (x0 : (List UInt8)) (x1 : UInt8) (K : ((List UInt8) → Option R)) : fnW (wqfc k) k Tryd.f59 wqfb [.v .str x0, .v .str [x1]] [] (wq7q K) = wq1l k x0 x1 K := by
  kernel_rfl
def wq31 (k : Nat) {R : Type} : List PV → List (Nm × HObj) → (Out → Option R) → Option R
  | [.v .str x0, .v .str [x1]], [], K => wq1l k x0 x1 (fun y0 => K (.ret [.v .str y0] []))
  | _, _, _ => none
theorem wqgq (k : Nat) : DOK Tryd.prog 59 (wq31 k) := by
  intro ps hp R K r h
  have h : wq31 k ps hp K = some r := h
  unfold wq31 at h
  split at h
  · rw [← wqd1] at h
    exact fnW_ok ⟨tyT_ok, (wq5 (wqcb k) CTab.nil_ok), fun _ _ => rfl⟩ mixed (by kernel_rfl) (by kernel_rfl) h fun o ho => by unfold wq7q at ho; split at ho <;> first | exact ho | cases ho
  · cases h
end Go.Proofs.YtmdmpogommehpaaDoor.Pvm
end


noncomputable section
namespace Go.Proofs.YtmdmpogommehpaaDoor.Pvm
open Go Go.Proofs
def wqoe : List LS := [.any]
def wq7b {R : Type} (K : ((List UInt8) → Bool → Option R)) : Out → Option R
  | .ret [.v .str y0, .v .bool y1] [] => K y0 y1
  | _ => none
def wqd2 : RetSpec := ⟨[.any, .any], [], []⟩
def wqd3 (k : Nat) : Ctx := ⟨tyT, [(1003, ⟨[(0, .any), (4, .any), (5, .any)], []⟩)], (.add 58 wqmd (wq7a k) (.add 59 wqdy (wq31 k) .nil)), [], [], [], @SH⟩
def wq4r (s0 : (List UInt8)) (s1 s2 : Int) : St := ⟨mkT [(0, .v .str s0), (4, .v kI s1), (5, .v kI s2)], mkH []⟩
def wq80 (k : Nat) {R : Type} (I : Nat → St → Option R) (n : Nat) (s : St) (K : ((List UInt8) → Bool → Option R)) : Option R := loopK (wqd3 k) k Tryd.f51 wqd2 1003 [1, 0, 1, 1, 0, 1, 0] I n s (wq7b K)
def wq81 (k : Nat) {R : Type} (E1003 : ((List UInt8) → Int → Int → Option R)) (s0 : (List UInt8)) (s1 s2 : Int) (K : ((List UInt8) → Bool → Option R)) : Option R := (cond (decide (s2 < (s0.length : Int))) (cond ((!((decide (s2 > 0)) == true)) || (inb (@Go.IntKind.wrap Go.IntKind.i64 (s2 - 1)) (s0.length : Int))) (cond (cond (decide (s2 > 0)) (((s0.getD (@Go.IntKind.wrap Go.IntKind.i64 (s2 - 1)).toNat 0).toNat : Int) != 32) false) (E1003 s0 s1 (@Go.IntKind.wrap Go.IntKind.i64 (s2 + 1))) (cond (inb s2 (s0.length : Int)) (cond (((s0.getD s2.toNat 0).toNat : Int) == 35) (cond (bnd 0 s2 (s0.length : Int)) (wq1l k (cut s0 0 s2) 32 (fun y7 => (K y7 true))) none) (cond (((s0.getD s2.toNat 0).toNat : Int) == 39) (wq5w k s0 s2 (fun y7 y8 => (cond (!y8) (K [] false) (E1003 s0 s1 (@Go.IntKind.wrap Go.IntKind.i64 (y7 + 1)))))) (cond (((s0.getD s2.toNat 0).toNat : Int) == 34) (wq5w k s0 s2 (fun y7 y8 => (cond (!y8) (K [] false) (E1003 s0 s1 (@Go.IntKind.wrap Go.IntKind.i64 (y7 + 1)))))) (E1003 s0 s1 (@Go.IntKind.wrap Go.IntKind.i64 (s2 + 1)))))) none)) none) (cond (bnd 0 s1 (s0.length : Int)) (wq1l k (cut s0 0 s1) 32 (fun y7 => (K y7 true))) none))
theorem wqfd (k : Nat) {R : Type} (I : Nat → St → Option R) (s0 : (List UInt8)) (s1 s2 : Int) (K : ((List UInt8) → Bool → Option R)) : bodyK (wqd3 k) k Tryd.f51 wqd2 [1, 0, 1, 1, 0, 1, 0, 0] I (wq4r s0 s1 s2) (wq7b K) = wq81 k (fun s0 s1 s2 => I 1003 (wq4r s0 s1 s2)) s0 s1 s2 K := by kernel_rfl
def wqfe (k : Nat) {R : Type} (E1003 : ((List UInt8) → Int → Int → Option R)) (x0 : (List UInt8)) (K : ((List UInt8) → Bool → Option R)) : Option R := (E1003 x0 (x0.length : Int) 0)
def wq12 (k : Nat) {R : Type}  : Nat → (List UInt8) → Int → Int → ((List UInt8) → Bool → Option R) → Option R
  | 0, _, _, _, _ => none
  | n + 1, s0, s1, s2, K => wq81 k (fun s0 s1 s2 => wq12 k  n s0 s1 s2 K) s0 s1 s2 K
theorem wqff (k : Nat) {R : Type} (I : Nat → St → Option R) (K : ((List UInt8) → Bool → Option R)) (n : Nat) : ∀ (s0 : (List UInt8)) (s1 s2 : Int), wq80 k I n (wq4r s0 s1 s2) K = wq12 k  n s0 s1 s2 K := by
  induction n with
  | zero => intros; rfl
  | succ n ih =>
    intro s0 s1 s2
    refine (?_ : _ = _).trans ((wqfd k (upI 1003 (fun s => wq80 k I n s K) I) s0 s1 s2 K).trans ?_)
    · rfl
    · simp only [wq3x, ih] <;> rfl
def wq9n (k : Nat) {R : Type} (x0 : (List UInt8)) (K : ((List UInt8) → Bool → Option R)) : Option R := wqfe k (fun s0 s1 s2 => wq12 k k s0 s1 s2 K) x0 K
theorem wqme (k : Nat) {R : Type} (x0 : (List UInt8)) (K : ((List UInt8) → Bool → Option R)) : fnW (wqd3 k) k Tryd.f51 wqd2 [.v .str x0] [] (wq7b K) = wq9n k x0 K := by
  refine Eq.trans (b := wqfe k (fun s0 s1 s2 => wq80 k (fun _ _ => none) k (wq4r s0 s1 s2) K) x0 K) (by kernel_rfl) ?_
  simp only [wqff] <;> rfl
def wq8k (k : Nat) {R : Type} : List PV → List (Nm × HObj) → (Out → Option R) → Option R
  | [.v .str x0], [], K => wq9n k x0 (fun y0 y1 => K (.ret [.v .str y0, .v .bool y1] []))
  | _, _, _ => none
theorem wqsi (k : Nat) : DOK Tryd.prog 51 (wq8k k) := by
  intro ps hp R K r h
  have h : wq8k k ps hp K = some r := h
  unfold wq8k at h
  split at h
  · rw [← wqme] at h
    exact fnW_ok ⟨tyT_ok, (wq5 (wqqi k) (wq5 (wqgq k) CTab.nil_ok)), fun _ _ => rfl⟩ mixed (by kernel_rfl) (by kernel_rfl) h fun o ho => by unfold wq7b at ho; split at ho <;> first | exact ho | cases ho
  · cases h
end Go.Proofs.YtmdmpogommehpaaDoor.Pvm
end


noncomputable section
namespace Go.Proofs.YtmdmpogommehpaaDoor.Pvm
open Go Go.Proofs
def wqof : List LS := [.any]
def wq7c {R : Type} (K : (Bool → Option R)) : Out → Option R
  | .ret [.v .bool y0] [] => K y0
  | _ => none
def wqd4 : RetSpec := ⟨[.any], [], []⟩
def wqd5 (k : Nat) : Ctx := ⟨tyT, [(1002, ⟨[(0, .any), (9, .any), (10, .any)], []⟩)], (.add 51 wqoe (wq8k k) (.add 52 wquw (wqid k) .nil)), [], [], [], @SH⟩
def wq4s (s0 : (List UInt8)) (s1 s2 : Int) : St := ⟨mkT [(0, .v .str s0), (9, .v kI s1), (10, .v kI s2)], mkH []⟩
def wq82 (k : Nat) {R : Type} (I : Nat → St → Option R) (n : Nat) (s : St) (K : (Bool → Option R)) : Option R := loopK (wqd5 k) k Tryd.f47 wqd4 1002 [1, 0, 1, 0] I n s (wq7c K)
def wq5h (k : Nat) {R : Type} (E1002 : ((List UInt8) → Int → Int → Option R)) (s0 : (List UInt8)) (s1 s2 : Int) (K : (Bool → Option R)) : Option R := (cond (decide (s2 < s1)) (cond (inb s2 (s0.length : Int)) (cond ((!((decide (((s0.getD s2.toNat 0).toNat : Int) < 32)) == false)) || (inb s2 (s0.length : Int))) (cond (cond (decide (((s0.getD s2.toNat 0).toNat : Int) < 32)) true (((s0.getD s2.toNat 0).toNat : Int) == 127)) (K false) (E1002 s0 s1 (@Go.IntKind.wrap Go.IntKind.i64 (s2 + 1)))) none) none) (wq9n k s0 (fun y7 y8 => (cond (cond (cond (s0 == []) true (!y8)) true (!(y7 == s0))) (K false) (wqgp k 0 0 s0 (fun y9 y10 y11 => (cond ((!((cond (y10 == 0) ((y9.length : Int) == 1) false) == true)) || (inb 0 (y9.length : Int))) (cond ((!((cond (cond (y10 == 0) ((y9.length : Int) == 1) false) ((y9.getD (Int.toNat 0) (Kd.zero (@Kd.pr kI (@Kd.pr kI (@Kd.pr kI (@Kd.pr Kd.str Kd.bool)))))).1 == 3) false) == true)) || (inb 0 (y9.length : Int))) (cond ((!((cond (cond (cond (y10 == 0) ((y9.length : Int) == 1) false) ((y9.getD (Int.toNat 0) (Kd.zero (@Kd.pr kI (@Kd.pr kI (@Kd.pr kI (@Kd.pr Kd.str Kd.bool)))))).1 == 3) false) (((((y9.getD (Int.toNat 0) (Kd.zero (@Kd.pr kI (@Kd.pr kI (@Kd.pr kI (@Kd.pr Kd.str Kd.bool)))))).2).2).2).1 == s0) false) == true)) || (inb 0 (y9.length : Int))) (K (cond (cond (cond (cond (y10 == 0) ((y9.length : Int) == 1) false) ((y9.getD (Int.toNat 0) (Kd.zero (@Kd.pr kI (@Kd.pr kI (@Kd.pr kI (@Kd.pr Kd.str Kd.bool)))))).1 == 3) false) (((((y9.getD (Int.toNat 0) (Kd.zero (@Kd.pr kI (@Kd.pr kI (@Kd.pr kI (@Kd.pr Kd.str Kd.bool)))))).2).2).2).1 == s0) false) (!((((y9.getD (Int.toNat 0) (Kd.zero (@Kd.pr kI (@Kd.pr kI (@Kd.pr kI (@Kd.pr Kd.str Kd.bool)))))).2).2).2).2) false)) none) none) none)))))))
theorem wqfg (k : Nat) {R : Type} (I : Nat → St → Option R) (s0 : (List UInt8)) (s1 s2 : Int) (K : (Bool → Option R)) : bodyK (wqd5 k) k Tryd.f47 wqd4 [1, 0, 1, 0, 0] I (wq4s s0 s1 s2) (wq7c K) = wq5h k (fun s0 s1 s2 => I 1002 (wq4s s0 s1 s2)) s0 s1 s2 K := by kernel_rfl
def wqfh (k : Nat) {R : Type} (E1002 : ((List UInt8) → Int → Int → Option R)) (x0 : (List UInt8)) (K : (Bool → Option R)) : Option R := (E1002 x0 (x0.length : Int) 0)
def wq2e (k : Nat) {R : Type}  : Nat → (List UInt8) → Int → Int → (Bool → Option R) → Option R
  | 0, _, _, _, _ => none
  | n + 1, s0, s1, s2, K => wq5h k (fun s0 s1 s2 => wq2e k  n s0 s1 s2 K) s0 s1 s2 K
theorem wqfi (k : Nat) {R : Type} (I : Nat → St → Option R) (K : (Bool → Option R)) (n : Nat) : ∀ (s0 : (List UInt8)) (s1 s2 : Int), wq82 k I n (wq4s s0 s1 s2) K = wq2e k  n s0 s1 s2 K := by
  induction n with
  | zero => intros; rfl
  | succ n ih =>
    intro s0 s1 s2
    refine (?_ : _ = _).trans ((wqfg k (upI 1002 (fun s => wq82 k I n s K) I) s0 s1 s2 K).trans ?_)
    · rfl
    · simp only [wq3x, ih] <;> rfl
def wq9o (k : Nat) {R : Type} (x0 : (List UInt8)) (K : (Bool → Option R)) : Option R := wqfh k (fun s0 s1 s2 => wq2e k k s0 s1 s2 K) x0 K
theorem wqmf (k : Nat) {R : Type} (x0 : (List UInt8)) (K : (Bool → Option R)) : fnW (wqd5 k) k Tryd.f47 wqd4 [.v .str x0] [] (wq7c K) = wq9o k x0 K := by
  refine Eq.trans (b := wqfh k (fun s0 s1 s2 => wq82 k (fun _ _ => none) k (wq4s s0 s1 s2) K) x0 K) (by kernel_rfl) ?_
  simp only [wqfi] <;> rfl
def wq8l (k : Nat) {R : Type} : List PV → List (Nm × HObj) → (Out → Option R) → Option R
  | [.v .str x0], [], K => wq9o k x0 (fun y0 => K (.ret [.v .bool y0] []))
  | _, _, _ => none
theorem wqsj (k : Nat) : DOK Tryd.prog 47 (wq8l k) := by
  intro ps hp R K r h
  have h : wq8l k ps hp K = some r := h
  unfold wq8l at h
  split at h
  · rw [← wqmf] at h
    exact fnW_ok ⟨tyT_ok, (wq5 (wqsi k) (CTab.add_ok (fun h => wqyb k h) CTab.nil_ok)), fun _ _ => rfl⟩ mixed (by kernel_rfl) (by kernel_rfl) h fun o ho => by unfold wq7c at ho; split at ho <;> first | exact ho | cases ho
  · cases h
end Go.Proofs.YtmdmpogommehpaaDoor.Pvm
end


noncomputable section
namespace Go.Proofs.YtmdmpogommehpaaDoor.Pvm
open Go Go.Proofs
def wqsk : List LS := [.ag [.any, .any, .any, .any, .sl .str, .sl kI]]
def wqj7 {R : Type} (K : (Bool → Option R)) : Out → Option R
  | .ret [.v .bool y0] [] => K y0
  | _ => none
def wqux : RetSpec := ⟨[.any], [], []⟩
def wquy (k : Nat) : Ctx := ⟨tyT, [], (.add 47 wqof (wq8l k) (.add 48 wqo9 (wq8i k) .nil)), [], [], [], @SH⟩
def wqqj (k : Nat) {R : Type}  (x0 x1 : Int) (x2 : (List UInt8)) (x3 : Bool) (x4 : (List (List UInt8))) (x5 : (List Int)) (K : (Bool → Option R)) : Option R := (cond (x0 == 1) (cond ((cond (cond ((x4.length : Int) == 0) ((x5.length : Int) == 0) false) (decide ((x2.length : Int) ≤ 200)) false) == true) (cond (x3 == false) (wq9o k x2 (fun y9 => (K y9))) (K true)) (K false)) (cond (x0 == 2) (K (cond (cond (cond (x2 == []) (!x3) false) ((x4.length : Int) == 0) false) (decide ((x5.length : Int) > 0)) false)) (cond (x0 == 3) (cond ((cond (cond (cond (x2 == []) (!x3) false) (decide ((x5.length : Int) > 0)) false) ((x4.length : Int) == (x5.length : Int)) false) == true) (wq9b k x4 (fun y9 => (K y9))) (K false)) (K false))))
def wqd6 (k : Nat) {R : Type} (x0 x1 : Int) (x2 : (List UInt8)) (x3 : Bool) (x4 : (List (List UInt8))) (x5 : (List Int)) (K : (Bool → Option R)) : Option R := wqqj k  x0 x1 x2 x3 x4 x5 K
theorem wqqk (k : Nat) {R : Type} (x0 x1 : Int) (x2 : (List UInt8)) (x3 : Bool) (x4 : (List (List UInt8))) (x5 : (List Int)) (K : (Bool → Option R)) : fnW (wquy k) k Tryd.f43 wqux [.agg [.v kI x0, .v kI x1, .v .str x2, .v .bool x3, .v (.sl .str) x4, .v (.sl kI) x5]] [] (wqj7 K) = wqd6 k x0 x1 x2 x3 x4 x5 K := by
  kernel_rfl
def wqbs (k : Nat) {R : Type} : List PV → List (Nm × HObj) → (Out → Option R) → Option R
  | [.agg [.v (.int .i64) x0, .v (.int .i64) x1, .v .str x2, .v .bool x3, .v (.sl .str) x4, .v (.sl (.int .i64)) x5]], [], K => wqd6 k x0 x1 x2 x3 x4 x5 (fun y0 => K (.ret [.v .bool y0] []))
  | _, _, _ => none
theorem wqx0 (k : Nat) : DOK Tryd.prog 43 (wqbs k) := by
  intro ps hp R K r h
  have h : wqbs k ps hp K = some r := h
  unfold wqbs at h
  split at h
  · rw [← wqqk] at h
    exact fnW_ok ⟨tyT_ok, (wq5 (wqsj k) (wq5 (wqsa k) CTab.nil_ok)), fun _ _ => rfl⟩ mixed (by kernel_rfl) (by kernel_rfl) h fun o ho => by unfold wqj7 at ho; split at ho <;> first | exact ho | cases ho
  · cases h
end Go.Proofs.YtmdmpogommehpaaDoor.Pvm
end


end
