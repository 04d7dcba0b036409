/- For every text, quoted or not, least and most the Go function FieldTexts of turncocklaw14 returns true. -/
import Derived.LoopN
import Derived.Scope
import Derived.Recover
import Derived.WalkKit
import Derived.ProofKit
import Derived.OpenShut
import Derived.ShutString
import Derived.ChangeOld
import Derived.Below
import Derived.SizedLaws
import Derived.ChangeArms
import Derived.Test.YtbjkpddloieekaaGreatDoorProg
import Derived.KernelRfl
import Derived.Test.YtbjkpddloieekaaGreatDoorChecked
import Derived.WalkSpells
import Derived.WalkLawsBesides
import Derived.Lib.Builder
import Derived.Lib.AppendStr
import Derived.Lib.UnsafeStr
import Derived.Laws.Externs
import Derived.Shelf.RegionOpenPlain
import Derived.Deep.Heap
import Derived.Lib.BytesEntry
import Derived.Test.YtbjkpddloieekaaGreatDoorFieldTextsM0
import Derived.Test.YtbjkpddloieekaaGreatDoorFieldTextsM1
set_option linter.unusedVariables false
set_option linter.unusedSimpArgs false
set_option linter.unusedSectionVars false
noncomputable section
namespace Go.Proofs.YtbjkpddloieekaaGreatDoor.Pvm
open Go
structure RetSpec where
 res:List LS
 objs:List (Nm×LS)
 pan:List (Nm×LS)
def resP(ty:TypeId→Option TI)(st:St): List ResultVar→Option (List PV)
 |[]=>some []
 |.tmp t::r=>match resP ty st r with
  |some l=>some (useO [] (st.t t)::l)
  |none=>none
 |.cell a t::r=>match ty t with
  |some ti=>match evLoad ti st.h (useO [] (st.t a))with
   |some ev=>match resP ty st r with
    |some l=>some (ev.val::l)
    |none=>none
   |none=>none
  |none=>none
def endK(cx:Ctx){R:Type}(objs:List (Nm×LS))(res:List LS)(ps:List PV)(st:St)(K:List PV→List (Nm×HObj)→Option R): Option R :=
 match normObjs st.h ⟨[],[],[]⟩ objs with
 |none=>none
 |some na1=>match normPs st.h na1 res ps with
  |none=>none
  |some (qs,na)=>bif fine na&&stay na.nm cx.pv then K qs na.hp else none
def retK(cx:Ctx){R:Type}(sp:RetSpec)(rs:List ResultVar)(st:St)(K:Out→Option R): Option R :=
 match resP cx.ty st rs with
 |none=>none
 |some ps=>endK cx sp.objs sp.res ps st fun qs hs=>K (.ret qs hs)
def panK(cx:Ctx){R:Type}(sp:RetSpec)(p:PV)(st:St)(K:Out→Option R): Option R :=
 endK cx sp.pan [.any] [p] st fun qs hs=>match qs with
  |[q]=>K (.pan q hs)
  |_=>none
def varsIn(pv:List Nm): List (Nm×HObj)→Bool
 |[]=>true
 |(n,.var _ _)::r=>isIn n pv&&varsIn pv r
 |(_,.mp _ _ _)::_=>false
 |_::r=>varsIn pv r
def argsT(args:List PV): Nat→PV:=fun i=>args.getD i .un
def outK(cx:Ctx){R:Type}(sp:RetSpec)(rs:List ResultVar)(K:Out→Option R): Ex→St→Option R:=fun e st=>match e with
 |.normal=>retK cx sp rs st K
 |.ret=>retK cx sp rs st K
 |.panic p=>panK cx sp p st K
 |.exit _=>none
def fnK(cx:Ctx)(k:Nat){R:Type}(c:Code)(n:Nat)(rs:List ResultVar)(sp:RetSpec)(args:List PV)(hp:List (Nm×HObj))(K:Out→Option R): Option R :=
 bif varsIn cx.pv hp&&Nat.ble args.length n then execK cx k c ⟨argsT args,mkH hp⟩ (outK cx sp rs K)else none
section
variable {P:Program} {w0:World} {fr:Nat→Prop} {X0:Org} {n:Nat} {ds:List Deferred} {st:St} {G:Gh} {a:Act} {w:World}
def resF(tmps:Array Value): ResultVar→Sem Value
 |.tmp t=>pure (tmps.getD t undef)
 |.cell x t=>do loadVar t (←asAddr (tmps.getD x undef))
theorem wq1dh(fn:Func)(tmps:Array Value): results fn tmps=(fn.results.mapM (resF tmps) >>= fun vs=>pure (if h:vs.size=1 then vs[0]else .tuple vs)):=by
 unfold results
 have:(fun r:ResultVar=>match r with
  |.tmp t=>(pure (tmps.getD t undef):Sem Value)
  |.cell a t=>do loadVar t (←asAddr (tmps.getD a undef)))=resF tmps:=by
  funext r;cases r<;>rfl
 rw[←this]
 rfl
theorem wq14p{cx:Ctx}(X:cx.Ok P)(R:Rel w0 fr X0 n ds st G a w): ∀(rs:List ResultVar) {ps:List PV},resP cx.ty st rs=some ps →
 ∃ vs:List Value,RVs st.h G w ps vs∧(rs.mapM (resF a.tmps)).run P w = .ok vs w
 |[],ps,he=>by cases he;exact⟨[],rfl,rfl⟩
 |.tmp t::r,ps,he=>by
  rw[resP]at he
  split at he
  ·next l hl =>
   cases he
   obtain⟨vs,h1,h2⟩:=wq14p X R r hl
   refine⟨tmOf a t::vs,⟨_,_,rfl,R.use noTags (.tmp t),h1⟩,?_⟩
   rw[List.mapM_cons]
   simp only[Sem.run_bind,resF,Sem.run_pure,Result.andThen_ok]
   rw[h2]
   rfl
  ·cases he
 |.cell x t::r,ps,he=>by
  rw[resP]at he
  split at he
  ·next ti hti =>
   split at he
   ·next ev hev =>
    split at he
    ·next l hl =>
     cases he
     obtain⟨vs,h1,h2⟩:=wq14p X R r hl
     obtain⟨u,e1,e2,_⟩:=wq11q (P:=P) X.ty hti R.obj hev (R.use noTags (.tmp x))
     refine⟨u::vs,⟨_,_,rfl,e2,h1⟩,?_⟩
     have hld:(resF a.tmps (.cell x t)).run P w = .ok u w:=by
      have e3:(Instr.loadAt t (a.tmps.getD x undef)).run P w = .ok u w:=e1
      unfold Instr.loadAt Instr.sureAddr at e3
      show(do loadVar t (←asAddr (a.tmps.getD x undef))).run P w=_
      split at e3
      ·next A hA =>
       rw[hA]
       exact e3
      ·simp[stuck,Sem.run]at e3
     rw[List.mapM_cons,Sem.run_bind,hld,Result.andThen_ok,Sem.run_bind,h2]
     rfl
    ·cases he
   ·cases he
  ·cases he
theorem wqs6{fn:Func}{rs:List ResultVar}(hrs:fn.results.toList=rs){tmps:Array Value}{vs:List Value}(h:(rs.mapM (resF tmps)).run P w = .ok vs w):
 (results fn tmps).run P w = .ok (if h:vs.toArray.size=1 then vs.toArray[0]else .tuple vs.toArray) w:=by
 rw[wq1dh,Sem.run_bind,Array.mapM_eq_mapM_toList,Sem.run_map,hrs,h]
 rfl
theorem tup_ok{ps:List PV}{vs:List Value}{h:Heap}(hr:RVs h G w ps vs): RV h G w (tupOf ps) (if h:vs.toArray.size=1 then vs.toArray[0]else .tuple vs.toArray):=by
 cases ps with
 |nil=>cases hr;exact⟨[],rfl,rfl⟩
 |cons p r =>
  obtain⟨v,l,rfl,hv,hl⟩:=hr
  cases r with
  |nil=>cases hl;exact hv
  |cons q r =>
   obtain⟨u,l',rfl,hu,hl'⟩:=hl
   have:¬ ((v::u::l').toArray.size=1):=by simp
   rw[dif_neg this]
   exact⟨_,rfl,v,_,rfl,hv,u,_,rfl,hu,hl'⟩
def frOf(hp:List (Nm×HObj))(G:Gh)(w:World)(b:Nat): Prop:=b<w.heap.size∧freeB (mkH hp) G b
def varsL(G:Gh): List (Nm×HObj)→List (Nm×TypeId×Nat)
 |[]=>[]
 |(n,.var t _)::r=>(n,t,G.bk n)::varsL G r
 |_::r=>varsL G r
def orgOf(hp:List (Nm×HObj))(G:Gh): Org:=⟨G.X,(varsL G hp).filter fun x=>match look hp x.1 with|some (.var t _)=>Nat.beq t x.2.1|_=>false⟩
theorem wqpg:∀ {hp:List (Nm×HObj)} {x},x∈varsL G hp→x.2.2=G.bk x.1
 |[],x,h=>by cases h
 |(n,.var t cs)::r,x,h=>by
  rw[varsL]at h
  rcases List.mem_cons.1 h with rfl|h
  ·rfl
  ·exact wqpg h
 |(n,.row e K xs)::r,x,h=>wqpg (hp:=r) (by simpa [varsL]using h)
 |(n,.mp ag V es)::r,x,h=>wqpg (hp:=r) (by simpa [varsL]using h)
theorem wqvw:∀ {hp:List (Nm×HObj)} {n:Nm} {t:TypeId} {cs:List PV},(n,.var t cs)∈hp→(n,t,G.bk n)∈varsL G hp
 |(m,.var t' cs')::r,n,t,cs,h=>by
  rw[varsL]
  rcases List.mem_cons.1 h with e|h
  ·cases e;exact List.mem_cons_self
  ·exact List.mem_cons_of_mem _ (wqvw h)
 |(m,.row e K xs)::r,n,t,cs,h=>by
  rcases List.mem_cons.1 h with e|h
  ·cases e
  ·show _∈varsL G r
   exact wqvw h
 |(m,.mp ag V es)::r,n,t,cs,h=>by
  rcases List.mem_cons.1 h with e|h
  ·cases e
  ·show _∈varsL G r
   exact wqvw h
 |[],n,t,cs,h=>by cases h
theorem wq125{pv:List Nm}: ∀ {hp:List (Nm×HObj)} {n:Nm} {ag:MK} {V:Kd} {es:List (List UInt8×V.T)},varsIn pv hp=true→(n,.mp ag V es)∈hp→False
 |[],_,_,_,_,_,h=>by cases h
 |(m,.var t cs)::r,n,ag,V,es,hv,h=>by
  simp only[varsIn,Bool.and_eq_true]at hv
  rcases List.mem_cons.1 h with e|h
  ·cases e
  ·exact wq125 hv.2 h
 |(m,.row e K xs)::r,n,ag,V,es,hv,h=>by
  rcases List.mem_cons.1 h with e|h
  ·cases e
  ·exact wq125 (hp:=r) hv h
 |(m,.mp ag' V' es')::r,n,ag,V,es,hv,h=>by simp[varsIn]at hv
theorem wqs7{pv:List Nm}: ∀ {hp:List (Nm×HObj)},varsIn pv hp=true→∀ x∈varsL G hp,x.1∈pv
 |[],_,x,hx=>by cases hx
 |(n,.var t cs)::r,h,x,hx=>by
  simp only[varsIn,Bool.and_eq_true]at h
  rw[varsL]at hx
  rcases List.mem_cons.1 hx with rfl|hx
  ·exact wq3s.1 h.1
  ·exact wqs7 h.2 x hx
 |(n,.row e K xs)::r,h,x,hx=>wqs7 (hp:=r) (by simpa [varsIn]using h) x (by simpa [varsL]using hx)
 |(n,.mp ag V es)::r,h,x,hx=>by simp[varsIn]at h
theorem wq1gh{h:Heap}: ∀ {args:List PV} {vals:List Value},RVs h G w args vals→∀ i,RV h G w (argsT args i) ((vals.toArray++Array.replicate (n-vals.toArray.size) undef).getD i undef):=by
 intro args vals hr i
 have hl:=hr.length
 unfold argsT
 by_cases hi:i<args.length
 ·obtain⟨v,hv,hp⟩:=hr.get i args[i] (by simp[hi])
  have h1:args.getD i .un=args[i]:=by simp[List.getD,hi]
  rw[h1]
  have h2:(vals.toArray++Array.replicate (n-vals.toArray.size) undef).getD i undef=v:=by
   rw[Array.getD_eq_getD_getElem?,Array.getElem?_append_left (by simp;omega)]
   simp[hv]
  rw[h2];exact hp
 ·have h1:args.getD i .un = .un:=by simp[List.getD,Nat.le_of_not_lt hi]
  rw[h1];trivial
theorem Rel.start{hp:List (Nm×HObj)}{args:List PV}{vals:List Value}(hr:RVs (mkH hp) G w args vals)(obj:∀ n o,mkH hp n=some o→RO (mkH hp) G w n o)(dis:Dis (mkH hp) G w)(hn:args.length≤n):
 Rel w (frOf hp G w) (orgOf hp G) n [] ⟨argsT args,mkH hp⟩ G { tmps:=vals.toArray++Array.replicate (n-vals.toArray.size) undef,defers:=[] } w:=by
 refine⟨fun i=>wqg7 (wq1gh hr i),?_,obj,dis.inj,fun m b hb hf=>hf.2 m hb,fun b hb=>⟨dis.xlt b hb,fun m hm=>dis.xo m b hm hb⟩,rfl,fun x hx => ?_,fun _ _=>rfl,Nat.le_refl _,rfl,rfl,rfl,rfl⟩
 ·have:=hr.length
  simp;omega
 ·obtain⟨h1,h2⟩:=List.mem_filter.1 hx
  refine⟨?_,(wqpg h1).symm⟩
  show ∃ cs,look hp x.1=_
  split at h2
  ·next t cs hl=>rw[beqN.1 h2]at hl;exact⟨cs,hl⟩
  ·cases h2
theorem wq14q {cx:Ctx} {hp:List (Nm×HObj)} {G0:Gh} (R:Rel w0 (frOf hp G0 w0) (orgOf hp G0) n ds st G a w) (hv:varsIn cx.pv hp=true) {R0:Type} {objs:List (Nm×LS)} {res:List LS} {ps:List PV} {K:List PV→List (Nm×HObj)→Option R0} {r:R0} {vs:List Value}
 (hr:RVs st.h G w ps vs) (he:endK cx objs res ps st K=some r) :
 ∃ qs hs G',K qs hs=some r∧RVs (mkH hs) G' w qs vs∧Fin hp hs G0 w0 G' w:=by
 have hf:∀ b,frOf hp G0 w0 b→b<w0.heap.size:=fun b hb=>hb.1
 unfold endK at he
 split at he
 ·cases he
 ·next na1 h1 =>
  split at he
  ·cases he
  ·next qs na h2 =>
   cases hfi:(fine na&&stay na.nm cx.pv)with
   |false=>rw[hfi]at he;cases he
   |true =>
    rw[hfi,cond_true]at he
    simp only[Bool.and_eq_true]at hfi
    obtain⟨hfi,hst⟩:=hfi
    have F0:Found st.h ⟨[],[],[]⟩:=⟨fun k o hk=>(by cases hk),fun m hm=>(by cases hm)⟩
    obtain⟨F1,L1⟩:=wqco _ _ h1 F0
    obtain⟨F2,L2⟩:=normPs_found _ _ _ h2 F1
    have S:Sub st.h G w na:=⟨wqvu hfi,F2,R.obj,R.toDis hf⟩
    have hO:=Sub.normObjs S _ _ h1 L2 F0
    obtain⟨hS,hO2⟩:=Sub.norms S _ _ _ h2 (.refl na) F1 hr
    have hobj:∀ k o,mkH na.hp k=some o→RO (mkH na.hp) (subG G na (subX st.h G na)) w k o:=fun k o hk=>by
     rcases hO2 (k,o) (wqq hk)with h|h
     ·rcases hO _ h with h|h
      ·cases h
      ·exact h
     ·exact h
    let G1:=subG G na (subX st.h G na)
    let G2:Gh:={ G1 with X:=G.X }
    have ok:∀ b,okB (mkH na.hp) G1 b→okB (mkH na.hp) G2 b:=fun b hb=>⟨hb.1,fun hx=>hb.2 (.inl hx)⟩
    have C:Carry (mkH na.hp) G1 w (mkH na.hp) G2 w .row :=
     ⟨fun b ho _=>⟨ok b ho,rfl⟩,fun n t cs hn=>⟨⟨cs,hn⟩,rfl⟩,fun n ag V es hn=>⟨⟨es,hn⟩,rfl⟩,fun n e K xs hn=>⟨⟨rfl,e,K,xs,hn⟩,fun m hm=>by cases hm;exact⟨e,xs,hn,Nat.le_refl _⟩⟩⟩
    have hRVs:RVs (mkH na.hp) G2 w qs vs:=by
     have:=RVs.carry C _ _ hS
     have e:∀ l:List PV,mapRs .row l=l:=by
      intro l
      induction l with
      |nil=>rfl
      |cons p r ih=>rw[mapRs,ih,PV.mapR_row]
     rwa [e]at this
    have hpv:∀ x∈(orgOf hp G0).vs,x.1∈cx.pv:=fun x hx=>wqs7 hv x (List.mem_filter.1 hx).1
    refine⟨qs,na.hp,G2,he,hRVs,⟨fun k o hk => ?_,fun k m b h1 h2=>S.toDis.inj k m b h1 h2,fun m t cs hm o ho => ?_,fun m ag V es hm o ho=>(wq125 hv (wqq hm)).elim,fun b hb hfree=>R.ext b ⟨hb,hfree⟩,R.xeq,fun k b hb => ?_,R.grow,R.os,R.tape,R.out⟩⟩
    ·have:=RO.carry C hk (hobj k o hk) (fun b _=>rfl) rfl rfl
     rwa [wqg8]at this
    ·have hmem:(m,t,G0.bk m)∈(orgOf hp G0).vs:=List.mem_filter.2 ⟨wqvw (wqq hm),by simp[hm]⟩
     obtain⟨⟨cs',h1⟩,h2⟩:=wq1df (X:=G.X) R S hst hpv _ hmem
     have h1:look na.hp m=some (.var t cs'):=h1
     rw[ho]at h1
     exact⟨⟨cs',by simpa using h1⟩,h2⟩
    ·obtain⟨m,_,hm⟩:=S.blk k b hb
     have:=R.apart m b hm
     by_cases hlt:b<w0.heap.size
     ·refine .inl (Classical.byContradiction fun hno=>this ⟨hlt,fun m hm=>hno ⟨m,hm⟩⟩)
     ·exact .inr (Nat.le_of_not_lt hlt)
theorem fn_ok {cx:Ctx} (X:cx.Ok P) (hm:P.follows .mixedOrders=true) {f:FuncId} {fn:Func} {c:Code} (hfn:P.funcs[f]? = some fn) (hb:fn.body=some c) (hname:(fn.name == "runtime.NumGoroutine")=false) {rs:List ResultVar} (hrs:fn.results.toList=rs) (hco:codeOk fn.ntmps c=true)
 {k:Nat} {R0:Type} {sp:RetSpec} {args:List PV} {hp:List (Nm×HObj)} {K:Out→Option R0} {r:R0} (he:fnK cx k c fn.ntmps rs sp args hp K=some r):DoesTo P f args hp fun out=>K out=some r:=by
 intro G w vals hr obj dis
 unfold fnK at he
 cases hc1:(varsIn cx.pv hp&&Nat.ble args.length fn.ntmps)with
 |false=>rw[hc1]at he;cases he
 |true =>
  rw[hc1,cond_true]at he
  simp only[Bool.and_eq_true]at hc1
  have hrun:(callFunc f vals.toArray).run P w = .ok (.enter f vals.toArray) w:=by
   have hn2:¬ fn.name = "runtime.NumGoroutine" := by simpa using hname
   simp[callFunc,program,Sem.run,hfn,hn2,hb]
  unfold Does
  rw[hrun]
  have R:=Rel.start hr obj dis (Nat.le_of_ble_eq_true hc1.2)
  have hf:∀ b,frOf hp G w b→b<w.heap.size:=fun b hb=>hb.1
  have hpv:∀ x∈(orgOf hp G).vs,x.1∈cx.pv:=fun x hx=>wqs7 hc1.1 x (List.mem_filter.1 hx).1
  have hret:∀ {st:St} {G':Gh} {a:Act} {w':World},retK cx sp rs st K=some r→Rel w (frOf hp G w) (orgOf hp G) fn.ntmps [] st G' a w'→∃ v,(results fn a.tmps).run P w' = .ok v w'∧∃ out,K out=some r∧∃ G'',OutIs G'' w' (.returned v) out∧Fin hp out.hs G w G'' w':=by
   intro st G' a w' he R
   unfold retK at he
   split at he
   ·cases he
   ·next ps hps =>
    obtain⟨vs,h1,h2⟩:=wq14p X R rs hps
    obtain⟨qs,hs,G'',h3,h4,h5⟩:=wq14q R hc1.1 h1 he
    exact⟨_,wqs6 hrs h2,.ret qs hs,h3,G'',⟨_,rfl,tup_ok h4⟩,h5⟩
  refine calls_of_wp hfn hb (wp_mono (wq8l X hpv hm k hf c hco he R) fun e a w' h => ?_)
  cases e with
  |normal =>
   obtain⟨st,G',h1,h2⟩:=h
   obtain⟨v,h3,h4⟩:=hret h1 h2
   exact⟨h2.defers,v,h3,h4⟩
  |ret =>
   obtain⟨st,G',h1,h2⟩:=h
   obtain⟨v,h3,h4⟩:=hret h1 h2
   exact⟨h2.defers,v,h3,h4⟩
  |panic ch =>
   obtain⟨st,G',a0,p,v,rfl,h1,h2,h3,h4,_⟩:=h
   refine⟨h4.trans h2.defers,?_⟩
   simp only[outK]at h1
   unfold panK at h1
   obtain⟨qs,hs,G'',h5,h6,h7⟩:=wq14q h2 hc1.1 (ps:=[p]) (vs:=[v]) ⟨v,[],rfl,h3,rfl⟩ h1
   split at h5
   ·next q =>
    obtain⟨u,l,hu,h8,h9⟩:=h6
    cases hu
    exact⟨.pan q hs,h5,G'',⟨v,rfl,h8⟩,h7⟩
   ·cases h5
  |exit i=>obtain⟨st,G',h1,h2⟩:=h;cases h1
  |goto l=>exact h
  |outgrown=>exact h.elim
end
end Go.Proofs.YtbjkpddloieekaaGreatDoor.Pvm
namespace Go.Proofs.YtbjkpddloieekaaGreatDoor.Pvm
open Go
variable {P:Program}
def zcells:Kd→List Value
 |.int k=>[.int k 0]
 |.bool=>[.bool false]
 |.str=>[.string ⟨#[]⟩]
 |.flt=>[.float .f64 0]
 |.nil=>[]
 |.sl _=>[.slice none 0 0]
 |.pr a b=>zcells a++zcells b
theorem wq126{w:World}{ok:Nat→Prop}: ∀ K:Kd,RD w ok K K.zero (zcells K)
 |.int _=>rfl
 |.bool=>rfl
 |.str=>rfl
 |.flt=>rfl
 |.nil=>rfl
 |.sl _=>⟨none,0,rfl,Nat.le_refl _,.inl rfl⟩
 |.pr a b=>⟨_,_,rfl,wq126 a,wq126 b⟩
def kdB(ti:TI)(z:List Value): Prop :=
 match ti.kd with
 |none=>True
 |some K=>(decide (0<K.sz)&&decide (K.sz=ti.size))=true∧z=zcells K
def wq1fn(P:Program)(fs:Array Field): Bool:=(fs.toList.mapM (fun f=>(P.info? f.type).map fun i=>(f.offset,i.size))).isSome
theorem TiOk.of {t:TypeId} {ti:TI} {z:Value} {d:TypeDesc} (hi:(P.info? t).map (fun i=>(i.size,i.bytes,i.zero))=some (ti.size,ti.bytes,some z)) (hz:z.cells.toList.map cv=ti.zero) (hs:z.cells.size=ti.size)
 (hk:kdB ti z.cells.toList) (hsh:match ti.k with | .struct=>∃ cs,z = .agg cs | .int k=>z = .int k 0|_=>z.cells = #[z])
 (hm:match ti.k with
  |.int k=>d = .int k
  |.bool=>d = .bool
  |.str=>d = .string
  |.flt=>d = .float .f64
  |.slice=>d = .slice ti.el
  |.ptr=>d = .pointer ti.el
  |.struct=>∃ fs,d = .struct fs∧fs.toList.map (fun f=>(f.offset,f.type))=ti.fs∧wq1fn P fs=true
  |.iface=>∃ ms,d = .interface ms
  |.map=>∃ kt,d = .map kt ti.el∧P.underlying kt=some .string
  |.other=>(match d with | .struct _ | .array _ _ | .interface _=>False|_=>True))
 (hd:P.underlying t=some d) (he:ti.eqs=true→ti.k = .struct→wq19s P t=true):TiOk P t ti:=by
 obtain⟨i,h1,h2⟩:=Option.map_eq_some_iff.1 hi
 simp only[Prod.mk.injEq]at h2
 refine⟨⟨i,z,h1,h2.1,h2.2.1,h2.2.2,hz,hs,fun K hK => ?_,hsh⟩,⟨d,hd,?_⟩,he⟩
 ·unfold kdB at hk
  rw[hK]at hk
  simp only[Bool.and_eq_true,decide_eq_true_eq]at hk
  exact⟨hk.1.1,hk.1.2,fun w ok=>by rw[hk.2];exact wq126 K⟩
 ·revert hm
  cases ti.k<;>simp only[]<;>intro hm<;>first
   |exact hm
   |(obtain⟨fs,h1,h2,h3⟩:=hm
     unfold wq1fn at h3
     obtain⟨pl,hpl⟩:=Option.isSome_iff_exists.1 h3
     exact⟨fs,h1,h2,pl,hpl⟩)
theorem wq1hw{l:List (Nat×TI)}(h:∀ x∈l,TiOk P x.1 x.2): TyOk P (look l):=fun t ti ht=>h (t,ti) (wqq ht)
theorem wq1hx:∀ x∈([]:List (Nat×TI)),TiOk P x.1 x.2:=fun x hx=>by cases hx
theorem all_cons{t:Nat}{ti:TI}{l:List (Nat×TI)}(h:TiOk P t ti)(hl:∀ x∈l,TiOk P x.1 x.2): ∀ x∈(t,ti)::l,TiOk P x.1 x.2:=fun x hx=>by
 rcases List.mem_cons.1 hx with rfl|hx
 ·exact h
 ·exact hl x hx
end Go.Proofs.YtbjkpddloieekaaGreatDoor.Pvm
namespace Go.Proofs.YtbjkpddloieekaaGreatDoor.Pvm
open Go
def at_:List Nat→Code→Code
 |[],c=>c
 |0::p,.seq a _=>at_ p a
 |_::p,.seq _ b=>at_ p b
 |0::p,.cond _ a _=>at_ p a
 |_::p,.cond _ _ b=>at_ p b
 |_::p,.block _ b=>at_ p b
 |_::p,.scope b=>at_ p b
 |_::p,.loop b=>at_ p b
 |_,c=>c
def konts(cx:Ctx)(k:Nat){R:Type}(I:Nat→St→Option R): List Nat→Code→(Ex→St→Option R)→(Ex→St→Option R)
 |[],_,K=>K
 |0::p,.seq a b,K=>konts cx k I p a (seqK (execK cx k b) K)
 |_::p,.seq _ b,K=>konts cx k I p b K
 |0::p,.cond _ a _,K=>konts cx k I p a K
 |_::p,.cond _ _ b,K=>konts cx k I p b K
 |_::p,.block id b,K=>konts cx k I p b (blockK id K)
 |_::p,.scope b,K=>konts cx k I p b K
 |_::p,.loop b,K=>konts cx k I p b (stepK cx.pv (look cx.cuts (1000+wqhf b)) (I (1000+wqhf b)) K)
 |_,_,K=>K
theorem DoesTo.mono{P:Program}{f:FuncId}{ps:List PV}{hp:List (Nm×HObj)}{O O':Out→Prop}(h:DoesTo P f ps hp O)(ho:∀ out,O out→O' out): DoesTo P f ps hp O' :=
 fun G w vals h1 h2 h3=>(h G w vals h1 h2 h3).mono fun e w' ⟨out,h4,h5⟩=>⟨out,ho out h4,h5⟩
def noMp:List (Nm×HObj)→Bool
 |[]=>true
 |(_,.mp _ _ _)::_=>false
 |_::r=>noMp r
theorem wqph:∀ {hp:List (Nm×HObj)},noMp hp=true→∀ {n:Nm} {ag:MK} {V:Kd} {es:List (List UInt8×V.T)},look hp n=some (.mp ag V es)→False
 |[],_,n,ag,V,es,hl=>by cases hl
 |(m,.mp _ _ _)::r,h,n,ag,V,es,hl=>by simp[noMp]at h
 |(m,.var t cs)::r,h,n,ag,V,es,hl=>by
  rw[look]at hl
  cases hb:Nat.beq m n with
  |true=>rw[hb]at hl;cases hl
  |false=>rw[hb]at hl;exact wqph (hp:=r) h hl
 |(m,.row e K xs)::r,h,n,ag,V,es,hl=>by
  rw[look]at hl
  cases hb:Nat.beq m n with
  |true=>rw[hb]at hl;cases hl
  |false=>rw[hb]at hl;exact wqph (hp:=r) h hl
def wq1fo(h:Heap)(G:Gh)(w:World): PV→FrameMode→FrameMode→Prop
 |.nilif,u,u1=>u = .returning∧u1 = .returning
 |.ifc t p,u,u1=>∃ v,RV h G w (.ifc t p) v∧u = .panicking [{ v,recovered:=false }]∧u1 = .panicking [{ v,recovered:=true }]
 |_,_,_=>False
def DoesToD(P:Program)(g:FuncId)(rec:PV)(caps:List PV)(hp:List (Nm×HObj))(O:Out→Prop): Prop :=
 ∀(G:Gh) (w:World) (vals:List Value) (u u1:FrameMode),RVs (mkH hp) G w caps vals→wq1fo (mkH hp) G w rec u u1→(∀ n o,mkH hp n=some o→RO (mkH hp) G w n o)→Dis (mkH hp) G w →
  CallsD P g vals.toArray u w fun e u' w'=>u'=u1∧∃ out,O out∧∃ G',OutIs G' w' e out∧Fin hp out.hs G w G' w'
theorem DoesToD.mono{P:Program}{g:FuncId}{rec:PV}{caps:List PV}{hp:List (Nm×HObj)}{O O':Out→Prop}(h:DoesToD P g rec caps hp O)(ho:∀ out,O out→O' out): DoesToD P g rec caps hp O' :=
 fun G w vals u u1 h1 h2 h3 h4=>(h G w vals u u1 h1 h2 h3 h4).mono fun e u' w' ⟨h5,out,h6,h7⟩=>⟨h5,out,ho out h6,h7⟩
def fnCK(cx:Ctx)(k:Nat){R:Type}(c:Code)(n:Nat)(rs:List ResultVar)(sp:RetSpec)(caps:List PV)(s:Nat)(rec:PV)(hp:List (Nm×HObj))(K:Out→Option R): Option R :=
 bif varsIn cx.pv hp&&Nat.ble caps.length n&&Nat.blt s n then execK cx k c ⟨upd (argsT caps) s rec,mkH hp⟩ (outK cx sp rs K)else none
def opsAt:Code→Array Oper
 |.region _ ops _=>ops
 |_ => #[]
def recOps(ops:List Oper): Option Nat :=
 match ops with
 |[o]=>match o.guard,o.dst,o.op with
  |none,some s,.call { callee := .builtin .recover,args,.. }=>bif Nat.beq args.size 0 then some s else none
  |_,_,_=>none
 |_=>none
theorem wq1b4{ops:Array Oper}{s:Nat}(h:recOps ops.toList=some s): ∃ o ats,ops = #[o]∧o.guard=none∧o.dst=some s∧o.op = .call { callee := .builtin .recover,args := #[],argTypes:=ats }:=by
 unfold recOps at h
 split at h
 ·next o hl =>
  split at h
  ·next e1 e2 e3 =>
   next args _ =>
   cases hb:Nat.beq args.size 0 with
   |false=>rw[hb]at h;cases h
   |true =>
    rw[hb,cond_true]at h
    cases h
    have ha:args = #[]:=Array.eq_empty_of_size_eq_zero (beqN.1 hb)
    subst ha
    exact⟨o,_,by apply Array.ext';simpa using hl,e1,e2,e3⟩
  ·cases h
 ·cases h
def wq18b(ops:List Oper): Option (Nat×FuncId×List Operand) :=
 match ops with
 |[o1,o2]=>match o1.guard,o2.guard,o1.dst,o2.dst with
  |none,none,some s,none=>match o1.op,o2.op with
   |.makeFunc (.func g) first caps,.defer { callee := .value (.tmp s'),args,.. }=>bif Nat.beq first.size 0&&Nat.beq s' s&&Nat.beq args.size 0 then some (s,g,caps.toList)else none
   |_,_=>none
  |_,_,_,_=>none
 |_=>none
def wq14r(st:St): List Operand→List (Nm×Nat)→Bool
 |[],[]=>true
 |x::xs,(n,off)::r=>(match useO [] (st.get x)with | .ptr m o=>Nat.beq m n&&Nat.beq o off|_=>false)&&wq14r st xs r
 |_,_=>false
def capsIn(st:St)(pv:List Nm): List (Nm×Nat)→Bool
 |[]=>true
 |(n,_)::r=>isIn n pv&&(match st.h n with|some (.var _ _)=>true|_=>false)&&capsIn st pv r
def capP:List (Nm×Nat)→List PV
 |[]=>[]
 |(n,off)::r => .ptr n off::capP r
def wqwp(ks:List Nat): List ResultVar→Bool
 |[]=>true
 |.tmp t::r=>isIn t ks&&wqwp ks r
 |.cell a _::r=>isIn a ks&&wqwp ks r
def modeOk(pan:Bool): PV→Bool
 |.nilif => !pan
 |.ifc _ _=>pan
 |_=>false
def callD(cx:Ctx){R:Type}(runD:PV→List PV→List (Nm×HObj)→(Out→Option R)→Option R)(sigD:List LS)(caps:List (Nm×Nat))(sp:RetSpec)(rs:List ResultVar)(K:Out→Option R)(pan:Bool)(rec:PV)(st:St): Option R :=
 match normPs st.h ⟨[],[],[]⟩ (.any::sigD) (rec::capP caps)with
 |some (q::ps,na)=>bif fine na&&modeOk pan q then runD q ps na.hp fun o=>match o with
  |.ret _ hs=>match back st 9000 na hs (hasSlH hs)with
   |some st'=>retK cx sp rs st' K
   |none=>none
  |.pan _ _=>none
  else none
 |_=>none
def endD(cx:Ctx){R:Type}(runD:PV→List PV→List (Nm×HObj)→(Out→Option R)→Option R)(sigD:List LS)(caps:List (Nm×Nat))(sp:RetSpec)(rs:List ResultVar)(K:Out→Option R): Ex→St→Option R:=fun e st=>match e with
 |.normal=>callD cx runD sigD caps sp rs K false .nilif st
 |.ret=>callD cx runD sigD caps sp rs K false .nilif st
 |.panic p=>callD cx runD sigD caps sp rs K true p st
 |.exit _=>none
def dfrK {R:Type} (ex:Ctx→Code→St→(Ex→St→Option R)→Option R) (cx:Ctx) (pv2:List Nm) (pre:Code) (ops:Array Oper) (rest:Code) (n:Nat) (rs:List ResultVar) (sp:RetSpec)
 (runD:PV→List PV→List (Nm×HObj)→(Out→Option R)→Option R) (sigD:List LS) (caps:List (Nm×Nat)) (args:List PV) (hp:List (Nm×HObj)) (K:Out→Option R):Option R :=
 bif varsIn cx.pv hp&&Nat.ble args.length n&&subL cx.pv pv2&&wqwp cx.keep rs then
  ex cx pre ⟨argsT args,mkH hp⟩ fun e st=>match e with
   |.normal=>match wq18b ops.toList with
    |some (s,g,xs)=>bif wq14r st xs caps&&capsIn st pv2 caps&&Nat.blt s n then
     ex { cx with pv:=pv2 } rest ⟨upd st.t s (.clo g (capP caps)),st.h⟩ (endD cx runD sigD caps sp rs K)
     else none
    |none=>none
   |_=>none
 else none
def fnDK (cx:Ctx) (k:Nat) {R:Type} (pv2:List Nm) (pre:Code) (ops:Array Oper) (rest:Code) (n:Nat) (rs:List ResultVar) (sp:RetSpec)
 (runD:PV→List PV→List (Nm×HObj)→(Out→Option R)→Option R) (sigD:List LS) (caps:List (Nm×Nat)) (args:List PV) (hp:List (Nm×HObj)) (K:Out→Option R):Option R :=
 dfrK (fun cx c st K=>execK cx k c st K) cx pv2 pre ops rest n rs sp runD sigD caps args hp K
section
variable {P:Program} {w0:World} {fr:Nat→Prop} {X0:Org} {n:Nat} {ds:List Deferred} {st:St} {G:Gh} {a:Act} {w:World}
theorem nblt{a b:Nat}(h:Nat.blt a b=true): a<b:=Nat.le_of_ble_eq_true h
theorem wq1fp {cx:Ctx} (X:cx.Ok P) (hm:P.follows .mixedOrders=true) {f:FuncId} {fn:Func} {id:Nat} {ops:Array Oper} {c:Code} (hfn:P.funcs[f]? = some fn) (hb:fn.body=some (.seq (.region id ops false) c))
 {s:Nat} (hops:recOps ops.toList=some s) {rs:List ResultVar} (hrs:fn.results.toList=rs) (hco:codeOk fn.ntmps c=true)
 {k:Nat} {R0:Type} {sp:RetSpec} {caps:List PV} {rec:PV} {hp:List (Nm×HObj)} {K:Out→Option R0} {r:R0} (he:fnCK cx k c fn.ntmps rs sp caps s rec hp K=some r):DoesToD P f rec caps hp fun out=>K out=some r:=by
 intro G w vals u u1 hr hmode obj dis
 obtain⟨o,ats,hops,hg,hds,hop⟩:=wq1b4 hops
 unfold fnCK at he
 cases hc1:(varsIn cx.pv hp&&Nat.ble caps.length fn.ntmps&&Nat.blt s fn.ntmps)with
 |false=>rw[hc1]at he;cases he
 |true =>
  rw[hc1,cond_true]at he
  simp only[Bool.and_eq_true]at hc1
  obtain⟨⟨hc0,hc2⟩,hc3⟩:=hc1
  have R:=Rel.start hr obj dis (Nat.le_of_ble_eq_true hc2)
  have hf:∀ b,frOf hp G w b→b<w.heap.size:=fun b hb=>hb.1
  have hpv:∀ x∈(orgOf hp G).vs,x.1∈cx.pv:=fun x hx=>wqs7 hc0 x (List.mem_filter.1 hx).1
  have hret:∀ {st:St} {G':Gh} {a:Act} {w':World},retK cx sp rs st K=some r→Rel w (frOf hp G w) (orgOf hp G) fn.ntmps [] st G' a w'→∃ v,(results fn a.tmps).run P w' = .ok v w'∧∃ out,K out=some r∧∃ G'',OutIs G'' w' (.returned v) out∧Fin hp out.hs G w G'' w':=by
   intro st G' a w' he R
   unfold retK at he
   split at he
   ·cases he
   ·next ps hps =>
    obtain⟨vs,h1,h2⟩:=wq14p X R rs hps
    obtain⟨qs,hs,G'',h3,h4,h5⟩:=wq14q R hc0 h1 he
    exact⟨_,wqs6 hrs h2,.ret qs hs,h3,G'',⟨_,rfl,tup_ok h4⟩,h5⟩
  refine callsD_of_wpS hfn hb fun c₀ cs hu => ?_
  refine wpS_seq (wpS_region ?_)
  subst hops
  have hwant:Region.wanted o (yielded #[o] (vals.toArray++Array.replicate (fn.ntmps-vals.toArray.size) undef))=true:=by simp[Region.wanted,hg]
  have hrun:∀ ρ : Operand→Value,(execOp ρ o).run P w = .ok .recover w:=by
   intro ρ
   simp[execOp,hop,resolve,invoke,builtin]
  have key:∀(v:Value) (cs':List Frame),RV (mkH hp) G w rec v→cs'={ c₀ with mode:=u1 }::cs →
   Exit.thenS (c.wpS P (bodyPostS P fn c₀ cs fun e u' w'=>u'=u1∧∃ out,K out=some r∧∃ G',OutIs G' w' e out∧Fin hp out.hs G w G' w')) (bodyPostS P fn c₀ cs fun e u' w'=>u'=u1∧∃ out,K out=some r∧∃ G',OutIs G' w' e out∧Fin hp out.hs G w G' w') .normal
    (({ tmps:=vals.toArray++Array.replicate (fn.ntmps-vals.toArray.size) undef,defers:=[] }:Act).put o.dst v) cs' w:=by
   rintro v cs' hv rfl
   show c.wpS _ _ _ _ _
   rw[hds]
   have R2:=R.putV hf (d:=some s) (fun i hi=>by cases hi;exact nblt hc3) hv
   refine wpS_of_wp (wp_mono (wq8l X hpv hm k hf c hco he R2) fun e a w' h => ?_)
   cases e with
   |normal =>
    obtain⟨st,G',h1,h2⟩:=h
    obtain⟨v,h3,h4⟩:=hret h1 h2
    exact⟨h2.defers,u1,rfl,v,h3,rfl,h4⟩
   |ret =>
    obtain⟨st,G',h1,h2⟩:=h
    obtain⟨v,h3,h4⟩:=hret h1 h2
    exact⟨h2.defers,u1,rfl,v,h3,rfl,h4⟩
   |panic ch =>
    obtain⟨st,G',a0,p,v,rfl,h1,h2,h3,h4,_⟩:=h
    refine⟨h4.trans h2.defers,u1,rfl,rfl,?_⟩
    simp only[outK]at h1
    unfold panK at h1
    obtain⟨qs,hs,G'',h5,h6,h7⟩:=wq14q h2 hc0 (ps:=[p]) (vs:=[v]) ⟨v,[],rfl,h3,rfl⟩ h1
    split at h5
    ·next q =>
     obtain⟨u,l,hu,h8,h9⟩:=h6
     cases hu
     exact⟨.pan q hs,h5,G'',⟨v,rfl,h8⟩,h7⟩
    ·cases h5
   |exit i=>obtain⟨st,G',h1,h2⟩:=h;cases h1
   |goto l=>exact h
   |outgrown=>exact h.elim
  show wpOpsS P #[o] _ [0] _ _ _
  simp only[wpOpsS,List.getElem?_toArray,List.getElem?_cons_zero,hwant,if_true,hrun]
  cases rec with
  |nilif =>
   obtain⟨rfl,rfl⟩:=hmode
   have hrec:recoverD (c₀ :: cs)=none:=by simp[recoverD,hu]
   rw[hrec]
   refine key .nilIface (c₀ :: cs) rfl ?_
   cases c₀;simp_all
  |ifc t p =>
   obtain⟨v,hv,rfl,rfl⟩:=hmode
   have hrec:recoverD (c₀ :: cs)=some (v,{ c₀ with mode := .panicking [{ v,recovered:=true }] }::cs):=by simp[recoverD,hu]
   rw[hrec]
   exact key v _ hv rfl
  |_=>exact hmode.elim
theorem wqwq{ks:List Nat}{a a0:Act}(h:∀ i∈ks,tmOf a i=tmOf a0 i): ∀ {rs:List ResultVar},wqwp ks rs=true→rs.mapM (resF a.tmps)=rs.mapM (resF a0.tmps)
 |[],_=>rfl
 |.tmp t::r,hk=>by
  simp only[wqwp,Bool.and_eq_true]at hk
  have e1:a.tmps.getD t undef=a0.tmps.getD t undef:=h t (wq3s.1 hk.1)
  rw[List.mapM_cons,List.mapM_cons,wqwq h hk.2]
  simp only[resF,e1]
 |.cell x t::r,hk=>by
  simp only[wqwp,Bool.and_eq_true]at hk
  have e1:a.tmps.getD x undef=a0.tmps.getD x undef:=h x (wq3s.1 hk.1)
  rw[List.mapM_cons,List.mapM_cons,wqwq h hk.2]
  simp only[resF,e1]
theorem wq14s(R:Rel w0 fr X0 n ds st G a w): ∀(xs:List Operand) (caps:List (Nm×Nat)),wq14r st xs caps=true→RVs st.h G w (capP caps) (xs.map a.eval)
 |[],[],_=>rfl
 |[],_::_,h=>by cases h
 |x::xs,[],h=>by cases h
 |x::xs,(m,off)::r,h=>by
  simp only[wq14r,Bool.and_eq_true]at h
  obtain⟨h1,h2⟩:=h
  refine⟨a.eval x,xs.map a.eval,rfl,?_,wq14s R xs r h2⟩
  have:=R.use noTags x
  split at h1
  ·next m' o' hx =>
   rw[hx]at this
   simp only[Bool.and_eq_true]at h1
   rw[beqN.1 h1.1,beqN.1 h1.2]at this
   exact this
  ·cases h1
theorem wq1a9{pv:List Nm}: ∀ {caps:List (Nm×Nat)},capsIn st pv caps=true→∀ x∈caps,x.1∈pv∧∃ t cs,st.h x.1=some (.var t cs)
 |[],_,x,hx=>by cases hx
 |(m,off)::r,h,x,hx=>by
  simp only[capsIn,Bool.and_eq_true]at h
  obtain⟨⟨h1,h2⟩,h3⟩:=h
  rcases List.mem_cons.1 hx with rfl|hx
  ·refine⟨wq3s.1 h1,?_⟩
   split at h2
   ·next t cs ht=>exact⟨t,cs,ht⟩
   ·cases h2
  ·exact wq1a9 h3 x hx
def typeIn(h:Heap)(n:Nm): TypeId:=match h n with|some (.var t _)=>t|_=>0
def capOrg(st:St)(G:Gh): List (Nm×Nat)→List (Nm×TypeId×Nat)
 |[]=>[]
 |(n,_)::r=>(n,typeIn st.h n,G.bk n)::capOrg st G r
theorem wqwr{st:St}{G:Gh}: ∀ {caps:List (Nm×Nat)} {x},x∈capOrg st G caps→∃ y∈caps,x=(y.1,typeIn st.h y.1,G.bk y.1)
 |[],x,h=>by cases h
 |(n,off)::r,x,h=>by
  rw[capOrg]at h
  rcases List.mem_cons.1 h with rfl|h
  ·exact⟨_,List.mem_cons_self,rfl⟩
  ·obtain⟨y,hy,e⟩:=wqwr h
   exact⟨y,List.mem_cons_of_mem _ hy,e⟩
theorem wq1aa{st:St}{G:Gh}: ∀ {caps:List (Nm×Nat)} {y},y∈caps→(y.1,typeIn st.h y.1,G.bk y.1)∈capOrg st G caps
 |(n,off)::r,y,h=>by
  rw[capOrg]
  rcases List.mem_cons.1 h with rfl|h
  ·exact List.mem_cons_self
  ·exact List.mem_cons_of_mem _ (wq1aa h)
theorem wq14t{st0:St}{G0:Gh}{w0':World}: ∀ {caps:List (Nm×Nat)} {vals:List Value},RVs st0.h G0 w0' (capP caps) vals→(∀ y∈caps,(∃ t cs,st.h y.1=some (.var t cs))∧G.bk y.1=G0.bk y.1)→RVs st.h G w (capP caps) vals
 |[],vals,hr,_=>hr
 |(m,off)::r,vals,⟨v,l,e,hv,hl⟩,h=>by
  obtain⟨rfl,_⟩:=hv
  obtain⟨⟨t,cs,h1⟩,h2⟩:=h (m,off) List.mem_cons_self
  exact⟨_,l,e,⟨by rw[h2],t,cs,h1⟩,wq14t hl fun y hy=>h y (List.mem_cons_of_mem _ hy)⟩
theorem wq1hy{l r:List Nat}(h:subL l r=true): ∀ x∈l,x∈r:=by
 induction l with
 |nil=>intro x hx;cases hx
 |cons n l ih =>
  simp only[subL,Bool.and_eq_true]at h
  intro x hx
  rcases List.mem_cons.1 hx with rfl|hx
  ·exact wq3s.1 h.1
  ·exact ih h.2 x hx
def Invokes(P:Program)(g:FuncId): Prop:=∀(cap:Array Value) (w:World),(invoke (.fn (.func g) cap) #[]).run P w = .ok (.enter g cap) w
theorem Invokes.of{f:FuncId}{fn:Func}{c:Code}(hfn:P.funcs[f]? = some fn)(hb:fn.body=some c)(hname:(fn.name == "runtime.NumGoroutine")=false): Invokes P f:=by
 intro cap w
 have hn2:¬ fn.name = "runtime.NumGoroutine" := by simpa using hname
 simp[invoke,callFunc,program,Sem.run,hfn,hn2,hb]
theorem wq1hz {cx:Ctx} (X:cx.Ok P) (hm:P.follows .mixedOrders=true) {f:FuncId} {fn:Func} {pre rest:Code} {id:Nat} {ops:Array Oper} (hfn:P.funcs[f]? = some fn) (hb:fn.body=some (.seq pre (.seq (.region id ops false) rest)))
 (hname:(fn.name == "runtime.NumGoroutine")=false) {rs:List ResultVar} (hrs:fn.results.toList=rs) (hco:codeOk fn.ntmps pre=true) (hco2:codeOk fn.ntmps rest=true)
 {g:FuncId} {s:Nat} {xs:List Operand} (hops:wq18b ops.toList=some (s,g,xs))
 {k:Nat} {R0:Type} {sp:RetSpec} {pv2:List Nm} {runD:PV→List PV→List (Nm×HObj)→(Out→Option R0)→Option R0} {sigD:List LS} {caps:List (Nm×Nat)}
 (hinv:Invokes P g) (hrunD:∀ rec ps hp (K:Out→Option R0) (r:R0),runD rec ps hp K=some r→DoesToD P g rec ps hp fun out=>K out=some r)
 {args:List PV} {hp:List (Nm×HObj)} {K:Out→Option R0} {r:R0} (he:fnDK cx k pv2 pre ops rest fn.ntmps rs sp runD sigD caps args hp K=some r):DoesTo P f args hp fun out=>K out=some r:=by
 intro G w vals hr obj dis
 unfold fnDK dfrK at he
 cases hc1:(varsIn cx.pv hp&&Nat.ble args.length fn.ntmps&&subL cx.pv pv2&&wqwp cx.keep rs)with
 |false=>rw[hc1]at he;cases he
 |true =>
  rw[hc1,cond_true]at he
  simp only[Bool.and_eq_true]at hc1
  obtain⟨⟨⟨hc0,hc2⟩,hsub⟩,hkeep⟩:=hc1
  have hrun:(callFunc f vals.toArray).run P w = .ok (.enter f vals.toArray) w:=by
   have hn2:¬ fn.name = "runtime.NumGoroutine" := by simpa using hname
   simp[callFunc,program,Sem.run,hfn,hn2,hb]
  unfold Does
  rw[hrun]
  have R:=Rel.start hr obj dis (Nat.le_of_ble_eq_true hc2)
  have hf:∀ b,frOf hp G w b→b<w.heap.size:=fun b hb=>hb.1
  have hpv:∀ x∈(orgOf hp G).vs,x.1∈cx.pv:=fun x hx=>wqs7 hc0 x (List.mem_filter.1 hx).1
  refine calls_of_wp_defers hfn hb (wp_seq (wp_mono (wq8l X hpv hm k hf pre hco he R) fun e a1 w1 h => ?_))
  cases e with
  |exit i=>obtain⟨st,G',h1,h2⟩:=h;cases h1
  |ret=>obtain⟨st,G',h1,h2⟩:=h;cases h1
  |panic ch=>obtain⟨st,G',a0,p,v,rfl,h1,h2⟩:=h;cases h1
  |goto l=>exact h.elim
  |outgrown=>exact h.elim
  |normal =>
   obtain⟨st1,G1,h1,R1⟩:=h
   simp only[hops]at h1
   cases hc3:(wq14r st1 xs caps&&capsIn st1 pv2 caps&&Nat.blt s fn.ntmps)with
   |false=>rw[hc3]at h1;cases h1
   |true =>
    rw[hc3,cond_true]at h1
    simp only[Bool.and_eq_true]at hc3
    obtain⟨⟨hca,hci⟩,hs⟩:=hc3
    have hcaps:=wq14s R1 xs caps hca
    have hcin:=wq1a9 hci
    have hsh:∃ o1 o2 first cps args ats s',ops.toList=[o1,o2]∧o1.guard=none∧o2.guard=none∧o1.dst=some s∧o2.dst=none∧o1.op = .makeFunc (.func g) first cps∧o2.op = .defer { callee := .value (.tmp s'),args:=args,argTypes:=ats }∧first = #[]∧s'=s∧args = #[]∧cps.toList=xs:=by
     unfold wq18b at hops
     split at hops
     ·next o1 o2 hl =>
      split at hops
      ·next e1 e2 e3 e4 =>
       split at hops
       ·next g' first cps s1 args ats e5 e6 =>
        cases hbb:(Nat.beq first.size 0&&Nat.beq s1 _&&Nat.beq args.size 0)with
        |false=>rw[hbb]at hops;cases hops
        |true =>
         rw[hbb,cond_true]at hops
         cases hops
         simp only[Bool.and_eq_true]at hbb
         exact⟨o1,o2,first,cps,args,_,s1,hl,e1,e2,e3,e4,e5,e6,Array.eq_empty_of_size_eq_zero (beqN.1 hbb.1.1),beqN.1 hbb.1.2,Array.eq_empty_of_size_eq_zero (beqN.1 hbb.2),rfl⟩
       ·cases hops
      ·cases hops
     ·cases hops
    obtain⟨o1,o2,first,cps,args',ats,s',hl,g1,g2,d1,d2,p1,p2,rfl,rfl,rfl,hx⟩:=hsh
    have hs:=nblt hs
    have hsz:=R1.size
    let F:Value := .func (.func g) #[] (cps.map a1.eval)
    let d:Deferred:={ target := .fn (.func g) (cps.map a1.eval),args := #[] }
    let a2:Act:={ (a1.put (some s') F)with defers:=d::a1.defers }
    have hcapsA:RVs st1.h G1 w1 (capP caps) (cps.map a1.eval).toList:=by rw[Array.toList_map,hx];exact hcaps
    let X0':Org:=⟨(orgOf hp G).X,capOrg st1 G1 caps++(orgOf hp G).vs⟩
    have R2:Rel w (frOf hp G w) X0' fn.ntmps [d] ⟨upd st1.t s' (.clo g (capP caps)),st1.h⟩ G1 a2 w1:=by
     have:=R1.putV hf (d:=some s') (fun i hi=>by cases hi;exact hs) (p := .clo g (capP caps)) (v:=F) ⟨(cps.map a1.eval).toList,by simp only[F,Array.toArray_toList],hcapsA⟩
     refine⟨this.tm,this.size,this.obj,this.dis,this.apart,this.xfr,this.xeq,fun x hx => ?_,this.ext,this.grow,this.os,this.tape,this.out,by simp[a2,R1.defers]⟩
     rcases List.mem_append.1 hx with hx|hx
     ·obtain⟨y,hy,rfl⟩:=wqwr hx
      obtain⟨_,t,cs,ht⟩:=hcin y hy
      exact⟨⟨cs,by simp only[typeIn];rw[show st1.h y.1=_ from ht]⟩,rfl⟩
     ·exact this.org x hx
    have hpv2:∀ x∈X0'.vs,x.1∈pv2:=by
     intro x hx
     rcases List.mem_append.1 hx with hx|hx
     ·obtain⟨y,hy,rfl⟩:=wqwr hx
      exact(hcin y hy).1
     ·exact wq1hy hsub _ (hpv x hx)
    have X2:Ctx.Ok P { cx with pv:=pv2 }:=⟨X.ty,X.C,X.sh⟩
    have fin:∀ {pan:Bool} {rec:PV} {v:Value} {st:St} {G':Gh} {a b:Act} {w':World},rs.mapM (resF b.tmps)=rs.mapM (resF a.tmps)→b.defers=a.defers→callD cx runD sigD caps sp rs K pan rec st=some r→Rel w (frOf hp G w) X0' fn.ntmps [d] st G' a w'→RV st.h G' w' rec v →
     Leaves P fn b.tmps (fun e w'=>∃ out,K out=some r∧∃ G',OutIs G' w' e out∧Fin hp out.hs G w G' w') b.defers (bif pan then .panicking [{ v,recovered:=false }]else .returning) w':=by
     intro pan rec v st G' a b w' hbm hbd he R3 hv
     rw[hbd,R3.defers]
     refine leaves_cons (f:=g) (args:=cps.map a1.eval) (by cases pan<;>simp) (hinv _ _) ?_
     unfold callD at he
     split at he
     ·next q ps na hn =>
      cases hfi:(fine na&&modeOk pan q)with
      |false=>rw[hfi]at he;cases he
      |true =>
       rw[hfi,cond_true]at he
       simp only[Bool.and_eq_true]at hfi
       obtain⟨hfi,hmo⟩:=hfi
       have hc:=hrunD _ _ _ _ _ he
       have F0:Found st.h ⟨[],[],[]⟩:=⟨fun k o hk=>(by cases hk),fun m hm=>(by cases hm)⟩
       obtain⟨F1,L1⟩:=normPs_found _ _ _ hn F0
       have S:Sub st.h G' w' na:=⟨wqvu hfi,F1,R3.obj,R3.toDis hf⟩
       have hcl:RVs st.h G' w' (capP caps) (cps.map a1.eval).toList:=by
        refine wq14t hcapsA fun y hy => ?_
        obtain⟨⟨cs,h1⟩,h2⟩:=R3.org (y.1,typeIn st1.h y.1,G1.bk y.1) (List.mem_append_left _ (wq1aa hy))
        exact⟨⟨_,cs,h1⟩,h2⟩
       obtain⟨h1,h2⟩:=Sub.norms S _ _ _ hn (.refl na) F0 (vs:=v::(cps.map a1.eval).toList) ⟨v,_,rfl,hv,hcl⟩
       obtain⟨v',l',hvl,hq,hps⟩:=h1
       simp only[List.cons.injEq]at hvl
       obtain⟨rfl,rfl⟩:=hvl
       have hobj:∀ k o,mkH na.hp k=some o→RO (mkH na.hp) (subG G' na (subX st.h G' na)) w' k o:=fun k o hk=>by
        rcases h2 (k,o) (wqq hk)with h|h
        ·cases h
        ·exact h
       have hrec:wq1fo (mkH na.hp) (subG G' na (subX st.h G' na)) w' q (bif pan then .panicking [{ v,recovered:=false }]else .returning) (bif pan then .panicking [{ v,recovered:=true }]else .returning):=by
        cases q with
        |nilif=>cases pan with
         |false=>exact⟨rfl,rfl⟩
         |true=>cases hmo
        |ifc t p=>cases pan with
         |false=>cases hmo
         |true=>exact⟨v,hq,rfl,rfl⟩
        |_=>cases hmo
       have hcd:=hc _ w' _ _ _ hps hrec hobj S.toDis
       rw[Array.toArray_toList]at hcd
       refine hcd.mono fun e u' w'' hh => ?_
       obtain⟨rfl,out,ho,G3,hout,Fi⟩:=hh
       cases out with
       |pan p hs=>cases ho
       |ret rs' hs' =>
        obtain⟨v3,rfl,hv3⟩:=hout
        simp only at ho
        split at ho
        ·next st' hbk =>
         obtain⟨G4,L,ht,hren⟩:=wq1cu S hbk Fi (fun h=>h)
         have R4:=R3.loud0 hf L
         rw[←ht]at R4
         have R5:Rel w (frOf hp G w) (orgOf hp G) fn.ntmps [d] st' G4 a w'' :=
          ⟨R4.tm,R4.size,R4.obj,R4.dis,R4.apart,R4.xfr,R4.xeq,fun x hx=>R4.org x (List.mem_append_right _ hx),R4.ext,R4.grow,R4.os,R4.tape,R4.out,R4.defers⟩
         have hset:settle (bif pan then .panicking [{ v,recovered:=true }]else .returning) = .returning:=by cases pan<;>rfl
         show Leaves P fn b.tmps _ [] (settle _) w''
         rw[hset]
         unfold retK at ho
         split at ho
         ·cases ho
         ·next ps2 hps2 =>
          obtain⟨vs,h1,h2⟩:=wq14p X R5 rs hps2
          obtain⟨qs,hs2,G'',h3,h4,h5⟩:=wq14q R5 hc0 h1 ho
          exact⟨_,wqs6 hrs (by rw[hbm];exact h2),.ret qs hs2,h3,G'',⟨_,rfl,tup_ok h4⟩,h5⟩
        ·cases ho
     ·cases he
    have hrest:rest.wp P (bodyPostD P fn fun e w'=>∃ out,K out=some r∧∃ G',OutIs G' w' e out∧Fin hp out.hs G w G' w') a2 w1:=by
     refine wp_mono (wq8l X2 hpv2 hm k hf rest hco2 h1 R2) fun e a w' h => ?_
     cases e with
     |normal =>
      obtain⟨st,G',h1,h2⟩:=h
      exact fin (pan:=false) rfl rfl h1 h2 (v := .nilIface) rfl
     |ret =>
      obtain⟨st,G',h1,h2⟩:=h
      exact fin (pan:=false) rfl rfl h1 h2 (v := .nilIface) rfl
     |panic ch =>
      obtain⟨st,G',a0,p,v,rfl,h1,h2,h3,h4,h5,h6⟩:=h
      exact fin (pan:=true) (wqwq h6 hkeep) h4 h1 h2 h3
     |exit i=>obtain⟨st,G',h1,h2⟩:=h;cases h1
     |goto l=>exact h
     |outgrown=>exact h.elim
    refine wp_seq (wp_region_list ?_)
    rw[hl]
    have w1':Region.wanted o1 (yielded ops a1.tmps)=true:=by simp[Region.wanted,g1]
    have w2':∀ t,Region.wanted o2 (yielded ops t)=true:=fun t=>by simp[Region.wanted,g2]
    have e1:(execOp a1.eval o1).run P w1 = .ok (.value F) w1:=by simp[execOp,p1,Instr.makeFunc,F]
    have e2:(execOp (a1.put (some s') F).eval o2).run P w1 = .ok (.defer d) w1:=by
     have:(a1.put (some s') F).eval (.tmp s')=F:=by
      simp[Act.eval,Act.put,hsz,hs]
     simp[execOp,p2,resolve,this,F,Deferred.ofValue,d]
    unfold wpList
    rw[if_pos w1']
    refine .inl ?_
    unfold Oper.wp
    rw[e1,Oper.upon_value,d1]
    unfold wpList
    rw[if_pos (w2' _)]
    refine .inl ?_
    unfold Oper.wp
    rw[e2,Oper.upon_defer,d2]
    exact hrest
end
end Go.Proofs.YtbjkpddloieekaaGreatDoor.Pvm
namespace Go.Proofs.YtbjkpddloieekaaGreatDoor.Pvm
open Go Go.RowKit
def Kd.lob:Kd→Nat
 |.int k=>k.bits / 8
 |.bool=>1
 |.str=>16
 |.flt=>8
 |.sl _=>24
 |.pr a b=>a.lob+b.lob
 |.nil=>0
def Wf:(K:Kd)→K.T→Prop
 |.int k,x=>k.min≤x∧x≤k.max
 |.bool,_=>True
 |.str,x=>x.length≤140737488351232
 |.flt,x=>x<2 ^ 64
 |.sl e,x=>x.length*e.lob≤140737488351232∧∀ y∈x,Wf e y
 |.pr a b,x=>Wf a x.1∧Wf b x.2
 |.nil,_=>True
def readFs(ty:TypeId→Option TI)(f:TypeId→Kd→Bool): Nat→List (Nat×TypeId)→Kd→Bool
 |off,[(o,t)],K=>Nat.beq o off&&f t K&&(match ty t with|some ti=>Nat.beq ti.size K.sz|none=>false)
 |off,(o,t)::fs,.pr a b=>Nat.beq o off&&f t a&&(match ty t with|some ti=>Nat.beq ti.size a.sz|none=>false)&&readFs ty f (off+a.sz) fs b
 |_,_,_=>false
def readB(ty:TypeId→Option TI): Nat→TypeId→Kd→Bool
 |0,_,_=>false
 |n+1,t,K=>match ty t with
  |none=>false
  |some ti=>match ti.k,K with
   |.int k,.int k'=>decide (k=k')
   |.bool,.bool=>true
   |.str,.str=>true
   |.flt,.flt=>true
   |.slice,.sl e=>(match ty ti.el with|some ei=>Nat.blt 0 ei.size&&Nat.beq ei.size e.sz&&Nat.ble e.lob ei.bytes|none=>false)&&readB ty n ti.el e
   |.struct,K=>readFs ty (readB ty n) 0 ti.fs K&&Nat.beq ti.size K.sz
   |_,_=>false
section
variable {P:Program} {ty:TypeId→Option TI} {H:Type} {enc:TypeId×Value→H} {w:World} {spare:Nat→Bool} {held:Bool}
theorem TiOk.cellsOf{t:TypeId}{ti:TI}(h:TiOk P t ti): P.cellsOf t=ti.size:=by
 obtain⟨i,z,h1,h2,_⟩:=h.info
 simp[Program.cellsOf,h1,h2]
theorem TiOk.bytesOf{t:TypeId}{ti:TI}(h:TiOk P t ti): P.bytesOf t=ti.bytes:=by
 obtain⟨i,z,h1,_,h2,_⟩:=h.info
 simp[Program.bytesOf,h1,h2]
def ReadAt(P:Program)(enc:TypeId×Value→H)(w:World)(spare:Nat→Bool)(held:Bool)(t:TypeId)(K:Kd): Prop :=
 ∀(fuel:Nat) (cs:List Value) (d:DataW H) (ps:List MemPlace),DataW.trod enc P w 0 spare held fuel t cs=some (d,ps)→(∀ m∈DataW.weights P t d,m≤reachBytes) →
  ∃ x:K.T,RD w (fun _=>True) K x cs∧Wf K x
theorem wq1ab(T:TyOk P ty){f:TypeId→Kd→Bool}(hf:∀ t K,f t K=true→ReadAt P enc w spare held t K){n:Nat}{cs:List Value}:
 ∀(fl:List Field) (tfs:List (Nat×TypeId)) (off:Nat) (K:Kd) (xs:List (DataW H×List MemPlace)),fl.map (fun g=>(g.offset,g.type))=tfs→readFs ty f off tfs K=true →
  (∀(i:Nat) (g:Field),fl[i]? = some g→DataW.trod enc P w 0 spare held n g.type ((cs.drop g.offset).take (P.cellsOf g.type))=xs[i]?)→xs.length=fl.length →
  (∀ m∈DataW.weightsEach P (fl.map (·.type)) (xs.map (·.1)),m≤reachBytes)→cs.length=off+K.sz →
  ∃ x:K.T,RD w (fun _=>True) K x (cs.drop off)∧Wf K x
 |[],tfs,off,K,xs,ht,hr,_,_,_,_=>by subst ht;simp[readFs]at hr
 |g::fl,tfs,off,K,xs,ht,hr,hx,hl,hw,hc=>by
  cases xs with
  |nil=>simp at hl
  |cons x xs =>
   have h0:=hx 0 g (by simp)
   have key:∀ a:Kd,Nat.beq g.offset off=true→f g.type a=true→(match ty g.type with|some ti=>Nat.beq ti.size a.sz|none=>false)=true→a.sz≤cs.length-off →
    ∃ y:a.T,RD w (fun _=>True) a y ((cs.drop off).take a.sz)∧Wf a y:=by
    intro a h1 h2 h3 h4
    split at h3
    ·next ti hti =>
     have hsz:P.cellsOf g.type=a.sz:=by rw[(T _ _ hti).cellsOf];exact beqN.1 h3
     rw[beqN.1 h1,hsz]at h0
     obtain⟨d,ps⟩:=x
     refine hf _ _ h2 n _ d ps (by simpa using h0) fun m hm=>hw m ?_
     simp[DataW.weightsEach,hm]
    ·cases h3
   cases fl with
   |nil =>
    subst ht
    simp only[List.map_cons,List.map_nil,readFs,Bool.and_eq_true]at hr
    obtain⟨⟨h1,h2⟩,h3⟩:=hr
    obtain⟨y,hy1,hy2⟩:=key K h1 h2 h3 (by omega)
    refine⟨y,?_,hy2⟩
    rw[List.take_of_length_le (by rw[List.length_drop];omega)]at hy1
    exact hy1
   |cons g2 fl =>
    subst ht
    cases K with
    |pr a b =>
     simp only[List.map_cons,readFs,Bool.and_eq_true]at hr
     obtain⟨⟨⟨h1,h2⟩,h3⟩,h4⟩:=hr
     rw[Kd.sz]at hc
     obtain⟨y,hy1,hy2⟩:=key a h1 h2 h3 (by omega)
     obtain⟨z,hz1,hz2⟩:=wq1ab T hf (n:=n) (g2::fl) _ (off+a.sz) b xs rfl h4 (fun i g' hg'=>by simpa using hx (i+1) g' (by simpa using hg')) (by simpa using hl)
      (fun m hm=>hw m (by simp[DataW.weightsEach]at hm ⊢;exact .inr hm)) (by omega)
     refine⟨(y,z),⟨(cs.drop off).take a.sz,(cs.drop off).drop a.sz,(List.take_append_drop _ _).symm,hy1,?_⟩,hy2,hz2⟩
     rw[List.drop_drop];exact hz1
    |_=>simp[readFs]at hr
theorem wqpi{e:TypeId}: ∀ {l:List (DataW H)} {d:DataW H},d∈l→∀ m∈DataW.weights P e d,m∈DataW.weightsAll P e l
 |a::r,d,h,m,hm=>by
  rw[DataW.weightsAll]
  rcases List.mem_cons.1 h with rfl|h
  ·exact List.mem_append_left _ hm
  ·exact List.mem_append_right _ (wqpi h m hm)
 |[],d,h,m,hm=>by cases h
theorem wq1f4{P:Program}{w:World}{a:Addr}{n:Nat}{cs:List Value}(h:w.cells? 0 a n=some cs): cs.length=n∧∀(j:Nat) (u:Value),cs[j]? = some u→w.cell? (a.add j)=some u:=by
 unfold World.cells? at h
 rw[if_pos (Nat.zero_le _)]at h
 have key:∀(l:List Nat) (cs:List Value),l.mapM (fun i=>w.cell? (a.add i))=some cs→cs.length=l.length∧∀(j:Nat) (u:Value),cs[j]? = some u→∃ i,l[j]? = some i∧w.cell? (a.add i)=some u:=by
  intro l
  induction l with
  |nil=>intro cs h;simp at h;subst h;exact⟨rfl,fun j u hj=>by simp at hj⟩
  |cons i l ih =>
   intro cs h
   rw[List.mapM_cons]at h
   cases hc:w.cell? (a.add i)with
   |none=>rw[hc]at h;simp at h
   |some v =>
    cases hl:l.mapM (fun i=>w.cell? (a.add i))with
    |none=>rw[hc,hl]at h;simp at h
    |some r =>
     rw[hc,hl]at h
     simp at h
     subst h
     obtain⟨h1,h2⟩:=ih r hl
     refine⟨by simp[h1],fun j u hj => ?_⟩
     cases j with
     |zero=>simp at hj;subst hj;exact⟨i,by simp,hc⟩
     |succ j=>obtain⟨i',h3,h4⟩:=h2 j u (by simpa using hj);exact⟨i',by simpa using h3,h4⟩
 obtain⟨h1,h2⟩:=key _ _ h
 refine⟨by simpa using h1,fun j u hj => ?_⟩
 obtain⟨i,h3,h4⟩:=h2 j u hj
 have hlt:=(List.getElem?_eq_some_iff.1 h3).1
 have:i=j:=by
  obtain⟨_,e⟩:=List.getElem?_eq_some_iff.1 h3
  simpa using e.symm
 subst this
 exact h4
theorem wq1di(T:TyOk P ty): ∀(n:Nat) (t:TypeId) (K:Kd),readB ty n t K=true→ReadAt P enc w spare held t K
 |0,t,K,h=>by simp[readB]at h
 |n+1,t,K,h=>by
  intro fuel cs d ps ht hw
  rw[readB]at h
  split at h
  ·cases h
  ·next ti hti =>
   have hT:=T _ _ hti
   obtain⟨td,hu,hk⟩:=hT.kind
   split at h
   ·next k k' hk1 =>
    have:k=k':=by simpa using h
    subst this
    rw[hk1]at hk;simp only at hk;subst hk
    obtain⟨m,rfl,_,hwf⟩:=DataW.trod_int hu ht
    simp only[Lit.wf,Bool.and_eq_true,decide_eq_true_eq]at hwf
    exact⟨m,rfl,hwf⟩
   ·next hk1 =>
    rw[hk1]at hk;simp only at hk;subst hk
    obtain⟨b,rfl,_⟩:=DataW.trod_bool hu ht
    exact⟨b,rfl,trivial⟩
   ·next hk1 =>
    rw[hk1]at hk;simp only at hk;subst hk
    obtain⟨s,rfl,hx,_⟩:=DataW.trod_string hu ht
    cases hx
    refine⟨s.data.toList,rfl,?_⟩
    have:=hw _ (by rw[DataW.weights];exact List.mem_cons_self)
    simpa [Wf,reachBytes]using this
   ·next hk1 =>
    rw[hk1]at hk;simp only at hk;subst hk
    cases fuel with
    |zero=>simp[DataW.trod]at ht
    |succ m =>
     unfold DataW.trod at ht
     rw[hu]at ht
     split at ht
     case h_3 k k' b e1 =>
      simp only[Option.some.injEq,TypeDesc.float.injEq]at e1
      subst e1
      split at ht
      ·next hh =>
       obtain⟨rfl,hwf⟩:=hh
       refine⟨b,rfl,?_⟩
       simpa [Lit.wf,Wf]using hwf
      ·cases ht
     all_goals simp_all
   ·next e hk1 =>
    rw[hk1]at hk;simp only at hk;subst hk
    simp only[Bool.and_eq_true]at h
    obtain⟨h1,h2⟩:=h
    split at h1
    ·next ei hei =>
     simp only[Bool.and_eq_true]at h1
     obtain⟨⟨h3,h4⟩,h5⟩:=h1
     have h3:0<ei.size:=Nat.le_of_ble_eq_true h3
     have h4:=beqN.1 h4
     have h5:=Nat.le_of_ble_eq_true h5
     have hE:=T _ _ hei
     rcases DataW.trod_slice hu ht with⟨rfl,_⟩|⟨a,len,cap,elems,rest,m,rfl,rfl,hx,_,hlc,hcm,hel,hat,_⟩
     ·exact⟨[],⟨none,0,rfl,Nat.le_refl _,.inl rfl⟩,by simp,fun y hy=>by cases hy⟩
     ·cases hx
      rw[DataW.weights,hu]at hw
      simp only at hw
      have hlen:=hw _ List.mem_cons_self
      rw[List.length_map,List.length_map,hE.bytesOf]at hlen
      rw[hE.cellsOf,h4]at hat
      have ih:=wq1di T n _ _ h2
      have each:∀ i,i<len→∃(y:e.T) (c:List Value),RD w (fun _=>True) e y c∧Wf e y∧∀(j:Nat) (u:Value),c[j]? = some u→w.cell? (a.add (i*e.sz+j))=some u:=by
       intro i hi
       have h6:=hat i hi
       have h7:elems[i]? = some elems[i]:=by simp[hel,hi]
       rw[h7]at h6
       cases hc:w.cells? 0 (a.add (i*e.sz)) e.sz with
       |none=>rw[hc]at h6;simp at h6
       |some c =>
        rw[hc,Option.bind_some]at h6
        obtain⟨y,hy1,hy2⟩:=ih m c elems[i].1 elems[i].2 (by rw[h6]) (fun q hq=>hw q (List.mem_cons_of_mem _ (List.mem_append_left _ (wqpi (List.mem_map.2 ⟨elems[i],List.getElem_mem _,rfl⟩) q hq))))
        obtain⟨_,hcell⟩:=wq1f4 (P:=P) hc
        refine⟨y,c,hy1,hy2,fun j u hj => ?_⟩
        rw[←Addr.add_add];exact hcell j u hj
      have all:∃ l:List e.T,l.length=len∧(∀ y∈l,Wf e y)∧∀(i:Nat) (y:e.T),l[i]? = some y→∃ c,RD w (fun _=>True) e y c∧∀(j:Nat) (u:Value),c[j]? = some u→w.cell? (a.add (i*e.sz+j))=some u:=by
       have key:∀ k,k≤len→∃ l:List e.T,l.length=k∧(∀ y∈l,Wf e y)∧∀(i:Nat) (y:e.T),l[i]? = some y→∃ c,RD w (fun _=>True) e y c∧∀(j:Nat) (u:Value),c[j]? = some u→w.cell? (a.add (i*e.sz+j))=some u:=by
        intro k
        induction k with
        |zero=>intro _;exact⟨[],rfl,fun y hy=>(by cases hy),fun i y hi=>by simp at hi⟩
        |succ k ihk =>
         intro hk
         obtain⟨l,hl1,hl2,hl3⟩:=ihk (by omega)
         obtain⟨y,c,e1,e2,e3⟩:=each k (by omega)
         refine⟨l++[y],by simp[hl1],fun z hz => ?_,fun i z hz => ?_⟩
         ·rcases List.mem_append.1 hz with hz|hz
          ·exact hl2 z hz
          ·simp at hz;subst hz;exact e2
         ·by_cases hi:i<l.length
          ·rw[List.getElem?_append_left hi]at hz;exact hl3 i z hz
          ·rw[List.getElem?_append_right (by omega)]at hz
           have hi2:i=k:=by
            have:=(List.getElem?_eq_some_iff.1 hz).1
            simp at this;omega
           subst hi2
           simp[hl1]at hz;subst hz
           exact⟨c,e1,e3⟩
       exact key len (Nat.le_refl _)
      obtain⟨l,hl1,hl2,hl3⟩:=all
      refine⟨l,⟨some a,cap,by rw[hl1],by omega,?_⟩,?_,hl2⟩
      ·by_cases hnil:l=[]
       ·exact .inl hnil
       ·refine .inr ⟨a,rfl,trivial,?_,hl3⟩
        have hpos:0<l.length:=List.length_pos_iff.2 hnil
        obtain⟨c,hc,hu'⟩:=hl3 0 l[0] (by simp)
        have hcl:=hc.len
        have h0c:0<c.length:=by omega
        have:=hu' 0 c[0] (by simp[h0c])
        simp only[Nat.zero_mul,Nat.add_zero,Addr.add_zero']at this
        refine Classical.byContradiction fun hno => ?_
        simp[World.cell?,Array.getElem?_eq_none (Nat.le_of_not_lt hno)]at this
      ·rw[hl1,←hel]
       refine Nat.le_trans (Nat.mul_le_mul_left _ h5) ?_
       refine Nat.le_trans (Nat.mul_le_mul_right _ (Nat.le_add_right _ rest.length)) ?_
       simpa [reachBytes]using hlen
    ·cases h1
   ·next hk1 =>
    rw[hk1]at hk;simp only at hk
    obtain⟨fs,rfl,hfs,_⟩:=hk
    simp only[Bool.and_eq_true]at h
    obtain⟨h1,h2⟩:=h
    obtain⟨xs,m,rfl,hx,hcl,hxl,hat⟩:=DataW.trod_struct hu ht
    cases hx
    rw[DataW.weights,hu]at hw
    simp only at hw
    rw[hT.cellsOf,beqN.1 h2]at hcl
    have:=wq1ab (enc:=enc) (w:=w) (spare:=spare) (held:=held) T (f:=readB ty n) (fun t K h=>wq1di T n t K h) (n:=m) (cs:=cs) fs.toList ti.fs 0 _ xs hfs h1 (fun i g hg=>hat i g (by simpa using hg)) (by simpa using hxl) hw (by omega)
    rwa [List.drop_zero]at this
   ·cases h
theorem okT{h:Heap}{G:Gh}(hh:∀ n,h n=none)(hX:∀ b,¬ G.X b){b:Nat}: okB h G b:=⟨fun n hn=>by simp[blkOf,hh n]at hn,hX b⟩
theorem wq127 (T:TyOk P ty) {n base:Nat} {r:Reach} {t:TypeId} {K:Kd} (hr:readB ty n t K=true) (hs:(match ty t with|some ti=>(match ti.k with | .struct=>false|_=>true)|none=>false)=true) {v:Value} {d:DataW H} {p:List MemPlace} (hval:Value.okWide P w r base t v) (hd:DataW.Trod enc P w 0 spare held t v d p)
 (hw:∀ m∈DataW.weights P t d,m≤reachBytes) {h:Heap} {G:Gh} (hh:∀ n,h n=none) (hX:∀ b,¬ G.X b):∃ x:K.T,Wf K x∧RV h G w (.v K x) v:=by
 obtain⟨fuel,hf⟩:=hd
 obtain⟨x,h1,h2⟩:=wq1di T n t K hr fuel _ d p hf hw
 refine⟨x,h2,?_⟩
 have hc:v.cells.toList=[v]:=by
  split at hs
  ·next ti hti =>
   obtain⟨td,hu,hk⟩:=(T _ _ hti).kind
   rw[readB.eq_def]at hr
   cases n with
   |zero=>simp at hr
   |succ n =>
    simp only[hti]at hr
    split at hr
    ·next hk1=>rw[hk1]at hk;simp only at hk;subst hk;obtain⟨m,rfl⟩:=WideShapes.okWide_int hu hval;rfl
    ·next hk1=>rw[hk1]at hk;simp only at hk;subst hk;simp only[Value.okWide,hu,Cell.okWide]at hval;cases v<;>simp_all [Cell.ok,Value.cells]
    ·next hk1=>rw[hk1]at hk;simp only at hk;subst hk;obtain⟨m,rfl⟩:=WideShapes.okWide_string hu hval;rfl
    ·next hk1=>rw[hk1]at hk;simp only at hk;subst hk;simp only[Value.okWide,hu,Cell.okWide]at hval;cases v<;>simp_all [Cell.ok,Value.cells]
    ·next hk1=>rw[hk1]at hk;simp only at hk;subst hk;obtain⟨a,l,c,rfl⟩:=WideShapes.okWide_slice hu hval;rfl
    ·next hk1=>rw[hk1]at hs;cases hs
    ·cases hr
  ·cases hs
 show RD w (okB h G) K x [v]
 rw[←hc]
 exact h1.mono fun b _ _=>⟨okT hh hX,rfl⟩
def lawK:Out→Option Bool
 |.ret [.v .bool y] []=>some y
 |_=>none
def G0:Gh:=⟨fun _=>0,fun _ => .nilIface,fun _=>False⟩
theorem enters{f:FuncId}{fn:Func}{c:Code}(hfn:P.funcs[f]? = some fn)(hb:fn.body=some c)(hname:(fn.name == "runtime.NumGoroutine")=false)(args:Array Value)(w:World): (callFunc f args).run P w = .ok (.enter f args) w:=by
 have hn2:¬ fn.name = "runtime.NumGoroutine" := by simpa using hname
 simp[callFunc,program,Sem.run,hfn,hn2,hb]
theorem wq1f5{f:FuncId}{fn:Func}{c:Code}(hfn:P.funcs[f]? = some fn)(hb:fn.body=some c)(hname:(fn.name == "runtime.NumGoroutine")=false){ps:List PV}{b:Bool}(h:DoesTo P f ps [] fun out=>lawK out=some b){vals:List Value}(hv:RVs (mkH []) G0 w ps vals):
 Calls P f vals.toArray w fun e w'=>e = .returned (.bool b)∧Below w.heap.size w w':=by
 have:=h G0 w vals hv (fun n o hn=>by cases hn) ⟨fun n m b hn=>by simp[blkOf,mkH,look]at hn,fun n b hn=>by simp[blkOf,mkH,look]at hn,fun b hb=>hb.elim⟩
 unfold Does at this
 rw[enters hfn hb hname]at this
 refine Calls.mono this fun e w' hh => ?_
 obtain⟨out,ho,G',hout,F⟩:=hh
 unfold lawK at ho
 split at ho
 ·cases ho
  obtain⟨v,rfl,hv⟩:=hout
  have hv:RD _ _ .bool b [v]:=hv
  simp only[RD,List.cons.injEq,and_true]at hv
  subst hv
  exact⟨rfl,F.os,F.tape,F.out,F.grow,fun k hk=>F.blk k hk fun n hn=>by simp[blkOf,mkH,look]at hn⟩
 ·cases ho
theorem wq1dj{ts:List TypeId}{ds:List (DataW H)}{vt:List TypeId}{gs:List (DataW H)}(h:(DataW.weightsEach P (ts++vt) (ds++gs)).all (· ≤ reachBytes)=true): ∀(i:Nat) (t:TypeId) (d:DataW H),ts[i]? = some t→ds[i]? = some d→∀ m∈DataW.weights P t d,m≤reachBytes:=by
 have key:∀(ts:List TypeId) (ds:List (DataW H)),(∀ m∈DataW.weightsEach P (ts++vt) (ds++gs),m≤reachBytes)→∀(i:Nat) (t:TypeId) (d:DataW H),ts[i]? = some t→ds[i]? = some d→∀ m∈DataW.weights P t d,m≤reachBytes:=by
  intro ts
  induction ts with
  |nil=>intro ds _ i t d ht;simp at ht
  |cons t0 ts ih =>
   intro ds hw i t d ht hd m hm
   cases ds with
   |nil=>simp at hd
   |cons d0 ds =>
    simp only[List.cons_append,DataW.weightsEach]at hw
    cases i with
    |zero=>simp at ht hd;subst ht hd;exact hw m (List.mem_append_left _ hm)
    |succ i=>exact ih ds (fun m hm=>hw m (List.mem_append_right _ hm)) i t d (by simpa using ht) (by simpa using hd) m hm
 exact key ts ds (by simpa using h)
end
end Go.Proofs.YtbjkpddloieekaaGreatDoor.Pvm
set_option maxRecDepth 100000
namespace Go.Proofs.YtbjkpddloieekaaGreatDoor.Pvm
open Go Go.Proofs
abbrev kI:Kd := .int .i64
abbrev kdT25:Kd:=(.pr (.int .i64) (.pr (.int .i64) (.pr .str (.pr .bool (.pr (.sl .str) (.sl (.int .i64)))))))
abbrev kdT28:Kd:=(.sl (.pr (.int .i64) (.pr (.int .i64) (.pr .str (.pr .bool (.pr (.sl .str) (.sl (.int .i64))))))))
abbrev kdT158:Kd:=(.pr (.int .i64) (.pr (.int .i64) (.pr (.int .i64) (.pr .str .bool))))
abbrev dT158:Type:=(Int×(Int×(Int×((List UInt8)×Bool))))
abbrev dT25:Type:=(Int×(Int×((List UInt8)×(Bool×((List (List UInt8))×(List Int))))))
theorem mixed:Tryz.prog.follows .mixedOrders=true:=by kernel_rfl
def ti1:TI:=⟨.other,1,8,none,[.un],[],0,false⟩
theorem ti1_ok:TiOk Tryz.prog 1 ti1:=TiOk.of (z:=Go.Value.nilFunc) (d:=(@Go.TypeDesc.func (@Array.mk Nat (@List.nil Nat)) (@Array.mk Nat (@List.nil Nat)) Bool.false)) (by kernel_rfl) (by kernel_rfl) (by kernel_rfl) trivial rfl trivial (by kernel_rfl) (fun h=>nomatch h)
def ti2:TI:=⟨.int .i64,1,8,some (.int .i64),[.v (.int .i64) 0],[],0,false⟩
theorem ti2_ok:TiOk Tryz.prog 2 ti2:=TiOk.of (z:=(@Go.Value.int Go.IntKind.i64 (@Int.ofNat 0))) (d:=(@Go.TypeDesc.int Go.IntKind.i64)) (by kernel_rfl) (by kernel_rfl) (by kernel_rfl) ⟨by kernel_rfl,by kernel_rfl⟩ rfl rfl (by kernel_rfl) (fun h=>nomatch h)
def ti3:TI:=⟨.int .i64,1,8,some (.int .i64),[.v (.int .i64) 0],[],0,false⟩
theorem ti3_ok:TiOk Tryz.prog 3 ti3:=TiOk.of (z:=(@Go.Value.int Go.IntKind.i64 (@Int.ofNat 0))) (d:=(@Go.TypeDesc.int Go.IntKind.i64)) (by kernel_rfl) (by kernel_rfl) (by kernel_rfl) ⟨by kernel_rfl,by kernel_rfl⟩ rfl rfl (by kernel_rfl) (fun h=>nomatch h)
def ti4:TI:=⟨.bool,1,1,some .bool,[.v .bool false],[],0,false⟩
theorem ti4_ok:TiOk Tryz.prog 4 ti4:=TiOk.of (z:=(@Go.Value.bool Bool.false)) (d:=Go.TypeDesc.bool) (by kernel_rfl) (by kernel_rfl) (by kernel_rfl) ⟨by kernel_rfl,by kernel_rfl⟩ rfl rfl (by kernel_rfl) (fun h=>nomatch h)
def ti5:TI:=⟨.int .u8,1,1,some (.int .u8),[.v (.int .u8) 0],[],0,false⟩
theorem ti5_ok:TiOk Tryz.prog 5 ti5:=TiOk.of (z:=(@Go.Value.int Go.IntKind.u8 (@Int.ofNat 0))) (d:=(@Go.TypeDesc.int Go.IntKind.u8)) (by kernel_rfl) (by kernel_rfl) (by kernel_rfl) ⟨by kernel_rfl,by kernel_rfl⟩ rfl rfl (by kernel_rfl) (fun h=>nomatch h)
def ti6:TI:=⟨.int .u8,1,1,some (.int .u8),[.v (.int .u8) 0],[],0,false⟩
theorem ti6_ok:TiOk Tryz.prog 6 ti6:=TiOk.of (z:=(@Go.Value.int Go.IntKind.u8 (@Int.ofNat 0))) (d:=(@Go.TypeDesc.int Go.IntKind.u8)) (by kernel_rfl) (by kernel_rfl) (by kernel_rfl) ⟨by kernel_rfl,by kernel_rfl⟩ rfl rfl (by kernel_rfl) (fun h=>nomatch h)
def ti7:TI:=⟨.struct,4,24,some (.pr (.int .i64) (.pr (.int .i64) (.pr .bool (.int .u8)))),[.v (.int .i64) 0,.v (.int .i64) 0,.v .bool false,.v (.int .u8) 0],[(0,2),(1,3),(2,4),(3,6)],0,true⟩
theorem ti7_ok:TiOk Tryz.prog 7 ti7:=TiOk.of (z:=(@Go.Value.agg (@Array.mk Go.Value (@List.cons Go.Value (@Go.Value.int Go.IntKind.i64 (@Int.ofNat 0)) (@List.cons Go.Value (@Go.Value.int Go.IntKind.i64 (@Int.ofNat 0)) (@List.cons Go.Value (@Go.Value.bool Bool.false) (@List.cons Go.Value (@Go.Value.int Go.IntKind.u8 (@Int.ofNat 0)) (@List.nil Go.Value)))))))) (d:=(@Go.TypeDesc.struct (@Array.mk Go.Field (@List.cons Go.Field (@Go.Field.mk "x" 2 0 Bool.false "" "runtime" 0) (@List.cons Go.Field (@Go.Field.mk "y" 3 1 Bool.false "" "runtime" 8) (@List.cons Go.Field (@Go.Field.mk "signed" 4 2 Bool.false "" "runtime" 16) (@List.cons Go.Field (@Go.Field.mk "code" 6 3 Bool.false "" "runtime" 17) (@List.nil Go.Field)))))))) (by kernel_rfl) (by kernel_rfl) (by kernel_rfl) ⟨by kernel_rfl,by kernel_rfl⟩ ⟨_,rfl⟩ ⟨_,rfl,by kernel_rfl,by kernel_rfl⟩ (by kernel_rfl) (fun _ _=>by kernel_rfl)
def ti9:TI:=⟨.str,1,16,some .str,[.v .str []],[],0,false⟩
theorem ti9_ok:TiOk Tryz.prog 9 ti9:=TiOk.of (z:=(@Go.Value.string (@ByteArray.mk (@Array.mk UInt8 (@List.nil UInt8))))) (d:=Go.TypeDesc.string) (by kernel_rfl) (by kernel_rfl) (by kernel_rfl) ⟨by kernel_rfl,by kernel_rfl⟩ rfl rfl (by kernel_rfl) (fun h=>nomatch h)
def ti20:TI:=⟨.iface,1,16,none,[.nilif],[],0,false⟩
theorem wq1i0:TiOk Tryz.prog 20 ti20:=TiOk.of (z:=Go.Value.nilIface) (d:=(@Go.TypeDesc.interface (@Array.mk (@Prod String Nat) (@List.nil (@Prod String Nat))))) (by kernel_rfl) (by kernel_rfl) (by kernel_rfl) trivial rfl ⟨_,rfl⟩ (by kernel_rfl) (fun h=>nomatch h)
def ti21:TI:=⟨.int .i32,1,4,some (.int .i32),[.v (.int .i32) 0],[],0,false⟩
theorem wq1i1:TiOk Tryz.prog 21 ti21:=TiOk.of (z:=(@Go.Value.int Go.IntKind.i32 (@Int.ofNat 0))) (d:=(@Go.TypeDesc.int Go.IntKind.i32)) (by kernel_rfl) (by kernel_rfl) (by kernel_rfl) ⟨by kernel_rfl,by kernel_rfl⟩ rfl rfl (by kernel_rfl) (fun h=>nomatch h)
def ti23:TI:=⟨.slice,1,24,some (.sl .str),[.nilsl],[],9,false⟩
theorem wq1i2:TiOk Tryz.prog 23 ti23:=TiOk.of (z:=(@Go.Value.slice (@Option.none Go.Addr) 0 0)) (d:=(@Go.TypeDesc.slice 9)) (by kernel_rfl) (by kernel_rfl) (by kernel_rfl) ⟨by kernel_rfl,by kernel_rfl⟩ rfl rfl (by kernel_rfl) (fun h=>nomatch h)
def ti24:TI:=⟨.slice,1,24,some (.sl (.int .i64)),[.nilsl],[],3,false⟩
theorem wq1i3:TiOk Tryz.prog 24 ti24:=TiOk.of (z:=(@Go.Value.slice (@Option.none Go.Addr) 0 0)) (d:=(@Go.TypeDesc.slice 3)) (by kernel_rfl) (by kernel_rfl) (by kernel_rfl) ⟨by kernel_rfl,by kernel_rfl⟩ rfl rfl (by kernel_rfl) (fun h=>nomatch h)
def ti26:TI:=⟨.struct,6,88,some (.pr (.int .i64) (.pr (.int .i64) (.pr .str (.pr .bool (.pr (.sl .str) (.sl (.int .i64))))))),[.v (.int .i64) 0,.v (.int .i64) 0,.v .str [],.v .bool false,.nilsl,.nilsl],[(0,3),(1,3),(2,9),(3,4),(4,23),(5,24)],0,false⟩
theorem wq1i4:TiOk Tryz.prog 26 ti26:=TiOk.of (z:=(@Go.Value.agg (@Array.mk Go.Value (@List.cons Go.Value (@Go.Value.int Go.IntKind.i64 (@Int.ofNat 0)) (@List.cons Go.Value (@Go.Value.int Go.IntKind.i64 (@Int.ofNat 0)) (@List.cons Go.Value (@Go.Value.string (@ByteArray.mk (@Array.mk UInt8 (@List.nil UInt8)))) (@List.cons Go.Value (@Go.Value.bool Bool.false) (@List.cons Go.Value (@Go.Value.slice (@Option.none Go.Addr) 0 0) (@List.cons Go.Value (@Go.Value.slice (@Option.none Go.Addr) 0 0) (@List.nil Go.Value)))))))))) (d:=(@Go.TypeDesc.struct (@Array.mk Go.Field (@List.cons Go.Field (@Go.Field.mk "Kind" 3 0 Bool.false "" "" 0) (@List.cons Go.Field (@Go.Field.mk "Line" 3 1 Bool.false "" "" 8) (@List.cons Go.Field (@Go.Field.mk "Text" 9 2 Bool.false "" "" 16) (@List.cons Go.Field (@Go.Field.mk "Quoted" 4 3 Bool.false "" "" 32) (@List.cons Go.Field (@Go.Field.mk "Keys" 23 4 Bool.false "" "" 40) (@List.cons Go.Field (@Go.Field.mk "Kids" 24 5 Bool.false "" "" 64) (@List.nil Go.Field)))))))))) (by kernel_rfl) (by kernel_rfl) (by kernel_rfl) ⟨by kernel_rfl,by kernel_rfl⟩ ⟨_,rfl⟩ ⟨_,rfl,by kernel_rfl,by kernel_rfl⟩ (by kernel_rfl) (fun h=>nomatch h)
def ti27:TI:=⟨.slice,1,24,some (.sl (.pr (.int .i64) (.pr (.int .i64) (.pr .str (.pr .bool (.pr (.sl .str) (.sl (.int .i64)))))))),[.nilsl],[],26,false⟩
theorem wq1i5:TiOk Tryz.prog 27 ti27:=TiOk.of (z:=(@Go.Value.slice (@Option.none Go.Addr) 0 0)) (d:=(@Go.TypeDesc.slice 26)) (by kernel_rfl) (by kernel_rfl) (by kernel_rfl) ⟨by kernel_rfl,by kernel_rfl⟩ rfl rfl (by kernel_rfl) (fun h=>nomatch h)
def ti29:TI:=⟨.struct,1,24,some (.sl (.pr (.int .i64) (.pr (.int .i64) (.pr .str (.pr .bool (.pr (.sl .str) (.sl (.int .i64)))))))),[.nilsl],[(0,27)],0,false⟩
theorem wq1i6:TiOk Tryz.prog 29 ti29:=TiOk.of (z:=(@Go.Value.agg (@Array.mk Go.Value (@List.cons Go.Value (@Go.Value.slice (@Option.none Go.Addr) 0 0) (@List.nil Go.Value))))) (d:=(@Go.TypeDesc.struct (@Array.mk Go.Field (@List.cons Go.Field (@Go.Field.mk "Nodes" 27 0 Bool.false "" "" 0) (@List.nil Go.Field))))) (by kernel_rfl) (by kernel_rfl) (by kernel_rfl) ⟨by kernel_rfl,by kernel_rfl⟩ ⟨_,rfl⟩ ⟨_,rfl,by kernel_rfl,by kernel_rfl⟩ (by kernel_rfl) (fun h=>nomatch h)
def ti31:TI:=⟨.struct,2,16,some (.pr (.int .i64) (.int .i64)),[.v (.int .i64) 0,.v (.int .i64) 0],[(0,3),(1,3)],0,true⟩
theorem wq1i7:TiOk Tryz.prog 31 ti31:=TiOk.of (z:=(@Go.Value.agg (@Array.mk Go.Value (@List.cons Go.Value (@Go.Value.int Go.IntKind.i64 (@Int.ofNat 0)) (@List.cons Go.Value (@Go.Value.int Go.IntKind.i64 (@Int.ofNat 0)) (@List.nil Go.Value)))))) (d:=(@Go.TypeDesc.struct (@Array.mk Go.Field (@List.cons Go.Field (@Go.Field.mk "Kind" 3 0 Bool.false "" "" 0) (@List.cons Go.Field (@Go.Field.mk "Line" 3 1 Bool.false "" "" 8) (@List.nil Go.Field)))))) (by kernel_rfl) (by kernel_rfl) (by kernel_rfl) ⟨by kernel_rfl,by kernel_rfl⟩ ⟨_,rfl⟩ ⟨_,rfl,by kernel_rfl,by kernel_rfl⟩ (by kernel_rfl) (fun _ _=>by kernel_rfl)
def ti36:TI:=⟨.flt,1,8,some .flt,[.v .flt 0],[],0,false⟩
theorem wq1i8:TiOk Tryz.prog 36 ti36:=TiOk.of (z:=(@Go.Value.float Go.FloatKind.f64 0)) (d:=(@Go.TypeDesc.float Go.FloatKind.f64)) (by kernel_rfl) (by kernel_rfl) (by kernel_rfl) ⟨by kernel_rfl,by kernel_rfl⟩ rfl rfl (by kernel_rfl) (fun h=>nomatch h)
def ti41:TI:=⟨.int .i64,1,8,some (.int .i64),[.v (.int .i64) 0],[],0,false⟩
theorem wq1i9:TiOk Tryz.prog 41 ti41:=TiOk.of (z:=(@Go.Value.int Go.IntKind.i64 (@Int.ofNat 0))) (d:=(@Go.TypeDesc.int Go.IntKind.i64)) (by kernel_rfl) (by kernel_rfl) (by kernel_rfl) ⟨by kernel_rfl,by kernel_rfl⟩ rfl rfl (by kernel_rfl) (fun h=>nomatch h)
def ti44:TI:=⟨.slice,1,24,some (.sl (.pr .str (.sl (.int .i64)))),[.nilsl],[],82,false⟩
theorem wq1ia:TiOk Tryz.prog 44 ti44:=TiOk.of (z:=(@Go.Value.slice (@Option.none Go.Addr) 0 0)) (d:=(@Go.TypeDesc.slice 82)) (by kernel_rfl) (by kernel_rfl) (by kernel_rfl) ⟨by kernel_rfl,by kernel_rfl⟩ rfl rfl (by kernel_rfl) (fun h=>nomatch h)
def ti45:TI:=⟨.slice,1,24,some (.sl (.pr .str (.pr .str (.pr .bool (.pr (.int .i64) (.pr (.int .i64) (.pr .bool (.pr (.pr .str (.pr (.int .i64) (.pr (.int .i64) (.pr .flt (.pr .bool .bool))))) (.sl (.int .i64)))))))))),[.nilsl],[],138,false⟩
theorem wq1ib:TiOk Tryz.prog 45 ti45:=TiOk.of (z:=(@Go.Value.slice (@Option.none Go.Addr) 0 0)) (d:=(@Go.TypeDesc.slice 138)) (by kernel_rfl) (by kernel_rfl) (by kernel_rfl) ⟨by kernel_rfl,by kernel_rfl⟩ rfl rfl (by kernel_rfl) (fun h=>nomatch h)
def ti47:TI:=⟨.struct,2,48,some (.pr (.sl (.pr .str (.sl (.int .i64)))) (.sl (.pr .str (.pr .str (.pr .bool (.pr (.int .i64) (.pr (.int .i64) (.pr .bool (.pr (.pr .str (.pr (.int .i64) (.pr (.int .i64) (.pr .flt (.pr .bool .bool))))) (.sl (.int .i64))))))))))),[.nilsl,.nilsl],[(0,44),(1,45)],0,false⟩
theorem wq1ic:TiOk Tryz.prog 47 ti47:=TiOk.of (z:=(@Go.Value.agg (@Array.mk Go.Value (@List.cons Go.Value (@Go.Value.slice (@Option.none Go.Addr) 0 0) (@List.cons Go.Value (@Go.Value.slice (@Option.none Go.Addr) 0 0) (@List.nil Go.Value)))))) (d:=(@Go.TypeDesc.struct (@Array.mk Go.Field (@List.cons Go.Field (@Go.Field.mk "Domains" 44 0 Bool.false "" "" 0) (@List.cons Go.Field (@Go.Field.mk "Branches" 45 1 Bool.false "" "" 24) (@List.nil Go.Field)))))) (by kernel_rfl) (by kernel_rfl) (by kernel_rfl) ⟨by kernel_rfl,by kernel_rfl⟩ ⟨_,rfl⟩ ⟨_,rfl,by kernel_rfl,by kernel_rfl⟩ (by kernel_rfl) (fun h=>nomatch h)
def ti49:TI:=⟨.slice,1,24,some (.sl (.int .u8)),[.nilsl],[],5,false⟩
theorem wq1id:TiOk Tryz.prog 49 ti49:=TiOk.of (z:=(@Go.Value.slice (@Option.none Go.Addr) 0 0)) (d:=(@Go.TypeDesc.slice 5)) (by kernel_rfl) (by kernel_rfl) (by kernel_rfl) ⟨by kernel_rfl,by kernel_rfl⟩ rfl rfl (by kernel_rfl) (fun h=>nomatch h)
def ti64:TI:=⟨.struct,1,24,some (.sl (.pr (.int .i64) (.pr (.int .i64) (.pr .str (.pr .bool (.pr (.sl .str) (.sl (.int .i64)))))))),[.nilsl],[(0,29)],0,false⟩
theorem wq1ie:TiOk Tryz.prog 64 ti64:=TiOk.of (z:=(@Go.Value.agg (@Array.mk Go.Value (@List.cons Go.Value (@Go.Value.slice (@Option.none Go.Addr) 0 0) (@List.nil Go.Value))))) (d:=(@Go.TypeDesc.struct (@Array.mk Go.Field (@List.cons Go.Field (@Go.Field.mk "D" 29 0 Bool.false "" "" 0) (@List.nil Go.Field))))) (by kernel_rfl) (by kernel_rfl) (by kernel_rfl) ⟨by kernel_rfl,by kernel_rfl⟩ ⟨_,rfl⟩ ⟨_,rfl,by kernel_rfl,by kernel_rfl⟩ (by kernel_rfl) (fun h=>nomatch h)
def ti74:TI:=⟨.ptr,1,8,none,[.nilptr],[],76,false⟩
theorem wq1if:TiOk Tryz.prog 74 ti74:=TiOk.of (z:=(@Go.Value.pointer (@Option.none Go.Addr))) (d:=(@Go.TypeDesc.pointer 76)) (by kernel_rfl) (by kernel_rfl) (by kernel_rfl) trivial rfl rfl (by kernel_rfl) (fun h=>nomatch h)
def ti76:TI:=⟨.struct,1,24,some (.sl (.pr (.int .i64) (.pr (.int .i64) (.pr .str (.pr .bool (.pr (.sl .str) (.sl (.int .i64)))))))),[.nilsl],[(0,27)],0,false⟩
theorem wq1ig:TiOk Tryz.prog 76 ti76:=TiOk.of (z:=(@Go.Value.agg (@Array.mk Go.Value (@List.cons Go.Value (@Go.Value.slice (@Option.none Go.Addr) 0 0) (@List.nil Go.Value))))) (d:=(@Go.TypeDesc.struct (@Array.mk Go.Field (@List.cons Go.Field (@Go.Field.mk "nodes" 27 0 Bool.false "" "turncock/turncockref15" 0) (@List.nil Go.Field))))) (by kernel_rfl) (by kernel_rfl) (by kernel_rfl) ⟨by kernel_rfl,by kernel_rfl⟩ ⟨_,rfl⟩ ⟨_,rfl,by kernel_rfl,by kernel_rfl⟩ (by kernel_rfl) (fun h=>nomatch h)
def ti82:TI:=⟨.struct,2,40,some (.pr .str (.sl (.int .i64))),[.v .str [],.nilsl],[(0,9),(1,24)],0,false⟩
theorem wq1ih:TiOk Tryz.prog 82 ti82:=TiOk.of (z:=(@Go.Value.agg (@Array.mk Go.Value (@List.cons Go.Value (@Go.Value.string (@ByteArray.mk (@Array.mk UInt8 (@List.nil UInt8)))) (@List.cons Go.Value (@Go.Value.slice (@Option.none Go.Addr) 0 0) (@List.nil Go.Value)))))) (d:=(@Go.TypeDesc.struct (@Array.mk Go.Field (@List.cons Go.Field (@Go.Field.mk "Name" 9 0 Bool.false "" "" 0) (@List.cons Go.Field (@Go.Field.mk "Kids" 24 1 Bool.false "" "" 16) (@List.nil Go.Field)))))) (by kernel_rfl) (by kernel_rfl) (by kernel_rfl) ⟨by kernel_rfl,by kernel_rfl⟩ ⟨_,rfl⟩ ⟨_,rfl,by kernel_rfl,by kernel_rfl⟩ (by kernel_rfl) (fun h=>nomatch h)
def ti85:TI:=⟨.ptr,1,8,none,[.nilptr],[],87,false⟩
theorem wq1ii:TiOk Tryz.prog 85 ti85:=TiOk.of (z:=(@Go.Value.pointer (@Option.none Go.Addr))) (d:=(@Go.TypeDesc.pointer 87)) (by kernel_rfl) (by kernel_rfl) (by kernel_rfl) trivial rfl rfl (by kernel_rfl) (fun h=>nomatch h)
def ti87:TI:=⟨.struct,2,32,some (.pr (.sl (.int .i64)) (.int .i64)),[.nilsl,.v (.int .i64) 0],[(0,24),(1,3)],0,false⟩
theorem wq1ij:TiOk Tryz.prog 87 ti87:=TiOk.of (z:=(@Go.Value.agg (@Array.mk Go.Value (@List.cons Go.Value (@Go.Value.slice (@Option.none Go.Addr) 0 0) (@List.cons Go.Value (@Go.Value.int Go.IntKind.i64 (@Int.ofNat 0)) (@List.nil Go.Value)))))) (d:=(@Go.TypeDesc.struct (@Array.mk Go.Field (@List.cons Go.Field (@Go.Field.mk "L" 24 0 Bool.false "" "" 0) (@List.cons Go.Field (@Go.Field.mk "At" 3 1 Bool.false "" "" 24) (@List.nil Go.Field)))))) (by kernel_rfl) (by kernel_rfl) (by kernel_rfl) ⟨by kernel_rfl,by kernel_rfl⟩ ⟨_,rfl⟩ ⟨_,rfl,by kernel_rfl,by kernel_rfl⟩ (by kernel_rfl) (fun h=>nomatch h)
def ti90:TI:=⟨.ptr,1,8,none,[.nilptr],[],47,false⟩
theorem wq1ik:TiOk Tryz.prog 90 ti90:=TiOk.of (z:=(@Go.Value.pointer (@Option.none Go.Addr))) (d:=(@Go.TypeDesc.pointer 47)) (by kernel_rfl) (by kernel_rfl) (by kernel_rfl) trivial rfl rfl (by kernel_rfl) (fun h=>nomatch h)
def ti91:TI:=⟨.ptr,1,8,none,[.nilptr],[],96,false⟩
theorem wq1il:TiOk Tryz.prog 91 ti91:=TiOk.of (z:=(@Go.Value.pointer (@Option.none Go.Addr))) (d:=(@Go.TypeDesc.pointer 96)) (by kernel_rfl) (by kernel_rfl) (by kernel_rfl) trivial rfl rfl (by kernel_rfl) (fun h=>nomatch h)
def ti92:TI:=⟨.ptr,1,8,none,[.nilptr],[],94,false⟩
theorem wq1im:TiOk Tryz.prog 92 ti92:=TiOk.of (z:=(@Go.Value.pointer (@Option.none Go.Addr))) (d:=(@Go.TypeDesc.pointer 94)) (by kernel_rfl) (by kernel_rfl) (by kernel_rfl) trivial rfl rfl (by kernel_rfl) (fun h=>nomatch h)
def ti94:TI:=⟨.struct,2,32,none,[.nilptr,.nilsl],[(0,92),(1,49)],0,false⟩
theorem wq1in:TiOk Tryz.prog 94 ti94:=TiOk.of (z:=(@Go.Value.agg (@Array.mk Go.Value (@List.cons Go.Value (@Go.Value.pointer (@Option.none Go.Addr)) (@List.cons Go.Value (@Go.Value.slice (@Option.none Go.Addr) 0 0) (@List.nil Go.Value)))))) (d:=(@Go.TypeDesc.struct (@Array.mk Go.Field (@List.cons Go.Field (@Go.Field.mk "addr" 92 0 Bool.false "" "strings" 0) (@List.cons Go.Field (@Go.Field.mk "buf" 49 1 Bool.false "" "strings" 8) (@List.nil Go.Field)))))) (by kernel_rfl) (by kernel_rfl) (by kernel_rfl) trivial ⟨_,rfl⟩ ⟨_,rfl,by kernel_rfl,by kernel_rfl⟩ (by kernel_rfl) (fun h=>nomatch h)
def ti96:TI:=⟨.struct,3,56,none,[.nilsl,.nilptr,.nilsl],[(0,29),(1,94)],0,false⟩
theorem wq1io:TiOk Tryz.prog 96 ti96:=TiOk.of (z:=(@Go.Value.agg (@Array.mk Go.Value (@List.cons Go.Value (@Go.Value.slice (@Option.none Go.Addr) 0 0) (@List.cons Go.Value (@Go.Value.pointer (@Option.none Go.Addr)) (@List.cons Go.Value (@Go.Value.slice (@Option.none Go.Addr) 0 0) (@List.nil Go.Value))))))) (d:=(@Go.TypeDesc.struct (@Array.mk Go.Field (@List.cons Go.Field (@Go.Field.mk "d" 29 0 Bool.false "" "turncock/show" 0) (@List.cons Go.Field (@Go.Field.mk "b" 94 1 Bool.false "" "turncock/show" 24) (@List.nil Go.Field)))))) (by kernel_rfl) (by kernel_rfl) (by kernel_rfl) trivial ⟨_,rfl⟩ ⟨_,rfl,by kernel_rfl,by kernel_rfl⟩ (by kernel_rfl) (fun h=>nomatch h)
def ti99:TI:=⟨.slice,1,24,some (.sl (.pr (.int .i64) (.pr (.int .i64) .str))),[.nilsl],[],153,false⟩
theorem wq1ip:TiOk Tryz.prog 99 ti99:=TiOk.of (z:=(@Go.Value.slice (@Option.none Go.Addr) 0 0)) (d:=(@Go.TypeDesc.slice 153)) (by kernel_rfl) (by kernel_rfl) (by kernel_rfl) ⟨by kernel_rfl,by kernel_rfl⟩ rfl rfl (by kernel_rfl) (fun h=>nomatch h)
def ti102:TI:=⟨.slice,1,24,some (.sl (.pr (.int .i64) (.pr (.int .i64) (.pr (.int .i64) (.pr .str .bool))))),[.nilsl],[],159,false⟩
theorem wq1gi:TiOk Tryz.prog 102 ti102:=TiOk.of (z:=(@Go.Value.slice (@Option.none Go.Addr) 0 0)) (d:=(@Go.TypeDesc.slice 159)) (by kernel_rfl) (by kernel_rfl) (by kernel_rfl) ⟨by kernel_rfl,by kernel_rfl⟩ rfl rfl (by kernel_rfl) (fun h=>nomatch h)
def ti110:TI:=⟨.other,1,8,none,[.un],[],0,false⟩
theorem wq1gj:TiOk Tryz.prog 110 ti110:=TiOk.of (z:=Go.Value.nilFunc) (d:=(@Go.TypeDesc.func (@Array.mk Nat (@List.cons Nat 26 (@List.cons Nat 26 (@List.nil Nat)))) (@Array.mk Nat (@List.cons Nat 4 (@List.nil Nat))) Bool.false)) (by kernel_rfl) (by kernel_rfl) (by kernel_rfl) trivial rfl trivial (by kernel_rfl) (fun h=>nomatch h)
def ti113:TI:=⟨.ptr,1,8,none,[.nilptr],[],115,false⟩
theorem wq1gk:TiOk Tryz.prog 113 ti113:=TiOk.of (z:=(@Go.Value.pointer (@Option.none Go.Addr))) (d:=(@Go.TypeDesc.pointer 115)) (by kernel_rfl) (by kernel_rfl) (by kernel_rfl) trivial rfl rfl (by kernel_rfl) (fun h=>nomatch h)
def ti115:TI:=⟨.struct,3,72,some (.pr (.pr (.sl (.pr .str (.sl (.int .i64)))) (.sl (.pr .str (.pr .str (.pr .bool (.pr (.int .i64) (.pr (.int .i64) (.pr .bool (.pr (.pr .str (.pr (.int .i64) (.pr (.int .i64) (.pr .flt (.pr .bool .bool))))) (.sl (.int .i64))))))))))) (.sl (.pr (.int .i64) (.pr (.int .i64) (.pr .str (.pr .bool (.pr (.sl .str) (.sl (.int .i64))))))))),[.nilsl,.nilsl,.nilsl],[(0,47),(2,27)],0,false⟩
theorem wq1gl:TiOk Tryz.prog 115 ti115:=TiOk.of (z:=(@Go.Value.agg (@Array.mk Go.Value (@List.cons Go.Value (@Go.Value.slice (@Option.none Go.Addr) 0 0) (@List.cons Go.Value (@Go.Value.slice (@Option.none Go.Addr) 0 0) (@List.cons Go.Value (@Go.Value.slice (@Option.none Go.Addr) 0 0) (@List.nil Go.Value))))))) (d:=(@Go.TypeDesc.struct (@Array.mk Go.Field (@List.cons Go.Field (@Go.Field.mk "c" 47 0 Bool.false "" "turncock/dump" 0) (@List.cons Go.Field (@Go.Field.mk "l" 27 2 Bool.false "" "turncock/dump" 48) (@List.nil Go.Field)))))) (by kernel_rfl) (by kernel_rfl) (by kernel_rfl) ⟨by kernel_rfl,by kernel_rfl⟩ ⟨_,rfl⟩ ⟨_,rfl,by kernel_rfl,by kernel_rfl⟩ (by kernel_rfl) (fun h=>nomatch h)
def ti136:TI:=⟨.struct,6,48,some (.pr .str (.pr (.int .i64) (.pr (.int .i64) (.pr .flt (.pr .bool .bool))))),[.v .str [],.v (.int .i64) 0,.v (.int .i64) 0,.v .flt 0,.v .bool false,.v .bool false],[(0,9),(1,3),(2,3),(3,36),(4,4),(5,4)],0,false⟩
theorem wq1gm:TiOk Tryz.prog 136 ti136:=TiOk.of (z:=(@Go.Value.agg (@Array.mk Go.Value (@List.cons Go.Value (@Go.Value.string (@ByteArray.mk (@Array.mk UInt8 (@List.nil UInt8)))) (@List.cons Go.Value (@Go.Value.int Go.IntKind.i64 (@Int.ofNat 0)) (@List.cons Go.Value (@Go.Value.int Go.IntKind.i64 (@Int.ofNat 0)) (@List.cons Go.Value (@Go.Value.float Go.FloatKind.f64 0) (@List.cons Go.Value (@Go.Value.bool Bool.false) (@List.cons Go.Value (@Go.Value.bool Bool.false) (@List.nil Go.Value)))))))))) (d:=(@Go.TypeDesc.struct (@Array.mk Go.Field (@List.cons Go.Field (@Go.Field.mk "Name" 9 0 Bool.false "" "" 0) (@List.cons Go.Field (@Go.Field.mk "Unit" 3 1 Bool.false "" "" 16) (@List.cons Go.Field (@Go.Field.mk "Limit" 3 2 Bool.false "" "" 24) (@List.cons Go.Field (@Go.Field.mk "Near" 36 3 Bool.false "" "" 32) (@List.cons Go.Field (@Go.Field.mk "Shadow" 4 4 Bool.false "" "" 40) (@List.cons Go.Field (@Go.Field.mk "Unlimited" 4 5 Bool.false "" "" 41) (@List.nil Go.Field)))))))))) (by kernel_rfl) (by kernel_rfl) (by kernel_rfl) ⟨by kernel_rfl,by kernel_rfl⟩ ⟨_,rfl⟩ ⟨_,rfl,by kernel_rfl,by kernel_rfl⟩ (by kernel_rfl) (fun h=>nomatch h)
def ti138:TI:=⟨.struct,13,136,some (.pr .str (.pr .str (.pr .bool (.pr (.int .i64) (.pr (.int .i64) (.pr .bool (.pr (.pr .str (.pr (.int .i64) (.pr (.int .i64) (.pr .flt (.pr .bool .bool))))) (.sl (.int .i64))))))))),[.v .str [],.v .str [],.v .bool false,.v (.int .i64) 0,.v (.int .i64) 0,.v .bool false,.v .str [],.v (.int .i64) 0,.v (.int .i64) 0,.v .flt 0,.v .bool false,.v .bool false,.nilsl],[(0,9),(1,9),(2,4),(3,3),(4,3),(5,4),(6,136),(12,24)],0,false⟩
theorem wq1gn:TiOk Tryz.prog 138 ti138:=TiOk.of (z:=(@Go.Value.agg (@Array.mk Go.Value (@List.cons Go.Value (@Go.Value.string (@ByteArray.mk (@Array.mk UInt8 (@List.nil UInt8)))) (@List.cons Go.Value (@Go.Value.string (@ByteArray.mk (@Array.mk UInt8 (@List.nil UInt8)))) (@List.cons Go.Value (@Go.Value.bool Bool.false) (@List.cons Go.Value (@Go.Value.int Go.IntKind.i64 (@Int.ofNat 0)) (@List.cons Go.Value (@Go.Value.int Go.IntKind.i64 (@Int.ofNat 0)) (@List.cons Go.Value (@Go.Value.bool Bool.false) (@List.cons Go.Value (@Go.Value.string (@ByteArray.mk (@Array.mk UInt8 (@List.nil UInt8)))) (@List.cons Go.Value (@Go.Value.int Go.IntKind.i64 (@Int.ofNat 0)) (@List.cons Go.Value (@Go.Value.int Go.IntKind.i64 (@Int.ofNat 0)) (@List.cons Go.Value (@Go.Value.float Go.FloatKind.f64 0) (@List.cons Go.Value (@Go.Value.bool Bool.false) (@List.cons Go.Value (@Go.Value.bool Bool.false) (@List.cons Go.Value (@Go.Value.slice (@Option.none Go.Addr) 0 0) (@List.nil Go.Value))))))))))))))))) (d:=(@Go.TypeDesc.struct (@Array.mk Go.Field (@List.cons Go.Field (@Go.Field.mk "Key" 9 0 Bool.false "" "" 0) (@List.cons Go.Field (@Go.Field.mk "Value" 9 1 Bool.false "" "" 16) (@List.cons Go.Field (@Go.Field.mk "Any" 4 2 Bool.false "" "" 32) (@List.cons Go.Field (@Go.Field.mk "Domain" 3 3 Bool.false "" "" 40) (@List.cons Go.Field (@Go.Field.mk "Up" 3 4 Bool.false "" "" 48) (@List.cons Go.Field (@Go.Field.mk "Has" 4 5 Bool.false "" "" 56) (@List.cons Go.Field (@Go.Field.mk "Rule" 136 6 Bool.false "" "" 64) (@List.cons Go.Field (@Go.Field.mk "Kids" 24 12 Bool.false "" "" 112) (@List.nil Go.Field)))))))))))) (by kernel_rfl) (by kernel_rfl) (by kernel_rfl) ⟨by kernel_rfl,by kernel_rfl⟩ ⟨_,rfl⟩ ⟨_,rfl,by kernel_rfl,by kernel_rfl⟩ (by kernel_rfl) (fun h=>nomatch h)
def ti147:TI:=⟨.iface,1,16,none,[.nilif],[],0,false⟩
theorem wq1go:TiOk Tryz.prog 147 ti147:=TiOk.of (z:=Go.Value.nilIface) (d:=(@Go.TypeDesc.interface (@Array.mk (@Prod String Nat) (@List.cons (@Prod String Nat) (@Prod.mk String Nat "Error" 98) (@List.nil (@Prod String Nat)))))) (by kernel_rfl) (by kernel_rfl) (by kernel_rfl) trivial rfl ⟨_,rfl⟩ (by kernel_rfl) (fun h=>nomatch h)
def ti150:TI:=⟨.ptr,1,8,none,[.nilptr],[],5,false⟩
theorem wq1gp:TiOk Tryz.prog 150 ti150:=TiOk.of (z:=(@Go.Value.pointer (@Option.none Go.Addr))) (d:=(@Go.TypeDesc.pointer 5)) (by kernel_rfl) (by kernel_rfl) (by kernel_rfl) trivial rfl rfl (by kernel_rfl) (fun h=>nomatch h)
def ti153:TI:=⟨.struct,3,32,some (.pr (.int .i64) (.pr (.int .i64) .str)),[.v (.int .i64) 0,.v (.int .i64) 0,.v .str []],[(0,3),(1,3),(2,9)],0,true⟩
theorem wq1gq:TiOk Tryz.prog 153 ti153:=TiOk.of (z:=(@Go.Value.agg (@Array.mk Go.Value (@List.cons Go.Value (@Go.Value.int Go.IntKind.i64 (@Int.ofNat 0)) (@List.cons Go.Value (@Go.Value.int Go.IntKind.i64 (@Int.ofNat 0)) (@List.cons Go.Value (@Go.Value.string (@ByteArray.mk (@Array.mk UInt8 (@List.nil UInt8)))) (@List.nil Go.Value))))))) (d:=(@Go.TypeDesc.struct (@Array.mk Go.Field (@List.cons Go.Field (@Go.Field.mk "No" 3 0 Bool.false "" "" 0) (@List.cons Go.Field (@Go.Field.mk "Indent" 3 1 Bool.false "" "" 8) (@List.cons Go.Field (@Go.Field.mk "Text" 9 2 Bool.false "" "" 16) (@List.nil Go.Field))))))) (by kernel_rfl) (by kernel_rfl) (by kernel_rfl) ⟨by kernel_rfl,by kernel_rfl⟩ ⟨_,rfl⟩ ⟨_,rfl,by kernel_rfl,by kernel_rfl⟩ (by kernel_rfl) (fun _ _=>by kernel_rfl)
def ti155:TI:=⟨.ptr,1,8,none,[.nilptr],[],157,false⟩
theorem wq1gr:TiOk Tryz.prog 155 ti155:=TiOk.of (z:=(@Go.Value.pointer (@Option.none Go.Addr))) (d:=(@Go.TypeDesc.pointer 157)) (by kernel_rfl) (by kernel_rfl) (by kernel_rfl) trivial rfl rfl (by kernel_rfl) (fun h=>nomatch h)
def ti157:TI:=⟨.struct,5,72,some (.pr (.sl (.pr (.int .i64) (.pr (.int .i64) (.pr (.int .i64) (.pr .str .bool))))) (.pr (.int .i64) (.pr (.sl (.pr (.int .i64) (.pr (.int .i64) (.pr .str (.pr .bool (.pr (.sl .str) (.sl (.int .i64)))))))) (.pr (.int .i64) (.int .i64))))),[.nilsl,.v (.int .i64) 0,.nilsl,.v (.int .i64) 0,.v (.int .i64) 0],[(0,102),(1,3),(2,27),(3,31)],0,false⟩
theorem wq1gs:TiOk Tryz.prog 157 ti157:=TiOk.of (z:=(@Go.Value.agg (@Array.mk Go.Value (@List.cons Go.Value (@Go.Value.slice (@Option.none Go.Addr) 0 0) (@List.cons Go.Value (@Go.Value.int Go.IntKind.i64 (@Int.ofNat 0)) (@List.cons Go.Value (@Go.Value.slice (@Option.none Go.Addr) 0 0) (@List.cons Go.Value (@Go.Value.int Go.IntKind.i64 (@Int.ofNat 0)) (@List.cons Go.Value (@Go.Value.int Go.IntKind.i64 (@Int.ofNat 0)) (@List.nil Go.Value))))))))) (d:=(@Go.TypeDesc.struct (@Array.mk Go.Field (@List.cons Go.Field (@Go.Field.mk "l" 102 0 Bool.false "" "turncock/turncockref10" 0) (@List.cons Go.Field (@Go.Field.mk "at" 3 1 Bool.false "" "turncock/turncockref10" 24) (@List.cons Go.Field (@Go.Field.mk "nodes" 27 2 Bool.false "" "turncock/turncockref10" 32) (@List.cons Go.Field (@Go.Field.mk "fault" 31 3 Bool.false "" "turncock/turncockref10" 56) (@List.nil Go.Field)))))))) (by kernel_rfl) (by kernel_rfl) (by kernel_rfl) ⟨by kernel_rfl,by kernel_rfl⟩ ⟨_,rfl⟩ ⟨_,rfl,by kernel_rfl,by kernel_rfl⟩ (by kernel_rfl) (fun h=>nomatch h)
def ti159:TI:=⟨.struct,5,48,some (.pr (.int .i64) (.pr (.int .i64) (.pr (.int .i64) (.pr .str .bool)))),[.v (.int .i64) 0,.v (.int .i64) 0,.v (.int .i64) 0,.v .str [],.v .bool false],[(0,3),(1,3),(2,3),(3,9),(4,4)],0,true⟩
theorem wq1gt:TiOk Tryz.prog 159 ti159:=TiOk.of (z:=(@Go.Value.agg (@Array.mk Go.Value (@List.cons Go.Value (@Go.Value.int Go.IntKind.i64 (@Int.ofNat 0)) (@List.cons Go.Value (@Go.Value.int Go.IntKind.i64 (@Int.ofNat 0)) (@List.cons Go.Value (@Go.Value.int Go.IntKind.i64 (@Int.ofNat 0)) (@List.cons Go.Value (@Go.Value.string (@ByteArray.mk (@Array.mk UInt8 (@List.nil UInt8)))) (@List.cons Go.Value (@Go.Value.bool Bool.false) (@List.nil Go.Value))))))))) (d:=(@Go.TypeDesc.struct (@Array.mk Go.Field (@List.cons Go.Field (@Go.Field.mk "Kind" 3 0 Bool.false "" "" 0) (@List.cons Go.Field (@Go.Field.mk "Line" 3 1 Bool.false "" "" 8) (@List.cons Go.Field (@Go.Field.mk "Col" 3 2 Bool.false "" "" 16) (@List.cons Go.Field (@Go.Field.mk "Text" 9 3 Bool.false "" "" 24) (@List.cons Go.Field (@Go.Field.mk "Quoted" 4 4 Bool.false "" "" 40) (@List.nil Go.Field))))))))) (by kernel_rfl) (by kernel_rfl) (by kernel_rfl) ⟨by kernel_rfl,by kernel_rfl⟩ ⟨_,rfl⟩ ⟨_,rfl,by kernel_rfl,by kernel_rfl⟩ (by kernel_rfl) (fun _ _=>by kernel_rfl)
def ti161:TI:=⟨.ptr,1,8,none,[.nilptr],[],163,false⟩
theorem wq1gu:TiOk Tryz.prog 161 ti161:=TiOk.of (z:=(@Go.Value.pointer (@Option.none Go.Addr))) (d:=(@Go.TypeDesc.pointer 163)) (by kernel_rfl) (by kernel_rfl) (by kernel_rfl) trivial rfl rfl (by kernel_rfl) (fun h=>nomatch h)
def ti163:TI:=⟨.struct,2,48,some (.pr (.sl (.pr (.int .i64) (.pr (.int .i64) (.pr (.int .i64) (.pr .str .bool))))) (.sl (.pr (.int .i64) (.pr (.int .i64) (.pr .str (.pr .bool (.pr (.sl .str) (.sl (.int .i64))))))))),[.nilsl,.nilsl],[(0,102),(1,29)],0,false⟩
theorem wq1gv:TiOk Tryz.prog 163 ti163:=TiOk.of (z:=(@Go.Value.agg (@Array.mk Go.Value (@List.cons Go.Value (@Go.Value.slice (@Option.none Go.Addr) 0 0) (@List.cons Go.Value (@Go.Value.slice (@Option.none Go.Addr) 0 0) (@List.nil Go.Value)))))) (d:=(@Go.TypeDesc.struct (@Array.mk Go.Field (@List.cons Go.Field (@Go.Field.mk "l" 102 0 Bool.false "" "turncock/doc" 0) (@List.cons Go.Field (@Go.Field.mk "d" 29 1 Bool.false "" "turncock/doc" 24) (@List.nil Go.Field)))))) (by kernel_rfl) (by kernel_rfl) (by kernel_rfl) ⟨by kernel_rfl,by kernel_rfl⟩ ⟨_,rfl⟩ ⟨_,rfl,by kernel_rfl,by kernel_rfl⟩ (by kernel_rfl) (fun h=>nomatch h)
def ti166:TI:=⟨.slice,1,24,some (.sl (.sl (.int .u8))),[.nilsl],[],49,false⟩
theorem wq1gw:TiOk Tryz.prog 166 ti166:=TiOk.of (z:=(@Go.Value.slice (@Option.none Go.Addr) 0 0)) (d:=(@Go.TypeDesc.slice 49)) (by kernel_rfl) (by kernel_rfl) (by kernel_rfl) ⟨by kernel_rfl,by kernel_rfl⟩ rfl rfl (by kernel_rfl) (fun h=>nomatch h)
def ti169:TI:=⟨.other,1,8,none,[.un],[],0,false⟩
theorem wq1gx:TiOk Tryz.prog 169 ti169:=TiOk.of (z:=Go.Value.nilFunc) (d:=(@Go.TypeDesc.func (@Array.mk Nat (@List.cons Nat 21 (@List.nil Nat))) (@Array.mk Nat (@List.cons Nat 4 (@List.nil Nat))) Bool.false)) (by kernel_rfl) (by kernel_rfl) (by kernel_rfl) trivial rfl trivial (by kernel_rfl) (fun h=>nomatch h)
def ti171:TI:=⟨.map,1,8,none,[.un],[],4,false⟩
theorem wq1gy:TiOk Tryz.prog 171 ti171:=TiOk.of (z:=(@Go.Value.map (@Option.none Nat))) (d:=(@Go.TypeDesc.map 9 4)) (by kernel_rfl) (by kernel_rfl) (by kernel_rfl) trivial rfl ⟨_,rfl,by kernel_rfl⟩ (by kernel_rfl) (fun h=>nomatch h)
def ti172:TI:=⟨.ptr,1,8,none,[.nilptr],[],26,false⟩
theorem wq1gz:TiOk Tryz.prog 172 ti172:=TiOk.of (z:=(@Go.Value.pointer (@Option.none Go.Addr))) (d:=(@Go.TypeDesc.pointer 26)) (by kernel_rfl) (by kernel_rfl) (by kernel_rfl) trivial rfl rfl (by kernel_rfl) (fun h=>nomatch h)
def ti179:TI:=⟨.other,1,8,none,[.un],[],0,false⟩
theorem wq1h0:TiOk Tryz.prog 179 ti179:=TiOk.of (z:=Go.Value.nilFunc) (d:=(@Go.TypeDesc.func (@Array.mk Nat (@List.cons Nat 3 (@List.nil Nat))) (@Array.mk Nat (@List.cons Nat 36 (@List.nil Nat))) Bool.false)) (by kernel_rfl) (by kernel_rfl) (by kernel_rfl) trivial rfl trivial (by kernel_rfl) (fun h=>nomatch h)
def ti183:TI:=⟨.other,1,8,none,[.un],[],0,false⟩
theorem wq1h1:TiOk Tryz.prog 183 ti183:=TiOk.of (z:=Go.Value.nilFunc) (d:=(@Go.TypeDesc.func (@Array.mk Nat (@List.cons Nat 9 (@List.cons Nat 3 (@List.nil Nat)))) (@Array.mk Nat (@List.cons Nat 4 (@List.nil Nat))) Bool.false)) (by kernel_rfl) (by kernel_rfl) (by kernel_rfl) trivial rfl trivial (by kernel_rfl) (fun h=>nomatch h)
def ti187:TI:=⟨.int .u64,1,8,some (.int .u64),[.v (.int .u64) 0],[],0,false⟩
theorem wq1h2:TiOk Tryz.prog 187 ti187:=TiOk.of (z:=(@Go.Value.int Go.IntKind.u64 (@Int.ofNat 0))) (d:=(@Go.TypeDesc.int Go.IntKind.u64)) (by kernel_rfl) (by kernel_rfl) (by kernel_rfl) ⟨by kernel_rfl,by kernel_rfl⟩ rfl rfl (by kernel_rfl) (fun h=>nomatch h)
def ti193:TI:=⟨.int .u64,1,8,some (.int .u64),[.v (.int .u64) 0],[],0,false⟩
theorem wq1h3:TiOk Tryz.prog 193 ti193:=TiOk.of (z:=(@Go.Value.int Go.IntKind.u64 (@Int.ofNat 0))) (d:=(@Go.TypeDesc.int Go.IntKind.u64)) (by kernel_rfl) (by kernel_rfl) (by kernel_rfl) ⟨by kernel_rfl,by kernel_rfl⟩ rfl rfl (by kernel_rfl) (fun h=>nomatch h)
def ti210:TI:=⟨.ptr,1,8,none,[.nilptr],[],206,false⟩
theorem wq1h4:TiOk Tryz.prog 210 ti210:=TiOk.of (z:=(@Go.Value.pointer (@Option.none Go.Addr))) (d:=(@Go.TypeDesc.pointer 206)) (by kernel_rfl) (by kernel_rfl) (by kernel_rfl) trivial rfl rfl (by kernel_rfl) (fun h=>nomatch h)
def ti211:TI:=⟨.ptr,1,8,none,[.nilptr],[],213,false⟩
theorem wq1h5:TiOk Tryz.prog 211 ti211:=TiOk.of (z:=(@Go.Value.pointer (@Option.none Go.Addr))) (d:=(@Go.TypeDesc.pointer 213)) (by kernel_rfl) (by kernel_rfl) (by kernel_rfl) trivial rfl rfl (by kernel_rfl) (fun h=>nomatch h)
def ti213:TI:=⟨.struct,5,64,some (.pr (.pr (.int .i64) (.pr (.int .i64) .str)) (.pr (.int .i64) (.sl (.pr (.int .i64) (.pr (.int .i64) (.pr (.int .i64) (.pr .str .bool))))))),[.v (.int .i64) 0,.v (.int .i64) 0,.v .str [],.v (.int .i64) 0,.nilsl],[(0,153),(3,3),(4,102)],0,false⟩
theorem wq1h6:TiOk Tryz.prog 213 ti213:=TiOk.of (z:=(@Go.Value.agg (@Array.mk Go.Value (@List.cons Go.Value (@Go.Value.int Go.IntKind.i64 (@Int.ofNat 0)) (@List.cons Go.Value (@Go.Value.int Go.IntKind.i64 (@Int.ofNat 0)) (@List.cons Go.Value (@Go.Value.string (@ByteArray.mk (@Array.mk UInt8 (@List.nil UInt8)))) (@List.cons Go.Value (@Go.Value.int Go.IntKind.i64 (@Int.ofNat 0)) (@List.cons Go.Value (@Go.Value.slice (@Option.none Go.Addr) 0 0) (@List.nil Go.Value))))))))) (d:=(@Go.TypeDesc.struct (@Array.mk Go.Field (@List.cons Go.Field (@Go.Field.mk "l" 153 0 Bool.false "" "turncock/lex" 0) (@List.cons Go.Field (@Go.Field.mk "at" 3 3 Bool.false "" "turncock/lex" 32) (@List.cons Go.Field (@Go.Field.mk "out" 102 4 Bool.false "" "turncock/lex" 40) (@List.nil Go.Field))))))) (by kernel_rfl) (by kernel_rfl) (by kernel_rfl) ⟨by kernel_rfl,by kernel_rfl⟩ ⟨_,rfl⟩ ⟨_,rfl,by kernel_rfl,by kernel_rfl⟩ (by kernel_rfl) (fun h=>nomatch h)
def ti216:TI:=⟨.other,1,8,none,[.un],[],0,false⟩
theorem wq1h7:TiOk Tryz.prog 216 ti216:=TiOk.of (z:=Go.Value.nilFunc) (d:=(@Go.TypeDesc.func (@Array.mk Nat (@List.cons Nat 3 (@List.nil Nat))) (@Array.mk Nat (@List.cons Nat 4 (@List.nil Nat))) Bool.false)) (by kernel_rfl) (by kernel_rfl) (by kernel_rfl) trivial rfl trivial (by kernel_rfl) (fun h=>nomatch h)
def ti217:TI:=⟨.slice,1,24,some (.sl (.sl .str)),[.nilsl],[],23,false⟩
theorem wq1h8:TiOk Tryz.prog 217 ti217:=TiOk.of (z:=(@Go.Value.slice (@Option.none Go.Addr) 0 0)) (d:=(@Go.TypeDesc.slice 23)) (by kernel_rfl) (by kernel_rfl) (by kernel_rfl) ⟨by kernel_rfl,by kernel_rfl⟩ rfl rfl (by kernel_rfl) (fun h=>nomatch h)
def ti219:TI:=⟨.slice,1,24,some (.sl (.sl (.int .i64))),[.nilsl],[],24,false⟩
theorem wq1h9:TiOk Tryz.prog 219 ti219:=TiOk.of (z:=(@Go.Value.slice (@Option.none Go.Addr) 0 0)) (d:=(@Go.TypeDesc.slice 24)) (by kernel_rfl) (by kernel_rfl) (by kernel_rfl) ⟨by kernel_rfl,by kernel_rfl⟩ rfl rfl (by kernel_rfl) (fun h=>nomatch h)
def ti244:TI:=⟨.int .u32,1,4,some (.int .u32),[.v (.int .u32) 0],[],0,false⟩
theorem wq1ha:TiOk Tryz.prog 244 ti244:=TiOk.of (z:=(@Go.Value.int Go.IntKind.u32 (@Int.ofNat 0))) (d:=(@Go.TypeDesc.int Go.IntKind.u32)) (by kernel_rfl) (by kernel_rfl) (by kernel_rfl) ⟨by kernel_rfl,by kernel_rfl⟩ rfl rfl (by kernel_rfl) (fun h=>nomatch h)
def tyL:List (Nat×TI):=[(1,ti1),(2,ti2),(3,ti3),(4,ti4),(5,ti5),(6,ti6),(7,ti7),(9,ti9),(20,ti20),(21,ti21),(23,ti23),(24,ti24),(26,ti26),(27,ti27),(29,ti29),(31,ti31),(36,ti36),(41,ti41),(44,ti44),(45,ti45),(47,ti47),(49,ti49),(64,ti64),(74,ti74),(76,ti76),(82,ti82),(85,ti85),(87,ti87),(90,ti90),(91,ti91),(92,ti92),(94,ti94),(96,ti96),(99,ti99),(102,ti102),(110,ti110),(113,ti113),(115,ti115),(136,ti136),(138,ti138),(147,ti147),(150,ti150),(153,ti153),(155,ti155),(157,ti157),(159,ti159),(161,ti161),(163,ti163),(166,ti166),(169,ti169),(171,ti171),(172,ti172),(179,ti179),(183,ti183),(187,ti187),(193,ti193),(210,ti210),(211,ti211),(213,ti213),(216,ti216),(217,ti217),(219,ti219),(244,ti244)]
def tyT:TypeId→Option TI:=look tyL
theorem tyT_ok:TyOk Tryz.prog tyT:=wq1hw (all_cons ti1_ok (all_cons ti2_ok (all_cons ti3_ok (all_cons ti4_ok (all_cons ti5_ok (all_cons ti6_ok (all_cons ti7_ok (all_cons ti9_ok (all_cons wq1i0 (all_cons wq1i1 (all_cons wq1i2 (all_cons wq1i3 (all_cons wq1i4 (all_cons wq1i5 (all_cons wq1i6 (all_cons wq1i7 (all_cons wq1i8 (all_cons wq1i9 (all_cons wq1ia (all_cons wq1ib (all_cons wq1ic (all_cons wq1id (all_cons wq1ie (all_cons wq1if (all_cons wq1ig (all_cons wq1ih (all_cons wq1ii (all_cons wq1ij (all_cons wq1ik (all_cons wq1il (all_cons wq1im (all_cons wq1in (all_cons wq1io (all_cons wq1ip (all_cons wq1gi (all_cons wq1gj (all_cons wq1gk (all_cons wq1gl (all_cons wq1gm (all_cons wq1gn (all_cons wq1go (all_cons wq1gp (all_cons wq1gq (all_cons wq1gr (all_cons wq1gs (all_cons wq1gt (all_cons wq1gu (all_cons wq1gv (all_cons wq1gw (all_cons wq1gx (all_cons wq1gy (all_cons wq1gz (all_cons wq1h0 (all_cons wq1h1 (all_cons wq1h2 (all_cons wq1h3 (all_cons wq1h4 (all_cons wq1h5 (all_cons wq1h6 (all_cons wq1h7 (all_cons wq1h8 (all_cons wq1h9 (all_cons wq1ha (wq1hx))))))))))))))))))))))))))))))))))))))))))))))))))))))))))))))))
end Go.Proofs.YtbjkpddloieekaaGreatDoor.Pvm
namespace Go.Proofs.YtbjkpddloieekaaGreatDoor.Pvm
open Go
variable {P:Program}
def cdOf(fn:Func): Code:=fn.body.getD .skip
def fnW(cx:Ctx)(k:Nat)(fn:Func)(sp:RetSpec){R:Type}(ps:List PV)(hp:List (Nm×HObj))(wr:Out→Option R): Option R:=fnK cx k (cdOf fn) fn.ntmps fn.results.toList sp ps hp wr
def bodyK(cx:Ctx)(k:Nat)(fn:Func)(sp:RetSpec)(p:List Nat){R:Type}(I:Nat→St→Option R)(s:St)(wr:Out→Option R): Option R :=
 execK cx k (at_ p (cdOf fn)) s (konts cx k I p (cdOf fn) (outK cx sp fn.results.toList wr))
def loopK(cx:Ctx)(k:Nat)(fn:Func)(sp:RetSpec)(id:Nat)(p:List Nat){R:Type}(I:Nat→St→Option R)(n:Nat)(s:St)(wr:Out→Option R): Option R :=
 iter cx.pv (look cx.cuts id) (execK cx k (at_ (p++[0]) (cdOf fn))) n s (konts cx k I p (cdOf fn) (outK cx sp fn.results.toList wr))
def upI{R:Type}(id:Nat)(f:St→Option R)(I:Nat→St→Option R): Nat→St→Option R:=fun i s=>bif Nat.beq i id then f s else I i s
theorem wqy{R:Type}(id:Nat)(f:St→Option R)(I:Nat→St→Option R)(s:St): upI id f I id s=f s:=by unfold upI;rw[Nat.beq_refl];rfl
theorem upI_ne{R:Type}{i id:Nat}(h:Nat.beq i id=false)(f:St→Option R)(I:Nat→St→Option R)(s:St): upI id f I i s=I i s:=by unfold upI;rw[h];rfl
def DOK(P:Program)(f:FuncId)(run:{R:Type}→List PV→List (Nm×HObj)→(Out→Option R)→Option R): Prop :=
 ∀(ps:List PV) (hp:List (Nm×HObj)) (R:Type) (K:Out→Option R) (r:R),run ps hp K=some r→DoesTo P f ps hp fun out=>K out=some r
theorem wq4{f:FuncId}{s:List LS}{C:CTab}{run:{R:Type}→List PV→List (Nm×HObj)→(Out→Option R)→Option R}(h:DOK P f run)(hC:C.Ok P): (CTab.add f s run C).Ok P:=CTab.add_ok (h _ _ _ _ _) hC
theorem fnW_ok {cx:Ctx} (X:cx.Ok P) (hm:P.follows .mixedOrders=true) {f:FuncId} {fn:Func} (h1:P.funcs[f]? = some fn) (h2:(fn.body.isSome && !(fn.name == "runtime.NumGoroutine")&&codeOk fn.ntmps (cdOf fn))=true)
 {k:Nat} {sp:RetSpec} {ps:List PV} {hp:List (Nm×HObj)} {R:Type} {wr K:Out→Option R} {r:R} (h:fnW cx k fn sp ps hp wr=some r) (hw:∀ o,wr o=some r→K o=some r):DoesTo P f ps hp fun out=>K out=some r:=by
 simp only[Bool.and_eq_true,Bool.not_eq_true']at h2
 obtain⟨⟨h3,h4⟩,h5⟩:=h2
 obtain⟨c,hc⟩:=Option.isSome_iff_exists.1 h3
 have e:cdOf fn=c:=by unfold cdOf;rw[hc];rfl
 unfold fnW at h
 rw[e]at h h5
 exact(fn_ok X hm h1 hc h4 rfl h5 h).mono hw
end Go.Proofs.YtbjkpddloieekaaGreatDoor.Pvm
set_option maxRecDepth 1000000
set_option maxHeartbeats 0
noncomputable section
namespace Go.Proofs.YtbjkpddloieekaaGreatDoor.Pvm
open Go Go.Proofs
def wqs:List LS:=[.ag [.sl kdT25],.any,.any]
def wqci{R:Type}(K:(Int→Int→Option R)): Out→Option R
 |.ret [.agg [.v (.int .i64) y0,.v (.int .i64) y1]] []=>K y0 y1
 |_=>none
def wqpj:RetSpec:=⟨[.ag [.any,.any]],[],[]⟩
def wqpk(k:Nat): Ctx:=⟨tyT,[],.nil,[],[],[],@SH⟩
def wqac(k:Nat){R:Type}(x0:(List dT25))(x1 x2:Int)(K:(Int→Int→Option R)): Option R:=cond (inb x1 (x0.length:Int)) (K x2 ((x0.getD x1.toNat (Kd.zero (@Kd.pr kI (@Kd.pr kI (@Kd.pr Kd.str (@Kd.pr Kd.bool (@Kd.pr (@Kd.sl Kd.str) (@Kd.sl kI)))))))).2).1) none
def wq9(k:Nat){R:Type}(x0:(List dT25))(x1 x2:Int)(K:(Int→Int→Option R)): Option R:=wqac k x0 x1 x2 K
theorem wql6(k:Nat){R:Type}(x0:(List dT25))(x1 x2:Int)(K:(Int→Int→Option R)): fnW (wqpk k) k Tryz.f79 wqpj [.agg [.v kdT28 x0],.v kI x1,.v kI x2] [] (wqci K)=wq9 k x0 x1 x2 K:=by
 kernel_rfl
def wqi(k:Nat){R:Type}: List PV→List (Nm×HObj)→(Out→Option R)→Option R
 |[.agg [.v (.sl (.pr (.int .i64) (.pr (.int .i64) (.pr .str (.pr .bool (.pr (.sl .str) (.sl (.int .i64)))))))) x0],.v (.int .i64) x1,.v (.int .i64) x2],[],K=>wq9 k x0 x1 x2 (fun y0 y1=>K (.ret [.agg [.v (.int .i64) y0,.v (.int .i64) y1]] []))
 |_,_,_=>none
theorem wq1i(k:Nat): DOK Tryz.prog 79 (wqi k):=by
 intro ps hp R K r h
 have h:wqi k ps hp K=some r:=h
 unfold wqi at h
 split at h
 ·rw[←wql6]at h
  exact fnW_ok ⟨tyT_ok,CTab.nil_ok,fun _ _=>rfl⟩ mixed (by kernel_rfl) (by kernel_rfl) h fun o ho=>by unfold wqci at ho;split at ho<;>first|exact ho|cases ho
 ·cases h
end Go.Proofs.YtbjkpddloieekaaGreatDoor.Pvm
end
noncomputable section
namespace Go.Proofs.YtbjkpddloieekaaGreatDoor.Pvm
open Go Go.Proofs
def wq3e:List LS:=[.ag [.sl kdT25],.any,.any]
def wqdw{R:Type}(K:(Int→Int→Option R)): Out→Option R
 |.ret [.agg [.v (.int .i64) y0,.v (.int .i64) y1]] []=>K y0 y1
 |_=>none
def wqs8:RetSpec:=⟨[.ag [.any,.any]],[],[]⟩
def wqs9(k:Nat): Ctx:=⟨tyT,[],(.add 79 wqs (wqi k) .nil),[],[],[],@SH⟩
def wqie(k:Nat){R:Type}(x0:(List dT25))(x1 x2:Int)(K:(Int→Int→Option R)): Option R:=cond (inb x1 (x0.length:Int)) (cond ((x0.getD x1.toNat (Kd.zero (@Kd.pr kI (@Kd.pr kI (@Kd.pr Kd.str (@Kd.pr Kd.bool (@Kd.pr (@Kd.sl Kd.str) (@Kd.sl kI)))))))).1 != x2) (wq9 k x0 x1 11 K) (K 0 0)) none
def wq1e(k:Nat){R:Type}(x0:(List dT25))(x1 x2:Int)(K:(Int→Int→Option R)): Option R:=wqie k x0 x1 x2 K
theorem wqmz(k:Nat){R:Type}(x0:(List dT25))(x1 x2:Int)(K:(Int→Int→Option R)): fnW (wqs9 k) k Tryz.f76 wqs8 [.agg [.v kdT28 x0],.v kI x1,.v kI x2] [] (wqdw K)=wq1e k x0 x1 x2 K:=by
 kernel_rfl
def wq18(k:Nat){R:Type}: List PV→List (Nm×HObj)→(Out→Option R)→Option R
 |[.agg [.v (.sl (.pr (.int .i64) (.pr (.int .i64) (.pr .str (.pr .bool (.pr (.sl .str) (.sl (.int .i64)))))))) x0],.v (.int .i64) x1,.v (.int .i64) x2],[],K=>wq1e k x0 x1 x2 (fun y0 y1=>K (.ret [.agg [.v (.int .i64) y0,.v (.int .i64) y1]] []))
 |_,_,_=>none
theorem wq59(k:Nat): DOK Tryz.prog 76 (wq18 k):=by
 intro ps hp R K r h
 have h:wq18 k ps hp K=some r:=h
 unfold wq18 at h
 split at h
 ·rw[←wqmz]at h
  exact fnW_ok ⟨tyT_ok,(wq4 (wq1i k) CTab.nil_ok),fun _ _=>rfl⟩ mixed (by kernel_rfl) (by kernel_rfl) h fun o ho=>by unfold wqdw at ho;split at ho<;>first|exact ho|cases ho
 ·cases h
end Go.Proofs.YtbjkpddloieekaaGreatDoor.Pvm
end
noncomputable section
namespace Go.Proofs.YtbjkpddloieekaaGreatDoor.Pvm
open Go Go.Proofs
def wq5q:List LS:=[.ag [.sl kdT25],.any,.any]
def wqdx{R:Type}(K:((List UInt8)→Int→Int→Option R)): Out→Option R
 |.ret [.v .str y0,.agg [.v (.int .i64) y1,.v (.int .i64) y2]] []=>K y0 y1 y2
 |_=>none
def wqsa:RetSpec:=⟨[.any,.ag [.any,.any]],[],[]⟩
def wqsb(k:Nat): Ctx:=⟨tyT,[],(.add 76 wq3e (wq18 k) (.add 79 wqs (wqi k) .nil)),[],[],[(3,(.of [(1,1),(0,1),(2,0)] .done))],@SH⟩
def wqif(k:Nat){R:Type}(x0:(List dT25))(x1 x2:Int)(K:((List UInt8)→Int→Int→Option R)): Option R:=wq1e k x0 x1 1 (fun y6 y7=>cond (y6 != 0) (K [] y6 y7) (cond (inb x1 (x0.length:Int)) (cond ((((x0.getD x1.toNat (Kd.zero (@Kd.pr kI (@Kd.pr kI (@Kd.pr Kd.str (@Kd.pr Kd.bool (@Kd.pr (@Kd.sl Kd.str) (@Kd.sl kI)))))))).2).2).2).1 (wq9 k x0 x1 x2 (fun y8 y9=>K [] y8 y9)) (cond (inb x1 (x0.length:Int)) (K (((x0.getD x1.toNat (Kd.zero (@Kd.pr kI (@Kd.pr kI (@Kd.pr Kd.str (@Kd.pr Kd.bool (@Kd.pr (@Kd.sl Kd.str) (@Kd.sl kI)))))))).2).2).1 0 0) none)) none))
def wq13(k:Nat){R:Type}(x0:(List dT25))(x1 x2:Int)(K:((List UInt8)→Int→Int→Option R)): Option R:=wqif k x0 x1 x2 K
theorem wqn0(k:Nat){R:Type}(x0:(List dT25))(x1 x2:Int)(K:((List UInt8)→Int→Int→Option R)): fnW (wqsb k) k Tryz.f77 wqsa [.agg [.v kdT28 x0],.v kI x1,.v kI x2] [] (wqdx K)=wq13 k x0 x1 x2 K:=by
 kernel_rfl
def wq25(k:Nat){R:Type}: List PV→List (Nm×HObj)→(Out→Option R)→Option R
 |[.agg [.v (.sl (.pr (.int .i64) (.pr (.int .i64) (.pr .str (.pr .bool (.pr (.sl .str) (.sl (.int .i64)))))))) x0],.v (.int .i64) x1,.v (.int .i64) x2],[],K=>wq13 k x0 x1 x2 (fun y0 y1 y2=>K (.ret [.v .str y0,.agg [.v (.int .i64) y1,.v (.int .i64) y2]] []))
 |_,_,_=>none
theorem wqc3(k:Nat): DOK Tryz.prog 77 (wq25 k):=by
 intro ps hp R K r h
 have h:wq25 k ps hp K=some r:=h
 unfold wq25 at h
 split at h
 ·rw[←wqn0]at h
  exact fnW_ok ⟨tyT_ok,(wq4 (wq59 k) (wq4 (wq1i k) CTab.nil_ok)),fun _ _=>rfl⟩ mixed (by kernel_rfl) (by kernel_rfl) h fun o ho=>by unfold wqdx at ho;split at ho<;>first|exact ho|cases ho
 ·cases h
end Go.Proofs.YtbjkpddloieekaaGreatDoor.Pvm
end
noncomputable section
namespace Go.Proofs.YtbjkpddloieekaaGreatDoor.Pvm
open Go Go.Proofs
def wqpl:List LS:=[.ag [.sl kdT25],.any]
def wqdy{R:Type}(K:(Bool→Int→Int→Option R)): Out→Option R
 |.ret [.v .bool y0,.agg [.v (.int .i64) y1,.v (.int .i64) y2]] []=>K y0 y1 y2
 |_=>none
def wqsc:RetSpec:=⟨[.any,.ag [.any,.any]],[],[]⟩
def wqsd(k:Nat): Ctx:=⟨tyT,[],(.add 77 wq5q (wq25 k) (.add 79 wqs (wqi k) .nil)),[],[],[(3,(.of [(1,1),(0,1),(2,0)] .done))],@SH⟩
def wqig(k:Nat){R:Type}(x0:(List dT25))(x1:Int)(K:(Bool→Int→Int→Option R)): Option R:=wq13 k x0 x1 14 (fun y5 y6 y7=>cond (y6 != 0) (K false y6 y7) (cond (cond (!(y5 == [(116:UInt8),114,117,101])) (!(y5 == [(102:UInt8),97,108,115,101])) false) (wq9 k x0 x1 14 (fun y8 y9=>K false y8 y9)) (K (y5 == [(116:UInt8),114,117,101]) 0 0)))
def wq7q(k:Nat){R:Type}(x0:(List dT25))(x1:Int)(K:(Bool→Int→Int→Option R)): Option R:=wqig k x0 x1 K
theorem wqn1(k:Nat){R:Type}(x0:(List dT25))(x1:Int)(K:(Bool→Int→Int→Option R)): fnW (wqsd k) k Tryz.f34 wqsc [.agg [.v kdT28 x0],.v kI x1] [] (wqdy K)=wq7q k x0 x1 K:=by
 kernel_rfl
def wq5r(k:Nat){R:Type}: List PV→List (Nm×HObj)→(Out→Option R)→Option R
 |[.agg [.v (.sl (.pr (.int .i64) (.pr (.int .i64) (.pr .str (.pr .bool (.pr (.sl .str) (.sl (.int .i64)))))))) x0],.v (.int .i64) x1],[],K=>wq7q k x0 x1 (fun y0 y1 y2=>K (.ret [.v .bool y0,.agg [.v (.int .i64) y1,.v (.int .i64) y2]] []))
 |_,_,_=>none
theorem wqv0(k:Nat): DOK Tryz.prog 34 (wq5r k):=by
 intro ps hp R K r h
 have h:wq5r k ps hp K=some r:=h
 unfold wq5r at h
 split at h
 ·rw[←wqn1]at h
  exact fnW_ok ⟨tyT_ok,(wq4 (wqc3 k) (wq4 (wq1i k) CTab.nil_ok)),fun _ _=>rfl⟩ mixed (by kernel_rfl) (by kernel_rfl) h fun o ho=>by unfold wqdy at ho;split at ho<;>first|exact ho|cases ho
 ·cases h
end Go.Proofs.YtbjkpddloieekaaGreatDoor.Pvm
end
noncomputable section
namespace Go.Proofs.YtbjkpddloieekaaGreatDoor.Pvm
open Go Go.Proofs
def wq4r:List LS:=[]
def wqlw{R:Type}(K:(Int→Int→Option R)): Out→Option R
 |.ret [.agg [.v (.int .i64) y0,.v (.int .i64) y1]] []=>K y0 y1
 |_=>none
def wq14u:RetSpec:=⟨[.ag [.any,.any]],[],[]⟩
def wq14v(k:Nat): Ctx:=⟨tyT,[],.nil,[],[],[],@SH⟩
def wq18c(k:Nat){R:Type}(K:(Int→Int→Option R)): Option R:=K 11 0
def wq4s(k:Nat){R:Type}(K:(Int→Int→Option R)): Option R:=wq18c k K
theorem wqyv(k:Nat){R:Type}(K:(Int→Int→Option R)): fnW (wq14v k) k Tryz.f33 wq14u [] [] (wqlw K)=wq4s k K:=by
 kernel_rfl
def wq1y(k:Nat){R:Type}: List PV→List (Nm×HObj)→(Out→Option R)→Option R
 |[],[],K=>wq4s k (fun y0 y1=>K (.ret [.agg [.v (.int .i64) y0,.v (.int .i64) y1]] []))
 |_,_,_=>none
theorem wq8m(k:Nat): DOK Tryz.prog 33 (wq1y k):=by
 intro ps hp R K r h
 have h:wq1y k ps hp K=some r:=h
 unfold wq1y at h
 split at h
 ·rw[←wqyv]at h
  exact fnW_ok ⟨tyT_ok,CTab.nil_ok,fun _ _=>rfl⟩ mixed (by kernel_rfl) (by kernel_rfl) h fun o ho=>by unfold wqlw at ho;split at ho<;>first|exact ho|cases ho
 ·cases h
end Go.Proofs.YtbjkpddloieekaaGreatDoor.Pvm
end
noncomputable section
namespace Go.Proofs.YtbjkpddloieekaaGreatDoor.Pvm
open Go Go.Proofs
def wq18d:List LS:=[.any]
def wqu2{R:Type}(K:(Bool→Option R)): Out→Option R
 |.ret [.v .bool y0] []=>K y0
 |_=>none
def wq1b5:RetSpec:=⟨[.any],[],[]⟩
def wq1b6(k:Nat): Ctx:=⟨tyT,[],.nil,[],[],[],@SH⟩
def wq14w(k:Nat){R:Type}(x0:Int)(K:(Bool→Option R)): Option R:=K (cond (cond (cond (cond (cond (cond (decide (x0≥97)) (decide (x0≤122)) false) true (cond (decide (x0≥65)) (decide (x0≤90)) false)) true (cond (decide (x0≥48)) (decide (x0≤57)) false)) true (x0 == 95)) true (x0 == 45)) true (x0 == 46))
def wqje(k:Nat){R:Type}(x0:Int)(K:(Bool→Option R)): Option R:=wq14w k x0 K
theorem wq14x(k:Nat){R:Type}(x0:Int)(K:(Bool→Option R)): fnW (wq1b6 k) k Tryz.f234 wq1b5 [.v (.int .u8) x0] [] (wqu2 K)=wqje k x0 K:=by
 kernel_rfl
def wqhl(k:Nat){R:Type}: List PV→List (Nm×HObj)→(Out→Option R)→Option R
 |[.v (.int .u8) x0],[],K=>wqje k x0 (fun y0=>K (.ret [.v .bool y0] []))
 |_,_,_=>none
theorem wq1dk(k:Nat): DOK Tryz.prog 234 (wqhl k):=by
 intro ps hp R K r h
 have h:wqhl k ps hp K=some r:=h
 unfold wqhl at h
 split at h
 ·rw[←wq14x]at h
  exact fnW_ok ⟨tyT_ok,CTab.nil_ok,fun _ _=>rfl⟩ mixed (by kernel_rfl) (by kernel_rfl) h fun o ho=>by unfold wqu2 at ho;split at ho<;>first|exact ho|cases ho
 ·cases h
end Go.Proofs.YtbjkpddloieekaaGreatDoor.Pvm
end
noncomputable section
namespace Go.Proofs.YtbjkpddloieekaaGreatDoor.Pvm
open Go Go.Proofs
def wqu3:List LS:=[.any]
def wqcp{R:Type}(K:(Bool→Option R)): Out→Option R
 |.ret [.v .bool y0] []=>K y0
 |_=>none
def wqn2:RetSpec:=⟨[.any],[],[]⟩
def wqn3(k:Nat): Ctx:=⟨tyT,[(1002,⟨[(0,.any),(5,.any),(6,.any)],[]⟩)],(.add 234 wq18d (wqhl k) .nil),[],[],[],@SH⟩
def wq7r(s0:(List UInt8))(s1 s2:Int): St:=⟨mkT [(0,.v .str s0),(5,.v kI s1),(6,.v kI s2)],mkH []⟩
def wqdz(k:Nat){R:Type}(I:Nat→St→Option R)(n:Nat)(s:St)(K:(Bool→Option R)): Option R:=loopK (wqn3 k) k Tryz.f204 wqn2 1002 [1,0,1,0] I n s (wqcp K)
def wq8v(k:Nat){R:Type}(E1002:((List UInt8)→Int→Int→Option R))(s0:(List UInt8))(s1 s2:Int)(K:(Bool→Option R)): Option R:=cond (decide (s2<s1)) (cond (inb s2 (s0.length:Int)) (wqje k ((s0.getD s2.toNat 0).toNat:Int) (fun y7=>cond (!y7) (K false) (E1002 s0 s1 (@Go.IntKind.wrap Go.IntKind.i64 (s2+1))))) none) (K (!(s0 == [])))
theorem wqpm(k:Nat){R:Type}(I:Nat→St→Option R)(s0:(List UInt8))(s1 s2:Int)(K:(Bool→Option R)): bodyK (wqn3 k) k Tryz.f204 wqn2 [1,0,1,0,0] I (wq7r s0 s1 s2) (wqcp K)=wq8v k (fun s0 s1 s2=>I 1002 (wq7r s0 s1 s2)) s0 s1 s2 K:=by kernel_rfl
def wqse(k:Nat){R:Type}(E1002:((List UInt8)→Int→Int→Option R))(x0:(List UInt8))(K:(Bool→Option R)): Option R:=E1002 x0 (x0.length:Int) 0
def wq44(k:Nat){R:Type}: Nat→(List UInt8)→Int→Int→(Bool→Option R)→Option R
 |0,_,_,_,_=>none
 |n+1,s0,s1,s2,K=>wq8v k (fun s0 s1 s2=>wq44 k n s0 s1 s2 K) s0 s1 s2 K
theorem wqpn(k:Nat){R:Type}(I:Nat→St→Option R)(K:(Bool→Option R))(n:Nat): ∀(s0:(List UInt8)) (s1 s2:Int),wqdz k I n (wq7r s0 s1 s2) K=wq44 k n s0 s1 s2 K:=by
 induction n with
 |zero=>intros;rfl
 |succ n ih =>
  intro s0 s1 s2
  refine(?_:_=_).trans ((wqpm k (upI 1002 (fun s=>wqdz k I n s K) I) s0 s1 s2 K).trans ?_)
  ·rfl
  ·simp only[wqy,ih]<;>rfl
def wqdr(k:Nat){R:Type}(x0:(List UInt8))(K:(Bool→Option R)): Option R:=wqse k (fun s0 s1 s2=>wq44 k k s0 s1 s2 K) x0 K
theorem wq128(k:Nat){R:Type}(x0:(List UInt8))(K:(Bool→Option R)): fnW (wqn3 k) k Tryz.f204 wqn2 [.v .str x0] [] (wqcp K)=wqdr k x0 K:=by
 refine Eq.trans (b:=wqse k (fun s0 s1 s2=>wqdz k (fun _ _=>none) k (wq7r s0 s1 s2) K) x0 K) (by kernel_rfl) ?_
 simp only[wqpn]<;>rfl
def wqbj(k:Nat){R:Type}: List PV→List (Nm×HObj)→(Out→Option R)→Option R
 |[.v .str x0],[],K=>wqdr k x0 (fun y0=>K (.ret [.v .bool y0] []))
 |_,_,_=>none
theorem wq11d(k:Nat): DOK Tryz.prog 204 (wqbj k):=by
 intro ps hp R K r h
 have h:wqbj k ps hp K=some r:=h
 unfold wqbj at h
 split at h
 ·rw[←wq128]at h
  exact fnW_ok ⟨tyT_ok,(wq4 (wq1dk k) CTab.nil_ok),fun _ _=>rfl⟩ mixed (by kernel_rfl) (by kernel_rfl) h fun o ho=>by unfold wqcp at ho;split at ho<;>first|exact ho|cases ho
 ·cases h
end Go.Proofs.YtbjkpddloieekaaGreatDoor.Pvm
end
noncomputable section
namespace Go.Proofs.YtbjkpddloieekaaGreatDoor.Pvm
open Go Go.Proofs
def wq129:List LS:=[.sl .str]
def wqav{R:Type}(K:(Bool→Option R)): Out→Option R
 |.ret [.v .bool y0] []=>K y0
 |_=>none
def wqjf:RetSpec:=⟨[.any],[],[]⟩
def wqjg(k:Nat): Ctx:=⟨tyT,[(1003,⟨[(3,.mpo 73 .one .bool),(7,.sl .str),(8,.any),(9,.any)],[]⟩)],(.add 204 wqu3 (wqbj k) .nil),[],[],[],@SH⟩
def wq6p(s0:(List (List UInt8×Bool)))(s1:(List (List UInt8)))(s2 s3:Int): St:=⟨mkT [(3,.mpp 73),(7,.v (.sl .str) s1),(8,.v kI s2),(9,.v kI s3)],mkH [(73,.mp .one .bool s0)]⟩
def wqc4(k:Nat){R:Type}(I:Nat→St→Option R)(n:Nat)(s:St)(K:(Bool→Option R)): Option R:=loopK (wqjg k) k Tryz.f167 wqjf 1003 [1,1,0,1,0] I n s (wqav K)
def wq7s(k:Nat){R:Type}(E1003:((List (List UInt8×Bool))→(List (List UInt8))→Int→Int→Option R))(s0:(List (List UInt8×Bool)))(s1:(List (List UInt8)))(s2 s3:Int)(K:(Bool→Option R)): Option R:=cond (decide (s3<s2)) (cond (inb s3 (s1.length:Int)) (wqdr k (s1.getD s3.toNat Kd.str.zero) (fun y8=>cond ((cond (!y8) true (decide (((s1.getD s3.toNat Kd.str.zero).length:Int)>64))) == false) (cond (mget Kd.bool (s1.getD s3.toNat Kd.str.zero) s0) (K false) (E1003 (mset Kd.bool (s1.getD s3.toNat Kd.str.zero) true s0) s1 s2 (@Go.IntKind.wrap Go.IntKind.i64 (s3+1)))) (K false))) none) (K true)
theorem wqn4(k:Nat){R:Type}(I:Nat→St→Option R)(s0:(List (List UInt8×Bool)))(s1:(List (List UInt8)))(s2 s3:Int)(K:(Bool→Option R)): bodyK (wqjg k) k Tryz.f167 wqjf [1,1,0,1,0,0] I (wq6p s0 s1 s2 s3) (wqav K)=wq7s k (fun s0 s1 s2 s3=>I 1003 (wq6p s0 s1 s2 s3)) s0 s1 s2 s3 K:=by kernel_rfl
def wqn5(k:Nat){R:Type}(E1003:((List (List UInt8×Bool))→(List (List UInt8))→Int→Int→Option R))(x0:(List (List UInt8)))(K:(Bool→Option R)): Option R:=E1003 [] x0 (x0.length:Int) 0
def wq37(k:Nat){R:Type}: Nat→(List (List UInt8×Bool))→(List (List UInt8))→Int→Int→(Bool→Option R)→Option R
 |0,_,_,_,_,_=>none
 |n+1,s0,s1,s2,s3,K=>wq7s k (fun s0 s1 s2 s3=>wq37 k n s0 s1 s2 s3 K) s0 s1 s2 s3 K
theorem wqn6(k:Nat){R:Type}(I:Nat→St→Option R)(K:(Bool→Option R))(n:Nat): ∀(s0:(List (List UInt8×Bool))) (s1:(List (List UInt8))) (s2 s3:Int),wqc4 k I n (wq6p s0 s1 s2 s3) K=wq37 k n s0 s1 s2 s3 K:=by
 induction n with
 |zero=>intros;rfl
 |succ n ih =>
  intro s0 s1 s2 s3
  refine(?_:_=_).trans ((wqn4 k (upI 1003 (fun s=>wqc4 k I n s K) I) s0 s1 s2 s3 K).trans ?_)
  ·rfl
  ·simp only[wqy,ih]<;>rfl
def wqe0(k:Nat){R:Type}(x0:(List (List UInt8)))(K:(Bool→Option R)): Option R:=wqn5 k (fun s0 s1 s2 s3=>wq37 k k s0 s1 s2 s3 K) x0 K
theorem wqyw(k:Nat){R:Type}(x0:(List (List UInt8)))(K:(Bool→Option R)): fnW (wqjg k) k Tryz.f167 wqjf [.v (.sl .str) x0] [] (wqav K)=wqe0 k x0 K:=by
 refine Eq.trans (b:=wqn5 k (fun s0 s1 s2 s3=>wqc4 k (fun _ _=>none) k (wq6p s0 s1 s2 s3) K) x0 K) (by kernel_rfl) ?_
 simp only[wqn6]<;>rfl
def wqcq(k:Nat){R:Type}: List PV→List (Nm×HObj)→(Out→Option R)→Option R
 |[.v (.sl .str) x0],[],K=>wqe0 k x0 (fun y0=>K (.ret [.v .bool y0] []))
 |_,_,_=>none
theorem wq18e(k:Nat): DOK Tryz.prog 167 (wqcq k):=by
 intro ps hp R K r h
 have h:wqcq k ps hp K=some r:=h
 unfold wqcq at h
 split at h
 ·rw[←wqyw]at h
  exact fnW_ok ⟨tyT_ok,(wq4 (wq11d k) CTab.nil_ok),fun _ _=>rfl⟩ mixed (by kernel_rfl) (by kernel_rfl) h fun o ho=>by unfold wqav at ho;split at ho<;>first|exact ho|cases ho
 ·cases h
end Go.Proofs.YtbjkpddloieekaaGreatDoor.Pvm
end
namespace Go.Proofs.YtbjkpddloieekaaGreatDoor.Pvm
open Go Go.Proofs
def wqu4:List LS:=[.obj 1 [.sl (.pr (.int .i64) (.pr (.int .i64) (.pr (.int .i64) (.pr .str .bool))))],.obj 2 [.any,.any]]
def wqu5(k:Nat): CTab:=CTab.nil
def wqe1{R:Type}(K:((List dT158)→Int→Int→Option R)): Out→Option R
 |.ret [] [(1,.var 102 [.v (.sl (.pr (.int .i64) (.pr (.int .i64) (.pr (.int .i64) (.pr .str .bool))))) y0]),(2,.var 31 [.v (.int .i64) y1,.v (.int .i64) y2])]=>K y0 y1 y2
 |_=>none
def wqpo:RetSpec:=⟨[],[(1,.obj 1 [.sl (.pr (.int .i64) (.pr (.int .i64) (.pr (.int .i64) (.pr .str .bool))))]),(2,.obj 2 [.any,.any])],[]⟩
def wqws:List (Nat×CutSpec):=[]
def wqv1:List (Nat×Plan):=[(7,(.of [(0,2),(1,0),(2,0)] .done))]
def wqhm(k:Nat): Ctx:=⟨tyT,wqws,wqu5 k,[],[1,2],wqv1,@SH⟩
def wq8w:Code:=Tryz.f179.body.getD .skip
def wqjh(k:Nat){R:Type}(x0:(List dT158))(x1 x2:Int)(K:((List dT158)→Int→Int→Option R)): Option R:=K x0 x1 x2
theorem wqwt(k:Nat){R:Type}(I:Nat→St→Option R)(x0:(List dT158))(x1 x2:Int)(K:((List dT158)→Int→Int→Option R)): fnCK (wqhm k) k (at_ [1] wq8w) 12 [] wqpo [.ptr 1 0,.ptr 2 0] 5 (.nilif) [(1,.var 102 [.v (.sl (.pr (.int .i64) (.pr (.int .i64) (.pr (.int .i64) (.pr .str .bool))))) x0]),(2,.var 31 [.v (.int .i64) x1,.v (.int .i64) x2])] (wqe1 K)=wqjh k x0 x1 x2 K:=by kernel_rfl
def wqbk(k:Nat){R:Type}(x0:(List dT158))(x1 x2:Int)(K:((List dT158)→Int→Int→Option R)): Option R:=wqjh k x0 x1 x2 K
theorem wqwu(k:Nat){R:Type}(x0:(List dT158))(x1 x2:Int)(K:((List dT158)→Int→Int→Option R)): fnCK (wqhm k) k (at_ [1] wq8w) 12 [] wqpo [.ptr 1 0,.ptr 2 0] 5 (.nilif) [(1,.var 102 [.v (.sl (.pr (.int .i64) (.pr (.int .i64) (.pr (.int .i64) (.pr .str .bool))))) x0]),(2,.var 31 [.v (.int .i64) x1,.v (.int .i64) x2])] (wqe1 K)=wqbk k x0 x1 x2 K:=by
 exact wqwt k (fun _ _=>none) x0 x1 x2 K
def wqlx(k:Nat){R:Type}: PV→List PV→List (Nm×HObj)→(Out→Option R)→Option R
 |.nilif,[.ptr 1 0,.ptr 2 0],[(1,.var 102 [.v (.sl (.pr (.int .i64) (.pr (.int .i64) (.pr (.int .i64) (.pr .str .bool))))) x0]),(2,.var 31 [.v (.int .i64) x1,.v (.int .i64) x2])],K=>wqbk k x0 x1 x2 (fun y0 y1 y2=>K (.ret [] [(1,.var 102 [.v (.sl (.pr (.int .i64) (.pr (.int .i64) (.pr (.int .i64) (.pr .str .bool))))) y0]),(2,.var 31 [.v (.int .i64) y1,.v (.int .i64) y2])]))
 |_,_,_,_=>none
theorem wqwv(k:Nat): (wqu5 k).Ok Tryz.prog:=CTab.nil_ok
theorem wq12a(k:Nat){rec:PV}{ps:List PV}{hp:List (Nm×HObj)}{R:Type}{K:Out→Option R}{r:R}(h:wqlx k rec ps hp K=some r): DoesToD Tryz.prog 179 rec ps hp fun out=>K out=some r:=by
 unfold wqlx at h
 split at h
 ·rw[←wqwu]at h
  have:=wq1fp (P:=Tryz.prog) (cx:=wqhm k) (f:=179) ⟨tyT_ok,wqwv k,fun _ _=>rfl⟩ (by kernel_rfl) (fn:=Tryz.f179) (id:=0) (ops:=opsAt (at_ [0] wq8w)) (c:=at_ [1] wq8w) (by kernel_rfl) (by kernel_rfl) (by kernel_rfl) (rs:=[]) (by kernel_rfl) (by kernel_rfl) h
  exact this.mono fun out ho=>by
   unfold wqe1 at ho
   split at ho<;>first|exact ho|cases ho
 ·cases h
def wqu6(k:Nat): CTab:=CTab.nil
def wqe2{R:Type}(K:((List dT158)→Int→Int→Option R)): Out→Option R
 |.ret [] [(1,.var 102 [.v (.sl (.pr (.int .i64) (.pr (.int .i64) (.pr (.int .i64) (.pr .str .bool))))) y0]),(2,.var 31 [.v (.int .i64) y1,.v (.int .i64) y2])]=>K y0 y1 y2
 |_=>none
def wqpp:RetSpec:=⟨[],[(1,.obj 1 [.sl (.pr (.int .i64) (.pr (.int .i64) (.pr (.int .i64) (.pr .str .bool))))]),(2,.obj 2 [.any,.any])],[]⟩
def wqww:List (Nat×CutSpec):=[]
def wqv2:List (Nat×Plan):=[(7,(.of [(0,2),(1,0),(2,0)] .done))]
def wqhn(k:Nat): Ctx:=⟨tyT,wqww,wqu6 k,[],[1,2],wqv2,@SH⟩
def wq8x:Code:=Tryz.f179.body.getD .skip
def wqji(k:Nat){R:Type}(x0:(List dT158))(x1 x2 x3 x4:Int)(K:((List dT158)→Int→Int→Option R)): Option R:=K [] x3 x4
theorem wqwx(k:Nat){R:Type}(I:Nat→St→Option R)(x0:(List dT158))(x1 x2 x3 x4:Int)(K:((List dT158)→Int→Int→Option R)): fnCK (wqhn k) k (at_ [1] wq8x) 12 [] wqpp [.ptr 1 0,.ptr 2 0] 5 (.ifc 31 (.agg [.v (.int .i64) x3,.v (.int .i64) x4])) [(1,.var 102 [.v (.sl (.pr (.int .i64) (.pr (.int .i64) (.pr (.int .i64) (.pr .str .bool))))) x0]),(2,.var 31 [.v (.int .i64) x1,.v (.int .i64) x2])] (wqe2 K)=wqji k x0 x1 x2 x3 x4 K:=by kernel_rfl
def wqbl(k:Nat){R:Type}(x0:(List dT158))(x1 x2 x3 x4:Int)(K:((List dT158)→Int→Int→Option R)): Option R:=wqji k x0 x1 x2 x3 x4 K
theorem wqwy(k:Nat){R:Type}(x0:(List dT158))(x1 x2 x3 x4:Int)(K:((List dT158)→Int→Int→Option R)): fnCK (wqhn k) k (at_ [1] wq8x) 12 [] wqpp [.ptr 1 0,.ptr 2 0] 5 (.ifc 31 (.agg [.v (.int .i64) x3,.v (.int .i64) x4])) [(1,.var 102 [.v (.sl (.pr (.int .i64) (.pr (.int .i64) (.pr (.int .i64) (.pr .str .bool))))) x0]),(2,.var 31 [.v (.int .i64) x1,.v (.int .i64) x2])] (wqe2 K)=wqbl k x0 x1 x2 x3 x4 K:=by
 exact wqwx k (fun _ _=>none) x0 x1 x2 x3 x4 K
def wqly(k:Nat){R:Type}: PV→List PV→List (Nm×HObj)→(Out→Option R)→Option R
 |.ifc 31 (.agg [.v (.int .i64) x3,.v (.int .i64) x4]),[.ptr 1 0,.ptr 2 0],[(1,.var 102 [.v (.sl (.pr (.int .i64) (.pr (.int .i64) (.pr (.int .i64) (.pr .str .bool))))) x0]),(2,.var 31 [.v (.int .i64) x1,.v (.int .i64) x2])],K=>wqbl k x0 x1 x2 x3 x4 (fun y0 y1 y2=>K (.ret [] [(1,.var 102 [.v (.sl (.pr (.int .i64) (.pr (.int .i64) (.pr (.int .i64) (.pr .str .bool))))) y0]),(2,.var 31 [.v (.int .i64) y1,.v (.int .i64) y2])]))
 |_,_,_,_=>none
theorem wqwz(k:Nat): (wqu6 k).Ok Tryz.prog:=CTab.nil_ok
theorem wq12b(k:Nat){rec:PV}{ps:List PV}{hp:List (Nm×HObj)}{R:Type}{K:Out→Option R}{r:R}(h:wqly k rec ps hp K=some r): DoesToD Tryz.prog 179 rec ps hp fun out=>K out=some r:=by
 unfold wqly at h
 split at h
 ·rw[←wqwy]at h
  have:=wq1fp (P:=Tryz.prog) (cx:=wqhn k) (f:=179) ⟨tyT_ok,wqwz k,fun _ _=>rfl⟩ (by kernel_rfl) (fn:=Tryz.f179) (id:=0) (ops:=opsAt (at_ [0] wq8x)) (c:=at_ [1] wq8x) (by kernel_rfl) (by kernel_rfl) (by kernel_rfl) (rs:=[]) (by kernel_rfl) (by kernel_rfl) h
  exact this.mono fun out ho=>by
   unfold wqe2 at ho
   split at ho<;>first|exact ho|cases ho
 ·cases h
end Go.Proofs.YtbjkpddloieekaaGreatDoor.Pvm
noncomputable section
namespace Go.Proofs.YtbjkpddloieekaaGreatDoor.Pvm
open Go Go.Proofs
def wqfg:List LS:=[.any,.any]
def wqe3{R:Type}(K:(Bool→Option R)): Out→Option R
 |.ret [.v .bool y0] []=>K y0
 |_=>none
def wqsf:RetSpec:=⟨[.any],[],[]⟩
def wqsg(k:Nat): Ctx:=⟨tyT,[],.nil,[],[],[],@SH⟩
def wqc5(k:Nat){R:Type}(x0 x1:(List UInt8))(K:(Bool→Option R)): Option R:=cond ((!((decide ((x0.length:Int)≥(x1.length:Int))) == true)) || (bnd 0 (x1.length:Int) (x0.length:Int))) (K (cond (decide ((x0.length:Int)≥(x1.length:Int))) ((cut x0 0 (x1.length:Int)) == x1) false)) none
def wq38(k:Nat){R:Type}(x0 x1:(List UInt8))(K:(Bool→Option R)): Option R:=wqc5 k x0 x1 K
theorem wqn7(k:Nat){R:Type}(x0 x1:(List UInt8))(K:(Bool→Option R)): fnW (wqsg k) k Tryz.f226 wqsf [.v .str x0,.v .str x1] [] (wqe3 K)=wq38 k x0 x1 K:=by
 kernel_rfl
def wq3f(k:Nat){R:Type}: List PV→List (Nm×HObj)→(Out→Option R)→Option R
 |[.v .str x0,.v .str x1],[],K=>wq38 k x0 x1 (fun y0=>K (.ret [.v .bool y0] []))
 |_,_,_=>none
theorem wqih(k:Nat): DOK Tryz.prog 226 (wq3f k):=by
 intro ps hp R K r h
 have h:wq3f k ps hp K=some r:=h
 unfold wq3f at h
 split at h
 ·rw[←wqn7]at h
  exact fnW_ok ⟨tyT_ok,CTab.nil_ok,fun _ _=>rfl⟩ mixed (by kernel_rfl) (by kernel_rfl) h fun o ho=>by unfold wqe3 at ho;split at ho<;>first|exact ho|cases ho
 ·cases h
end Go.Proofs.YtbjkpddloieekaaGreatDoor.Pvm
end
noncomputable section
namespace Go.Proofs.YtbjkpddloieekaaGreatDoor.Pvm
open Go Go.Proofs
def wql7:List LS:=[.any,.any]
def wqbm{R:Type}(K:(Bool→Option R)): Out→Option R
 |.ret [.v .bool y0] []=>K y0
 |_=>none
def wqn8:RetSpec:=⟨[.any],[],[]⟩
def wqn9(k:Nat): Ctx:=⟨tyT,[],(.add 226 wqfg (wq3f k) .nil),[],[],[],@SH⟩
def wqfh(k:Nat){R:Type}(x0 x1:(List UInt8))(K:(Bool→Option R)): Option R:=wq38 k x0 x1 K
def wq5s(k:Nat){R:Type}(x0 x1:(List UInt8))(K:(Bool→Option R)): Option R:=wqfh k x0 x1 K
theorem wqjj(k:Nat){R:Type}(x0 x1:(List UInt8))(K:(Bool→Option R)): fnW (wqn9 k) k Tryz.f200 wqn8 [.v .str x0,.v .str x1] [] (wqbm K)=wq5s k x0 x1 K:=by
 kernel_rfl
def wq3v(k:Nat){R:Type}: List PV→List (Nm×HObj)→(Out→Option R)→Option R
 |[.v .str x0,.v .str x1],[],K=>wq5s k x0 x1 (fun y0=>K (.ret [.v .bool y0] []))
 |_,_,_=>none
theorem wqpq(k:Nat): DOK Tryz.prog 200 (wq3v k):=by
 intro ps hp R K r h
 have h:wq3v k ps hp K=some r:=h
 unfold wq3v at h
 split at h
 ·rw[←wqjj]at h
  exact fnW_ok ⟨tyT_ok,(wq4 (wqih k) CTab.nil_ok),fun _ _=>rfl⟩ mixed (by kernel_rfl) (by kernel_rfl) h fun o ho=>by unfold wqbm at ho;split at ho<;>first|exact ho|cases ho
 ·cases h
end Go.Proofs.YtbjkpddloieekaaGreatDoor.Pvm
end
noncomputable section
namespace Go.Proofs.YtbjkpddloieekaaGreatDoor.Pvm
open Go Go.Proofs
def wqna:List LS:=[.any]
def wqu7{R:Type}(K:(Bool→Option R)): Out→Option R
 |.ret [.v .bool y0] []=>K y0
 |_=>none
def wq1b7:RetSpec:=⟨[.any],[],[]⟩
def wq1b8(k:Nat): Ctx:=⟨tyT,[],(.add 200 wql7 (wq3v k) .nil),[],[],[],@SH⟩
def wq14y(k:Nat){R:Type}(x0:(List UInt8))(K:(Bool→Option R)): Option R:=cond ((x0 == [(45:UInt8)]) == false) (wq5s k x0 [45,32] K) (K true)
def wq8y(k:Nat){R:Type}(x0:(List UInt8))(K:(Bool→Option R)): Option R:=wq14y k x0 K
theorem wq14z(k:Nat){R:Type}(x0:(List UInt8))(K:(Bool→Option R)): fnW (wq1b8 k) k Tryz.f218 wq1b7 [.v .str x0] [] (wqu7 K)=wq8y k x0 K:=by
 kernel_rfl
def wqe4(k:Nat){R:Type}: List PV→List (Nm×HObj)→(Out→Option R)→Option R
 |[.v .str x0],[],K=>wq8y k x0 (fun y0=>K (.ret [.v .bool y0] []))
 |_,_,_=>none
theorem wq150(k:Nat): DOK Tryz.prog 218 (wqe4 k):=by
 intro ps hp R K r h
 have h:wqe4 k ps hp K=some r:=h
 unfold wqe4 at h
 split at h
 ·rw[←wq14z]at h
  exact fnW_ok ⟨tyT_ok,(wq4 (wqpq k) CTab.nil_ok),fun _ _=>rfl⟩ mixed (by kernel_rfl) (by kernel_rfl) h fun o ho=>by unfold wqu7 at ho;split at ho<;>first|exact ho|cases ho
 ·cases h
end Go.Proofs.YtbjkpddloieekaaGreatDoor.Pvm
end
namespace Go.Proofs.YtbjkpddloieekaaGreatDoor.Pvm
open Go Go.Proofs
def wqgv(s:List UInt8)(c:Int): Int :=
 match(List.range s.length).find? fun i=>s.getD i 0 == UInt8.ofNat c.toNat with
 |some i=>(i:Int)
 |none => -1
theorem wq1b9{P:Program}(x0:List UInt8)(x1:Int)(w:World): (Go.Extern.BytealgIndexByte.indexByte #[.string ⟨x0.toArray⟩,.int .u8 x1]).run P w = .ok (.int .i64 (wqgv x0 x1)) w:=by
 have e5:(Go.Extern.BytealgIndexByte.indexByte #[.string ⟨x0.toArray⟩,.int .u8 x1]).run P w=(match(List.range (ByteArray.mk x0.toArray).size).find? fun i=>(ByteArray.mk x0.toArray)[i]! == x1.toNat.toUInt8 with
  |some i=>(pure (goInt i):Sem Value)
  |none=>pure (goInt (-1))).run P w:=rfl
 rw[e5]
 unfold wqgv
 have e6:(ByteArray.mk x0.toArray).size=x0.length:=by simp[ByteArray.size]
 have e7:∀ i,(ByteArray.mk x0.toArray)[i]! = x0.getD i 0:=by
  intro i
  by_cases hi:i<x0.length
  ·rw[getElem!_pos (ByteArray.mk x0.toArray) i (by rw[e6];exact hi)]
   have:x0.getD i 0=x0[i]:=by simp[List.getD,hi]
   rw[this];rfl
  ·rw[getElem!_neg (ByteArray.mk x0.toArray) i (by rw[e6];exact hi)]
   have:x0.getD i 0=0:=by simp[List.getD,Nat.le_of_not_lt hi]
   rw[this];rfl
 simp only[e6,e7]
 have e8:∀ i,(x0.getD i 0 == x1.toNat.toUInt8)=(x0.getD i 0 == UInt8.ofNat x1.toNat):=fun i=>rfl
 simp only[e8]
 cases(List.range x0.length).find? fun i=>x0.getD i 0 == UInt8.ofNat x1.toNat with
 |none=>rfl
 |some i=>rfl
def wqho:List LS:=[.any,.any]
def wq6b(k:Nat){R:Type}(x0:List UInt8)(x1:Int)(K:Int→Option R): Option R:=K (wqgv x0 x1)
def wq4t(k:Nat){R:Type}: List PV→List (Nm×HObj)→(Out→Option R)→Option R
 |[.v .str x0,.v (.int .u8) x1],[],K=>wq6b k x0 x1 (fun y0=>K (.ret [.v (.int .i64) y0] []))
 |_,_,_=>none
theorem wq1hb{G:Gh}{w:World}: Fin [] [] G w G w :=
 ⟨fun n o h=>(by cases h),fun n m b h=>(by simp[blkOf,mkH,look]at h),fun n t cs h=>(by cases h),fun n ag V es h=>(by cases h),fun _ _ _=>rfl,rfl,fun n b h=>(by simp[blkOf,mkH,look]at h),Nat.le_refl _,rfl,rfl,rfl⟩
theorem wqgw:Extern.find Tryz.f270=some Go.Extern.BytealgIndexByte.indexByte:=by kernel_rfl
theorem wqcr:(Extern.findNext Tryz.f270).isNone=true:=by kernel_rfl
theorem wqj3:Tryz.prog.funcs[270]? = some Tryz.f270:=by kernel_rfl
theorem wq8s:(Tryz.f270.name == "runtime.NumGoroutine")=false:=by kernel_rfl
theorem wqgx:Tryz.f270.body.isNone=true:=by kernel_rfl
theorem wqjk(k:Nat){ps:List PV}{hp:List (Nm×HObj)}{R:Type}{K:Out→Option R}{r:R}(h:wq4t k ps hp K=some r): DoesTo Tryz.prog 270 ps hp fun out=>K out=some r:=by
 unfold wq4t at h
 split at h
 ·next x0 x1 =>
  intro G w vals hr obj dis
  obtain⟨v0,l0,rfl,h0,v1,l1,rfl,h1,rfl⟩:=hr
  have e0:v0 = .string ⟨x0.toArray⟩:=by simpa [RV,RD]using h0
  have e1:v1 = .int .u8 x1:=by simpa [RV,RD]using h1
  subst e0 e1
  have hrun:(callFunc 270 #[.string ⟨x0.toArray⟩,.int .u8 x1]).run Tryz.prog w = .ok (.value (.int .i64 (wqgv x0 x1))) w:=by
   have hn2:¬ Tryz.f270.name = "runtime.NumGoroutine" := by simpa using wq8s
   have hn3:Extern.findNext Tryz.f270=none:=by
    cases hq:Extern.findNext Tryz.f270 with
    |none=>rfl
    |some e=>have:=wqcr;rw[hq]at this;cases this
   have e1:(callFunc 270 #[.string ⟨x0.toArray⟩,.int .u8 x1]).run Tryz.prog w=(Go.Extern.BytealgIndexByte.indexByte #[.string ⟨x0.toArray⟩,.int .u8 x1] >>= fun v=>pure (Next.value v)).run Tryz.prog w:=by
    unfold callFunc
    rw[Sem.run_bind]
    have e2:(program).run Tryz.prog w = .ok Tryz.prog w:=rfl
    rw[e2,Result.andThen_ok,wqj3]
    simp only[wq8s,wqgx,if_true,Bool.false_eq_true,if_false]
    rw[Sem.run_bind]
    have e3:(mark (.extern 270)).run Tryz.prog w = .ok () w:=rfl
    rw[e3,Result.andThen_ok,hn3,wqgw]
   rw[e1]
   have e4:=wq1b9 (P:=Tryz.prog) x0 x1 w
   rw[Sem.run_bind,e4];rfl
  show Does _ _ #[_,_] _ _
  unfold Does
  rw[hrun]
  exact⟨.ret [.v (.int .i64) (wqgv x0 x1)] [],h,G,⟨_,rfl,rfl⟩,wq1hb⟩
 ·cases h
end Go.Proofs.YtbjkpddloieekaaGreatDoor.Pvm
noncomputable section
namespace Go.Proofs.YtbjkpddloieekaaGreatDoor.Pvm
open Go Go.Proofs
def wqfi:List LS:=[.any,.any]
def wqe5{R:Type}(K:(Int→Option R)): Out→Option R
 |.ret [.v (.int .i64) y0] []=>K y0
 |_=>none
def wqsh:RetSpec:=⟨[.any],[],[]⟩
def wqsi(k:Nat): Ctx:=⟨tyT,[],(.add 270 wqho (wq4t k) .nil),[],[],[],@SH⟩
def wqii(k:Nat){R:Type}(x0:(List UInt8))(x1:Int)(K:(Int→Option R)): Option R:=wq6b k x0 x1 K
def wq5a(k:Nat){R:Type}(x0:(List UInt8))(x1:Int)(K:(Int→Option R)): Option R:=wqii k x0 x1 K
theorem wqnb(k:Nat){R:Type}(x0:(List UInt8))(x1:Int)(K:(Int→Option R)): fnW (wqsi k) k Tryz.f254 wqsh [.v .str x0,.v (.int .u8) x1] [] (wqe5 K)=wq5a k x0 x1 K:=by
 kernel_rfl
def wq3g(k:Nat){R:Type}: List PV→List (Nm×HObj)→(Out→Option R)→Option R
 |[.v .str x0,.v (.int .u8) x1],[],K=>wq5a k x0 x1 (fun y0=>K (.ret [.v (.int .i64) y0] []))
 |_,_,_=>none
theorem wqij(k:Nat): DOK Tryz.prog 254 (wq3g k):=by
 intro ps hp R K r h
 have h:wq3g k ps hp K=some r:=h
 unfold wq3g at h
 split at h
 ·rw[←wqnb]at h
  exact fnW_ok ⟨tyT_ok,(CTab.add_ok (fun h=>wqjk k h) CTab.nil_ok),fun _ _=>rfl⟩ mixed (by kernel_rfl) (by kernel_rfl) h fun o ho=>by unfold wqe5 at ho;split at ho<;>first|exact ho|cases ho
 ·cases h
end Go.Proofs.YtbjkpddloieekaaGreatDoor.Pvm
end
noncomputable section
namespace Go.Proofs.YtbjkpddloieekaaGreatDoor.Pvm
open Go Go.Proofs
def wqyx:List LS:=[.any,.any]
def wqjl{R:Type}(K:(Int→Option R)): Out→Option R
 |.ret [.v (.int .i64) y0] []=>K y0
 |_=>none
def wq12c:RetSpec:=⟨[.any],[],[]⟩
def wq12d(k:Nat): Ctx:=⟨tyT,[],(.add 254 wqfi (wq3g k) .nil),[],[],[],@SH⟩
def wqu8(k:Nat){R:Type}(x0:(List UInt8))(x1:UInt8)(K:(Int→Option R)): Option R:=cond (cond ((@List.length UInt8 [x1]:Int) == 0) true ([x1] == x0)) (K 0) (wq5a k x0 ((([x1]).getD (Int.toNat 0) 0).toNat:Int) K)
def wqfj(k:Nat){R:Type}(x0:(List UInt8))(x1:UInt8)(K:(Int→Option R)): Option R:=wqu8 k x0 x1 K
theorem wqx0(k:Nat){R:Type}(x0:(List UInt8))(x1:UInt8)(K:(Int→Option R)): fnW (wq12d k) k Tryz.f227 wq12c [.v .str x0,.v .str [x1]] [] (wqjl K)=wqfj k x0 x1 K:=by
 kernel_rfl
def wqaw(k:Nat){R:Type}: List PV→List (Nm×HObj)→(Out→Option R)→Option R
 |[.v .str x0,.v .str [x1]],[],K=>wqfj k x0 x1 (fun y0=>K (.ret [.v (.int .i64) y0] []))
 |_,_,_=>none
theorem wq151(k:Nat): DOK Tryz.prog 227 (wqaw k):=by
 intro ps hp R K r h
 have h:wqaw k ps hp K=some r:=h
 unfold wqaw at h
 split at h
 ·rw[←wqx0]at h
  exact fnW_ok ⟨tyT_ok,(wq4 (wqij k) CTab.nil_ok),fun _ _=>rfl⟩ mixed (by kernel_rfl) (by kernel_rfl) h fun o ho=>by unfold wqjl at ho;split at ho<;>first|exact ho|cases ho
 ·cases h
end Go.Proofs.YtbjkpddloieekaaGreatDoor.Pvm
end
noncomputable section
namespace Go.Proofs.YtbjkpddloieekaaGreatDoor.Pvm
open Go Go.Proofs
def wq152:List LS:=[.any,.any]
def wqpr{R:Type}(K:((List UInt8)→(List UInt8)→Bool→Option R)): Out→Option R
 |.ret [.v .str y0,.v .str y1,.v .bool y2] []=>K y0 y1 y2
 |_=>none
def wq18f:RetSpec:=⟨[.any,.any,.any],[],[]⟩
def wq18g(k:Nat): Ctx:=⟨tyT,[],(.add 227 wqyx (wqaw k) .nil),[],[],[(3,(.of [(0,1),(1,1),(2,1),(3,1),(4,1),(5,1),(6,1),(7,1),(8,1),(9,1),(10,1),(11,1)] .done))],@SH⟩
def wq11e(k:Nat){R:Type}(x0:(List UInt8))(x1:UInt8)(K:((List UInt8)→(List UInt8)→Bool→Option R)): Option R:=wqfj k x0 x1 (fun y5=>cond (decide (y5≥0)) (cond (bnd 0 y5 (x0.length:Int)) (cond (bnd (@Go.IntKind.wrap Go.IntKind.i64 (y5+(@List.length UInt8 [x1]:Int))) (x0.length:Int) (x0.length:Int)) (K (cut x0 0 y5) (cut x0 (@Go.IntKind.wrap Go.IntKind.i64 (y5+(@List.length UInt8 [x1]:Int))) (x0.length:Int)) true) none) none) (K x0 [] false))
def wql2(k:Nat){R:Type}(x0:(List UInt8))(x1:UInt8)(K:((List UInt8)→(List UInt8)→Bool→Option R)): Option R:=wq11e k x0 x1 K
theorem wq12e(k:Nat){R:Type}(x0:(List UInt8))(x1:UInt8)(K:((List UInt8)→(List UInt8)→Bool→Option R)): fnW (wq18g k) k Tryz.f190 wq18f [.v .str x0,.v .str [x1]] [] (wqpr K)=wql2 k x0 x1 K:=by
 kernel_rfl
def wqfk(k:Nat){R:Type}: List PV→List (Nm×HObj)→(Out→Option R)→Option R
 |[.v .str x0,.v .str [x1]],[],K=>wql2 k x0 x1 (fun y0 y1 y2=>K (.ret [.v .str y0,.v .str y1,.v .bool y2] []))
 |_,_,_=>none
theorem wq1ba(k:Nat): DOK Tryz.prog 190 (wqfk k):=by
 intro ps hp R K r h
 have h:wqfk k ps hp K=some r:=h
 unfold wqfk at h
 split at h
 ·rw[←wq12e]at h
  exact fnW_ok ⟨tyT_ok,(wq4 (wq151 k) CTab.nil_ok),fun _ _=>rfl⟩ mixed (by kernel_rfl) (by kernel_rfl) h fun o ho=>by unfold wqpr at ho;split at ho<;>first|exact ho|cases ho
 ·cases h
end Go.Proofs.YtbjkpddloieekaaGreatDoor.Pvm
end
noncomputable section
namespace Go.Proofs.YtbjkpddloieekaaGreatDoor.Pvm
open Go Go.Proofs
def wqga:List LS:=[.any,.any]
def wqjm{R:Type}(K:((List UInt8)→(List UInt8)→Bool→Option R)): Out→Option R
 |.ret [.v .str y0,.v .str y1,.v .bool y2] []=>K y0 y1 y2
 |_=>none
def wq12f:RetSpec:=⟨[.any,.any,.any],[],[]⟩
def wq12g(k:Nat): Ctx:=⟨tyT,[],(.add 190 wq152 (wqfk k) .nil),[],[],[],@SH⟩
def wqu9(k:Nat){R:Type}(x0:(List UInt8))(x1:UInt8)(K:((List UInt8)→(List UInt8)→Bool→Option R)): Option R:=wql2 k x0 x1 K
def wq3h(k:Nat){R:Type}(x0:(List UInt8))(x1:UInt8)(K:((List UInt8)→(List UInt8)→Bool→Option R)): Option R:=wqu9 k x0 x1 K
theorem wqx1(k:Nat){R:Type}(x0:(List UInt8))(x1:UInt8)(K:((List UInt8)→(List UInt8)→Bool→Option R)): fnW (wq12g k) k Tryz.f138 wq12f [.v .str x0,.v .str [x1]] [] (wqjm K)=wq3h k x0 x1 K:=by
 kernel_rfl
def wq7k(k:Nat){R:Type}: List PV→List (Nm×HObj)→(Out→Option R)→Option R
 |[.v .str x0,.v .str [x1]],[],K=>wq3h k x0 x1 (fun y0 y1 y2=>K (.ret [.v .str y0,.v .str y1,.v .bool y2] []))
 |_,_,_=>none
theorem wqua(k:Nat): DOK Tryz.prog 138 (wq7k k):=by
 intro ps hp R K r h
 have h:wq7k k ps hp K=some r:=h
 unfold wq7k at h
 split at h
 ·rw[←wqx1]at h
  exact fnW_ok ⟨tyT_ok,(wq4 (wq1ba k) CTab.nil_ok),fun _ _=>rfl⟩ mixed (by kernel_rfl) (by kernel_rfl) h fun o ho=>by unfold wqjm at ho;split at ho<;>first|exact ho|cases ho
 ·cases h
end Go.Proofs.YtbjkpddloieekaaGreatDoor.Pvm
end
noncomputable section
namespace Go.Proofs.YtbjkpddloieekaaGreatDoor.Pvm
open Go Go.Proofs
def wqsj:List LS:=[.any]
def wqx2{R:Type}(K:((List UInt8)→Option R)): Out→Option R
 |.ret [.v .str y0] []=>K y0
 |_=>none
def wq1dl:RetSpec:=⟨[.any],[],[]⟩
def wq1dm(k:Nat): Ctx:=⟨tyT,[],(.add 138 wqga (wq7k k) (.add 204 wqu3 (wqbj k) .nil)),[],[],[],@SH⟩
def wq1ac(k:Nat){R:Type}(x0:(List UInt8))(K:((List UInt8)→Option R)): Option R:=wq3h k x0 58 (fun y4 y5 y6=>cond ((!y6) == false) (wqdr k y4 (fun y7=>cond ((!(((!y7) == false)&&((!(y5 == [])) == true))) || (inb 0 (y5.length:Int))) (cond (cond (!y7) true (cond (!(y5 == [])) (((y5.getD (Int.toNat 0) 0).toNat:Int) != 32) false)) (K []) (K y4)) none)) (K []))
def wqax(k:Nat){R:Type}(x0:(List UInt8))(K:((List UInt8)→Option R)): Option R:=wq1ac k x0 K
theorem wq18h(k:Nat){R:Type}(x0:(List UInt8))(K:((List UInt8)→Option R)): fnW (wq1dm k) k Tryz.f220 wq1dl [.v .str x0] [] (wqx2 K)=wqax k x0 K:=by
 kernel_rfl
def wqgy(k:Nat){R:Type}: List PV→List (Nm×HObj)→(Out→Option R)→Option R
 |[.v .str x0],[],K=>wqax k x0 (fun y0=>K (.ret [.v .str y0] []))
 |_,_,_=>none
theorem wq1ad(k:Nat): DOK Tryz.prog 220 (wqgy k):=by
 intro ps hp R K r h
 have h:wqgy k ps hp K=some r:=h
 unfold wqgy at h
 split at h
 ·rw[←wq18h]at h
  exact fnW_ok ⟨tyT_ok,(wq4 (wqua k) (wq4 (wq11d k) CTab.nil_ok)),fun _ _=>rfl⟩ mixed (by kernel_rfl) (by kernel_rfl) h fun o ho=>by unfold wqx2 at ho;split at ho<;>first|exact ho|cases ho
 ·cases h
end Go.Proofs.YtbjkpddloieekaaGreatDoor.Pvm
end
noncomputable section
namespace Go.Proofs.YtbjkpddloieekaaGreatDoor.Pvm
open Go Go.Proofs
def wq26:List LS:=[.obj 1 [.any,.any,.any,.any,.own 21 159 kdT158],.any]
def wqe6{R:Type}(K:(Int→Int→(List UInt8)→Int→(List dT158)→Option R))(E:(Int→Int→(List UInt8)→Int→(List dT158)→Int→Int→Option R)): Out→Option R
 |.ret [] [(21,.row 159 (.pr (.int .i64) (.pr (.int .i64) (.pr (.int .i64) (.pr .str .bool)))) y4),(1,.var 213 [.v (.int .i64) y0,.v (.int .i64) y1,.v .str y2,.v (.int .i64) y3,.row 21])]=>K y0 y1 y2 y3 y4
 |.pan (.ifc 31 (.agg [.v (.int .i64) z5,.v (.int .i64) z6])) [(21,.row 159 (.pr (.int .i64) (.pr (.int .i64) (.pr (.int .i64) (.pr .str .bool)))) z4),(1,.var 213 [.v (.int .i64) z0,.v (.int .i64) z1,.v .str z2,.v (.int .i64) z3,.row 21])]=>E z0 z1 z2 z3 z4 z5 z6
 |_=>none
def wqsk:RetSpec:=⟨[],[(1,.obj 1 [.any,.any,.any,.any,.own 21 159 (.pr (.int .i64) (.pr (.int .i64) (.pr (.int .i64) (.pr .str .bool))))])],[(1,.obj 1 [.any,.any,.any,.any,.own 21 159 (.pr (.int .i64) (.pr (.int .i64) (.pr (.int .i64) (.pr .str .bool))))])]⟩
def wqsl(k:Nat): Ctx:=⟨tyT,[],.nil,[],[1],[],@SH⟩
def wqv3(k:Nat){R:Type}(x0 x1:Int)(x2:(List UInt8))(x3:Int)(x4:(List dT158))(x5:Int)(K:(Int→Int→(List UInt8)→Int→(List dT158)→Option R))(E:(Int→Int→(List UInt8)→Int→(List dT158)→Int→Int→Option R)): Option R:=E x0 x1 x2 x3 x4 x5 x0
def wq3(k:Nat){R:Type}(x0 x1:Int)(x2:(List UInt8))(x3:Int)(x4:(List dT158))(x5:Int)(K:(Int→Int→(List UInt8)→Int→(List dT158)→Option R))(E:(Int→Int→(List UInt8)→Int→(List dT158)→Int→Int→Option R)): Option R:=wqv3 k x0 x1 x2 x3 x4 x5 K E
theorem wqnc(k:Nat){R:Type}(x0 x1:Int)(x2:(List UInt8))(x3:Int)(x4:(List dT158))(x5:Int)(K:(Int→Int→(List UInt8)→Int→(List dT158)→Option R))(E:(Int→Int→(List UInt8)→Int→(List dT158)→Int→Int→Option R)): fnW (wqsl k) k Tryz.f216 wqsk [.ptr 1 0,.v kI x5] [(21,.row 159 kdT158 x4),(1,.var 213 [.v kI x0,.v kI x1,.v .str x2,.v kI x3,.row 21])] (wqe6 K E)=wq3 k x0 x1 x2 x3 x4 x5 K E:=by
 kernel_rfl
def wq19(k:Nat){R:Type}: List PV→List (Nm×HObj)→(Out→Option R)→Option R
 |[.ptr 1 0,.v (.int .i64) x5],[(21,.row 159 (.pr (.int .i64) (.pr (.int .i64) (.pr (.int .i64) (.pr .str .bool)))) x4),(1,.var 213 [.v (.int .i64) x0,.v (.int .i64) x1,.v .str x2,.v (.int .i64) x3,.row 21])],K=>wq3 k x0 x1 x2 x3 x4 x5 (fun y0 y1 y2 y3 y4=>K (.ret [] [(21,.row 159 (.pr (.int .i64) (.pr (.int .i64) (.pr (.int .i64) (.pr .str .bool)))) y4),(1,.var 213 [.v (.int .i64) y0,.v (.int .i64) y1,.v .str y2,.v (.int .i64) y3,.row 21])])) (fun z0 z1 z2 z3 z4 z5 z6=>K (.pan (.ifc 31 (.agg [.v (.int .i64) z5,.v (.int .i64) z6])) [(21,.row 159 (.pr (.int .i64) (.pr (.int .i64) (.pr (.int .i64) (.pr .str .bool)))) z4),(1,.var 213 [.v (.int .i64) z0,.v (.int .i64) z1,.v .str z2,.v (.int .i64) z3,.row 21])]))
 |_,_,_=>none
theorem wq5b(k:Nat): DOK Tryz.prog 216 (wq19 k):=by
 intro ps hp R K r h
 have h:wq19 k ps hp K=some r:=h
 unfold wq19 at h
 split at h
 ·rw[←wqnc]at h
  exact fnW_ok ⟨tyT_ok,CTab.nil_ok,fun _ _=>rfl⟩ mixed (by kernel_rfl) (by kernel_rfl) h fun o ho=>by unfold wqe6 at ho;split at ho<;>first|exact ho|cases ho
 ·cases h
end Go.Proofs.YtbjkpddloieekaaGreatDoor.Pvm
end
noncomputable section
namespace Go.Proofs.YtbjkpddloieekaaGreatDoor.Pvm
open Go Go.Proofs
def wq8z:List LS:=[.obj 1 [.any,.any,.any,.any,.own 21 159 kdT158],.any,.any,.any,.any]
def wqe7{R:Type}(K:(Int→Int→(List UInt8)→Int→(List dT158)→Option R)): Out→Option R
 |.ret [] [(21,.row 159 (.pr (.int .i64) (.pr (.int .i64) (.pr (.int .i64) (.pr .str .bool)))) y4),(1,.var 213 [.v (.int .i64) y0,.v (.int .i64) y1,.v .str y2,.v (.int .i64) y3,.row 21])]=>K y0 y1 y2 y3 y4
 |_=>none
def wqsm:RetSpec:=⟨[],[(1,.obj 1 [.any,.any,.any,.any,.own 21 159 (.pr (.int .i64) (.pr (.int .i64) (.pr (.int .i64) (.pr .str .bool))))])],[]⟩
def wqsn(k:Nat): Ctx:=⟨tyT,[],.nil,[],[1],[(0,(.of [(0,1),(1,1),(2,1),(3,1),(5,1),(6,1),(7,1),(8,1),(9,1),(11,1),(12,1),(13,1),(14,1),(16,1),(17,1),(18,1),(21,1),(22,1),(4,1),(10,1),(15,1),(19,1),(20,1),(23,1),(24,0),(25,0),(26,1),(27,1),(28,0)] .done))],@SH⟩
def wqik(k:Nat){R:Type}(x0 x1:Int)(x2:(List UInt8))(x3:Int)(x4:(List dT158))(x5:Int)(x6:(List UInt8))(x7:Bool)(x8:Int)(K:(Int→Int→(List UInt8)→Int→(List dT158)→Option R)): Option R:=cond (fits x4.length (@List.length (@Kd.T (@Kd.pr kI (@Kd.pr kI (@Kd.pr kI (@Kd.pr Kd.str Kd.bool))))) [(x5,(x0,((@Go.IntKind.wrap Go.IntKind.i64 (x1+x3)),(x6,x7))))]) 48) (K x0 x1 x2 (@Go.IntKind.wrap Go.IntKind.i64 (x3+x8)) (x4++[(x5,(x0,((@Go.IntKind.wrap Go.IntKind.i64 (x1+x3)),(x6,x7))))])) none
def wq7(k:Nat){R:Type}(x0 x1:Int)(x2:(List UInt8))(x3:Int)(x4:(List dT158))(x5:Int)(x6:(List UInt8))(x7:Bool)(x8:Int)(K:(Int→Int→(List UInt8)→Int→(List dT158)→Option R)): Option R:=wqik k x0 x1 x2 x3 x4 x5 x6 x7 x8 K
theorem wqnd(k:Nat){R:Type}(x0 x1:Int)(x2:(List UInt8))(x3:Int)(x4:(List dT158))(x5:Int)(x6:(List UInt8))(x7:Bool)(x8:Int)(K:(Int→Int→(List UInt8)→Int→(List dT158)→Option R)): fnW (wqsn k) k Tryz.f219 wqsm [.ptr 1 0,.v kI x5,.v .str x6,.v .bool x7,.v kI x8] [(21,.row 159 kdT158 x4),(1,.var 213 [.v kI x0,.v kI x1,.v .str x2,.v kI x3,.row 21])] (wqe7 K)=wq7 k x0 x1 x2 x3 x4 x5 x6 x7 x8 K:=by
 kernel_rfl
def wq3i(k:Nat){R:Type}: List PV→List (Nm×HObj)→(Out→Option R)→Option R
 |[.ptr 1 0,.v (.int .i64) x5,.v .str x6,.v .bool x7,.v (.int .i64) x8],[(21,.row 159 (.pr (.int .i64) (.pr (.int .i64) (.pr (.int .i64) (.pr .str .bool)))) x4),(1,.var 213 [.v (.int .i64) x0,.v (.int .i64) x1,.v .str x2,.v (.int .i64) x3,.row 21])],K=>wq7 k x0 x1 x2 x3 x4 x5 x6 x7 x8 (fun y0 y1 y2 y3 y4=>K (.ret [] [(21,.row 159 (.pr (.int .i64) (.pr (.int .i64) (.pr (.int .i64) (.pr .str .bool)))) y4),(1,.var 213 [.v (.int .i64) y0,.v (.int .i64) y1,.v .str y2,.v (.int .i64) y3,.row 21])]))
 |_,_,_=>none
theorem wqil(k:Nat): DOK Tryz.prog 219 (wq3i k):=by
 intro ps hp R K r h
 have h:wq3i k ps hp K=some r:=h
 unfold wq3i at h
 split at h
 ·rw[←wqnd]at h
  exact fnW_ok ⟨tyT_ok,CTab.nil_ok,fun _ _=>rfl⟩ mixed (by kernel_rfl) (by kernel_rfl) h fun o ho=>by unfold wqe7 at ho;split at ho<;>first|exact ho|cases ho
 ·cases h
end Go.Proofs.YtbjkpddloieekaaGreatDoor.Pvm
end
noncomputable section
namespace Go.Proofs.YtbjkpddloieekaaGreatDoor.Pvm
open Go Go.Proofs
def wqso:List LS:=[.obj 1 [.any,.any,.any,.any,.own 21 159 kdT158]]
def wq5t{R:Type}(K:(Int→Int→(List UInt8)→Int→(List dT158)→(List UInt8)→Option R)): Out→Option R
 |.ret [.v .str y5] [(21,.row 159 (.pr (.int .i64) (.pr (.int .i64) (.pr (.int .i64) (.pr .str .bool)))) y4),(1,.var 213 [.v (.int .i64) y0,.v (.int .i64) y1,.v .str y2,.v (.int .i64) y3,.row 21])]=>K y0 y1 y2 y3 y4 y5
 |_=>none
def wqc6:RetSpec:=⟨[.any],[(1,.obj 1 [.any,.any,.any,.any,.own 21 159 (.pr (.int .i64) (.pr (.int .i64) (.pr (.int .i64) (.pr .str .bool))))])],[]⟩
def wqc7(k:Nat): Ctx:=⟨tyT,[(1001,⟨[(0,.obj 1 [.any,.any,.any,.any,.own 21 159 kdT158])],[(1,.obj 1 [.any,.any,.any,.any,.own 21 159 kdT158])]⟩)],.nil,[],[1],[(1,(.of [(0,1),(1,1),(2,1),(4,1),(5,1),(6,1),(7,1),(3,1),(8,1),(9,1),(10,1),(11,1),(12,1),(13,1),(14,1),(15,1),(17,1),(18,1),(19,1),(16,1),(20,1),(21,1),(22,1),(23,1)] .done)),(3,(.of [(0,1),(1,1),(2,1),(3,1),(5,1),(6,1),(7,1),(4,1),(8,1),(9,1),(10,1)] .done))],@SH⟩
def wq3j(s0 s1:Int)(s2:(List UInt8))(s3:Int)(s4:(List dT158)): St:=⟨mkT [(0,.ptr 1 0)],mkH [(21,.row 159 kdT158 s4),(1,.var 213 [.v kI s0,.v kI s1,.v .str s2,.v kI s3,.row 21])]⟩
def wq7c(k:Nat){R:Type}(I:Nat→St→Option R)(n:Nat)(s:St)(K:(Int→Int→(List UInt8)→Int→(List dT158)→(List UInt8)→Option R)): Option R:=loopK (wqc7 k) k Tryz.f217 wqc6 1001 [1,0,0] I n s (wq5t K)
def wq3w(k:Nat){R:Type}(E1001:(Int→Int→(List UInt8)→Int→(List dT158)→Option R))(s0 s1:Int)(s2:(List UInt8))(s3:Int)(s4:(List dT158))(K:(Int→Int→(List UInt8)→Int→(List dT158)→(List UInt8)→Option R)): Option R:=cond ((!((decide (s3<(s2.length:Int))) == true)) || (inb s3 (s2.length:Int))) (cond (cond (decide (s3<(s2.length:Int))) (((s2.getD s3.toNat 0).toNat:Int) == 32) false) (E1001 s0 s1 s2 (@Go.IntKind.wrap Go.IntKind.i64 (s3+1)) s4) (cond (bnd s3 (s2.length:Int) (s2.length:Int)) (K s0 s1 s2 s3 s4 (cut s2 s3 (s2.length:Int))) none)) none
theorem wqhp(k:Nat){R:Type}(I:Nat→St→Option R)(s0 s1:Int)(s2:(List UInt8))(s3:Int)(s4:(List dT158))(K:(Int→Int→(List UInt8)→Int→(List dT158)→(List UInt8)→Option R)): bodyK (wqc7 k) k Tryz.f217 wqc6 [1,0,0,0] I (wq3j s0 s1 s2 s3 s4) (wq5t K)=wq3w k (fun s0 s1 s2 s3 s4=>I 1001 (wq3j s0 s1 s2 s3 s4)) s0 s1 s2 s3 s4 K:=by kernel_rfl
def wqe8(k:Nat){R:Type}(E1001:(Int→Int→(List UInt8)→Int→(List dT158)→Option R))(x0 x1:Int)(x2:(List UInt8))(x3:Int)(x4:(List dT158))(K:(Int→Int→(List UInt8)→Int→(List dT158)→(List UInt8)→Option R)): Option R:=E1001 x0 x1 x2 x3 x4
def wq1u(k:Nat){R:Type}: Nat→Int→Int→(List UInt8)→Int→(List dT158)→(Int→Int→(List UInt8)→Int→(List dT158)→(List UInt8)→Option R)→Option R
 |0,_,_,_,_,_,_=>none
 |n+1,s0,s1,s2,s3,s4,K=>wq3w k (fun s0 s1 s2 s3 s4=>wq1u k n s0 s1 s2 s3 s4 K) s0 s1 s2 s3 s4 K
theorem wqhq(k:Nat){R:Type}(I:Nat→St→Option R)(K:(Int→Int→(List UInt8)→Int→(List dT158)→(List UInt8)→Option R))(n:Nat): ∀(s0 s1:Int) (s2:(List UInt8)) (s3:Int) (s4:(List dT158)),wq7c k I n (wq3j s0 s1 s2 s3 s4) K=wq1u k n s0 s1 s2 s3 s4 K:=by
 induction n with
 |zero=>intros;rfl
 |succ n ih =>
  intro s0 s1 s2 s3 s4
  refine(?_:_=_).trans ((wqhp k (upI 1001 (fun s=>wq7c k I n s K) I) s0 s1 s2 s3 s4 K).trans ?_)
  ·rfl
  ·simp only[wqy,ih]<;>rfl
def wq1s(k:Nat){R:Type}(x0 x1:Int)(x2:(List UInt8))(x3:Int)(x4:(List dT158))(K:(Int→Int→(List UInt8)→Int→(List dT158)→(List UInt8)→Option R)): Option R:=wqe8 k (fun s0 s1 s2 s3 s4=>wq1u k k s0 s1 s2 s3 s4 K) x0 x1 x2 x3 x4 K
theorem wqps(k:Nat){R:Type}(x0 x1:Int)(x2:(List UInt8))(x3:Int)(x4:(List dT158))(K:(Int→Int→(List UInt8)→Int→(List dT158)→(List UInt8)→Option R)): fnW (wqc7 k) k Tryz.f217 wqc6 [.ptr 1 0] [(21,.row 159 kdT158 x4),(1,.var 213 [.v kI x0,.v kI x1,.v .str x2,.v kI x3,.row 21])] (wq5t K)=wq1s k x0 x1 x2 x3 x4 K:=by
 refine Eq.trans (b:=wqe8 k (fun s0 s1 s2 s3 s4=>wq7c k (fun _ _=>none) k (wq3j s0 s1 s2 s3 s4) K) x0 x1 x2 x3 x4 K) (by kernel_rfl) ?_
 simp only[wqhq]<;>rfl
def wq6q(k:Nat){R:Type}: List PV→List (Nm×HObj)→(Out→Option R)→Option R
 |[.ptr 1 0],[(21,.row 159 (.pr (.int .i64) (.pr (.int .i64) (.pr (.int .i64) (.pr .str .bool)))) x4),(1,.var 213 [.v (.int .i64) x0,.v (.int .i64) x1,.v .str x2,.v (.int .i64) x3,.row 21])],K=>wq1s k x0 x1 x2 x3 x4 (fun y0 y1 y2 y3 y4 y5=>K (.ret [.v .str y5] [(21,.row 159 (.pr (.int .i64) (.pr (.int .i64) (.pr (.int .i64) (.pr .str .bool)))) y4),(1,.var 213 [.v (.int .i64) y0,.v (.int .i64) y1,.v .str y2,.v (.int .i64) y3,.row 21])]))
 |_,_,_=>none
theorem wqx3(k:Nat): DOK Tryz.prog 217 (wq6q k):=by
 intro ps hp R K r h
 have h:wq6q k ps hp K=some r:=h
 unfold wq6q at h
 split at h
 ·rw[←wqps]at h
  exact fnW_ok ⟨tyT_ok,CTab.nil_ok,fun _ _=>rfl⟩ mixed (by kernel_rfl) (by kernel_rfl) h fun o ho=>by unfold wq5t at ho;split at ho<;>first|exact ho|cases ho
 ·cases h
end Go.Proofs.YtbjkpddloieekaaGreatDoor.Pvm
end
noncomputable section
namespace Go.Proofs.YtbjkpddloieekaaGreatDoor.Pvm
open Go Go.Proofs
def wq7d:List LS:=[.any,.any]
def wqbn{R:Type}(K:(Int→Option R)): Out→Option R
 |.ret [.v (.int .i64) y0] []=>K y0
 |_=>none
def wqne:RetSpec:=⟨[.any],[],[]⟩
def wqnf(k:Nat): Ctx:=⟨tyT,[],(.add 254 wqfi (wq3g k) .nil),[],[],[],@SH⟩
def wqpt(k:Nat){R:Type}(x0:(List UInt8))(x1:Int)(K:(Int→Option R)): Option R:=wq5a k x0 x1 K
def wqa(k:Nat){R:Type}(x0:(List UInt8))(x1:Int)(K:(Int→Option R)): Option R:=wqpt k x0 x1 K
theorem wqjn(k:Nat){R:Type}(x0:(List UInt8))(x1:Int)(K:(Int→Option R)): fnW (wqnf k) k Tryz.f248 wqne [.v .str x0,.v (.int .u8) x1] [] (wqbn K)=wqa k x0 x1 K:=by
 kernel_rfl
def wq2f(k:Nat){R:Type}: List PV→List (Nm×HObj)→(Out→Option R)→Option R
 |[.v .str x0,.v (.int .u8) x1],[],K=>wqa k x0 x1 (fun y0=>K (.ret [.v (.int .i64) y0] []))
 |_,_,_=>none
theorem wqfl(k:Nat): DOK Tryz.prog 248 (wq2f k):=by
 intro ps hp R K r h
 have h:wq2f k ps hp K=some r:=h
 unfold wq2f at h
 split at h
 ·rw[←wqjn]at h
  exact fnW_ok ⟨tyT_ok,(wq4 (wqij k) CTab.nil_ok),fun _ _=>rfl⟩ mixed (by kernel_rfl) (by kernel_rfl) h fun o ho=>by unfold wqbn at ho;split at ho<;>first|exact ho|cases ho
 ·cases h
end Go.Proofs.YtbjkpddloieekaaGreatDoor.Pvm
end
noncomputable section
namespace Go.Proofs.YtbjkpddloieekaaGreatDoor.Pvm
open Go Go.Proofs
def wqpu:List LS:=[.obj 1 [.any,.any,.any,.any,.own 21 159 kdT158],.any]
def wqe9{R:Type}(K E:(Int→Int→(List UInt8)→Int→(List dT158)→Int→Int→Option R)): Out→Option R
 |.ret [.v (.int .u8) y5,.v (.int .i64) y6] [(21,.row 159 (.pr (.int .i64) (.pr (.int .i64) (.pr (.int .i64) (.pr .str .bool)))) y4),(1,.var 213 [.v (.int .i64) y0,.v (.int .i64) y1,.v .str y2,.v (.int .i64) y3,.row 21])]=>K y0 y1 y2 y3 y4 y5 y6
 |.pan (.ifc 31 (.agg [.v (.int .i64) z5,.v (.int .i64) z6])) [(21,.row 159 (.pr (.int .i64) (.pr (.int .i64) (.pr (.int .i64) (.pr .str .bool)))) z4),(1,.var 213 [.v (.int .i64) z0,.v (.int .i64) z1,.v .str z2,.v (.int .i64) z3,.row 21])]=>E z0 z1 z2 z3 z4 z5 z6
 |_=>none
def wqsp:RetSpec:=⟨[.any,.any],[(1,.obj 1 [.any,.any,.any,.any,.own 21 159 (.pr (.int .i64) (.pr (.int .i64) (.pr (.int .i64) (.pr .str .bool))))])],[(1,.obj 1 [.any,.any,.any,.any,.own 21 159 (.pr (.int .i64) (.pr (.int .i64) (.pr (.int .i64) (.pr .str .bool))))])]⟩
def wqsq(k:Nat): Ctx:=⟨tyT,[],(.add 216 wq26 (wq19 k) (.add 248 wq7d (wq2f k) .nil)),[],[1],[(14,(.of [(0,1),(1,1),(3,1),(4,1),(2,0),(5,0),(6,1),(7,1)] .done))],@SH⟩
def wqim(k:Nat){R:Type}(x0 x1:Int)(x2:(List UInt8))(x3:Int)(x4:(List dT158))(x5:(List UInt8))(K E:(Int→Int→(List UInt8)→Int→(List dT158)→Int→Int→Option R)): Option R:=cond (x5 == []) (wq3 k x0 x1 x2 x3 x4 3 (fun y10 y11 y12 y13 y14=>cond (inb 0 (x5.length:Int)) (cond (((x5.getD (Int.toNat 0) 0).toNat:Int) == 92) (cond (inb 0 (x5.length:Int)) (K y10 y11 y12 y13 y14 ((x5.getD (Int.toNat 0) 0).toNat:Int) 1) none) (cond (((x5.getD (Int.toNat 0) 0).toNat:Int) == 34) (cond (inb 0 (x5.length:Int)) (K y10 y11 y12 y13 y14 ((x5.getD (Int.toNat 0) 0).toNat:Int) 1) none) (cond (((x5.getD (Int.toNat 0) 0).toNat:Int) == 110) (K y10 y11 y12 y13 y14 10 1) (cond (((x5.getD (Int.toNat 0) 0).toNat:Int) == 116) (K y10 y11 y12 y13 y14 9 1) (cond (((x5.getD (Int.toNat 0) 0).toNat:Int) == 120) (cond (decide ((x5.length:Int)<3)) (wq3 k y10 y11 y12 y13 y14 3 (fun y15 y16 y17 y18 y19=>cond (inb 1 (x5.length:Int)) (cond (inb 2 (x5.length:Int)) (wqa k [48,49,50,51,52,53,54,55,56,57,97,98,99,100,101,102] ((x5.getD (Int.toNat 1) 0).toNat:Int) (fun y20=>wqa k [48,49,50,51,52,53,54,55,56,57,97,98,99,100,101,102] ((x5.getD (Int.toNat 2) 0).toNat:Int) (fun y21=>cond (cond (decide (y20<0)) true (decide (y21<0))) (wq3 k y15 y16 y17 y18 y19 3 (fun y22 y23 y24 y25 y26=>K y22 y23 y24 y25 y26 (@Go.IntKind.wrap Go.IntKind.u8 (@Go.IntKind.wrap Go.IntKind.i64 ((@Go.IntKind.wrap Go.IntKind.i64 ((16:Int)*y20))+y21))) 3) E) (K y15 y16 y17 y18 y19 (@Go.IntKind.wrap Go.IntKind.u8 (@Go.IntKind.wrap Go.IntKind.i64 ((@Go.IntKind.wrap Go.IntKind.i64 ((16:Int)*y20))+y21))) 3)))) none) none) E) (cond (inb 1 (x5.length:Int)) (cond (inb 2 (x5.length:Int)) (wqa k [48,49,50,51,52,53,54,55,56,57,97,98,99,100,101,102] ((x5.getD (Int.toNat 1) 0).toNat:Int) (fun y15=>wqa k [48,49,50,51,52,53,54,55,56,57,97,98,99,100,101,102] ((x5.getD (Int.toNat 2) 0).toNat:Int) (fun y16=>cond (cond (decide (y15<0)) true (decide (y16<0))) (wq3 k y10 y11 y12 y13 y14 3 (fun y17 y18 y19 y20 y21=>K y17 y18 y19 y20 y21 (@Go.IntKind.wrap Go.IntKind.u8 (@Go.IntKind.wrap Go.IntKind.i64 ((@Go.IntKind.wrap Go.IntKind.i64 ((16:Int)*y15))+y16))) 3) E) (K y10 y11 y12 y13 y14 (@Go.IntKind.wrap Go.IntKind.u8 (@Go.IntKind.wrap Go.IntKind.i64 ((@Go.IntKind.wrap Go.IntKind.i64 ((16:Int)*y15))+y16))) 3)))) none) none)) (wq3 k y10 y11 y12 y13 y14 3 (fun y15 y16 y17 y18 y19=>K y15 y16 y17 y18 y19 0 0) E)))))) none) E) (cond (inb 0 (x5.length:Int)) (cond (((x5.getD (Int.toNat 0) 0).toNat:Int) == 92) (cond (inb 0 (x5.length:Int)) (K x0 x1 x2 x3 x4 ((x5.getD (Int.toNat 0) 0).toNat:Int) 1) none) (cond (((x5.getD (Int.toNat 0) 0).toNat:Int) == 34) (cond (inb 0 (x5.length:Int)) (K x0 x1 x2 x3 x4 ((x5.getD (Int.toNat 0) 0).toNat:Int) 1) none) (cond (((x5.getD (Int.toNat 0) 0).toNat:Int) == 110) (K x0 x1 x2 x3 x4 10 1) (cond (((x5.getD (Int.toNat 0) 0).toNat:Int) == 116) (K x0 x1 x2 x3 x4 9 1) (cond (((x5.getD (Int.toNat 0) 0).toNat:Int) == 120) (cond (decide ((x5.length:Int)<3)) (wq3 k x0 x1 x2 x3 x4 3 (fun y10 y11 y12 y13 y14=>cond (inb 1 (x5.length:Int)) (cond (inb 2 (x5.length:Int)) (wqa k [48,49,50,51,52,53,54,55,56,57,97,98,99,100,101,102] ((x5.getD (Int.toNat 1) 0).toNat:Int) (fun y15=>wqa k [48,49,50,51,52,53,54,55,56,57,97,98,99,100,101,102] ((x5.getD (Int.toNat 2) 0).toNat:Int) (fun y16=>cond (cond (decide (y15<0)) true (decide (y16<0))) (wq3 k y10 y11 y12 y13 y14 3 (fun y17 y18 y19 y20 y21=>K y17 y18 y19 y20 y21 (@Go.IntKind.wrap Go.IntKind.u8 (@Go.IntKind.wrap Go.IntKind.i64 ((@Go.IntKind.wrap Go.IntKind.i64 ((16:Int)*y15))+y16))) 3) E) (K y10 y11 y12 y13 y14 (@Go.IntKind.wrap Go.IntKind.u8 (@Go.IntKind.wrap Go.IntKind.i64 ((@Go.IntKind.wrap Go.IntKind.i64 ((16:Int)*y15))+y16))) 3)))) none) none) E) (cond (inb 1 (x5.length:Int)) (cond (inb 2 (x5.length:Int)) (wqa k [48,49,50,51,52,53,54,55,56,57,97,98,99,100,101,102] ((x5.getD (Int.toNat 1) 0).toNat:Int) (fun y10=>wqa k [48,49,50,51,52,53,54,55,56,57,97,98,99,100,101,102] ((x5.getD (Int.toNat 2) 0).toNat:Int) (fun y11=>cond (cond (decide (y10<0)) true (decide (y11<0))) (wq3 k x0 x1 x2 x3 x4 3 (fun y12 y13 y14 y15 y16=>K y12 y13 y14 y15 y16 (@Go.IntKind.wrap Go.IntKind.u8 (@Go.IntKind.wrap Go.IntKind.i64 ((@Go.IntKind.wrap Go.IntKind.i64 ((16:Int)*y10))+y11))) 3) E) (K x0 x1 x2 x3 x4 (@Go.IntKind.wrap Go.IntKind.u8 (@Go.IntKind.wrap Go.IntKind.i64 ((@Go.IntKind.wrap Go.IntKind.i64 ((16:Int)*y10))+y11))) 3)))) none) none)) (wq3 k x0 x1 x2 x3 x4 3 (fun y10 y11 y12 y13 y14=>K y10 y11 y12 y13 y14 0 0) E)))))) none)
def wq5c(k:Nat){R:Type}(x0 x1:Int)(x2:(List UInt8))(x3:Int)(x4:(List dT158))(x5:(List UInt8))(K E:(Int→Int→(List UInt8)→Int→(List dT158)→Int→Int→Option R)): Option R:=wqim k x0 x1 x2 x3 x4 x5 K E
theorem wqng(k:Nat){R:Type}(x0 x1:Int)(x2:(List UInt8))(x3:Int)(x4:(List dT158))(x5:(List UInt8))(K E:(Int→Int→(List UInt8)→Int→(List dT158)→Int→Int→Option R)): fnW (wqsq k) k Tryz.f265 wqsp [.ptr 1 0,.v .str x5] [(21,.row 159 kdT158 x4),(1,.var 213 [.v kI x0,.v kI x1,.v .str x2,.v kI x3,.row 21])] (wqe9 K E)=wq5c k x0 x1 x2 x3 x4 x5 K E:=by
 kernel_rfl
def wq5u(k:Nat){R:Type}: List PV→List (Nm×HObj)→(Out→Option R)→Option R
 |[.ptr 1 0,.v .str x5],[(21,.row 159 (.pr (.int .i64) (.pr (.int .i64) (.pr (.int .i64) (.pr .str .bool)))) x4),(1,.var 213 [.v (.int .i64) x0,.v (.int .i64) x1,.v .str x2,.v (.int .i64) x3,.row 21])],K=>wq5c k x0 x1 x2 x3 x4 x5 (fun y0 y1 y2 y3 y4 y5 y6=>K (.ret [.v (.int .u8) y5,.v (.int .i64) y6] [(21,.row 159 (.pr (.int .i64) (.pr (.int .i64) (.pr (.int .i64) (.pr .str .bool)))) y4),(1,.var 213 [.v (.int .i64) y0,.v (.int .i64) y1,.v .str y2,.v (.int .i64) y3,.row 21])])) (fun z0 z1 z2 z3 z4 z5 z6=>K (.pan (.ifc 31 (.agg [.v (.int .i64) z5,.v (.int .i64) z6])) [(21,.row 159 (.pr (.int .i64) (.pr (.int .i64) (.pr (.int .i64) (.pr .str .bool)))) z4),(1,.var 213 [.v (.int .i64) z0,.v (.int .i64) z1,.v .str z2,.v (.int .i64) z3,.row 21])]))
 |_,_,_=>none
theorem wqv4(k:Nat): DOK Tryz.prog 265 (wq5u k):=by
 intro ps hp R K r h
 have h:wq5u k ps hp K=some r:=h
 unfold wq5u at h
 split at h
 ·rw[←wqng]at h
  exact fnW_ok ⟨tyT_ok,(wq4 (wq5b k) (wq4 (wqfl k) CTab.nil_ok)),fun _ _=>rfl⟩ mixed (by kernel_rfl) (by kernel_rfl) h fun o ho=>by unfold wqe9 at ho;split at ho<;>first|exact ho|cases ho
 ·cases h
end Go.Proofs.YtbjkpddloieekaaGreatDoor.Pvm
end
set_option maxHeartbeats 2000000
set_option maxRecDepth 100000
namespace Go.Proofs.YtbjkpddloieekaaGreatDoor.Pvm
open Go Go.Proofs Go.RowKit
theorem wq18i (b g cap:Nat) (p:Value) (l:List UInt8) (cur:Array Value) (w:World) (hbk:w.heap[b]? = some (.cells #[p,.slice (some ⟨g,0,none⟩) l.length cap] 94 (0,0))) (h0:l≠[])
 (hg:w.heap[g]? = some (.cells cur 5 (0,0))) (hnc:l.length≤cap) (hcm:cap≤maxLen) (hcs:cur.size=cap) (htake:∀(j:Nat) (x:UInt8),l[j]? = some x→w.cell? ⟨g,j,none⟩=some (.int .u8 x.toNat)) :
 Calls Tryz.prog 56 #[.pointer (some ⟨b,0,none⟩)] w fun e w'=>e = .returned (.string ⟨l.toArray⟩)∧w'=w.drew.freeze ⟨g,0,none⟩ l.length:=by
 have hl0:l.length≠0:=by simpa using h0
 have mixed:Tryz.prog.follows .mixedOrders=true:=by kernel_rfl
 have t86:Tryz.prog.underlying 150=some (.pointer 5):=by kernel_rfl
 have c1:w.drew.cell? ⟨b,1,none⟩=some (.slice (some ⟨g,0,none⟩) l.length cap):=by
  have:w.drew.heap[b]? = some (.cells #[p,.slice (some ⟨g,0,none⟩) l.length cap] 94 (0,0)):=hbk
  rw[Lib.cell_of_heap this];rfl
 have hSD:(Builtin.unsafeSliceData_ #[49] 150 #[.slice (some ⟨g,0,none⟩) l.length cap]).run Tryz.prog w.drew = .ok (.pointer (some ⟨g,0,none⟩)) w.drew :=
  Lib.run_unsafeSliceData_row _ _ _ _ _ _ (by omega)
 have hUS:(Builtin.unsafeString_ #[150,3] 9 #[.pointer (some ⟨g,0,none⟩),.int .i64 l.length]).run Tryz.prog w.drew = .ok (.string ⟨l.toArray⟩) (w.drew.freeze ⟨g,0,none⟩ l.length):=by
  refine Lib.run_unsafeString_row w.drew 150 3 9 5 t86 (by kernel_rfl) g cur.size (by have hg':w.drew.heap[g]? = some (.cells cur 5 (0,0)):=hg;simp[World.shape?,hg']) l h0 (by omega) (by unfold maxLen at hcm;omega) ?_
  intro j x hx
  have:=htake j x hx
  rw[show(⟨g,0,none⟩:Addr).add j=⟨g,j,none⟩ by simp[Addr.add];omega]
  exact this
 go_enter Tryz.func56,Tryz.ntmps56
 go_wp2
 go_region_o
 all_goals (go_wp2;go_ret;exact⟨rfl,rfl⟩)
theorem wq1dn(W:World)(q:Option Addr): (Builtin.unsafeString_ #[150,3] 9 #[.pointer q,.int .i64 0]).run Tryz.prog W = .ok (.string .empty) W :=
 Lib.run_unsafeString_none W _ _ _ q
theorem wq1do(b:Nat)(p:Value)(w:World)(hbk:w.heap[b]? = some (.cells #[p,.slice none 0 0] 94 (0,0))):
 Calls Tryz.prog 56 #[.pointer (some ⟨b,0,none⟩)] w fun e w'=>e = .returned (.string ⟨#[]⟩)∧w'=w.drew:=by
 have hUS:=wq1dn
 have mixed:Tryz.prog.follows .mixedOrders=true:=by kernel_rfl
 have c1:w.drew.cell? ⟨b,1,none⟩=some (.slice none 0 0):=by
  have:w.drew.heap[b]? = some (.cells #[p,.slice none 0 0] 94 (0,0)):=hbk
  rw[Lib.cell_of_heap this];rfl
 have hSD:(Builtin.unsafeSliceData_ #[49] 150 #[.slice none 0 0]).run Tryz.prog w.drew = .ok (.pointer none) w.drew:=rfl
 go_enter Tryz.func56,Tryz.ntmps56
 go_wp2
 go_region_o
 all_goals (go_wp2;go_ret;exact⟨rfl,rfl⟩)
theorem wq1bb(b g cap:Nat)(p:Value)(w:World)(hc0:cap≠0)(hbk:w.heap[b]? = some (.cells #[p,.slice (some ⟨g,0,none⟩) 0 cap] 94 (0,0))):
 Calls Tryz.prog 56 #[.pointer (some ⟨b,0,none⟩)] w fun e w'=>e = .returned (.string ⟨#[]⟩)∧w'=w.drew:=by
 have hUS:=wq1dn
 have mixed:Tryz.prog.follows .mixedOrders=true:=by kernel_rfl
 have c1:w.drew.cell? ⟨b,1,none⟩=some (.slice (some ⟨g,0,none⟩) 0 cap):=by
  have:w.drew.heap[b]? = some (.cells #[p,.slice (some ⟨g,0,none⟩) 0 cap] 94 (0,0)):=hbk
  rw[Lib.cell_of_heap this];rfl
 have hSD:(Builtin.unsafeSliceData_ #[49] 150 #[.slice (some ⟨g,0,none⟩) 0 cap]).run Tryz.prog w.drew = .ok (.pointer (some ⟨g,0,none⟩)) w.drew :=
  Lib.run_unsafeSliceData_row _ _ _ _ _ _ hc0
 clear hc0
 go_enter Tryz.func56,Tryz.ntmps56
 go_wp2
 go_region_o
 all_goals (go_wp2;go_ret;exact⟨rfl,rfl⟩)
theorem wq153(b g:Nat)(p:Value)(cur:Array Value)(w:World)(hbk:w.heap[b]? = some (.cells #[p,.slice (some ⟨g,0,none⟩) 0 0] 94 (0,0)))(hg:w.heap[g]? = some (.cells cur 5 (0,0))):
 Calls Tryz.prog 56 #[.pointer (some ⟨b,0,none⟩)] w fun e w'=>e = .returned (.string ⟨#[]⟩)∧∃ o,w'=(w.alloc o).drew:=by
 have hUS:=wq1dn
 have hlt:b<w.heap.size:=(Array.getElem?_eq_some_iff.1 hbk).1
 have mixed:Tryz.prog.follows .mixedOrders=true:=by kernel_rfl
 have c1:w.drew.cell? ⟨b,1,none⟩=some (.slice (some ⟨g,0,none⟩) 0 0):=by
  have:w.drew.heap[b]? = some (.cells #[p,.slice (some ⟨g,0,none⟩) 0 0] 94 (0,0)):=hbk
  rw[Lib.cell_of_heap this];rfl
 have hSD:(Builtin.unsafeSliceData_ #[49] 150 #[.slice (some ⟨g,0,none⟩) 0 0]).run Tryz.prog w.drew = .ok (.pointer (some ⟨w.drew.heap.size,0,none⟩)) (w.drew.alloc (.view ⟨g,0,none⟩ 5)) :=
  Lib.run_unsafeSliceData_zero w.drew _ _ 5 (by kernel_rfl) ⟨g,0,none⟩ 0 (5,cur.size) (by have hg':w.drew.heap[g]? = some (.cells cur 5 (0,0)):=hg;simp[World.shape?,hg'])
 have c2:(w.drew.alloc (.view ⟨g,0,none⟩ 5)).cell? ⟨b,1,none⟩=some (.slice (some ⟨g,0,none⟩) 0 0):=by
  have:(w.drew.alloc (.view ⟨g,0,none⟩ 5)).heap[b]? = _:=(Lib.alloc_old w.drew _ b hlt).trans hbk
  rw[Lib.cell_of_heap this];rfl
 have c3:(w.alloc (.view ⟨g,0,none⟩ 5)).drew.cell? ⟨b,1,none⟩=some (.slice (some ⟨g,0,none⟩) 0 0):=c2
 have c0:w.cell? ⟨b,1,none⟩=some (.slice (some ⟨g,0,none⟩) 0 0):=c1
 go_enter Tryz.func56,Tryz.ntmps56
 go_wp2
 go_region_o
 all_goals (go_wp2;go_ret;exact⟨rfl,_,rfl⟩)
def allB:List Int→Bool
 |[]=>true
 |x::r=>decide (0≤x)&&decide (x<256)&&allB r
def wq7l:List LS:=[.obj 1 [.nps 1 0,.own 21 5 (.int .u8)]]
def wq14(k:Nat){R:Type}(x0:List Int)(K:List Int→List UInt8→Option R): Option R:=bif allB x0 then K x0 (wq7i x0)else none
def wq1z(k:Nat){R:Type}: List PV→List (Nm×HObj)→(Out→Option R)→Option R
 |[.ptr 1 0],[(21,.row 5 (.int .u8) x0),(1,.var 94 [.nps 1 0,.row 21])],K=>wq14 k x0 (fun y0 y1=>K (.ret [.v .str y1] [(1,.var 94 [.nps 1 0,.v (.sl (.int .u8)) y0])]))
 |_,_,_=>none
theorem wqbo(vs:Array Value)(w:World): (callFunc 56 vs).run Tryz.prog w = .ok (.enter 56 vs) w:=by
 have h1:Tryz.prog.funcs[56]? = some Tryz.f56:=by kernel_rfl
 have h2:(Tryz.f56.name == "runtime.NumGoroutine")=false:=by kernel_rfl
 have h3:Tryz.f56.body.isNone=false:=by kernel_rfl
 unfold callFunc
 rw[Sem.run_bind]
 have e2:(program).run Tryz.prog w = .ok Tryz.prog w:=rfl
 rw[e2,Result.andThen_ok,h1]
 simp only[h2,h3,Bool.false_eq_true,if_false]
 rfl
theorem wq1fq:∀ {l:List Int},allB l=true→∀(i:Nat) (y:Int),l[i]? = some y→0≤y∧y<256
 |[],_,i,y,h=>by simp at h
 |x::r,hb,0,y,h=>by
  simp only[allB,Bool.and_eq_true,decide_eq_true_eq]at hb
  simp at h;subst h;exact hb.1
 |x::r,hb,i+1,y,h=>by
  simp only[allB,Bool.and_eq_true]at hb
  exact wq1fq hb.2 i y (by simpa using h)
theorem wq18j {G:Gh} {w w':World} {x0:List Int} {HP:List (Nm×HObj)} (hHP:HP=[(21,.row 5 (.int .u8) x0),(1,.var 94 [.nps 1 0,.row 21])])
 (obj:∀ n o,mkH HP n=some o→RO (mkH HP) G w n o) (dis:Dis (mkH HP) G w) (hblk:∀ b,b<w.heap.size→(∀ g,(G.rv 21).ownBlock=some g→b≠g)→w'.heap[b]? = w.heap[b]?)
 (hcell:∀ g o,(G.rv 21).ownBlock=some g→w'.cell? ⟨g,o,none⟩=w.cell? ⟨g,o,none⟩) (grow:w.heap.size≤w'.heap.size) (os:w'.os=w.os) (tape:w'.tape=w.tape) (out:w'.output=w.output) :
 Fin HP [(1,.var 94 [.nps 1 0,.v (.sl (.int .u8)) x0])] G w G w':=by
 have l1:mkH HP 1=some (.var 94 [.nps 1 0,.row 21]):=by subst hHP;rfl
 have l2:mkH HP 21=some (.row 5 (.int .u8) x0):=by subst hHP;rfl
 generalize hHS:[((1:Nm),HObj.var 94 [.nps 1 0,.v (.sl (.int .u8)) x0])]=HS
 have m1:mkH HS 1=some (.var 94 [.nps 1 0,.v (.sl (.int .u8)) x0]):=by subst hHS;rfl
 have mo:∀ n o,mkH HS n=some o→n=1:=by
  intro n o h
  subst hHS
  simp only[mkH,look]at h
  cases hb:Nat.beq 1 n with
  |true=>exact(Nat.eq_of_beq_eq_true hb).symm
  |false=>rw[hb]at h;cases h
 have bk1:blkOf (mkH HP) G 1=some (G.bk 1):=by simp[blkOf,l1]
 have bk2:blkOf (mkH HP) G 21=(G.rv 21).ownBlock:=by simp[blkOf,l2]
 have ck1:blkOf (mkH HS) G 1=some (G.bk 1):=by simp[blkOf,m1]
 have ck:∀ n b,blkOf (mkH HS) G n=some b→n=1∧b=G.bk 1:=by
  intro n b h
  cases hn:mkH HS n with
  |none=>simp[blkOf,hn]at h
  |some o=>have:=mo n o hn;subst this;rw[ck1]at h;cases h;exact⟨rfl,rfl⟩
 have hne:∀ g,(G.rv 21).ownBlock=some g→G.bk 1≠g:=fun g hg e=>by
  have:=dis.inj 1 21 g (by rw[bk1,e]) (by rw[bk2,hg])
  cases this
 obtain⟨vs,hw,q1,t1,rfl,hq1,q2,t2,rfl,hq2,rfl⟩:=obj 1 _ l1
 obtain⟨rfl,_⟩:=hq2
 have hlt:G.bk 1<w.heap.size:=(Array.getElem?_eq_some_iff.1 hw).1
 have hw':w'.heap[G.bk 1]? = some (.cells [q1,G.rv 21].toArray 94 (0,0)):=by rw[hblk _ hlt hne];exact hw
 have hdat:RD w' (okB (mkH HS) G) (.sl (.int .u8)) x0 [G.rv 21]:=by
  have hro:=obj 21 _ l2
  obtain⟨us,hown,hr,_⟩:=hro
  rcases hown.2 with⟨hv,hn⟩|⟨g,cap,cur,hv,_,hgb,hnc,hcm,hcs,_⟩
  ·exact⟨none,0,by rw[hv,hn],by omega,.inl (List.eq_nil_of_length_eq_zero hn)⟩
  ·have hgo:(G.rv 21).ownBlock=some g:=by rw[hv];rfl
   refine⟨_,cap,by rw[hv],hnc,.inr ⟨_,rfl,?_,?_,?_⟩⟩
   ·refine⟨fun n hn => ?_,fun hx=>dis.xo 21 g (by rw[bk2,hgo]) hx⟩
    obtain⟨_,e⟩:=ck n g hn
    exact hne g hgo e.symm
   ·have:g<w.heap.size:=(Array.getElem?_eq_some_iff.1 hgb).1
    exact Nat.lt_of_lt_of_le this grow
   ·intro i y hy
    obtain⟨c,hc,hu⟩:=hr.get i y hy
    refine⟨c,hc,fun j u hj => ?_⟩
    have:=hown.cells hgo _ _ (hu j u hj)
    rw[Addr.add_lit]at this ⊢
    rw[hcell g _ hgo]
    exact this
 refine⟨fun n o hn => ?_,fun n m b h1 h2=>(ck n b h1).1.trans (ck m b h2).1.symm,fun n t cs hn o ho => ?_,fun n ag V es hn o ho=>(wqph (by rw[hHP];rfl) hn).elim,fun b hb hf=>hblk b hb fun g hg e=>hf 21 (by rw[bk2,hg,e]),rfl,fun n b hn => .inl ⟨1,by rw[(ck n b hn).2];exact bk1⟩,grow,os,tape,out⟩
 ·have:=mo n o hn;subst this
  rw[m1]at hn;cases hn
  refine⟨_,hw',_,_,rfl,?_,_,_,rfl,hdat,rfl⟩
  rcases hq1 with h|⟨h,_⟩
  ·exact .inl h
  ·exact .inr ⟨h,_,_,m1⟩
 ·have e1:=mo n o ho
  subst e1
  have e2:mkH HS 1=some o:=ho
  have e3:mkH HP 1=some (.var t cs):=hn
  rw[m1]at e2;rw[l1]at e3;cases e2;cases e3
  exact⟨⟨_,rfl⟩,rfl⟩
theorem wq90(k:Nat){ps:List PV}{hp:List (Nm×HObj)}{R:Type}{K:Out→Option R}{r:R}(h:wq1z k ps hp K=some r): DoesTo Tryz.prog 56 ps hp fun out=>K out=some r:=by
 unfold wq1z at h
 split at h
 ·next x0 =>
  intro G w vals hr obj dis
  unfold wq14 at h
  cases hb:allB x0 with
  |false=>rw[hb]at h;cases h
  |true =>
   rw[hb,cond_true]at h
   obtain⟨v0,l0,rfl,h0,rfl⟩:=hr
   obtain⟨rfl,_⟩:=h0
   generalize hHP:[(21,HObj.row 5 (.int .u8) x0),(1,.var 94 [.nps 1 0,.row 21])]=HP at *
   have l1:mkH HP 1=some (.var 94 [.nps 1 0,.row 21]):=by subst hHP;rfl
   have l2:mkH HP 21=some (.row 5 (.int .u8) x0):=by subst hHP;rfl
   show Does _ _ #[_] _ _
   unfold Does
   rw[wqbo]
   obtain⟨vs,hw,q1,t1,rfl,hq1,q2,t2,rfl,hq2,rfl⟩:=obj 1 _ l1
   obtain⟨rfl,_⟩:=hq2
   have hro:=obj 21 _ l2
   obtain⟨us,hown,hrd,_⟩:=hro
   have fin:∀ {e:Ending} {w':World},e = .returned (.string ⟨(wq7i x0).toArray⟩)→(∀ b,b<w.heap.size→(∀ g,(G.rv 21).ownBlock=some g→b≠g)→w'.heap[b]? = w.heap[b]?)→(∀ g o,(G.rv 21).ownBlock=some g→w'.cell? ⟨g,o,none⟩=w.cell? ⟨g,o,none⟩)→w.heap.size≤w'.heap.size→w'.os=w.os→w'.tape=w.tape→w'.output=w.output →
    ∃ out,K out=some r∧∃ G',OutIs G' w' e out∧Fin HP out.hs G w G' w':=by
    intro e w' he h1 h2 h3 h4 h5 h6
    exact⟨_,h,G,⟨_,he,rfl⟩,wq18j hHP.symm obj dis h1 h2 h3 h4 h5 h6⟩
   rcases hown.2 with⟨hv,hn⟩|⟨g,cap,cur,hv,_,hgb,hnc,hcm,hcs,htk⟩
   ·have hx:x0=[]:=List.eq_nil_of_length_eq_zero hn
    subst hx
    rw[hv]at hw
    refine Calls.mono (wq1do (G.bk 1) q1 w hw) fun e w' hh => ?_
    obtain⟨rfl,rfl⟩:=hh
    exact fin rfl (fun _ _ _=>rfl) (fun _ _ _=>rfl) (Nat.le_refl _) rfl rfl rfl
   ·have hgo:(G.rv 21).ownBlock=some g:=by rw[hv];rfl
    rw[hv]at hw
    by_cases hx:x0=[]
    ·subst hx
     by_cases hc0:cap=0
     ·subst hc0
      refine Calls.mono (wq153 (G.bk 1) g q1 cur w hw hgb) fun e w' hh => ?_
      obtain⟨rfl,o,rfl⟩:=hh
      have hold:∀ b,b<w.heap.size→(w.alloc o).drew.heap[b]? = w.heap[b]? := fun b hb=>Lib.alloc_old w _ b hb
      refine fin rfl (fun b hb _=>hold b hb) (fun g' o' hg' => ?_) (by have:=World.size_alloc w o;show _≤(w.alloc o).heap.size;omega) rfl rfl rfl
      rw[hgo]at hg';cases hg'
      exact World.cell?_of_block (hold g (Array.getElem?_eq_some_iff.1 hgb).1)
     ·refine Calls.mono (wq1bb (G.bk 1) g cap q1 w hc0 hw) fun e w' hh => ?_
      obtain⟨rfl,rfl⟩:=hh
      exact fin rfl (fun _ _ _=>rfl) (fun _ _ _=>rfl) (Nat.le_refl _) rfl rfl rfl
    ·have hlen:(wq7i x0).length=x0.length:=by simp[wq7i]
     have hbytes:∀(j:Nat) (x:UInt8),(wq7i x0)[j]? = some x→w.cell? ⟨g,j,none⟩=some (.int .u8 x.toNat):=by
      intro j x hj
      have hjl:j<x0.length:=by rw[←hlen];exact(List.getElem?_eq_some_iff.1 hj).1
      have hy:x0[j]? = some x0[j]:=by simp[hjl]
      obtain⟨c,hc,hu⟩:=hrd.get j _ hy
      have hc:c=[.int .u8 x0[j]]:=hc
      have h9:=hown.cells hgo _ _ (hu 0 (.int .u8 x0[j]) (by rw[hc];rfl))
      rw[Addr.add_lit]at h9
      have hj2:x=UInt8.ofNat (x0[j]).toNat:=by
       simp only[wq7i,List.getElem?_map,hy,Option.map_some,Option.some.injEq]at hj
       exact hj.symm
      obtain⟨h10,h11⟩:=wq1fq hb j _ hy
      have:((x.toNat:Nat):Int)=x0[j]:=by
       rw[hj2,UInt8.toNat_ofNat']
       omega
      rw[this]
      have e0:0+(j*Kd.sz (.int .u8)+0)=j:=by simp[Kd.sz]
      rw[e0]at h9
      exact h9
     rw[←hlen]at hw
     have hne:wq7i x0≠[]:=by intro e;rw[e]at hlen;exact hx (List.eq_nil_of_length_eq_zero hlen.symm)
     refine Calls.mono (wq18i (G.bk 1) g cap q1 (wq7i x0) cur w hw hne hgb (by omega) hcm (by simpa [Kd.sz]using hcs) hbytes) fun e w' hh => ?_
     obtain⟨rfl,rfl⟩:=hh
     have hfz:∀ b,b≠g→(w.drew.freeze ⟨g,0,none⟩ (wq7i x0).length).heap[b]? = w.heap[b]? := by
      intro b hb
      unfold World.freeze
      split
      ·rfl
      ·show(w.heap.modify g _)[b]? = _
       rw[Array.getElem?_modify,if_neg (Ne.symm hb)]
     refine fin rfl (fun b _ hb=>hfz b (hb g hgo)) (fun g' o' hg' => ?_) ?_ ?_ ?_ ?_
     ·rw[hgo]at hg';cases hg'
      unfold World.freeze
      split
      ·rfl
      ·simp only[World.cell?,World.drew,Array.getElem?_modify,if_true,hgb,Option.map_some]
     all_goals
      unfold World.freeze
      split
      ·first|rfl|exact Nat.le_refl _
      ·first|rfl|(show w.heap.size≤(w.heap.modify g _).size;rw[Array.size_modify];exact Nat.le_refl _)
 ·cases h
end Go.Proofs.YtbjkpddloieekaaGreatDoor.Pvm
set_option maxHeartbeats 1000000
namespace Go.Proofs.YtbjkpddloieekaaGreatDoor.Pvm
open Go Go.Proofs Go.RowKit
theorem wq12h(b:Nat)(w:World)(h0:w.cell? ⟨b,0,none⟩=some (.pointer (some ⟨b,0,none⟩))):
 Calls Tryz.prog 157 #[.pointer (some ⟨b,0,none⟩)] w fun e w'=>e = .returned (.tuple #[])∧w'=w:=by
 have t76:Tryz.prog.underlying 92=some (.pointer 94):=by kernel_rfl
 have hs:(Tryz.prog.info? 94).isSome=true:=by kernel_rfl
 obtain⟨j,hj⟩:=Option.isSome_iff_exists.1 hs
 go_enter Tryz.func157,Tryz.ntmps157
 go_wp2
 rw[Lib.run_neq_ptr_same w _ t76 hj]
 go_wp2
 go_end0
 exact⟨rfl,rfl⟩
theorem wqyy(b:Nat)(w:World)(h0:w.cell? ⟨b,0,none⟩=some (.pointer none))(hsh:w.shape? b=some (94,2))(hfz:w.frozen? ⟨b,0,none⟩=false):
 Calls Tryz.prog 157 #[.pointer (some ⟨b,0,none⟩)] w fun e w'=>e = .returned (.tuple #[])∧w'=w.setCell ⟨b,0,none⟩ (.pointer (some ⟨b,0,none⟩)):=by
 have t76:Tryz.prog.underlying 92=some (.pointer 94):=by kernel_rfl
 have t89:Tryz.prog.underlying 224=some .unsafePointer:=by kernel_rfl
 have hs:(Tryz.prog.info? 94).map (·.size)=some 2:=by kernel_rfl
 obtain⟨j,hj,hjs⟩:=Option.map_eq_some_iff.1 hs
 have hlies:liesAt Tryz.prog Tryz.prog.depth 94 (2 / Tryz.prog.cellsOf 94) 0 94 1=true:=by kernel_rfl
 go_enter Tryz.func157,Tryz.ntmps157
 go_wp2
 rw[Lib.run_to_unsafe w ⟨b,0,none⟩ t76 t89 hj (by rw[hjs];decide) hsh (Nat.zero_lt_succ 1)]
 simp only[Result.andThen]
 rw[Oper.upon_value]
 go_wp2
 rw[run_callFunc_extern Tryz.func198 (by kernel_rfl) (by kernel_rfl) (by kernel_rfl) (e:=Extern.AbiNoEscape.same) (by kernel_rfl)]
 rw[Lib.run_noEscape]
 simp only[Result.andThen]
 rw[Oper.upon_value]
 go_wp2
 rw[Lib.run_from_unsafe w ⟨b,0,none⟩ t89 t76 hj hsh hlies]
 simp only[Result.andThen]
 rw[Oper.upon_value]
 go_wp2
 go_end0
 exact⟨rfl,rfl⟩
end Go.Proofs.YtbjkpddloieekaaGreatDoor.Pvm
set_option maxRecDepth 1000000
namespace Go.Proofs.YtbjkpddloieekaaGreatDoor.Pvm
open Go Go.Proofs
def wqcs:List LS:=[.obj 1 [.nps 1 0,.own 21 5 (.int .u8)]]
def wq35(k:Nat){R:Type}(x0:List Int)(K:List Int→Option R): Option R:=K x0
def wq2g(k:Nat){R:Type}: List PV→List (Nm×HObj)→(Out→Option R)→Option R
 |[.ptr 1 0],[(21,.row 5 (.int .u8) x0),(1,.var 94 [.nps 1 0,.row 21])],K=>wq35 k x0 (fun y0=>K (.ret [] [(21,.row 5 (.int .u8) y0),(1,.var 94 [.nps 1 0,.row 21])]))
 |_,_,_=>none
theorem wq91(vs:Array Value)(w:World): (callFunc 157 vs).run Tryz.prog w = .ok (.enter 157 vs) w:=by
 have h1:Tryz.prog.funcs[157]? = some Tryz.f157:=by kernel_rfl
 have h2:(Tryz.f157.name == "runtime.NumGoroutine")=false:=by kernel_rfl
 have h3:Tryz.f157.body.isNone=false:=by kernel_rfl
 unfold callFunc
 rw[Sem.run_bind]
 have e2:(program).run Tryz.prog w = .ok Tryz.prog w:=rfl
 rw[e2,Result.andThen_ok,h1]
 simp only[h2,h3,Bool.false_eq_true,if_false]
 rfl
theorem wqfe(k:Nat){ps:List PV}{hp:List (Nm×HObj)}{R:Type}{K:Out→Option R}{r:R}(h:wq2g k ps hp K=some r): DoesTo Tryz.prog 157 ps hp fun out=>K out=some r:=by
 unfold wq2g at h
 split at h
 ·next x0 =>
  intro G w vals hr obj dis
  obtain⟨v0,l0,rfl,h0,rfl⟩:=hr
  obtain⟨rfl,_⟩:=h0
  generalize hHP:[(21,HObj.row 5 (.int .u8) x0),(1,.var 94 [.nps 1 0,.row 21])]=HP at *
  have hK:K (.ret [] HP)=some r:=by subst hHP;exact h
  have l1:mkH HP 1=some (.var 94 [.nps 1 0,.row 21]):=by subst hHP;rfl
  have hob:=obj 1 _ l1
  obtain⟨vs,hw,q1,t1,rfl,hq1,q2,t2,rfl,hq2,rfl⟩:=hob
  show Does _ _ #[_] _ _
  unfold Does
  rw[wq91]
  have hcell:w.cell? ⟨G.bk 1,0,none⟩=some q1:=by simp[World.cell?,hw]
  have hlt:G.bk 1<w.heap.size:=(Array.getElem?_eq_some_iff.1 hw).1
  rcases hq1 with rfl|⟨rfl,_⟩
  ·refine Calls.mono (wqyy (G.bk 1) w hcell (by simp[World.shape?,hw]) (by simp[World.frozen?,hw])) fun e w' hh => ?_
   obtain⟨rfl,rfl⟩:=hh
   have oth:∀ b,b≠G.bk 1→(w.setCell ⟨G.bk 1,0,none⟩ (.pointer (some ⟨G.bk 1,0,none⟩))).heap[b]? = w.heap[b]? := fun b hb=>Go.Deep.blk_setCell_other w _ _ b hb
   have bk1:blkOf (mkH HP) G 1=some (G.bk 1):=by simp[blkOf,l1]
   have C:Carry (mkH HP) G w (mkH HP) G (w.setCell ⟨G.bk 1,0,none⟩ (.pointer (some ⟨G.bk 1,0,none⟩))) .row :=
    ⟨fun b ho _=>⟨ho,oth b fun e=>ho.1 1 (by rw[bk1,e])⟩,fun n t cs hn=>⟨⟨cs,hn⟩,rfl⟩,fun n ag V es hn=>⟨⟨es,hn⟩,rfl⟩,fun n e K xs hn=>⟨⟨rfl,e,K,xs,hn⟩,fun m hm=>by cases hm;exact⟨e,xs,hn,Nat.le_refl _⟩⟩⟩
   have hq2':=RV.carry C _ _ hq2
   refine⟨.ret [] HP,hK,G,⟨_,rfl,⟨[],rfl,rfl⟩⟩,⟨fun n o hn => ?_,dis.inj,fun n t cs hn o ho => ?_,fun n ag V es hn o ho=>(wqph (by rw[←hHP];rfl) hn).elim,fun b hb hf=>oth b fun e=>hf 1 (by rw[bk1,e]),rfl,fun n b hb => .inl ⟨n,hb⟩,by simp[World.setCell],rfl,rfl,rfl⟩⟩
   ·by_cases hn1:n=1
    ·subst hn1
     rw[show mkH (Out.hs (.ret [] HP)) 1=some (.var 94 [.nps 1 0,.row 21])from l1]at hn
     cases hn
     refine⟨[.pointer (some ⟨G.bk 1,0,none⟩),q2],?_,_,_,rfl,.inr ⟨rfl,94,_,l1⟩,_,_,rfl,hq2',rfl⟩
     have hw2:=(Array.getElem?_eq_some_iff.1 hw).2
     simp only[World.setCell,Array.getElem?_modify,if_pos,hw]
     simp
    ·have hne:∀ b,blkOf (mkH HP) G n=some b→b≠G.bk 1:=fun b hb e=>hn1 (dis.inj n 1 b hb (by rw[bk1,e]))
     have:=RO.carry C hn (obj n o hn) (fun b hb=>oth b (hne b hb)) rfl rfl
     rwa [wqg8]at this
   ·have e1:look HP n=some o:=ho
    rw[hn]at e1;cases e1
    exact⟨⟨cs,rfl⟩,rfl⟩
  ·refine Calls.mono (wq12h (G.bk 1) w hcell) fun e w' hh => ?_
   obtain⟨rfl,rfl⟩:=hh
   refine⟨.ret [] HP,hK,G,⟨_,rfl,⟨[],rfl,rfl⟩⟩,⟨obj,dis.inj,fun n t cs hn o ho => ?_,fun n ag V es hn o ho=>(wqph (by rw[←hHP];rfl) hn).elim,fun _ _ _=>rfl,rfl,fun n b hb => .inl ⟨n,hb⟩,Nat.le_refl _,rfl,rfl,rfl⟩⟩
   have e1:look HP n=some o:=ho
   rw[hn]at e1;cases e1
   exact⟨⟨cs,rfl⟩,rfl⟩
 ·cases h
end Go.Proofs.YtbjkpddloieekaaGreatDoor.Pvm
set_option maxHeartbeats 0
noncomputable section
namespace Go.Proofs.YtbjkpddloieekaaGreatDoor.Pvm
open Go Go.Proofs
def wq5v:List LS:=[.obj 1 [.nps 1 0,.own 21 5 (.int .u8)],.any]
def wq5d{R:Type}(K:((List Int)→Option R)): Out→Option R
 |.ret [.nilif] [(21,.row 5 (.int .u8) y0),(1,.var 94 [.nps 1 0,.row 21])]=>K y0
 |_=>none
def wqea:RetSpec:=⟨[.any],[(1,.obj 1 [.nps 1 0,.own 21 5 (.int .u8)])],[]⟩
def wqeb(k:Nat): Ctx:=⟨tyT,[],(.add 157 wqcs (wq2g k) .nil),[],[1],[],@SH⟩
def wq7a(k:Nat){R:Type}(x0:(List Int))(x1:Int)(K:((List Int)→Option R)): Option R:=wq35 k x0 (fun y5=>cond (fits y5.length (@List.length (@Kd.T (@Kd.int Go.IntKind.u8)) [x1]) 1) (K (y5++[x1])) none)
def wqe(k:Nat){R:Type}(x0:(List Int))(x1:Int)(K:((List Int)→Option R)): Option R:=wq7a k x0 x1 K
theorem wqc8(k:Nat){R:Type}(x0:(List Int))(x1:Int)(K:((List Int)→Option R)): fnW (wqeb k) k Tryz.f156 wqea [.ptr 1 0,.v (.int .u8) x1] [(21,.row 5 (.int .u8) x0),(1,.var 94 [.nps 1 0,.row 21])] (wq5d K)=wqe k x0 x1 K:=by
 kernel_rfl
def wqz(k:Nat){R:Type}: List PV→List (Nm×HObj)→(Out→Option R)→Option R
 |[.ptr 1 0,.v (.int .u8) x1],[(21,.row 5 (.int .u8) x0),(1,.var 94 [.nps 1 0,.row 21])],K=>wqe k x0 x1 (fun y0=>K (.ret [.nilif] [(21,.row 5 (.int .u8) y0),(1,.var 94 [.nps 1 0,.row 21])]))
 |_,_,_=>none
theorem wq7b(k:Nat): DOK Tryz.prog 156 (wqz k):=by
 intro ps hp R K r h
 have h:wqz k ps hp K=some r:=h
 unfold wqz at h
 split at h
 ·rw[←wqc8]at h
  exact fnW_ok ⟨tyT_ok,(CTab.add_ok (fun h=>wqfe k h) CTab.nil_ok),fun _ _=>rfl⟩ mixed (by kernel_rfl) (by kernel_rfl) h fun o ho=>by unfold wq5d at ho;split at ho<;>first|exact ho|cases ho
 ·cases h
end Go.Proofs.YtbjkpddloieekaaGreatDoor.Pvm
end
noncomputable section
namespace Go.Proofs.YtbjkpddloieekaaGreatDoor.Pvm
open Go Go.Proofs
abbrev wqg(R:Type): Type:=(Int→Int→(List UInt8)→Int→(List dT158)→(List UInt8)→Int→Option R)
def wqec:List LS:=[.obj 1 [.any,.any,.any,.any,.own 21 159 kdT158],.any]
def wq3x{R:Type}(K:wqg R)(E:(Int→Int→(List UInt8)→Int→(List dT158)→Int→Int→Option R)): Out→Option R
 |.ret [.v .str y5,.v (.int .i64) y6] [(21,.row 159 (.pr (.int .i64) (.pr (.int .i64) (.pr (.int .i64) (.pr .str .bool)))) y4),(1,.var 213 [.v (.int .i64) y0,.v (.int .i64) y1,.v .str y2,.v (.int .i64) y3,.row 21])]=>K y0 y1 y2 y3 y4 y5 y6
 |.pan (.ifc 31 (.agg [.v (.int .i64) z5,.v (.int .i64) z6])) [(21,.row 159 (.pr (.int .i64) (.pr (.int .i64) (.pr (.int .i64) (.pr .str .bool)))) z4),(1,.var 213 [.v (.int .i64) z0,.v (.int .i64) z1,.v .str z2,.v (.int .i64) z3,.row 21])]=>E z0 z1 z2 z3 z4 z5 z6
 |_=>none
def wq92:RetSpec:=⟨[.any,.any],[(1,.obj 1 [.any,.any,.any,.any,.own 21 159 (.pr (.int .i64) (.pr (.int .i64) (.pr (.int .i64) (.pr .str .bool))))])],[(1,.obj 1 [.any,.any,.any,.any,.own 21 159 (.pr (.int .i64) (.pr (.int .i64) (.pr (.int .i64) (.pr .str .bool))))])]⟩
def wq93(k:Nat): Ctx:=⟨tyT,[(1003,⟨[(0,.obj 1 [.any,.any,.any,.any,.own 21 159 kdT158]),(1,.any),(6,.obj 16 [.nps 16 0,.own 36 5 (.int .u8)]),(7,.any)],[(1,.obj 1 [.any,.any,.any,.any,.own 21 159 kdT158])]⟩)],(.add 56 wq7l (wq1z k) (.add 156 wq5v (wqz k) (.add 216 wq26 (wq19 k) (.add 265 wqpu (wq5u k) .nil)))),[],[1],[],@SH⟩
def wq2h(s0 s1:Int)(s2:(List UInt8))(s3:Int)(s4:(List dT158))(s5:(List UInt8))(s6:(List Int))(s7:Int): St:=⟨mkT [(0,.ptr 1 0),(1,.v .str s5),(6,.ptr 16 0),(7,.v kI s7)],mkH [(21,.row 159 kdT158 s4),(1,.var 213 [.v kI s0,.v kI s1,.v .str s2,.v kI s3,.row 21]),(36,.row 5 (.int .u8) s6),(16,.var 94 [.nps 16 0,.row 36])]⟩
def wq5m(k:Nat){R:Type}(I:Nat→St→Option R)(n:Nat)(s:St)(K:wqg R)(E:(Int→Int→(List UInt8)→Int→(List dT158)→Int→Int→Option R)): Option R:=loopK (wq93 k) k Tryz.f247 wq92 1003 [1,1,0,1,0] I n s (wq3x K E)
def wq31(k:Nat){R:Type}(E1003:(Int→Int→(List UInt8)→Int→(List dT158)→(List UInt8)→(List Int)→Int→Option R))(s0 s1:Int)(s2:(List UInt8))(s3:Int)(s4:(List dT158))(s5:(List UInt8))(s6:(List Int))(s7:Int)(K:wqg R)(E:(Int→Int→(List UInt8)→Int→(List dT158)→Int→Int→Option R)): Option R:=cond (decide (s7<(s5.length:Int))) (cond (inb s7 (s5.length:Int)) (cond (((s5.getD s7.toNat 0).toNat:Int) == 34) (wq14 k s6 (fun y13 y14=>K s0 s1 s2 s3 s4 y14 (@Go.IntKind.wrap Go.IntKind.i64 (s7+1)))) (cond (((s5.getD s7.toNat 0).toNat:Int) == 92) (cond (bnd (@Go.IntKind.wrap Go.IntKind.i64 (s7+1)) (s5.length:Int) (s5.length:Int)) (wq5c k s0 s1 s2 s3 s4 (cut s5 (@Go.IntKind.wrap Go.IntKind.i64 (s7+1)) (s5.length:Int)) (fun y13 y14 y15 y16 y17 y18 y19=>wqe k s6 y18 (fun y20=>E1003 y13 y14 y15 y16 y17 s5 y20 (@Go.IntKind.wrap Go.IntKind.i64 ((@Go.IntKind.wrap Go.IntKind.i64 (s7+y19))+1)))) E) none) (cond (inb s7 (s5.length:Int)) (wqe k s6 ((s5.getD s7.toNat 0).toNat:Int) (fun y13=>E1003 s0 s1 s2 s3 s4 s5 y13 (@Go.IntKind.wrap Go.IntKind.i64 (s7+1)))) none))) none) (wq3 k s0 s1 s2 s3 s4 3 (fun y13 y14 y15 y16 y17=>K y13 y14 y15 y16 y17 [] 0) E)
theorem wqgb(k:Nat){R:Type}(I:Nat→St→Option R)(s0 s1:Int)(s2:(List UInt8))(s3:Int)(s4:(List dT158))(s5:(List UInt8))(s6:(List Int))(s7:Int)(K:wqg R)(E:(Int→Int→(List UInt8)→Int→(List dT158)→Int→Int→Option R)): bodyK (wq93 k) k Tryz.f247 wq92 [1,1,0,1,0,0] I (wq2h s0 s1 s2 s3 s4 s5 s6 s7) (wq3x K E)=wq31 k (fun s0 s1 s2 s3 s4 s5 s6 s7=>I 1003 (wq2h s0 s1 s2 s3 s4 s5 s6 s7)) s0 s1 s2 s3 s4 s5 s6 s7 K E:=by kernel_rfl
def wqad(k:Nat){R:Type}(E1003:(Int→Int→(List UInt8)→Int→(List dT158)→(List UInt8)→(List Int)→Int→Option R))(x0 x1:Int)(x2:(List UInt8))(x3:Int)(x4:(List dT158))(x5:(List UInt8))(K:wqg R)(E:(Int→Int→(List UInt8)→Int→(List dT158)→Int→Int→Option R)): Option R:=E1003 x0 x1 x2 x3 x4 x5 [] 1
def wq1b(k:Nat){R:Type}: Nat→Int→Int→(List UInt8)→Int→(List dT158)→(List UInt8)→(List Int)→Int→(Int→Int→(List UInt8)→Int→(List dT158)→(List UInt8)→Int→Option R)→(Int→Int→(List UInt8)→Int→(List dT158)→Int→Int→Option R)→Option R
 |0,_,_,_,_,_,_,_,_,_,_=>none
 |n+1,s0,s1,s2,s3,s4,s5,s6,s7,K,E=>wq31 k (fun s0 s1 s2 s3 s4 s5 s6 s7=>wq1b k n s0 s1 s2 s3 s4 s5 s6 s7 K E) s0 s1 s2 s3 s4 s5 s6 s7 K E
theorem wqgc(k:Nat){R:Type}(I:Nat→St→Option R)(K:wqg R)(E:(Int→Int→(List UInt8)→Int→(List dT158)→Int→Int→Option R))(n:Nat): ∀(s0 s1:Int) (s2:(List UInt8)) (s3:Int) (s4:(List dT158)) (s5:(List UInt8)) (s6:(List Int)) (s7:Int),wq5m k I n (wq2h s0 s1 s2 s3 s4 s5 s6 s7) K E=wq1b k n s0 s1 s2 s3 s4 s5 s6 s7 K E:=by
 induction n with
 |zero=>intros;rfl
 |succ n ih =>
  intro s0 s1 s2 s3 s4 s5 s6 s7
  refine(?_:_=_).trans ((wqgb k (upI 1003 (fun s=>wq5m k I n s K E) I) s0 s1 s2 s3 s4 s5 s6 s7 K E).trans ?_)
  ·rfl
  ·simp only[wqy,ih]<;>rfl
def wq1j(k:Nat){R:Type}(x0 x1:Int)(x2:(List UInt8))(x3:Int)(x4:(List dT158))(x5:(List UInt8))(K:wqg R)(E:(Int→Int→(List UInt8)→Int→(List dT158)→Int→Int→Option R)): Option R:=wqad k (fun s0 s1 s2 s3 s4 s5 s6 s7=>wq1b k k s0 s1 s2 s3 s4 s5 s6 s7 K E) x0 x1 x2 x3 x4 x5 K E
theorem wql8(k:Nat){R:Type}(x0 x1:Int)(x2:(List UInt8))(x3:Int)(x4:(List dT158))(x5:(List UInt8))(K:wqg R)(E:(Int→Int→(List UInt8)→Int→(List dT158)→Int→Int→Option R)): fnW (wq93 k) k Tryz.f247 wq92 [.ptr 1 0,.v .str x5] [(21,.row 159 kdT158 x4),(1,.var 213 [.v kI x0,.v kI x1,.v .str x2,.v kI x3,.row 21])] (wq3x K E)=wq1j k x0 x1 x2 x3 x4 x5 K E:=by
 refine Eq.trans (b:=wqad k (fun s0 s1 s2 s3 s4 s5 s6 s7=>wq5m k (fun _ _=>none) k (wq2h s0 s1 s2 s3 s4 s5 s6 s7) K E) x0 x1 x2 x3 x4 x5 K E) (by kernel_rfl) ?_
 simp only[wqgc]<;>rfl
def wq4u(k:Nat){R:Type}: List PV→List (Nm×HObj)→(Out→Option R)→Option R
 |[.ptr 1 0,.v .str x5],[(21,.row 159 (.pr (.int .i64) (.pr (.int .i64) (.pr (.int .i64) (.pr .str .bool)))) x4),(1,.var 213 [.v (.int .i64) x0,.v (.int .i64) x1,.v .str x2,.v (.int .i64) x3,.row 21])],K=>wq1j k x0 x1 x2 x3 x4 x5 (fun y0 y1 y2 y3 y4 y5 y6=>K (.ret [.v .str y5,.v (.int .i64) y6] [(21,.row 159 (.pr (.int .i64) (.pr (.int .i64) (.pr (.int .i64) (.pr .str .bool)))) y4),(1,.var 213 [.v (.int .i64) y0,.v (.int .i64) y1,.v .str y2,.v (.int .i64) y3,.row 21])])) (fun z0 z1 z2 z3 z4 z5 z6=>K (.pan (.ifc 31 (.agg [.v (.int .i64) z5,.v (.int .i64) z6])) [(21,.row 159 (.pr (.int .i64) (.pr (.int .i64) (.pr (.int .i64) (.pr .str .bool)))) z4),(1,.var 213 [.v (.int .i64) z0,.v (.int .i64) z1,.v .str z2,.v (.int .i64) z3,.row 21])]))
 |_,_,_=>none
theorem wqsr(k:Nat): DOK Tryz.prog 247 (wq4u k):=by
 intro ps hp R K r h
 have h:wq4u k ps hp K=some r:=h
 unfold wq4u at h
 split at h
 ·rw[←wql8]at h
  exact fnW_ok ⟨tyT_ok,(CTab.add_ok (fun h=>wq90 k h) (wq4 (wq7b k) (wq4 (wq5b k) (wq4 (wqv4 k) CTab.nil_ok)))),fun _ _=>rfl⟩ mixed (by kernel_rfl) (by kernel_rfl) h fun o ho=>by unfold wq3x at ho;split at ho<;>first|exact ho|cases ho
 ·cases h
end Go.Proofs.YtbjkpddloieekaaGreatDoor.Pvm
end
noncomputable section
namespace Go.Proofs.YtbjkpddloieekaaGreatDoor.Pvm
open Go Go.Proofs
abbrev wqh(R:Type): Type:=(Int→Int→(List UInt8)→Int→(List dT158)→(List UInt8)→Int→Option R)
def wqed:List LS:=[.obj 1 [.any,.any,.any,.any,.own 21 159 kdT158],.any]
def wq3y{R:Type}(K:wqh R)(E:(Int→Int→(List UInt8)→Int→(List dT158)→Int→Int→Option R)): Out→Option R
 |.ret [.v .str y5,.v (.int .i64) y6] [(21,.row 159 (.pr (.int .i64) (.pr (.int .i64) (.pr (.int .i64) (.pr .str .bool)))) y4),(1,.var 213 [.v (.int .i64) y0,.v (.int .i64) y1,.v .str y2,.v (.int .i64) y3,.row 21])]=>K y0 y1 y2 y3 y4 y5 y6
 |.pan (.ifc 31 (.agg [.v (.int .i64) z5,.v (.int .i64) z6])) [(21,.row 159 (.pr (.int .i64) (.pr (.int .i64) (.pr (.int .i64) (.pr .str .bool)))) z4),(1,.var 213 [.v (.int .i64) z0,.v (.int .i64) z1,.v .str z2,.v (.int .i64) z3,.row 21])]=>E z0 z1 z2 z3 z4 z5 z6
 |_=>none
def wq94:RetSpec:=⟨[.any,.any],[(1,.obj 1 [.any,.any,.any,.any,.own 21 159 (.pr (.int .i64) (.pr (.int .i64) (.pr (.int .i64) (.pr .str .bool))))])],[(1,.obj 1 [.any,.any,.any,.any,.own 21 159 (.pr (.int .i64) (.pr (.int .i64) (.pr (.int .i64) (.pr .str .bool))))])]⟩
def wq95(k:Nat): Ctx:=⟨tyT,[(1003,⟨[(0,.obj 1 [.any,.any,.any,.any,.own 21 159 kdT158]),(1,.any),(6,.obj 16 [.nps 16 0,.own 36 5 (.int .u8)]),(7,.any)],[(1,.obj 1 [.any,.any,.any,.any,.own 21 159 kdT158])]⟩)],(.add 56 wq7l (wq1z k) (.add 156 wq5v (wqz k) (.add 216 wq26 (wq19 k) .nil))),[],[1],[],@SH⟩
def wq2i(s0 s1:Int)(s2:(List UInt8))(s3:Int)(s4:(List dT158))(s5:(List UInt8))(s6:(List Int))(s7:Int): St:=⟨mkT [(0,.ptr 1 0),(1,.v .str s5),(6,.ptr 16 0),(7,.v kI s7)],mkH [(21,.row 159 kdT158 s4),(1,.var 213 [.v kI s0,.v kI s1,.v .str s2,.v kI s3,.row 21]),(36,.row 5 (.int .u8) s6),(16,.var 94 [.nps 16 0,.row 36])]⟩
def wq5n(k:Nat){R:Type}(I:Nat→St→Option R)(n:Nat)(s:St)(K:wqh R)(E:(Int→Int→(List UInt8)→Int→(List dT158)→Int→Int→Option R)): Option R:=loopK (wq95 k) k Tryz.f246 wq94 1003 [1,1,0,1,0] I n s (wq3y K E)
def wq32(k:Nat){R:Type}(E1003:(Int→Int→(List UInt8)→Int→(List dT158)→(List UInt8)→(List Int)→Int→Option R))(s0 s1:Int)(s2:(List UInt8))(s3:Int)(s4:(List dT158))(s5:(List UInt8))(s6:(List Int))(s7:Int)(K:wqh R)(E:(Int→Int→(List UInt8)→Int→(List dT158)→Int→Int→Option R)): Option R:=cond (decide (s7<(s5.length:Int))) (cond (inb s7 (s5.length:Int)) (cond (((s5.getD s7.toNat 0).toNat:Int) != 39) (cond (inb s7 (s5.length:Int)) (wqe k s6 ((s5.getD s7.toNat 0).toNat:Int) (fun y13=>E1003 s0 s1 s2 s3 s4 s5 y13 (@Go.IntKind.wrap Go.IntKind.i64 (s7+1)))) none) (cond ((!((decide ((@Go.IntKind.wrap Go.IntKind.i64 (s7+1))≥(s5.length:Int))) == false)) || (inb (@Go.IntKind.wrap Go.IntKind.i64 (s7+1)) (s5.length:Int))) (cond (cond (decide ((@Go.IntKind.wrap Go.IntKind.i64 (s7+1))≥(s5.length:Int))) true (((s5.getD (@Go.IntKind.wrap Go.IntKind.i64 (s7+1)).toNat 0).toNat:Int) != 39)) (wq14 k s6 (fun y13 y14=>K s0 s1 s2 s3 s4 y14 (@Go.IntKind.wrap Go.IntKind.i64 (s7+1)))) (wqe k s6 39 (fun y13=>E1003 s0 s1 s2 s3 s4 s5 y13 (@Go.IntKind.wrap Go.IntKind.i64 ((@Go.IntKind.wrap Go.IntKind.i64 (s7+1))+1))))) none)) none) (wq3 k s0 s1 s2 s3 s4 3 (fun y13 y14 y15 y16 y17=>K y13 y14 y15 y16 y17 [] 0) E)
theorem wqgd(k:Nat){R:Type}(I:Nat→St→Option R)(s0 s1:Int)(s2:(List UInt8))(s3:Int)(s4:(List dT158))(s5:(List UInt8))(s6:(List Int))(s7:Int)(K:wqh R)(E:(Int→Int→(List UInt8)→Int→(List dT158)→Int→Int→Option R)): bodyK (wq95 k) k Tryz.f246 wq94 [1,1,0,1,0,0] I (wq2i s0 s1 s2 s3 s4 s5 s6 s7) (wq3y K E)=wq32 k (fun s0 s1 s2 s3 s4 s5 s6 s7=>I 1003 (wq2i s0 s1 s2 s3 s4 s5 s6 s7)) s0 s1 s2 s3 s4 s5 s6 s7 K E:=by kernel_rfl
def wqae(k:Nat){R:Type}(E1003:(Int→Int→(List UInt8)→Int→(List dT158)→(List UInt8)→(List Int)→Int→Option R))(x0 x1:Int)(x2:(List UInt8))(x3:Int)(x4:(List dT158))(x5:(List UInt8))(K:wqh R)(E:(Int→Int→(List UInt8)→Int→(List dT158)→Int→Int→Option R)): Option R:=E1003 x0 x1 x2 x3 x4 x5 [] 1
def wq1c(k:Nat){R:Type}: Nat→Int→Int→(List UInt8)→Int→(List dT158)→(List UInt8)→(List Int)→Int→(Int→Int→(List UInt8)→Int→(List dT158)→(List UInt8)→Int→Option R)→(Int→Int→(List UInt8)→Int→(List dT158)→Int→Int→Option R)→Option R
 |0,_,_,_,_,_,_,_,_,_,_=>none
 |n+1,s0,s1,s2,s3,s4,s5,s6,s7,K,E=>wq32 k (fun s0 s1 s2 s3 s4 s5 s6 s7=>wq1c k n s0 s1 s2 s3 s4 s5 s6 s7 K E) s0 s1 s2 s3 s4 s5 s6 s7 K E
theorem wqge(k:Nat){R:Type}(I:Nat→St→Option R)(K:wqh R)(E:(Int→Int→(List UInt8)→Int→(List dT158)→Int→Int→Option R))(n:Nat): ∀(s0 s1:Int) (s2:(List UInt8)) (s3:Int) (s4:(List dT158)) (s5:(List UInt8)) (s6:(List Int)) (s7:Int),wq5n k I n (wq2i s0 s1 s2 s3 s4 s5 s6 s7) K E=wq1c k n s0 s1 s2 s3 s4 s5 s6 s7 K E:=by
 induction n with
 |zero=>intros;rfl
 |succ n ih =>
  intro s0 s1 s2 s3 s4 s5 s6 s7
  refine(?_:_=_).trans ((wqgd k (upI 1003 (fun s=>wq5n k I n s K E) I) s0 s1 s2 s3 s4 s5 s6 s7 K E).trans ?_)
  ·rfl
  ·simp only[wqy,ih]<;>rfl
def wq1k(k:Nat){R:Type}(x0 x1:Int)(x2:(List UInt8))(x3:Int)(x4:(List dT158))(x5:(List UInt8))(K:wqh R)(E:(Int→Int→(List UInt8)→Int→(List dT158)→Int→Int→Option R)): Option R:=wqae k (fun s0 s1 s2 s3 s4 s5 s6 s7=>wq1c k k s0 s1 s2 s3 s4 s5 s6 s7 K E) x0 x1 x2 x3 x4 x5 K E
theorem wql9(k:Nat){R:Type}(x0 x1:Int)(x2:(List UInt8))(x3:Int)(x4:(List dT158))(x5:(List UInt8))(K:wqh R)(E:(Int→Int→(List UInt8)→Int→(List dT158)→Int→Int→Option R)): fnW (wq95 k) k Tryz.f246 wq94 [.ptr 1 0,.v .str x5] [(21,.row 159 kdT158 x4),(1,.var 213 [.v kI x0,.v kI x1,.v .str x2,.v kI x3,.row 21])] (wq3y K E)=wq1k k x0 x1 x2 x3 x4 x5 K E:=by
 refine Eq.trans (b:=wqae k (fun s0 s1 s2 s3 s4 s5 s6 s7=>wq5n k (fun _ _=>none) k (wq2i s0 s1 s2 s3 s4 s5 s6 s7) K E) x0 x1 x2 x3 x4 x5 K E) (by kernel_rfl) ?_
 simp only[wqge]<;>rfl
def wq4v(k:Nat){R:Type}: List PV→List (Nm×HObj)→(Out→Option R)→Option R
 |[.ptr 1 0,.v .str x5],[(21,.row 159 (.pr (.int .i64) (.pr (.int .i64) (.pr (.int .i64) (.pr .str .bool)))) x4),(1,.var 213 [.v (.int .i64) x0,.v (.int .i64) x1,.v .str x2,.v (.int .i64) x3,.row 21])],K=>wq1k k x0 x1 x2 x3 x4 x5 (fun y0 y1 y2 y3 y4 y5 y6=>K (.ret [.v .str y5,.v (.int .i64) y6] [(21,.row 159 (.pr (.int .i64) (.pr (.int .i64) (.pr (.int .i64) (.pr .str .bool)))) y4),(1,.var 213 [.v (.int .i64) y0,.v (.int .i64) y1,.v .str y2,.v (.int .i64) y3,.row 21])])) (fun z0 z1 z2 z3 z4 z5 z6=>K (.pan (.ifc 31 (.agg [.v (.int .i64) z5,.v (.int .i64) z6])) [(21,.row 159 (.pr (.int .i64) (.pr (.int .i64) (.pr (.int .i64) (.pr .str .bool)))) z4),(1,.var 213 [.v (.int .i64) z0,.v (.int .i64) z1,.v .str z2,.v (.int .i64) z3,.row 21])]))
 |_,_,_=>none
theorem wqss(k:Nat): DOK Tryz.prog 246 (wq4v k):=by
 intro ps hp R K r h
 have h:wq4v k ps hp K=some r:=h
 unfold wq4v at h
 split at h
 ·rw[←wql9]at h
  exact fnW_ok ⟨tyT_ok,(CTab.add_ok (fun h=>wq90 k h) (wq4 (wq7b k) (wq4 (wq5b k) CTab.nil_ok))),fun _ _=>rfl⟩ mixed (by kernel_rfl) (by kernel_rfl) h fun o ho=>by unfold wq3y at ho;split at ho<;>first|exact ho|cases ho
 ·cases h
end Go.Proofs.YtbjkpddloieekaaGreatDoor.Pvm
end
noncomputable section
namespace Go.Proofs.YtbjkpddloieekaaGreatDoor.Pvm
open Go Go.Proofs
def wqst:List LS:=[.obj 1 [.any,.any,.any,.any,.own 21 159 kdT158],.any]
def wq96{R:Type}(K:(Int→Int→(List UInt8)→Int→(List dT158)→Option R))(E:(Int→Int→(List UInt8)→Int→(List dT158)→Int→Int→Option R)): Out→Option R
 |.ret [] [(21,.row 159 (.pr (.int .i64) (.pr (.int .i64) (.pr (.int .i64) (.pr .str .bool)))) y4),(1,.var 213 [.v (.int .i64) y0,.v (.int .i64) y1,.v .str y2,.v (.int .i64) y3,.row 21])]=>K y0 y1 y2 y3 y4
 |.pan (.ifc 31 (.agg [.v (.int .i64) z5,.v (.int .i64) z6])) [(21,.row 159 (.pr (.int .i64) (.pr (.int .i64) (.pr (.int .i64) (.pr .str .bool)))) z4),(1,.var 213 [.v (.int .i64) z0,.v (.int .i64) z1,.v .str z2,.v (.int .i64) z3,.row 21])]=>E z0 z1 z2 z3 z4 z5 z6
 |_=>none
def wqin:RetSpec:=⟨[],[(1,.obj 1 [.any,.any,.any,.any,.own 21 159 (.pr (.int .i64) (.pr (.int .i64) (.pr (.int .i64) (.pr .str .bool))))])],[(1,.obj 1 [.any,.any,.any,.any,.own 21 159 (.pr (.int .i64) (.pr (.int .i64) (.pr (.int .i64) (.pr .str .bool))))])]⟩
def wqio(k:Nat): Ctx:=⟨tyT,[],(.add 216 wq26 (wq19 k) (.add 218 wqna (wqe4 k) (.add 219 wq8z (wq3i k) (.add 220 wqsj (wqgy k) (.add 246 wqed (wq4v k) (.add 247 wqec (wq4u k) (.add 248 wq7d (wq2f k) .nil))))))),[],[1],[],@SH⟩
def wqjo(k:Nat){R:Type}(x0 x1:Int)(x2:(List UInt8))(x3:Int)(x4:(List dT158))(x5:(List UInt8))(K:(Int→Int→(List UInt8)→Int→(List dT158)→Option R))(E:(Int→Int→(List UInt8)→Int→(List dT158)→Int→Int→Option R)): Option R:=cond (inb 0 (x5.length:Int)) (cond (((x5.getD (Int.toNat 0) 0).toNat:Int) == 39) (wq1k k x0 x1 x2 x3 x4 x5 (fun y10 y11 y12 y13 y14 y15 y16=>cond (y16 != (x5.length:Int)) (wq3 k y10 y11 y12 y13 y14 3 (fun y17 y18 y19 y20 y21=>cond (decide ((y15.length:Int)>200)) (wq3 k y17 y18 y19 y20 y21 4 (fun y22 y23 y24 y25 y26=>wq7 k y22 y23 y24 y25 y26 3 y15 true y16 K) E) (wq7 k y17 y18 y19 y20 y21 3 y15 true y16 K)) E) (cond (decide ((y15.length:Int)>200)) (wq3 k y10 y11 y12 y13 y14 4 (fun y17 y18 y19 y20 y21=>wq7 k y17 y18 y19 y20 y21 3 y15 true y16 K) E) (wq7 k y10 y11 y12 y13 y14 3 y15 true y16 K))) E) (cond (((x5.getD (Int.toNat 0) 0).toNat:Int) == 34) (wq1j k x0 x1 x2 x3 x4 x5 (fun y10 y11 y12 y13 y14 y15 y16=>cond (y16 != (x5.length:Int)) (wq3 k y10 y11 y12 y13 y14 3 (fun y17 y18 y19 y20 y21=>cond (decide ((y15.length:Int)>200)) (wq3 k y17 y18 y19 y20 y21 4 (fun y22 y23 y24 y25 y26=>wq7 k y22 y23 y24 y25 y26 3 y15 true y16 K) E) (wq7 k y17 y18 y19 y20 y21 3 y15 true y16 K)) E) (cond (decide ((y15.length:Int)>200)) (wq3 k y10 y11 y12 y13 y14 4 (fun y17 y18 y19 y20 y21=>wq7 k y17 y18 y19 y20 y21 3 y15 true y16 K) E) (wq7 k y10 y11 y12 y13 y14 3 y15 true y16 K))) E) (cond (inb 0 (x5.length:Int)) (wqa k [91,93,123,125,38,42,33,124,62,37,64,44,63,96] ((x5.getD (Int.toNat 0) 0).toNat:Int) (fun y10=>cond ((decide (y10≥0)) == false) (wq8y k x5 (fun y11=>cond (y11 == false) (wqax k x5 (fun y12=>cond (!(y12 == [])) (wq3 k x0 x1 x2 x3 x4 4 (fun y13 y14 y15 y16 y17=>cond ((x5.length:Int) != (x5.length:Int)) (wq3 k y13 y14 y15 y16 y17 3 (fun y18 y19 y20 y21 y22=>cond (decide ((x5.length:Int)>200)) (wq3 k y18 y19 y20 y21 y22 4 (fun y23 y24 y25 y26 y27=>wq7 k y23 y24 y25 y26 y27 3 x5 false (x5.length:Int) K) E) (wq7 k y18 y19 y20 y21 y22 3 x5 false (x5.length:Int) K)) E) (cond (decide ((x5.length:Int)>200)) (wq3 k y13 y14 y15 y16 y17 4 (fun y18 y19 y20 y21 y22=>wq7 k y18 y19 y20 y21 y22 3 x5 false (x5.length:Int) K) E) (wq7 k y13 y14 y15 y16 y17 3 x5 false (x5.length:Int) K))) E) (cond ((x5.length:Int) != (x5.length:Int)) (wq3 k x0 x1 x2 x3 x4 3 (fun y13 y14 y15 y16 y17=>cond (decide ((x5.length:Int)>200)) (wq3 k y13 y14 y15 y16 y17 4 (fun y18 y19 y20 y21 y22=>wq7 k y18 y19 y20 y21 y22 3 x5 false (x5.length:Int) K) E) (wq7 k y13 y14 y15 y16 y17 3 x5 false (x5.length:Int) K)) E) (cond (decide ((x5.length:Int)>200)) (wq3 k x0 x1 x2 x3 x4 4 (fun y13 y14 y15 y16 y17=>wq7 k y13 y14 y15 y16 y17 3 x5 false (x5.length:Int) K) E) (wq7 k x0 x1 x2 x3 x4 3 x5 false (x5.length:Int) K))))) (wq3 k x0 x1 x2 x3 x4 4 (fun y12 y13 y14 y15 y16=>cond ((x5.length:Int) != (x5.length:Int)) (wq3 k y12 y13 y14 y15 y16 3 (fun y17 y18 y19 y20 y21=>cond (decide ((x5.length:Int)>200)) (wq3 k y17 y18 y19 y20 y21 4 (fun y22 y23 y24 y25 y26=>wq7 k y22 y23 y24 y25 y26 3 x5 false (x5.length:Int) K) E) (wq7 k y17 y18 y19 y20 y21 3 x5 false (x5.length:Int) K)) E) (cond (decide ((x5.length:Int)>200)) (wq3 k y12 y13 y14 y15 y16 4 (fun y17 y18 y19 y20 y21=>wq7 k y17 y18 y19 y20 y21 3 x5 false (x5.length:Int) K) E) (wq7 k y12 y13 y14 y15 y16 3 x5 false (x5.length:Int) K))) E))) (wq3 k x0 x1 x2 x3 x4 4 (fun y11 y12 y13 y14 y15=>cond ((x5.length:Int) != (x5.length:Int)) (wq3 k y11 y12 y13 y14 y15 3 (fun y16 y17 y18 y19 y20=>cond (decide ((x5.length:Int)>200)) (wq3 k y16 y17 y18 y19 y20 4 (fun y21 y22 y23 y24 y25=>wq7 k y21 y22 y23 y24 y25 3 x5 false (x5.length:Int) K) E) (wq7 k y16 y17 y18 y19 y20 3 x5 false (x5.length:Int) K)) E) (cond (decide ((x5.length:Int)>200)) (wq3 k y11 y12 y13 y14 y15 4 (fun y16 y17 y18 y19 y20=>wq7 k y16 y17 y18 y19 y20 3 x5 false (x5.length:Int) K) E) (wq7 k y11 y12 y13 y14 y15 3 x5 false (x5.length:Int) K))) E))) none))) none
def wq1t(k:Nat){R:Type}(x0 x1:Int)(x2:(List UInt8))(x3:Int)(x4:(List dT158))(x5:(List UInt8))(K:(Int→Int→(List UInt8)→Int→(List dT158)→Option R))(E:(Int→Int→(List UInt8)→Int→(List dT158)→Int→Int→Option R)): Option R:=wqjo k x0 x1 x2 x3 x4 x5 K E
def wqsu(f:(R:Type)→Int→Int→(List UInt8)→Int→(List dT158)→Int→(Int→Int→(List UInt8)→Int→(List dT158)→Option R)→(Int→Int→(List UInt8)→Int→(List dT158)→Int→Int→Option R)→Option R){R:Type}: List PV→List (Nm×HObj)→(Out→Option R)→Option R
 |[.ptr 1 0,.v (.int .i64) x5],[(21,.row 159 (.pr (.int .i64) (.pr (.int .i64) (.pr (.int .i64) (.pr .str .bool)))) x4),(1,.var 213 [.v (.int .i64) x0,.v (.int .i64) x1,.v .str x2,.v (.int .i64) x3,.row 21])],K=>f R x0 x1 x2 x3 x4 x5 (fun y0 y1 y2 y3 y4=>K (.ret [] [(21,.row 159 (.pr (.int .i64) (.pr (.int .i64) (.pr (.int .i64) (.pr .str .bool)))) y4),(1,.var 213 [.v (.int .i64) y0,.v (.int .i64) y1,.v .str y2,.v (.int .i64) y3,.row 21])])) (fun z0 z1 z2 z3 z4 z5 z6=>K (.pan (.ifc 31 (.agg [.v (.int .i64) z5,.v (.int .i64) z6])) [(21,.row 159 (.pr (.int .i64) (.pr (.int .i64) (.pr (.int .i64) (.pr .str .bool)))) z4),(1,.var 213 [.v (.int .i64) z0,.v (.int .i64) z1,.v .str z2,.v (.int .i64) z3,.row 21])]))
 |_,_,_=>none
def wqsv(f:(R:Type)→(List UInt8)→(Bool→Option R)→Option R){R:Type}: List PV→List (Nm×HObj)→(Out→Option R)→Option R
 |[.v .str x0],[],K=>f R x0 (fun y0=>K (.ret [.v .bool y0] []))
 |_,_,_=>none
def wqsw(f:(R:Type)→Int→Int→(List UInt8)→Int→(List dT158)→Int→(List UInt8)→Bool→Int→(Int→Int→(List UInt8)→Int→(List dT158)→Option R)→Option R){R:Type}: List PV→List (Nm×HObj)→(Out→Option R)→Option R
 |[.ptr 1 0,.v (.int .i64) x5,.v .str x6,.v .bool x7,.v (.int .i64) x8],[(21,.row 159 (.pr (.int .i64) (.pr (.int .i64) (.pr (.int .i64) (.pr .str .bool)))) x4),(1,.var 213 [.v (.int .i64) x0,.v (.int .i64) x1,.v .str x2,.v (.int .i64) x3,.row 21])],K=>f R x0 x1 x2 x3 x4 x5 x6 x7 x8 (fun y0 y1 y2 y3 y4=>K (.ret [] [(21,.row 159 (.pr (.int .i64) (.pr (.int .i64) (.pr (.int .i64) (.pr .str .bool)))) y4),(1,.var 213 [.v (.int .i64) y0,.v (.int .i64) y1,.v .str y2,.v (.int .i64) y3,.row 21])]))
 |_,_,_=>none
def wqsx(f:(R:Type)→(List UInt8)→((List UInt8)→Option R)→Option R){R:Type}: List PV→List (Nm×HObj)→(Out→Option R)→Option R
 |[.v .str x0],[],K=>f R x0 (fun y0=>K (.ret [.v .str y0] []))
 |_,_,_=>none
def wqsy(f:(R:Type)→Int→Int→(List UInt8)→Int→(List dT158)→(List UInt8)→wqh R→(Int→Int→(List UInt8)→Int→(List dT158)→Int→Int→Option R)→Option R){R:Type}: List PV→List (Nm×HObj)→(Out→Option R)→Option R
 |[.ptr 1 0,.v .str x5],[(21,.row 159 (.pr (.int .i64) (.pr (.int .i64) (.pr (.int .i64) (.pr .str .bool)))) x4),(1,.var 213 [.v (.int .i64) x0,.v (.int .i64) x1,.v .str x2,.v (.int .i64) x3,.row 21])],K=>f R x0 x1 x2 x3 x4 x5 (fun y0 y1 y2 y3 y4 y5 y6=>K (.ret [.v .str y5,.v (.int .i64) y6] [(21,.row 159 (.pr (.int .i64) (.pr (.int .i64) (.pr (.int .i64) (.pr .str .bool)))) y4),(1,.var 213 [.v (.int .i64) y0,.v (.int .i64) y1,.v .str y2,.v (.int .i64) y3,.row 21])])) (fun z0 z1 z2 z3 z4 z5 z6=>K (.pan (.ifc 31 (.agg [.v (.int .i64) z5,.v (.int .i64) z6])) [(21,.row 159 (.pr (.int .i64) (.pr (.int .i64) (.pr (.int .i64) (.pr .str .bool)))) z4),(1,.var 213 [.v (.int .i64) z0,.v (.int .i64) z1,.v .str z2,.v (.int .i64) z3,.row 21])]))
 |_,_,_=>none
def wqsz(f:(R:Type)→Int→Int→(List UInt8)→Int→(List dT158)→(List UInt8)→wqg R→(Int→Int→(List UInt8)→Int→(List dT158)→Int→Int→Option R)→Option R){R:Type}: List PV→List (Nm×HObj)→(Out→Option R)→Option R
 |[.ptr 1 0,.v .str x5],[(21,.row 159 (.pr (.int .i64) (.pr (.int .i64) (.pr (.int .i64) (.pr .str .bool)))) x4),(1,.var 213 [.v (.int .i64) x0,.v (.int .i64) x1,.v .str x2,.v (.int .i64) x3,.row 21])],K=>f R x0 x1 x2 x3 x4 x5 (fun y0 y1 y2 y3 y4 y5 y6=>K (.ret [.v .str y5,.v (.int .i64) y6] [(21,.row 159 (.pr (.int .i64) (.pr (.int .i64) (.pr (.int .i64) (.pr .str .bool)))) y4),(1,.var 213 [.v (.int .i64) y0,.v (.int .i64) y1,.v .str y2,.v (.int .i64) y3,.row 21])])) (fun z0 z1 z2 z3 z4 z5 z6=>K (.pan (.ifc 31 (.agg [.v (.int .i64) z5,.v (.int .i64) z6])) [(21,.row 159 (.pr (.int .i64) (.pr (.int .i64) (.pr (.int .i64) (.pr .str .bool)))) z4),(1,.var 213 [.v (.int .i64) z0,.v (.int .i64) z1,.v .str z2,.v (.int .i64) z3,.row 21])]))
 |_,_,_=>none
def wqt0(f:(R:Type)→(List UInt8)→Int→(Int→Option R)→Option R){R:Type}: List PV→List (Nm×HObj)→(Out→Option R)→Option R
 |[.v .str x0,.v (.int .u8) x1],[],K=>f R x0 x1 (fun y0=>K (.ret [.v (.int .i64) y0] []))
 |_,_,_=>none
def wqip(f0:(R:Type)→Int→Int→(List UInt8)→Int→(List dT158)→Int→(Int→Int→(List UInt8)→Int→(List dT158)→Option R)→(Int→Int→(List UInt8)→Int→(List dT158)→Int→Int→Option R)→Option R)(f1:(R:Type)→(List UInt8)→(Bool→Option R)→Option R)(f2:(R:Type)→Int→Int→(List UInt8)→Int→(List dT158)→Int→(List UInt8)→Bool→Int→(Int→Int→(List UInt8)→Int→(List dT158)→Option R)→Option R)(f3:(R:Type)→(List UInt8)→((List UInt8)→Option R)→Option R)(f4:(R:Type)→Int→Int→(List UInt8)→Int→(List dT158)→(List UInt8)→wqh R→(Int→Int→(List UInt8)→Int→(List dT158)→Int→Int→Option R)→Option R)(f5:(R:Type)→Int→Int→(List UInt8)→Int→(List dT158)→(List UInt8)→wqg R→(Int→Int→(List UInt8)→Int→(List dT158)→Int→Int→Option R)→Option R)(f6:(R:Type)→(List UInt8)→Int→(Int→Option R)→Option R): Ctx:=⟨tyT,[],(.add 216 wq26 (wqsu f0) (.add 218 wqna (wqsv f1) (.add 219 wq8z (wqsw f2) (.add 220 wqsj (wqsx f3) (.add 246 wqed (wqsy f4) (.add 247 wqec (wqsz f5) (.add 248 wq7d (wqt0 f6) .nil))))))),[],[1],[],@SH⟩
def wqjp(f0:(R:Type)→Int→Int→(List UInt8)→Int→(List dT158)→Int→(Int→Int→(List UInt8)→Int→(List dT158)→Option R)→(Int→Int→(List UInt8)→Int→(List dT158)→Int→Int→Option R)→Option R)(f1:(R:Type)→(List UInt8)→(Bool→Option R)→Option R)(f2:(R:Type)→Int→Int→(List UInt8)→Int→(List dT158)→Int→(List UInt8)→Bool→Int→(Int→Int→(List UInt8)→Int→(List dT158)→Option R)→Option R)(f3:(R:Type)→(List UInt8)→((List UInt8)→Option R)→Option R)(f4:(R:Type)→Int→Int→(List UInt8)→Int→(List dT158)→(List UInt8)→wqh R→(Int→Int→(List UInt8)→Int→(List dT158)→Int→Int→Option R)→Option R)(f5:(R:Type)→Int→Int→(List UInt8)→Int→(List dT158)→(List UInt8)→wqg R→(Int→Int→(List UInt8)→Int→(List dT158)→Int→Int→Option R)→Option R)(f6:(R:Type)→(List UInt8)→Int→(Int→Option R)→Option R){R:Type}(x0 x1:Int)(x2:(List UInt8))(x3:Int)(x4:(List dT158))(x5:(List UInt8))(K:(Int→Int→(List UInt8)→Int→(List dT158)→Option R))(E:(Int→Int→(List UInt8)→Int→(List dT158)→Int→Int→Option R)): Option R:=cond (inb 0 (x5.length:Int)) (cond (((x5.getD (Int.toNat 0) 0).toNat:Int) == 39) (f4 R x0 x1 x2 x3 x4 x5 (fun y10 y11 y12 y13 y14 y15 y16=>cond (y16 != (x5.length:Int)) (f0 R y10 y11 y12 y13 y14 3 (fun y17 y18 y19 y20 y21=>cond (decide ((y15.length:Int)>200)) (f0 R y17 y18 y19 y20 y21 4 (fun y22 y23 y24 y25 y26=>f2 R y22 y23 y24 y25 y26 3 y15 true y16 K) E) (f2 R y17 y18 y19 y20 y21 3 y15 true y16 K)) E) (cond (decide ((y15.length:Int)>200)) (f0 R y10 y11 y12 y13 y14 4 (fun y17 y18 y19 y20 y21=>f2 R y17 y18 y19 y20 y21 3 y15 true y16 K) E) (f2 R y10 y11 y12 y13 y14 3 y15 true y16 K))) E) (cond (((x5.getD (Int.toNat 0) 0).toNat:Int) == 34) (f5 R x0 x1 x2 x3 x4 x5 (fun y10 y11 y12 y13 y14 y15 y16=>cond (y16 != (x5.length:Int)) (f0 R y10 y11 y12 y13 y14 3 (fun y17 y18 y19 y20 y21=>cond (decide ((y15.length:Int)>200)) (f0 R y17 y18 y19 y20 y21 4 (fun y22 y23 y24 y25 y26=>f2 R y22 y23 y24 y25 y26 3 y15 true y16 K) E) (f2 R y17 y18 y19 y20 y21 3 y15 true y16 K)) E) (cond (decide ((y15.length:Int)>200)) (f0 R y10 y11 y12 y13 y14 4 (fun y17 y18 y19 y20 y21=>f2 R y17 y18 y19 y20 y21 3 y15 true y16 K) E) (f2 R y10 y11 y12 y13 y14 3 y15 true y16 K))) E) (cond (inb 0 (x5.length:Int)) (f6 R [91,93,123,125,38,42,33,124,62,37,64,44,63,96] ((x5.getD (Int.toNat 0) 0).toNat:Int) (fun y10=>cond ((decide (y10≥0)) == false) (f1 R x5 (fun y11=>cond (y11 == false) (f3 R x5 (fun y12=>cond (!(y12 == [])) (f0 R x0 x1 x2 x3 x4 4 (fun y13 y14 y15 y16 y17=>cond ((x5.length:Int) != (x5.length:Int)) (f0 R y13 y14 y15 y16 y17 3 (fun y18 y19 y20 y21 y22=>cond (decide ((x5.length:Int)>200)) (f0 R y18 y19 y20 y21 y22 4 (fun y23 y24 y25 y26 y27=>f2 R y23 y24 y25 y26 y27 3 x5 false (x5.length:Int) K) E) (f2 R y18 y19 y20 y21 y22 3 x5 false (x5.length:Int) K)) E) (cond (decide ((x5.length:Int)>200)) (f0 R y13 y14 y15 y16 y17 4 (fun y18 y19 y20 y21 y22=>f2 R y18 y19 y20 y21 y22 3 x5 false (x5.length:Int) K) E) (f2 R y13 y14 y15 y16 y17 3 x5 false (x5.length:Int) K))) E) (cond ((x5.length:Int) != (x5.length:Int)) (f0 R x0 x1 x2 x3 x4 3 (fun y13 y14 y15 y16 y17=>cond (decide ((x5.length:Int)>200)) (f0 R y13 y14 y15 y16 y17 4 (fun y18 y19 y20 y21 y22=>f2 R y18 y19 y20 y21 y22 3 x5 false (x5.length:Int) K) E) (f2 R y13 y14 y15 y16 y17 3 x5 false (x5.length:Int) K)) E) (cond (decide ((x5.length:Int)>200)) (f0 R x0 x1 x2 x3 x4 4 (fun y13 y14 y15 y16 y17=>f2 R y13 y14 y15 y16 y17 3 x5 false (x5.length:Int) K) E) (f2 R x0 x1 x2 x3 x4 3 x5 false (x5.length:Int) K))))) (f0 R x0 x1 x2 x3 x4 4 (fun y12 y13 y14 y15 y16=>cond ((x5.length:Int) != (x5.length:Int)) (f0 R y12 y13 y14 y15 y16 3 (fun y17 y18 y19 y20 y21=>cond (decide ((x5.length:Int)>200)) (f0 R y17 y18 y19 y20 y21 4 (fun y22 y23 y24 y25 y26=>f2 R y22 y23 y24 y25 y26 3 x5 false (x5.length:Int) K) E) (f2 R y17 y18 y19 y20 y21 3 x5 false (x5.length:Int) K)) E) (cond (decide ((x5.length:Int)>200)) (f0 R y12 y13 y14 y15 y16 4 (fun y17 y18 y19 y20 y21=>f2 R y17 y18 y19 y20 y21 3 x5 false (x5.length:Int) K) E) (f2 R y12 y13 y14 y15 y16 3 x5 false (x5.length:Int) K))) E))) (f0 R x0 x1 x2 x3 x4 4 (fun y11 y12 y13 y14 y15=>cond ((x5.length:Int) != (x5.length:Int)) (f0 R y11 y12 y13 y14 y15 3 (fun y16 y17 y18 y19 y20=>cond (decide ((x5.length:Int)>200)) (f0 R y16 y17 y18 y19 y20 4 (fun y21 y22 y23 y24 y25=>f2 R y21 y22 y23 y24 y25 3 x5 false (x5.length:Int) K) E) (f2 R y16 y17 y18 y19 y20 3 x5 false (x5.length:Int) K)) E) (cond (decide ((x5.length:Int)>200)) (f0 R y11 y12 y13 y14 y15 4 (fun y16 y17 y18 y19 y20=>f2 R y16 y17 y18 y19 y20 3 x5 false (x5.length:Int) K) E) (f2 R y11 y12 y13 y14 y15 3 x5 false (x5.length:Int) K))) E))) none))) none
theorem wqpv(f0:(R:Type)→Int→Int→(List UInt8)→Int→(List dT158)→Int→(Int→Int→(List UInt8)→Int→(List dT158)→Option R)→(Int→Int→(List UInt8)→Int→(List dT158)→Int→Int→Option R)→Option R)(f1:(R:Type)→(List UInt8)→(Bool→Option R)→Option R)(f2:(R:Type)→Int→Int→(List UInt8)→Int→(List dT158)→Int→(List UInt8)→Bool→Int→(Int→Int→(List UInt8)→Int→(List dT158)→Option R)→Option R)(f3:(R:Type)→(List UInt8)→((List UInt8)→Option R)→Option R)(f4:(R:Type)→Int→Int→(List UInt8)→Int→(List dT158)→(List UInt8)→wqh R→(Int→Int→(List UInt8)→Int→(List dT158)→Int→Int→Option R)→Option R)(f5:(R:Type)→Int→Int→(List UInt8)→Int→(List dT158)→(List UInt8)→wqg R→(Int→Int→(List UInt8)→Int→(List dT158)→Int→Int→Option R)→Option R)(f6:(R:Type)→(List UInt8)→Int→(Int→Option R)→Option R)(k:Nat){R:Type}(x0 x1:Int)(x2:(List UInt8))(x3:Int)(x4:(List dT158))(x5:(List UInt8))(K:(Int→Int→(List UInt8)→Int→(List dT158)→Option R))(E:(Int→Int→(List UInt8)→Int→(List dT158)→Int→Int→Option R)): fnW (wqip f0 f1 f2 f3 f4 f5 f6) k Tryz.f221 wqin [.ptr 1 0,.v .str x5] [(21,.row 159 kdT158 x4),(1,.var 213 [.v kI x0,.v kI x1,.v .str x2,.v kI x3,.row 21])] (wq96 K E)=wqjp f0 f1 f2 f3 f4 f5 f6 x0 x1 x2 x3 x4 x5 K E:=by
 kernel_rfl
theorem wqnh(k:Nat): wqio k=wqip (fun R=>@wq3 k R) (fun R=>@wq8y k R) (fun R=>@wq7 k R) (fun R=>@wqax k R) (fun R=>@wq1k k R) (fun R=>@wq1j k R) (fun R=>@wqa k R):=by
 kernel_rfl
theorem wqpw(k:Nat){R:Type}(x0 x1:Int)(x2:(List UInt8))(x3:Int)(x4:(List dT158))(x5:(List UInt8))(K:(Int→Int→(List UInt8)→Int→(List dT158)→Option R))(E:(Int→Int→(List UInt8)→Int→(List dT158)→Int→Int→Option R)): fnW (wqio k) k Tryz.f221 wqin [.ptr 1 0,.v .str x5] [(21,.row 159 kdT158 x4),(1,.var 213 [.v kI x0,.v kI x1,.v .str x2,.v kI x3,.row 21])] (wq96 K E)=wq1t k x0 x1 x2 x3 x4 x5 K E:=by
 have e:wq1t k x0 x1 x2 x3 x4 x5 K E=wqjp (fun R=>@wq3 k R) (fun R=>@wq8y k R) (fun R=>@wq7 k R) (fun R=>@wqax k R) (fun R=>@wq1k k R) (fun R=>@wq1j k R) (fun R=>@wqa k R) x0 x1 x2 x3 x4 x5 K E:=by kernel_rfl
 rw[wqnh,e]
 exact wqpv (fun R=>@wq3 k R) (fun R=>@wq8y k R) (fun R=>@wq7 k R) (fun R=>@wqax k R) (fun R=>@wq1k k R) (fun R=>@wq1j k R) (fun R=>@wqa k R) k x0 x1 x2 x3 x4 x5 K E
def wq6r(k:Nat){R:Type}: List PV→List (Nm×HObj)→(Out→Option R)→Option R
 |[.ptr 1 0,.v .str x5],[(21,.row 159 (.pr (.int .i64) (.pr (.int .i64) (.pr (.int .i64) (.pr .str .bool)))) x4),(1,.var 213 [.v (.int .i64) x0,.v (.int .i64) x1,.v .str x2,.v (.int .i64) x3,.row 21])],K=>wq1t k x0 x1 x2 x3 x4 x5 (fun y0 y1 y2 y3 y4=>K (.ret [] [(21,.row 159 (.pr (.int .i64) (.pr (.int .i64) (.pr (.int .i64) (.pr .str .bool)))) y4),(1,.var 213 [.v (.int .i64) y0,.v (.int .i64) y1,.v .str y2,.v (.int .i64) y3,.row 21])])) (fun z0 z1 z2 z3 z4 z5 z6=>K (.pan (.ifc 31 (.agg [.v (.int .i64) z5,.v (.int .i64) z6])) [(21,.row 159 (.pr (.int .i64) (.pr (.int .i64) (.pr (.int .i64) (.pr .str .bool)))) z4),(1,.var 213 [.v (.int .i64) z0,.v (.int .i64) z1,.v .str z2,.v (.int .i64) z3,.row 21])]))
 |_,_,_=>none
theorem wqx4(k:Nat): DOK Tryz.prog 221 (wq6r k):=by
 intro ps hp R K r h
 have h:wq6r k ps hp K=some r:=h
 unfold wq6r at h
 split at h
 ·rw[←wqpw]at h
  exact fnW_ok ⟨tyT_ok,(wq4 (wq5b k) (wq4 (wq150 k) (wq4 (wqil k) (wq4 (wq1ad k) (wq4 (wqss k) (wq4 (wqsr k) (wq4 (wqfl k) CTab.nil_ok))))))),fun _ _=>rfl⟩ mixed (by kernel_rfl) (by kernel_rfl) h fun o ho=>by unfold wq96 at ho;split at ho<;>first|exact ho|cases ho
 ·cases h
end Go.Proofs.YtbjkpddloieekaaGreatDoor.Pvm
end
noncomputable section
namespace Go.Proofs.YtbjkpddloieekaaGreatDoor.Pvm
open Go Go.Proofs
def wqv5:List LS:=[.obj 1 [.any,.any,.any,.any,.own 21 159 kdT158]]
def wq6s{R:Type}(K:(Int→Int→(List UInt8)→Int→(List dT158)→Option R))(E:(Int→Int→(List UInt8)→Int→(List dT158)→Int→Int→Option R)): Out→Option R
 |.ret [] [(21,.row 159 (.pr (.int .i64) (.pr (.int .i64) (.pr (.int .i64) (.pr .str .bool)))) y4),(1,.var 213 [.v (.int .i64) y0,.v (.int .i64) y1,.v .str y2,.v (.int .i64) y3,.row 21])]=>K y0 y1 y2 y3 y4
 |.pan (.ifc 31 (.agg [.v (.int .i64) z5,.v (.int .i64) z6])) [(21,.row 159 (.pr (.int .i64) (.pr (.int .i64) (.pr (.int .i64) (.pr .str .bool)))) z4),(1,.var 213 [.v (.int .i64) z0,.v (.int .i64) z1,.v .str z2,.v (.int .i64) z3,.row 21])]=>E z0 z1 z2 z3 z4 z5 z6
 |_=>none
def wqee:RetSpec:=⟨[],[(1,.obj 1 [.any,.any,.any,.any,.own 21 159 (.pr (.int .i64) (.pr (.int .i64) (.pr (.int .i64) (.pr .str .bool))))])],[(1,.obj 1 [.any,.any,.any,.any,.own 21 159 (.pr (.int .i64) (.pr (.int .i64) (.pr (.int .i64) (.pr .str .bool))))])]⟩
def wqef(k:Nat): Ctx:=⟨tyT,[(1003,⟨[(0,.obj 1 [.any,.any,.any,.any,.own 21 159 kdT158]),(2,.any)],[(1,.obj 1 [.any,.any,.any,.any,.own 21 159 kdT158])]⟩)],(.add 216 wq26 (wq19 k) (.add 217 wqso (wq6q k) (.add 218 wqna (wqe4 k) (.add 219 wq8z (wq3i k) (.add 220 wqsj (wqgy k) (.add 221 wqst (wq6r k) .nil)))))),[],[1],[],@SH⟩
def wq3z(s0 s1:Int)(s2:(List UInt8))(s3:Int)(s4:(List dT158))(s5:(List UInt8)): St:=⟨mkT [(0,.ptr 1 0),(2,.v .str s5)],mkH [(21,.row 159 kdT158 s4),(1,.var 213 [.v kI s0,.v kI s1,.v .str s2,.v kI s3,.row 21])]⟩
def wq8n(k:Nat){R:Type}(I:Nat→St→Option R)(n:Nat)(s:St)(K:(Int→Int→(List UInt8)→Int→(List dT158)→Option R))(E:(Int→Int→(List UInt8)→Int→(List dT158)→Int→Int→Option R)): Option R:=loopK (wqef k) k Tryz.f180 wqee 1003 [1,1,0,0] I n s (wq6s K E)
def wq8o(k:Nat){R:Type}(E1003:(Int→Int→(List UInt8)→Int→(List dT158)→(List UInt8)→Option R))(s0 s1:Int)(s2:(List UInt8))(s3:Int)(s4:(List dT158))(s5:(List UInt8))(K:(Int→Int→(List UInt8)→Int→(List dT158)→Option R))(E:(Int→Int→(List UInt8)→Int→(List dT158)→Int→Int→Option R)): Option R:=wq8y k s5 (fun y11=>cond y11 (wq7 k s0 s1 s2 s3 s4 1 [] false 1 (fun y12 y13 y14 y15 y16=>wq1s k y12 y13 y14 y15 y16 E1003)) (wqax k s5 (fun y12=>cond (!(y12 == [])) (cond (decide ((y12.length:Int)>64)) (wq3 k s0 s1 s2 s3 s4 5 (fun y13 y14 y15 y16 y17=>wq7 k y13 y14 y15 y16 y17 2 y12 false (@Go.IntKind.wrap Go.IntKind.i64 ((y12.length:Int)+1)) (fun y18 y19 y20 y21 y22=>wq1s k y18 y19 y20 y21 y22 (fun y23 y24 y25 y26 y27 y28=>cond (!(y28 == [])) (wq1t k y23 y24 y25 y26 y27 y28 K E) (K y23 y24 y25 y26 y27)))) E) (wq7 k s0 s1 s2 s3 s4 2 y12 false (@Go.IntKind.wrap Go.IntKind.i64 ((y12.length:Int)+1)) (fun y13 y14 y15 y16 y17=>wq1s k y13 y14 y15 y16 y17 (fun y18 y19 y20 y21 y22 y23=>cond (!(y23 == [])) (wq1t k y18 y19 y20 y21 y22 y23 K E) (K y18 y19 y20 y21 y22))))) (cond (!(s5 == [])) (wq1t k s0 s1 s2 s3 s4 s5 K E) (K s0 s1 s2 s3 s4)))))
theorem wqj4(k:Nat){R:Type}(I:Nat→St→Option R)(s0 s1:Int)(s2:(List UInt8))(s3:Int)(s4:(List dT158))(s5:(List UInt8))(K:(Int→Int→(List UInt8)→Int→(List dT158)→Option R))(E:(Int→Int→(List UInt8)→Int→(List dT158)→Int→Int→Option R)): bodyK (wqef k) k Tryz.f180 wqee [1,1,0,0,0] I (wq3z s0 s1 s2 s3 s4 s5) (wq6s K E)=wq8o k (fun s0 s1 s2 s3 s4 s5=>I 1003 (wq3z s0 s1 s2 s3 s4 s5)) s0 s1 s2 s3 s4 s5 K E:=by kernel_rfl
def wqgf(k:Nat){R:Type}(E1003:(Int→Int→(List UInt8)→Int→(List dT158)→(List UInt8)→Option R))(x0 x1:Int)(x2:(List UInt8))(x3:Int)(x4:(List dT158))(K:(Int→Int→(List UInt8)→Int→(List dT158)→Option R))(E:(Int→Int→(List UInt8)→Int→(List dT158)→Int→Int→Option R)): Option R:=cond (cond (decide (x1<0)) true (decide (x1>16384))) (wq3 k x0 x1 x2 x3 x4 6 (fun y10 y11 y12 y13 y14=>wq1s k y10 y11 y12 y13 y14 E1003) E) (wq1s k x0 x1 x2 x3 x4 E1003)
def wq1w(k:Nat){R:Type}: Nat→Int→Int→(List UInt8)→Int→(List dT158)→(List UInt8)→(Int→Int→(List UInt8)→Int→(List dT158)→Option R)→(Int→Int→(List UInt8)→Int→(List dT158)→Int→Int→Option R)→Option R
 |0,_,_,_,_,_,_,_,_=>none
 |n+1,s0,s1,s2,s3,s4,s5,K,E=>wq8o k (fun s0 s1 s2 s3 s4 s5=>wq1w k n s0 s1 s2 s3 s4 s5 K E) s0 s1 s2 s3 s4 s5 K E
theorem wqj5(k:Nat){R:Type}(I:Nat→St→Option R)(K:(Int→Int→(List UInt8)→Int→(List dT158)→Option R))(E:(Int→Int→(List UInt8)→Int→(List dT158)→Int→Int→Option R))(n:Nat): ∀(s0 s1:Int) (s2:(List UInt8)) (s3:Int) (s4:(List dT158)) (s5:(List UInt8)),wq8n k I n (wq3z s0 s1 s2 s3 s4 s5) K E=wq1w k n s0 s1 s2 s3 s4 s5 K E:=by
 induction n with
 |zero=>intros;rfl
 |succ n ih =>
  intro s0 s1 s2 s3 s4 s5
  refine(?_:_=_).trans ((wqj4 k (upI 1003 (fun s=>wq8n k I n s K E) I) s0 s1 s2 s3 s4 s5 K E).trans ?_)
  ·rfl
  ·simp only[wqy,ih]<;>rfl
def wqay(k:Nat){R:Type}(x0 x1:Int)(x2:(List UInt8))(x3:Int)(x4:(List dT158))(K:(Int→Int→(List UInt8)→Int→(List dT158)→Option R))(E:(Int→Int→(List UInt8)→Int→(List dT158)→Int→Int→Option R)): Option R:=wqgf k (fun s0 s1 s2 s3 s4 s5=>wq1w k k s0 s1 s2 s3 s4 s5 K E) x0 x1 x2 x3 x4 K E
theorem wqt1(k:Nat){R:Type}(x0 x1:Int)(x2:(List UInt8))(x3:Int)(x4:(List dT158))(K:(Int→Int→(List UInt8)→Int→(List dT158)→Option R))(E:(Int→Int→(List UInt8)→Int→(List dT158)→Int→Int→Option R)): fnW (wqef k) k Tryz.f180 wqee [.ptr 1 0] [(21,.row 159 kdT158 x4),(1,.var 213 [.v kI x0,.v kI x1,.v .str x2,.v kI x3,.row 21])] (wq6s K E)=wqay k x0 x1 x2 x3 x4 K E:=by
 refine Eq.trans (b:=wqgf k (fun s0 s1 s2 s3 s4 s5=>wq8n k (fun _ _=>none) k (wq3z s0 s1 s2 s3 s4 s5) K E) x0 x1 x2 x3 x4 K E) (by kernel_rfl) ?_
 simp only[wqj5]<;>rfl
def wq7t(k:Nat){R:Type}: List PV→List (Nm×HObj)→(Out→Option R)→Option R
 |[.ptr 1 0],[(21,.row 159 (.pr (.int .i64) (.pr (.int .i64) (.pr (.int .i64) (.pr .str .bool)))) x4),(1,.var 213 [.v (.int .i64) x0,.v (.int .i64) x1,.v .str x2,.v (.int .i64) x3,.row 21])],K=>wqay k x0 x1 x2 x3 x4 (fun y0 y1 y2 y3 y4=>K (.ret [] [(21,.row 159 (.pr (.int .i64) (.pr (.int .i64) (.pr (.int .i64) (.pr .str .bool)))) y4),(1,.var 213 [.v (.int .i64) y0,.v (.int .i64) y1,.v .str y2,.v (.int .i64) y3,.row 21])])) (fun z0 z1 z2 z3 z4 z5 z6=>K (.pan (.ifc 31 (.agg [.v (.int .i64) z5,.v (.int .i64) z6])) [(21,.row 159 (.pr (.int .i64) (.pr (.int .i64) (.pr (.int .i64) (.pr .str .bool)))) z4),(1,.var 213 [.v (.int .i64) z0,.v (.int .i64) z1,.v .str z2,.v (.int .i64) z3,.row 21])]))
 |_,_,_=>none
theorem wqyz(k:Nat): DOK Tryz.prog 180 (wq7t k):=by
 intro ps hp R K r h
 have h:wq7t k ps hp K=some r:=h
 unfold wq7t at h
 split at h
 ·rw[←wqt1]at h
  exact fnW_ok ⟨tyT_ok,(wq4 (wq5b k) (wq4 (wqx3 k) (wq4 (wq150 k) (wq4 (wqil k) (wq4 (wq1ad k) (wq4 (wqx4 k) CTab.nil_ok)))))),fun _ _=>rfl⟩ mixed (by kernel_rfl) (by kernel_rfl) h fun o ho=>by unfold wq6s at ho;split at ho<;>first|exact ho|cases ho
 ·cases h
end Go.Proofs.YtbjkpddloieekaaGreatDoor.Pvm
end
namespace Go.Proofs.YtbjkpddloieekaaGreatDoor.Pvm
open Go Go.Proofs
def wq1bc:List LS:=[.ag [.any,.any,.any]]
def wq1ae(k:Nat): CTab:=(CTab.add 180 wqv5 (wq7t k) CTab.nil)
def wqni{R:Type}(K:((List dT158)→Int→Int→Option R)): Out→Option R
 |.ret [.v (.sl (.pr (.int .i64) (.pr (.int .i64) (.pr (.int .i64) (.pr .str .bool))))) y0,.agg [.v (.int .i64) y1,.v (.int .i64) y2]] []=>K y0 y1 y2
 |_=>none
def wq154:RetSpec:=⟨[.sl (.pr (.int .i64) (.pr (.int .i64) (.pr (.int .i64) (.pr .str .bool)))),.ag [.any,.any]],[],[]⟩
def wq18k:List (Nat×CutSpec):=[]
def wq155:List (Nat×Plan):=[]
def wqx5(k:Nat): Ctx:=⟨tyT,wq18k,wq1ae k,[2,3],[],wq155,@SH⟩
def wq4w:Code:=Tryz.f123.body.getD .skip
def wqhr(k:Nat){R:Type}: PV→List PV→List (Nm×HObj)→(Out→Option R)→Option R
 |.nilif,[.ptr 1 0,.ptr 2 0],[(1,.var 102 [.v (.sl (.pr (.int .i64) (.pr (.int .i64) (.pr (.int .i64) (.pr .str .bool))))) x0]),(2,.var 31 [.v (.int .i64) x1,.v (.int .i64) x2])],K=>wqbk k x0 x1 x2 (fun y0 y1 y2=>K (.ret [] [(1,.var 102 [.v (.sl (.pr (.int .i64) (.pr (.int .i64) (.pr (.int .i64) (.pr .str .bool))))) y0]),(2,.var 31 [.v (.int .i64) y1,.v (.int .i64) y2])]))
 |.ifc 31 (.agg [.v (.int .i64) x3,.v (.int .i64) x4]),[.ptr 1 0,.ptr 2 0],[(1,.var 102 [.v (.sl (.pr (.int .i64) (.pr (.int .i64) (.pr (.int .i64) (.pr .str .bool))))) x0]),(2,.var 31 [.v (.int .i64) x1,.v (.int .i64) x2])],K=>wqbl k x0 x1 x2 x3 x4 (fun y0 y1 y2=>K (.ret [] [(1,.var 102 [.v (.sl (.pr (.int .i64) (.pr (.int .i64) (.pr (.int .i64) (.pr .str .bool))))) y0]),(2,.var 31 [.v (.int .i64) y1,.v (.int .i64) y2])]))
 |_,_,_,_=>none
def wq12i(k:Nat){R:Type}(x0 x1:Int)(x2:(List UInt8))(K:((List dT158)→Int→Int→Option R)): Option R:=wqay k x0 x1 x2 0 [] (fun y6 y7 y8 y9 y10=>wqbk k y10 0 0 K) (fun y6 y7 y8 y9 y10 y11 y12=>wqbl k [] 0 0 y11 y12 K)
theorem wq18l(k:Nat){R:Type}(I:Nat→St→Option R)(x0 x1:Int)(x2:(List UInt8))(K:((List dT158)→Int→Int→Option R)): fnDK (wqx5 k) k [300,400] (at_ [0] wq4w) (opsAt (at_ [1,0] wq4w)) (at_ [1,1] wq4w) 16 [.cell 2 102,.cell 3 31] wq154 (wqhr k) wqu4 [(300,0),(400,0)] [.agg [.v (.int .i64) x0,.v (.int .i64) x1,.v .str x2]] [] (wqni K)=wq12i k x0 x1 x2 K:=by kernel_rfl
def wqpx(k:Nat){R:Type}(x0 x1:Int)(x2:(List UInt8))(K:((List dT158)→Int→Int→Option R)): Option R:=wq12i k x0 x1 x2 K
theorem wq18m(k:Nat){R:Type}(x0 x1:Int)(x2:(List UInt8))(K:((List dT158)→Int→Int→Option R)): fnDK (wqx5 k) k [300,400] (at_ [0] wq4w) (opsAt (at_ [1,0] wq4w)) (at_ [1,1] wq4w) 16 [.cell 2 102,.cell 3 31] wq154 (wqhr k) wqu4 [(300,0),(400,0)] [.agg [.v (.int .i64) x0,.v (.int .i64) x1,.v .str x2]] [] (wqni K)=wqpx k x0 x1 x2 K:=by
 exact wq18l k (fun _ _=>none) x0 x1 x2 K
def wqt2(k:Nat){R:Type}: List PV→List (Nm×HObj)→(Out→Option R)→Option R
 |[.agg [.v (.int .i64) x0,.v (.int .i64) x1,.v .str x2]],[],K=>wqpx k x0 x1 x2 (fun y0 y1 y2=>K (.ret [.v (.sl (.pr (.int .i64) (.pr (.int .i64) (.pr (.int .i64) (.pr .str .bool))))) y0,.agg [.v (.int .i64) y1,.v (.int .i64) y2]] []))
 |_,_,_=>none
theorem wq18n(k:Nat): (wq1ae k).Ok Tryz.prog:=(wq4 (wqyz k) CTab.nil_ok)
theorem wqz0(k:Nat){R:Type}(rec:PV)(ps:List PV)(hp:List (Nm×HObj))(K:Out→Option R)(r:R)(h:wqhr k rec ps hp K=some r): DoesToD Tryz.prog 179 rec ps hp fun out=>K out=some r:=by
 unfold wqhr at h
 split at h
 ·exact wq12a k h
 ·exact wq12b k h
 ·cases h
theorem wq1f6(k:Nat){ps:List PV}{hp:List (Nm×HObj)}{R:Type}{K:Out→Option R}{r:R}(h:wqt2 k ps hp K=some r): DoesTo Tryz.prog 123 ps hp fun out=>K out=some r:=by
 unfold wqt2 at h
 split at h
 ·rw[←wq18m]at h
  have:=wq1hz (P:=Tryz.prog) (cx:=wqx5 k) (f:=123) ⟨tyT_ok,wq18n k,fun _ _=>rfl⟩ (by kernel_rfl) (fn:=Tryz.f123) (id:=1) (pre:=at_ [0] wq4w) (rest:=at_ [1,1] wq4w) (ops:=opsAt (at_ [1,0] wq4w)) (by kernel_rfl) (by kernel_rfl) (by kernel_rfl) (rs:=[.cell 2 102,.cell 3 31]) (by kernel_rfl) (by kernel_rfl) (by kernel_rfl) (g:=179) (s:=5) (xs:=[.tmp 2,.tmp 3]) (by kernel_rfl) (Invokes.of (fn:=Tryz.f179) (by kernel_rfl) (c:=Tryz.f179.body.getD .skip) (by kernel_rfl) (by kernel_rfl)) (wqz0 k) h
  exact this.mono fun out ho=>by
   unfold wqni at ho
   split at ho<;>first|exact ho|cases ho
 ·cases h
end Go.Proofs.YtbjkpddloieekaaGreatDoor.Pvm
noncomputable section
namespace Go.Proofs.YtbjkpddloieekaaGreatDoor.Pvm
open Go Go.Proofs
def wqz1:List LS:=[.any,.any]
def wq97{R:Type}(K:(Int→Bool→Option R)): Out→Option R
 |.ret [.v (.int .i64) y0,.v .bool y1] []=>K y0 y1
 |_=>none
def wqhs:RetSpec:=⟨[.any,.any],[],[]⟩
def wqht(k:Nat): Ctx:=⟨tyT,[(1003,⟨[(0,.any),(6,.any),(7,.any)],[]⟩)],.nil,[],[],[],@SH⟩
def wq5w(s0:(List UInt8))(s1 s2:Int): St:=⟨mkT [(0,.v .str s0),(6,.v (.int .u8) s1),(7,.v kI s2)],mkH []⟩
def wqaf(k:Nat){R:Type}(I:Nat→St→Option R)(n:Nat)(s:St)(K:(Int→Bool→Option R)): Option R:=loopK (wqht k) k Tryz.f177 wqhs 1003 [1,1,0,1,0] I n s (wq97 K)
def wqag(k:Nat){R:Type}(E1003:((List UInt8)→Int→Int→Option R))(s0:(List UInt8))(s1 s2:Int)(K:(Int→Bool→Option R)): Option R:=cond (decide (s2<(s0.length:Int))) (cond ((!((s1 == 34) == true)) || (inb s2 (s0.length:Int))) (cond (cond (s1 == 34) (((s0.getD s2.toNat 0).toNat:Int) == 92) false) (E1003 s0 s1 (@Go.IntKind.wrap Go.IntKind.i64 ((@Go.IntKind.wrap Go.IntKind.i64 (s2+1))+1))) (cond (inb s2 (s0.length:Int)) (cond (((s0.getD s2.toNat 0).toNat:Int) != s1) (E1003 s0 s1 (@Go.IntKind.wrap Go.IntKind.i64 (s2+1))) (cond ((!((cond (s1 == 39) (decide ((@Go.IntKind.wrap Go.IntKind.i64 (s2+1))<(s0.length:Int))) false) == true)) || (inb (@Go.IntKind.wrap Go.IntKind.i64 (s2+1)) (s0.length:Int))) (cond (cond (cond (s1 == 39) (decide ((@Go.IntKind.wrap Go.IntKind.i64 (s2+1))<(s0.length:Int))) false) (((s0.getD (@Go.IntKind.wrap Go.IntKind.i64 (s2+1)).toNat 0).toNat:Int) == s1) false) (E1003 s0 s1 (@Go.IntKind.wrap Go.IntKind.i64 ((@Go.IntKind.wrap Go.IntKind.i64 (s2+1))+1))) (K s2 true)) none)) none)) none) (K 0 false)
theorem wqla(k:Nat){R:Type}(I:Nat→St→Option R)(s0:(List UInt8))(s1 s2:Int)(K:(Int→Bool→Option R)): bodyK (wqht k) k Tryz.f177 wqhs [1,1,0,1,0,0] I (wq5w s0 s1 s2) (wq97 K)=wqag k (fun s0 s1 s2=>I 1003 (wq5w s0 s1 s2)) s0 s1 s2 K:=by kernel_rfl
def wqjq(k:Nat){R:Type}(E1003:((List UInt8)→Int→Int→Option R))(x0:(List UInt8))(x1:Int)(K:(Int→Bool→Option R)): Option R:=cond (inb x1 (x0.length:Int)) (E1003 x0 ((x0.getD x1.toNat 0).toNat:Int) (@Go.IntKind.wrap Go.IntKind.i64 (x1+1))) none
def wq45(k:Nat){R:Type}: Nat→(List UInt8)→Int→Int→(Int→Bool→Option R)→Option R
 |0,_,_,_,_=>none
 |n+1,s0,s1,s2,K=>wqag k (fun s0 s1 s2=>wq45 k n s0 s1 s2 K) s0 s1 s2 K
theorem wqlb(k:Nat){R:Type}(I:Nat→St→Option R)(K:(Int→Bool→Option R))(n:Nat): ∀(s0:(List UInt8)) (s1 s2:Int),wqaf k I n (wq5w s0 s1 s2) K=wq45 k n s0 s1 s2 K:=by
 induction n with
 |zero=>intros;rfl
 |succ n ih =>
  intro s0 s1 s2
  refine(?_:_=_).trans ((wqla k (upI 1003 (fun s=>wqaf k I n s K) I) s0 s1 s2 K).trans ?_)
  ·rfl
  ·simp only[wqy,ih]<;>rfl
def wq8t(k:Nat){R:Type}(x0:(List UInt8))(x1:Int)(K:(Int→Bool→Option R)): Option R:=wqjq k (fun s0 s1 s2=>wq45 k k s0 s1 s2 K) x0 x1 K
theorem wqx6(k:Nat){R:Type}(x0:(List UInt8))(x1:Int)(K:(Int→Bool→Option R)): fnW (wqht k) k Tryz.f177 wqhs [.v .str x0,.v kI x1] [] (wq97 K)=wq8t k x0 x1 K:=by
 refine Eq.trans (b:=wqjq k (fun s0 s1 s2=>wqaf k (fun _ _=>none) k (wq5w s0 s1 s2) K) x0 x1 K) (by kernel_rfl) ?_
 simp only[wqlb]<;>rfl
def wqaz(k:Nat){R:Type}: List PV→List (Nm×HObj)→(Out→Option R)→Option R
 |[.v .str x0,.v (.int .i64) x1],[],K=>wq8t k x0 x1 (fun y0 y1=>K (.ret [.v (.int .i64) y0,.v .bool y1] []))
 |_,_,_=>none
theorem wq156(k:Nat): DOK Tryz.prog 177 (wqaz k):=by
 intro ps hp R K r h
 have h:wqaz k ps hp K=some r:=h
 unfold wqaz at h
 split at h
 ·rw[←wqx6]at h
  exact fnW_ok ⟨tyT_ok,CTab.nil_ok,fun _ _=>rfl⟩ mixed (by kernel_rfl) (by kernel_rfl) h fun o ho=>by unfold wq97 at ho;split at ho<;>first|exact ho|cases ho
 ·cases h
end Go.Proofs.YtbjkpddloieekaaGreatDoor.Pvm
end
noncomputable section
namespace Go.Proofs.YtbjkpddloieekaaGreatDoor.Pvm
open Go Go.Proofs
def wqgz:List LS:=[.any,.any]
def wq20{R:Type}(K:((List UInt8)→Option R)): Out→Option R
 |.ret [.v .str y0] []=>K y0
 |_=>none
def wq4x:RetSpec:=⟨[.any],[],[]⟩
def wq4y(k:Nat): Ctx:=⟨tyT,[(1001,⟨[(0,.any),(1,.any)],[]⟩)],.nil,[],[],[],@SH⟩
def wq1n(s0:(List UInt8))(s1:Int): St:=⟨mkT [(0,.v .str s0),(1,.v (.int .u8) s1)],mkH []⟩
def wq2u(k:Nat){R:Type}(I:Nat→St→Option R)(n:Nat)(s:St)(K:((List UInt8)→Option R)): Option R:=loopK (wq4y k) k Tryz.f213 wq4x 1001 [1,0,0] I n s (wq20 K)
def wq2v(k:Nat){R:Type}(E1001:((List UInt8)→Int→Option R))(s0:(List UInt8))(s1:Int)(K:((List UInt8)→Option R)): Option R:=cond ((!((decide ((s0.length:Int)>0)) == true)) || (inb (@Go.IntKind.wrap Go.IntKind.i64 ((s0.length:Int)-1)) (s0.length:Int))) (cond (cond (decide ((s0.length:Int)>0)) (((s0.getD (@Go.IntKind.wrap Go.IntKind.i64 ((s0.length:Int)-1)).toNat 0).toNat:Int) == s1) false) (cond (bnd 0 (@Go.IntKind.wrap Go.IntKind.i64 ((s0.length:Int)-1)) (s0.length:Int)) (E1001 (cut s0 0 (@Go.IntKind.wrap Go.IntKind.i64 ((s0.length:Int)-1))) s1) none) (K s0)) none
theorem wqbp(k:Nat){R:Type}(I:Nat→St→Option R)(s0:(List UInt8))(s1:Int)(K:((List UInt8)→Option R)): bodyK (wq4y k) k Tryz.f213 wq4x [1,0,0,0] I (wq1n s0 s1) (wq20 K)=wq2v k (fun s0 s1=>I 1001 (wq1n s0 s1)) s0 s1 K:=by kernel_rfl
def wq5o(k:Nat){R:Type}(E1001:((List UInt8)→Int→Option R))(x0:(List UInt8))(x1:Int)(K:((List UInt8)→Option R)): Option R:=E1001 x0 x1
def wq11(k:Nat){R:Type}: Nat→(List UInt8)→Int→((List UInt8)→Option R)→Option R
 |0,_,_,_=>none
 |n+1,s0,s1,K=>wq2v k (fun s0 s1=>wq11 k n s0 s1 K) s0 s1 K
theorem wqbq(k:Nat){R:Type}(I:Nat→St→Option R)(K:((List UInt8)→Option R))(n:Nat): ∀(s0:(List UInt8)) (s1:Int),wq2u k I n (wq1n s0 s1) K=wq11 k n s0 s1 K:=by
 induction n with
 |zero=>intros;rfl
 |succ n ih =>
  intro s0 s1
  refine(?_:_=_).trans ((wqbp k (upI 1001 (fun s=>wq2u k I n s K) I) s0 s1 K).trans ?_)
  ·rfl
  ·simp only[wqy,ih]<;>rfl
def wq33(k:Nat){R:Type}(x0:(List UInt8))(x1:Int)(K:((List UInt8)→Option R)): Option R:=wq5o k (fun s0 s1=>wq11 k k s0 s1 K) x0 x1 K
theorem wqgg(k:Nat){R:Type}(x0:(List UInt8))(x1:Int)(K:((List UInt8)→Option R)): fnW (wq4y k) k Tryz.f213 wq4x [.v .str x0,.v (.int .u8) x1] [] (wq20 K)=wq33 k x0 x1 K:=by
 refine Eq.trans (b:=wq5o k (fun s0 s1=>wq2u k (fun _ _=>none) k (wq1n s0 s1) K) x0 x1 K) (by kernel_rfl) ?_
 simp only[wqbq]<;>rfl
def wq27(k:Nat){R:Type}: List PV→List (Nm×HObj)→(Out→Option R)→Option R
 |[.v .str x0,.v (.int .u8) x1],[],K=>wq33 k x0 x1 (fun y0=>K (.ret [.v .str y0] []))
 |_,_,_=>none
theorem wqj6(k:Nat): DOK Tryz.prog 213 (wq27 k):=by
 intro ps hp R K r h
 have h:wq27 k ps hp K=some r:=h
 unfold wq27 at h
 split at h
 ·rw[←wqgg]at h
  exact fnW_ok ⟨tyT_ok,CTab.nil_ok,fun _ _=>rfl⟩ mixed (by kernel_rfl) (by kernel_rfl) h fun o ho=>by unfold wq20 at ho;split at ho<;>first|exact ho|cases ho
 ·cases h
end Go.Proofs.YtbjkpddloieekaaGreatDoor.Pvm
end
noncomputable section
namespace Go.Proofs.YtbjkpddloieekaaGreatDoor.Pvm
open Go Go.Proofs
def wqlc:List LS:=[.any,.any]
def wqbr{R:Type}(K:((List UInt8)→Option R)): Out→Option R
 |.ret [.v .str y0] []=>K y0
 |_=>none
def wqnj:RetSpec:=⟨[.any],[],[]⟩
def wqnk(k:Nat): Ctx:=⟨tyT,[],(.add 213 wqgz (wq27 k) .nil),[],[],[],@SH⟩
def wqfm(k:Nat){R:Type}(x0:(List UInt8))(x1:UInt8)(K:((List UInt8)→Option R)): Option R:=cond (cond (x0 == []) true ([x1] == [])) (K x0) (cond (cond ((@List.length UInt8 [x1]:Int) == 1) (decide (((([x1]).getD (Int.toNat 0) 0).toNat:Int)<128)) false) (wq33 k x0 ((([x1]).getD (Int.toNat 0) 0).toNat:Int) K) none)
def wq28(k:Nat){R:Type}(x0:(List UInt8))(x1:UInt8)(K:((List UInt8)→Option R)): Option R:=wqfm k x0 x1 K
theorem wqjr(k:Nat){R:Type}(x0:(List UInt8))(x1:UInt8)(K:((List UInt8)→Option R)): fnW (wqnk k) k Tryz.f178 wqnj [.v .str x0,.v .str [x1]] [] (wqbr K)=wq28 k x0 x1 K:=by
 kernel_rfl
def wq40(k:Nat){R:Type}: List PV→List (Nm×HObj)→(Out→Option R)→Option R
 |[.v .str x0,.v .str [x1]],[],K=>wq28 k x0 x1 (fun y0=>K (.ret [.v .str y0] []))
 |_,_,_=>none
theorem wqpy(k:Nat): DOK Tryz.prog 178 (wq40 k):=by
 intro ps hp R K r h
 have h:wq40 k ps hp K=some r:=h
 unfold wq40 at h
 split at h
 ·rw[←wqjr]at h
  exact fnW_ok ⟨tyT_ok,(wq4 (wqj6 k) CTab.nil_ok),fun _ _=>rfl⟩ mixed (by kernel_rfl) (by kernel_rfl) h fun o ho=>by unfold wqbr at ho;split at ho<;>first|exact ho|cases ho
 ·cases h
end Go.Proofs.YtbjkpddloieekaaGreatDoor.Pvm
end
noncomputable section
namespace Go.Proofs.YtbjkpddloieekaaGreatDoor.Pvm
open Go Go.Proofs
def wq12j:List LS:=[.any]
def wqb0{R:Type}(K:((List UInt8)→Bool→Option R)): Out→Option R
 |.ret [.v .str y0,.v .bool y1] []=>K y0 y1
 |_=>none
def wqjs:RetSpec:=⟨[.any,.any],[],[]⟩
def wqjt(k:Nat): Ctx:=⟨tyT,[(1003,⟨[(0,.any),(4,.any),(5,.any)],[]⟩)],(.add 177 wqz1 (wqaz k) (.add 178 wqlc (wq40 k) .nil)),[],[],[],@SH⟩
def wq6t(s0:(List UInt8))(s1 s2:Int): St:=⟨mkT [(0,.v .str s0),(4,.v kI s1),(5,.v kI s2)],mkH []⟩
def wqc9(k:Nat){R:Type}(I:Nat→St→Option R)(n:Nat)(s:St)(K:((List UInt8)→Bool→Option R)): Option R:=loopK (wqjt k) k Tryz.f122 wqjs 1003 [1,0,1,1,0,1,0] I n s (wqb0 K)
def wqca(k:Nat){R:Type}(E1003:((List UInt8)→Int→Int→Option R))(s0:(List UInt8))(s1 s2:Int)(K:((List UInt8)→Bool→Option R)): Option R:=cond (decide (s2<(s0.length:Int))) (cond ((!((decide (s2>0)) == true)) || (inb (@Go.IntKind.wrap Go.IntKind.i64 (s2-1)) (s0.length:Int))) (cond (cond (decide (s2>0)) (((s0.getD (@Go.IntKind.wrap Go.IntKind.i64 (s2-1)).toNat 0).toNat:Int) != 32) false) (E1003 s0 s1 (@Go.IntKind.wrap Go.IntKind.i64 (s2+1))) (cond (inb s2 (s0.length:Int)) (cond (((s0.getD s2.toNat 0).toNat:Int) == 35) (cond (bnd 0 s2 (s0.length:Int)) (wq28 k (cut s0 0 s2) 32 (fun y7=>K y7 true)) none) (cond (((s0.getD s2.toNat 0).toNat:Int) == 39) (wq8t k s0 s2 (fun y7 y8=>cond (!y8) (K [] false) (E1003 s0 s1 (@Go.IntKind.wrap Go.IntKind.i64 (y7+1))))) (cond (((s0.getD s2.toNat 0).toNat:Int) == 34) (wq8t k s0 s2 (fun y7 y8=>cond (!y8) (K [] false) (E1003 s0 s1 (@Go.IntKind.wrap Go.IntKind.i64 (y7+1))))) (E1003 s0 s1 (@Go.IntKind.wrap Go.IntKind.i64 (s2+1)))))) none)) none) (cond (bnd 0 s1 (s0.length:Int)) (wq28 k (cut s0 0 s1) 32 (fun y7=>K y7 true)) none)
theorem wqnl(k:Nat){R:Type}(I:Nat→St→Option R)(s0:(List UInt8))(s1 s2:Int)(K:((List UInt8)→Bool→Option R)): bodyK (wqjt k) k Tryz.f122 wqjs [1,0,1,1,0,1,0,0] I (wq6t s0 s1 s2) (wqb0 K)=wqca k (fun s0 s1 s2=>I 1003 (wq6t s0 s1 s2)) s0 s1 s2 K:=by kernel_rfl
def wqnm(k:Nat){R:Type}(E1003:((List UInt8)→Int→Int→Option R))(x0:(List UInt8))(K:((List UInt8)→Bool→Option R)): Option R:=E1003 x0 (x0.length:Int) 0
def wq1f(k:Nat){R:Type}: Nat→(List UInt8)→Int→Int→((List UInt8)→Bool→Option R)→Option R
 |0,_,_,_,_=>none
 |n+1,s0,s1,s2,K=>wqca k (fun s0 s1 s2=>wq1f k n s0 s1 s2 K) s0 s1 s2 K
theorem wqnn(k:Nat){R:Type}(I:Nat→St→Option R)(K:((List UInt8)→Bool→Option R))(n:Nat): ∀(s0:(List UInt8)) (s1 s2:Int),wqc9 k I n (wq6t s0 s1 s2) K=wq1f k n s0 s1 s2 K:=by
 induction n with
 |zero=>intros;rfl
 |succ n ih =>
  intro s0 s1 s2
  refine(?_:_=_).trans ((wqnl k (upI 1003 (fun s=>wqc9 k I n s K) I) s0 s1 s2 K).trans ?_)
  ·rfl
  ·simp only[wqy,ih]<;>rfl
def wqeg(k:Nat){R:Type}(x0:(List UInt8))(K:((List UInt8)→Bool→Option R)): Option R:=wqnm k (fun s0 s1 s2=>wq1f k k s0 s1 s2 K) x0 K
theorem wqz2(k:Nat){R:Type}(x0:(List UInt8))(K:((List UInt8)→Bool→Option R)): fnW (wqjt k) k Tryz.f122 wqjs [.v .str x0] [] (wqb0 K)=wqeg k x0 K:=by
 refine Eq.trans (b:=wqnm k (fun s0 s1 s2=>wqc9 k (fun _ _=>none) k (wq6t s0 s1 s2) K) x0 K) (by kernel_rfl) ?_
 simp only[wqnn]<;>rfl
def wqct(k:Nat){R:Type}: List PV→List (Nm×HObj)→(Out→Option R)→Option R
 |[.v .str x0],[],K=>wqeg k x0 (fun y0 y1=>K (.ret [.v .str y0,.v .bool y1] []))
 |_,_,_=>none
theorem wq18o(k:Nat): DOK Tryz.prog 122 (wqct k):=by
 intro ps hp R K r h
 have h:wqct k ps hp K=some r:=h
 unfold wqct at h
 split at h
 ·rw[←wqz2]at h
  exact fnW_ok ⟨tyT_ok,(wq4 (wq156 k) (wq4 (wqpy k) CTab.nil_ok)),fun _ _=>rfl⟩ mixed (by kernel_rfl) (by kernel_rfl) h fun o ho=>by unfold wqb0 at ho;split at ho<;>first|exact ho|cases ho
 ·cases h
end Go.Proofs.YtbjkpddloieekaaGreatDoor.Pvm
end
noncomputable section
namespace Go.Proofs.YtbjkpddloieekaaGreatDoor.Pvm
open Go Go.Proofs
def wq12k:List LS:=[.any]
def wqb1{R:Type}(K:(Bool→Option R)): Out→Option R
 |.ret [.v .bool y0] []=>K y0
 |_=>none
def wqju:RetSpec:=⟨[.any],[],[]⟩
def wqjv(k:Nat): Ctx:=⟨tyT,[(1002,⟨[(0,.any),(9,.any),(10,.any)],[]⟩)],(.add 122 wq12j (wqct k) (.add 123 wq1bc (wqt2 k) .nil)),[],[],[],@SH⟩
def wq6u(s0:(List UInt8))(s1 s2:Int): St:=⟨mkT [(0,.v .str s0),(9,.v kI s1),(10,.v kI s2)],mkH []⟩
def wqcb(k:Nat){R:Type}(I:Nat→St→Option R)(n:Nat)(s:St)(K:(Bool→Option R)): Option R:=loopK (wqjv k) k Tryz.f166 wqju 1002 [1,0,1,0] I n s (wqb1 K)
def wq7u(k:Nat){R:Type}(E1002:((List UInt8)→Int→Int→Option R))(s0:(List UInt8))(s1 s2:Int)(K:(Bool→Option R)): Option R:=cond (decide (s2<s1)) (cond (inb s2 (s0.length:Int)) (cond ((!((decide (((s0.getD s2.toNat 0).toNat:Int)<32)) == false)) || (inb s2 (s0.length:Int))) (cond (cond (decide (((s0.getD s2.toNat 0).toNat:Int)<32)) true (((s0.getD s2.toNat 0).toNat:Int) == 127)) (K false) (E1002 s0 s1 (@Go.IntKind.wrap Go.IntKind.i64 (s2+1)))) none) none) (wqeg k s0 (fun y7 y8=>cond (cond (cond (s0 == []) true (!y8)) true (!(y7 == s0))) (K false) (wqpx k 0 0 s0 (fun y9 y10 y11=>cond ((!((cond (y10 == 0) ((y9.length:Int) == 1) false) == true)) || (inb 0 (y9.length:Int))) (cond ((!((cond (cond (y10 == 0) ((y9.length:Int) == 1) false) ((y9.getD (Int.toNat 0) (Kd.zero (@Kd.pr kI (@Kd.pr kI (@Kd.pr kI (@Kd.pr Kd.str Kd.bool)))))).1 == 3) false) == true)) || (inb 0 (y9.length:Int))) (cond ((!((cond (cond (cond (y10 == 0) ((y9.length:Int) == 1) false) ((y9.getD (Int.toNat 0) (Kd.zero (@Kd.pr kI (@Kd.pr kI (@Kd.pr kI (@Kd.pr Kd.str Kd.bool)))))).1 == 3) false) (((((y9.getD (Int.toNat 0) (Kd.zero (@Kd.pr kI (@Kd.pr kI (@Kd.pr kI (@Kd.pr Kd.str Kd.bool)))))).2).2).2).1 == s0) false) == true)) || (inb 0 (y9.length:Int))) (K (cond (cond (cond (cond (y10 == 0) ((y9.length:Int) == 1) false) ((y9.getD (Int.toNat 0) (Kd.zero (@Kd.pr kI (@Kd.pr kI (@Kd.pr kI (@Kd.pr Kd.str Kd.bool)))))).1 == 3) false) (((((y9.getD (Int.toNat 0) (Kd.zero (@Kd.pr kI (@Kd.pr kI (@Kd.pr kI (@Kd.pr Kd.str Kd.bool)))))).2).2).2).1 == s0) false) (!((((y9.getD (Int.toNat 0) (Kd.zero (@Kd.pr kI (@Kd.pr kI (@Kd.pr kI (@Kd.pr Kd.str Kd.bool)))))).2).2).2).2) false)) none) none) none))))
theorem wqno(k:Nat){R:Type}(I:Nat→St→Option R)(s0:(List UInt8))(s1 s2:Int)(K:(Bool→Option R)): bodyK (wqjv k) k Tryz.f166 wqju [1,0,1,0,0] I (wq6u s0 s1 s2) (wqb1 K)=wq7u k (fun s0 s1 s2=>I 1002 (wq6u s0 s1 s2)) s0 s1 s2 K:=by kernel_rfl
def wqnp(k:Nat){R:Type}(E1002:((List UInt8)→Int→Int→Option R))(x0:(List UInt8))(K:(Bool→Option R)): Option R:=E1002 x0 (x0.length:Int) 0
def wq39(k:Nat){R:Type}: Nat→(List UInt8)→Int→Int→(Bool→Option R)→Option R
 |0,_,_,_,_=>none
 |n+1,s0,s1,s2,K=>wq7u k (fun s0 s1 s2=>wq39 k n s0 s1 s2 K) s0 s1 s2 K
theorem wqnq(k:Nat){R:Type}(I:Nat→St→Option R)(K:(Bool→Option R))(n:Nat): ∀(s0:(List UInt8)) (s1 s2:Int),wqcb k I n (wq6u s0 s1 s2) K=wq39 k n s0 s1 s2 K:=by
 induction n with
 |zero=>intros;rfl
 |succ n ih =>
  intro s0 s1 s2
  refine(?_:_=_).trans ((wqno k (upI 1002 (fun s=>wqcb k I n s K) I) s0 s1 s2 K).trans ?_)
  ·rfl
  ·simp only[wqy,ih]<;>rfl
def wqeh(k:Nat){R:Type}(x0:(List UInt8))(K:(Bool→Option R)): Option R:=wqnp k (fun s0 s1 s2=>wq39 k k s0 s1 s2 K) x0 K
theorem wqz3(k:Nat){R:Type}(x0:(List UInt8))(K:(Bool→Option R)): fnW (wqjv k) k Tryz.f166 wqju [.v .str x0] [] (wqb1 K)=wqeh k x0 K:=by
 refine Eq.trans (b:=wqnp k (fun s0 s1 s2=>wqcb k (fun _ _=>none) k (wq6u s0 s1 s2) K) x0 K) (by kernel_rfl) ?_
 simp only[wqnq]<;>rfl
def wqcu(k:Nat){R:Type}: List PV→List (Nm×HObj)→(Out→Option R)→Option R
 |[.v .str x0],[],K=>wqeh k x0 (fun y0=>K (.ret [.v .bool y0] []))
 |_,_,_=>none
theorem wq18p(k:Nat): DOK Tryz.prog 166 (wqcu k):=by
 intro ps hp R K r h
 have h:wqcu k ps hp K=some r:=h
 unfold wqcu at h
 split at h
 ·rw[←wqz3]at h
  exact fnW_ok ⟨tyT_ok,(wq4 (wq18o k) (CTab.add_ok (fun h=>wq1f6 k h) CTab.nil_ok)),fun _ _=>rfl⟩ mixed (by kernel_rfl) (by kernel_rfl) h fun o ho=>by unfold wqb1 at ho;split at ho<;>first|exact ho|cases ho
 ·cases h
end Go.Proofs.YtbjkpddloieekaaGreatDoor.Pvm
end
end
