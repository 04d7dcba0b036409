/- For every number i the Go function ConfigForms of turncocklaw17 returns true. -/
import Derived.LoopN
import Derived.Scope
import Derived.Recover
import Derived.WalkKit
import Derived.ProofKit
import Derived.OpenShut
import Derived.ShutString
import Derived.ChangeOld
import Derived.Below
import Derived.SizedLaws
import Derived.ChangeArms
import Derived.Test.YtabkhphoacmcdaaGreatDoorProg
import Derived.KernelRfl
import Derived.Lib.BytesEntry
import Derived.Test.YtabkhphoacmcdaaGreatDoorConfigFormsM0
import Derived.Test.YtabkhphoacmcdaaGreatDoorConfigFormsM1
set_option linter.unusedVariables false
set_option linter.unusedSimpArgs false
set_option linter.unusedSectionVars false
noncomputable section
namespace Go.Proofs.YtabkhphoacmcdaaGreatDoor.Pvm
open Go
variable {P:Program}
section
variable {h:Heap} {G:Gh} {w:World}
theorem wqkr:∀(l:List (Nm×LS)) (na:NA) {na':NA},normObjs h na l=some na'→Found h na→Found h na'∧na.le na'
 |[],na,na',he,F=>by cases he;exact⟨F,.refl na⟩
 |(n,s)::r,na,na',he,F=>by
  rw[normObjs]at he
  split at he
  ·next q na1 h1 =>
   obtain⟨F1,L1⟩:=wqli s _ na h1 F
   obtain⟨F2,L2⟩:=wqkr r na1 he F1
   exact⟨F2,L1.trans L2⟩
  ·cases he
theorem wqol{t:Nat→PV}: ∀(l:List (Nat×LS)) (na:NA) {ps:List (Nat×PV)} {na':NA},normSlots h t na l=some (ps,na')→Found h na→Found h na'∧na.le na'
 |[],na,ps,na',he,F=>by cases he;exact⟨F,.refl na⟩
 |(i,s)::r,na,ps,na',he,F=>by
  rw[normSlots]at he
  split at he
  ·next q na1 h1 =>
   split at he
   ·next qs na2 h2 =>
    cases he
    obtain⟨F1,L1⟩:=wqli s _ na h1 F
    obtain⟨F2,L2⟩:=wqol r na1 h2 F1
    exact⟨F2,L1.trans L2⟩
   ·cases he
  ·cases he
section
variable {nf:NA} (S:Sub h G w nf)
include S
theorem Sub.normObjs:∀(l:List (Nm×LS)) (na:NA) {na':NA},normObjs h na l=some na'→na'.le nf→Found h na →
 ∀ x∈na'.hp,x∈na.hp∨RO (mkH nf.hp) (subG G nf (subX h G nf)) w x.1 x.2
 |[],na,na',he,L,F=>by cases he;exact fun x hx => .inl hx
 |(n,s)::r,na,na',he,L,F=>by
  rw[Pvm.normObjs]at he
  split at he
  ·next q na1 h1 =>
   obtain⟨F1,L1⟩:=wqli s _ na h1 F
   obtain⟨F2,L2⟩:=wqkr r na1 he F1
   have hr:=Sub.normObjs r na1 he L F1
   have hs:∀ x∈na1.hp,x∈na.hp∨RO (mkH nf.hp) (subG G nf (subX h G nf)) w x.1 x.2:=by
    by_cases hv:∃ t cs,h n=some (.var t cs)
    ·have hp:RV h G w (.ptr n 0) (.pointer (some ⟨G.bk n,0,none⟩)):=⟨rfl,hv⟩
     exact(Sub.norm S s _ na h1 (L2.trans L) F hp).2
    ·have:na1=na:=by
      cases s with
      |obj nm cs =>
       simp only[normP]at h1
       split at h1
       ·cases h1;rfl
       ·split at h1
        ·next t ps hn=>exact absurd ⟨t,ps,hn⟩ hv
        ·cases h1
      |any=>simp[normP,pureP]at h1
      |sl K =>
       have e0:Pvm.leaf h (.sl K) (.ptr n 0)=none:=rfl
       simp[normP,e0]at h1
      |own nm e K=>simp[normP]at h1
      |nps nm o0 =>
       simp only[normP]at h1
       split at h1
       ·cases hb:Nat.beq 0 o0 with
        |false=>rw[hb]at h1;cases h1
        |true=>rw[hb,cond_true]at h1;simp at h1;exact h1.2.symm
       ·cases h1
      |mpo nm ag V=>simp[normP]at h1
      |ag cs=>simp[normP]at h1
      |clo cs=>simp[normP]at h1
      |bor K=>simp[normP]at h1
      |lend K =>
       simp only[normP]at h1
       split at h1
       ·next t cs hn=>exact absurd ⟨t,cs,hn⟩ hv
       ·cases h1
     rw[this];exact fun x hx => .inl hx
   intro x hx
   rcases hr x hx with hx|hx
   ·exact hs x hx
   ·exact .inr hx
  ·cases he
theorem Sub.normSlots{t:Nat→PV}{tm:Nat→Value}(ht:∀ i,RT h G w tm (t i) (tm i)): ∀(l:List (Nat×LS)) (na:NA) {ps:List (Nat×PV)} {na':NA},normSlots h t na l=some (ps,na')→na'.le nf→Found h na →
 (∀ i p,(i,p)∈ps→RV (mkH nf.hp) (subG G nf (subX h G nf)) w p (tm i))∧∀ x∈na'.hp,x∈na.hp∨RO (mkH nf.hp) (subG G nf (subX h G nf)) w x.1 x.2
 |[],na,ps,na',he,L,F=>by cases he;exact⟨fun i p hp=>(by cases hp),fun x hx => .inl hx⟩
 |(i,s)::r,na,ps,na',he,L,F=>by
  rw[Pvm.normSlots]at he
  split at he
  ·next q na1 h1 =>
   split at he
   ·next qs na2 h2 =>
    cases he
    obtain⟨F1,L1⟩:=wqli s _ na h1 F
    obtain⟨F2,L2⟩:=wqol r na1 h2 F1
    have hv:RV h G w (t i) (tm i):=by
     have:=ht i
     cases hti:t i with
     |opt g c p =>
      exfalso
      rw[hti]at h1
      have e0:∀ K,Pvm.leaf h (.sl K) (.opt g c p)=none:=fun K=>rfl
      cases s<;>simp[normP,pureP,e0]at h1
     |_=>rw[hti]at this;exact this
    obtain⟨a1,a2⟩:=Sub.norm S s (t i) na h1 (L2.trans L) F hv
    obtain⟨b1,b2⟩:=Sub.normSlots ht r na1 h2 L F1
    refine⟨fun j p hp => ?_,fun x hx => ?_⟩
    ·rcases List.mem_cons.1 hp with e|hp
     ·cases e;exact a1
     ·exact b1 j p hp
    ·rcases b2 x hx with hx|hx
     ·exact a2 x hx
     ·exact .inr hx
   ·cases he
  ·cases he
end
end
section
variable {w0:World} {fr:Nat→Prop} {X0:Org} {n:Nat} {ds:List Deferred} {st:St} {G:Gh} {a:Act} {w:World}
theorem wq1l9{nm:List (Nm×Option Nm)}: ∀ {l:List Nm},stay nm l=true→∀ n∈l,look nm n=some (some n)
 |[],_,n,hn=>by cases hn
 |m::r,h,n,hn=>by
  simp only[stay,Bool.and_eq_true]at h
  rcases List.mem_cons.1 hn with rfl|hn
  ·have h1:=h.1
   rw[wqsv]at h1
   split at h1
   ·next m hm=>rw[beqN.1 h1]at hm;exact hm
   ·cases h1
  ·exact wq1l9 h.2 n hn
theorem wq1ob(R:Rel w0 fr X0 n ds st G a w){na:NA}(S:Sub st.h G w na){X:Nat→Prop}{pv:List Nm}(hst:stay na.nm pv=true)(hpv:∀ x∈X0.vs,x.1∈pv):
 ∀ x∈X0.vs,(∃ cs,mkH na.hp x.1=some (.var x.2.1 cs))∧(subG G na X).bk x.1=x.2.2:=by
 intro x hx
 obtain⟨⟨cs,h1⟩,h2⟩:=R.org x hx
 have h3:=wq1l9 hst _ (hpv x hx)
 obtain⟨o,ho⟩:=wqjh (S.fi.k4 _ (wq9j (wq42 h3)))
 have ho:=wq60 S.fi.k3 ho
 refine⟨?_,by simp only[subG,h3];exact h2⟩
 rcases S.hhp _ _ ho _ h3 with⟨t',cs1,cs2,rfl,hv⟩|⟨e,K,xs,rfl,hv⟩|⟨ag,V,es,rfl,hv⟩
 ·rw[h1]at hv;cases hv;exact⟨cs2,ho⟩
 ·rw[h1]at hv;cases hv
 ·rw[h1]at hv;cases hv
theorem wq1oc(R:Rel w0 fr X0 n ds st G a w)(hf:∀ b,fr b→b<w0.heap.size){pv:List Nm}(hpv:∀ x∈X0.vs,x.1∈pv){c:CutSpec}{s:St}(he:norm pv c st=some s): ∃ G',Rel w0 fr X0 n ds s G' a w:=by
 unfold norm at he
 split at he
 ·next na1 h1 =>
  split at he
  ·next l na h2 =>
   cases hfi:(fine na&&stay na.nm pv)with
   |false=>rw[hfi]at he;cases he
   |true =>
    rw[hfi]at he
    cases he
    simp only[Bool.and_eq_true]at hfi
    obtain⟨hfi,hst⟩:=hfi
    have F0:Found st.h ⟨[],[],[],[]⟩:=⟨fun k o hk=>(by cases hk),fun m hm=>(by cases hm)⟩
    obtain⟨F1,L1⟩:=wqkr _ _ h1 F0
    obtain⟨F2,L2⟩:=wqol _ _ h2 F1
    have S:Sub st.h G w na:=⟨wq17f hfi,F2,R.obj,R.toDis hf⟩
    have hO:=Sub.normObjs S _ _ h1 L2 F0
    obtain⟨hS,hO2⟩:=Sub.normSlots S R.tm _ _ h2 (.refl na) F1
    have hobj:∀ k o,mkH na.hp k=some o→RO (mkH na.hp) (subG G na (subX st.h G na)) w k o:=fun k o hk=>by
     rcases hO2 (k,o) (wq42 hk)with h|h
     ·rcases hO _ h with h|h
      ·cases h
      ·exact h
     ·exact h
    let G1:=subG G na (subX st.h G na)
    let G2:Gh:={ G1 with X:=G.X }
    have bk:∀ k,blkOf (mkH na.hp) G2 k=blkOf (mkH na.hp) G1 k:=fun k=>rfl
    have ok:∀ b,okB (mkH na.hp) G1 b→okB (mkH na.hp) G2 b:=fun b hb=>⟨hb.1,fun hx=>hb.2 (.inl hx)⟩
    have C:Carry (mkH na.hp) G1 w (mkH na.hp) G2 w .row :=
     ⟨fun b ho _=>⟨ok b ho,rfl⟩,fun n t cs hn=>⟨⟨cs,hn⟩,rfl⟩,fun n ag V es hn=>⟨⟨es,hn⟩,rfl⟩,S.okX,fun n e K xs hn=>⟨⟨rfl,e,K,xs,hn⟩,fun m hm=>by cases hm;exact⟨e,xs,hn,Nat.le_refl _⟩⟩⟩
    have rv:∀ p v,RV (mkH na.hp) G1 w p v→RV (mkH na.hp) G2 w p v:=fun p v hp=>by
     have:=RV.carry C p v hp
     rwa [PV.mapR_row]at this
    refine⟨G2,fun i => ?_,R.size,fun k o hk => ?_,fun k m b h1 h2=>S.toDis.inj k m b h1 h2,fun k b hb => ?_,R.xfr,R.xeq,fun x hx => ?_,R.ext,R.grow,R.os,R.tape,R.out,R.defers⟩
    ·show RT (mkH na.hp) G2 w _ (mkT l i) _
     unfold mkT
     cases hl:look l i with
     |none=>exact wqoi (show RV _ _ _ .un _ from trivial)
     |some p=>exact wqoi (rv _ _ (hS i p (wq42 hl)))
    ·have:=RO.carry C hk (hobj k o hk) (fun b _=>rfl) rfl rfl
     rwa [wqoj]at this
    ·obtain⟨m,_,hm⟩:=S.blk k b hb
     exact R.apart m b hm
    ·exact wq1ob R S hst hpv x hx
  ·cases he
 ·cases he
def Post{R0:Type}(w0:World)(fr:Nat→Prop)(X0:Org)(n:Nat)(ds:List Deferred)(ks:List Nat)(K:Ex→St→Option R0)(r:R0): Exit→Act→World→Prop
 |.normal,a,w=>∃ st G,K .normal st=some r∧Rel w0 fr X0 n ds st G a w
 |.exit i,a,w=>∃ st G,K (.exit i) st=some r∧Rel w0 fr X0 n ds st G a w
 |.ret,a,w=>∃ st G,K .ret st=some r∧Rel w0 fr X0 n ds st G a w
 |.panic ch,a,w=>∃ st G a0 p v,ch=[{ v,recovered:=false }]∧K (.panic p) st=some r∧Rel w0 fr X0 n ds st G a0 w∧RV st.h G w p v∧a.defers=a0.defers∧a.tmps.size=n∧∀ i∈ks,tmOf a i=tmOf a0 i
 |_,_,_=>False
theorem Post.mono{R1 R2:Type}{ks:List Nat}{K:Ex→St→Option R1}{r:R1}{K':Ex→St→Option R2}{r':R2}(h:∀ e st,K e st=some r→K' e st=some r'): ∀ e a w,Post w0 fr X0 n ds ks K r e a w→Post w0 fr X0 n ds ks K' r' e a w
 |.normal,a,w,⟨st,G,h1,h2⟩=>⟨st,G,h _ _ h1,h2⟩
 |.exit i,a,w,⟨st,G,h1,h2⟩=>⟨st,G,h _ _ h1,h2⟩
 |.ret,a,w,⟨st,G,h1,h2⟩=>⟨st,G,h _ _ h1,h2⟩
 |.panic ch,a,w,⟨st,G,a0,p,v,h1,h2,h3⟩=>⟨st,G,a0,p,v,h1,h _ _ h2,h3⟩
theorem Post.put{R0:Type}{ks:List Nat}{K:Ex→St→Option R0}{r:R0}{d:Option Nat}{v:Value}{c:List PanicEntry}{a:Act}{w:World}(hd:∀ i,d=some i→i ∉ ks)(h:Post w0 fr X0 n ds ks K r (.panic c) (a.put d v) w): Post w0 fr X0 n ds ks K r (.panic c) a w:=by
 obtain⟨st,G,a0,p,u,h1,h2,h3,h4,h5,h6,h7⟩:=h
 cases d with
 |none=>exact⟨st,G,a0,p,u,h1,h2,h3,h4,h5,h6,h7⟩
 |some d =>
  refine⟨st,G,a0,p,u,h1,h2,h3,h4,h5,by simpa [Act.put]using h6,fun i hi => ?_⟩
  rw[←h7 i hi]
  have hne:i≠d:=fun e=>hd d rfl (e ▸ hi)
  unfold tmOf Act.put
  simp[Array.getElem?_setIfInBounds_ne (Ne.symm hne)]
def opsOk(n:Nat): List Oper→Bool
 |[]=>true
 |o::r=>(match o.dst with|some d=>Nat.blt d n|none=>true)&&opsOk n r
def codeOk(n:Nat): Code→Bool
 |.region _ ops _=>opsOk n ops.toList
 |.seq a b=>codeOk n a&&codeOk n b
 |.cond _ a b=>codeOk n a&&codeOk n b
 |.block _ a=>codeOk n a
 |.loop a=>codeOk n a
 |.scope a=>codeOk n a
 |_=>true
theorem wq18c:∀ {l:List Oper},opsOk n l=true→∀ o∈l,∀ i,o.dst=some i→i<n
 |[],_,o,ho=>by cases ho
 |o'::r,h,o,ho=>by
  simp only[opsOk,Bool.and_eq_true]at h
  rcases List.mem_cons.1 ho with rfl|ho
  ·intro i hi
   rw[hi]at h
   exact Nat.le_of_ble_eq_true h.1
  ·exact wq18c h.2 o ho
theorem wq1q9 {cx:Ctx} (X:cx.Ok P) (hm:P.follows .mixedOrders=true) {R0:Type} {K:Ex→St→Option R0} {r:R0} {id:Nat} {ops:Array Oper} {draw:Bool} (hf:∀ b,fr b→b<w0.heap.size) (hd:opsOk n ops.toList=true)
 (R:Rel w0 fr X0 n ds st G a w) (he:regK cx id ops draw st K=some r):(Code.region id ops draw).wp P (Post w0 fr X0 n ds cx.keep K r) a w:=by
 have hp:∀ p v st' G' a' w',K (exOf (some p)) st'=some r→Rel w0 fr X0 n ds st' G' a' w'→RV st'.h G' w' p v→Post w0 fr X0 n ds cx.keep K r (.panic [{ v,recovered:=false }]) a' w' :=
  fun p v st' G' a' w' h1 h2 h3=>⟨st',G',a',p,v,rfl,h1,h2,h3,rfl,h2.size,fun _ _=>rfl⟩
 have hQ:∀ st' G' a' w',K (exOf none) st'=some r→Rel w0 fr X0 n ds st' G' a' w'→Post w0 fr X0 n ds cx.keep K r .normal a' w':=fun st' G' a' w' h1 h2=>⟨st',G',h1,h2⟩
 unfold regK at he
 cases draw with
 |false =>
  exact wp_region_list (wq1q8 X hf hQ hp _ R (wq18c hd) he)
 |true =>
  rw[cond_true]at he
  split at he
  ·next l hl =>
   cases hs:(noSel ops&&planOk cx.keep ops l ops.size 0 0)with
   |false=>rw[hs]at he;cases he
   |true =>
    rw[hs,cond_true]at he
    simp only[Bool.and_eq_true]at hs
    have S:Still w { w with drawn:=w.drawn+1 }:=⟨fun _ _=>rfl,Nat.le_refl _,rfl,rfl,rfl⟩
    have R':=R.loud0 hf (Loud.still R.obj (R.toDis hf) S)
    have hcl:ListedClosed .any ops (Array.replicate ops.size false):=by
     intro j oj hj hl
     have hjl:=(Array.getElem?_eq_some_iff.1 hj).1
     simp[Array.getD_eq_getD_getElem?,hjl]at hl
    have:=(wq12n X hf hs.1 (fun o ho=>wq18c hd o (by simpa using ho)) hQ hp (fun d v c a w h1 h2=>Post.put h1 h2) l ops.size 0 [] (fun _=>False) 0 _ hs.2 (Tells.start _) hcl he R' (fun b hb=>hb.elim)).1 rfl
    exact wq1m0 hm this
  ·cases he
theorem wqez{cx:Ctx}(X:cx.Ok P)(hpv:∀ x∈X0.vs,x.1∈cx.pv)(hm:P.follows .mixedOrders=true)(k:Nat)(hf:∀ b,fr b→b<w0.heap.size){R0:Type}{r:R0}:
 ∀(c:Code) {K:Ex→St→Option R0} {st:St} {G:Gh} {a:Act} {w:World},codeOk n c=true→execK cx k c st K=some r→Rel w0 fr X0 n ds st G a w→c.wp P (Post w0 fr X0 n ds cx.keep K r) a w
 |.skip,K,st,G,a,w,_,he,R=>wp_skip ⟨st,G,he,R⟩
 |.region id ops draw,K,st,G,a,w,hd,he,R=>by
  rw[execK]at he
  unfold normK at he
  split at he
  ·exact wq1q9 X hm hf hd R he
  ·split at he
   ·next s hs =>
    obtain⟨G',R'⟩:=wq1oc R hf hpv hs
    exact wq1q9 X hm hf hd R' he
   ·cases he
 |.seq x y,K,st,G,a,w,hd,he,R=>by
  rw[execK]at he
  simp only[codeOk,Bool.and_eq_true]at hd
  refine wp_seq (wp_mono (wqez X hpv hm k hf x hd.1 he R) fun e a w h => ?_)
  cases e with
  |normal=>obtain⟨st,G,h1,h2⟩:=h;exact wqez X hpv hm k hf y hd.2 h1 h2
  |exit i=>exact h
  |ret=>exact h
  |panic c=>exact h
  |goto l=>exact h
  |outgrown=>exact h
 |.cond c x y,K,st,G,a,w,hd,he,R=>by
  unfold execK at he
  simp only[codeOk,Bool.and_eq_true]at hd
  split at he
  ·next s =>
   have ht:=R.tm s
   split at he
   ·next b hb =>
    rw[hb]at ht
    have ht:tmOf a s = .bool b:=by simpa [RT,RV,RD]using ht
    refine wp_cond (t:=b) ht ?_
    cases b with
    |true=>exact wqez X hpv hm k hf x hd.1 he (R.know hf ht)
    |false=>exact wqez X hpv hm k hf y hd.2 he (R.know hf ht)
   ·next b hb =>
    rw[hb]at ht
    have ht:tmOf a s = .bool b:=ht
    refine wp_cond (t:=b) ht ?_
    cases b with
    |true=>exact wqez X hpv hm k hf x hd.1 he R
    |false=>exact wqez X hpv hm k hf y hd.2 he R
   ·cases he
  ·next v =>
   split at he
   ·next b =>
    refine wp_cond (t:=b) rfl ?_
    cases b with
    |true=>exact wqez X hpv hm k hf x hd.1 he R
    |false=>exact wqez X hpv hm k hf y hd.2 he R
   ·cases he
  ·cases he
 |.block id b,K,st,G,a,w,hd,he,R=>by
  rw[execK]at he
  refine wp_block (wp_mono (wqez X hpv hm k hf b hd he R) fun e a w h => ?_)
  cases e with
  |exit i =>
   obtain⟨st,G,h1,h2⟩:=h
   unfold blockK at h1
   simp only at h1
   show if i=id then _ else _
   cases hb:Nat.beq i id with
   |true =>
    rw[if_pos (beqN.1 hb)]
    rw[hb]at h1
    exact⟨st,G,h1,h2⟩
   |false =>
    rw[if_neg (fun e=>by rw[beqN.2 e]at hb;cases hb)]
    rw[hb]at h1
    exact⟨st,G,h1,h2⟩
  |normal=>exact h
  |ret=>exact h
  |panic c=>exact h
  |goto l=>exact h
  |outgrown=>exact h
 |.loop b,K,st,G,a,w,hd,he,R=>by
  rw[execK]at he
  have key:∀(m:Nat) {st:St} {G:Gh} {a:Act} {w:World},iter cx.pv (look cx.cuts (1000+wqq9 b)) (execK cx k b) m st K=some r→Rel w0 fr X0 n ds st G a w→Code.rounds P b (Post w0 fr X0 n ds cx.keep K r) m a w:=by
   intro m
   induction m with
   |zero=>intro st G a w he _;cases he
   |succ m ih =>
    intro st G a w he R
    rw[iter]at he
    rw[rounds_succ]
    refine wp_mono (wqez X hpv hm k hf b hd he R) fun e a w h => ?_
    cases e with
    |normal =>
     obtain⟨st,G,h1,h2⟩:=h
     unfold stepK at h1
     simp only at h1
     unfold normK at h1
     split at h1
     ·exact ih h1 h2
     ·split at h1
      ·next s hs =>
       obtain⟨G',R'⟩:=wq1oc h2 hf hpv hs
       exact ih h1 R'
      ·cases h1
    |exit i=>exact h
    |ret=>exact h
    |panic c=>exact h
    |goto l=>exact h
    |outgrown=>exact h
  unfold normK at he
  split at he
  ·exact wp_loop_rounds k (key k he R)
  ·split at he
   ·next s hs =>
    obtain⟨G',R'⟩:=wq1oc R hf hpv hs
    exact wp_loop_rounds k (key k he R')
   ·cases he
 |.exit id,K,st,G,a,w,_,he,R=>wp_exit ⟨st,G,he,R⟩
 |.scope b,K,st,G,a,w,hd,he,R=>by
  rw[execK]at he
  refine wp_scope_straight (wp_mono (wqez X hpv hm k hf b hd he R) fun e a w h => ?_)
  cases e<;>exact h
 |.label l,K,st,G,a,w,_,he,R=>wp_label ⟨st,G,he,R⟩
 |.ret,K,st,G,a,w,_,he,R=>wp_ret ⟨st,G,he,R⟩
 |.rangeFunc ..,K,st,G,a,w,_,he,R=>by simp[execK]at he
 |.goto l,K,st,G,a,w,_,he,R=>by simp[execK]at he
 |.refuse s,K,st,G,a,w,_,he,R=>by simp[execK]at he
end
end Go.Proofs.YtabkhphoacmcdaaGreatDoor.Pvm
namespace Go.Proofs.YtabkhphoacmcdaaGreatDoor.Pvm
open Go
structure RetSpec where
 res:List LS
 objs:List (Nm×LS)
 pan:List (Nm×LS)
def resP(ty:TypeId→Option TI)(st:St): List ResultVar→Option (List PV)
 |[]=>some []
 |.tmp t::r=>match resP ty st r with
  |some l=>some (useO [] (st.t t)::l)
  |none=>none
 |.cell a t::r=>match ty t with
  |some ti=>match evLoad ti st.h (useO [] (st.t a))with
   |some ev=>match resP ty st r with
    |some l=>some (ev.val::l)
    |none=>none
   |none=>none
  |none=>none
def endK(cx:Ctx){R:Type}(objs:List (Nm×LS))(res:List LS)(ps:List PV)(st:St)(K:List PV→List (Nm×HObj)→Option R): Option R :=
 match normObjs st.h ⟨[],[],[],[]⟩ objs with
 |none=>none
 |some na1=>match normPs st.h na1 res ps with
  |none=>none
  |some (qs,na)=>bif fine na&&stay na.nm cx.pv then K qs na.hp else none
def retK(cx:Ctx){R:Type}(sp:RetSpec)(rs:List ResultVar)(st:St)(K:Out→Option R): Option R :=
 match resP cx.ty st rs with
 |none=>none
 |some ps=>endK cx sp.objs sp.res ps st fun qs hs=>K (.ret qs hs)
def panK(cx:Ctx){R:Type}(sp:RetSpec)(p:PV)(st:St)(K:Out→Option R): Option R :=
 endK cx sp.pan [.any] [p] st fun qs hs=>match qs with
  |[q]=>K (.pan q hs)
  |_=>none
def varsIn(pv:List Nm): List (Nm×HObj)→Bool
 |[]=>true
 |(n,.var _ _)::r=>isIn n pv&&varsIn pv r
 |(_,.mp _ _ _)::_=>false
 |_::r=>varsIn pv r
def argsT(args:List PV): Nat→PV:=fun i=>args.getD i .un
def outK(cx:Ctx){R:Type}(sp:RetSpec)(rs:List ResultVar)(K:Out→Option R): Ex→St→Option R:=fun e st=>match e with
 |.normal=>retK cx sp rs st K
 |.ret=>retK cx sp rs st K
 |.panic p=>panK cx sp p st K
 |.exit _=>none
def fnK(cx:Ctx)(k:Nat){R:Type}(c:Code)(n:Nat)(rs:List ResultVar)(sp:RetSpec)(args:List PV)(hp:List (Nm×HObj))(K:Out→Option R): Option R :=
 bif varsIn cx.pv hp&&Nat.ble args.length n then execK cx k c ⟨argsT args,mkH hp⟩ (outK cx sp rs K)else none
section
variable {P:Program} {w0:World} {fr:Nat→Prop} {X0:Org} {n:Nat} {ds:List Deferred} {st:St} {G:Gh} {a:Act} {w:World}
def resF(tmps:Array Value): ResultVar→Sem Value
 |.tmp t=>pure (tmps.getD t undef)
 |.cell x t=>do loadVar t (←asAddr (tmps.getD x undef))
theorem wq1od(fn:Func)(tmps:Array Value): results fn tmps=(fn.results.mapM (resF tmps) >>= fun vs=>pure (if h:vs.size=1 then vs[0]else .tuple vs)):=by
 unfold results
 have:(fun r:ResultVar=>match r with
  |.tmp t=>(pure (tmps.getD t undef):Sem Value)
  |.cell a t=>do loadVar t (←asAddr (tmps.getD a undef)))=resF tmps:=by
  funext r;cases r<;>rfl
 rw[←this]
 rfl
theorem wq1d7{cx:Ctx}(X:cx.Ok P)(R:Rel w0 fr X0 n ds st G a w): ∀(rs:List ResultVar) {ps:List PV},resP cx.ty st rs=some ps →
 ∃ vs:List Value,RVs st.h G w ps vs∧(rs.mapM (resF a.tmps)).run P w = .ok vs w
 |[],ps,he=>by cases he;exact⟨[],rfl,rfl⟩
 |.tmp t::r,ps,he=>by
  rw[resP]at he
  split at he
  ·next l hl =>
   cases he
   obtain⟨vs,h1,h2⟩:=wq1d7 X R r hl
   refine⟨tmOf a t::vs,⟨_,_,rfl,R.use noTags (.tmp t),h1⟩,?_⟩
   rw[List.mapM_cons]
   simp only[Sem.run_bind,resF,Sem.run_pure,Result.andThen_ok]
   rw[h2]
   rfl
  ·cases he
 |.cell x t::r,ps,he=>by
  rw[resP]at he
  split at he
  ·next ti hti =>
   split at he
   ·next ev hev =>
    split at he
    ·next l hl =>
     cases he
     obtain⟨vs,h1,h2⟩:=wq1d7 X R r hl
     obtain⟨u,e1,e2,_⟩:=wq1dt (P:=P) X.ty hti R.obj hev (R.use noTags (.tmp x))
     refine⟨u::vs,⟨_,_,rfl,e2,h1⟩,?_⟩
     have hld:(resF a.tmps (.cell x t)).run P w = .ok u w:=by
      have e3:(Instr.loadAt t (a.tmps.getD x undef)).run P w = .ok u w:=e1
      unfold Instr.loadAt Instr.sureAddr at e3
      show(do loadVar t (←asAddr (a.tmps.getD x undef))).run P w=_
      split at e3
      ·next A hA =>
       rw[hA]
       exact e3
      ·simp[stuck,Sem.run]at e3
     rw[List.mapM_cons,Sem.run_bind,hld,Result.andThen_ok,Sem.run_bind,h2]
     rfl
    ·cases he
   ·cases he
  ·cases he
theorem wqv2{fn:Func}{rs:List ResultVar}(hrs:fn.results.toList=rs){tmps:Array Value}{vs:List Value}(h:(rs.mapM (resF tmps)).run P w = .ok vs w):
 (results fn tmps).run P w = .ok (if h:vs.toArray.size=1 then vs.toArray[0]else .tuple vs.toArray) w:=by
 rw[wq1od,Sem.run_bind,Array.mapM_eq_mapM_toList,Sem.run_map,hrs,h]
 rfl
theorem tup_ok{ps:List PV}{vs:List Value}{h:Heap}(hr:RVs h G w ps vs): RV h G w (tupOf ps) (if h:vs.toArray.size=1 then vs.toArray[0]else .tuple vs.toArray):=by
 cases ps with
 |nil=>cases hr;exact⟨[],rfl,rfl⟩
 |cons p r =>
  obtain⟨v,l,rfl,hv,hl⟩:=hr
  cases r with
  |nil=>cases hl;exact hv
  |cons q r =>
   obtain⟨u,l',rfl,hu,hl'⟩:=hl
   have:¬ ((v::u::l').toArray.size=1):=by simp
   rw[dif_neg this]
   exact⟨_,rfl,v,_,rfl,hv,u,_,rfl,hu,hl'⟩
def frOf(hp:List (Nm×HObj))(G:Gh)(w:World)(b:Nat): Prop:=b<w.heap.size∧freeB (mkH hp) G b
def varsL(G:Gh): List (Nm×HObj)→List (Nm×TypeId×Nat)
 |[]=>[]
 |(n,.var t _)::r=>(n,t,G.bk n)::varsL G r
 |_::r=>varsL G r
def orgOf(hp:List (Nm×HObj))(G:Gh): Org:=⟨G.X,(varsL G hp).filter fun x=>match look hp x.1 with|some (.var t _)=>Nat.beq t x.2.1|_=>false⟩
theorem wq100:∀ {hp:List (Nm×HObj)} {x},x∈varsL G hp→x.2.2=G.bk x.1
 |[],x,h=>by cases h
 |(n,.var t cs)::r,x,h=>by
  rw[varsL]at h
  rcases List.mem_cons.1 h with rfl|h
  ·rfl
  ·exact wq100 h
 |(n,.row e K xs)::r,x,h=>wq100 (hp:=r) (by simpa [varsL]using h)
 |(n,.mp ag V es)::r,x,h=>wq100 (hp:=r) (by simpa [varsL]using h)
theorem wq17h:∀ {hp:List (Nm×HObj)} {n:Nm} {t:TypeId} {cs:List PV},(n,.var t cs)∈hp→(n,t,G.bk n)∈varsL G hp
 |(m,.var t' cs')::r,n,t,cs,h=>by
  rw[varsL]
  rcases List.mem_cons.1 h with e|h
  ·cases e;exact List.mem_cons_self
  ·exact List.mem_cons_of_mem _ (wq17h h)
 |(m,.row e K xs)::r,n,t,cs,h=>by
  rcases List.mem_cons.1 h with e|h
  ·cases e
  ·show _∈varsL G r
   exact wq17h h
 |(m,.mp ag V es)::r,n,t,cs,h=>by
  rcases List.mem_cons.1 h with e|h
  ·cases e
  ·show _∈varsL G r
   exact wq17h h
 |[],n,t,cs,h=>by cases h
theorem wq1e9{pv:List Nm}: ∀ {hp:List (Nm×HObj)} {n:Nm} {ag:MK} {V:Kd} {es:List (List UInt8×V.T)},varsIn pv hp=true→(n,.mp ag V es)∈hp→False
 |[],_,_,_,_,_,h=>by cases h
 |(m,.var t cs)::r,n,ag,V,es,hv,h=>by
  simp only[varsIn,Bool.and_eq_true]at hv
  rcases List.mem_cons.1 h with e|h
  ·cases e
  ·exact wq1e9 hv.2 h
 |(m,.row e K xs)::r,n,ag,V,es,hv,h=>by
  rcases List.mem_cons.1 h with e|h
  ·cases e
  ·exact wq1e9 (hp:=r) hv h
 |(m,.mp ag' V' es')::r,n,ag,V,es,hv,h=>by simp[varsIn]at hv
theorem wq12o{pv:List Nm}: ∀ {hp:List (Nm×HObj)},varsIn pv hp=true→∀ x∈varsL G hp,x.1∈pv
 |[],_,x,hx=>by cases hx
 |(n,.var t cs)::r,h,x,hx=>by
  simp only[varsIn,Bool.and_eq_true]at h
  rw[varsL]at hx
  rcases List.mem_cons.1 hx with rfl|hx
  ·exact wq9i.1 h.1
  ·exact wq12o h.2 x hx
 |(n,.row e K xs)::r,h,x,hx=>wq12o (hp:=r) (by simpa [varsIn]using h) x (by simpa [varsL]using hx)
 |(n,.mp ag V es)::r,h,x,hx=>by simp[varsIn]at h
theorem wq1qq{h:Heap}: ∀ {args:List PV} {vals:List Value},RVs h G w args vals→∀ i,RV h G w (argsT args i) ((vals.toArray++Array.replicate (n-vals.toArray.size) undef).getD i undef):=by
 intro args vals hr i
 have hl:=hr.length
 unfold argsT
 by_cases hi:i<args.length
 ·obtain⟨v,hv,hp⟩:=hr.get i args[i] (by simp[hi])
  have h1:args.getD i .un=args[i]:=by simp[List.getD,hi]
  rw[h1]
  have h2:(vals.toArray++Array.replicate (n-vals.toArray.size) undef).getD i undef=v:=by
   rw[Array.getD_eq_getD_getElem?,Array.getElem?_append_left (by simp;omega)]
   simp[hv]
  rw[h2];exact hp
 ·have h1:args.getD i .un = .un:=by simp[List.getD,Nat.le_of_not_lt hi]
  rw[h1];trivial
theorem Rel.start{hp:List (Nm×HObj)}{args:List PV}{vals:List Value}(hr:RVs (mkH hp) G w args vals)(obj:∀ n o,mkH hp n=some o→RO (mkH hp) G w n o)(dis:Dis (mkH hp) G w)(hn:args.length≤n):
 Rel w (frOf hp G w) (orgOf hp G) n [] ⟨argsT args,mkH hp⟩ G { tmps:=vals.toArray++Array.replicate (n-vals.toArray.size) undef,defers:=[] } w:=by
 refine⟨fun i=>wqoi (wq1qq hr i),?_,obj,dis.inj,fun m b hb hf=>hf.2 m hb,fun b hb=>⟨dis.xlt b hb,fun m hm=>dis.xo m b hm hb⟩,rfl,fun x hx => ?_,fun _ _=>rfl,Nat.le_refl _,rfl,rfl,rfl,rfl⟩
 ·have:=hr.length
  simp;omega
 ·obtain⟨h1,h2⟩:=List.mem_filter.1 hx
  refine⟨?_,(wq100 h1).symm⟩
  show ∃ cs,look hp x.1=_
  split at h2
  ·next t cs hl=>rw[beqN.1 h2]at hl;exact⟨cs,hl⟩
  ·cases h2
theorem wq1d8 {cx:Ctx} {hp:List (Nm×HObj)} {G0:Gh} (R:Rel w0 (frOf hp G0 w0) (orgOf hp G0) n ds st G a w) (hv:varsIn cx.pv hp=true) {R0:Type} {objs:List (Nm×LS)} {res:List LS} {ps:List PV} {K:List PV→List (Nm×HObj)→Option R0} {r:R0} {vs:List Value}
 (hr:RVs st.h G w ps vs) (he:endK cx objs res ps st K=some r) :
 ∃ qs hs G',K qs hs=some r∧RVs (mkH hs) G' w qs vs∧Fin hp hs G0 w0 G' w:=by
 have hf:∀ b,frOf hp G0 w0 b→b<w0.heap.size:=fun b hb=>hb.1
 unfold endK at he
 split at he
 ·cases he
 ·next na1 h1 =>
  split at he
  ·cases he
  ·next qs na h2 =>
   cases hfi:(fine na&&stay na.nm cx.pv)with
   |false=>rw[hfi]at he;cases he
   |true =>
    rw[hfi,cond_true]at he
    simp only[Bool.and_eq_true]at hfi
    obtain⟨hfi,hst⟩:=hfi
    have F0:Found st.h ⟨[],[],[],[]⟩:=⟨fun k o hk=>(by cases hk),fun m hm=>(by cases hm)⟩
    obtain⟨F1,L1⟩:=wqkr _ _ h1 F0
    obtain⟨F2,L2⟩:=normPs_found _ _ _ h2 F1
    have S:Sub st.h G w na:=⟨wq17f hfi,F2,R.obj,R.toDis hf⟩
    have hO:=Sub.normObjs S _ _ h1 L2 F0
    obtain⟨hS,hO2⟩:=Sub.norms S _ _ _ h2 (.refl na) F1 hr
    have hobj:∀ k o,mkH na.hp k=some o→RO (mkH na.hp) (subG G na (subX st.h G na)) w k o:=fun k o hk=>by
     rcases hO2 (k,o) (wq42 hk)with h|h
     ·rcases hO _ h with h|h
      ·cases h
      ·exact h
     ·exact h
    let G1:=subG G na (subX st.h G na)
    let G2:Gh:={ G1 with X:=G.X }
    have ok:∀ b,okB (mkH na.hp) G1 b→okB (mkH na.hp) G2 b:=fun b hb=>⟨hb.1,fun hx=>hb.2 (.inl hx)⟩
    have C:Carry (mkH na.hp) G1 w (mkH na.hp) G2 w .row :=
     ⟨fun b ho _=>⟨ok b ho,rfl⟩,fun n t cs hn=>⟨⟨cs,hn⟩,rfl⟩,fun n ag V es hn=>⟨⟨es,hn⟩,rfl⟩,S.okX,fun n e K xs hn=>⟨⟨rfl,e,K,xs,hn⟩,fun m hm=>by cases hm;exact⟨e,xs,hn,Nat.le_refl _⟩⟩⟩
    have hRVs:RVs (mkH na.hp) G2 w qs vs:=by
     have:=RVs.carry C _ _ hS
     have e:∀ l:List PV,mapRs .row l=l:=by
      intro l
      induction l with
      |nil=>rfl
      |cons p r ih=>rw[mapRs,ih,PV.mapR_row]
     rwa [e]at this
    have hpv:∀ x∈(orgOf hp G0).vs,x.1∈cx.pv:=fun x hx=>wq12o hv x (List.mem_filter.1 hx).1
    refine⟨qs,na.hp,G2,he,hRVs,⟨fun k o hk => ?_,fun k m b h1 h2=>S.toDis.inj k m b h1 h2,fun m t cs hm o ho => ?_,fun m ag V es hm o ho=>(wq1e9 hv (wq42 hm)).elim,fun b hb hfree=>R.ext b ⟨hb,hfree⟩,R.xeq,fun k b hb => ?_,R.grow,R.os,R.tape,R.out⟩⟩
    ·have:=RO.carry C hk (hobj k o hk) (fun b _=>rfl) rfl rfl
     rwa [wqoj]at this
    ·have hmem:(m,t,G0.bk m)∈(orgOf hp G0).vs:=List.mem_filter.2 ⟨wq17h (wq42 hm),by simp[hm]⟩
     obtain⟨⟨cs',h1⟩,h2⟩:=wq1ob (X:=G.X) R S hst hpv _ hmem
     have h1:look na.hp m=some (.var t cs'):=h1
     rw[ho]at h1
     exact⟨⟨cs',by simpa using h1⟩,h2⟩
    ·obtain⟨m,_,hm⟩:=S.blk k b hb
     have:=R.apart m b hm
     by_cases hlt:b<w0.heap.size
     ·refine .inl (Classical.byContradiction fun hno=>this ⟨hlt,fun m hm=>hno ⟨m,hm⟩⟩)
     ·exact .inr (Nat.le_of_not_lt hlt)
theorem fn_ok {cx:Ctx} (X:cx.Ok P) (hm:P.follows .mixedOrders=true) {f:FuncId} {fn:Func} {c:Code} (hfn:P.funcs[f]? = some fn) (hb:fn.body=some c) (hname:(fn.name == "runtime.NumGoroutine")=false) {rs:List ResultVar} (hrs:fn.results.toList=rs) (hco:codeOk fn.ntmps c=true)
 {k:Nat} {R0:Type} {sp:RetSpec} {args:List PV} {hp:List (Nm×HObj)} {K:Out→Option R0} {r:R0} (he:fnK cx k c fn.ntmps rs sp args hp K=some r):DoesTo P f args hp fun out=>K out=some r:=by
 intro G w vals hr obj dis
 unfold fnK at he
 cases hc1:(varsIn cx.pv hp&&Nat.ble args.length fn.ntmps)with
 |false=>rw[hc1]at he;cases he
 |true =>
  rw[hc1,cond_true]at he
  simp only[Bool.and_eq_true]at hc1
  have hrun:(callFunc f vals.toArray).run P w = .ok (.enter f vals.toArray) w:=by
   have hn2:¬ fn.name = "runtime.NumGoroutine" := by simpa using hname
   simp[callFunc,program,Sem.run,hfn,hn2,hb]
  unfold Does
  rw[hrun]
  have R:=Rel.start hr obj dis (Nat.le_of_ble_eq_true hc1.2)
  have hf:∀ b,frOf hp G w b→b<w.heap.size:=fun b hb=>hb.1
  have hpv:∀ x∈(orgOf hp G).vs,x.1∈cx.pv:=fun x hx=>wq12o hc1.1 x (List.mem_filter.1 hx).1
  have hret:∀ {st:St} {G':Gh} {a:Act} {w':World},retK cx sp rs st K=some r→Rel w (frOf hp G w) (orgOf hp G) fn.ntmps [] st G' a w'→∃ v,(results fn a.tmps).run P w' = .ok v w'∧∃ out,K out=some r∧∃ G'',OutIs G'' w' (.returned v) out∧Fin hp out.hs G w G'' w':=by
   intro st G' a w' he R
   unfold retK at he
   split at he
   ·cases he
   ·next ps hps =>
    obtain⟨vs,h1,h2⟩:=wq1d7 X R rs hps
    obtain⟨qs,hs,G'',h3,h4,h5⟩:=wq1d8 R hc1.1 h1 he
    exact⟨_,wqv2 hrs h2,.ret qs hs,h3,G'',⟨_,rfl,tup_ok h4⟩,h5⟩
  refine calls_of_wp hfn hb (wp_mono (wqez X hpv hm k hf c hco he R) fun e a w' h => ?_)
  cases e with
  |normal =>
   obtain⟨st,G',h1,h2⟩:=h
   obtain⟨v,h3,h4⟩:=hret h1 h2
   exact⟨h2.defers,v,h3,h4⟩
  |ret =>
   obtain⟨st,G',h1,h2⟩:=h
   obtain⟨v,h3,h4⟩:=hret h1 h2
   exact⟨h2.defers,v,h3,h4⟩
  |panic ch =>
   obtain⟨st,G',a0,p,v,rfl,h1,h2,h3,h4,_⟩:=h
   refine⟨h4.trans h2.defers,?_⟩
   simp only[outK]at h1
   unfold panK at h1
   obtain⟨qs,hs,G'',h5,h6,h7⟩:=wq1d8 h2 hc1.1 (ps:=[p]) (vs:=[v]) ⟨v,[],rfl,h3,rfl⟩ h1
   split at h5
   ·next q =>
    obtain⟨u,l,hu,h8,h9⟩:=h6
    cases hu
    exact⟨.pan q hs,h5,G'',⟨v,rfl,h8⟩,h7⟩
   ·cases h5
  |exit i=>obtain⟨st,G',h1,h2⟩:=h;cases h1
  |goto l=>exact h
  |outgrown=>exact h.elim
end
end Go.Proofs.YtabkhphoacmcdaaGreatDoor.Pvm
namespace Go.Proofs.YtabkhphoacmcdaaGreatDoor.Pvm
open Go
variable {P:Program}
def zcells:Kd→List Value
 |.int k=>[.int k 0]
 |.bool=>[.bool false]
 |.str=>[.string ⟨#[]⟩]
 |.flt=>[.float .f64 0]
 |.nil=>[]
 |.sl _=>[.slice none 0 0]
 |.pr a b=>zcells a++zcells b
theorem wq1ea{w:World}{ok:Nat→Prop}: ∀ K:Kd,RD w ok K K.zero (zcells K)
 |.int _=>rfl
 |.bool=>rfl
 |.str=>rfl
 |.flt=>rfl
 |.nil=>rfl
 |.sl _=>⟨none,0,rfl,Nat.le_refl _,.inl rfl⟩
 |.pr a b=>⟨_,_,rfl,wq1ea a,wq1ea b⟩
def kdB(ti:TI)(z:List Value): Prop :=
 match ti.kd with
 |none=>True
 |some K=>(decide (0<K.sz)&&decide (K.sz=ti.size))=true∧z=zcells K
def wq1qa(P:Program)(fs:Array Field): Bool:=(fs.toList.mapM (fun f=>(P.info? f.type).map fun i=>(f.offset,i.size))).isSome
theorem TiOk.of {t:TypeId} {ti:TI} {z:Value} {d:TypeDesc} (hi:(P.info? t).map (fun i=>(i.size,i.bytes,i.zero))=some (ti.size,ti.bytes,some z)) (hz:z.cells.toList.map cv=ti.zero) (hs:z.cells.size=ti.size)
 (hk:kdB ti z.cells.toList) (hsh:match ti.k with | .struct=>∃ cs,z = .agg cs | .int k=>z = .int k 0|_=>z.cells = #[z])
 (hm:match ti.k with
  |.int k=>d = .int k
  |.bool=>d = .bool
  |.str=>d = .string
  |.flt=>d = .float .f64
  |.slice=>d = .slice ti.el
  |.ptr=>d = .pointer ti.el
  |.struct=>∃ fs,d = .struct fs∧fs.toList.map (fun f=>(f.offset,f.type))=ti.fs∧wq1qa P fs=true
  |.iface=>∃ ms,d = .interface ms
  |.map=>∃ kt,d = .map kt ti.el∧P.underlying kt=some .string
  |.other=>(match d with | .struct _ | .array _ _ | .interface _=>False|_=>True))
 (hd:P.underlying t=some d) (he:ti.eqs=true→ti.k = .struct→wq1kt P t=true):TiOk P t ti:=by
 obtain⟨i,h1,h2⟩:=Option.map_eq_some_iff.1 hi
 simp only[Prod.mk.injEq]at h2
 refine⟨⟨i,z,h1,h2.1,h2.2.1,h2.2.2,hz,hs,fun K hK => ?_,hsh⟩,⟨d,hd,?_⟩,he⟩
 ·unfold kdB at hk
  rw[hK]at hk
  simp only[Bool.and_eq_true,decide_eq_true_eq]at hk
  exact⟨hk.1.1,hk.1.2,fun w ok=>by rw[hk.2];exact wq1ea K⟩
 ·revert hm
  cases ti.k<;>simp only[]<;>intro hm<;>first
   |exact hm
   |(obtain⟨fs,h1,h2,h3⟩:=hm
     unfold wq1qa at h3
     obtain⟨pl,hpl⟩:=Option.isSome_iff_exists.1 h3
     exact⟨fs,h1,h2,pl,hpl⟩)
theorem wq1sp{l:List (Nat×TI)}(h:∀ x∈l,TiOk P x.1 x.2): TyOk P (look l):=fun t ti ht=>h (t,ti) (wq42 ht)
theorem wq1sq:∀ x∈([]:List (Nat×TI)),TiOk P x.1 x.2:=fun x hx=>by cases hx
theorem all_cons{t:Nat}{ti:TI}{l:List (Nat×TI)}(h:TiOk P t ti)(hl:∀ x∈l,TiOk P x.1 x.2): ∀ x∈(t,ti)::l,TiOk P x.1 x.2:=fun x hx=>by
 rcases List.mem_cons.1 hx with rfl|hx
 ·exact h
 ·exact hl x hx
end Go.Proofs.YtabkhphoacmcdaaGreatDoor.Pvm
namespace Go.Proofs.YtabkhphoacmcdaaGreatDoor.Pvm
open Go
def at_:List Nat→Code→Code
 |[],c=>c
 |0::p,.seq a _=>at_ p a
 |_::p,.seq _ b=>at_ p b
 |0::p,.cond _ a _=>at_ p a
 |_::p,.cond _ _ b=>at_ p b
 |_::p,.block _ b=>at_ p b
 |_::p,.scope b=>at_ p b
 |_::p,.loop b=>at_ p b
 |_,c=>c
def konts(cx:Ctx)(k:Nat){R:Type}(I:Nat→St→Option R): List Nat→Code→(Ex→St→Option R)→(Ex→St→Option R)
 |[],_,K=>K
 |0::p,.seq a b,K=>konts cx k I p a (seqK (execK cx k b) K)
 |_::p,.seq _ b,K=>konts cx k I p b K
 |0::p,.cond _ a _,K=>konts cx k I p a K
 |_::p,.cond _ _ b,K=>konts cx k I p b K
 |_::p,.block id b,K=>konts cx k I p b (blockK id K)
 |_::p,.scope b,K=>konts cx k I p b K
 |_::p,.loop b,K=>konts cx k I p b (stepK cx.pv (look cx.cuts (1000+wqq9 b)) (I (1000+wqq9 b)) K)
 |_,_,K=>K
theorem DoesTo.mono{P:Program}{f:FuncId}{ps:List PV}{hp:List (Nm×HObj)}{O O':Out→Prop}(h:DoesTo P f ps hp O)(ho:∀ out,O out→O' out): DoesTo P f ps hp O' :=
 fun G w vals h1 h2 h3=>(h G w vals h1 h2 h3).mono fun e w' ⟨out,h4,h5⟩=>⟨out,ho out h4,h5⟩
def noMp:List (Nm×HObj)→Bool
 |[]=>true
 |(_,.mp _ _ _)::_=>false
 |_::r=>noMp r
theorem wq101:∀ {hp:List (Nm×HObj)},noMp hp=true→∀ {n:Nm} {ag:MK} {V:Kd} {es:List (List UInt8×V.T)},look hp n=some (.mp ag V es)→False
 |[],_,n,ag,V,es,hl=>by cases hl
 |(m,.mp _ _ _)::r,h,n,ag,V,es,hl=>by simp[noMp]at h
 |(m,.var t cs)::r,h,n,ag,V,es,hl=>by
  rw[look]at hl
  cases hb:Nat.beq m n with
  |true=>rw[hb]at hl;cases hl
  |false=>rw[hb]at hl;exact wq101 (hp:=r) h hl
 |(m,.row e K xs)::r,h,n,ag,V,es,hl=>by
  rw[look]at hl
  cases hb:Nat.beq m n with
  |true=>rw[hb]at hl;cases hl
  |false=>rw[hb]at hl;exact wq101 (hp:=r) h hl
def wq1qb(h:Heap)(G:Gh)(w:World): PV→FrameMode→FrameMode→Prop
 |.nilif,u,u1=>u = .returning∧u1 = .returning
 |.ifc t p,u,u1=>∃ v,RV h G w (.ifc t p) v∧u = .panicking [{ v,recovered:=false }]∧u1 = .panicking [{ v,recovered:=true }]
 |_,_,_=>False
def DoesToD(P:Program)(g:FuncId)(rec:PV)(caps:List PV)(hp:List (Nm×HObj))(O:Out→Prop): Prop :=
 ∀(G:Gh) (w:World) (vals:List Value) (u u1:FrameMode),RVs (mkH hp) G w caps vals→wq1qb (mkH hp) G w rec u u1→(∀ n o,mkH hp n=some o→RO (mkH hp) G w n o)→Dis (mkH hp) G w →
  CallsD P g vals.toArray u w fun e u' w'=>u'=u1∧∃ out,O out∧∃ G',OutIs G' w' e out∧Fin hp out.hs G w G' w'
theorem DoesToD.mono{P:Program}{g:FuncId}{rec:PV}{caps:List PV}{hp:List (Nm×HObj)}{O O':Out→Prop}(h:DoesToD P g rec caps hp O)(ho:∀ out,O out→O' out): DoesToD P g rec caps hp O' :=
 fun G w vals u u1 h1 h2 h3 h4=>(h G w vals u u1 h1 h2 h3 h4).mono fun e u' w' ⟨h5,out,h6,h7⟩=>⟨h5,out,ho out h6,h7⟩
def fnCK(cx:Ctx)(k:Nat){R:Type}(c:Code)(n:Nat)(rs:List ResultVar)(sp:RetSpec)(caps:List PV)(s:Nat)(rec:PV)(hp:List (Nm×HObj))(K:Out→Option R): Option R :=
 bif varsIn cx.pv hp&&Nat.ble caps.length n&&Nat.blt s n then execK cx k c ⟨upd (argsT caps) s rec,mkH hp⟩ (outK cx sp rs K)else none
def opsAt:Code→Array Oper
 |.region _ ops _=>ops
 |_ => #[]
def recOps(ops:List Oper): Option Nat :=
 match ops with
 |[o]=>match o.guard,o.dst,o.op with
  |none,some s,.call { callee := .builtin .recover,args,.. }=>bif Nat.beq args.size 0 then some s else none
  |_,_,_=>none
 |_=>none
theorem wq1m2{ops:Array Oper}{s:Nat}(h:recOps ops.toList=some s): ∃ o ats,ops = #[o]∧o.guard=none∧o.dst=some s∧o.op = .call { callee := .builtin .recover,args := #[],argTypes:=ats }:=by
 unfold recOps at h
 split at h
 ·next o hl =>
  split at h
  ·next e1 e2 e3 =>
   next args _ =>
   cases hb:Nat.beq args.size 0 with
   |false=>rw[hb]at h;cases h
   |true =>
    rw[hb,cond_true]at h
    cases h
    have ha:args = #[]:=Array.eq_empty_of_size_eq_zero (beqN.1 hb)
    subst ha
    exact⟨o,_,by apply Array.ext';simpa using hl,e1,e2,e3⟩
  ·cases h
 ·cases h
def wq1j5(ops:List Oper): Option (Nat×FuncId×List Operand) :=
 match ops with
 |[o1,o2]=>match o1.guard,o2.guard,o1.dst,o2.dst with
  |none,none,some s,none=>match o1.op,o2.op with
   |.makeFunc (.func g) first caps,.defer { callee := .value (.tmp s'),args,.. }=>bif Nat.beq first.size 0&&Nat.beq s' s&&Nat.beq args.size 0 then some (s,g,caps.toList)else none
   |_,_=>none
  |_,_,_,_=>none
 |_=>none
def wq1gr(st:St): List Operand→List (Nm×Nat)→Bool
 |[],[]=>true
 |x::xs,(n,off)::r=>(match useO [] (st.get x)with | .ptr m o=>Nat.beq m n&&Nat.beq o off|_=>false)&&wq1gr st xs r
 |_,_=>false
def capsIn(st:St)(pv:List Nm): List (Nm×Nat)→Bool
 |[]=>true
 |(n,_)::r=>isIn n pv&&(match st.h n with|some (.var _ _)=>true|_=>false)&&capsIn st pv r
def capP:List (Nm×Nat)→List PV
 |[]=>[]
 |(n,off)::r => .ptr n off::capP r
def wq18d(ks:List Nat): List ResultVar→Bool
 |[]=>true
 |.tmp t::r=>isIn t ks&&wq18d ks r
 |.cell a _::r=>isIn a ks&&wq18d ks r
def modeOk(pan:Bool): PV→Bool
 |.nilif => !pan
 |.ifc _ _=>pan
 |_=>false
def callD(cx:Ctx){R:Type}(runD:PV→List PV→List (Nm×HObj)→(Out→Option R)→Option R)(sigD:List LS)(caps:List (Nm×Nat))(sp:RetSpec)(rs:List ResultVar)(K:Out→Option R)(pan:Bool)(rec:PV)(st:St): Option R :=
 match normPs st.h ⟨[],[],[],[]⟩ (.any::sigD) (rec::capP caps)with
 |some (q::ps,na)=>bif fine na&&modeOk pan q then runD q ps na.hp fun o=>match o with
  |.ret _ hs=>match back st 9000 na hs (hasSlH hs)with
   |some st'=>retK cx sp rs st' K
   |none=>none
  |.pan _ _=>none
  else none
 |_=>none
def endD(cx:Ctx){R:Type}(runD:PV→List PV→List (Nm×HObj)→(Out→Option R)→Option R)(sigD:List LS)(caps:List (Nm×Nat))(sp:RetSpec)(rs:List ResultVar)(K:Out→Option R): Ex→St→Option R:=fun e st=>match e with
 |.normal=>callD cx runD sigD caps sp rs K false .nilif st
 |.ret=>callD cx runD sigD caps sp rs K false .nilif st
 |.panic p=>callD cx runD sigD caps sp rs K true p st
 |.exit _=>none
def seqs:List Code→Code→Code
 |[],b=>b
 |p::r,b => .seq p (seqs r b)
def preK{R:Type}(ex:Ctx→Code→St→(Ex→St→Option R)→Option R)(cx:Ctx)(KN KR:St→Option R): List Code→St→Option R
 |[],st=>KN st
 |p::r,st=>ex cx p st fun e st=>match e with
  |.normal=>preK ex cx KN KR r st
  |.ret=>KR st
  |_=>none
def dfrK {R:Type} (ex:Ctx→Code→St→(Ex→St→Option R)→Option R) (cx:Ctx) (pv2:List Nm) (pre:List Code) (ops:Array Oper) (rest:Code) (n:Nat) (rs:List ResultVar) (sp:RetSpec)
 (runD:PV→List PV→List (Nm×HObj)→(Out→Option R)→Option R) (sigD:List LS) (caps:List (Nm×Nat)) (args:List PV) (hp:List (Nm×HObj)) (K:Out→Option R):Option R :=
 bif varsIn cx.pv hp&&Nat.ble args.length n&&subL cx.pv pv2&&wq18d cx.keep rs then
  preK ex cx (fun st=>match wq1j5 ops.toList with
   |some (s,g,xs)=>bif wq1gr st xs caps&&capsIn st pv2 caps&&Nat.blt s n then
    ex { cx with pv:=pv2 } rest ⟨upd st.t s (.clo g (capP caps)),st.h⟩ (endD cx runD sigD caps sp rs K)
    else none
   |none=>none) (fun st=>retK cx sp rs st K) pre ⟨argsT args,mkH hp⟩
 else none
def fnDK (cx:Ctx) (k:Nat) {R:Type} (pv2:List Nm) (pre:List Code) (ops:Array Oper) (rest:Code) (n:Nat) (rs:List ResultVar) (sp:RetSpec)
 (runD:PV→List PV→List (Nm×HObj)→(Out→Option R)→Option R) (sigD:List LS) (caps:List (Nm×Nat)) (args:List PV) (hp:List (Nm×HObj)) (K:Out→Option R):Option R :=
 dfrK (fun cx c st K=>execK cx k c st K) cx pv2 pre ops rest n rs sp runD sigD caps args hp K
section
variable {P:Program} {w0:World} {fr:Nat→Prop} {X0:Org} {n:Nat} {ds:List Deferred} {st:St} {G:Gh} {a:Act} {w:World}
theorem nblt{a b:Nat}(h:Nat.blt a b=true): a<b:=Nat.le_of_ble_eq_true h
theorem wq1d9 {cx:Ctx} (X:cx.Ok P) (hm:P.follows .mixedOrders=true) {f:FuncId} {fn:Func} {id:Nat} {ops:Array Oper} {c:Code} (hfn:P.funcs[f]? = some fn) (hb:fn.body=some (.seq (.region id ops false) c))
 {s:Nat} (hops:recOps ops.toList=some s) {rs:List ResultVar} (hrs:fn.results.toList=rs) (hco:codeOk fn.ntmps c=true)
 {k:Nat} {R0:Type} {sp:RetSpec} {caps:List PV} {rec:PV} {hp:List (Nm×HObj)} {K:Out→Option R0} {r:R0} (he:fnCK cx k c fn.ntmps rs sp caps s rec hp K=some r):DoesToD P f rec caps hp fun out=>K out=some r:=by
 intro G w vals u u1 hr hmode obj dis
 obtain⟨o,ats,hops,hg,hds,hop⟩:=wq1m2 hops
 unfold fnCK at he
 cases hc1:(varsIn cx.pv hp&&Nat.ble caps.length fn.ntmps&&Nat.blt s fn.ntmps)with
 |false=>rw[hc1]at he;cases he
 |true =>
  rw[hc1,cond_true]at he
  simp only[Bool.and_eq_true]at hc1
  obtain⟨⟨hc0,hc2⟩,hc3⟩:=hc1
  have R:=Rel.start hr obj dis (Nat.le_of_ble_eq_true hc2)
  have hf:∀ b,frOf hp G w b→b<w.heap.size:=fun b hb=>hb.1
  have hpv:∀ x∈(orgOf hp G).vs,x.1∈cx.pv:=fun x hx=>wq12o hc0 x (List.mem_filter.1 hx).1
  have hret:∀ {st:St} {G':Gh} {a:Act} {w':World},retK cx sp rs st K=some r→Rel w (frOf hp G w) (orgOf hp G) fn.ntmps [] st G' a w'→∃ v,(results fn a.tmps).run P w' = .ok v w'∧∃ out,K out=some r∧∃ G'',OutIs G'' w' (.returned v) out∧Fin hp out.hs G w G'' w':=by
   intro st G' a w' he R
   unfold retK at he
   split at he
   ·cases he
   ·next ps hps =>
    obtain⟨vs,h1,h2⟩:=wq1d7 X R rs hps
    obtain⟨qs,hs,G'',h3,h4,h5⟩:=wq1d8 R hc0 h1 he
    exact⟨_,wqv2 hrs h2,.ret qs hs,h3,G'',⟨_,rfl,tup_ok h4⟩,h5⟩
  refine callsD_of_wpS hfn hb fun c₀ cs hu => ?_
  refine wpS_seq (wpS_region ?_)
  subst hops
  have hwant:Region.wanted o (yielded #[o] (vals.toArray++Array.replicate (fn.ntmps-vals.toArray.size) undef))=true:=by simp[Region.wanted,hg]
  have hrun:∀ ρ : Operand→Value,(execOp ρ o).run P w = .ok .recover w:=by
   intro ρ
   simp[execOp,hop,resolve,invoke,builtin]
  have key:∀(v:Value) (cs':List Frame),RV (mkH hp) G w rec v→cs'={ c₀ with mode:=u1 }::cs →
   Exit.thenS (c.wpS P (bodyPostS P fn c₀ cs fun e u' w'=>u'=u1∧∃ out,K out=some r∧∃ G',OutIs G' w' e out∧Fin hp out.hs G w G' w')) (bodyPostS P fn c₀ cs fun e u' w'=>u'=u1∧∃ out,K out=some r∧∃ G',OutIs G' w' e out∧Fin hp out.hs G w G' w') .normal
    (({ tmps:=vals.toArray++Array.replicate (fn.ntmps-vals.toArray.size) undef,defers:=[] }:Act).put o.dst v) cs' w:=by
   rintro v cs' hv rfl
   show c.wpS _ _ _ _ _
   rw[hds]
   have R2:=R.putV hf (d:=some s) (fun i hi=>by cases hi;exact nblt hc3) hv
   refine wpS_of_wp (wp_mono (wqez X hpv hm k hf c hco he R2) fun e a w' h => ?_)
   cases e with
   |normal =>
    obtain⟨st,G',h1,h2⟩:=h
    obtain⟨v,h3,h4⟩:=hret h1 h2
    exact⟨h2.defers,u1,rfl,v,h3,rfl,h4⟩
   |ret =>
    obtain⟨st,G',h1,h2⟩:=h
    obtain⟨v,h3,h4⟩:=hret h1 h2
    exact⟨h2.defers,u1,rfl,v,h3,rfl,h4⟩
   |panic ch =>
    obtain⟨st,G',a0,p,v,rfl,h1,h2,h3,h4,_⟩:=h
    refine⟨h4.trans h2.defers,u1,rfl,rfl,?_⟩
    simp only[outK]at h1
    unfold panK at h1
    obtain⟨qs,hs,G'',h5,h6,h7⟩:=wq1d8 h2 hc0 (ps:=[p]) (vs:=[v]) ⟨v,[],rfl,h3,rfl⟩ h1
    split at h5
    ·next q =>
     obtain⟨u,l,hu,h8,h9⟩:=h6
     cases hu
     exact⟨.pan q hs,h5,G'',⟨v,rfl,h8⟩,h7⟩
    ·cases h5
   |exit i=>obtain⟨st,G',h1,h2⟩:=h;cases h1
   |goto l=>exact h
   |outgrown=>exact h.elim
  show wpOpsS P #[o] _ [0] _ _ _
  simp only[wpOpsS,List.getElem?_toArray,List.getElem?_cons_zero,hwant,if_true,hrun]
  cases rec with
  |nilif =>
   obtain⟨rfl,rfl⟩:=hmode
   have hrec:recoverD (c₀ :: cs)=none:=by simp[recoverD,hu]
   rw[hrec]
   refine key .nilIface (c₀ :: cs) rfl ?_
   cases c₀;simp_all
  |ifc t p =>
   obtain⟨v,hv,rfl,rfl⟩:=hmode
   have hrec:recoverD (c₀ :: cs)=some (v,{ c₀ with mode := .panicking [{ v,recovered:=true }] }::cs):=by simp[recoverD,hu]
   rw[hrec]
   exact key v _ hv rfl
  |_=>exact hmode.elim
theorem wq18e{ks:List Nat}{a a0:Act}(h:∀ i∈ks,tmOf a i=tmOf a0 i): ∀ {rs:List ResultVar},wq18d ks rs=true→rs.mapM (resF a.tmps)=rs.mapM (resF a0.tmps)
 |[],_=>rfl
 |.tmp t::r,hk=>by
  simp only[wq18d,Bool.and_eq_true]at hk
  have e1:a.tmps.getD t undef=a0.tmps.getD t undef:=h t (wq9i.1 hk.1)
  rw[List.mapM_cons,List.mapM_cons,wq18e h hk.2]
  simp only[resF,e1]
 |.cell x t::r,hk=>by
  simp only[wq18d,Bool.and_eq_true]at hk
  have e1:a.tmps.getD x undef=a0.tmps.getD x undef:=h x (wq9i.1 hk.1)
  rw[List.mapM_cons,List.mapM_cons,wq18e h hk.2]
  simp only[resF,e1]
theorem wq1gs(R:Rel w0 fr X0 n ds st G a w): ∀(xs:List Operand) (caps:List (Nm×Nat)),wq1gr st xs caps=true→RVs st.h G w (capP caps) (xs.map a.eval)
 |[],[],_=>rfl
 |[],_::_,h=>by cases h
 |x::xs,[],h=>by cases h
 |x::xs,(m,off)::r,h=>by
  simp only[wq1gr,Bool.and_eq_true]at h
  obtain⟨h1,h2⟩:=h
  refine⟨a.eval x,xs.map a.eval,rfl,?_,wq1gs R xs r h2⟩
  have:=R.use noTags x
  split at h1
  ·next m' o' hx =>
   rw[hx]at this
   simp only[Bool.and_eq_true]at h1
   rw[beqN.1 h1.1,beqN.1 h1.2]at this
   exact this
  ·cases h1
theorem wq1la{pv:List Nm}: ∀ {caps:List (Nm×Nat)},capsIn st pv caps=true→∀ x∈caps,x.1∈pv∧∃ t cs,st.h x.1=some (.var t cs)
 |[],_,x,hx=>by cases hx
 |(m,off)::r,h,x,hx=>by
  simp only[capsIn,Bool.and_eq_true]at h
  obtain⟨⟨h1,h2⟩,h3⟩:=h
  rcases List.mem_cons.1 hx with rfl|hx
  ·refine⟨wq9i.1 h1,?_⟩
   split at h2
   ·next t cs ht=>exact⟨t,cs,ht⟩
   ·cases h2
  ·exact wq1la h3 x hx
def typeIn(h:Heap)(n:Nm): TypeId:=match h n with|some (.var t _)=>t|_=>0
def capOrg(st:St)(G:Gh): List (Nm×Nat)→List (Nm×TypeId×Nat)
 |[]=>[]
 |(n,_)::r=>(n,typeIn st.h n,G.bk n)::capOrg st G r
theorem wq18f{st:St}{G:Gh}: ∀ {caps:List (Nm×Nat)} {x},x∈capOrg st G caps→∃ y∈caps,x=(y.1,typeIn st.h y.1,G.bk y.1)
 |[],x,h=>by cases h
 |(n,off)::r,x,h=>by
  rw[capOrg]at h
  rcases List.mem_cons.1 h with rfl|h
  ·exact⟨_,List.mem_cons_self,rfl⟩
  ·obtain⟨y,hy,e⟩:=wq18f h
   exact⟨y,List.mem_cons_of_mem _ hy,e⟩
theorem wq1lb{st:St}{G:Gh}: ∀ {caps:List (Nm×Nat)} {y},y∈caps→(y.1,typeIn st.h y.1,G.bk y.1)∈capOrg st G caps
 |(n,off)::r,y,h=>by
  rw[capOrg]
  rcases List.mem_cons.1 h with rfl|h
  ·exact List.mem_cons_self
  ·exact List.mem_cons_of_mem _ (wq1lb h)
theorem wq1gt{st0:St}{G0:Gh}{w0':World}: ∀ {caps:List (Nm×Nat)} {vals:List Value},RVs st0.h G0 w0' (capP caps) vals→(∀ y∈caps,(∃ t cs,st.h y.1=some (.var t cs))∧G.bk y.1=G0.bk y.1)→RVs st.h G w (capP caps) vals
 |[],vals,hr,_=>hr
 |(m,off)::r,vals,⟨v,l,e,hv,hl⟩,h=>by
  obtain⟨rfl,_⟩:=hv
  obtain⟨⟨t,cs,h1⟩,h2⟩:=h (m,off) List.mem_cons_self
  exact⟨_,l,e,⟨by rw[h2],t,cs,h1⟩,wq1gt hl fun y hy=>h y (List.mem_cons_of_mem _ hy)⟩
theorem wq1sr{l r:List Nat}(h:subL l r=true): ∀ x∈l,x∈r:=by
 induction l with
 |nil=>intro x hx;cases hx
 |cons n l ih =>
  simp only[subL,Bool.and_eq_true]at h
  intro x hx
  rcases List.mem_cons.1 hx with rfl|hx
  ·exact wq9i.1 h.1
  ·exact ih h.2 x hx
def Invokes(P:Program)(g:FuncId): Prop:=∀(cap:Array Value) (w:World),(invoke (.fn (.func g) cap) #[]).run P w = .ok (.enter g cap) w
theorem Invokes.of{f:FuncId}{fn:Func}{c:Code}(hfn:P.funcs[f]? = some fn)(hb:fn.body=some c)(hname:(fn.name == "runtime.NumGoroutine")=false): Invokes P f:=by
 intro cap w
 have hn2:¬ fn.name = "runtime.NumGoroutine" := by simpa using hname
 simp[invoke,callFunc,program,Sem.run,hfn,hn2,hb]
theorem wq1qc{cx:Ctx}(X:cx.Ok P)(hpv:∀ x∈X0.vs,x.1∈cx.pv)(hm:P.follows .mixedOrders=true)(k:Nat)(hf:∀ b,fr b→b<w0.heap.size){R0:Type}{KN KR:St→Option R0}{r:R0}{b:Code}{Q:Exit→Act→World→Prop}:
 ∀(pre:List Code),(pre.all fun c=>codeOk n c)=true→∀ {st:St} {G:Gh} {a:Act} {w:World},preK (fun cx c st K=>execK cx k c st K) cx KN KR pre st=some r→Rel w0 fr X0 n ds st G a w →
  (∀ {st:St} {G:Gh} {a:Act} {w:World},KN st=some r→Rel w0 fr X0 n ds st G a w→b.wp P Q a w)→(∀ {st:St} {G:Gh} {a:Act} {w:World},KR st=some r→Rel w0 fr X0 n ds st G a w→Q .ret a w)→(seqs pre b).wp P Q a w
 |[],_,st,G,a,w,he,R,hN,_=>hN he R
 |p::l,hc,st,G,a,w,he,R,hN,hR=>by
  simp only[List.all_cons,Bool.and_eq_true]at hc
  refine wp_seq (wp_mono (wqez X hpv hm k hf p hc.1 he R) fun e a1 w1 h => ?_)
  cases e with
  |exit i=>obtain⟨st,G',h1,h2⟩:=h;cases h1
  |ret=>obtain⟨st,G',h1,h2⟩:=h;exact hR h1 h2
  |panic ch=>obtain⟨st,G',a0,p,v,rfl,h1,h2⟩:=h;cases h1
  |goto l=>exact h.elim
  |outgrown=>exact h.elim
  |normal=>obtain⟨st,G',h1,h2⟩:=h;exact wq1qc X hpv hm k hf l hc.2 h1 h2 hN hR
theorem wq1oe {cx:Ctx} (X:cx.Ok P) (hm:P.follows .mixedOrders=true) {f:FuncId} {fn:Func} {pre:List Code} {rest:Code} {id:Nat} {ops:Array Oper} (hfn:P.funcs[f]? = some fn) (hb:fn.body=some (seqs pre (.seq (.region id ops false) rest)))
 (hname:(fn.name == "runtime.NumGoroutine")=false) {rs:List ResultVar} (hrs:fn.results.toList=rs) (hco:(pre.all fun c=>codeOk fn.ntmps c)=true) (hco2:codeOk fn.ntmps rest=true)
 {g:FuncId} {s:Nat} {xs:List Operand} (hops:wq1j5 ops.toList=some (s,g,xs))
 {k:Nat} {R0:Type} {sp:RetSpec} {pv2:List Nm} {runD:PV→List PV→List (Nm×HObj)→(Out→Option R0)→Option R0} {sigD:List LS} {caps:List (Nm×Nat)}
 (hinv:Invokes P g) (hrunD:∀ rec ps hp (K:Out→Option R0) (r:R0),runD rec ps hp K=some r→DoesToD P g rec ps hp fun out=>K out=some r)
 {args:List PV} {hp:List (Nm×HObj)} {K:Out→Option R0} {r:R0} (he:fnDK cx k pv2 pre ops rest fn.ntmps rs sp runD sigD caps args hp K=some r):DoesTo P f args hp fun out=>K out=some r:=by
 intro G w vals hr obj dis
 unfold fnDK dfrK at he
 cases hc1:(varsIn cx.pv hp&&Nat.ble args.length fn.ntmps&&subL cx.pv pv2&&wq18d cx.keep rs)with
 |false=>rw[hc1]at he;cases he
 |true =>
  rw[hc1,cond_true]at he
  simp only[Bool.and_eq_true]at hc1
  obtain⟨⟨⟨hc0,hc2⟩,hsub⟩,hkeep⟩:=hc1
  have hrun:(callFunc f vals.toArray).run P w = .ok (.enter f vals.toArray) w:=by
   have hn2:¬ fn.name = "runtime.NumGoroutine" := by simpa using hname
   simp[callFunc,program,Sem.run,hfn,hn2,hb]
  unfold Does
  rw[hrun]
  have R:=Rel.start hr obj dis (Nat.le_of_ble_eq_true hc2)
  have hf:∀ b,frOf hp G w b→b<w.heap.size:=fun b hb=>hb.1
  have hpv:∀ x∈(orgOf hp G).vs,x.1∈cx.pv:=fun x hx=>wq12o hc0 x (List.mem_filter.1 hx).1
  refine calls_of_wp_defers hfn hb (wq1qc X hpv hm k hf pre hco he R (fun {st1 G1 a1 w1} h1 R1 => ?_) fun {st1 G1 a1 w1} h1 R1 => ?_)
  case refine_2 =>
   show Leaves P fn a1.tmps _ a1.defers .returning w1
   rw[R1.defers]
   unfold retK at h1
   split at h1
   ·cases h1
   ·next ps2 hps2 =>
    obtain⟨vs,g1,g2⟩:=wq1d7 X R1 rs hps2
    obtain⟨qs,hs2,G'',g3,g4,g5⟩:=wq1d8 R1 hc0 g1 h1
    exact⟨_,wqv2 hrs g2,.ret qs hs2,g3,G'',⟨_,rfl,tup_ok g4⟩,g5⟩
  case refine_1 =>
   simp only[hops]at h1
   cases hc3:(wq1gr st1 xs caps&&capsIn st1 pv2 caps&&Nat.blt s fn.ntmps)with
   |false=>rw[hc3]at h1;cases h1
   |true =>
    rw[hc3,cond_true]at h1
    simp only[Bool.and_eq_true]at hc3
    obtain⟨⟨hca,hci⟩,hs⟩:=hc3
    have hcaps:=wq1gs R1 xs caps hca
    have hcin:=wq1la hci
    have hsh:∃ o1 o2 first cps args ats s',ops.toList=[o1,o2]∧o1.guard=none∧o2.guard=none∧o1.dst=some s∧o2.dst=none∧o1.op = .makeFunc (.func g) first cps∧o2.op = .defer { callee := .value (.tmp s'),args:=args,argTypes:=ats }∧first = #[]∧s'=s∧args = #[]∧cps.toList=xs:=by
     unfold wq1j5 at hops
     split at hops
     ·next o1 o2 hl =>
      split at hops
      ·next e1 e2 e3 e4 =>
       split at hops
       ·next g' first cps s1 args ats e5 e6 =>
        cases hbb:(Nat.beq first.size 0&&Nat.beq s1 _&&Nat.beq args.size 0)with
        |false=>rw[hbb]at hops;cases hops
        |true =>
         rw[hbb,cond_true]at hops
         cases hops
         simp only[Bool.and_eq_true]at hbb
         exact⟨o1,o2,first,cps,args,_,s1,hl,e1,e2,e3,e4,e5,e6,Array.eq_empty_of_size_eq_zero (beqN.1 hbb.1.1),beqN.1 hbb.1.2,Array.eq_empty_of_size_eq_zero (beqN.1 hbb.2),rfl⟩
       ·cases hops
      ·cases hops
     ·cases hops
    obtain⟨o1,o2,first,cps,args',ats,s',hl,g1,g2,d1,d2,p1,p2,rfl,rfl,rfl,hx⟩:=hsh
    have hs:=nblt hs
    have hsz:=R1.size
    let F:Value := .func (.func g) #[] (cps.map a1.eval)
    let d:Deferred:={ target := .fn (.func g) (cps.map a1.eval),args := #[] }
    let a2:Act:={ (a1.put (some s') F)with defers:=d::a1.defers }
    have hcapsA:RVs st1.h G1 w1 (capP caps) (cps.map a1.eval).toList:=by rw[Array.toList_map,hx];exact hcaps
    let X0':Org:=⟨(orgOf hp G).X,capOrg st1 G1 caps++(orgOf hp G).vs⟩
    have R2:Rel w (frOf hp G w) X0' fn.ntmps [d] ⟨upd st1.t s' (.clo g (capP caps)),st1.h⟩ G1 a2 w1:=by
     have:=R1.putV hf (d:=some s') (fun i hi=>by cases hi;exact hs) (p := .clo g (capP caps)) (v:=F) ⟨(cps.map a1.eval).toList,by simp only[F,Array.toArray_toList],hcapsA⟩
     refine⟨this.tm,this.size,this.obj,this.dis,this.apart,this.xfr,this.xeq,fun x hx => ?_,this.ext,this.grow,this.os,this.tape,this.out,by simp[a2,R1.defers]⟩
     rcases List.mem_append.1 hx with hx|hx
     ·obtain⟨y,hy,rfl⟩:=wq18f hx
      obtain⟨_,t,cs,ht⟩:=hcin y hy
      exact⟨⟨cs,by simp only[typeIn];rw[show st1.h y.1=_ from ht]⟩,rfl⟩
     ·exact this.org x hx
    have hpv2:∀ x∈X0'.vs,x.1∈pv2:=by
     intro x hx
     rcases List.mem_append.1 hx with hx|hx
     ·obtain⟨y,hy,rfl⟩:=wq18f hx
      exact(hcin y hy).1
     ·exact wq1sr hsub _ (hpv x hx)
    have X2:Ctx.Ok P { cx with pv:=pv2 }:=⟨X.ty,X.C,X.sh⟩
    have fin:∀ {pan:Bool} {rec:PV} {v:Value} {st:St} {G':Gh} {a b:Act} {w':World},rs.mapM (resF b.tmps)=rs.mapM (resF a.tmps)→b.defers=a.defers→callD cx runD sigD caps sp rs K pan rec st=some r→Rel w (frOf hp G w) X0' fn.ntmps [d] st G' a w'→RV st.h G' w' rec v →
     Leaves P fn b.tmps (fun e w'=>∃ out,K out=some r∧∃ G',OutIs G' w' e out∧Fin hp out.hs G w G' w') b.defers (bif pan then .panicking [{ v,recovered:=false }]else .returning) w':=by
     intro pan rec v st G' a b w' hbm hbd he R3 hv
     rw[hbd,R3.defers]
     refine leaves_cons (f:=g) (args:=cps.map a1.eval) (by cases pan<;>simp) (hinv _ _) ?_
     unfold callD at he
     split at he
     ·next q ps na hn =>
      cases hfi:(fine na&&modeOk pan q)with
      |false=>rw[hfi]at he;cases he
      |true =>
       rw[hfi,cond_true]at he
       simp only[Bool.and_eq_true]at hfi
       obtain⟨hfi,hmo⟩:=hfi
       have hc:=hrunD _ _ _ _ _ he
       have F0:Found st.h ⟨[],[],[],[]⟩:=⟨fun k o hk=>(by cases hk),fun m hm=>(by cases hm)⟩
       obtain⟨F1,L1⟩:=normPs_found _ _ _ hn F0
       have S:Sub st.h G' w' na:=⟨wq17f hfi,F1,R3.obj,R3.toDis hf⟩
       have hcl:RVs st.h G' w' (capP caps) (cps.map a1.eval).toList:=by
        refine wq1gt hcapsA fun y hy => ?_
        obtain⟨⟨cs,h1⟩,h2⟩:=R3.org (y.1,typeIn st1.h y.1,G1.bk y.1) (List.mem_append_left _ (wq1lb hy))
        exact⟨⟨_,cs,h1⟩,h2⟩
       obtain⟨h1,h2⟩:=Sub.norms S _ _ _ hn (.refl na) F0 (vs:=v::(cps.map a1.eval).toList) ⟨v,_,rfl,hv,hcl⟩
       obtain⟨v',l',hvl,hq,hps⟩:=h1
       simp only[List.cons.injEq]at hvl
       obtain⟨rfl,rfl⟩:=hvl
       have hobj:∀ k o,mkH na.hp k=some o→RO (mkH na.hp) (subG G' na (subX st.h G' na)) w' k o:=fun k o hk=>by
        rcases h2 (k,o) (wq42 hk)with h|h
        ·cases h
        ·exact h
       have hrec:wq1qb (mkH na.hp) (subG G' na (subX st.h G' na)) w' q (bif pan then .panicking [{ v,recovered:=false }]else .returning) (bif pan then .panicking [{ v,recovered:=true }]else .returning):=by
        cases q with
        |nilif=>cases pan with
         |false=>exact⟨rfl,rfl⟩
         |true=>cases hmo
        |ifc t p=>cases pan with
         |false=>cases hmo
         |true=>exact⟨v,hq,rfl,rfl⟩
        |_=>cases hmo
       have hcd:=hc _ w' _ _ _ hps hrec hobj S.toDis
       rw[Array.toArray_toList]at hcd
       refine hcd.mono fun e u' w'' hh => ?_
       obtain⟨rfl,out,ho,G3,hout,Fi⟩:=hh
       cases out with
       |pan p hs=>cases ho
       |ret rs' hs' =>
        obtain⟨v3,rfl,hv3⟩:=hout
        simp only at ho
        split at ho
        ·next st' hbk =>
         obtain⟨G4,L,ht,hren⟩:=wq1nr S hbk Fi (fun h=>h)
         have R4:=R3.loud0 hf L
         rw[←ht]at R4
         have R5:Rel w (frOf hp G w) (orgOf hp G) fn.ntmps [d] st' G4 a w'' :=
          ⟨R4.tm,R4.size,R4.obj,R4.dis,R4.apart,R4.xfr,R4.xeq,fun x hx=>R4.org x (List.mem_append_right _ hx),R4.ext,R4.grow,R4.os,R4.tape,R4.out,R4.defers⟩
         have hset:settle (bif pan then .panicking [{ v,recovered:=true }]else .returning) = .returning:=by cases pan<;>rfl
         show Leaves P fn b.tmps _ [] (settle _) w''
         rw[hset]
         unfold retK at ho
         split at ho
         ·cases ho
         ·next ps2 hps2 =>
          obtain⟨vs,h1,h2⟩:=wq1d7 X R5 rs hps2
          obtain⟨qs,hs2,G'',h3,h4,h5⟩:=wq1d8 R5 hc0 h1 ho
          exact⟨_,wqv2 hrs (by rw[hbm];exact h2),.ret qs hs2,h3,G'',⟨_,rfl,tup_ok h4⟩,h5⟩
        ·cases ho
     ·cases he
    have hrest:rest.wp P (bodyPostD P fn fun e w'=>∃ out,K out=some r∧∃ G',OutIs G' w' e out∧Fin hp out.hs G w G' w') a2 w1:=by
     refine wp_mono (wqez X2 hpv2 hm k hf rest hco2 h1 R2) fun e a w' h => ?_
     cases e with
     |normal =>
      obtain⟨st,G',h1,h2⟩:=h
      exact fin (pan:=false) rfl rfl h1 h2 (v := .nilIface) rfl
     |ret =>
      obtain⟨st,G',h1,h2⟩:=h
      exact fin (pan:=false) rfl rfl h1 h2 (v := .nilIface) rfl
     |panic ch =>
      obtain⟨st,G',a0,p,v,rfl,h1,h2,h3,h4,h5,h6⟩:=h
      exact fin (pan:=true) (wq18e h6 hkeep) h4 h1 h2 h3
     |exit i=>obtain⟨st,G',h1,h2⟩:=h;cases h1
     |goto l=>exact h
     |outgrown=>exact h.elim
    refine wp_seq (wp_region_list ?_)
    rw[hl]
    have w1':Region.wanted o1 (yielded ops a1.tmps)=true:=by simp[Region.wanted,g1]
    have w2':∀ t,Region.wanted o2 (yielded ops t)=true:=fun t=>by simp[Region.wanted,g2]
    have e1:(execOp a1.eval o1).run P w1 = .ok (.value F) w1:=by simp[execOp,p1,Instr.makeFunc,F]
    have e2:(execOp (a1.put (some s') F).eval o2).run P w1 = .ok (.defer d) w1:=by
     have:(a1.put (some s') F).eval (.tmp s')=F:=by
      simp[Act.eval,Act.put,hsz,hs]
     simp[execOp,p2,resolve,this,F,Deferred.ofValue,d]
    unfold wpList
    rw[if_pos w1']
    refine .inl ?_
    unfold Oper.wp
    rw[e1,Oper.upon_value,d1]
    unfold wpList
    rw[if_pos (w2' _)]
    refine .inl ?_
    unfold Oper.wp
    rw[e2,Oper.upon_defer,d2]
    exact hrest
end
end Go.Proofs.YtabkhphoacmcdaaGreatDoor.Pvm
namespace Go.Proofs.YtabkhphoacmcdaaGreatDoor.Pvm
open Go Go.RowKit
def Kd.lob:Kd→Nat
 |.int k=>k.bits / 8
 |.bool=>1
 |.str=>16
 |.flt=>8
 |.sl _=>24
 |.pr a b=>a.lob+b.lob
 |.nil=>0
def Wf:(K:Kd)→K.T→Prop
 |.int k,x=>k.min≤x∧x≤k.max
 |.bool,_=>True
 |.str,x=>x.length≤140737488351232
 |.flt,x=>x<2 ^ 64
 |.sl e,x=>x.length*e.lob≤140737488351232∧∀ y∈x,Wf e y
 |.pr a b,x=>Wf a x.1∧Wf b x.2
 |.nil,_=>True
def readFs(ty:TypeId→Option TI)(f:TypeId→Kd→Bool): Nat→List (Nat×TypeId)→Kd→Bool
 |off,[(o,t)],K=>Nat.beq o off&&f t K&&(match ty t with|some ti=>Nat.beq ti.size K.sz|none=>false)
 |off,(o,t)::fs,.pr a b=>Nat.beq o off&&f t a&&(match ty t with|some ti=>Nat.beq ti.size a.sz|none=>false)&&readFs ty f (off+a.sz) fs b
 |_,_,_=>false
def readB(ty:TypeId→Option TI): Nat→TypeId→Kd→Bool
 |0,_,_=>false
 |n+1,t,K=>match ty t with
  |none=>false
  |some ti=>match ti.k,K with
   |.int k,.int k'=>decide (k=k')
   |.bool,.bool=>true
   |.str,.str=>true
   |.flt,.flt=>true
   |.slice,.sl e=>(match ty ti.el with|some ei=>Nat.blt 0 ei.size&&Nat.beq ei.size e.sz&&Nat.ble e.lob ei.bytes|none=>false)&&readB ty n ti.el e
   |.struct,K=>readFs ty (readB ty n) 0 ti.fs K&&Nat.beq ti.size K.sz
   |_,_=>false
section
variable {P:Program} {ty:TypeId→Option TI} {H:Type} {enc:TypeId×Value→H} {w:World} {spare:Nat→Bool} {held:Bool}
theorem TiOk.cellsOf{t:TypeId}{ti:TI}(h:TiOk P t ti): P.cellsOf t=ti.size:=by
 obtain⟨i,z,h1,h2,_⟩:=h.info
 simp[Program.cellsOf,h1,h2]
theorem TiOk.bytesOf{t:TypeId}{ti:TI}(h:TiOk P t ti): P.bytesOf t=ti.bytes:=by
 obtain⟨i,z,h1,_,h2,_⟩:=h.info
 simp[Program.bytesOf,h1,h2]
def ReadAt(P:Program)(enc:TypeId×Value→H)(w:World)(spare:Nat→Bool)(held:Bool)(t:TypeId)(K:Kd): Prop :=
 ∀(fuel:Nat) (cs:List Value) (d:DataW H) (ps:List MemPlace),DataW.trod enc P w 0 spare held fuel t cs=some (d,ps)→(∀ m∈DataW.weights P t d,m≤reachBytes) →
  ∃ x:K.T,RD w (fun _=>True) K x cs∧Wf K x
theorem wq1lc(T:TyOk P ty){f:TypeId→Kd→Bool}(hf:∀ t K,f t K=true→ReadAt P enc w spare held t K){n:Nat}{cs:List Value}:
 ∀(fl:List Field) (tfs:List (Nat×TypeId)) (off:Nat) (K:Kd) (xs:List (DataW H×List MemPlace)),fl.map (fun g=>(g.offset,g.type))=tfs→readFs ty f off tfs K=true →
  (∀(i:Nat) (g:Field),fl[i]? = some g→DataW.trod enc P w 0 spare held n g.type ((cs.drop g.offset).take (P.cellsOf g.type))=xs[i]?)→xs.length=fl.length →
  (∀ m∈DataW.weightsEach P (fl.map (·.type)) (xs.map (·.1)),m≤reachBytes)→cs.length=off+K.sz →
  ∃ x:K.T,RD w (fun _=>True) K x (cs.drop off)∧Wf K x
 |[],tfs,off,K,xs,ht,hr,_,_,_,_=>by subst ht;simp[readFs]at hr
 |g::fl,tfs,off,K,xs,ht,hr,hx,hl,hw,hc=>by
  cases xs with
  |nil=>simp at hl
  |cons x xs =>
   have h0:=hx 0 g (by simp)
   have key:∀ a:Kd,Nat.beq g.offset off=true→f g.type a=true→(match ty g.type with|some ti=>Nat.beq ti.size a.sz|none=>false)=true→a.sz≤cs.length-off →
    ∃ y:a.T,RD w (fun _=>True) a y ((cs.drop off).take a.sz)∧Wf a y:=by
    intro a h1 h2 h3 h4
    split at h3
    ·next ti hti =>
     have hsz:P.cellsOf g.type=a.sz:=by rw[(T _ _ hti).cellsOf];exact beqN.1 h3
     rw[beqN.1 h1,hsz]at h0
     obtain⟨d,ps⟩:=x
     refine hf _ _ h2 n _ d ps (by simpa using h0) fun m hm=>hw m ?_
     simp[DataW.weightsEach,hm]
    ·cases h3
   cases fl with
   |nil =>
    subst ht
    simp only[List.map_cons,List.map_nil,readFs,Bool.and_eq_true]at hr
    obtain⟨⟨h1,h2⟩,h3⟩:=hr
    obtain⟨y,hy1,hy2⟩:=key K h1 h2 h3 (by omega)
    refine⟨y,?_,hy2⟩
    rw[List.take_of_length_le (by rw[List.length_drop];omega)]at hy1
    exact hy1
   |cons g2 fl =>
    subst ht
    cases K with
    |pr a b =>
     simp only[List.map_cons,readFs,Bool.and_eq_true]at hr
     obtain⟨⟨⟨h1,h2⟩,h3⟩,h4⟩:=hr
     rw[Kd.sz]at hc
     obtain⟨y,hy1,hy2⟩:=key a h1 h2 h3 (by omega)
     obtain⟨z,hz1,hz2⟩:=wq1lc T hf (n:=n) (g2::fl) _ (off+a.sz) b xs rfl h4 (fun i g' hg'=>by simpa using hx (i+1) g' (by simpa using hg')) (by simpa using hl)
      (fun m hm=>hw m (by simp[DataW.weightsEach]at hm ⊢;exact .inr hm)) (by omega)
     refine⟨(y,z),⟨(cs.drop off).take a.sz,(cs.drop off).drop a.sz,(List.take_append_drop _ _).symm,hy1,?_⟩,hy2,hz2⟩
     rw[List.drop_drop];exact hz1
    |_=>simp[readFs]at hr
theorem wq102{e:TypeId}: ∀ {l:List (DataW H)} {d:DataW H},d∈l→∀ m∈DataW.weights P e d,m∈DataW.weightsAll P e l
 |a::r,d,h,m,hm=>by
  rw[DataW.weightsAll]
  rcases List.mem_cons.1 h with rfl|h
  ·exact List.mem_append_left _ hm
  ·exact List.mem_append_right _ (wq102 h m hm)
 |[],d,h,m,hm=>by cases h
theorem wq1ps{P:Program}{w:World}{a:Addr}{n:Nat}{cs:List Value}(h:w.cells? 0 a n=some cs): cs.length=n∧∀(j:Nat) (u:Value),cs[j]? = some u→w.cell? (a.add j)=some u:=by
 unfold World.cells? at h
 rw[if_pos (Nat.zero_le _)]at h
 have key:∀(l:List Nat) (cs:List Value),l.mapM (fun i=>w.cell? (a.add i))=some cs→cs.length=l.length∧∀(j:Nat) (u:Value),cs[j]? = some u→∃ i,l[j]? = some i∧w.cell? (a.add i)=some u:=by
  intro l
  induction l with
  |nil=>intro cs h;simp at h;subst h;exact⟨rfl,fun j u hj=>by simp at hj⟩
  |cons i l ih =>
   intro cs h
   rw[List.mapM_cons]at h
   cases hc:w.cell? (a.add i)with
   |none=>rw[hc]at h;simp at h
   |some v =>
    cases hl:l.mapM (fun i=>w.cell? (a.add i))with
    |none=>rw[hc,hl]at h;simp at h
    |some r =>
     rw[hc,hl]at h
     simp at h
     subst h
     obtain⟨h1,h2⟩:=ih r hl
     refine⟨by simp[h1],fun j u hj => ?_⟩
     cases j with
     |zero=>simp at hj;subst hj;exact⟨i,by simp,hc⟩
     |succ j=>obtain⟨i',h3,h4⟩:=h2 j u (by simpa using hj);exact⟨i',by simpa using h3,h4⟩
 obtain⟨h1,h2⟩:=key _ _ h
 refine⟨by simpa using h1,fun j u hj => ?_⟩
 obtain⟨i,h3,h4⟩:=h2 j u hj
 have hlt:=(List.getElem?_eq_some_iff.1 h3).1
 have:i=j:=by
  obtain⟨_,e⟩:=List.getElem?_eq_some_iff.1 h3
  simpa using e.symm
 subst this
 exact h4
theorem wq1of(T:TyOk P ty): ∀(n:Nat) (t:TypeId) (K:Kd),readB ty n t K=true→ReadAt P enc w spare held t K
 |0,t,K,h=>by simp[readB]at h
 |n+1,t,K,h=>by
  intro fuel cs d ps ht hw
  rw[readB]at h
  split at h
  ·cases h
  ·next ti hti =>
   have hT:=T _ _ hti
   obtain⟨td,hu,hk⟩:=hT.kind
   split at h
   ·next k k' hk1 =>
    have:k=k':=by simpa using h
    subst this
    rw[hk1]at hk;simp only at hk;subst hk
    obtain⟨m,rfl,_,hwf⟩:=DataW.trod_int hu ht
    simp only[Lit.wf,Bool.and_eq_true,decide_eq_true_eq]at hwf
    exact⟨m,rfl,hwf⟩
   ·next hk1 =>
    rw[hk1]at hk;simp only at hk;subst hk
    obtain⟨b,rfl,_⟩:=DataW.trod_bool hu ht
    exact⟨b,rfl,trivial⟩
   ·next hk1 =>
    rw[hk1]at hk;simp only at hk;subst hk
    obtain⟨s,rfl,hx,_⟩:=DataW.trod_string hu ht
    cases hx
    refine⟨s.data.toList,rfl,?_⟩
    have:=hw _ (by rw[DataW.weights];exact List.mem_cons_self)
    simpa [Wf,reachBytes]using this
   ·next hk1 =>
    rw[hk1]at hk;simp only at hk;subst hk
    cases fuel with
    |zero=>simp[DataW.trod]at ht
    |succ m =>
     unfold DataW.trod at ht
     rw[hu]at ht
     split at ht
     case h_3 k k' b e1 =>
      simp only[Option.some.injEq,TypeDesc.float.injEq]at e1
      subst e1
      split at ht
      ·next hh =>
       obtain⟨rfl,hwf⟩:=hh
       refine⟨b,rfl,?_⟩
       simpa [Lit.wf,Wf]using hwf
      ·cases ht
     all_goals simp_all
   ·next e hk1 =>
    rw[hk1]at hk;simp only at hk;subst hk
    simp only[Bool.and_eq_true]at h
    obtain⟨h1,h2⟩:=h
    split at h1
    ·next ei hei =>
     simp only[Bool.and_eq_true]at h1
     obtain⟨⟨h3,h4⟩,h5⟩:=h1
     have h3:0<ei.size:=Nat.le_of_ble_eq_true h3
     have h4:=beqN.1 h4
     have h5:=Nat.le_of_ble_eq_true h5
     have hE:=T _ _ hei
     rcases DataW.trod_slice hu ht with⟨rfl,_⟩|⟨a,len,cap,elems,rest,m,rfl,rfl,hx,_,hlc,hcm,hel,hat,_⟩
     ·exact⟨[],⟨none,0,rfl,Nat.le_refl _,.inl rfl⟩,by simp,fun y hy=>by cases hy⟩
     ·cases hx
      rw[DataW.weights,hu]at hw
      simp only at hw
      have hlen:=hw _ List.mem_cons_self
      rw[List.length_map,List.length_map,hE.bytesOf]at hlen
      rw[hE.cellsOf,h4]at hat
      have ih:=wq1of T n _ _ h2
      have each:∀ i,i<len→∃(y:e.T) (c:List Value),RD w (fun _=>True) e y c∧Wf e y∧∀(j:Nat) (u:Value),c[j]? = some u→w.cell? (a.add (i*e.sz+j))=some u:=by
       intro i hi
       have h6:=hat i hi
       have h7:elems[i]? = some elems[i]:=by simp[hel,hi]
       rw[h7]at h6
       cases hc:w.cells? 0 (a.add (i*e.sz)) e.sz with
       |none=>rw[hc]at h6;simp at h6
       |some c =>
        rw[hc,Option.bind_some]at h6
        obtain⟨y,hy1,hy2⟩:=ih m c elems[i].1 elems[i].2 (by rw[h6]) (fun q hq=>hw q (List.mem_cons_of_mem _ (List.mem_append_left _ (wq102 (List.mem_map.2 ⟨elems[i],List.getElem_mem _,rfl⟩) q hq))))
        obtain⟨_,hcell⟩:=wq1ps (P:=P) hc
        refine⟨y,c,hy1,hy2,fun j u hj => ?_⟩
        rw[←Addr.add_add];exact hcell j u hj
      have all:∃ l:List e.T,l.length=len∧(∀ y∈l,Wf e y)∧∀(i:Nat) (y:e.T),l[i]? = some y→∃ c,RD w (fun _=>True) e y c∧∀(j:Nat) (u:Value),c[j]? = some u→w.cell? (a.add (i*e.sz+j))=some u:=by
       have key:∀ k,k≤len→∃ l:List e.T,l.length=k∧(∀ y∈l,Wf e y)∧∀(i:Nat) (y:e.T),l[i]? = some y→∃ c,RD w (fun _=>True) e y c∧∀(j:Nat) (u:Value),c[j]? = some u→w.cell? (a.add (i*e.sz+j))=some u:=by
        intro k
        induction k with
        |zero=>intro _;exact⟨[],rfl,fun y hy=>(by cases hy),fun i y hi=>by simp at hi⟩
        |succ k ihk =>
         intro hk
         obtain⟨l,hl1,hl2,hl3⟩:=ihk (by omega)
         obtain⟨y,c,e1,e2,e3⟩:=each k (by omega)
         refine⟨l++[y],by simp[hl1],fun z hz => ?_,fun i z hz => ?_⟩
         ·rcases List.mem_append.1 hz with hz|hz
          ·exact hl2 z hz
          ·simp at hz;subst hz;exact e2
         ·by_cases hi:i<l.length
          ·rw[List.getElem?_append_left hi]at hz;exact hl3 i z hz
          ·rw[List.getElem?_append_right (by omega)]at hz
           have hi2:i=k:=by
            have:=(List.getElem?_eq_some_iff.1 hz).1
            simp at this;omega
           subst hi2
           simp[hl1]at hz;subst hz
           exact⟨c,e1,e3⟩
       exact key len (Nat.le_refl _)
      obtain⟨l,hl1,hl2,hl3⟩:=all
      refine⟨l,⟨some a,cap,by rw[hl1],by omega,?_⟩,?_,hl2⟩
      ·by_cases hnil:l=[]
       ·exact .inl hnil
       ·refine .inr ⟨a,rfl,trivial,?_,hl3⟩
        have hpos:0<l.length:=List.length_pos_iff.2 hnil
        obtain⟨c,hc,hu'⟩:=hl3 0 l[0] (by simp)
        have hcl:=hc.len
        have h0c:0<c.length:=by omega
        have:=hu' 0 c[0] (by simp[h0c])
        simp only[Nat.zero_mul,Nat.add_zero,Addr.add_zero']at this
        refine Classical.byContradiction fun hno => ?_
        simp[World.cell?,Array.getElem?_eq_none (Nat.le_of_not_lt hno)]at this
      ·rw[hl1,←hel]
       refine Nat.le_trans (Nat.mul_le_mul_left _ h5) ?_
       refine Nat.le_trans (Nat.mul_le_mul_right _ (Nat.le_add_right _ rest.length)) ?_
       simpa [reachBytes]using hlen
    ·cases h1
   ·next hk1 =>
    rw[hk1]at hk;simp only at hk
    obtain⟨fs,rfl,hfs,_⟩:=hk
    simp only[Bool.and_eq_true]at h
    obtain⟨h1,h2⟩:=h
    obtain⟨xs,m,rfl,hx,hcl,hxl,hat⟩:=DataW.trod_struct hu ht
    cases hx
    rw[DataW.weights,hu]at hw
    simp only at hw
    rw[hT.cellsOf,beqN.1 h2]at hcl
    have:=wq1lc (enc:=enc) (w:=w) (spare:=spare) (held:=held) T (f:=readB ty n) (fun t K h=>wq1of T n t K h) (n:=m) (cs:=cs) fs.toList ti.fs 0 _ xs hfs h1 (fun i g hg=>hat i g (by simpa using hg)) (by simpa using hxl) hw (by omega)
    rwa [List.drop_zero]at this
   ·cases h
theorem okT{h:Heap}{G:Gh}(hh:∀ n,h n=none)(hX:∀ b,¬ G.X b){b:Nat}: okB h G b:=⟨fun n hn=>by simp[blkOf,hh n]at hn,hX b⟩
theorem wq1qr (T:TyOk P ty) {n base:Nat} {r:Reach} {t:TypeId} {K:Kd} (hr:readB ty n t K=true) (hs:(match ty t with|some ti=>(match ti.k with | .struct=>false|_=>true)|none=>false)=true) {v:Value} {d:DataW H} {p:List MemPlace} (hval:Value.okWide P w r base t v) (hd:DataW.Trod enc P w 0 spare held t v d p)
 (hw:∀ m∈DataW.weights P t d,m≤reachBytes) {h:Heap} {G:Gh} (hh:∀ n,h n=none) (hX:∀ b,¬ G.X b):∃ x:K.T,Wf K x∧RV h G w (.v K x) v:=by
 obtain⟨fuel,hf⟩:=hd
 obtain⟨x,h1,h2⟩:=wq1of T n t K hr fuel _ d p hf hw
 refine⟨x,h2,?_⟩
 have hc:v.cells.toList=[v]:=by
  split at hs
  ·next ti hti =>
   obtain⟨td,hu,hk⟩:=(T _ _ hti).kind
   rw[readB.eq_def]at hr
   cases n with
   |zero=>simp at hr
   |succ n =>
    simp only[hti]at hr
    split at hr
    ·next hk1=>rw[hk1]at hk;simp only at hk;subst hk;obtain⟨m,rfl⟩:=WideShapes.okWide_int hu hval;rfl
    ·next hk1=>rw[hk1]at hk;simp only at hk;subst hk;simp only[Value.okWide,hu,Cell.okWide]at hval;cases v<;>simp_all [Cell.ok,Value.cells]
    ·next hk1=>rw[hk1]at hk;simp only at hk;subst hk;obtain⟨m,rfl⟩:=WideShapes.okWide_string hu hval;rfl
    ·next hk1=>rw[hk1]at hk;simp only at hk;subst hk;simp only[Value.okWide,hu,Cell.okWide]at hval;cases v<;>simp_all [Cell.ok,Value.cells]
    ·next hk1=>rw[hk1]at hk;simp only at hk;subst hk;obtain⟨a,l,c,rfl⟩:=WideShapes.okWide_slice hu hval;rfl
    ·next hk1=>rw[hk1]at hs;cases hs
    ·cases hr
  ·cases hs
 show RD w (okB h G) K x [v]
 rw[←hc]
 exact h1.mono fun b _ _=>⟨okT hh hX,rfl⟩
def lawK:Out→Option Bool
 |.ret [.v .bool y] []=>some y
 |_=>none
def G0:Gh:=⟨fun _=>0,fun _ => .nilIface,fun _=>False⟩
theorem enters{f:FuncId}{fn:Func}{c:Code}(hfn:P.funcs[f]? = some fn)(hb:fn.body=some c)(hname:(fn.name == "runtime.NumGoroutine")=false)(args:Array Value)(w:World): (callFunc f args).run P w = .ok (.enter f args) w:=by
 have hn2:¬ fn.name = "runtime.NumGoroutine" := by simpa using hname
 simp[callFunc,program,Sem.run,hfn,hn2,hb]
theorem wq1ld{f:FuncId}{fn:Func}{c:Code}(hfn:P.funcs[f]? = some fn)(hb:fn.body=some c)(hname:(fn.name == "runtime.NumGoroutine")=false){ps:List PV}{b:Bool}(h:DoesTo P f ps [] fun out=>lawK out=some b){vals:List Value}(hv:RVs (mkH []) G0 w ps vals):
 Calls P f vals.toArray w fun e w'=>e = .returned (.bool b)∧Below w.heap.size w w':=by
 have:=h G0 w vals hv (fun n o hn=>by cases hn) ⟨fun n m b hn=>by simp[blkOf,mkH,look]at hn,fun n b hn=>by simp[blkOf,mkH,look]at hn,fun b hb=>hb.elim⟩
 unfold Does at this
 rw[enters hfn hb hname]at this
 refine Calls.mono this fun e w' hh => ?_
 obtain⟨out,ho,G',hout,F⟩:=hh
 unfold lawK at ho
 split at ho
 ·cases ho
  obtain⟨v,rfl,hv⟩:=hout
  have hv:RD _ _ .bool b [v]:=hv
  simp only[RD,List.cons.injEq,and_true]at hv
  subst hv
  exact⟨rfl,F.os,F.tape,F.out,F.grow,fun k hk=>F.blk k hk fun n hn=>by simp[blkOf,mkH,look]at hn⟩
 ·cases ho
theorem wq1le{G:Gh}{w w':World}(b:Below w.heap.size w w'): Fin [] [] G w G w' :=
 ⟨fun n o h=>(by cases h),fun n m b h=>(by simp[blkOf,mkH,look]at h),fun n t cs h=>(by cases h),fun n ag V es h=>(by cases h),fun k hk _=>b.block k hk,rfl,fun n b h=>(by simp[blkOf,mkH,look]at h),b.size,b.os,b.tape,b.output⟩
theorem wq1og{ts:List TypeId}{ds:List (DataW H)}{vt:List TypeId}{gs:List (DataW H)}(h:(DataW.weightsEach P (ts++vt) (ds++gs)).all (· ≤ reachBytes)=true): ∀(i:Nat) (t:TypeId) (d:DataW H),ts[i]? = some t→ds[i]? = some d→∀ m∈DataW.weights P t d,m≤reachBytes:=by
 have key:∀(ts:List TypeId) (ds:List (DataW H)),(∀ m∈DataW.weightsEach P (ts++vt) (ds++gs),m≤reachBytes)→∀(i:Nat) (t:TypeId) (d:DataW H),ts[i]? = some t→ds[i]? = some d→∀ m∈DataW.weights P t d,m≤reachBytes:=by
  intro ts
  induction ts with
  |nil=>intro ds _ i t d ht;simp at ht
  |cons t0 ts ih =>
   intro ds hw i t d ht hd m hm
   cases ds with
   |nil=>simp at hd
   |cons d0 ds =>
    simp only[List.cons_append,DataW.weightsEach]at hw
    cases i with
    |zero=>simp at ht hd;subst ht hd;exact hw m (List.mem_append_left _ hm)
    |succ i=>exact ih ds (fun m hm=>hw m (List.mem_append_right _ hm)) i t d (by simpa using ht) (by simpa using hd) m hm
 exact key ts ds (by simpa using h)
end
end Go.Proofs.YtabkhphoacmcdaaGreatDoor.Pvm
set_option maxRecDepth 100000
namespace Go.Proofs.YtabkhphoacmcdaaGreatDoor.Pvm
open Go Go.Proofs
abbrev kI:Kd := .int .i64
abbrev kdT37:Kd:=(.sl (.pr (.int .i64) (.pr (.int .i64) (.pr .str (.pr .bool (.pr (.sl .str) (.sl (.int .i64))))))))
abbrev kdT56:Kd:=(.pr .str (.pr .str (.pr .bool (.pr (.int .i64) (.pr (.int .i64) (.pr .bool (.pr (.pr .str (.pr (.int .i64) (.pr (.int .i64) (.pr .flt (.pr .bool .bool))))) (.sl (.int .i64)))))))))
abbrev kdT72:Kd:=(.pr (.int .i64) (.pr (.int .i64) (.pr .str (.pr .bool (.pr (.sl .str) (.sl (.int .i64)))))))
abbrev kdT150:Kd:=(.pr (.int .i64) (.pr (.int .i64) .str))
abbrev kdT156:Kd:=(.pr (.int .i64) (.pr (.int .i64) (.pr (.int .i64) (.pr .str .bool))))
abbrev dT43:Type:=((List UInt8)×(Int×Int))
abbrev dT150:Type:=(Int×(Int×(List UInt8)))
abbrev dT156:Type:=(Int×(Int×(Int×((List UInt8)×Bool))))
abbrev dT54:Type:=((List UInt8)×(Int×(Int×(Nat×(Bool×Bool)))))
abbrev dT72:Type:=(Int×(Int×((List UInt8)×(Bool×((List (List UInt8))×(List Int))))))
abbrev dT37:Type:=(List dT72)
abbrev dT56:Type:=((List UInt8)×((List UInt8)×(Bool×(Int×(Int×(Bool×(dT54×(List Int))))))))
theorem mixed:Tryz.prog.follows .mixedOrders=true:=by kernel_rfl
def ti1:TI:=⟨.other,1,8,none,[.un],[],0,false⟩
theorem ti1_ok:TiOk Tryz.prog 1 ti1:=TiOk.of (z:=Go.Value.nilFunc) (d:=(@Go.TypeDesc.func (@Array.mk Nat (@List.nil Nat)) (@Array.mk Nat (@List.nil Nat)) Bool.false)) (by kernel_rfl) (by kernel_rfl) (by kernel_rfl) trivial rfl trivial (by kernel_rfl) (fun h=>nomatch h)
def ti2:TI:=⟨.int .i64,1,8,some (.int .i64),[.v (.int .i64) 0],[],0,false⟩
theorem ti2_ok:TiOk Tryz.prog 2 ti2:=TiOk.of (z:=(@Go.Value.int Go.IntKind.i64 (@Int.ofNat 0))) (d:=(@Go.TypeDesc.int Go.IntKind.i64)) (by kernel_rfl) (by kernel_rfl) (by kernel_rfl) ⟨by kernel_rfl,by kernel_rfl⟩ rfl rfl (by kernel_rfl) (fun h=>nomatch h)
def ti3:TI:=⟨.int .i64,1,8,some (.int .i64),[.v (.int .i64) 0],[],0,false⟩
theorem ti3_ok:TiOk Tryz.prog 3 ti3:=TiOk.of (z:=(@Go.Value.int Go.IntKind.i64 (@Int.ofNat 0))) (d:=(@Go.TypeDesc.int Go.IntKind.i64)) (by kernel_rfl) (by kernel_rfl) (by kernel_rfl) ⟨by kernel_rfl,by kernel_rfl⟩ rfl rfl (by kernel_rfl) (fun h=>nomatch h)
def ti4:TI:=⟨.bool,1,1,some .bool,[.v .bool false],[],0,false⟩
theorem ti4_ok:TiOk Tryz.prog 4 ti4:=TiOk.of (z:=(@Go.Value.bool Bool.false)) (d:=Go.TypeDesc.bool) (by kernel_rfl) (by kernel_rfl) (by kernel_rfl) ⟨by kernel_rfl,by kernel_rfl⟩ rfl rfl (by kernel_rfl) (fun h=>nomatch h)
def ti5:TI:=⟨.int .u8,1,1,some (.int .u8),[.v (.int .u8) 0],[],0,false⟩
theorem ti5_ok:TiOk Tryz.prog 5 ti5:=TiOk.of (z:=(@Go.Value.int Go.IntKind.u8 (@Int.ofNat 0))) (d:=(@Go.TypeDesc.int Go.IntKind.u8)) (by kernel_rfl) (by kernel_rfl) (by kernel_rfl) ⟨by kernel_rfl,by kernel_rfl⟩ rfl rfl (by kernel_rfl) (fun h=>nomatch h)
def ti6:TI:=⟨.int .u8,1,1,some (.int .u8),[.v (.int .u8) 0],[],0,false⟩
theorem ti6_ok:TiOk Tryz.prog 6 ti6:=TiOk.of (z:=(@Go.Value.int Go.IntKind.u8 (@Int.ofNat 0))) (d:=(@Go.TypeDesc.int Go.IntKind.u8)) (by kernel_rfl) (by kernel_rfl) (by kernel_rfl) ⟨by kernel_rfl,by kernel_rfl⟩ rfl rfl (by kernel_rfl) (fun h=>nomatch h)
def ti7:TI:=⟨.struct,4,24,some (.pr (.int .i64) (.pr (.int .i64) (.pr .bool (.int .u8)))),[.v (.int .i64) 0,.v (.int .i64) 0,.v .bool false,.v (.int .u8) 0],[(0,2),(1,3),(2,4),(3,6)],0,true⟩
theorem ti7_ok:TiOk Tryz.prog 7 ti7:=TiOk.of (z:=(@Go.Value.agg (@Array.mk Go.Value (@List.cons Go.Value (@Go.Value.int Go.IntKind.i64 (@Int.ofNat 0)) (@List.cons Go.Value (@Go.Value.int Go.IntKind.i64 (@Int.ofNat 0)) (@List.cons Go.Value (@Go.Value.bool Bool.false) (@List.cons Go.Value (@Go.Value.int Go.IntKind.u8 (@Int.ofNat 0)) (@List.nil Go.Value)))))))) (d:=(@Go.TypeDesc.struct (@Array.mk Go.Field (@List.cons Go.Field (@Go.Field.mk "x" 2 0 Bool.false "" "runtime" 0) (@List.cons Go.Field (@Go.Field.mk "y" 3 1 Bool.false "" "runtime" 8) (@List.cons Go.Field (@Go.Field.mk "signed" 4 2 Bool.false "" "runtime" 16) (@List.cons Go.Field (@Go.Field.mk "code" 6 3 Bool.false "" "runtime" 17) (@List.nil Go.Field)))))))) (by kernel_rfl) (by kernel_rfl) (by kernel_rfl) ⟨by kernel_rfl,by kernel_rfl⟩ ⟨_,rfl⟩ ⟨_,rfl,by kernel_rfl,by kernel_rfl⟩ (by kernel_rfl) (fun _ _=>by kernel_rfl)
def ti8:TI:=⟨.struct,4,24,some (.pr (.int .i64) (.pr (.int .i64) (.pr .bool (.int .u8)))),[.v (.int .i64) 0,.v (.int .i64) 0,.v .bool false,.v (.int .u8) 0],[(0,2),(1,3),(2,4),(3,6)],0,true⟩
theorem ti8_ok:TiOk Tryz.prog 8 ti8:=TiOk.of (z:=(@Go.Value.agg (@Array.mk Go.Value (@List.cons Go.Value (@Go.Value.int Go.IntKind.i64 (@Int.ofNat 0)) (@List.cons Go.Value (@Go.Value.int Go.IntKind.i64 (@Int.ofNat 0)) (@List.cons Go.Value (@Go.Value.bool Bool.false) (@List.cons Go.Value (@Go.Value.int Go.IntKind.u8 (@Int.ofNat 0)) (@List.nil Go.Value)))))))) (d:=(@Go.TypeDesc.struct (@Array.mk Go.Field (@List.cons Go.Field (@Go.Field.mk "x" 2 0 Bool.false "" "runtime" 0) (@List.cons Go.Field (@Go.Field.mk "y" 3 1 Bool.false "" "runtime" 8) (@List.cons Go.Field (@Go.Field.mk "signed" 4 2 Bool.false "" "runtime" 16) (@List.cons Go.Field (@Go.Field.mk "code" 6 3 Bool.false "" "runtime" 17) (@List.nil Go.Field)))))))) (by kernel_rfl) (by kernel_rfl) (by kernel_rfl) ⟨by kernel_rfl,by kernel_rfl⟩ ⟨_,rfl⟩ ⟨_,rfl,by kernel_rfl,by kernel_rfl⟩ (by kernel_rfl) (fun _ _=>by kernel_rfl)
def ti9:TI:=⟨.str,1,16,some .str,[.v .str []],[],0,false⟩
theorem ti9_ok:TiOk Tryz.prog 9 ti9:=TiOk.of (z:=(@Go.Value.string (@ByteArray.mk (@Array.mk UInt8 (@List.nil UInt8))))) (d:=Go.TypeDesc.string) (by kernel_rfl) (by kernel_rfl) (by kernel_rfl) ⟨by kernel_rfl,by kernel_rfl⟩ rfl rfl (by kernel_rfl) (fun h=>nomatch h)
def ti10:TI:=⟨.str,1,16,some .str,[.v .str []],[],0,false⟩
theorem wq1ss:TiOk Tryz.prog 10 ti10:=TiOk.of (z:=(@Go.Value.string (@ByteArray.mk (@Array.mk UInt8 (@List.nil UInt8))))) (d:=Go.TypeDesc.string) (by kernel_rfl) (by kernel_rfl) (by kernel_rfl) ⟨by kernel_rfl,by kernel_rfl⟩ rfl rfl (by kernel_rfl) (fun h=>nomatch h)
def ti11:TI:=⟨.str,1,16,some .str,[.v .str []],[],0,false⟩
theorem wq1st:TiOk Tryz.prog 11 ti11:=TiOk.of (z:=(@Go.Value.string (@ByteArray.mk (@Array.mk UInt8 (@List.nil UInt8))))) (d:=Go.TypeDesc.string) (by kernel_rfl) (by kernel_rfl) (by kernel_rfl) ⟨by kernel_rfl,by kernel_rfl⟩ rfl rfl (by kernel_rfl) (fun h=>nomatch h)
def ti12:TI:=⟨.int .u64,1,8,some (.int .u64),[.v (.int .u64) 0],[],0,false⟩
theorem wq1su:TiOk Tryz.prog 12 ti12:=TiOk.of (z:=(@Go.Value.int Go.IntKind.u64 (@Int.ofNat 0))) (d:=(@Go.TypeDesc.int Go.IntKind.u64)) (by kernel_rfl) (by kernel_rfl) (by kernel_rfl) ⟨by kernel_rfl,by kernel_rfl⟩ rfl rfl (by kernel_rfl) (fun h=>nomatch h)
def ti13:TI:=⟨.struct,2,24,some (.pr .str (.int .u64)),[.v .str [],.v (.int .u64) 0],[(0,9),(1,12)],0,false⟩
theorem wq1sv:TiOk Tryz.prog 13 ti13:=TiOk.of (z:=(@Go.Value.agg (@Array.mk Go.Value (@List.cons Go.Value (@Go.Value.string (@ByteArray.mk (@Array.mk UInt8 (@List.nil UInt8)))) (@List.cons Go.Value (@Go.Value.int Go.IntKind.u64 (@Int.ofNat 0)) (@List.nil Go.Value)))))) (d:=(@Go.TypeDesc.struct (@Array.mk Go.Field (@List.cons Go.Field (@Go.Field.mk "msg" 9 0 Bool.false "" "runtime" 0) (@List.cons Go.Field (@Go.Field.mk "addr" 12 1 Bool.false "" "runtime" 16) (@List.nil Go.Field)))))) (by kernel_rfl) (by kernel_rfl) (by kernel_rfl) ⟨by kernel_rfl,by kernel_rfl⟩ ⟨_,rfl⟩ ⟨_,rfl,by kernel_rfl,by kernel_rfl⟩ (by kernel_rfl) (fun h=>nomatch h)
def ti14:TI:=⟨.struct,2,24,some (.pr .str (.int .u64)),[.v .str [],.v (.int .u64) 0],[(0,9),(1,12)],0,false⟩
theorem wq1sw:TiOk Tryz.prog 14 ti14:=TiOk.of (z:=(@Go.Value.agg (@Array.mk Go.Value (@List.cons Go.Value (@Go.Value.string (@ByteArray.mk (@Array.mk UInt8 (@List.nil UInt8)))) (@List.cons Go.Value (@Go.Value.int Go.IntKind.u64 (@Int.ofNat 0)) (@List.nil Go.Value)))))) (d:=(@Go.TypeDesc.struct (@Array.mk Go.Field (@List.cons Go.Field (@Go.Field.mk "msg" 9 0 Bool.false "" "runtime" 0) (@List.cons Go.Field (@Go.Field.mk "addr" 12 1 Bool.false "" "runtime" 16) (@List.nil Go.Field)))))) (by kernel_rfl) (by kernel_rfl) (by kernel_rfl) ⟨by kernel_rfl,by kernel_rfl⟩ ⟨_,rfl⟩ ⟨_,rfl,by kernel_rfl,by kernel_rfl⟩ (by kernel_rfl) (fun h=>nomatch h)
def ti15:TI:=⟨.ptr,1,8,none,[.nilptr],[],260,false⟩
theorem wq1sx:TiOk Tryz.prog 15 ti15:=TiOk.of (z:=(@Go.Value.pointer (@Option.none Go.Addr))) (d:=(@Go.TypeDesc.pointer 260)) (by kernel_rfl) (by kernel_rfl) (by kernel_rfl) trivial rfl rfl (by kernel_rfl) (fun h=>nomatch h)
def ti16:TI:=⟨.ptr,1,8,none,[.nilptr],[],263,false⟩
theorem wq1sy:TiOk Tryz.prog 16 ti16:=TiOk.of (z:=(@Go.Value.pointer (@Option.none Go.Addr))) (d:=(@Go.TypeDesc.pointer 263)) (by kernel_rfl) (by kernel_rfl) (by kernel_rfl) trivial rfl rfl (by kernel_rfl) (fun h=>nomatch h)
def ti17:TI:=⟨.ptr,1,8,none,[.nilptr],[],270,false⟩
theorem wq1sz:TiOk Tryz.prog 17 ti17:=TiOk.of (z:=(@Go.Value.pointer (@Option.none Go.Addr))) (d:=(@Go.TypeDesc.pointer 270)) (by kernel_rfl) (by kernel_rfl) (by kernel_rfl) trivial rfl rfl (by kernel_rfl) (fun h=>nomatch h)
def ti18:TI:=⟨.struct,1,8,none,[.nilptr],[(0,17)],0,false⟩
theorem wq1t0:TiOk Tryz.prog 18 ti18:=TiOk.of (z:=(@Go.Value.agg (@Array.mk Go.Value (@List.cons Go.Value (@Go.Value.pointer (@Option.none Go.Addr)) (@List.nil Go.Value))))) (d:=(@Go.TypeDesc.struct (@Array.mk Go.Field (@List.cons Go.Field (@Go.Field.mk "typ" 17 0 Bool.false "" "internal/runtime/maps" 0) (@List.nil Go.Field))))) (by kernel_rfl) (by kernel_rfl) (by kernel_rfl) trivial ⟨_,rfl⟩ ⟨_,rfl,by kernel_rfl,by kernel_rfl⟩ (by kernel_rfl) (fun h=>nomatch h)
def ti19:TI:=⟨.struct,1,8,none,[.nilptr],[(0,17)],0,false⟩
theorem wq1t1:TiOk Tryz.prog 19 ti19:=TiOk.of (z:=(@Go.Value.agg (@Array.mk Go.Value (@List.cons Go.Value (@Go.Value.pointer (@Option.none Go.Addr)) (@List.nil Go.Value))))) (d:=(@Go.TypeDesc.struct (@Array.mk Go.Field (@List.cons Go.Field (@Go.Field.mk "typ" 17 0 Bool.false "" "internal/runtime/maps" 0) (@List.nil Go.Field))))) (by kernel_rfl) (by kernel_rfl) (by kernel_rfl) trivial ⟨_,rfl⟩ ⟨_,rfl,by kernel_rfl,by kernel_rfl⟩ (by kernel_rfl) (fun h=>nomatch h)
def ti20:TI:=⟨.iface,1,16,none,[.nilif],[],0,false⟩
theorem wq1t2:TiOk Tryz.prog 20 ti20:=TiOk.of (z:=Go.Value.nilIface) (d:=(@Go.TypeDesc.interface (@Array.mk (@Prod String Nat) (@List.nil (@Prod String Nat))))) (by kernel_rfl) (by kernel_rfl) (by kernel_rfl) trivial rfl ⟨_,rfl⟩ (by kernel_rfl) (fun h=>nomatch h)
def ti21:TI:=⟨.int .i32,1,4,some (.int .i32),[.v (.int .i32) 0],[],0,false⟩
theorem wq1t3:TiOk Tryz.prog 21 ti21:=TiOk.of (z:=(@Go.Value.int Go.IntKind.i32 (@Int.ofNat 0))) (d:=(@Go.TypeDesc.int Go.IntKind.i32)) (by kernel_rfl) (by kernel_rfl) (by kernel_rfl) ⟨by kernel_rfl,by kernel_rfl⟩ rfl rfl (by kernel_rfl) (fun h=>nomatch h)
def ti22:TI:=⟨.slice,1,24,some (.sl (.int .u8)),[.nilsl],[],5,false⟩
theorem wq1t4:TiOk Tryz.prog 22 ti22:=TiOk.of (z:=(@Go.Value.slice (@Option.none Go.Addr) 0 0)) (d:=(@Go.TypeDesc.slice 5)) (by kernel_rfl) (by kernel_rfl) (by kernel_rfl) ⟨by kernel_rfl,by kernel_rfl⟩ rfl rfl (by kernel_rfl) (fun h=>nomatch h)
def ti23:TI:=⟨.other,1,8,none,[.un],[],0,false⟩
theorem wq1t5:TiOk Tryz.prog 23 ti23:=TiOk.of (z:=Go.Value.nilFunc) (d:=(@Go.TypeDesc.func (@Array.mk Nat (@List.nil Nat)) (@Array.mk Nat (@List.cons Nat 4 (@List.nil Nat))) Bool.false)) (by kernel_rfl) (by kernel_rfl) (by kernel_rfl) trivial rfl trivial (by kernel_rfl) (fun h=>nomatch h)
def ti24:TI:=⟨.slice,1,24,some (.sl (.pr .str (.sl (.int .i64)))),[.nilsl],[],64,false⟩
theorem wq1t6:TiOk Tryz.prog 24 ti24:=TiOk.of (z:=(@Go.Value.slice (@Option.none Go.Addr) 0 0)) (d:=(@Go.TypeDesc.slice 64)) (by kernel_rfl) (by kernel_rfl) (by kernel_rfl) ⟨by kernel_rfl,by kernel_rfl⟩ rfl rfl (by kernel_rfl) (fun h=>nomatch h)
def ti25:TI:=⟨.slice,1,24,some (.sl (.pr .str (.pr .str (.pr .bool (.pr (.int .i64) (.pr (.int .i64) (.pr .bool (.pr (.pr .str (.pr (.int .i64) (.pr (.int .i64) (.pr .flt (.pr .bool .bool))))) (.sl (.int .i64)))))))))),[.nilsl],[],57,false⟩
theorem wq1t7:TiOk Tryz.prog 25 ti25:=TiOk.of (z:=(@Go.Value.slice (@Option.none Go.Addr) 0 0)) (d:=(@Go.TypeDesc.slice 57)) (by kernel_rfl) (by kernel_rfl) (by kernel_rfl) ⟨by kernel_rfl,by kernel_rfl⟩ rfl rfl (by kernel_rfl) (fun h=>nomatch h)
def ti26:TI:=⟨.struct,2,48,some (.pr (.sl (.pr .str (.sl (.int .i64)))) (.sl (.pr .str (.pr .str (.pr .bool (.pr (.int .i64) (.pr (.int .i64) (.pr .bool (.pr (.pr .str (.pr (.int .i64) (.pr (.int .i64) (.pr .flt (.pr .bool .bool))))) (.sl (.int .i64))))))))))),[.nilsl,.nilsl],[(0,24),(1,25)],0,false⟩
theorem wq1t8:TiOk Tryz.prog 26 ti26:=TiOk.of (z:=(@Go.Value.agg (@Array.mk Go.Value (@List.cons Go.Value (@Go.Value.slice (@Option.none Go.Addr) 0 0) (@List.cons Go.Value (@Go.Value.slice (@Option.none Go.Addr) 0 0) (@List.nil Go.Value)))))) (d:=(@Go.TypeDesc.struct (@Array.mk Go.Field (@List.cons Go.Field (@Go.Field.mk "Domains" 24 0 Bool.false "" "" 0) (@List.cons Go.Field (@Go.Field.mk "Branches" 25 1 Bool.false "" "" 24) (@List.nil Go.Field)))))) (by kernel_rfl) (by kernel_rfl) (by kernel_rfl) ⟨by kernel_rfl,by kernel_rfl⟩ ⟨_,rfl⟩ ⟨_,rfl,by kernel_rfl,by kernel_rfl⟩ (by kernel_rfl) (fun h=>nomatch h)
def ti27:TI:=⟨.struct,2,48,some (.pr (.sl (.pr .str (.sl (.int .i64)))) (.sl (.pr .str (.pr .str (.pr .bool (.pr (.int .i64) (.pr (.int .i64) (.pr .bool (.pr (.pr .str (.pr (.int .i64) (.pr (.int .i64) (.pr .flt (.pr .bool .bool))))) (.sl (.int .i64))))))))))),[.nilsl,.nilsl],[(0,24),(1,25)],0,false⟩
theorem wq1t9:TiOk Tryz.prog 27 ti27:=TiOk.of (z:=(@Go.Value.agg (@Array.mk Go.Value (@List.cons Go.Value (@Go.Value.slice (@Option.none Go.Addr) 0 0) (@List.cons Go.Value (@Go.Value.slice (@Option.none Go.Addr) 0 0) (@List.nil Go.Value)))))) (d:=(@Go.TypeDesc.struct (@Array.mk Go.Field (@List.cons Go.Field (@Go.Field.mk "Domains" 24 0 Bool.false "" "" 0) (@List.cons Go.Field (@Go.Field.mk "Branches" 25 1 Bool.false "" "" 24) (@List.nil Go.Field)))))) (by kernel_rfl) (by kernel_rfl) (by kernel_rfl) ⟨by kernel_rfl,by kernel_rfl⟩ ⟨_,rfl⟩ ⟨_,rfl,by kernel_rfl,by kernel_rfl⟩ (by kernel_rfl) (fun h=>nomatch h)
def ti28:TI:=⟨.struct,2,16,some (.pr (.int .i64) (.int .i64)),[.v (.int .i64) 0,.v (.int .i64) 0],[(0,3),(1,3)],0,true⟩
theorem wq1ta:TiOk Tryz.prog 28 ti28:=TiOk.of (z:=(@Go.Value.agg (@Array.mk Go.Value (@List.cons Go.Value (@Go.Value.int Go.IntKind.i64 (@Int.ofNat 0)) (@List.cons Go.Value (@Go.Value.int Go.IntKind.i64 (@Int.ofNat 0)) (@List.nil Go.Value)))))) (d:=(@Go.TypeDesc.struct (@Array.mk Go.Field (@List.cons Go.Field (@Go.Field.mk "Kind" 3 0 Bool.false "" "" 0) (@List.cons Go.Field (@Go.Field.mk "Line" 3 1 Bool.false "" "" 8) (@List.nil Go.Field)))))) (by kernel_rfl) (by kernel_rfl) (by kernel_rfl) ⟨by kernel_rfl,by kernel_rfl⟩ ⟨_,rfl⟩ ⟨_,rfl,by kernel_rfl,by kernel_rfl⟩ (by kernel_rfl) (fun _ _=>by kernel_rfl)
def ti29:TI:=⟨.struct,2,16,some (.pr (.int .i64) (.int .i64)),[.v (.int .i64) 0,.v (.int .i64) 0],[(0,3),(1,3)],0,true⟩
theorem wq1tb:TiOk Tryz.prog 29 ti29:=TiOk.of (z:=(@Go.Value.agg (@Array.mk Go.Value (@List.cons Go.Value (@Go.Value.int Go.IntKind.i64 (@Int.ofNat 0)) (@List.cons Go.Value (@Go.Value.int Go.IntKind.i64 (@Int.ofNat 0)) (@List.nil Go.Value)))))) (d:=(@Go.TypeDesc.struct (@Array.mk Go.Field (@List.cons Go.Field (@Go.Field.mk "Kind" 3 0 Bool.false "" "" 0) (@List.cons Go.Field (@Go.Field.mk "Line" 3 1 Bool.false "" "" 8) (@List.nil Go.Field)))))) (by kernel_rfl) (by kernel_rfl) (by kernel_rfl) ⟨by kernel_rfl,by kernel_rfl⟩ ⟨_,rfl⟩ ⟨_,rfl,by kernel_rfl,by kernel_rfl⟩ (by kernel_rfl) (fun _ _=>by kernel_rfl)
def ti31:TI:=⟨.other,1,8,none,[.un],[],0,false⟩
theorem wq1tc:TiOk Tryz.prog 31 ti31:=TiOk.of (z:=Go.Value.nilFunc) (d:=(@Go.TypeDesc.func (@Array.mk Nat (@List.cons Nat 22 (@List.nil Nat))) (@Array.mk Nat (@List.cons Nat 27 (@List.cons Nat 29 (@List.nil Nat)))) Bool.false)) (by kernel_rfl) (by kernel_rfl) (by kernel_rfl) trivial rfl trivial (by kernel_rfl) (fun h=>nomatch h)
def ti32:TI:=⟨.other,1,8,none,[.un],[],0,false⟩
theorem wq1td:TiOk Tryz.prog 32 ti32:=TiOk.of (z:=Go.Value.nilFunc) (d:=(@Go.TypeDesc.func (@Array.mk Nat (@List.cons Nat 27 (@List.cons Nat 27 (@List.nil Nat)))) (@Array.mk Nat (@List.cons Nat 4 (@List.nil Nat))) Bool.false)) (by kernel_rfl) (by kernel_rfl) (by kernel_rfl) trivial rfl trivial (by kernel_rfl) (fun h=>nomatch h)
def ti33:TI:=⟨.int .i64,1,8,some (.int .i64),[.v (.int .i64) 0],[],0,false⟩
theorem wq1te:TiOk Tryz.prog 33 ti33:=TiOk.of (z:=(@Go.Value.int Go.IntKind.i64 (@Int.ofNat 0))) (d:=(@Go.TypeDesc.int Go.IntKind.i64)) (by kernel_rfl) (by kernel_rfl) (by kernel_rfl) ⟨by kernel_rfl,by kernel_rfl⟩ rfl rfl (by kernel_rfl) (fun h=>nomatch h)
def ti34:TI:=⟨.other,1,8,none,[.un],[],0,false⟩
theorem wq1tf:TiOk Tryz.prog 34 ti34:=TiOk.of (z:=Go.Value.nilFunc) (d:=(@Go.TypeDesc.func (@Array.mk Nat (@List.cons Nat 27 (@List.nil Nat))) (@Array.mk Nat (@List.cons Nat 33 (@List.nil Nat))) Bool.false)) (by kernel_rfl) (by kernel_rfl) (by kernel_rfl) trivial rfl trivial (by kernel_rfl) (fun h=>nomatch h)
def ti35:TI:=⟨.other,1,8,none,[.un],[],0,false⟩
theorem wq1tg:TiOk Tryz.prog 35 ti35:=TiOk.of (z:=Go.Value.nilFunc) (d:=(@Go.TypeDesc.func (@Array.mk Nat (@List.cons Nat 22 (@List.nil Nat))) (@Array.mk Nat (@List.cons Nat 4 (@List.nil Nat))) Bool.false)) (by kernel_rfl) (by kernel_rfl) (by kernel_rfl) trivial rfl trivial (by kernel_rfl) (fun h=>nomatch h)
def ti36:TI:=⟨.slice,1,24,some (.sl (.pr (.int .i64) (.pr (.int .i64) (.pr .str (.pr .bool (.pr (.sl .str) (.sl (.int .i64)))))))),[.nilsl],[],73,false⟩
theorem wq1th:TiOk Tryz.prog 36 ti36:=TiOk.of (z:=(@Go.Value.slice (@Option.none Go.Addr) 0 0)) (d:=(@Go.TypeDesc.slice 73)) (by kernel_rfl) (by kernel_rfl) (by kernel_rfl) ⟨by kernel_rfl,by kernel_rfl⟩ rfl rfl (by kernel_rfl) (fun h=>nomatch h)
def ti37:TI:=⟨.struct,1,24,some (.sl (.pr (.int .i64) (.pr (.int .i64) (.pr .str (.pr .bool (.pr (.sl .str) (.sl (.int .i64)))))))),[.nilsl],[(0,36)],0,false⟩
theorem wq1ti:TiOk Tryz.prog 37 ti37:=TiOk.of (z:=(@Go.Value.agg (@Array.mk Go.Value (@List.cons Go.Value (@Go.Value.slice (@Option.none Go.Addr) 0 0) (@List.nil Go.Value))))) (d:=(@Go.TypeDesc.struct (@Array.mk Go.Field (@List.cons Go.Field (@Go.Field.mk "Nodes" 36 0 Bool.false "" "" 0) (@List.nil Go.Field))))) (by kernel_rfl) (by kernel_rfl) (by kernel_rfl) ⟨by kernel_rfl,by kernel_rfl⟩ ⟨_,rfl⟩ ⟨_,rfl,by kernel_rfl,by kernel_rfl⟩ (by kernel_rfl) (fun h=>nomatch h)
def ti38:TI:=⟨.struct,1,24,some (.sl (.pr (.int .i64) (.pr (.int .i64) (.pr .str (.pr .bool (.pr (.sl .str) (.sl (.int .i64)))))))),[.nilsl],[(0,36)],0,false⟩
theorem wq1tj:TiOk Tryz.prog 38 ti38:=TiOk.of (z:=(@Go.Value.agg (@Array.mk Go.Value (@List.cons Go.Value (@Go.Value.slice (@Option.none Go.Addr) 0 0) (@List.nil Go.Value))))) (d:=(@Go.TypeDesc.struct (@Array.mk Go.Field (@List.cons Go.Field (@Go.Field.mk "Nodes" 36 0 Bool.false "" "" 0) (@List.nil Go.Field))))) (by kernel_rfl) (by kernel_rfl) (by kernel_rfl) ⟨by kernel_rfl,by kernel_rfl⟩ ⟨_,rfl⟩ ⟨_,rfl,by kernel_rfl,by kernel_rfl⟩ (by kernel_rfl) (fun h=>nomatch h)
def ti39:TI:=⟨.other,1,8,none,[.un],[],0,false⟩
theorem wq1tk:TiOk Tryz.prog 39 ti39:=TiOk.of (z:=Go.Value.nilFunc) (d:=(@Go.TypeDesc.func (@Array.mk Nat (@List.cons Nat 38 (@List.nil Nat))) (@Array.mk Nat (@List.cons Nat 4 (@List.nil Nat))) Bool.false)) (by kernel_rfl) (by kernel_rfl) (by kernel_rfl) trivial rfl trivial (by kernel_rfl) (fun h=>nomatch h)
def ti40:TI:=⟨.other,1,8,none,[.un],[],0,false⟩
theorem wq1tl:TiOk Tryz.prog 40 ti40:=TiOk.of (z:=Go.Value.nilFunc) (d:=(@Go.TypeDesc.func (@Array.mk Nat (@List.cons Nat 38 (@List.nil Nat))) (@Array.mk Nat (@List.cons Nat 27 (@List.cons Nat 29 (@List.nil Nat)))) Bool.false)) (by kernel_rfl) (by kernel_rfl) (by kernel_rfl) trivial rfl trivial (by kernel_rfl) (fun h=>nomatch h)
def ti41:TI:=⟨.slice,1,24,some (.sl (.pr .str (.pr (.int .i64) (.int .i64)))),[.nilsl],[],44,false⟩
theorem wq1tm:TiOk Tryz.prog 41 ti41:=TiOk.of (z:=(@Go.Value.slice (@Option.none Go.Addr) 0 0)) (d:=(@Go.TypeDesc.slice 44)) (by kernel_rfl) (by kernel_rfl) (by kernel_rfl) ⟨by kernel_rfl,by kernel_rfl⟩ rfl rfl (by kernel_rfl) (fun h=>nomatch h)
def ti42:TI:=⟨.other,1,8,none,[.un],[],0,false⟩
theorem wq1tn:TiOk Tryz.prog 42 ti42:=TiOk.of (z:=Go.Value.nilFunc) (d:=(@Go.TypeDesc.func (@Array.mk Nat (@List.nil Nat)) (@Array.mk Nat (@List.cons Nat 41 (@List.nil Nat))) Bool.false)) (by kernel_rfl) (by kernel_rfl) (by kernel_rfl) trivial rfl trivial (by kernel_rfl) (fun h=>nomatch h)
def ti43:TI:=⟨.struct,3,32,some (.pr .str (.pr (.int .i64) (.int .i64))),[.v .str [],.v (.int .i64) 0,.v (.int .i64) 0],[(0,9),(1,3),(2,3)],0,true⟩
theorem wq1to:TiOk Tryz.prog 43 ti43:=TiOk.of (z:=(@Go.Value.agg (@Array.mk Go.Value (@List.cons Go.Value (@Go.Value.string (@ByteArray.mk (@Array.mk UInt8 (@List.nil UInt8)))) (@List.cons Go.Value (@Go.Value.int Go.IntKind.i64 (@Int.ofNat 0)) (@List.cons Go.Value (@Go.Value.int Go.IntKind.i64 (@Int.ofNat 0)) (@List.nil Go.Value))))))) (d:=(@Go.TypeDesc.struct (@Array.mk Go.Field (@List.cons Go.Field (@Go.Field.mk "text" 9 0 Bool.false "" "turncock/turncocklaw17" 0) (@List.cons Go.Field (@Go.Field.mk "kind" 3 1 Bool.false "" "turncock/turncocklaw17" 16) (@List.cons Go.Field (@Go.Field.mk "line" 3 2 Bool.false "" "turncock/turncocklaw17" 24) (@List.nil Go.Field))))))) (by kernel_rfl) (by kernel_rfl) (by kernel_rfl) ⟨by kernel_rfl,by kernel_rfl⟩ ⟨_,rfl⟩ ⟨_,rfl,by kernel_rfl,by kernel_rfl⟩ (by kernel_rfl) (fun _ _=>by kernel_rfl)
def ti44:TI:=⟨.struct,3,32,some (.pr .str (.pr (.int .i64) (.int .i64))),[.v .str [],.v (.int .i64) 0,.v (.int .i64) 0],[(0,9),(1,3),(2,3)],0,true⟩
theorem wq1tp:TiOk Tryz.prog 44 ti44:=TiOk.of (z:=(@Go.Value.agg (@Array.mk Go.Value (@List.cons Go.Value (@Go.Value.string (@ByteArray.mk (@Array.mk UInt8 (@List.nil UInt8)))) (@List.cons Go.Value (@Go.Value.int Go.IntKind.i64 (@Int.ofNat 0)) (@List.cons Go.Value (@Go.Value.int Go.IntKind.i64 (@Int.ofNat 0)) (@List.nil Go.Value))))))) (d:=(@Go.TypeDesc.struct (@Array.mk Go.Field (@List.cons Go.Field (@Go.Field.mk "text" 9 0 Bool.false "" "turncock/turncocklaw17" 0) (@List.cons Go.Field (@Go.Field.mk "kind" 3 1 Bool.false "" "turncock/turncocklaw17" 16) (@List.cons Go.Field (@Go.Field.mk "line" 3 2 Bool.false "" "turncock/turncocklaw17" 24) (@List.nil Go.Field))))))) (by kernel_rfl) (by kernel_rfl) (by kernel_rfl) ⟨by kernel_rfl,by kernel_rfl⟩ ⟨_,rfl⟩ ⟨_,rfl,by kernel_rfl,by kernel_rfl⟩ (by kernel_rfl) (fun _ _=>by kernel_rfl)
def ti45:TI:=⟨.other,1,8,none,[.un],[],0,false⟩
theorem wq1tq:TiOk Tryz.prog 45 ti45:=TiOk.of (z:=Go.Value.nilFunc) (d:=(@Go.TypeDesc.func (@Array.mk Nat (@List.cons Nat 3 (@List.nil Nat))) (@Array.mk Nat (@List.cons Nat 4 (@List.nil Nat))) Bool.false)) (by kernel_rfl) (by kernel_rfl) (by kernel_rfl) trivial rfl trivial (by kernel_rfl) (fun h=>nomatch h)
def ti46:TI:=⟨.other,1,8,none,[.un],[],0,false⟩
theorem wq1tr:TiOk Tryz.prog 46 ti46:=TiOk.of (z:=Go.Value.nilFunc) (d:=(@Go.TypeDesc.func (@Array.mk Nat (@List.cons Nat 9 (@List.cons Nat 3 (@List.nil Nat)))) (@Array.mk Nat (@List.cons Nat 9 (@List.nil Nat))) Bool.false)) (by kernel_rfl) (by kernel_rfl) (by kernel_rfl) trivial rfl trivial (by kernel_rfl) (fun h=>nomatch h)
def ti47:TI:=⟨.other,1,8,none,[.un],[],0,false⟩
theorem wq1ts:TiOk Tryz.prog 47 ti47:=TiOk.of (z:=Go.Value.nilFunc) (d:=(@Go.TypeDesc.func (@Array.mk Nat (@List.cons Nat 3 (@List.nil Nat))) (@Array.mk Nat (@List.cons Nat 9 (@List.nil Nat))) Bool.false)) (by kernel_rfl) (by kernel_rfl) (by kernel_rfl) trivial rfl trivial (by kernel_rfl) (fun h=>nomatch h)
def ti48:TI:=⟨.other,1,8,none,[.un],[],0,false⟩
theorem wq1tt:TiOk Tryz.prog 48 ti48:=TiOk.of (z:=Go.Value.nilFunc) (d:=(@Go.TypeDesc.func (@Array.mk Nat (@List.cons Nat 3 (@List.cons Nat 4 (@List.nil Nat)))) (@Array.mk Nat (@List.cons Nat 4 (@List.nil Nat))) Bool.false)) (by kernel_rfl) (by kernel_rfl) (by kernel_rfl) trivial rfl trivial (by kernel_rfl) (fun h=>nomatch h)
def ti49:TI:=⟨.other,1,8,none,[.un],[],0,false⟩
theorem wq1tu:TiOk Tryz.prog 49 ti49:=TiOk.of (z:=Go.Value.nilFunc) (d:=(@Go.TypeDesc.func (@Array.mk Nat (@List.cons Nat 27 (@List.nil Nat))) (@Array.mk Nat (@List.cons Nat 4 (@List.nil Nat))) Bool.false)) (by kernel_rfl) (by kernel_rfl) (by kernel_rfl) trivial rfl trivial (by kernel_rfl) (fun h=>nomatch h)
def ti50:TI:=⟨.slice,1,24,some (.sl (.int .i64)),[.nilsl],[],3,false⟩
theorem wq1tv:TiOk Tryz.prog 50 ti50:=TiOk.of (z:=(@Go.Value.slice (@Option.none Go.Addr) 0 0)) (d:=(@Go.TypeDesc.slice 3)) (by kernel_rfl) (by kernel_rfl) (by kernel_rfl) ⟨by kernel_rfl,by kernel_rfl⟩ rfl rfl (by kernel_rfl) (fun h=>nomatch h)
def ti51:TI:=⟨.other,1,8,none,[.un],[],0,false⟩
theorem wq1tw:TiOk Tryz.prog 51 ti51:=TiOk.of (z:=Go.Value.nilFunc) (d:=(@Go.TypeDesc.func (@Array.mk Nat (@List.cons Nat 50 (@List.nil Nat))) (@Array.mk Nat (@List.cons Nat 27 (@List.nil Nat))) Bool.false)) (by kernel_rfl) (by kernel_rfl) (by kernel_rfl) trivial rfl trivial (by kernel_rfl) (fun h=>nomatch h)
def ti52:TI:=⟨.ptr,1,8,none,[.nilptr],[],57,false⟩
theorem wq1tx:TiOk Tryz.prog 52 ti52:=TiOk.of (z:=(@Go.Value.pointer (@Option.none Go.Addr))) (d:=(@Go.TypeDesc.pointer 57)) (by kernel_rfl) (by kernel_rfl) (by kernel_rfl) trivial rfl rfl (by kernel_rfl) (fun h=>nomatch h)
def ti53:TI:=⟨.flt,1,8,some .flt,[.v .flt 0],[],0,false⟩
theorem wq1ty:TiOk Tryz.prog 53 ti53:=TiOk.of (z:=(@Go.Value.float Go.FloatKind.f64 0)) (d:=(@Go.TypeDesc.float Go.FloatKind.f64)) (by kernel_rfl) (by kernel_rfl) (by kernel_rfl) ⟨by kernel_rfl,by kernel_rfl⟩ rfl rfl (by kernel_rfl) (fun h=>nomatch h)
def ti54:TI:=⟨.struct,6,48,some (.pr .str (.pr (.int .i64) (.pr (.int .i64) (.pr .flt (.pr .bool .bool))))),[.v .str [],.v (.int .i64) 0,.v (.int .i64) 0,.v .flt 0,.v .bool false,.v .bool false],[(0,9),(1,3),(2,3),(3,53),(4,4),(5,4)],0,true⟩
theorem wq1tz:TiOk Tryz.prog 54 ti54:=TiOk.of (z:=(@Go.Value.agg (@Array.mk Go.Value (@List.cons Go.Value (@Go.Value.string (@ByteArray.mk (@Array.mk UInt8 (@List.nil UInt8)))) (@List.cons Go.Value (@Go.Value.int Go.IntKind.i64 (@Int.ofNat 0)) (@List.cons Go.Value (@Go.Value.int Go.IntKind.i64 (@Int.ofNat 0)) (@List.cons Go.Value (@Go.Value.float Go.FloatKind.f64 0) (@List.cons Go.Value (@Go.Value.bool Bool.false) (@List.cons Go.Value (@Go.Value.bool Bool.false) (@List.nil Go.Value)))))))))) (d:=(@Go.TypeDesc.struct (@Array.mk Go.Field (@List.cons Go.Field (@Go.Field.mk "Name" 9 0 Bool.false "" "" 0) (@List.cons Go.Field (@Go.Field.mk "Unit" 3 1 Bool.false "" "" 16) (@List.cons Go.Field (@Go.Field.mk "Limit" 3 2 Bool.false "" "" 24) (@List.cons Go.Field (@Go.Field.mk "Near" 53 3 Bool.false "" "" 32) (@List.cons Go.Field (@Go.Field.mk "Shadow" 4 4 Bool.false "" "" 40) (@List.cons Go.Field (@Go.Field.mk "Unlimited" 4 5 Bool.false "" "" 41) (@List.nil Go.Field)))))))))) (by kernel_rfl) (by kernel_rfl) (by kernel_rfl) ⟨by kernel_rfl,by kernel_rfl⟩ ⟨_,rfl⟩ ⟨_,rfl,by kernel_rfl,by kernel_rfl⟩ (by kernel_rfl) (fun _ _=>by kernel_rfl)
def ti55:TI:=⟨.struct,6,48,some (.pr .str (.pr (.int .i64) (.pr (.int .i64) (.pr .flt (.pr .bool .bool))))),[.v .str [],.v (.int .i64) 0,.v (.int .i64) 0,.v .flt 0,.v .bool false,.v .bool false],[(0,9),(1,3),(2,3),(3,53),(4,4),(5,4)],0,true⟩
theorem wq1u0:TiOk Tryz.prog 55 ti55:=TiOk.of (z:=(@Go.Value.agg (@Array.mk Go.Value (@List.cons Go.Value (@Go.Value.string (@ByteArray.mk (@Array.mk UInt8 (@List.nil UInt8)))) (@List.cons Go.Value (@Go.Value.int Go.IntKind.i64 (@Int.ofNat 0)) (@List.cons Go.Value (@Go.Value.int Go.IntKind.i64 (@Int.ofNat 0)) (@List.cons Go.Value (@Go.Value.float Go.FloatKind.f64 0) (@List.cons Go.Value (@Go.Value.bool Bool.false) (@List.cons Go.Value (@Go.Value.bool Bool.false) (@List.nil Go.Value)))))))))) (d:=(@Go.TypeDesc.struct (@Array.mk Go.Field (@List.cons Go.Field (@Go.Field.mk "Name" 9 0 Bool.false "" "" 0) (@List.cons Go.Field (@Go.Field.mk "Unit" 3 1 Bool.false "" "" 16) (@List.cons Go.Field (@Go.Field.mk "Limit" 3 2 Bool.false "" "" 24) (@List.cons Go.Field (@Go.Field.mk "Near" 53 3 Bool.false "" "" 32) (@List.cons Go.Field (@Go.Field.mk "Shadow" 4 4 Bool.false "" "" 40) (@List.cons Go.Field (@Go.Field.mk "Unlimited" 4 5 Bool.false "" "" 41) (@List.nil Go.Field)))))))))) (by kernel_rfl) (by kernel_rfl) (by kernel_rfl) ⟨by kernel_rfl,by kernel_rfl⟩ ⟨_,rfl⟩ ⟨_,rfl,by kernel_rfl,by kernel_rfl⟩ (by kernel_rfl) (fun _ _=>by kernel_rfl)
def ti56:TI:=⟨.struct,13,136,some (.pr .str (.pr .str (.pr .bool (.pr (.int .i64) (.pr (.int .i64) (.pr .bool (.pr (.pr .str (.pr (.int .i64) (.pr (.int .i64) (.pr .flt (.pr .bool .bool))))) (.sl (.int .i64))))))))),[.v .str [],.v .str [],.v .bool false,.v (.int .i64) 0,.v (.int .i64) 0,.v .bool false,.v .str [],.v (.int .i64) 0,.v (.int .i64) 0,.v .flt 0,.v .bool false,.v .bool false,.nilsl],[(0,9),(1,9),(2,4),(3,3),(4,3),(5,4),(6,55),(12,50)],0,false⟩
theorem wq1u1:TiOk Tryz.prog 56 ti56:=TiOk.of (z:=(@Go.Value.agg (@Array.mk Go.Value (@List.cons Go.Value (@Go.Value.string (@ByteArray.mk (@Array.mk UInt8 (@List.nil UInt8)))) (@List.cons Go.Value (@Go.Value.string (@ByteArray.mk (@Array.mk UInt8 (@List.nil UInt8)))) (@List.cons Go.Value (@Go.Value.bool Bool.false) (@List.cons Go.Value (@Go.Value.int Go.IntKind.i64 (@Int.ofNat 0)) (@List.cons Go.Value (@Go.Value.int Go.IntKind.i64 (@Int.ofNat 0)) (@List.cons Go.Value (@Go.Value.bool Bool.false) (@List.cons Go.Value (@Go.Value.string (@ByteArray.mk (@Array.mk UInt8 (@List.nil UInt8)))) (@List.cons Go.Value (@Go.Value.int Go.IntKind.i64 (@Int.ofNat 0)) (@List.cons Go.Value (@Go.Value.int Go.IntKind.i64 (@Int.ofNat 0)) (@List.cons Go.Value (@Go.Value.float Go.FloatKind.f64 0) (@List.cons Go.Value (@Go.Value.bool Bool.false) (@List.cons Go.Value (@Go.Value.bool Bool.false) (@List.cons Go.Value (@Go.Value.slice (@Option.none Go.Addr) 0 0) (@List.nil Go.Value))))))))))))))))) (d:=(@Go.TypeDesc.struct (@Array.mk Go.Field (@List.cons Go.Field (@Go.Field.mk "Key" 9 0 Bool.false "" "" 0) (@List.cons Go.Field (@Go.Field.mk "Value" 9 1 Bool.false "" "" 16) (@List.cons Go.Field (@Go.Field.mk "Any" 4 2 Bool.false "" "" 32) (@List.cons Go.Field (@Go.Field.mk "Domain" 3 3 Bool.false "" "" 40) (@List.cons Go.Field (@Go.Field.mk "Up" 3 4 Bool.false "" "" 48) (@List.cons Go.Field (@Go.Field.mk "Has" 4 5 Bool.false "" "" 56) (@List.cons Go.Field (@Go.Field.mk "Rule" 55 6 Bool.false "" "" 64) (@List.cons Go.Field (@Go.Field.mk "Kids" 50 12 Bool.false "" "" 112) (@List.nil Go.Field)))))))))))) (by kernel_rfl) (by kernel_rfl) (by kernel_rfl) ⟨by kernel_rfl,by kernel_rfl⟩ ⟨_,rfl⟩ ⟨_,rfl,by kernel_rfl,by kernel_rfl⟩ (by kernel_rfl) (fun h=>nomatch h)
def ti57:TI:=⟨.struct,13,136,some (.pr .str (.pr .str (.pr .bool (.pr (.int .i64) (.pr (.int .i64) (.pr .bool (.pr (.pr .str (.pr (.int .i64) (.pr (.int .i64) (.pr .flt (.pr .bool .bool))))) (.sl (.int .i64))))))))),[.v .str [],.v .str [],.v .bool false,.v (.int .i64) 0,.v (.int .i64) 0,.v .bool false,.v .str [],.v (.int .i64) 0,.v (.int .i64) 0,.v .flt 0,.v .bool false,.v .bool false,.nilsl],[(0,9),(1,9),(2,4),(3,3),(4,3),(5,4),(6,55),(12,50)],0,false⟩
theorem wq1u2:TiOk Tryz.prog 57 ti57:=TiOk.of (z:=(@Go.Value.agg (@Array.mk Go.Value (@List.cons Go.Value (@Go.Value.string (@ByteArray.mk (@Array.mk UInt8 (@List.nil UInt8)))) (@List.cons Go.Value (@Go.Value.string (@ByteArray.mk (@Array.mk UInt8 (@List.nil UInt8)))) (@List.cons Go.Value (@Go.Value.bool Bool.false) (@List.cons Go.Value (@Go.Value.int Go.IntKind.i64 (@Int.ofNat 0)) (@List.cons Go.Value (@Go.Value.int Go.IntKind.i64 (@Int.ofNat 0)) (@List.cons Go.Value (@Go.Value.bool Bool.false) (@List.cons Go.Value (@Go.Value.string (@ByteArray.mk (@Array.mk UInt8 (@List.nil UInt8)))) (@List.cons Go.Value (@Go.Value.int Go.IntKind.i64 (@Int.ofNat 0)) (@List.cons Go.Value (@Go.Value.int Go.IntKind.i64 (@Int.ofNat 0)) (@List.cons Go.Value (@Go.Value.float Go.FloatKind.f64 0) (@List.cons Go.Value (@Go.Value.bool Bool.false) (@List.cons Go.Value (@Go.Value.bool Bool.false) (@List.cons Go.Value (@Go.Value.slice (@Option.none Go.Addr) 0 0) (@List.nil Go.Value))))))))))))))))) (d:=(@Go.TypeDesc.struct (@Array.mk Go.Field (@List.cons Go.Field (@Go.Field.mk "Key" 9 0 Bool.false "" "" 0) (@List.cons Go.Field (@Go.Field.mk "Value" 9 1 Bool.false "" "" 16) (@List.cons Go.Field (@Go.Field.mk "Any" 4 2 Bool.false "" "" 32) (@List.cons Go.Field (@Go.Field.mk "Domain" 3 3 Bool.false "" "" 40) (@List.cons Go.Field (@Go.Field.mk "Up" 3 4 Bool.false "" "" 48) (@List.cons Go.Field (@Go.Field.mk "Has" 4 5 Bool.false "" "" 56) (@List.cons Go.Field (@Go.Field.mk "Rule" 55 6 Bool.false "" "" 64) (@List.cons Go.Field (@Go.Field.mk "Kids" 50 12 Bool.false "" "" 112) (@List.nil Go.Field)))))))))))) (by kernel_rfl) (by kernel_rfl) (by kernel_rfl) ⟨by kernel_rfl,by kernel_rfl⟩ ⟨_,rfl⟩ ⟨_,rfl,by kernel_rfl,by kernel_rfl⟩ (by kernel_rfl) (fun h=>nomatch h)
def ti58:TI:=⟨.other,1,8,none,[.un],[],0,false⟩
theorem wq1u3:TiOk Tryz.prog 58 ti58:=TiOk.of (z:=Go.Value.nilFunc) (d:=(@Go.TypeDesc.func (@Array.mk Nat (@List.cons Nat 3 (@List.cons Nat 3 (@List.nil Nat)))) (@Array.mk Nat (@List.cons Nat 3 (@List.nil Nat))) Bool.false)) (by kernel_rfl) (by kernel_rfl) (by kernel_rfl) trivial rfl trivial (by kernel_rfl) (fun h=>nomatch h)
def ti59:TI:=⟨.slice,1,24,some (.sl .str),[.nilsl],[],9,false⟩
theorem wq1u4:TiOk Tryz.prog 59 ti59:=TiOk.of (z:=(@Go.Value.slice (@Option.none Go.Addr) 0 0)) (d:=(@Go.TypeDesc.slice 9)) (by kernel_rfl) (by kernel_rfl) (by kernel_rfl) ⟨by kernel_rfl,by kernel_rfl⟩ rfl rfl (by kernel_rfl) (fun h=>nomatch h)
def ti60:TI:=⟨.other,1,8,none,[.un],[],0,false⟩
theorem wq1u5:TiOk Tryz.prog 60 ti60:=TiOk.of (z:=Go.Value.nilFunc) (d:=(@Go.TypeDesc.func (@Array.mk Nat (@List.nil Nat)) (@Array.mk Nat (@List.cons Nat 59 (@List.nil Nat))) Bool.false)) (by kernel_rfl) (by kernel_rfl) (by kernel_rfl) trivial rfl trivial (by kernel_rfl) (fun h=>nomatch h)
def ti61:TI:=⟨.other,1,8,none,[.un],[],0,false⟩
theorem wq1u6:TiOk Tryz.prog 61 ti61:=TiOk.of (z:=Go.Value.nilFunc) (d:=(@Go.TypeDesc.func (@Array.mk Nat (@List.cons Nat 3 (@List.cons Nat 3 (@List.nil Nat)))) (@Array.mk Nat (@List.cons Nat 53 (@List.nil Nat))) Bool.false)) (by kernel_rfl) (by kernel_rfl) (by kernel_rfl) trivial rfl trivial (by kernel_rfl) (fun h=>nomatch h)
def ti62:TI:=⟨.other,1,8,none,[.un],[],0,false⟩
theorem wq1u7:TiOk Tryz.prog 62 ti62:=TiOk.of (z:=Go.Value.nilFunc) (d:=(@Go.TypeDesc.func (@Array.mk Nat (@List.cons Nat 50 (@List.cons Nat 3 (@List.cons Nat 3 (@List.cons Nat 3 (@List.nil Nat)))))) (@Array.mk Nat (@List.cons Nat 4 (@List.nil Nat))) Bool.false)) (by kernel_rfl) (by kernel_rfl) (by kernel_rfl) trivial rfl trivial (by kernel_rfl) (fun h=>nomatch h)
def ti63:TI:=⟨.struct,2,40,some (.pr .str (.sl (.int .i64))),[.v .str [],.nilsl],[(0,9),(1,50)],0,false⟩
theorem wq1u8:TiOk Tryz.prog 63 ti63:=TiOk.of (z:=(@Go.Value.agg (@Array.mk Go.Value (@List.cons Go.Value (@Go.Value.string (@ByteArray.mk (@Array.mk UInt8 (@List.nil UInt8)))) (@List.cons Go.Value (@Go.Value.slice (@Option.none Go.Addr) 0 0) (@List.nil Go.Value)))))) (d:=(@Go.TypeDesc.struct (@Array.mk Go.Field (@List.cons Go.Field (@Go.Field.mk "Name" 9 0 Bool.false "" "" 0) (@List.cons Go.Field (@Go.Field.mk "Kids" 50 1 Bool.false "" "" 16) (@List.nil Go.Field)))))) (by kernel_rfl) (by kernel_rfl) (by kernel_rfl) ⟨by kernel_rfl,by kernel_rfl⟩ ⟨_,rfl⟩ ⟨_,rfl,by kernel_rfl,by kernel_rfl⟩ (by kernel_rfl) (fun h=>nomatch h)
def ti64:TI:=⟨.struct,2,40,some (.pr .str (.sl (.int .i64))),[.v .str [],.nilsl],[(0,9),(1,50)],0,false⟩
theorem wq1u9:TiOk Tryz.prog 64 ti64:=TiOk.of (z:=(@Go.Value.agg (@Array.mk Go.Value (@List.cons Go.Value (@Go.Value.string (@ByteArray.mk (@Array.mk UInt8 (@List.nil UInt8)))) (@List.cons Go.Value (@Go.Value.slice (@Option.none Go.Addr) 0 0) (@List.nil Go.Value)))))) (d:=(@Go.TypeDesc.struct (@Array.mk Go.Field (@List.cons Go.Field (@Go.Field.mk "Name" 9 0 Bool.false "" "" 0) (@List.cons Go.Field (@Go.Field.mk "Kids" 50 1 Bool.false "" "" 16) (@List.nil Go.Field)))))) (by kernel_rfl) (by kernel_rfl) (by kernel_rfl) ⟨by kernel_rfl,by kernel_rfl⟩ ⟨_,rfl⟩ ⟨_,rfl,by kernel_rfl,by kernel_rfl⟩ (by kernel_rfl) (fun h=>nomatch h)
def ti66:TI:=⟨.other,1,8,none,[.un],[],0,false⟩
theorem wq1ua:TiOk Tryz.prog 66 ti66:=TiOk.of (z:=Go.Value.nilFunc) (d:=(@Go.TypeDesc.func (@Array.mk Nat (@List.cons Nat 22 (@List.nil Nat))) (@Array.mk Nat (@List.cons Nat 38 (@List.cons Nat 29 (@List.nil Nat)))) Bool.false)) (by kernel_rfl) (by kernel_rfl) (by kernel_rfl) trivial rfl trivial (by kernel_rfl) (fun h=>nomatch h)
def ti67:TI:=⟨.other,1,8,none,[.un],[],0,false⟩
theorem wq1ub:TiOk Tryz.prog 67 ti67:=TiOk.of (z:=Go.Value.nilFunc) (d:=(@Go.TypeDesc.func (@Array.mk Nat (@List.cons Nat 50 (@List.cons Nat 50 (@List.nil Nat)))) (@Array.mk Nat (@List.cons Nat 4 (@List.nil Nat))) Bool.false)) (by kernel_rfl) (by kernel_rfl) (by kernel_rfl) trivial rfl trivial (by kernel_rfl) (fun h=>nomatch h)
def ti68:TI:=⟨.other,1,8,none,[.un],[],0,false⟩
theorem wq1uc:TiOk Tryz.prog 68 ti68:=TiOk.of (z:=Go.Value.nilFunc) (d:=(@Go.TypeDesc.func (@Array.mk Nat (@List.cons Nat 55 (@List.cons Nat 55 (@List.nil Nat)))) (@Array.mk Nat (@List.cons Nat 4 (@List.nil Nat))) Bool.false)) (by kernel_rfl) (by kernel_rfl) (by kernel_rfl) trivial rfl trivial (by kernel_rfl) (fun h=>nomatch h)
def ti69:TI:=⟨.map,1,8,none,[.un],[],4,false⟩
theorem wq1ud:TiOk Tryz.prog 69 ti69:=TiOk.of (z:=(@Go.Value.map (@Option.none Nat))) (d:=(@Go.TypeDesc.map 9 4)) (by kernel_rfl) (by kernel_rfl) (by kernel_rfl) trivial rfl ⟨_,rfl,by kernel_rfl⟩ (by kernel_rfl) (fun h=>nomatch h)
def ti70:TI:=⟨.other,1,8,none,[.un],[],0,false⟩
theorem wq1ue:TiOk Tryz.prog 70 ti70:=TiOk.of (z:=Go.Value.nilFunc) (d:=(@Go.TypeDesc.func (@Array.mk Nat (@List.cons Nat 9 (@List.nil Nat))) (@Array.mk Nat (@List.cons Nat 4 (@List.nil Nat))) Bool.false)) (by kernel_rfl) (by kernel_rfl) (by kernel_rfl) trivial rfl trivial (by kernel_rfl) (fun h=>nomatch h)
def ti71:TI:=⟨.other,1,8,none,[.un],[],0,false⟩
theorem wq1uf:TiOk Tryz.prog 71 ti71:=TiOk.of (z:=Go.Value.nilFunc) (d:=(@Go.TypeDesc.func (@Array.mk Nat (@List.cons Nat 27 (@List.cons Nat 50 (@List.cons Nat 3 (@List.cons Nat 3 (@List.cons Nat 3 (@List.cons Nat 3 (@List.nil Nat)))))))) (@Array.mk Nat (@List.cons Nat 3 (@List.nil Nat))) Bool.false)) (by kernel_rfl) (by kernel_rfl) (by kernel_rfl) trivial rfl trivial (by kernel_rfl) (fun h=>nomatch h)
def ti72:TI:=⟨.struct,6,88,some (.pr (.int .i64) (.pr (.int .i64) (.pr .str (.pr .bool (.pr (.sl .str) (.sl (.int .i64))))))),[.v (.int .i64) 0,.v (.int .i64) 0,.v .str [],.v .bool false,.nilsl,.nilsl],[(0,3),(1,3),(2,9),(3,4),(4,59),(5,50)],0,false⟩
theorem wq1ug:TiOk Tryz.prog 72 ti72:=TiOk.of (z:=(@Go.Value.agg (@Array.mk Go.Value (@List.cons Go.Value (@Go.Value.int Go.IntKind.i64 (@Int.ofNat 0)) (@List.cons Go.Value (@Go.Value.int Go.IntKind.i64 (@Int.ofNat 0)) (@List.cons Go.Value (@Go.Value.string (@ByteArray.mk (@Array.mk UInt8 (@List.nil UInt8)))) (@List.cons Go.Value (@Go.Value.bool Bool.false) (@List.cons Go.Value (@Go.Value.slice (@Option.none Go.Addr) 0 0) (@List.cons Go.Value (@Go.Value.slice (@Option.none Go.Addr) 0 0) (@List.nil Go.Value)))))))))) (d:=(@Go.TypeDesc.struct (@Array.mk Go.Field (@List.cons Go.Field (@Go.Field.mk "Kind" 3 0 Bool.false "" "" 0) (@List.cons Go.Field (@Go.Field.mk "Line" 3 1 Bool.false "" "" 8) (@List.cons Go.Field (@Go.Field.mk "Text" 9 2 Bool.false "" "" 16) (@List.cons Go.Field (@Go.Field.mk "Quoted" 4 3 Bool.false "" "" 32) (@List.cons Go.Field (@Go.Field.mk "Keys" 59 4 Bool.false "" "" 40) (@List.cons Go.Field (@Go.Field.mk "Kids" 50 5 Bool.false "" "" 64) (@List.nil Go.Field)))))))))) (by kernel_rfl) (by kernel_rfl) (by kernel_rfl) ⟨by kernel_rfl,by kernel_rfl⟩ ⟨_,rfl⟩ ⟨_,rfl,by kernel_rfl,by kernel_rfl⟩ (by kernel_rfl) (fun h=>nomatch h)
def ti73:TI:=⟨.struct,6,88,some (.pr (.int .i64) (.pr (.int .i64) (.pr .str (.pr .bool (.pr (.sl .str) (.sl (.int .i64))))))),[.v (.int .i64) 0,.v (.int .i64) 0,.v .str [],.v .bool false,.nilsl,.nilsl],[(0,3),(1,3),(2,9),(3,4),(4,59),(5,50)],0,false⟩
theorem wq1uh:TiOk Tryz.prog 73 ti73:=TiOk.of (z:=(@Go.Value.agg (@Array.mk Go.Value (@List.cons Go.Value (@Go.Value.int Go.IntKind.i64 (@Int.ofNat 0)) (@List.cons Go.Value (@Go.Value.int Go.IntKind.i64 (@Int.ofNat 0)) (@List.cons Go.Value (@Go.Value.string (@ByteArray.mk (@Array.mk UInt8 (@List.nil UInt8)))) (@List.cons Go.Value (@Go.Value.bool Bool.false) (@List.cons Go.Value (@Go.Value.slice (@Option.none Go.Addr) 0 0) (@List.cons Go.Value (@Go.Value.slice (@Option.none Go.Addr) 0 0) (@List.nil Go.Value)))))))))) (d:=(@Go.TypeDesc.struct (@Array.mk Go.Field (@List.cons Go.Field (@Go.Field.mk "Kind" 3 0 Bool.false "" "" 0) (@List.cons Go.Field (@Go.Field.mk "Line" 3 1 Bool.false "" "" 8) (@List.cons Go.Field (@Go.Field.mk "Text" 9 2 Bool.false "" "" 16) (@List.cons Go.Field (@Go.Field.mk "Quoted" 4 3 Bool.false "" "" 32) (@List.cons Go.Field (@Go.Field.mk "Keys" 59 4 Bool.false "" "" 40) (@List.cons Go.Field (@Go.Field.mk "Kids" 50 5 Bool.false "" "" 64) (@List.nil Go.Field)))))))))) (by kernel_rfl) (by kernel_rfl) (by kernel_rfl) ⟨by kernel_rfl,by kernel_rfl⟩ ⟨_,rfl⟩ ⟨_,rfl,by kernel_rfl,by kernel_rfl⟩ (by kernel_rfl) (fun h=>nomatch h)
def ti74:TI:=⟨.other,1,8,none,[.un],[],0,false⟩
theorem wq1ui:TiOk Tryz.prog 74 ti74:=TiOk.of (z:=Go.Value.nilFunc) (d:=(@Go.TypeDesc.func (@Array.mk Nat (@List.cons Nat 38 (@List.nil Nat))) (@Array.mk Nat (@List.cons Nat 33 (@List.nil Nat))) Bool.false)) (by kernel_rfl) (by kernel_rfl) (by kernel_rfl) trivial rfl trivial (by kernel_rfl) (fun h=>nomatch h)
def ti75:TI:=⟨.ptr,1,8,none,[.nilptr],[],79,false⟩
theorem wq1uj:TiOk Tryz.prog 75 ti75:=TiOk.of (z:=(@Go.Value.pointer (@Option.none Go.Addr))) (d:=(@Go.TypeDesc.pointer 79)) (by kernel_rfl) (by kernel_rfl) (by kernel_rfl) trivial rfl rfl (by kernel_rfl) (fun h=>nomatch h)
def ti76:TI:=⟨.struct,1,24,some (.sl (.pr (.int .i64) (.pr (.int .i64) (.pr .str (.pr .bool (.pr (.sl .str) (.sl (.int .i64)))))))),[.nilsl],[(0,38)],0,false⟩
theorem wq1uk:TiOk Tryz.prog 76 ti76:=TiOk.of (z:=(@Go.Value.agg (@Array.mk Go.Value (@List.cons Go.Value (@Go.Value.slice (@Option.none Go.Addr) 0 0) (@List.nil Go.Value))))) (d:=(@Go.TypeDesc.struct (@Array.mk Go.Field (@List.cons Go.Field (@Go.Field.mk "D" 38 0 Bool.false "" "" 0) (@List.nil Go.Field))))) (by kernel_rfl) (by kernel_rfl) (by kernel_rfl) ⟨by kernel_rfl,by kernel_rfl⟩ ⟨_,rfl⟩ ⟨_,rfl,by kernel_rfl,by kernel_rfl⟩ (by kernel_rfl) (fun h=>nomatch h)
def ti77:TI:=⟨.struct,1,24,some (.sl (.pr (.int .i64) (.pr (.int .i64) (.pr .str (.pr .bool (.pr (.sl .str) (.sl (.int .i64)))))))),[.nilsl],[(0,38)],0,false⟩
theorem wq1ul:TiOk Tryz.prog 77 ti77:=TiOk.of (z:=(@Go.Value.agg (@Array.mk Go.Value (@List.cons Go.Value (@Go.Value.slice (@Option.none Go.Addr) 0 0) (@List.nil Go.Value))))) (d:=(@Go.TypeDesc.struct (@Array.mk Go.Field (@List.cons Go.Field (@Go.Field.mk "D" 38 0 Bool.false "" "" 0) (@List.nil Go.Field))))) (by kernel_rfl) (by kernel_rfl) (by kernel_rfl) ⟨by kernel_rfl,by kernel_rfl⟩ ⟨_,rfl⟩ ⟨_,rfl,by kernel_rfl,by kernel_rfl⟩ (by kernel_rfl) (fun h=>nomatch h)
def ti78:TI:=⟨.struct,4,80,some (.pr (.sl (.pr (.int .i64) (.pr (.int .i64) (.pr .str (.pr .bool (.pr (.sl .str) (.sl (.int .i64)))))))) (.pr (.pr (.sl (.pr .str (.sl (.int .i64)))) (.sl (.pr .str (.pr .str (.pr .bool (.pr (.int .i64) (.pr (.int .i64) (.pr .bool (.pr (.pr .str (.pr (.int .i64) (.pr (.int .i64) (.pr .flt (.pr .bool .bool))))) (.sl (.int .i64))))))))))) .flt)),[.nilsl,.nilsl,.nilsl,.v .flt 0],[(0,77),(1,27),(3,53)],0,false⟩
theorem wq1um:TiOk Tryz.prog 78 ti78:=TiOk.of (z:=(@Go.Value.agg (@Array.mk Go.Value (@List.cons Go.Value (@Go.Value.slice (@Option.none Go.Addr) 0 0) (@List.cons Go.Value (@Go.Value.slice (@Option.none Go.Addr) 0 0) (@List.cons Go.Value (@Go.Value.slice (@Option.none Go.Addr) 0 0) (@List.cons Go.Value (@Go.Value.float Go.FloatKind.f64 0) (@List.nil Go.Value)))))))) (d:=(@Go.TypeDesc.struct (@Array.mk Go.Field (@List.cons Go.Field (@Go.Field.mk "Seen" 77 0 Bool.true "" "" 0) (@List.cons Go.Field (@Go.Field.mk "c" 27 1 Bool.false "" "turncock/config" 24) (@List.cons Go.Field (@Go.Field.mk "near" 53 3 Bool.false "" "turncock/config" 72) (@List.nil Go.Field))))))) (by kernel_rfl) (by kernel_rfl) (by kernel_rfl) ⟨by kernel_rfl,by kernel_rfl⟩ ⟨_,rfl⟩ ⟨_,rfl,by kernel_rfl,by kernel_rfl⟩ (by kernel_rfl) (fun h=>nomatch h)
def ti79:TI:=⟨.struct,4,80,some (.pr (.sl (.pr (.int .i64) (.pr (.int .i64) (.pr .str (.pr .bool (.pr (.sl .str) (.sl (.int .i64)))))))) (.pr (.pr (.sl (.pr .str (.sl (.int .i64)))) (.sl (.pr .str (.pr .str (.pr .bool (.pr (.int .i64) (.pr (.int .i64) (.pr .bool (.pr (.pr .str (.pr (.int .i64) (.pr (.int .i64) (.pr .flt (.pr .bool .bool))))) (.sl (.int .i64))))))))))) .flt)),[.nilsl,.nilsl,.nilsl,.v .flt 0],[(0,77),(1,27),(3,53)],0,false⟩
theorem wq1un:TiOk Tryz.prog 79 ti79:=TiOk.of (z:=(@Go.Value.agg (@Array.mk Go.Value (@List.cons Go.Value (@Go.Value.slice (@Option.none Go.Addr) 0 0) (@List.cons Go.Value (@Go.Value.slice (@Option.none Go.Addr) 0 0) (@List.cons Go.Value (@Go.Value.slice (@Option.none Go.Addr) 0 0) (@List.cons Go.Value (@Go.Value.float Go.FloatKind.f64 0) (@List.nil Go.Value)))))))) (d:=(@Go.TypeDesc.struct (@Array.mk Go.Field (@List.cons Go.Field (@Go.Field.mk "Seen" 77 0 Bool.true "" "" 0) (@List.cons Go.Field (@Go.Field.mk "c" 27 1 Bool.false "" "turncock/config" 24) (@List.cons Go.Field (@Go.Field.mk "near" 53 3 Bool.false "" "turncock/config" 72) (@List.nil Go.Field))))))) (by kernel_rfl) (by kernel_rfl) (by kernel_rfl) ⟨by kernel_rfl,by kernel_rfl⟩ ⟨_,rfl⟩ ⟨_,rfl,by kernel_rfl,by kernel_rfl⟩ (by kernel_rfl) (fun h=>nomatch h)
def ti80:TI:=⟨.ptr,1,8,none,[.nilptr],[],82,false⟩
theorem wq1uo:TiOk Tryz.prog 80 ti80:=TiOk.of (z:=(@Go.Value.pointer (@Option.none Go.Addr))) (d:=(@Go.TypeDesc.pointer 82)) (by kernel_rfl) (by kernel_rfl) (by kernel_rfl) trivial rfl rfl (by kernel_rfl) (fun h=>nomatch h)
def ti81:TI:=⟨.struct,6,96,some (.pr (.sl (.pr (.int .i64) (.pr (.int .i64) (.pr .str (.pr .bool (.pr (.sl .str) (.sl (.int .i64)))))))) (.pr .flt (.pr (.pr (.sl (.pr .str (.sl (.int .i64)))) (.sl (.pr .str (.pr .str (.pr .bool (.pr (.int .i64) (.pr (.int .i64) (.pr .bool (.pr (.pr .str (.pr (.int .i64) (.pr (.int .i64) (.pr .flt (.pr .bool .bool))))) (.sl (.int .i64))))))))))) (.pr (.int .i64) (.int .i64))))),[.nilsl,.v .flt 0,.nilsl,.nilsl,.v (.int .i64) 0,.v (.int .i64) 0],[(0,38),(1,53),(2,27),(4,29)],0,false⟩
theorem wq1up:TiOk Tryz.prog 81 ti81:=TiOk.of (z:=(@Go.Value.agg (@Array.mk Go.Value (@List.cons Go.Value (@Go.Value.slice (@Option.none Go.Addr) 0 0) (@List.cons Go.Value (@Go.Value.float Go.FloatKind.f64 0) (@List.cons Go.Value (@Go.Value.slice (@Option.none Go.Addr) 0 0) (@List.cons Go.Value (@Go.Value.slice (@Option.none Go.Addr) 0 0) (@List.cons Go.Value (@Go.Value.int Go.IntKind.i64 (@Int.ofNat 0)) (@List.cons Go.Value (@Go.Value.int Go.IntKind.i64 (@Int.ofNat 0)) (@List.nil Go.Value)))))))))) (d:=(@Go.TypeDesc.struct (@Array.mk Go.Field (@List.cons Go.Field (@Go.Field.mk "d" 38 0 Bool.false "" "turncock/turncockref15" 0) (@List.cons Go.Field (@Go.Field.mk "near" 53 1 Bool.false "" "turncock/turncockref15" 24) (@List.cons Go.Field (@Go.Field.mk "c" 27 2 Bool.false "" "turncock/turncockref15" 32) (@List.cons Go.Field (@Go.Field.mk "fault" 29 4 Bool.false "" "turncock/turncockref15" 80) (@List.nil Go.Field)))))))) (by kernel_rfl) (by kernel_rfl) (by kernel_rfl) ⟨by kernel_rfl,by kernel_rfl⟩ ⟨_,rfl⟩ ⟨_,rfl,by kernel_rfl,by kernel_rfl⟩ (by kernel_rfl) (fun h=>nomatch h)
def ti82:TI:=⟨.struct,6,96,some (.pr (.sl (.pr (.int .i64) (.pr (.int .i64) (.pr .str (.pr .bool (.pr (.sl .str) (.sl (.int .i64)))))))) (.pr .flt (.pr (.pr (.sl (.pr .str (.sl (.int .i64)))) (.sl (.pr .str (.pr .str (.pr .bool (.pr (.int .i64) (.pr (.int .i64) (.pr .bool (.pr (.pr .str (.pr (.int .i64) (.pr (.int .i64) (.pr .flt (.pr .bool .bool))))) (.sl (.int .i64))))))))))) (.pr (.int .i64) (.int .i64))))),[.nilsl,.v .flt 0,.nilsl,.nilsl,.v (.int .i64) 0,.v (.int .i64) 0],[(0,38),(1,53),(2,27),(4,29)],0,false⟩
theorem wq1uq:TiOk Tryz.prog 82 ti82:=TiOk.of (z:=(@Go.Value.agg (@Array.mk Go.Value (@List.cons Go.Value (@Go.Value.slice (@Option.none Go.Addr) 0 0) (@List.cons Go.Value (@Go.Value.float Go.FloatKind.f64 0) (@List.cons Go.Value (@Go.Value.slice (@Option.none Go.Addr) 0 0) (@List.cons Go.Value (@Go.Value.slice (@Option.none Go.Addr) 0 0) (@List.cons Go.Value (@Go.Value.int Go.IntKind.i64 (@Int.ofNat 0)) (@List.cons Go.Value (@Go.Value.int Go.IntKind.i64 (@Int.ofNat 0)) (@List.nil Go.Value)))))))))) (d:=(@Go.TypeDesc.struct (@Array.mk Go.Field (@List.cons Go.Field (@Go.Field.mk "d" 38 0 Bool.false "" "turncock/turncockref15" 0) (@List.cons Go.Field (@Go.Field.mk "near" 53 1 Bool.false "" "turncock/turncockref15" 24) (@List.cons Go.Field (@Go.Field.mk "c" 27 2 Bool.false "" "turncock/turncockref15" 32) (@List.cons Go.Field (@Go.Field.mk "fault" 29 4 Bool.false "" "turncock/turncockref15" 80) (@List.nil Go.Field)))))))) (by kernel_rfl) (by kernel_rfl) (by kernel_rfl) ⟨by kernel_rfl,by kernel_rfl⟩ ⟨_,rfl⟩ ⟨_,rfl,by kernel_rfl,by kernel_rfl⟩ (by kernel_rfl) (fun h=>nomatch h)
def ti83:TI:=⟨.int .u64,1,8,some (.int .u64),[.v (.int .u64) 0],[],0,false⟩
theorem wq1ur:TiOk Tryz.prog 83 ti83:=TiOk.of (z:=(@Go.Value.int Go.IntKind.u64 (@Int.ofNat 0))) (d:=(@Go.TypeDesc.int Go.IntKind.u64)) (by kernel_rfl) (by kernel_rfl) (by kernel_rfl) ⟨by kernel_rfl,by kernel_rfl⟩ rfl rfl (by kernel_rfl) (fun h=>nomatch h)
def ti85:TI:=⟨.other,1,8,none,[.un],[],0,false⟩
theorem wq1us:TiOk Tryz.prog 85 ti85:=TiOk.of (z:=Go.Value.nilFunc) (d:=(@Go.TypeDesc.func (@Array.mk Nat (@List.cons Nat 83 (@List.cons Nat 83 (@List.nil Nat)))) (@Array.mk Nat (@List.cons Nat 83 (@List.cons Nat 83 (@List.nil Nat)))) Bool.false)) (by kernel_rfl) (by kernel_rfl) (by kernel_rfl) trivial rfl trivial (by kernel_rfl) (fun h=>nomatch h)
def ti86:TI:=⟨.other,1,8,none,[.un],[],0,false⟩
theorem wq1ut:TiOk Tryz.prog 86 ti86:=TiOk.of (z:=Go.Value.nilFunc) (d:=(@Go.TypeDesc.func (@Array.mk Nat (@List.cons Nat 9 (@List.cons Nat 9 (@List.nil Nat)))) (@Array.mk Nat (@List.cons Nat 4 (@List.nil Nat))) Bool.false)) (by kernel_rfl) (by kernel_rfl) (by kernel_rfl) trivial rfl trivial (by kernel_rfl) (fun h=>nomatch h)
def ti87:TI:=⟨.ptr,1,8,none,[.nilptr],[],89,false⟩
theorem wq1uu:TiOk Tryz.prog 87 ti87:=TiOk.of (z:=(@Go.Value.pointer (@Option.none Go.Addr))) (d:=(@Go.TypeDesc.pointer 89)) (by kernel_rfl) (by kernel_rfl) (by kernel_rfl) trivial rfl rfl (by kernel_rfl) (fun h=>nomatch h)
def ti88:TI:=⟨.struct,2,32,none,[.nilptr,.nilsl],[(0,87),(1,22)],0,false⟩
theorem wq1uv:TiOk Tryz.prog 88 ti88:=TiOk.of (z:=(@Go.Value.agg (@Array.mk Go.Value (@List.cons Go.Value (@Go.Value.pointer (@Option.none Go.Addr)) (@List.cons Go.Value (@Go.Value.slice (@Option.none Go.Addr) 0 0) (@List.nil Go.Value)))))) (d:=(@Go.TypeDesc.struct (@Array.mk Go.Field (@List.cons Go.Field (@Go.Field.mk "addr" 87 0 Bool.false "" "strings" 0) (@List.cons Go.Field (@Go.Field.mk "buf" 22 1 Bool.false "" "strings" 8) (@List.nil Go.Field)))))) (by kernel_rfl) (by kernel_rfl) (by kernel_rfl) trivial ⟨_,rfl⟩ ⟨_,rfl,by kernel_rfl,by kernel_rfl⟩ (by kernel_rfl) (fun h=>nomatch h)
def ti89:TI:=⟨.struct,2,32,none,[.nilptr,.nilsl],[(0,87),(1,22)],0,false⟩
theorem wq1uw:TiOk Tryz.prog 89 ti89:=TiOk.of (z:=(@Go.Value.agg (@Array.mk Go.Value (@List.cons Go.Value (@Go.Value.pointer (@Option.none Go.Addr)) (@List.cons Go.Value (@Go.Value.slice (@Option.none Go.Addr) 0 0) (@List.nil Go.Value)))))) (d:=(@Go.TypeDesc.struct (@Array.mk Go.Field (@List.cons Go.Field (@Go.Field.mk "addr" 87 0 Bool.false "" "strings" 0) (@List.cons Go.Field (@Go.Field.mk "buf" 22 1 Bool.false "" "strings" 8) (@List.nil Go.Field)))))) (by kernel_rfl) (by kernel_rfl) (by kernel_rfl) trivial ⟨_,rfl⟩ ⟨_,rfl,by kernel_rfl,by kernel_rfl⟩ (by kernel_rfl) (fun h=>nomatch h)
def ti90:TI:=⟨.other,1,8,none,[.un],[],0,false⟩
theorem wq1ux:TiOk Tryz.prog 90 ti90:=TiOk.of (z:=Go.Value.nilFunc) (d:=(@Go.TypeDesc.func (@Array.mk Nat (@List.cons Nat 3 (@List.nil Nat))) (@Array.mk Nat (@List.nil Nat)) Bool.false)) (by kernel_rfl) (by kernel_rfl) (by kernel_rfl) trivial rfl trivial (by kernel_rfl) (fun h=>nomatch h)
def ti91:TI:=⟨.iface,1,16,none,[.nilif],[],0,false⟩
theorem wq1uy:TiOk Tryz.prog 91 ti91:=TiOk.of (z:=Go.Value.nilIface) (d:=(@Go.TypeDesc.interface (@Array.mk (@Prod String Nat) (@List.cons (@Prod String Nat) (@Prod.mk String Nat "Error" 96) (@List.nil (@Prod String Nat)))))) (by kernel_rfl) (by kernel_rfl) (by kernel_rfl) trivial rfl ⟨_,rfl⟩ (by kernel_rfl) (fun h=>nomatch h)
def ti92:TI:=⟨.iface,1,16,none,[.nilif],[],0,false⟩
theorem wq1uz:TiOk Tryz.prog 92 ti92:=TiOk.of (z:=Go.Value.nilIface) (d:=(@Go.TypeDesc.interface (@Array.mk (@Prod String Nat) (@List.cons (@Prod String Nat) (@Prod.mk String Nat "Error" 96) (@List.nil (@Prod String Nat)))))) (by kernel_rfl) (by kernel_rfl) (by kernel_rfl) trivial rfl ⟨_,rfl⟩ (by kernel_rfl) (fun h=>nomatch h)
def ti94:TI:=⟨.other,1,8,none,[.un],[],0,false⟩
theorem wq1v0:TiOk Tryz.prog 94 ti94:=TiOk.of (z:=Go.Value.nilFunc) (d:=(@Go.TypeDesc.func (@Array.mk Nat (@List.cons Nat 9 (@List.nil Nat))) (@Array.mk Nat (@List.cons Nat 3 (@List.cons Nat 92 (@List.nil Nat)))) Bool.false)) (by kernel_rfl) (by kernel_rfl) (by kernel_rfl) trivial rfl trivial (by kernel_rfl) (fun h=>nomatch h)
def ti95:TI:=⟨.other,1,8,none,[.un],[],0,false⟩
theorem wq1v1:TiOk Tryz.prog 95 ti95:=TiOk.of (z:=Go.Value.nilFunc) (d:=(@Go.TypeDesc.func (@Array.mk Nat (@List.nil Nat)) (@Array.mk Nat (@List.cons Nat 3 (@List.nil Nat))) Bool.false)) (by kernel_rfl) (by kernel_rfl) (by kernel_rfl) trivial rfl trivial (by kernel_rfl) (fun h=>nomatch h)
def ti96:TI:=⟨.other,1,8,none,[.un],[],0,false⟩
theorem wq1v2:TiOk Tryz.prog 96 ti96:=TiOk.of (z:=Go.Value.nilFunc) (d:=(@Go.TypeDesc.func (@Array.mk Nat (@List.nil Nat)) (@Array.mk Nat (@List.cons Nat 9 (@List.nil Nat))) Bool.false)) (by kernel_rfl) (by kernel_rfl) (by kernel_rfl) trivial rfl trivial (by kernel_rfl) (fun h=>nomatch h)
def ti97:TI:=⟨.other,1,8,none,[.un],[],0,false⟩
theorem wq1v3:TiOk Tryz.prog 97 ti97:=TiOk.of (z:=Go.Value.nilFunc) (d:=(@Go.TypeDesc.func (@Array.mk Nat (@List.cons Nat 3 (@List.nil Nat))) (@Array.mk Nat (@List.cons Nat 3 (@List.nil Nat))) Bool.false)) (by kernel_rfl) (by kernel_rfl) (by kernel_rfl) trivial rfl trivial (by kernel_rfl) (fun h=>nomatch h)
def ti98:TI:=⟨.other,1,8,none,[.un],[],0,false⟩
theorem wq1v4:TiOk Tryz.prog 98 ti98:=TiOk.of (z:=Go.Value.nilFunc) (d:=(@Go.TypeDesc.func (@Array.mk Nat (@List.cons Nat 64 (@List.cons Nat 64 (@List.nil Nat)))) (@Array.mk Nat (@List.cons Nat 4 (@List.nil Nat))) Bool.false)) (by kernel_rfl) (by kernel_rfl) (by kernel_rfl) trivial rfl trivial (by kernel_rfl) (fun h=>nomatch h)
def ti99:TI:=⟨.other,1,8,none,[.un],[],0,false⟩
theorem wq1v5:TiOk Tryz.prog 99 ti99:=TiOk.of (z:=Go.Value.nilFunc) (d:=(@Go.TypeDesc.func (@Array.mk Nat (@List.cons Nat 24 (@List.cons Nat 24 (@List.cons Nat 98 (@List.nil Nat))))) (@Array.mk Nat (@List.cons Nat 4 (@List.nil Nat))) Bool.false)) (by kernel_rfl) (by kernel_rfl) (by kernel_rfl) trivial rfl trivial (by kernel_rfl) (fun h=>nomatch h)
def ti100:TI:=⟨.other,1,8,none,[.un],[],0,false⟩
theorem wq1qs:TiOk Tryz.prog 100 ti100:=TiOk.of (z:=Go.Value.nilFunc) (d:=(@Go.TypeDesc.func (@Array.mk Nat (@List.cons Nat 25 (@List.cons Nat 25 (@List.cons Nat 101 (@List.nil Nat))))) (@Array.mk Nat (@List.cons Nat 4 (@List.nil Nat))) Bool.false)) (by kernel_rfl) (by kernel_rfl) (by kernel_rfl) trivial rfl trivial (by kernel_rfl) (fun h=>nomatch h)
def ti101:TI:=⟨.other,1,8,none,[.un],[],0,false⟩
theorem wq1qt:TiOk Tryz.prog 101 ti101:=TiOk.of (z:=Go.Value.nilFunc) (d:=(@Go.TypeDesc.func (@Array.mk Nat (@List.cons Nat 57 (@List.cons Nat 57 (@List.nil Nat)))) (@Array.mk Nat (@List.cons Nat 4 (@List.nil Nat))) Bool.false)) (by kernel_rfl) (by kernel_rfl) (by kernel_rfl) trivial rfl trivial (by kernel_rfl) (fun h=>nomatch h)
def ti102:TI:=⟨.ptr,1,8,none,[.nilptr],[],104,false⟩
theorem wq1qu:TiOk Tryz.prog 102 ti102:=TiOk.of (z:=(@Go.Value.pointer (@Option.none Go.Addr))) (d:=(@Go.TypeDesc.pointer 104)) (by kernel_rfl) (by kernel_rfl) (by kernel_rfl) trivial rfl rfl (by kernel_rfl) (fun h=>nomatch h)
def ti103:TI:=⟨.struct,2,32,some (.pr (.sl (.int .i64)) (.int .i64)),[.nilsl,.v (.int .i64) 0],[(0,50),(1,3)],0,false⟩
theorem wq1qv:TiOk Tryz.prog 103 ti103:=TiOk.of (z:=(@Go.Value.agg (@Array.mk Go.Value (@List.cons Go.Value (@Go.Value.slice (@Option.none Go.Addr) 0 0) (@List.cons Go.Value (@Go.Value.int Go.IntKind.i64 (@Int.ofNat 0)) (@List.nil Go.Value)))))) (d:=(@Go.TypeDesc.struct (@Array.mk Go.Field (@List.cons Go.Field (@Go.Field.mk "L" 50 0 Bool.false "" "" 0) (@List.cons Go.Field (@Go.Field.mk "At" 3 1 Bool.false "" "" 24) (@List.nil Go.Field)))))) (by kernel_rfl) (by kernel_rfl) (by kernel_rfl) ⟨by kernel_rfl,by kernel_rfl⟩ ⟨_,rfl⟩ ⟨_,rfl,by kernel_rfl,by kernel_rfl⟩ (by kernel_rfl) (fun h=>nomatch h)
def ti104:TI:=⟨.struct,2,32,some (.pr (.sl (.int .i64)) (.int .i64)),[.nilsl,.v (.int .i64) 0],[(0,50),(1,3)],0,false⟩
theorem wq1qw:TiOk Tryz.prog 104 ti104:=TiOk.of (z:=(@Go.Value.agg (@Array.mk Go.Value (@List.cons Go.Value (@Go.Value.slice (@Option.none Go.Addr) 0 0) (@List.cons Go.Value (@Go.Value.int Go.IntKind.i64 (@Int.ofNat 0)) (@List.nil Go.Value)))))) (d:=(@Go.TypeDesc.struct (@Array.mk Go.Field (@List.cons Go.Field (@Go.Field.mk "L" 50 0 Bool.false "" "" 0) (@List.cons Go.Field (@Go.Field.mk "At" 3 1 Bool.false "" "" 24) (@List.nil Go.Field)))))) (by kernel_rfl) (by kernel_rfl) (by kernel_rfl) ⟨by kernel_rfl,by kernel_rfl⟩ ⟨_,rfl⟩ ⟨_,rfl,by kernel_rfl,by kernel_rfl⟩ (by kernel_rfl) (fun h=>nomatch h)
def ti105:TI:=⟨.other,1,8,none,[.un],[],0,false⟩
theorem wq1qx:TiOk Tryz.prog 105 ti105:=TiOk.of (z:=Go.Value.nilFunc) (d:=(@Go.TypeDesc.func (@Array.mk Nat (@List.cons Nat 102 (@List.cons Nat 106 (@List.cons Nat 3 (@List.cons Nat 3 (@List.cons Nat 3 (@List.nil Nat))))))) (@Array.mk Nat (@List.cons Nat 50 (@List.nil Nat))) Bool.false)) (by kernel_rfl) (by kernel_rfl) (by kernel_rfl) trivial rfl trivial (by kernel_rfl) (fun h=>nomatch h)
def ti106:TI:=⟨.ptr,1,8,none,[.nilptr],[],27,false⟩
theorem wq1qy:TiOk Tryz.prog 106 ti106:=TiOk.of (z:=(@Go.Value.pointer (@Option.none Go.Addr))) (d:=(@Go.TypeDesc.pointer 27)) (by kernel_rfl) (by kernel_rfl) (by kernel_rfl) trivial rfl rfl (by kernel_rfl) (fun h=>nomatch h)
def ti107:TI:=⟨.slice,1,24,some (.sl (.pr (.int .i64) (.pr (.int .i64) .str))),[.nilsl],[],151,false⟩
theorem wq1qz:TiOk Tryz.prog 107 ti107:=TiOk.of (z:=(@Go.Value.slice (@Option.none Go.Addr) 0 0)) (d:=(@Go.TypeDesc.slice 151)) (by kernel_rfl) (by kernel_rfl) (by kernel_rfl) ⟨by kernel_rfl,by kernel_rfl⟩ rfl rfl (by kernel_rfl) (fun h=>nomatch h)
def ti109:TI:=⟨.other,1,8,none,[.un],[],0,false⟩
theorem wq1r0:TiOk Tryz.prog 109 ti109:=TiOk.of (z:=Go.Value.nilFunc) (d:=(@Go.TypeDesc.func (@Array.mk Nat (@List.cons Nat 22 (@List.nil Nat))) (@Array.mk Nat (@List.cons Nat 107 (@List.cons Nat 29 (@List.nil Nat)))) Bool.false)) (by kernel_rfl) (by kernel_rfl) (by kernel_rfl) trivial rfl trivial (by kernel_rfl) (fun h=>nomatch h)
def ti110:TI:=⟨.slice,1,24,some (.sl (.pr (.int .i64) (.pr (.int .i64) (.pr (.int .i64) (.pr .str .bool))))),[.nilsl],[],157,false⟩
theorem wq1r1:TiOk Tryz.prog 110 ti110:=TiOk.of (z:=(@Go.Value.slice (@Option.none Go.Addr) 0 0)) (d:=(@Go.TypeDesc.slice 157)) (by kernel_rfl) (by kernel_rfl) (by kernel_rfl) ⟨by kernel_rfl,by kernel_rfl⟩ rfl rfl (by kernel_rfl) (fun h=>nomatch h)
def ti112:TI:=⟨.other,1,8,none,[.un],[],0,false⟩
theorem wq1r2:TiOk Tryz.prog 112 ti112:=TiOk.of (z:=Go.Value.nilFunc) (d:=(@Go.TypeDesc.func (@Array.mk Nat (@List.cons Nat 107 (@List.nil Nat))) (@Array.mk Nat (@List.cons Nat 110 (@List.cons Nat 29 (@List.nil Nat)))) Bool.false)) (by kernel_rfl) (by kernel_rfl) (by kernel_rfl) trivial rfl trivial (by kernel_rfl) (fun h=>nomatch h)
def ti113:TI:=⟨.other,1,8,none,[.un],[],0,false⟩
theorem wq1r3:TiOk Tryz.prog 113 ti113:=TiOk.of (z:=Go.Value.nilFunc) (d:=(@Go.TypeDesc.func (@Array.mk Nat (@List.cons Nat 110 (@List.nil Nat))) (@Array.mk Nat (@List.cons Nat 38 (@List.cons Nat 29 (@List.nil Nat)))) Bool.false)) (by kernel_rfl) (by kernel_rfl) (by kernel_rfl) trivial rfl trivial (by kernel_rfl) (fun h=>nomatch h)
def ti114:TI:=⟨.other,1,8,none,[.un],[],0,false⟩
theorem wq1r4:TiOk Tryz.prog 114 ti114:=TiOk.of (z:=Go.Value.nilFunc) (d:=(@Go.TypeDesc.func (@Array.mk Nat (@List.cons Nat 53 (@List.cons Nat 53 (@List.nil Nat)))) (@Array.mk Nat (@List.cons Nat 4 (@List.nil Nat))) Bool.false)) (by kernel_rfl) (by kernel_rfl) (by kernel_rfl) trivial rfl trivial (by kernel_rfl) (fun h=>nomatch h)
def ti115:TI:=⟨.other,1,8,none,[.un],[],0,false⟩
theorem wq1r5:TiOk Tryz.prog 115 ti115:=TiOk.of (z:=Go.Value.nilFunc) (d:=(@Go.TypeDesc.func (@Array.mk Nat (@List.cons Nat 57 (@List.cons Nat 3 (@List.cons Nat 3 (@List.nil Nat))))) (@Array.mk Nat (@List.cons Nat 4 (@List.nil Nat))) Bool.false)) (by kernel_rfl) (by kernel_rfl) (by kernel_rfl) trivial rfl trivial (by kernel_rfl) (fun h=>nomatch h)
def ti116:TI:=⟨.other,1,8,none,[.un],[],0,false⟩
theorem wq1r6:TiOk Tryz.prog 116 ti116:=TiOk.of (z:=Go.Value.nilFunc) (d:=(@Go.TypeDesc.func (@Array.mk Nat (@List.cons Nat 50 (@List.cons Nat 45 (@List.nil Nat)))) (@Array.mk Nat (@List.cons Nat 4 (@List.nil Nat))) Bool.false)) (by kernel_rfl) (by kernel_rfl) (by kernel_rfl) trivial rfl trivial (by kernel_rfl) (fun h=>nomatch h)
def ti117:TI:=⟨.other,1,8,none,[.un],[],0,false⟩
theorem wq1r7:TiOk Tryz.prog 117 ti117:=TiOk.of (z:=Go.Value.nilFunc) (d:=(@Go.TypeDesc.func (@Array.mk Nat (@List.cons Nat 38 (@List.cons Nat 3 (@List.cons Nat 3 (@List.nil Nat))))) (@Array.mk Nat (@List.cons Nat 3 (@List.nil Nat))) Bool.false)) (by kernel_rfl) (by kernel_rfl) (by kernel_rfl) trivial rfl trivial (by kernel_rfl) (fun h=>nomatch h)
def ti118:TI:=⟨.other,1,8,none,[.un],[],0,false⟩
theorem wq1r8:TiOk Tryz.prog 118 ti118:=TiOk.of (z:=Go.Value.nilFunc) (d:=(@Go.TypeDesc.func (@Array.mk Nat (@List.cons Nat 29 (@List.nil Nat))) (@Array.mk Nat (@List.nil Nat)) Bool.false)) (by kernel_rfl) (by kernel_rfl) (by kernel_rfl) trivial rfl trivial (by kernel_rfl) (fun h=>nomatch h)
def ti119:TI:=⟨.other,1,8,none,[.un],[],0,false⟩
theorem wq1r9:TiOk Tryz.prog 119 ti119:=TiOk.of (z:=Go.Value.nilFunc) (d:=(@Go.TypeDesc.func (@Array.mk Nat (@List.cons Nat 3 (@List.cons Nat 59 (@List.nil Nat)))) (@Array.mk Nat (@List.cons Nat 29 (@List.nil Nat))) Bool.true)) (by kernel_rfl) (by kernel_rfl) (by kernel_rfl) trivial rfl trivial (by kernel_rfl) (fun h=>nomatch h)
def ti121:TI:=⟨.other,1,8,none,[.un],[],0,false⟩
theorem wq1ra:TiOk Tryz.prog 121 ti121:=TiOk.of (z:=Go.Value.nilFunc) (d:=(@Go.TypeDesc.func (@Array.mk Nat (@List.cons Nat 9 (@List.nil Nat))) (@Array.mk Nat (@List.cons Nat 53 (@List.cons Nat 4 (@List.nil Nat)))) Bool.false)) (by kernel_rfl) (by kernel_rfl) (by kernel_rfl) trivial rfl trivial (by kernel_rfl) (fun h=>nomatch h)
def ti122:TI:=⟨.other,1,8,none,[.un],[],0,false⟩
theorem wq1rb:TiOk Tryz.prog 122 ti122:=TiOk.of (z:=Go.Value.nilFunc) (d:=(@Go.TypeDesc.func (@Array.mk Nat (@List.cons Nat 3 (@List.cons Nat 9 (@List.cons Nat 53 (@List.nil Nat))))) (@Array.mk Nat (@List.cons Nat 53 (@List.nil Nat))) Bool.false)) (by kernel_rfl) (by kernel_rfl) (by kernel_rfl) trivial rfl trivial (by kernel_rfl) (fun h=>nomatch h)
def ti123:TI:=⟨.other,1,8,none,[.un],[],0,false⟩
theorem wq1rc:TiOk Tryz.prog 123 ti123:=TiOk.of (z:=Go.Value.nilFunc) (d:=(@Go.TypeDesc.func (@Array.mk Nat (@List.cons Nat 3 (@List.cons Nat 9 (@List.nil Nat)))) (@Array.mk Nat (@List.cons Nat 3 (@List.nil Nat))) Bool.false)) (by kernel_rfl) (by kernel_rfl) (by kernel_rfl) trivial rfl trivial (by kernel_rfl) (fun h=>nomatch h)
def ti124:TI:=⟨.other,1,8,none,[.un],[],0,false⟩
theorem wq1rd:TiOk Tryz.prog 124 ti124:=TiOk.of (z:=Go.Value.nilFunc) (d:=(@Go.TypeDesc.func (@Array.mk Nat (@List.cons Nat 3 (@List.cons Nat 9 (@List.nil Nat)))) (@Array.mk Nat (@List.cons Nat 50 (@List.nil Nat))) Bool.false)) (by kernel_rfl) (by kernel_rfl) (by kernel_rfl) trivial rfl trivial (by kernel_rfl) (fun h=>nomatch h)
def ti125:TI:=⟨.other,1,8,none,[.un],[],0,false⟩
theorem wq1re:TiOk Tryz.prog 125 ti125:=TiOk.of (z:=Go.Value.nilFunc) (d:=(@Go.TypeDesc.func (@Array.mk Nat (@List.cons Nat 3 (@List.cons Nat 3 (@List.nil Nat)))) (@Array.mk Nat (@List.nil Nat)) Bool.false)) (by kernel_rfl) (by kernel_rfl) (by kernel_rfl) trivial rfl trivial (by kernel_rfl) (fun h=>nomatch h)
def ti126:TI:=⟨.other,1,8,none,[.un],[],0,false⟩
theorem wq1rf:TiOk Tryz.prog 126 ti126:=TiOk.of (z:=Go.Value.nilFunc) (d:=(@Go.TypeDesc.func (@Array.mk Nat (@List.cons Nat 29 (@List.nil Nat))) (@Array.mk Nat (@List.cons Nat 4 (@List.nil Nat))) Bool.false)) (by kernel_rfl) (by kernel_rfl) (by kernel_rfl) trivial rfl trivial (by kernel_rfl) (fun h=>nomatch h)
def ti127:TI:=⟨.other,1,8,none,[.un],[],0,false⟩
theorem wq1rg:TiOk Tryz.prog 127 ti127:=TiOk.of (z:=Go.Value.nilFunc) (d:=(@Go.TypeDesc.func (@Array.mk Nat (@List.cons Nat 38 (@List.cons Nat 3 (@List.cons Nat 59 (@List.nil Nat))))) (@Array.mk Nat (@List.cons Nat 29 (@List.nil Nat))) Bool.false)) (by kernel_rfl) (by kernel_rfl) (by kernel_rfl) trivial rfl trivial (by kernel_rfl) (fun h=>nomatch h)
def ti129:TI:=⟨.other,1,8,none,[.un],[],0,false⟩
theorem wq1rh:TiOk Tryz.prog 129 ti129:=TiOk.of (z:=Go.Value.nilFunc) (d:=(@Go.TypeDesc.func (@Array.mk Nat (@List.cons Nat 38 (@List.cons Nat 3 (@List.cons Nat 9 (@List.nil Nat))))) (@Array.mk Nat (@List.cons Nat 3 (@List.cons Nat 4 (@List.nil Nat)))) Bool.false)) (by kernel_rfl) (by kernel_rfl) (by kernel_rfl) trivial rfl trivial (by kernel_rfl) (fun h=>nomatch h)
def ti131:TI:=⟨.other,1,8,none,[.un],[],0,false⟩
theorem wq1ri:TiOk Tryz.prog 131 ti131:=TiOk.of (z:=Go.Value.nilFunc) (d:=(@Go.TypeDesc.func (@Array.mk Nat (@List.cons Nat 38 (@List.cons Nat 3 (@List.nil Nat)))) (@Array.mk Nat (@List.cons Nat 53 (@List.cons Nat 29 (@List.nil Nat)))) Bool.false)) (by kernel_rfl) (by kernel_rfl) (by kernel_rfl) trivial rfl trivial (by kernel_rfl) (fun h=>nomatch h)
def ti132:TI:=⟨.other,1,8,none,[.un],[],0,false⟩
theorem wq1rj:TiOk Tryz.prog 132 ti132:=TiOk.of (z:=Go.Value.nilFunc) (d:=(@Go.TypeDesc.func (@Array.mk Nat (@List.cons Nat 3 (@List.cons Nat 3 (@List.nil Nat)))) (@Array.mk Nat (@List.cons Nat 4 (@List.nil Nat))) Bool.false)) (by kernel_rfl) (by kernel_rfl) (by kernel_rfl) trivial rfl trivial (by kernel_rfl) (fun h=>nomatch h)
def ti133:TI:=⟨.other,1,8,none,[.un],[],0,false⟩
theorem wq1rk:TiOk Tryz.prog 133 ti133:=TiOk.of (z:=Go.Value.nilFunc) (d:=(@Go.TypeDesc.func (@Array.mk Nat (@List.cons Nat 38 (@List.cons Nat 3 (@List.cons Nat 3 (@List.nil Nat))))) (@Array.mk Nat (@List.cons Nat 29 (@List.nil Nat))) Bool.false)) (by kernel_rfl) (by kernel_rfl) (by kernel_rfl) trivial rfl trivial (by kernel_rfl) (fun h=>nomatch h)
def ti134:TI:=⟨.int .u32,1,4,some (.int .u32),[.v (.int .u32) 0],[],0,false⟩
theorem wq1rl:TiOk Tryz.prog 134 ti134:=TiOk.of (z:=(@Go.Value.int Go.IntKind.u32 (@Int.ofNat 0))) (d:=(@Go.TypeDesc.int Go.IntKind.u32)) (by kernel_rfl) (by kernel_rfl) (by kernel_rfl) ⟨by kernel_rfl,by kernel_rfl⟩ rfl rfl (by kernel_rfl) (fun h=>nomatch h)
def ti136:TI:=⟨.other,1,8,none,[.un],[],0,false⟩
theorem wq1rm:TiOk Tryz.prog 136 ti136:=TiOk.of (z:=Go.Value.nilFunc) (d:=(@Go.TypeDesc.func (@Array.mk Nat (@List.cons Nat 134 (@List.cons Nat 134 (@List.nil Nat)))) (@Array.mk Nat (@List.cons Nat 134 (@List.cons Nat 134 (@List.nil Nat)))) Bool.false)) (by kernel_rfl) (by kernel_rfl) (by kernel_rfl) trivial rfl trivial (by kernel_rfl) (fun h=>nomatch h)
def ti137:TI:=⟨.int .u64,1,8,some (.int .u64),[.v (.int .u64) 0],[],0,false⟩
theorem wq1rn:TiOk Tryz.prog 137 ti137:=TiOk.of (z:=(@Go.Value.int Go.IntKind.u64 (@Int.ofNat 0))) (d:=(@Go.TypeDesc.int Go.IntKind.u64)) (by kernel_rfl) (by kernel_rfl) (by kernel_rfl) ⟨by kernel_rfl,by kernel_rfl⟩ rfl rfl (by kernel_rfl) (fun h=>nomatch h)
def ti140:TI:=⟨.ptr,1,8,none,[.nilptr],[],5,false⟩
theorem wq1ro:TiOk Tryz.prog 140 ti140:=TiOk.of (z:=(@Go.Value.pointer (@Option.none Go.Addr))) (d:=(@Go.TypeDesc.pointer 5)) (by kernel_rfl) (by kernel_rfl) (by kernel_rfl) trivial rfl rfl (by kernel_rfl) (fun h=>nomatch h)
def ti143:TI:=⟨.slice,1,24,some (.sl (.sl (.int .u8))),[.nilsl],[],22,false⟩
theorem wq1rp:TiOk Tryz.prog 143 ti143:=TiOk.of (z:=(@Go.Value.slice (@Option.none Go.Addr) 0 0)) (d:=(@Go.TypeDesc.slice 22)) (by kernel_rfl) (by kernel_rfl) (by kernel_rfl) ⟨by kernel_rfl,by kernel_rfl⟩ rfl rfl (by kernel_rfl) (fun h=>nomatch h)
def ti146:TI:=⟨.other,1,8,none,[.un],[],0,false⟩
theorem wq1rq:TiOk Tryz.prog 146 ti146:=TiOk.of (z:=Go.Value.nilFunc) (d:=(@Go.TypeDesc.func (@Array.mk Nat (@List.cons Nat 21 (@List.nil Nat))) (@Array.mk Nat (@List.cons Nat 4 (@List.nil Nat))) Bool.false)) (by kernel_rfl) (by kernel_rfl) (by kernel_rfl) trivial rfl trivial (by kernel_rfl) (fun h=>nomatch h)
def ti149:TI:=⟨.other,1,8,none,[.un],[],0,false⟩
theorem wq1rr:TiOk Tryz.prog 149 ti149:=TiOk.of (z:=Go.Value.nilFunc) (d:=(@Go.TypeDesc.func (@Array.mk Nat (@List.cons Nat 9 (@List.nil Nat))) (@Array.mk Nat (@List.cons Nat 9 (@List.cons Nat 4 (@List.nil Nat)))) Bool.false)) (by kernel_rfl) (by kernel_rfl) (by kernel_rfl) trivial rfl trivial (by kernel_rfl) (fun h=>nomatch h)
def ti151:TI:=⟨.struct,3,32,some (.pr (.int .i64) (.pr (.int .i64) .str)),[.v (.int .i64) 0,.v (.int .i64) 0,.v .str []],[(0,3),(1,3),(2,9)],0,true⟩
theorem wq1rs:TiOk Tryz.prog 151 ti151:=TiOk.of (z:=(@Go.Value.agg (@Array.mk Go.Value (@List.cons Go.Value (@Go.Value.int Go.IntKind.i64 (@Int.ofNat 0)) (@List.cons Go.Value (@Go.Value.int Go.IntKind.i64 (@Int.ofNat 0)) (@List.cons Go.Value (@Go.Value.string (@ByteArray.mk (@Array.mk UInt8 (@List.nil UInt8)))) (@List.nil Go.Value))))))) (d:=(@Go.TypeDesc.struct (@Array.mk Go.Field (@List.cons Go.Field (@Go.Field.mk "No" 3 0 Bool.false "" "" 0) (@List.cons Go.Field (@Go.Field.mk "Indent" 3 1 Bool.false "" "" 8) (@List.cons Go.Field (@Go.Field.mk "Text" 9 2 Bool.false "" "" 16) (@List.nil Go.Field))))))) (by kernel_rfl) (by kernel_rfl) (by kernel_rfl) ⟨by kernel_rfl,by kernel_rfl⟩ ⟨_,rfl⟩ ⟨_,rfl,by kernel_rfl,by kernel_rfl⟩ (by kernel_rfl) (fun _ _=>by kernel_rfl)
def ti153:TI:=⟨.ptr,1,8,none,[.nilptr],[],155,false⟩
theorem wq1rt:TiOk Tryz.prog 153 ti153:=TiOk.of (z:=(@Go.Value.pointer (@Option.none Go.Addr))) (d:=(@Go.TypeDesc.pointer 155)) (by kernel_rfl) (by kernel_rfl) (by kernel_rfl) trivial rfl rfl (by kernel_rfl) (fun h=>nomatch h)
def ti155:TI:=⟨.struct,2,48,some (.pr (.sl (.pr (.int .i64) (.pr (.int .i64) (.pr (.int .i64) (.pr .str .bool))))) (.sl (.pr (.int .i64) (.pr (.int .i64) (.pr .str (.pr .bool (.pr (.sl .str) (.sl (.int .i64))))))))),[.nilsl,.nilsl],[(0,110),(1,38)],0,false⟩
theorem wq1ru:TiOk Tryz.prog 155 ti155:=TiOk.of (z:=(@Go.Value.agg (@Array.mk Go.Value (@List.cons Go.Value (@Go.Value.slice (@Option.none Go.Addr) 0 0) (@List.cons Go.Value (@Go.Value.slice (@Option.none Go.Addr) 0 0) (@List.nil Go.Value)))))) (d:=(@Go.TypeDesc.struct (@Array.mk Go.Field (@List.cons Go.Field (@Go.Field.mk "l" 110 0 Bool.false "" "turncock/doc" 0) (@List.cons Go.Field (@Go.Field.mk "d" 38 1 Bool.false "" "turncock/doc" 24) (@List.nil Go.Field)))))) (by kernel_rfl) (by kernel_rfl) (by kernel_rfl) ⟨by kernel_rfl,by kernel_rfl⟩ ⟨_,rfl⟩ ⟨_,rfl,by kernel_rfl,by kernel_rfl⟩ (by kernel_rfl) (fun h=>nomatch h)
def ti157:TI:=⟨.struct,5,48,some (.pr (.int .i64) (.pr (.int .i64) (.pr (.int .i64) (.pr .str .bool)))),[.v (.int .i64) 0,.v (.int .i64) 0,.v (.int .i64) 0,.v .str [],.v .bool false],[(0,3),(1,3),(2,3),(3,9),(4,4)],0,true⟩
theorem wq1rv:TiOk Tryz.prog 157 ti157:=TiOk.of (z:=(@Go.Value.agg (@Array.mk Go.Value (@List.cons Go.Value (@Go.Value.int Go.IntKind.i64 (@Int.ofNat 0)) (@List.cons Go.Value (@Go.Value.int Go.IntKind.i64 (@Int.ofNat 0)) (@List.cons Go.Value (@Go.Value.int Go.IntKind.i64 (@Int.ofNat 0)) (@List.cons Go.Value (@Go.Value.string (@ByteArray.mk (@Array.mk UInt8 (@List.nil UInt8)))) (@List.cons Go.Value (@Go.Value.bool Bool.false) (@List.nil Go.Value))))))))) (d:=(@Go.TypeDesc.struct (@Array.mk Go.Field (@List.cons Go.Field (@Go.Field.mk "Kind" 3 0 Bool.false "" "" 0) (@List.cons Go.Field (@Go.Field.mk "Line" 3 1 Bool.false "" "" 8) (@List.cons Go.Field (@Go.Field.mk "Col" 3 2 Bool.false "" "" 16) (@List.cons Go.Field (@Go.Field.mk "Text" 9 3 Bool.false "" "" 24) (@List.cons Go.Field (@Go.Field.mk "Quoted" 4 4 Bool.false "" "" 40) (@List.nil Go.Field))))))))) (by kernel_rfl) (by kernel_rfl) (by kernel_rfl) ⟨by kernel_rfl,by kernel_rfl⟩ ⟨_,rfl⟩ ⟨_,rfl,by kernel_rfl,by kernel_rfl⟩ (by kernel_rfl) (fun _ _=>by kernel_rfl)
def ti158:TI:=⟨.ptr,1,8,none,[.nilptr],[],160,false⟩
theorem wq1rw:TiOk Tryz.prog 158 ti158:=TiOk.of (z:=(@Go.Value.pointer (@Option.none Go.Addr))) (d:=(@Go.TypeDesc.pointer 160)) (by kernel_rfl) (by kernel_rfl) (by kernel_rfl) trivial rfl rfl (by kernel_rfl) (fun h=>nomatch h)
def ti160:TI:=⟨.struct,5,72,some (.pr (.sl (.pr (.int .i64) (.pr (.int .i64) (.pr (.int .i64) (.pr .str .bool))))) (.pr (.int .i64) (.pr (.sl (.pr (.int .i64) (.pr (.int .i64) (.pr .str (.pr .bool (.pr (.sl .str) (.sl (.int .i64)))))))) (.pr (.int .i64) (.int .i64))))),[.nilsl,.v (.int .i64) 0,.nilsl,.v (.int .i64) 0,.v (.int .i64) 0],[(0,110),(1,3),(2,36),(3,29)],0,false⟩
theorem wq1rx:TiOk Tryz.prog 160 ti160:=TiOk.of (z:=(@Go.Value.agg (@Array.mk Go.Value (@List.cons Go.Value (@Go.Value.slice (@Option.none Go.Addr) 0 0) (@List.cons Go.Value (@Go.Value.int Go.IntKind.i64 (@Int.ofNat 0)) (@List.cons Go.Value (@Go.Value.slice (@Option.none Go.Addr) 0 0) (@List.cons Go.Value (@Go.Value.int Go.IntKind.i64 (@Int.ofNat 0)) (@List.cons Go.Value (@Go.Value.int Go.IntKind.i64 (@Int.ofNat 0)) (@List.nil Go.Value))))))))) (d:=(@Go.TypeDesc.struct (@Array.mk Go.Field (@List.cons Go.Field (@Go.Field.mk "l" 110 0 Bool.false "" "turncock/turncockref10" 0) (@List.cons Go.Field (@Go.Field.mk "at" 3 1 Bool.false "" "turncock/turncockref10" 24) (@List.cons Go.Field (@Go.Field.mk "nodes" 36 2 Bool.false "" "turncock/turncockref10" 32) (@List.cons Go.Field (@Go.Field.mk "fault" 29 3 Bool.false "" "turncock/turncockref10" 56) (@List.nil Go.Field)))))))) (by kernel_rfl) (by kernel_rfl) (by kernel_rfl) ⟨by kernel_rfl,by kernel_rfl⟩ ⟨_,rfl⟩ ⟨_,rfl,by kernel_rfl,by kernel_rfl⟩ (by kernel_rfl) (fun h=>nomatch h)
def ti178:TI:=⟨.other,1,8,none,[.un],[],0,false⟩
theorem wq1ry:TiOk Tryz.prog 178 ti178:=TiOk.of (z:=Go.Value.nilFunc) (d:=(@Go.TypeDesc.func (@Array.mk Nat (@List.cons Nat 64 (@List.nil Nat))) (@Array.mk Nat (@List.cons Nat 4 (@List.nil Nat))) Bool.false)) (by kernel_rfl) (by kernel_rfl) (by kernel_rfl) trivial rfl trivial (by kernel_rfl) (fun h=>nomatch h)
def ti196:TI:=⟨.ptr,1,8,none,[.nilptr],[],192,false⟩
theorem wq1rz:TiOk Tryz.prog 196 ti196:=TiOk.of (z:=(@Go.Value.pointer (@Option.none Go.Addr))) (d:=(@Go.TypeDesc.pointer 192)) (by kernel_rfl) (by kernel_rfl) (by kernel_rfl) trivial rfl rfl (by kernel_rfl) (fun h=>nomatch h)
def ti198:TI:=⟨.ptr,1,8,none,[.nilptr],[],200,false⟩
theorem wq1s0:TiOk Tryz.prog 198 ti198:=TiOk.of (z:=(@Go.Value.pointer (@Option.none Go.Addr))) (d:=(@Go.TypeDesc.pointer 200)) (by kernel_rfl) (by kernel_rfl) (by kernel_rfl) trivial rfl rfl (by kernel_rfl) (fun h=>nomatch h)
def ti200:TI:=⟨.struct,5,64,some (.pr (.pr (.int .i64) (.pr (.int .i64) .str)) (.pr (.int .i64) (.sl (.pr (.int .i64) (.pr (.int .i64) (.pr (.int .i64) (.pr .str .bool))))))),[.v (.int .i64) 0,.v (.int .i64) 0,.v .str [],.v (.int .i64) 0,.nilsl],[(0,151),(3,3),(4,110)],0,false⟩
theorem wq1s1:TiOk Tryz.prog 200 ti200:=TiOk.of (z:=(@Go.Value.agg (@Array.mk Go.Value (@List.cons Go.Value (@Go.Value.int Go.IntKind.i64 (@Int.ofNat 0)) (@List.cons Go.Value (@Go.Value.int Go.IntKind.i64 (@Int.ofNat 0)) (@List.cons Go.Value (@Go.Value.string (@ByteArray.mk (@Array.mk UInt8 (@List.nil UInt8)))) (@List.cons Go.Value (@Go.Value.int Go.IntKind.i64 (@Int.ofNat 0)) (@List.cons Go.Value (@Go.Value.slice (@Option.none Go.Addr) 0 0) (@List.nil Go.Value))))))))) (d:=(@Go.TypeDesc.struct (@Array.mk Go.Field (@List.cons Go.Field (@Go.Field.mk "l" 151 0 Bool.false "" "turncock/lex" 0) (@List.cons Go.Field (@Go.Field.mk "at" 3 3 Bool.false "" "turncock/lex" 32) (@List.cons Go.Field (@Go.Field.mk "out" 110 4 Bool.false "" "turncock/lex" 40) (@List.nil Go.Field))))))) (by kernel_rfl) (by kernel_rfl) (by kernel_rfl) ⟨by kernel_rfl,by kernel_rfl⟩ ⟨_,rfl⟩ ⟨_,rfl,by kernel_rfl,by kernel_rfl⟩ (by kernel_rfl) (fun h=>nomatch h)
def ti205:TI:=⟨.other,1,8,none,[.un],[],0,false⟩
theorem wq1s2:TiOk Tryz.prog 205 ti205:=TiOk.of (z:=Go.Value.nilFunc) (d:=(@Go.TypeDesc.func (@Array.mk Nat (@List.cons Nat 59 (@List.nil Nat))) (@Array.mk Nat (@List.cons Nat 4 (@List.nil Nat))) Bool.false)) (by kernel_rfl) (by kernel_rfl) (by kernel_rfl) trivial rfl trivial (by kernel_rfl) (fun h=>nomatch h)
def ti224:TI:=⟨.ptr,1,8,none,[.nilptr],[],73,false⟩
theorem wq1s3:TiOk Tryz.prog 224 ti224:=TiOk.of (z:=(@Go.Value.pointer (@Option.none Go.Addr))) (d:=(@Go.TypeDesc.pointer 73)) (by kernel_rfl) (by kernel_rfl) (by kernel_rfl) trivial rfl rfl (by kernel_rfl) (fun h=>nomatch h)
def ti260:TI:=⟨.struct,4,40,none,[.nilptr,.nilptr,.nilptr,.v .str []],[(0,17),(1,17),(2,17),(3,9)],0,false⟩
theorem wq1s4:TiOk Tryz.prog 260 ti260:=TiOk.of (z:=(@Go.Value.agg (@Array.mk Go.Value (@List.cons Go.Value (@Go.Value.pointer (@Option.none Go.Addr)) (@List.cons Go.Value (@Go.Value.pointer (@Option.none Go.Addr)) (@List.cons Go.Value (@Go.Value.pointer (@Option.none Go.Addr)) (@List.cons Go.Value (@Go.Value.string (@ByteArray.mk (@Array.mk UInt8 (@List.nil UInt8)))) (@List.nil Go.Value)))))))) (d:=(@Go.TypeDesc.struct (@Array.mk Go.Field (@List.cons Go.Field (@Go.Field.mk "_interface" 17 0 Bool.false "" "runtime" 0) (@List.cons Go.Field (@Go.Field.mk "concrete" 17 1 Bool.false "" "runtime" 8) (@List.cons Go.Field (@Go.Field.mk "asserted" 17 2 Bool.false "" "runtime" 16) (@List.cons Go.Field (@Go.Field.mk "missingMethod" 9 3 Bool.false "" "runtime" 24) (@List.nil Go.Field)))))))) (by kernel_rfl) (by kernel_rfl) (by kernel_rfl) trivial ⟨_,rfl⟩ ⟨_,rfl,by kernel_rfl,by kernel_rfl⟩ (by kernel_rfl) (fun h=>nomatch h)
def ti263:TI:=⟨.struct,0,0,none,[],[(0,261)],0,false⟩
theorem wq1s5:TiOk Tryz.prog 263 ti263:=TiOk.of (z:=(@Go.Value.agg (@Array.mk Go.Value (@List.nil Go.Value)))) (d:=(@Go.TypeDesc.struct (@Array.mk Go.Field (@List.cons Go.Field (@Go.Field.mk "_" 261 0 Bool.false "" "runtime" 0) (@List.nil Go.Field))))) (by kernel_rfl) (by kernel_rfl) (by kernel_rfl) trivial ⟨_,rfl⟩ ⟨_,rfl,by kernel_rfl,by kernel_rfl⟩ (by kernel_rfl) (fun h=>nomatch h)
def ti264:TI:=⟨.int .u8,1,1,some (.int .u8),[.v (.int .u8) 0],[],0,false⟩
theorem wq1s6:TiOk Tryz.prog 264 ti264:=TiOk.of (z:=(@Go.Value.int Go.IntKind.u8 (@Int.ofNat 0))) (d:=(@Go.TypeDesc.int Go.IntKind.u8)) (by kernel_rfl) (by kernel_rfl) (by kernel_rfl) ⟨by kernel_rfl,by kernel_rfl⟩ rfl rfl (by kernel_rfl) (fun h=>nomatch h)
def ti265:TI:=⟨.int .u8,1,1,some (.int .u8),[.v (.int .u8) 0],[],0,false⟩
theorem wq1s7:TiOk Tryz.prog 265 ti265:=TiOk.of (z:=(@Go.Value.int Go.IntKind.u8 (@Int.ofNat 0))) (d:=(@Go.TypeDesc.int Go.IntKind.u8)) (by kernel_rfl) (by kernel_rfl) (by kernel_rfl) ⟨by kernel_rfl,by kernel_rfl⟩ rfl rfl (by kernel_rfl) (fun h=>nomatch h)
def ti266:TI:=⟨.other,1,8,none,[.un],[],0,false⟩
theorem wq1s8:TiOk Tryz.prog 266 ti266:=TiOk.of (z:=Go.Value.nilFunc) (d:=(@Go.TypeDesc.func (@Array.mk Nat (@List.cons Nat 184 (@List.cons Nat 184 (@List.nil Nat)))) (@Array.mk Nat (@List.cons Nat 4 (@List.nil Nat))) Bool.false)) (by kernel_rfl) (by kernel_rfl) (by kernel_rfl) trivial rfl trivial (by kernel_rfl) (fun h=>nomatch h)
def ti267:TI:=⟨.int .i32,1,4,some (.int .i32),[.v (.int .i32) 0],[],0,false⟩
theorem wq1s9:TiOk Tryz.prog 267 ti267:=TiOk.of (z:=(@Go.Value.int Go.IntKind.i32 (@Int.ofNat 0))) (d:=(@Go.TypeDesc.int Go.IntKind.i32)) (by kernel_rfl) (by kernel_rfl) (by kernel_rfl) ⟨by kernel_rfl,by kernel_rfl⟩ rfl rfl (by kernel_rfl) (fun h=>nomatch h)
def ti268:TI:=⟨.int .i32,1,4,some (.int .i32),[.v (.int .i32) 0],[],0,false⟩
theorem wq1sa:TiOk Tryz.prog 268 ti268:=TiOk.of (z:=(@Go.Value.int Go.IntKind.i32 (@Int.ofNat 0))) (d:=(@Go.TypeDesc.int Go.IntKind.i32)) (by kernel_rfl) (by kernel_rfl) (by kernel_rfl) ⟨by kernel_rfl,by kernel_rfl⟩ rfl rfl (by kernel_rfl) (fun h=>nomatch h)
def ti270:TI:=⟨.struct,11,48,none,[.v (.int .u64) 0,.v (.int .u64) 0,.v (.int .u32) 0,.v (.int .u8) 0,.v (.int .u8) 0,.v (.int .u8) 0,.v (.int .u8) 0,.un,.nilptr,.v (.int .i32) 0,.v (.int .i32) 0],[(0,12),(1,12),(2,134),(3,264),(4,5),(5,5),(6,265),(7,266),(8,140),(9,267),(10,268)],0,false⟩
theorem wq1sb:TiOk Tryz.prog 270 ti270:=TiOk.of (z:=(@Go.Value.agg (@Array.mk Go.Value (@List.cons Go.Value (@Go.Value.int Go.IntKind.u64 (@Int.ofNat 0)) (@List.cons Go.Value (@Go.Value.int Go.IntKind.u64 (@Int.ofNat 0)) (@List.cons Go.Value (@Go.Value.int Go.IntKind.u32 (@Int.ofNat 0)) (@List.cons Go.Value (@Go.Value.int Go.IntKind.u8 (@Int.ofNat 0)) (@List.cons Go.Value (@Go.Value.int Go.IntKind.u8 (@Int.ofNat 0)) (@List.cons Go.Value (@Go.Value.int Go.IntKind.u8 (@Int.ofNat 0)) (@List.cons Go.Value (@Go.Value.int Go.IntKind.u8 (@Int.ofNat 0)) (@List.cons Go.Value Go.Value.nilFunc (@List.cons Go.Value (@Go.Value.pointer (@Option.none Go.Addr)) (@List.cons Go.Value (@Go.Value.int Go.IntKind.i32 (@Int.ofNat 0)) (@List.cons Go.Value (@Go.Value.int Go.IntKind.i32 (@Int.ofNat 0)) (@List.nil Go.Value))))))))))))))) (d:=(@Go.TypeDesc.struct (@Array.mk Go.Field (@List.cons Go.Field (@Go.Field.mk "Size_" 12 0 Bool.false "" "" 0) (@List.cons Go.Field (@Go.Field.mk "PtrBytes" 12 1 Bool.false "" "" 8) (@List.cons Go.Field (@Go.Field.mk "Hash" 134 2 Bool.false "" "" 16) (@List.cons Go.Field (@Go.Field.mk "TFlag" 264 3 Bool.false "" "" 20) (@List.cons Go.Field (@Go.Field.mk "Align_" 5 4 Bool.false "" "" 21) (@List.cons Go.Field (@Go.Field.mk "FieldAlign_" 5 5 Bool.false "" "" 22) (@List.cons Go.Field (@Go.Field.mk "Kind_" 265 6 Bool.false "" "" 23) (@List.cons Go.Field (@Go.Field.mk "Equal" 266 7 Bool.false "" "" 24) (@List.cons Go.Field (@Go.Field.mk "GCData" 140 8 Bool.false "" "" 32) (@List.cons Go.Field (@Go.Field.mk "Str" 267 9 Bool.false "" "" 40) (@List.cons Go.Field (@Go.Field.mk "PtrToThis" 268 10 Bool.false "" "" 44) (@List.nil Go.Field))))))))))))))) (by kernel_rfl) (by kernel_rfl) (by kernel_rfl) trivial ⟨_,rfl⟩ ⟨_,rfl,by kernel_rfl,by kernel_rfl⟩ (by kernel_rfl) (fun h=>nomatch h)
def tyL:List (Nat×TI):=[(1,ti1),(2,ti2),(3,ti3),(4,ti4),(5,ti5),(6,ti6),(7,ti7),(8,ti8),(9,ti9),(10,ti10),(11,ti11),(12,ti12),(13,ti13),(14,ti14),(15,ti15),(16,ti16),(17,ti17),(18,ti18),(19,ti19),(20,ti20),(21,ti21),(22,ti22),(23,ti23),(24,ti24),(25,ti25),(26,ti26),(27,ti27),(28,ti28),(29,ti29),(31,ti31),(32,ti32),(33,ti33),(34,ti34),(35,ti35),(36,ti36),(37,ti37),(38,ti38),(39,ti39),(40,ti40),(41,ti41),(42,ti42),(43,ti43),(44,ti44),(45,ti45),(46,ti46),(47,ti47),(48,ti48),(49,ti49),(50,ti50),(51,ti51),(52,ti52),(53,ti53),(54,ti54),(55,ti55),(56,ti56),(57,ti57),(58,ti58),(59,ti59),(60,ti60),(61,ti61),(62,ti62),(63,ti63),(64,ti64),(66,ti66),(67,ti67),(68,ti68),(69,ti69),(70,ti70),(71,ti71),(72,ti72),(73,ti73),(74,ti74),(75,ti75),(76,ti76),(77,ti77),(78,ti78),(79,ti79),(80,ti80),(81,ti81),(82,ti82),(83,ti83),(85,ti85),(86,ti86),(87,ti87),(88,ti88),(89,ti89),(90,ti90),(91,ti91),(92,ti92),(94,ti94),(95,ti95),(96,ti96),(97,ti97),(98,ti98),(99,ti99),(100,ti100),(101,ti101),(102,ti102),(103,ti103),(104,ti104),(105,ti105),(106,ti106),(107,ti107),(109,ti109),(110,ti110),(112,ti112),(113,ti113),(114,ti114),(115,ti115),(116,ti116),(117,ti117),(118,ti118),(119,ti119),(121,ti121),(122,ti122),(123,ti123),(124,ti124),(125,ti125),(126,ti126),(127,ti127),(129,ti129),(131,ti131),(132,ti132),(133,ti133),(134,ti134),(136,ti136),(137,ti137),(140,ti140),(143,ti143),(146,ti146),(149,ti149),(151,ti151),(153,ti153),(155,ti155),(157,ti157),(158,ti158),(160,ti160),(178,ti178),(196,ti196),(198,ti198),(200,ti200),(205,ti205),(224,ti224),(260,ti260),(263,ti263),(264,ti264),(265,ti265),(266,ti266),(267,ti267),(268,ti268),(270,ti270)]
def tyT:TypeId→Option TI:=look tyL
theorem tyT_ok:TyOk Tryz.prog tyT:=wq1sp (all_cons ti1_ok (all_cons ti2_ok (all_cons ti3_ok (all_cons ti4_ok (all_cons ti5_ok (all_cons ti6_ok (all_cons ti7_ok (all_cons ti8_ok (all_cons ti9_ok (all_cons wq1ss (all_cons wq1st (all_cons wq1su (all_cons wq1sv (all_cons wq1sw (all_cons wq1sx (all_cons wq1sy (all_cons wq1sz (all_cons wq1t0 (all_cons wq1t1 (all_cons wq1t2 (all_cons wq1t3 (all_cons wq1t4 (all_cons wq1t5 (all_cons wq1t6 (all_cons wq1t7 (all_cons wq1t8 (all_cons wq1t9 (all_cons wq1ta (all_cons wq1tb (all_cons wq1tc (all_cons wq1td (all_cons wq1te (all_cons wq1tf (all_cons wq1tg (all_cons wq1th (all_cons wq1ti (all_cons wq1tj (all_cons wq1tk (all_cons wq1tl (all_cons wq1tm (all_cons wq1tn (all_cons wq1to (all_cons wq1tp (all_cons wq1tq (all_cons wq1tr (all_cons wq1ts (all_cons wq1tt (all_cons wq1tu (all_cons wq1tv (all_cons wq1tw (all_cons wq1tx (all_cons wq1ty (all_cons wq1tz (all_cons wq1u0 (all_cons wq1u1 (all_cons wq1u2 (all_cons wq1u3 (all_cons wq1u4 (all_cons wq1u5 (all_cons wq1u6 (all_cons wq1u7 (all_cons wq1u8 (all_cons wq1u9 (all_cons wq1ua (all_cons wq1ub (all_cons wq1uc (all_cons wq1ud (all_cons wq1ue (all_cons wq1uf (all_cons wq1ug (all_cons wq1uh (all_cons wq1ui (all_cons wq1uj (all_cons wq1uk (all_cons wq1ul (all_cons wq1um (all_cons wq1un (all_cons wq1uo (all_cons wq1up (all_cons wq1uq (all_cons wq1ur (all_cons wq1us (all_cons wq1ut (all_cons wq1uu (all_cons wq1uv (all_cons wq1uw (all_cons wq1ux (all_cons wq1uy (all_cons wq1uz (all_cons wq1v0 (all_cons wq1v1 (all_cons wq1v2 (all_cons wq1v3 (all_cons wq1v4 (all_cons wq1v5 (all_cons wq1qs (all_cons wq1qt (all_cons wq1qu (all_cons wq1qv (all_cons wq1qw (all_cons wq1qx (all_cons wq1qy (all_cons wq1qz (all_cons wq1r0 (all_cons wq1r1 (all_cons wq1r2 (all_cons wq1r3 (all_cons wq1r4 (all_cons wq1r5 (all_cons wq1r6 (all_cons wq1r7 (all_cons wq1r8 (all_cons wq1r9 (all_cons wq1ra (all_cons wq1rb (all_cons wq1rc (all_cons wq1rd (all_cons wq1re (all_cons wq1rf (all_cons wq1rg (all_cons wq1rh (all_cons wq1ri (all_cons wq1rj (all_cons wq1rk (all_cons wq1rl (all_cons wq1rm (all_cons wq1rn (all_cons wq1ro (all_cons wq1rp (all_cons wq1rq (all_cons wq1rr (all_cons wq1rs (all_cons wq1rt (all_cons wq1ru (all_cons wq1rv (all_cons wq1rw (all_cons wq1rx (all_cons wq1ry (all_cons wq1rz (all_cons wq1s0 (all_cons wq1s1 (all_cons wq1s2 (all_cons wq1s3 (all_cons wq1s4 (all_cons wq1s5 (all_cons wq1s6 (all_cons wq1s7 (all_cons wq1s8 (all_cons wq1s9 (all_cons wq1sa (all_cons wq1sb (wq1sq))))))))))))))))))))))))))))))))))))))))))))))))))))))))))))))))))))))))))))))))))))))))))))))))))))))))))))))))))))))))))))))))))))))))))))))))))))))))
end Go.Proofs.YtabkhphoacmcdaaGreatDoor.Pvm
namespace Go.Proofs.YtabkhphoacmcdaaGreatDoor.Pvm
open Go
variable {P:Program}
def cdOf(fn:Func): Code:=fn.body.getD .skip
def fnW(cx:Ctx)(k:Nat)(fn:Func)(sp:RetSpec){R:Type}(ps:List PV)(hp:List (Nm×HObj))(wr:Out→Option R): Option R:=fnK cx k (cdOf fn) fn.ntmps fn.results.toList sp ps hp wr
def bodyK(cx:Ctx)(k:Nat)(fn:Func)(sp:RetSpec)(p:List Nat){R:Type}(I:Nat→St→Option R)(s:St)(wr:Out→Option R): Option R :=
 execK cx k (at_ p (cdOf fn)) s (konts cx k I p (cdOf fn) (outK cx sp fn.results.toList wr))
def loopK(cx:Ctx)(k:Nat)(fn:Func)(sp:RetSpec)(id:Nat)(p:List Nat){R:Type}(I:Nat→St→Option R)(n:Nat)(s:St)(wr:Out→Option R): Option R :=
 iter cx.pv (look cx.cuts id) (execK cx k (at_ (p++[0]) (cdOf fn))) n s (konts cx k I p (cdOf fn) (outK cx sp fn.results.toList wr))
def upI{R:Type}(id:Nat)(f:St→Option R)(I:Nat→St→Option R): Nat→St→Option R:=fun i s=>bif Nat.beq i id then f s else I i s
theorem wq43{R:Type}(id:Nat)(f:St→Option R)(I:Nat→St→Option R)(s:St): upI id f I id s=f s:=by unfold upI;rw[Nat.beq_refl];rfl
theorem upI_ne{R:Type}{i id:Nat}(h:Nat.beq i id=false)(f:St→Option R)(I:Nat→St→Option R)(s:St): upI id f I i s=I i s:=by unfold upI;rw[h];rfl
def DOK(P:Program)(f:FuncId)(run:{R:Type}→List PV→List (Nm×HObj)→(Out→Option R)→Option R): Prop :=
 ∀(ps:List PV) (hp:List (Nm×HObj)) (R:Type) (K:Out→Option R) (r:R),run ps hp K=some r→DoesTo P f ps hp fun out=>K out=some r
theorem wqd{f:FuncId}{s:List LS}{C:CTab}{run:{R:Type}→List PV→List (Nm×HObj)→(Out→Option R)→Option R}(h:DOK P f run)(hC:C.Ok P): (CTab.add f s run C).Ok P:=CTab.add_ok (h _ _ _ _ _) hC
theorem fnW_ok {cx:Ctx} (X:cx.Ok P) (hm:P.follows .mixedOrders=true) {f:FuncId} {fn:Func} (h1:P.funcs[f]? = some fn) (h2:(fn.body.isSome && !(fn.name == "runtime.NumGoroutine")&&codeOk fn.ntmps (cdOf fn))=true)
 {k:Nat} {sp:RetSpec} {ps:List PV} {hp:List (Nm×HObj)} {R:Type} {wr K:Out→Option R} {r:R} (h:fnW cx k fn sp ps hp wr=some r) (hw:∀ o,wr o=some r→K o=some r):DoesTo P f ps hp fun out=>K out=some r:=by
 simp only[Bool.and_eq_true,Bool.not_eq_true']at h2
 obtain⟨⟨h3,h4⟩,h5⟩:=h2
 obtain⟨c,hc⟩:=Option.isSome_iff_exists.1 h3
 have e:cdOf fn=c:=by unfold cdOf;rw[hc];rfl
 unfold fnW at h
 rw[e]at h h5
 exact(fn_ok X hm h1 hc h4 rfl h5 h).mono hw
end Go.Proofs.YtabkhphoacmcdaaGreatDoor.Pvm
set_option maxRecDepth 1000000
set_option maxHeartbeats 0
namespace Go.Proofs.YtabkhphoacmcdaaGreatDoor.Pvm
open Go Go.Proofs
def wqwi:List LS:=[.obj 1 [.sl (.pr .str (.sl (.int .i64))),.sl (.pr .str (.pr .str (.pr .bool (.pr (.int .i64) (.pr (.int .i64) (.pr .bool (.pr (.pr .str (.pr (.int .i64) (.pr (.int .i64) (.pr .flt (.pr .bool .bool))))) (.sl (.int .i64)))))))))],.obj 2 [.any,.any]]
def wqwj(k:Nat): CTab:=CTab.nil
def wqhh{R:Type}(K:((List ((List UInt8)×(List Int)))→(List dT56)→Int→Int→Option R)): Out→Option R
 |.ret [] [(1,.var 27 [.v (.sl (.pr .str (.sl (.int .i64)))) y0,.v (.sl (.pr .str (.pr .str (.pr .bool (.pr (.int .i64) (.pr (.int .i64) (.pr .bool (.pr (.pr .str (.pr (.int .i64) (.pr (.int .i64) (.pr .flt (.pr .bool .bool))))) (.sl (.int .i64)))))))))) y1]),(2,.var 29 [.v (.int .i64) y2,.v (.int .i64) y3])]=>K y0 y1 y2 y3
 |_=>none
def wqsx:RetSpec:=⟨[],[(1,.obj 1 [.sl (.pr .str (.sl (.int .i64))),.sl (.pr .str (.pr .str (.pr .bool (.pr (.int .i64) (.pr (.int .i64) (.pr .bool (.pr (.pr .str (.pr (.int .i64) (.pr (.int .i64) (.pr .flt (.pr .bool .bool))))) (.sl (.int .i64)))))))))]),(2,.obj 2 [.any,.any])],[]⟩
def wq12p:List (Nat×CutSpec):=[]
def wq103:List (Nat×Plan):=[(7,(.of [(0,1),(1,2),(2,0),(3,0)] .done))]
def wqlq(k:Nat): Ctx:=⟨tyT,wq12p,wqwj k,[],[1,2],wq103,@SH⟩
def wqcx:Code:=Tryz.f36.body.getD .skip
def wqwk(k:Nat){R:Type}(x0:(List ((List UInt8)×(List Int))))(x1:(List dT56))(x2 x3:Int)(K:((List ((List UInt8)×(List Int)))→(List dT56)→Int→Int→Option R)): Option R:=K x0 x1 x2 x3
theorem wq12q(k:Nat){R:Type}(I:Nat→St→Option R)(x0:(List ((List UInt8)×(List Int))))(x1:(List dT56))(x2 x3:Int)(K:((List ((List UInt8)×(List Int)))→(List dT56)→Int→Int→Option R)): fnCK (wqlq k) k (at_ [1] wqcx) 13 [] wqsx [.ptr 1 0,.ptr 2 0] 5 (.nilif) [(1,.var 27 [.v (.sl (.pr .str (.sl (.int .i64)))) x0,.v (.sl (.pr .str (.pr .str (.pr .bool (.pr (.int .i64) (.pr (.int .i64) (.pr .bool (.pr (.pr .str (.pr (.int .i64) (.pr (.int .i64) (.pr .flt (.pr .bool .bool))))) (.sl (.int .i64)))))))))) x1]),(2,.var 29 [.v (.int .i64) x2,.v (.int .i64) x3])] (wqhh K)=wqwk k x0 x1 x2 x3 K:=by kernel_rfl
def wqi7(k:Nat){R:Type}(x0:(List ((List UInt8)×(List Int))))(x1:(List dT56))(x2 x3:Int)(K:((List ((List UInt8)×(List Int)))→(List dT56)→Int→Int→Option R)): Option R:=wqwk k x0 x1 x2 x3 K
theorem wq12r(k:Nat){R:Type}(x0:(List ((List UInt8)×(List Int))))(x1:(List dT56))(x2 x3:Int)(K:((List ((List UInt8)×(List Int)))→(List dT56)→Int→Int→Option R)): fnCK (wqlq k) k (at_ [1] wqcx) 13 [] wqsx [.ptr 1 0,.ptr 2 0] 5 (.nilif) [(1,.var 27 [.v (.sl (.pr .str (.sl (.int .i64)))) x0,.v (.sl (.pr .str (.pr .str (.pr .bool (.pr (.int .i64) (.pr (.int .i64) (.pr .bool (.pr (.pr .str (.pr (.int .i64) (.pr (.int .i64) (.pr .flt (.pr .bool .bool))))) (.sl (.int .i64)))))))))) x1]),(2,.var 29 [.v (.int .i64) x2,.v (.int .i64) x3])] (wqhh K)=wqi7 k x0 x1 x2 x3 K:=by
 exact wq12q k (fun _ _=>none) x0 x1 x2 x3 K
def wqrr(k:Nat){R:Type}: PV→List PV→List (Nm×HObj)→(Out→Option R)→Option R
 |.nilif,[.ptr 1 0,.ptr 2 0],[(1,.var 27 [.v (.sl (.pr .str (.sl (.int .i64)))) x0,.v (.sl (.pr .str (.pr .str (.pr .bool (.pr (.int .i64) (.pr (.int .i64) (.pr .bool (.pr (.pr .str (.pr (.int .i64) (.pr (.int .i64) (.pr .flt (.pr .bool .bool))))) (.sl (.int .i64)))))))))) x1]),(2,.var 29 [.v (.int .i64) x2,.v (.int .i64) x3])],K=>wqi7 k x0 x1 x2 x3 (fun y0 y1 y2 y3=>K (.ret [] [(1,.var 27 [.v (.sl (.pr .str (.sl (.int .i64)))) y0,.v (.sl (.pr .str (.pr .str (.pr .bool (.pr (.int .i64) (.pr (.int .i64) (.pr .bool (.pr (.pr .str (.pr (.int .i64) (.pr (.int .i64) (.pr .flt (.pr .bool .bool))))) (.sl (.int .i64)))))))))) y1]),(2,.var 29 [.v (.int .i64) y2,.v (.int .i64) y3])]))
 |_,_,_,_=>none
theorem wq12s(k:Nat): (wqwj k).Ok Tryz.prog:=CTab.nil_ok
theorem wq18g(k:Nat){rec:PV}{ps:List PV}{hp:List (Nm×HObj)}{R:Type}{K:Out→Option R}{r:R}(h:wqrr k rec ps hp K=some r): DoesToD Tryz.prog 36 rec ps hp fun out=>K out=some r:=by
 unfold wqrr at h
 split at h
 ·rw[←wq12r]at h
  have:=wq1d9 (P:=Tryz.prog) (cx:=wqlq k) (f:=36) ⟨tyT_ok,wq12s k,fun _ _=>rfl⟩ (by kernel_rfl) (fn:=Tryz.f36) (id:=0) (ops:=opsAt (at_ [0] wqcx)) (c:=at_ [1] wqcx) (by kernel_rfl) (by kernel_rfl) (by kernel_rfl) (rs:=[]) (by kernel_rfl) (by kernel_rfl) h
  exact this.mono fun out ho=>by
   unfold wqhh at ho
   split at ho<;>first|exact ho|cases ho
 ·cases h
def wqwl(k:Nat): CTab:=CTab.nil
def wqhi{R:Type}(K:((List ((List UInt8)×(List Int)))→(List dT56)→Int→Int→Option R)): Out→Option R
 |.ret [] [(1,.var 27 [.v (.sl (.pr .str (.sl (.int .i64)))) y0,.v (.sl (.pr .str (.pr .str (.pr .bool (.pr (.int .i64) (.pr (.int .i64) (.pr .bool (.pr (.pr .str (.pr (.int .i64) (.pr (.int .i64) (.pr .flt (.pr .bool .bool))))) (.sl (.int .i64)))))))))) y1]),(2,.var 29 [.v (.int .i64) y2,.v (.int .i64) y3])]=>K y0 y1 y2 y3
 |_=>none
def wqsy:RetSpec:=⟨[],[(1,.obj 1 [.sl (.pr .str (.sl (.int .i64))),.sl (.pr .str (.pr .str (.pr .bool (.pr (.int .i64) (.pr (.int .i64) (.pr .bool (.pr (.pr .str (.pr (.int .i64) (.pr (.int .i64) (.pr .flt (.pr .bool .bool))))) (.sl (.int .i64)))))))))]),(2,.obj 2 [.any,.any])],[]⟩
def wq12t:List (Nat×CutSpec):=[]
def wq104:List (Nat×Plan):=[(7,(.of [(0,1),(1,2),(2,0),(3,0)] .done))]
def wqlr(k:Nat): Ctx:=⟨tyT,wq12t,wqwl k,[],[1,2],wq104,@SH⟩
def wqcy:Code:=Tryz.f36.body.getD .skip
def wqwm(k:Nat){R:Type}(x0:(List ((List UInt8)×(List Int))))(x1:(List dT56))(x2 x3 x4 x5:Int)(K:((List ((List UInt8)×(List Int)))→(List dT56)→Int→Int→Option R)): Option R:=K [] [] x4 x5
theorem wq12u(k:Nat){R:Type}(I:Nat→St→Option R)(x0:(List ((List UInt8)×(List Int))))(x1:(List dT56))(x2 x3 x4 x5:Int)(K:((List ((List UInt8)×(List Int)))→(List dT56)→Int→Int→Option R)): fnCK (wqlr k) k (at_ [1] wqcy) 13 [] wqsy [.ptr 1 0,.ptr 2 0] 5 (.ifc 29 (.agg [.v (.int .i64) x4,.v (.int .i64) x5])) [(1,.var 27 [.v (.sl (.pr .str (.sl (.int .i64)))) x0,.v (.sl (.pr .str (.pr .str (.pr .bool (.pr (.int .i64) (.pr (.int .i64) (.pr .bool (.pr (.pr .str (.pr (.int .i64) (.pr (.int .i64) (.pr .flt (.pr .bool .bool))))) (.sl (.int .i64)))))))))) x1]),(2,.var 29 [.v (.int .i64) x2,.v (.int .i64) x3])] (wqhi K)=wqwm k x0 x1 x2 x3 x4 x5 K:=by kernel_rfl
def wqi8(k:Nat){R:Type}(x0:(List ((List UInt8)×(List Int))))(x1:(List dT56))(x2 x3 x4 x5:Int)(K:((List ((List UInt8)×(List Int)))→(List dT56)→Int→Int→Option R)): Option R:=wqwm k x0 x1 x2 x3 x4 x5 K
theorem wq12v(k:Nat){R:Type}(x0:(List ((List UInt8)×(List Int))))(x1:(List dT56))(x2 x3 x4 x5:Int)(K:((List ((List UInt8)×(List Int)))→(List dT56)→Int→Int→Option R)): fnCK (wqlr k) k (at_ [1] wqcy) 13 [] wqsy [.ptr 1 0,.ptr 2 0] 5 (.ifc 29 (.agg [.v (.int .i64) x4,.v (.int .i64) x5])) [(1,.var 27 [.v (.sl (.pr .str (.sl (.int .i64)))) x0,.v (.sl (.pr .str (.pr .str (.pr .bool (.pr (.int .i64) (.pr (.int .i64) (.pr .bool (.pr (.pr .str (.pr (.int .i64) (.pr (.int .i64) (.pr .flt (.pr .bool .bool))))) (.sl (.int .i64)))))))))) x1]),(2,.var 29 [.v (.int .i64) x2,.v (.int .i64) x3])] (wqhi K)=wqi8 k x0 x1 x2 x3 x4 x5 K:=by
 exact wq12u k (fun _ _=>none) x0 x1 x2 x3 x4 x5 K
def wqrs(k:Nat){R:Type}: PV→List PV→List (Nm×HObj)→(Out→Option R)→Option R
 |.ifc 29 (.agg [.v (.int .i64) x4,.v (.int .i64) x5]),[.ptr 1 0,.ptr 2 0],[(1,.var 27 [.v (.sl (.pr .str (.sl (.int .i64)))) x0,.v (.sl (.pr .str (.pr .str (.pr .bool (.pr (.int .i64) (.pr (.int .i64) (.pr .bool (.pr (.pr .str (.pr (.int .i64) (.pr (.int .i64) (.pr .flt (.pr .bool .bool))))) (.sl (.int .i64)))))))))) x1]),(2,.var 29 [.v (.int .i64) x2,.v (.int .i64) x3])],K=>wqi8 k x0 x1 x2 x3 x4 x5 (fun y0 y1 y2 y3=>K (.ret [] [(1,.var 27 [.v (.sl (.pr .str (.sl (.int .i64)))) y0,.v (.sl (.pr .str (.pr .str (.pr .bool (.pr (.int .i64) (.pr (.int .i64) (.pr .bool (.pr (.pr .str (.pr (.int .i64) (.pr (.int .i64) (.pr .flt (.pr .bool .bool))))) (.sl (.int .i64)))))))))) y1]),(2,.var 29 [.v (.int .i64) y2,.v (.int .i64) y3])]))
 |_,_,_,_=>none
theorem wq12w(k:Nat): (wqwl k).Ok Tryz.prog:=CTab.nil_ok
theorem wq18h(k:Nat){rec:PV}{ps:List PV}{hp:List (Nm×HObj)}{R:Type}{K:Out→Option R}{r:R}(h:wqrs k rec ps hp K=some r): DoesToD Tryz.prog 36 rec ps hp fun out=>K out=some r:=by
 unfold wqrs at h
 split at h
 ·rw[←wq12v]at h
  have:=wq1d9 (P:=Tryz.prog) (cx:=wqlr k) (f:=36) ⟨tyT_ok,wq12w k,fun _ _=>rfl⟩ (by kernel_rfl) (fn:=Tryz.f36) (id:=0) (ops:=opsAt (at_ [0] wqcy)) (c:=at_ [1] wqcy) (by kernel_rfl) (by kernel_rfl) (by kernel_rfl) (rs:=[]) (by kernel_rfl) (by kernel_rfl) h
  exact this.mono fun out ho=>by
   unfold wqhi at ho
   split at ho<;>first|exact ho|cases ho
 ·cases h
end Go.Proofs.YtabkhphoacmcdaaGreatDoor.Pvm
noncomputable section
namespace Go.Proofs.YtabkhphoacmcdaaGreatDoor.Pvm
open Go Go.Proofs
def wq5c:List LS:=[.ag [.any,.any]]
def wqrt{R:Type}(K:(Unit→Option R))(E:(Int→Int→Option R)): Out→Option R
 |.ret [] []=>K ()
 |.pan (.ifc 29 (.agg [.v (.int .i64) z0,.v (.int .i64) z1])) []=>E z0 z1
 |_=>none
def wq1au:RetSpec:=⟨[],[],[]⟩
def wq1av(k:Nat): Ctx:=⟨tyT,[],.nil,[],[],[],@SH⟩
def wq1eb(k:Nat){R:Type}(x0 x1:Int)(K:(Unit→Option R))(E:(Int→Int→Option R)): Option R:=cond (x0 != 0) (E x0 x1) (K @Unit.unit)
def wq23(k:Nat){R:Type}(x0 x1:Int)(K:(Unit→Option R))(E:(Int→Int→Option R)): Option R:=wq1eb k x0 x1 K E
theorem wq164(k:Nat){R:Type}(x0 x1:Int)(K:(Unit→Option R))(E:(Int→Int→Option R)): fnW (wq1av k) k Tryz.f69 wq1au [.agg [.v kI x0,.v kI x1]] [] (wqrt K E)=wq23 k x0 x1 K E:=by
 kernel_rfl
def wq4d(k:Nat){R:Type}: List PV→List (Nm×HObj)→(Out→Option R)→Option R
 |[.agg [.v (.int .i64) x0,.v (.int .i64) x1]],[],K=>wq23 k x0 x1 (fun _=>K (.ret [] [])) (fun z0 z1=>K (.pan (.ifc 29 (.agg [.v (.int .i64) z0,.v (.int .i64) z1])) []))
 |_,_,_=>none
theorem wq7o(k:Nat): DOK Tryz.prog 69 (wq4d k):=by
 intro ps hp R K r h
 have h:wq4d k ps hp K=some r:=h
 unfold wq4d at h
 split at h
 ·rw[←wq164]at h
  exact fnW_ok ⟨tyT_ok,CTab.nil_ok,fun _ _=>rfl⟩ mixed (by kernel_rfl) (by kernel_rfl) h fun o ho=>by unfold wqrt at ho;split at ho<;>first|exact ho|cases ho
 ·cases h
end Go.Proofs.YtabkhphoacmcdaaGreatDoor.Pvm
end
noncomputable section
namespace Go.Proofs.YtabkhphoacmcdaaGreatDoor.Pvm
open Go Go.Proofs
def wq8z(wq5:(R:Type)→Int→Int→(Unit→Option R)→(Int→Int→Option R)→Option R){R:Type}: List PV→List (Nm×HObj)→(Out→Option R)→Option R
 |[.agg [.v (.int .i64) x0,.v (.int .i64) x1]],[],K=>wq5 R x0 x1 (fun _=>K (.ret [] [])) (fun z0 z1=>K (.pan (.ifc 29 (.agg [.v (.int .i64) z0,.v (.int .i64) z1])) []))
 |_,_,_=>none
end Go.Proofs.YtabkhphoacmcdaaGreatDoor.Pvm
end
noncomputable section
namespace Go.Proofs.YtabkhphoacmcdaaGreatDoor.Pvm
open Go Go.Proofs
def wqsz:List LS:=[.lend kdT37,.any]
def wqgy{R:Type}(K:(Int→Option R)): Out→Option R
 |.ret [.v (.int .i64) y0] []=>K y0
 |_=>none
def wqve:RetSpec:=⟨[.any],[],[]⟩
def wqvf(k:Nat): Ctx:=⟨tyT,[],.nil,[],[],[],@SH⟩
def wqxf(k:Nat){R:Type}(x0:dT37)(x1:Int)(K:(Int→Option R)): Option R:=cond (inb x1 (x0.length:Int)) (K ((x0.getD x1.toNat (Kd.zero (@Kd.pr kI (@Kd.pr kI (@Kd.pr Kd.str (@Kd.pr Kd.bool (@Kd.pr (@Kd.sl Kd.str) (@Kd.sl kI)))))))).2).1) none
def wqf0(k:Nat){R:Type}(x0:dT37)(x1:Int)(K:(Int→Option R)): Option R:=wqxf k x0 x1 K
theorem wqsd(k:Nat){R:Type}(x0:dT37)(x1:Int)(K:(Int→Option R)): fnW (wqvf k) k Tryz.f125 wqve [.lp kdT37 x0 0,.v kI x1] [] (wqgy K)=wqf0 k x0 x1 K:=by
 kernel_rfl
def wq94(k:Nat){R:Type}: List PV→List (Nm×HObj)→(Out→Option R)→Option R
 |[.lp (.sl (.pr (.int .i64) (.pr (.int .i64) (.pr .str (.pr .bool (.pr (.sl .str) (.sl (.int .i64)))))))) x0 0,.v (.int .i64) x1],[],K=>wqf0 k x0 x1 (fun y0=>K (.ret [.v (.int .i64) y0] []))
 |_,_,_=>none
theorem wqxg(k:Nat): DOK Tryz.prog 125 (wq94 k):=by
 intro ps hp R K r h
 have h:wq94 k ps hp K=some r:=h
 unfold wq94 at h
 split at h
 ·rw[←wqsd]at h
  exact fnW_ok ⟨tyT_ok,CTab.nil_ok,fun _ _=>rfl⟩ mixed (by kernel_rfl) (by kernel_rfl) h fun o ho=>by unfold wqgy at ho;split at ho<;>first|exact ho|cases ho
 ·cases h
end Go.Proofs.YtabkhphoacmcdaaGreatDoor.Pvm
end
noncomputable section
namespace Go.Proofs.YtabkhphoacmcdaaGreatDoor.Pvm
open Go Go.Proofs
def wq59:List LS:=[.lend kdT37,.any,.any]
def wqfo{R:Type}(E:(Int→Int→Option R)): Out→Option R
 |.pan (.ifc 29 (.agg [.v (.int .i64) z0,.v (.int .i64) z1])) []=>E z0 z1
 |_=>none
def wqt0:RetSpec:=⟨[],[],[]⟩
def wqt1(k:Nat): Ctx:=⟨tyT,[],(.add 69 wq5c (wq4d k) (.add 125 wqsz (wq94 k) .nil)),[],[],[],@SH⟩
def wqvg(k:Nat){R:Type}(x0:dT37)(x1 x2:Int)(E:(Int→Int→Option R)): Option R:=wqf0 k x0 x1 (fun y6=>wq23 k x2 y6 (fun y7=>none) E)
def wqv(k:Nat){R:Type}(x0:dT37)(x1 x2:Int)(E:(Int→Int→Option R)): Option R:=wqvg k x0 x1 x2 E
theorem wqqe(k:Nat){R:Type}(x0:dT37)(x1 x2:Int)(E:(Int→Int→Option R)): fnW (wqt1 k) k Tryz.f75 wqt0 [.lp kdT37 x0 0,.v kI x1,.v kI x2] [] (wqfo E)=wqv k x0 x1 x2 E:=by
 kernel_rfl
def wq3w(k:Nat){R:Type}: List PV→List (Nm×HObj)→(Out→Option R)→Option R
 |[.lp (.sl (.pr (.int .i64) (.pr (.int .i64) (.pr .str (.pr .bool (.pr (.sl .str) (.sl (.int .i64)))))))) x0 0,.v (.int .i64) x1,.v (.int .i64) x2],[],K=>wqv k x0 x1 x2 (fun z0 z1=>K (.pan (.ifc 29 (.agg [.v (.int .i64) z0,.v (.int .i64) z1])) []))
 |_,_,_=>none
theorem wq7j(k:Nat): DOK Tryz.prog 75 (wq3w k):=by
 intro ps hp R K r h
 have h:wq3w k ps hp K=some r:=h
 unfold wq3w at h
 split at h
 ·rw[←wqqe]at h
  exact fnW_ok ⟨tyT_ok,(wqd (wq7o k) (wqd (wqxg k) CTab.nil_ok)),fun _ _=>rfl⟩ mixed (by kernel_rfl) (by kernel_rfl) h fun o ho=>by unfold wqfo at ho;split at ho<;>first|exact ho|cases ho
 ·cases h
end Go.Proofs.YtabkhphoacmcdaaGreatDoor.Pvm
end
noncomputable section
namespace Go.Proofs.YtabkhphoacmcdaaGreatDoor.Pvm
open Go Go.Proofs
def wq49:List LS:=[.ag [.sl kdT72],.any,.any]
def wqkc{R:Type}(K:(Int→Int→Option R)): Out→Option R
 |.ret [.agg [.v (.int .i64) y0,.v (.int .i64) y1]] []=>K y0 y1
 |_=>none
def wq105:RetSpec:=⟨[.ag [.any,.any]],[],[]⟩
def wq106(k:Nat): Ctx:=⟨tyT,[],.nil,[],[],[],@SH⟩
def wq12x(k:Nat){R:Type}(x0:(List dT72))(x1 x2:Int)(K:(Int→Int→Option R)): Option R:=cond (inb x1 (x0.length:Int)) (K x2 ((x0.getD x1.toNat (Kd.zero (@Kd.pr kI (@Kd.pr kI (@Kd.pr Kd.str (@Kd.pr Kd.bool (@Kd.pr (@Kd.sl Kd.str) (@Kd.sl kI)))))))).2).1) none
def wq2x(k:Nat){R:Type}(x0:(List dT72))(x1 x2:Int)(K:(Int→Int→Option R)): Option R:=wq12x k x0 x1 x2 K
theorem wqvh(k:Nat){R:Type}(x0:(List dT72))(x1 x2:Int)(K:(Int→Int→Option R)): fnW (wq106 k) k Tryz.f114 wq105 [.agg [.v kdT37 x0],.v kI x1,.v kI x2] [] (wqkc K)=wq2x k x0 x1 x2 K:=by
 kernel_rfl
def wq3c(k:Nat){R:Type}: List PV→List (Nm×HObj)→(Out→Option R)→Option R
 |[.agg [.v (.sl (.pr (.int .i64) (.pr (.int .i64) (.pr .str (.pr .bool (.pr (.sl .str) (.sl (.int .i64)))))))) x0],.v (.int .i64) x1,.v (.int .i64) x2],[],K=>wq2x k x0 x1 x2 (fun y0 y1=>K (.ret [.agg [.v (.int .i64) y0,.v (.int .i64) y1]] []))
 |_,_,_=>none
theorem wq5r(k:Nat): DOK Tryz.prog 114 (wq3c k):=by
 intro ps hp R K r h
 have h:wq3c k ps hp K=some r:=h
 unfold wq3c at h
 split at h
 ·rw[←wqvh]at h
  exact fnW_ok ⟨tyT_ok,CTab.nil_ok,fun _ _=>rfl⟩ mixed (by kernel_rfl) (by kernel_rfl) h fun o ho=>by unfold wqkc at ho;split at ho<;>first|exact ho|cases ho
 ·cases h
end Go.Proofs.YtabkhphoacmcdaaGreatDoor.Pvm
end
noncomputable section
namespace Go.Proofs.YtabkhphoacmcdaaGreatDoor.Pvm
open Go Go.Proofs
def wq74:List LS:=[.ag [.sl kdT72],.any,.any]
def wqls{R:Type}(K:(Int→Int→Option R)): Out→Option R
 |.ret [.agg [.v (.int .i64) y0,.v (.int .i64) y1]] []=>K y0 y1
 |_=>none
def wq12y:RetSpec:=⟨[.ag [.any,.any]],[],[]⟩
def wq12z(k:Nat): Ctx:=⟨tyT,[],(.add 114 wq49 (wq3c k) .nil),[],[],[],@SH⟩
def wq165(k:Nat){R:Type}(x0:(List dT72))(x1 x2:Int)(K:(Int→Int→Option R)): Option R:=cond (inb x1 (x0.length:Int)) (cond ((x0.getD x1.toNat (Kd.zero (@Kd.pr kI (@Kd.pr kI (@Kd.pr Kd.str (@Kd.pr Kd.bool (@Kd.pr (@Kd.sl Kd.str) (@Kd.sl kI)))))))).1 != x2) (wq2x k x0 x1 11 K) (K 0 0)) none
def wq3m(k:Nat){R:Type}(x0:(List dT72))(x1 x2:Int)(K:(Int→Int→Option R)): Option R:=wq165 k x0 x1 x2 K
theorem wqxh(k:Nat){R:Type}(x0:(List dT72))(x1 x2:Int)(K:(Int→Int→Option R)): fnW (wq12z k) k Tryz.f112 wq12y [.agg [.v kdT37 x0],.v kI x1,.v kI x2] [] (wqls K)=wq3m k x0 x1 x2 K:=by
 kernel_rfl
def wq4i(k:Nat){R:Type}: List PV→List (Nm×HObj)→(Out→Option R)→Option R
 |[.agg [.v (.sl (.pr (.int .i64) (.pr (.int .i64) (.pr .str (.pr .bool (.pr (.sl .str) (.sl (.int .i64)))))))) x0],.v (.int .i64) x1,.v (.int .i64) x2],[],K=>wq3m k x0 x1 x2 (fun y0 y1=>K (.ret [.agg [.v (.int .i64) y0,.v (.int .i64) y1]] []))
 |_,_,_=>none
theorem wq90(k:Nat): DOK Tryz.prog 112 (wq4i k):=by
 intro ps hp R K r h
 have h:wq4i k ps hp K=some r:=h
 unfold wq4i at h
 split at h
 ·rw[←wqxh]at h
  exact fnW_ok ⟨tyT_ok,(wqd (wq5r k) CTab.nil_ok),fun _ _=>rfl⟩ mixed (by kernel_rfl) (by kernel_rfl) h fun o ho=>by unfold wqls at ho;split at ho<;>first|exact ho|cases ho
 ·cases h
end Go.Proofs.YtabkhphoacmcdaaGreatDoor.Pvm
end
noncomputable section
namespace Go.Proofs.YtabkhphoacmcdaaGreatDoor.Pvm
open Go Go.Proofs
def wqbw:List LS:=[.ag [.sl kdT72],.any,.any]
def wqlt{R:Type}(K:((List UInt8)→Int→Int→Option R)): Out→Option R
 |.ret [.v .str y0,.agg [.v (.int .i64) y1,.v (.int .i64) y2]] []=>K y0 y1 y2
 |_=>none
def wq130:RetSpec:=⟨[.any,.ag [.any,.any]],[],[]⟩
def wq131(k:Nat): Ctx:=⟨tyT,[],(.add 112 wq74 (wq4i k) (.add 114 wq49 (wq3c k) .nil)),[],[],[(3,(.of [(1,1),(0,1),(2,0)] .done))],@SH⟩
def wq166(k:Nat){R:Type}(x0:(List dT72))(x1 x2:Int)(K:((List UInt8)→Int→Int→Option R)): Option R:=wq3m k x0 x1 1 (fun y6 y7=>cond (y6 != 0) (K [] y6 y7) (cond (inb x1 (x0.length:Int)) (cond ((((x0.getD x1.toNat (Kd.zero (@Kd.pr kI (@Kd.pr kI (@Kd.pr Kd.str (@Kd.pr Kd.bool (@Kd.pr (@Kd.sl Kd.str) (@Kd.sl kI)))))))).2).2).2).1 (wq2x k x0 x1 x2 (fun y8 y9=>K [] y8 y9)) (cond (inb x1 (x0.length:Int)) (K (((x0.getD x1.toNat (Kd.zero (@Kd.pr kI (@Kd.pr kI (@Kd.pr Kd.str (@Kd.pr Kd.bool (@Kd.pr (@Kd.sl Kd.str) (@Kd.sl kI)))))))).2).2).1 0 0) none)) none))
def wq69(k:Nat){R:Type}(x0:(List dT72))(x1 x2:Int)(K:((List UInt8)→Int→Int→Option R)): Option R:=wq166 k x0 x1 x2 K
theorem wqxi(k:Nat){R:Type}(x0:(List dT72))(x1 x2:Int)(K:((List UInt8)→Int→Int→Option R)): fnW (wq131 k) k Tryz.f171 wq130 [.agg [.v kdT37 x0],.v kI x1,.v kI x2] [] (wqlt K)=wq69 k x0 x1 x2 K:=by
 kernel_rfl
def wq75(k:Nat){R:Type}: List PV→List (Nm×HObj)→(Out→Option R)→Option R
 |[.agg [.v (.sl (.pr (.int .i64) (.pr (.int .i64) (.pr .str (.pr .bool (.pr (.sl .str) (.sl (.int .i64)))))))) x0],.v (.int .i64) x1,.v (.int .i64) x2],[],K=>wq69 k x0 x1 x2 (fun y0 y1 y2=>K (.ret [.v .str y0,.agg [.v (.int .i64) y1,.v (.int .i64) y2]] []))
 |_,_,_=>none
theorem wqji(k:Nat): DOK Tryz.prog 171 (wq75 k):=by
 intro ps hp R K r h
 have h:wq75 k ps hp K=some r:=h
 unfold wq75 at h
 split at h
 ·rw[←wqxi]at h
  exact fnW_ok ⟨tyT_ok,(wqd (wq90 k) (wqd (wq5r k) CTab.nil_ok)),fun _ _=>rfl⟩ mixed (by kernel_rfl) (by kernel_rfl) h fun o ho=>by unfold wqlt at ho;split at ho<;>first|exact ho|cases ho
 ·cases h
end Go.Proofs.YtabkhphoacmcdaaGreatDoor.Pvm
end
noncomputable section
namespace Go.Proofs.YtabkhphoacmcdaaGreatDoor.Pvm
open Go Go.Proofs
def wq107:List LS:=[.ag [.sl kdT72],.any]
def wqlu{R:Type}(K:(Bool→Int→Int→Option R)): Out→Option R
 |.ret [.v .bool y0,.agg [.v (.int .i64) y1,.v (.int .i64) y2]] []=>K y0 y1 y2
 |_=>none
def wq132:RetSpec:=⟨[.any,.ag [.any,.any]],[],[]⟩
def wq133(k:Nat): Ctx:=⟨tyT,[],(.add 114 wq49 (wq3c k) (.add 171 wqbw (wq75 k) .nil)),[],[],[(3,(.of [(1,1),(0,1),(2,0)] .done))],@SH⟩
def wq167(k:Nat){R:Type}(x0:(List dT72))(x1:Int)(K:(Bool→Int→Int→Option R)): Option R:=wq69 k x0 x1 14 (fun y5 y6 y7=>cond (y6 != 0) (K false y6 y7) (cond (cond (!(y5 == [(116:UInt8),114,117,101])) (!(y5 == [(102:UInt8),97,108,115,101])) false) (wq2x k x0 x1 14 (fun y8 y9=>K false y8 y9)) (K (y5 == [(116:UInt8),114,117,101]) 0 0)))
def wqjj(k:Nat){R:Type}(x0:(List dT72))(x1:Int)(K:(Bool→Int→Int→Option R)): Option R:=wq167 k x0 x1 K
theorem wqxj(k:Nat){R:Type}(x0:(List dT72))(x1:Int)(K:(Bool→Int→Int→Option R)): fnW (wq133 k) k Tryz.f241 wq132 [.agg [.v kdT37 x0],.v kI x1] [] (wqlu K)=wqjj k x0 x1 K:=by
 kernel_rfl
def wqbx(k:Nat){R:Type}: List PV→List (Nm×HObj)→(Out→Option R)→Option R
 |[.agg [.v (.sl (.pr (.int .i64) (.pr (.int .i64) (.pr .str (.pr .bool (.pr (.sl .str) (.sl (.int .i64)))))))) x0],.v (.int .i64) x1],[],K=>wqjj k x0 x1 (fun y0 y1 y2=>K (.ret [.v .bool y0,.agg [.v (.int .i64) y1,.v (.int .i64) y2]] []))
 |_,_,_=>none
theorem wq168(k:Nat): DOK Tryz.prog 241 (wqbx k):=by
 intro ps hp R K r h
 have h:wqbx k ps hp K=some r:=h
 unfold wqbx at h
 split at h
 ·rw[←wqxj]at h
  exact fnW_ok ⟨tyT_ok,(wqd (wq5r k) (wqd (wqji k) CTab.nil_ok)),fun _ _=>rfl⟩ mixed (by kernel_rfl) (by kernel_rfl) h fun o ho=>by unfold wqlu at ho;split at ho<;>first|exact ho|cases ho
 ·cases h
end Go.Proofs.YtabkhphoacmcdaaGreatDoor.Pvm
end
noncomputable section
namespace Go.Proofs.YtabkhphoacmcdaaGreatDoor.Pvm
open Go Go.Proofs
def wq6k:List LS:=[.sl .str,.any]
def wq4o{R:Type}(K:(Int→Option R)): Out→Option R
 |.ret [.v (.int .i64) y0] []=>K y0
 |_=>none
def wq6v:RetSpec:=⟨[.any],[],[]⟩
def wq6w(k:Nat): Ctx:=⟨tyT,[(1002,⟨[(0,.sl .str),(1,.any),(7,.any),(8,.any)],[]⟩)],.nil,[],[],[],@SH⟩
def wq4a(s0:(List (List UInt8)))(s1:(List UInt8))(s2 s3:Int): St:=⟨mkT [(0,.v (.sl .str) s0),(1,.v .str s1),(7,.v kI s2),(8,.v kI s3)],mkH []⟩
def wq5v(k:Nat){R:Type}(I:Nat→St→Option R)(n:Nat)(s:St)(K:(Int→Option R)): Option R:=loopK (wq6w k) k Tryz.f166 wq6v 1002 [1,0,1,0] I n s (wq4o K)
def wq8u(k:Nat){R:Type}(E1002:((List (List UInt8))→(List UInt8)→Int→Int→Option R))(s0:(List (List UInt8)))(s1:(List UInt8))(s2 s3:Int)(K:(Int→Option R)): Option R:=cond (decide (s3<s2)) (cond (inb s3 (s0.length:Int)) (cond (s1 == (s0.getD s3.toNat Kd.str.zero)) (K s3) (E1002 s0 s1 s2 (@Go.IntKind.wrap Go.IntKind.i64 (s3+1)))) none) (K (@Neg.neg Int @Int.instNegInt (1:Int)))
theorem wqds(k:Nat){R:Type}(I:Nat→St→Option R)(s0:(List (List UInt8)))(s1:(List UInt8))(s2 s3:Int)(K:(Int→Option R)): bodyK (wq6w k) k Tryz.f166 wq6v [1,0,1,0,0] I (wq4a s0 s1 s2 s3) (wq4o K)=wq8u k (fun s0 s1 s2 s3=>I 1002 (wq4a s0 s1 s2 s3)) s0 s1 s2 s3 K:=by kernel_rfl
def wqb6(k:Nat){R:Type}(E1002:((List (List UInt8))→(List UInt8)→Int→Int→Option R))(x0:(List (List UInt8)))(x1:(List UInt8))(K:(Int→Option R)): Option R:=E1002 x0 x1 (x0.length:Int) 0
def wq5w(k:Nat){R:Type}: Nat→(List (List UInt8))→(List UInt8)→Int→Int→(Int→Option R)→Option R
 |0,_,_,_,_,_=>none
 |n+1,s0,s1,s2,s3,K=>wq8u k (fun s0 s1 s2 s3=>wq5w k n s0 s1 s2 s3 K) s0 s1 s2 s3 K
theorem wqdt(k:Nat){R:Type}(I:Nat→St→Option R)(K:(Int→Option R))(n:Nat): ∀(s0:(List (List UInt8))) (s1:(List UInt8)) (s2 s3:Int),wq5v k I n (wq4a s0 s1 s2 s3) K=wq5w k n s0 s1 s2 s3 K:=by
 induction n with
 |zero=>intros;rfl
 |succ n ih =>
  intro s0 s1 s2 s3
  refine(?_:_=_).trans ((wqds k (upI 1002 (fun s=>wq5v k I n s K) I) s0 s1 s2 s3 K).trans ?_)
  ·rfl
  ·simp only[wq43,ih]<;>rfl
def wq4e(k:Nat){R:Type}(x0:(List (List UInt8)))(x1:(List UInt8))(K:(Int→Option R)): Option R:=wqb6 k (fun s0 s1 s2 s3=>wq5w k k s0 s1 s2 s3 K) x0 x1 K
theorem wqgv(k:Nat){R:Type}(x0:(List (List UInt8)))(x1:(List UInt8))(K:(Int→Option R)): fnW (wq6w k) k Tryz.f166 wq6v [.v (.sl .str) x0,.v .str x1] [] (wq4o K)=wq4e k x0 x1 K:=by
 refine Eq.trans (b:=wqb6 k (fun s0 s1 s2 s3=>wq5v k (fun _ _=>none) k (wq4a s0 s1 s2 s3) K) x0 x1 K) (by kernel_rfl) ?_
 simp only[wqdt]<;>rfl
def wq39(k:Nat){R:Type}: List PV→List (Nm×HObj)→(Out→Option R)→Option R
 |[.v (.sl .str) x0,.v .str x1],[],K=>wq4e k x0 x1 (fun y0=>K (.ret [.v (.int .i64) y0] []))
 |_,_,_=>none
theorem wq7i(k:Nat): DOK Tryz.prog 166 (wq39 k):=by
 intro ps hp R K r h
 have h:wq39 k ps hp K=some r:=h
 unfold wq39 at h
 split at h
 ·rw[←wqgv]at h
  exact fnW_ok ⟨tyT_ok,CTab.nil_ok,fun _ _=>rfl⟩ mixed (by kernel_rfl) (by kernel_rfl) h fun o ho=>by unfold wq4o at ho;split at ho<;>first|exact ho|cases ho
 ·cases h
end Go.Proofs.YtabkhphoacmcdaaGreatDoor.Pvm
end
noncomputable section
namespace Go.Proofs.YtabkhphoacmcdaaGreatDoor.Pvm
open Go Go.Proofs
def wq76:List LS:=[.ag [.sl kdT72],.any,.any]
def wqlv{R:Type}(K:(Int→Bool→Option R)): Out→Option R
 |.ret [.v (.int .i64) y0,.v .bool y1] []=>K y0 y1
 |_=>none
def wq134:RetSpec:=⟨[.any,.any],[],[]⟩
def wq135(k:Nat): Ctx:=⟨tyT,[],(.add 166 wq6k (wq39 k) .nil),[],[],[],@SH⟩
def wq169(k:Nat){R:Type}(x0:(List dT72))(x1:Int)(x2:(List UInt8))(K:(Int→Bool→Option R)): Option R:=cond (inb x1 (x0.length:Int)) (wq4e k (((((x0.getD x1.toNat (Kd.zero (@Kd.pr kI (@Kd.pr kI (@Kd.pr Kd.str (@Kd.pr Kd.bool (@Kd.pr (@Kd.sl Kd.str) (@Kd.sl kI)))))))).2).2).2).2).1 x2 (fun y6=>cond (cond ((x0.getD x1.toNat (Kd.zero (@Kd.pr kI (@Kd.pr kI (@Kd.pr Kd.str (@Kd.pr Kd.bool (@Kd.pr (@Kd.sl Kd.str) (@Kd.sl kI)))))))).1 != 3) true (decide (y6<0))) (K 0 false) (cond (inb y6 (((((((x0.getD x1.toNat (Kd.zero (@Kd.pr kI (@Kd.pr kI (@Kd.pr Kd.str (@Kd.pr Kd.bool (@Kd.pr (@Kd.sl Kd.str) (@Kd.sl kI)))))))).2).2).2).2).2).length:Int)) (K (((((((x0.getD x1.toNat (Kd.zero (@Kd.pr kI (@Kd.pr kI (@Kd.pr Kd.str (@Kd.pr Kd.bool (@Kd.pr (@Kd.sl Kd.str) (@Kd.sl kI)))))))).2).2).2).2).2).getD y6.toNat kI.zero) true) none))) none
def wq2z(k:Nat){R:Type}(x0:(List dT72))(x1:Int)(x2:(List UInt8))(K:(Int→Bool→Option R)): Option R:=wq169 k x0 x1 x2 K
theorem wqxk(k:Nat){R:Type}(x0:(List dT72))(x1:Int)(x2:(List UInt8))(K:(Int→Bool→Option R)): fnW (wq135 k) k Tryz.f123 wq134 [.agg [.v kdT37 x0],.v kI x1,.v .str x2] [] (wqlv K)=wq2z k x0 x1 x2 K:=by
 kernel_rfl
def wq4j(k:Nat){R:Type}: List PV→List (Nm×HObj)→(Out→Option R)→Option R
 |[.agg [.v (.sl (.pr (.int .i64) (.pr (.int .i64) (.pr .str (.pr .bool (.pr (.sl .str) (.sl (.int .i64)))))))) x0],.v (.int .i64) x1,.v .str x2],[],K=>wq2z k x0 x1 x2 (fun y0 y1=>K (.ret [.v (.int .i64) y0,.v .bool y1] []))
 |_,_,_=>none
theorem wq91(k:Nat): DOK Tryz.prog 123 (wq4j k):=by
 intro ps hp R K r h
 have h:wq4j k ps hp K=some r:=h
 unfold wq4j at h
 split at h
 ·rw[←wqxk]at h
  exact fnW_ok ⟨tyT_ok,(wqd (wq7i k) CTab.nil_ok),fun _ _=>rfl⟩ mixed (by kernel_rfl) (by kernel_rfl) h fun o ho=>by unfold wqlv at ho;split at ho<;>first|exact ho|cases ho
 ·cases h
end Go.Proofs.YtabkhphoacmcdaaGreatDoor.Pvm
end
noncomputable section
namespace Go.Proofs.YtabkhphoacmcdaaGreatDoor.Pvm
open Go Go.Proofs
def wqit:List LS:=[.lend kdT37,.any,.any]
def wqgz{R:Type}(K:(Bool→Option R))(E:(Int→Int→Option R)): Out→Option R
 |.ret [.v .bool y0] []=>K y0
 |.pan (.ifc 29 (.agg [.v (.int .i64) z0,.v (.int .i64) z1])) []=>E z0 z1
 |_=>none
def wqvi:RetSpec:=⟨[.any],[],[]⟩
def wqvj(k:Nat): Ctx:=⟨tyT,[],(.add 69 wq5c (wq4d k) (.add 123 wq76 (wq4j k) (.add 241 wq107 (wqbx k) .nil))),[],[],[],@SH⟩
def wqxl(k:Nat){R:Type}(x0:dT37)(x1:Int)(x2:(List UInt8))(K:(Bool→Option R))(E:(Int→Int→Option R)): Option R:=wq2z k x0 x1 x2 (fun y7 y8=>cond (!y8) (K false) (wqjj k x0 y7 (fun y9 y10 y11=>wq23 k y10 y11 (fun y12=>K y9) E)))
def wq3d(k:Nat){R:Type}(x0:dT37)(x1:Int)(x2:(List UInt8))(K:(Bool→Option R))(E:(Int→Int→Option R)): Option R:=wqxl k x0 x1 x2 K E
theorem wqse(k:Nat){R:Type}(x0:dT37)(x1:Int)(x2:(List UInt8))(K:(Bool→Option R))(E:(Int→Int→Option R)): fnW (wqvj k) k Tryz.f207 wqvi [.lp kdT37 x0 0,.v kI x1,.v .str x2] [] (wqgz K E)=wq3d k x0 x1 x2 K E:=by
 kernel_rfl
def wq6x(k:Nat){R:Type}: List PV→List (Nm×HObj)→(Out→Option R)→Option R
 |[.lp (.sl (.pr (.int .i64) (.pr (.int .i64) (.pr .str (.pr .bool (.pr (.sl .str) (.sl (.int .i64)))))))) x0 0,.v (.int .i64) x1,.v .str x2],[],K=>wq3d k x0 x1 x2 (fun y0=>K (.ret [.v .bool y0] [])) (fun z0 z1=>K (.pan (.ifc 29 (.agg [.v (.int .i64) z0,.v (.int .i64) z1])) []))
 |_,_,_=>none
theorem wqlw(k:Nat): DOK Tryz.prog 207 (wq6x k):=by
 intro ps hp R K r h
 have h:wq6x k ps hp K=some r:=h
 unfold wq6x at h
 split at h
 ·rw[←wqse]at h
  exact fnW_ok ⟨tyT_ok,(wqd (wq7o k) (wqd (wq91 k) (wqd (wq168 k) CTab.nil_ok))),fun _ _=>rfl⟩ mixed (by kernel_rfl) (by kernel_rfl) h fun o ho=>by unfold wqgz at ho;split at ho<;>first|exact ho|cases ho
 ·cases h
end Go.Proofs.YtabkhphoacmcdaaGreatDoor.Pvm
end
noncomputable section
namespace Go.Proofs.YtabkhphoacmcdaaGreatDoor.Pvm
open Go Go.Proofs
def wq8p(wq4:(R:Type)→dT37→Int→(List UInt8)→(Bool→Option R)→(Int→Int→Option R)→Option R){R:Type}: List PV→List (Nm×HObj)→(Out→Option R)→Option R
 |[.lp (.sl (.pr (.int .i64) (.pr (.int .i64) (.pr .str (.pr .bool (.pr (.sl .str) (.sl (.int .i64)))))))) x0 0,.v (.int .i64) x1,.v .str x2],[],K=>wq4 R x0 x1 x2 (fun y0=>K (.ret [.v .bool y0] [])) (fun z0 z1=>K (.pan (.ifc 29 (.agg [.v (.int .i64) z0,.v (.int .i64) z1])) []))
 |_,_,_=>none
end Go.Proofs.YtabkhphoacmcdaaGreatDoor.Pvm
end
noncomputable section
namespace Go.Proofs.YtabkhphoacmcdaaGreatDoor.Pvm
open Go Go.Proofs
def wq4v(wq0:(R:Type)→dT37→Int→Int→(Int→Int→Option R)→Option R){R:Type}: List PV→List (Nm×HObj)→(Out→Option R)→Option R
 |[.lp (.sl (.pr (.int .i64) (.pr (.int .i64) (.pr .str (.pr .bool (.pr (.sl .str) (.sl (.int .i64)))))))) x0 0,.v (.int .i64) x1,.v (.int .i64) x2],[],K=>wq0 R x0 x1 x2 (fun z0 z1=>K (.pan (.ifc 29 (.agg [.v (.int .i64) z0,.v (.int .i64) z1])) []))
 |_,_,_=>none
end Go.Proofs.YtabkhphoacmcdaaGreatDoor.Pvm
end
noncomputable section
namespace Go.Proofs.YtabkhphoacmcdaaGreatDoor.Pvm
open Go Go.Proofs
def wqh0:List LS:=[.lend kdT37,.any,.any]
def wqfp{R:Type}(K:((List Int)→Option R))(E:(Int→Int→Option R)): Out→Option R
 |.ret [.v (.sl (.int .i64)) y0] []=>K y0
 |.pan (.ifc 29 (.agg [.v (.int .i64) z0,.v (.int .i64) z1])) []=>E z0 z1
 |_=>none
def wqt2:RetSpec:=⟨[.sl (.int .i64)],[],[]⟩
def wqt3(k:Nat): Ctx:=⟨tyT,[],(.add 69 wq5c (wq4d k) (.add 112 wq74 (wq4i k) (.add 123 wq76 (wq4j k) .nil))),[],[],[],@SH⟩
def wqvk(k:Nat){R:Type}(x0:dT37)(x1:Int)(x2:(List UInt8))(K:((List Int)→Option R))(E:(Int→Int→Option R)): Option R:=wq2z k x0 x1 x2 (fun y7 y8=>cond (!y8) (K []) (wq3m k x0 y7 2 (fun y9 y10=>wq23 k y9 y10 (fun y11=>cond (inb y7 (x0.length:Int)) (K (((((x0.getD y7.toNat (Kd.zero (@Kd.pr kI (@Kd.pr kI (@Kd.pr Kd.str (@Kd.pr Kd.bool (@Kd.pr (@Kd.sl Kd.str) (@Kd.sl kI)))))))).2).2).2).2).2) none) E)))
def wq3x(k:Nat){R:Type}(x0:dT37)(x1:Int)(x2:(List UInt8))(K:((List Int)→Option R))(E:(Int→Int→Option R)): Option R:=wqvk k x0 x1 x2 K E
theorem wqqf(k:Nat){R:Type}(x0:dT37)(x1:Int)(x2:(List UInt8))(K:((List Int)→Option R))(E:(Int→Int→Option R)): fnW (wqt3 k) k Tryz.f74 wqt2 [.lp kdT37 x0 0,.v kI x1,.v .str x2] [] (wqfp K E)=wq3x k x0 x1 x2 K E:=by
 kernel_rfl
def wq6e(k:Nat){R:Type}: List PV→List (Nm×HObj)→(Out→Option R)→Option R
 |[.lp (.sl (.pr (.int .i64) (.pr (.int .i64) (.pr .str (.pr .bool (.pr (.sl .str) (.sl (.int .i64)))))))) x0 0,.v (.int .i64) x1,.v .str x2],[],K=>wq3x k x0 x1 x2 (fun y0=>K (.ret [.v (.sl (.int .i64)) y0] [])) (fun z0 z1=>K (.pan (.ifc 29 (.agg [.v (.int .i64) z0,.v (.int .i64) z1])) []))
 |_,_,_=>none
theorem wqkd(k:Nat): DOK Tryz.prog 74 (wq6e k):=by
 intro ps hp R K r h
 have h:wq6e k ps hp K=some r:=h
 unfold wq6e at h
 split at h
 ·rw[←wqqf]at h
  exact fnW_ok ⟨tyT_ok,(wqd (wq7o k) (wqd (wq90 k) (wqd (wq91 k) CTab.nil_ok))),fun _ _=>rfl⟩ mixed (by kernel_rfl) (by kernel_rfl) h fun o ho=>by unfold wqfp at ho;split at ho<;>first|exact ho|cases ho
 ·cases h
end Go.Proofs.YtabkhphoacmcdaaGreatDoor.Pvm
end
noncomputable section
namespace Go.Proofs.YtabkhphoacmcdaaGreatDoor.Pvm
open Go Go.Proofs
def wq6y:List LS:=[.lend kdT37,.any,.any]
def wqh1{R:Type}(K:(Int→Option R))(E:(Int→Int→Option R)): Out→Option R
 |.ret [.v (.int .i64) y0] []=>K y0
 |.pan (.ifc 29 (.agg [.v (.int .i64) z0,.v (.int .i64) z1])) []=>E z0 z1
 |_=>none
def wqvl:RetSpec:=⟨[.any],[],[]⟩
def wqvm(k:Nat): Ctx:=⟨tyT,[],(.add 75 wq59 (wq3w k) (.add 123 wq76 (wq4j k) .nil)),[],[],[],@SH⟩
def wqxm(k:Nat){R:Type}(x0:dT37)(x1:Int)(x2:(List UInt8))(K:(Int→Option R))(E:(Int→Int→Option R)): Option R:=wq2z k x0 x1 x2 (fun y7 y8=>cond (!y8) (wqv k x0 x1 10 E) (K y7))
def wq11(k:Nat){R:Type}(x0:dT37)(x1:Int)(x2:(List UInt8))(K:(Int→Option R))(E:(Int→Int→Option R)): Option R:=wqxm k x0 x1 x2 K E
theorem wqsf(k:Nat){R:Type}(x0:dT37)(x1:Int)(x2:(List UInt8))(K:(Int→Option R))(E:(Int→Int→Option R)): fnW (wqvm k) k Tryz.f73 wqvl [.lp kdT37 x0 0,.v kI x1,.v .str x2] [] (wqh1 K E)=wq11 k x0 x1 x2 K E:=by
 kernel_rfl
def wq4q(k:Nat){R:Type}: List PV→List (Nm×HObj)→(Out→Option R)→Option R
 |[.lp (.sl (.pr (.int .i64) (.pr (.int .i64) (.pr .str (.pr .bool (.pr (.sl .str) (.sl (.int .i64)))))))) x0 0,.v (.int .i64) x1,.v .str x2],[],K=>wq11 k x0 x1 x2 (fun y0=>K (.ret [.v (.int .i64) y0] [])) (fun z0 z1=>K (.pan (.ifc 29 (.agg [.v (.int .i64) z0,.v (.int .i64) z1])) []))
 |_,_,_=>none
theorem wqaj(k:Nat): DOK Tryz.prog 73 (wq4q k):=by
 intro ps hp R K r h
 have h:wq4q k ps hp K=some r:=h
 unfold wq4q at h
 split at h
 ·rw[←wqsf]at h
  exact fnW_ok ⟨tyT_ok,(wqd (wq7j k) (wqd (wq91 k) CTab.nil_ok)),fun _ _=>rfl⟩ mixed (by kernel_rfl) (by kernel_rfl) h fun o ho=>by unfold wqh1 at ho;split at ho<;>first|exact ho|cases ho
 ·cases h
end Go.Proofs.YtabkhphoacmcdaaGreatDoor.Pvm
end
noncomputable section
namespace Go.Proofs.YtabkhphoacmcdaaGreatDoor.Pvm
open Go Go.Proofs
def wq5a(wq1:(R:Type)→dT37→Int→(List UInt8)→(Int→Option R)→(Int→Int→Option R)→Option R){R:Type}: List PV→List (Nm×HObj)→(Out→Option R)→Option R
 |[.lp (.sl (.pr (.int .i64) (.pr (.int .i64) (.pr .str (.pr .bool (.pr (.sl .str) (.sl (.int .i64)))))))) x0 0,.v (.int .i64) x1,.v .str x2],[],K=>wq1 R x0 x1 x2 (fun y0=>K (.ret [.v (.int .i64) y0] [])) (fun z0 z1=>K (.pan (.ifc 29 (.agg [.v (.int .i64) z0,.v (.int .i64) z1])) []))
 |_,_,_=>none
end Go.Proofs.YtabkhphoacmcdaaGreatDoor.Pvm
end
noncomputable section
namespace Go.Proofs.YtabkhphoacmcdaaGreatDoor.Pvm
open Go Go.Proofs
def wqiu:List LS:=[.any]
def wqks{R:Type}(K:(Bool→Option R)): Out→Option R
 |.ret [.v .bool y0] []=>K y0
 |_=>none
def wqxn:RetSpec:=⟨[.any],[],[]⟩
def wqxo(k:Nat): Ctx:=⟨tyT,[(1002,⟨[(0,.any),(5,.any),(6,.any)],[]⟩)],.nil,[],[],[],@SH⟩
def wqei(s0:(List UInt8))(s1 s2:Int): St:=⟨mkT [(0,.v .str s0),(5,.v kI s1),(6,.v kI s2)],mkH []⟩
def wqlx(k:Nat){R:Type}(I:Nat→St→Option R)(n:Nat)(s:St)(K:(Bool→Option R)): Option R:=loopK (wqxo k) k Tryz.f33 wqxn 1002 [1,0,1,0] I n s (wqks K)
def wqt4(k:Nat){R:Type}(E1002:((List UInt8)→Int→Int→Option R))(s0:(List UInt8))(s1 s2:Int)(K:(Bool→Option R)): Option R:=cond (decide (s2<s1)) (cond (inb s2 (s0.length:Int)) (cond ((!((decide (((s0.getD s2.toNat 0).toNat:Int)<33)) == false)) || (inb s2 (s0.length:Int))) (cond (cond (decide (((s0.getD s2.toNat 0).toNat:Int)<33)) true (decide (((s0.getD s2.toNat 0).toNat:Int)>126))) (K false) (E1002 s0 s1 (@Go.IntKind.wrap Go.IntKind.i64 (s2+1)))) none) none) (K (cond (decide ((s0.length:Int)≥1)) (decide ((s0.length:Int)≤64)) false))
theorem wq108(k:Nat){R:Type}(I:Nat→St→Option R)(s0:(List UInt8))(s1 s2:Int)(K:(Bool→Option R)): bodyK (wqxo k) k Tryz.f33 wqxn [1,0,1,0,0] I (wqei s0 s1 s2) (wqks K)=wqt4 k (fun s0 s1 s2=>I 1002 (wqei s0 s1 s2)) s0 s1 s2 K:=by kernel_rfl
def wq1da(k:Nat){R:Type}(E1002:((List UInt8)→Int→Int→Option R))(x0:(List UInt8))(K:(Bool→Option R)): Option R:=E1002 x0 (x0.length:Int) 0
def wqly(k:Nat){R:Type}: Nat→(List UInt8)→Int→Int→(Bool→Option R)→Option R
 |0,_,_,_,_=>none
 |n+1,s0,s1,s2,K=>wqt4 k (fun s0 s1 s2=>wqly k n s0 s1 s2 K) s0 s1 s2 K
theorem wq109(k:Nat){R:Type}(I:Nat→St→Option R)(K:(Bool→Option R))(n:Nat): ∀(s0:(List UInt8)) (s1 s2:Int),wqlx k I n (wqei s0 s1 s2) K=wqly k n s0 s1 s2 K:=by
 induction n with
 |zero=>intros;rfl
 |succ n ih =>
  intro s0 s1 s2
  refine(?_:_=_).trans ((wq108 k (upI 1002 (fun s=>wqlx k I n s K) I) s0 s1 s2 K).trans ?_)
  ·rfl
  ·simp only[wq43,ih]<;>rfl
def wqa2(k:Nat){R:Type}(x0:(List UInt8))(K:(Bool→Option R)): Option R:=wq1da k (fun s0 s1 s2=>wqly k k s0 s1 s2 K) x0 K
theorem wq1ec(k:Nat){R:Type}(x0:(List UInt8))(K:(Bool→Option R)): fnW (wqxo k) k Tryz.f33 wqxn [.v .str x0] [] (wqks K)=wqa2 k x0 K:=by
 refine Eq.trans (b:=wq1da k (fun s0 s1 s2=>wqlx k (fun _ _=>none) k (wqei s0 s1 s2) K) x0 K) (by kernel_rfl) ?_
 simp only[wq109]<;>rfl
def wqci(k:Nat){R:Type}: List PV→List (Nm×HObj)→(Out→Option R)→Option R
 |[.v .str x0],[],K=>wqa2 k x0 (fun y0=>K (.ret [.v .bool y0] []))
 |_,_,_=>none
theorem wqv3(k:Nat): DOK Tryz.prog 33 (wqci k):=by
 intro ps hp R K r h
 have h:wqci k ps hp K=some r:=h
 unfold wqci at h
 split at h
 ·rw[←wq1ec]at h
  exact fnW_ok ⟨tyT_ok,CTab.nil_ok,fun _ _=>rfl⟩ mixed (by kernel_rfl) (by kernel_rfl) h fun o ho=>by unfold wqks at ho;split at ho<;>first|exact ho|cases ho
 ·cases h
end Go.Proofs.YtabkhphoacmcdaaGreatDoor.Pvm
end
noncomputable section
namespace Go.Proofs.YtabkhphoacmcdaaGreatDoor.Pvm
open Go Go.Proofs
def wq10a:List LS:=[.ag [.sl kdT72],.any]
def wqlz{R:Type}(K:((List UInt8)→Int→Int→Option R)): Out→Option R
 |.ret [.v .str y0,.agg [.v (.int .i64) y1,.v (.int .i64) y2]] []=>K y0 y1 y2
 |_=>none
def wq136:RetSpec:=⟨[.any,.ag [.any,.any]],[],[]⟩
def wq137(k:Nat): Ctx:=⟨tyT,[],(.add 33 wqiu (wqci k) (.add 112 wq74 (wq4i k) (.add 114 wq49 (wq3c k) .nil))),[],[],[(3,(.of [(1,1),(0,1),(2,0)] .done))],@SH⟩
def wq16a(k:Nat){R:Type}(x0:(List dT72))(x1:Int)(K:((List UInt8)→Int→Int→Option R)): Option R:=wq3m k x0 x1 1 (fun y5 y6=>cond (y5 != 0) (K [] y5 y6) (cond (inb x1 (x0.length:Int)) (wqa2 k (((x0.getD x1.toNat (Kd.zero (@Kd.pr kI (@Kd.pr kI (@Kd.pr Kd.str (@Kd.pr Kd.bool (@Kd.pr (@Kd.sl Kd.str) (@Kd.sl kI)))))))).2).2).1 (fun y7=>cond y7 (K (((x0.getD x1.toNat (Kd.zero (@Kd.pr kI (@Kd.pr kI (@Kd.pr Kd.str (@Kd.pr Kd.bool (@Kd.pr (@Kd.sl Kd.str) (@Kd.sl kI)))))))).2).2).1 0 0) (wq2x k x0 x1 12 (fun y8 y9=>K [] y8 y9)))) none))
def wqjk(k:Nat){R:Type}(x0:(List dT72))(x1:Int)(K:((List UInt8)→Int→Int→Option R)): Option R:=wq16a k x0 x1 K
theorem wqxp(k:Nat){R:Type}(x0:(List dT72))(x1:Int)(K:((List UInt8)→Int→Int→Option R)): fnW (wq137 k) k Tryz.f173 wq136 [.agg [.v kdT37 x0],.v kI x1] [] (wqlz K)=wqjk k x0 x1 K:=by
 kernel_rfl
def wqby(k:Nat){R:Type}: List PV→List (Nm×HObj)→(Out→Option R)→Option R
 |[.agg [.v (.sl (.pr (.int .i64) (.pr (.int .i64) (.pr .str (.pr .bool (.pr (.sl .str) (.sl (.int .i64)))))))) x0],.v (.int .i64) x1],[],K=>wqjk k x0 x1 (fun y0 y1 y2=>K (.ret [.v .str y0,.agg [.v (.int .i64) y1,.v (.int .i64) y2]] []))
 |_,_,_=>none
theorem wq16b(k:Nat): DOK Tryz.prog 173 (wqby k):=by
 intro ps hp R K r h
 have h:wqby k ps hp K=some r:=h
 unfold wqby at h
 split at h
 ·rw[←wqxp]at h
  exact fnW_ok ⟨tyT_ok,(wqd (wqv3 k) (wqd (wq90 k) (wqd (wq5r k) CTab.nil_ok))),fun _ _=>rfl⟩ mixed (by kernel_rfl) (by kernel_rfl) h fun o ho=>by unfold wqlz at ho;split at ho<;>first|exact ho|cases ho
 ·cases h
end Go.Proofs.YtabkhphoacmcdaaGreatDoor.Pvm
end
noncomputable section
namespace Go.Proofs.YtabkhphoacmcdaaGreatDoor.Pvm
open Go Go.Proofs
def wq95:List LS:=[.lend kdT37,.any]
def wqh2{R:Type}(K:((List UInt8)→Option R))(E:(Int→Int→Option R)): Out→Option R
 |.ret [.v .str y0] []=>K y0
 |.pan (.ifc 29 (.agg [.v (.int .i64) z0,.v (.int .i64) z1])) []=>E z0 z1
 |_=>none
def wqvn:RetSpec:=⟨[.any],[],[]⟩
def wqvo(k:Nat): Ctx:=⟨tyT,[],(.add 69 wq5c (wq4d k) (.add 173 wq10a (wqby k) .nil)),[],[],[],@SH⟩
def wqxq(k:Nat){R:Type}(x0:dT37)(x1:Int)(K:((List UInt8)→Option R))(E:(Int→Int→Option R)): Option R:=wqjk k x0 x1 (fun y6 y7 y8=>wq23 k y7 y8 (fun y9=>K y6) E)
def wq2a(k:Nat){R:Type}(x0:dT37)(x1:Int)(K:((List UInt8)→Option R))(E:(Int→Int→Option R)): Option R:=wqxq k x0 x1 K E
theorem wqsg(k:Nat){R:Type}(x0:dT37)(x1:Int)(K:((List UInt8)→Option R))(E:(Int→Int→Option R)): fnW (wqvo k) k Tryz.f126 wqvn [.lp kdT37 x0 0,.v kI x1] [] (wqh2 K E)=wq2a k x0 x1 K E:=by
 kernel_rfl
def wq5s(k:Nat){R:Type}: List PV→List (Nm×HObj)→(Out→Option R)→Option R
 |[.lp (.sl (.pr (.int .i64) (.pr (.int .i64) (.pr .str (.pr .bool (.pr (.sl .str) (.sl (.int .i64)))))))) x0 0,.v (.int .i64) x1],[],K=>wq2a k x0 x1 (fun y0=>K (.ret [.v .str y0] [])) (fun z0 z1=>K (.pan (.ifc 29 (.agg [.v (.int .i64) z0,.v (.int .i64) z1])) []))
 |_,_,_=>none
theorem wqf1(k:Nat): DOK Tryz.prog 126 (wq5s k):=by
 intro ps hp R K r h
 have h:wq5s k ps hp K=some r:=h
 unfold wq5s at h
 split at h
 ·rw[←wqsg]at h
  exact fnW_ok ⟨tyT_ok,(wqd (wq7o k) (wqd (wq16b k) CTab.nil_ok)),fun _ _=>rfl⟩ mixed (by kernel_rfl) (by kernel_rfl) h fun o ho=>by unfold wqh2 at ho;split at ho<;>first|exact ho|cases ho
 ·cases h
end Go.Proofs.YtabkhphoacmcdaaGreatDoor.Pvm
end
noncomputable section
namespace Go.Proofs.YtabkhphoacmcdaaGreatDoor.Pvm
open Go Go.Proofs
def wq8q(wq6:(R:Type)→dT37→Int→((List UInt8)→Option R)→(Int→Int→Option R)→Option R){R:Type}: List PV→List (Nm×HObj)→(Out→Option R)→Option R
 |[.lp (.sl (.pr (.int .i64) (.pr (.int .i64) (.pr .str (.pr .bool (.pr (.sl .str) (.sl (.int .i64)))))))) x0 0,.v (.int .i64) x1],[],K=>wq6 R x0 x1 (fun y0=>K (.ret [.v .str y0] [])) (fun z0 z1=>K (.pan (.ifc 29 (.agg [.v (.int .i64) z0,.v (.int .i64) z1])) []))
 |_,_,_=>none
end Go.Proofs.YtabkhphoacmcdaaGreatDoor.Pvm
end
namespace Go.Proofs.YtabkhphoacmcdaaGreatDoor.Pvm
open Go Go.Proofs
theorem wq1oh{h:Heap}{G:Gh}{w:World}{P:Program}{x:List Int}{v:Value}(hv:RV h G w (.v (.sl (.int .u8)) x) v): (Extern.Bytes.bytesOf v).run P w = .ok ⟨(wq73 x).toArray⟩ w:=by
 obtain⟨A,cap,e,hcap,hr⟩:=hv
 simp only[List.cons.injEq,and_true]at e
 subst e
 rcases hr with rfl|⟨ad,rfl,h1,h2,h3⟩
 ·cases A with
  |none=>rfl
  |some a=>rfl
 ·have hl:=Lib.run_loadBytesX (P:=P) w x ad .empty (fun j y hj=>by
   obtain⟨c,hc,hu⟩:=h3 j y hj
   have hc':c=[.int .u8 y]:=hc
   subst hc'
   have:=hu 0 _ rfl
   have e1:j*(Kd.int .u8).sz+0=j:=by simp[Kd.sz]
   rw[e1]at this
   exact this)
  have e2:(⟨ByteArray.empty.data++(Lib.bytesOf x).toArray⟩:ByteArray)=⟨(wq73 x).toArray⟩:=by
   apply ByteArray.ext
   show(#[]:Array UInt8)++(Lib.bytesOf x).toArray=(wq73 x).toArray
   simp[Lib.bytesOf,wq73]
  rw[e2]at hl
  exact hl
theorem wq1ed{G:Gh}{w:World}: Fin [] [] G w G w :=
 ⟨fun n o h=>(by cases h),fun n m b h=>(by simp[blkOf,mkH,look]at h),fun n t cs h=>(by cases h),fun n ag V es h=>(by cases h),fun _ _ _=>rfl,rfl,fun n b h=>(by simp[blkOf,mkH,look]at h),Nat.le_refl _,rfl,rfl,rfl⟩
theorem wq1lf {P:Program} {f:FuncId} {fn:Func} {g:Array Value→Sem Value} (h1:P.funcs[f]? = some fn) (h2:(fn.name == "runtime.NumGoroutine")=false) (h3:fn.body.isNone=true) (h4:(Extern.findNext fn).isNone=true)
 (h5:Extern.find fn=some g) (args:Array Value) (w:World) {v:Value} (h6:(g args).run P w = .ok v w):(callFunc f args).run P w = .ok (.value v) w:=by
 have h4':Extern.findNext fn=none:=by
  cases hq:Extern.findNext fn with
  |none=>rfl
  |some e=>rw[hq]at h4;cases h4
 have h2':¬ fn.name = "runtime.NumGoroutine" := by simpa using h2
 have e1:(callFunc f args).run P w=(g args >>= fun v=>pure (Next.value v)).run P w:=by
  unfold callFunc
  rw[Sem.run_bind]
  have e2:(program).run P w = .ok P w:=rfl
  rw[e2,Result.andThen_ok,h1]
  simp only[h2,h3,if_true,Bool.false_eq_true,if_false]
  rw[Sem.run_bind]
  have e3:(mark (.extern f)).run P w = .ok () w:=rfl
  rw[e3,Result.andThen_ok,h4',h5]
 rw[e1,Sem.run_bind,h6]
 rfl
def wqf2:List LS:=[.any]
def wqa3(k:Nat){R:Type}(x0:Nat)(K:Int→Option R): Option R:=K (x0:Int)
def wq8c(k:Nat){R:Type}: List PV→List (Nm×HObj)→(Out→Option R)→Option R
 |[.v (.flt) x0],[],K=>wqa3 k x0 (fun y0=>K (.ret [.v (.int .u64) y0] []))
 |_,_,_=>none
theorem wqhj(k:Nat){ps:List PV}{hp:List (Nm×HObj)}{R:Type}{K:Out→Option R}{r:R}(h:wq8c k ps hp K=some r): DoesTo Tryz.prog 170 ps hp fun out=>K out=some r:=by
 unfold wq8c at h
 split at h
 ·next x0 =>
  intro G w vals hr obj dis
  obtain⟨v0,l0,rfl,h0,rfl⟩:=hr
  have e0:v0 = .float .f64 x0:=by simpa [RV,RD]using h0
  subst e0
  have hrun:(callFunc 170 #[.float .f64 x0]).run Tryz.prog w = .ok (.value (.int .u64 (x0:Int))) w :=
   wq1lf (fn:=Tryz.f170) (g:=Extern.MathFloatBits.float64bits) (by kernel_rfl) (by kernel_rfl) (by kernel_rfl) (by kernel_rfl) (by kernel_rfl) _ w rfl
  show Does _ _ #[_] _ _
  unfold Does
  rw[hrun]
  exact⟨.ret [.v (.int .u64) _] [],h,G,⟨_,rfl,rfl⟩,wq1ed⟩
 ·cases h
def wq7p:List LS:=[.any]
def wq5t(k:Nat){R:Type}(x0:Int)(K:Nat→Option R): Option R:=K x0.toNat
def wq4w(k:Nat){R:Type}: List PV→List (Nm×HObj)→(Out→Option R)→Option R
 |[.v (.int .u64) x0],[],K=>wq5t k x0 (fun y0=>K (.ret [.v (.flt) y0] []))
 |_,_,_=>none
theorem wq96(k:Nat){ps:List PV}{hp:List (Nm×HObj)}{R:Type}{K:Out→Option R}{r:R}(h:wq4w k ps hp K=some r): DoesTo Tryz.prog 167 ps hp fun out=>K out=some r:=by
 unfold wq4w at h
 split at h
 ·next x0 =>
  intro G w vals hr obj dis
  obtain⟨v0,l0,rfl,h0,rfl⟩:=hr
  have e0:v0 = .int .u64 x0:=by simpa [RV,RD]using h0
  subst e0
  have hrun:(callFunc 167 #[.int .u64 x0]).run Tryz.prog w = .ok (.value (.float .f64 x0.toNat)) w :=
   wq1lf (fn:=Tryz.f167) (g:=Extern.MathFloatBits.float64frombits) (by kernel_rfl) (by kernel_rfl) (by kernel_rfl) (by kernel_rfl) (by kernel_rfl) _ w rfl
  show Does _ _ #[_] _ _
  unfold Does
  rw[hrun]
  exact⟨.ret [.v (.flt) _] [],h,G,⟨_,rfl,rfl⟩,wq1ed⟩
 ·cases h
end Go.Proofs.YtabkhphoacmcdaaGreatDoor.Pvm
noncomputable section
namespace Go.Proofs.YtabkhphoacmcdaaGreatDoor.Pvm
open Go Go.Proofs
def wqhk:List LS:=[.any]
def wq152{R:Type}(K:(Nat→Option R)): Out→Option R
 |.ret [.v .flt y0] []=>K y0
 |_=>none
def wq1m3:RetSpec:=⟨[.any],[],[]⟩
def wq1m4(k:Nat): Ctx:=⟨tyT,[],(.add 167 wq7p (wq4w k) (.add 170 wqf2 (wq8c k) .nil)),[],[],[],@SH⟩
def wq1oi(k:Nat){R:Type}(x0:Nat)(K:(Nat→Option R)): Option R:=wqa3 k x0 (fun y4=>wq5t k (ibits @Go.BinOp.andNot Go.IntKind.u64 y4 9223372036854775808) K)
def wq6f(k:Nat){R:Type}(x0:Nat)(K:(Nat→Option R)): Option R:=wq1oi k x0 K
theorem wq1gu(k:Nat){R:Type}(x0:Nat)(K:(Nat→Option R)): fnW (wq1m4 k) k Tryz.f172 wq1m3 [.v .flt x0] [] (wq152 K)=wq6f k x0 K:=by
 kernel_rfl
def wqf3(k:Nat){R:Type}: List PV→List (Nm×HObj)→(Out→Option R)→Option R
 |[.v .flt x0],[],K=>wq6f k x0 (fun y0=>K (.ret [.v .flt y0] []))
 |_,_,_=>none
theorem wq10b(k:Nat): DOK Tryz.prog 172 (wqf3 k):=by
 intro ps hp R K r h
 have h:wqf3 k ps hp K=some r:=h
 unfold wqf3 at h
 split at h
 ·rw[←wq1gu]at h
  exact fnW_ok ⟨tyT_ok,(CTab.add_ok (fun h=>wq96 k h) (CTab.add_ok (fun h=>wqhj k h) CTab.nil_ok)),fun _ _=>rfl⟩ mixed (by kernel_rfl) (by kernel_rfl) h fun o ho=>by unfold wq152 at ho;split at ho<;>first|exact ho|cases ho
 ·cases h
end Go.Proofs.YtabkhphoacmcdaaGreatDoor.Pvm
end
noncomputable section
namespace Go.Proofs.YtabkhphoacmcdaaGreatDoor.Pvm
open Go Go.Proofs
def wqcz:List LS:=[.any]
def wqwn{R:Type}(K:(Bool→Option R)): Out→Option R
 |.ret [.v .bool y0] []=>K y0
 |_=>none
def wq1gv:RetSpec:=⟨[.any],[],[]⟩
def wq1gw(k:Nat): Ctx:=⟨tyT,[],.nil,[],[],[],@SH⟩
def wq1j6(k:Nat){R:Type}(x0:Nat)(K:(Bool→Option R)): Option R:=K (@fltIs @Go.BinOp.neq x0 x0)
def wq3s(k:Nat){R:Type}(x0:Nat)(K:(Bool→Option R)): Option R:=wq1j6 k x0 K
theorem wq1aw(k:Nat){R:Type}(x0:Nat)(K:(Bool→Option R)): fnW (wq1gw k) k Tryz.f134 wq1gv [.v .flt x0] [] (wqwn K)=wq3s k x0 K:=by
 kernel_rfl
def wqak(k:Nat){R:Type}: List PV→List (Nm×HObj)→(Out→Option R)→Option R
 |[.v .flt x0],[],K=>wq3s k x0 (fun y0=>K (.ret [.v .bool y0] []))
 |_,_,_=>none
theorem wqqg(k:Nat): DOK Tryz.prog 134 (wqak k):=by
 intro ps hp R K r h
 have h:wqak k ps hp K=some r:=h
 unfold wqak at h
 split at h
 ·rw[←wq1aw]at h
  exact fnW_ok ⟨tyT_ok,CTab.nil_ok,fun _ _=>rfl⟩ mixed (by kernel_rfl) (by kernel_rfl) h fun o ho=>by unfold wqwn at ho;split at ho<;>first|exact ho|cases ho
 ·cases h
end Go.Proofs.YtabkhphoacmcdaaGreatDoor.Pvm
end
noncomputable section
namespace Go.Proofs.YtabkhphoacmcdaaGreatDoor.Pvm
open Go Go.Proofs
def wqru:List LS:=[.any,.any]
def wqpc{R:Type}(K:(Nat→Option R)): Out→Option R
 |.ret [.v .flt y0] []=>K y0
 |_=>none
def wq18i:RetSpec:=⟨[.any],[],[]⟩
def wq18j(k:Nat): Ctx:=⟨tyT,[],(.add 167 wq7p (wq4w k) (.add 170 wqf2 (wq8c k) .nil)),[],[],[],@SH⟩
def wq1ax(k:Nat){R:Type}(x0 x1:Nat)(K:(Nat→Option R)): Option R:=wqa3 k x0 (fun y5=>wqa3 k x1 (fun y6=>wq5t k (ibits @Go.BinOp.or Go.IntKind.u64 (ibits @Go.BinOp.andNot Go.IntKind.u64 y5 9223372036854775808) (ibits @Go.BinOp.and Go.IntKind.u64 y6 9223372036854775808)) K))
def wq9k(k:Nat){R:Type}(x0 x1:Nat)(K:(Nat→Option R)): Option R:=wq1ax k x0 x1 K
theorem wq138(k:Nat){R:Type}(x0 x1:Nat)(K:(Nat→Option R)): fnW (wq18j k) k Tryz.f122 wq18i [.v .flt x0,.v .flt x1] [] (wqpc K)=wq9k k x0 x1 K:=by
 kernel_rfl
def wqej(k:Nat){R:Type}: List PV→List (Nm×HObj)→(Out→Option R)→Option R
 |[.v .flt x0,.v .flt x1],[],K=>wq9k k x0 x1 (fun y0=>K (.ret [.v .flt y0] []))
 |_,_,_=>none
theorem wq1ay(k:Nat): DOK Tryz.prog 122 (wqej k):=by
 intro ps hp R K r h
 have h:wqej k ps hp K=some r:=h
 unfold wqej at h
 split at h
 ·rw[←wq138]at h
  exact fnW_ok ⟨tyT_ok,(CTab.add_ok (fun h=>wq96 k h) (CTab.add_ok (fun h=>wqhj k h) CTab.nil_ok)),fun _ _=>rfl⟩ mixed (by kernel_rfl) (by kernel_rfl) h fun o ho=>by unfold wqpc at ho;split at ho<;>first|exact ho|cases ho
 ·cases h
end Go.Proofs.YtabkhphoacmcdaaGreatDoor.Pvm
end
noncomputable section
namespace Go.Proofs.YtabkhphoacmcdaaGreatDoor.Pvm
open Go Go.Proofs
def wq18k:List LS:=[.any]
def wq153{R:Type}(K:(Nat→Option R)): Out→Option R
 |.ret [.v .flt y0] []=>K y0
 |_=>none
def wq1m5:RetSpec:=⟨[.any],[],[]⟩
def wq1m6(k:Nat): Ctx:=⟨tyT,[],(.add 167 wq7p (wq4w k) .nil),[],[],[],@SH⟩
def wq1oj(k:Nat){R:Type}(x0:Int)(K:(Nat→Option R)): Option R:=cond (decide (x0≥0)) (wq5t k 9218868437227405312 K) (wq5t k 18442240474082181120 K)
def wqm0(k:Nat){R:Type}(x0:Int)(K:(Nat→Option R)): Option R:=wq1oj k x0 K
theorem wq1gx(k:Nat){R:Type}(x0:Int)(K:(Nat→Option R)): fnW (wq1m6 k) k Tryz.f116 wq1m5 [.v kI x0] [] (wq153 K)=wqm0 k x0 K:=by
 kernel_rfl
def wqqh(k:Nat){R:Type}: List PV→List (Nm×HObj)→(Out→Option R)→Option R
 |[.v (.int .i64) x0],[],K=>wqm0 k x0 (fun y0=>K (.ret [.v .flt y0] []))
 |_,_,_=>none
theorem wq1ok(k:Nat): DOK Tryz.prog 116 (wqqh k):=by
 intro ps hp R K r h
 have h:wqqh k ps hp K=some r:=h
 unfold wqqh at h
 split at h
 ·rw[←wq1gx]at h
  exact fnW_ok ⟨tyT_ok,(CTab.add_ok (fun h=>wq96 k h) CTab.nil_ok),fun _ _=>rfl⟩ mixed (by kernel_rfl) (by kernel_rfl) h fun o ho=>by unfold wq153 at ho;split at ho<;>first|exact ho|cases ho
 ·cases h
end Go.Proofs.YtabkhphoacmcdaaGreatDoor.Pvm
end
noncomputable section
namespace Go.Proofs.YtabkhphoacmcdaaGreatDoor.Pvm
open Go Go.Proofs
def wq18l:List LS:=[]
def wq154{R:Type}(K:(Nat→Option R)): Out→Option R
 |.ret [.v .flt y0] []=>K y0
 |_=>none
def wq1m7:RetSpec:=⟨[.any],[],[]⟩
def wq1m8(k:Nat): Ctx:=⟨tyT,[],(.add 167 wq7p (wq4w k) .nil),[],[],[],@SH⟩
def wq1ol(k:Nat){R:Type}(K:(Nat→Option R)): Option R:=wq5t k 9221120237041090561 K
def wqpd(k:Nat){R:Type}(K:(Nat→Option R)): Option R:=wq1ol k K
theorem wq1gy(k:Nat){R:Type}(K:(Nat→Option R)): fnW (wq1m8 k) k Tryz.f115 wq1m7 [] [] (wq154 K)=wqpd k K:=by
 kernel_rfl
def wqqi(k:Nat){R:Type}: List PV→List (Nm×HObj)→(Out→Option R)→Option R
 |[],[],K=>wqpd k (fun y0=>K (.ret [.v .flt y0] []))
 |_,_,_=>none
theorem wq1om(k:Nat): DOK Tryz.prog 115 (wqqi k):=by
 intro ps hp R K r h
 have h:wqqi k ps hp K=some r:=h
 unfold wqqi at h
 split at h
 ·rw[←wq1gy]at h
  exact fnW_ok ⟨tyT_ok,(CTab.add_ok (fun h=>wq96 k h) CTab.nil_ok),fun _ _=>rfl⟩ mixed (by kernel_rfl) (by kernel_rfl) h fun o ho=>by unfold wq154 at ho;split at ho<;>first|exact ho|cases ho
 ·cases h
end Go.Proofs.YtabkhphoacmcdaaGreatDoor.Pvm
end
noncomputable section
namespace Go.Proofs.YtabkhphoacmcdaaGreatDoor.Pvm
open Go Go.Proofs
def wqt5:List LS:=[.any,.any]
def wqek{R:Type}(K:(Bool→Option R)): Out→Option R
 |.ret [.v .bool y0] []=>K y0
 |_=>none
def wqom:RetSpec:=⟨[.any],[],[]⟩
def wqon(k:Nat): Ctx:=⟨tyT,[(1002,⟨[(0,.any),(1,.any),(8,.mpo 78 .it kI)],[]⟩)],.nil,[],[],[],@SH⟩
def wqal(s0:(List UInt8))(s1:Int)(s2:(List UInt8))(s3:Int): St:=⟨mkT [(0,.v .str s0),(1,.v kI s1),(8,.mpp 78)],mkH [(78,.mp .it kI [(s2,s3)])]⟩
def wqfq(k:Nat){R:Type}(I:Nat→St→Option R)(n:Nat)(s:St)(K:(Bool→Option R)): Option R:=loopK (wqon k) k Tryz.f119 wqom 1002 [1,0,1,0] I n s (wqek K)
def wqnp(k:Nat){R:Type}(E1002:((List UInt8)→Int→(List UInt8)→Int→Option R))(s0:(List UInt8))(s1:Int)(s2:(List UInt8))(s3:Int)(K:(Bool→Option R)): Option R:=cond (decide (s3<(s2.length:Int))) (cond (decide (s3<(s2.length:Int))) (cond (cond (decide ((nxtC s2 s3)<48)) true (decide ((nxtC s2 s3)>57))) (K false) (E1002 s0 s1 s2 (nxtP s2 s3))) none) (K (cond (decide ((s0.length:Int)≥1)) (decide ((s0.length:Int)≤s1)) false))
theorem wqt6(k:Nat){R:Type}(I:Nat→St→Option R)(s0:(List UInt8))(s1:Int)(s2:(List UInt8))(s3:Int)(K:(Bool→Option R)): bodyK (wqon k) k Tryz.f119 wqom [1,0,1,0,0] I (wqal s0 s1 s2 s3) (wqek K)=wqnp k (fun s0 s1 s2 s3=>I 1002 (wqal s0 s1 s2 s3)) s0 s1 s2 s3 K:=by kernel_rfl
def wq10c(k:Nat){R:Type}(E1002:((List UInt8)→Int→(List UInt8)→Int→Option R))(x0:(List UInt8))(x1:Int)(K:(Bool→Option R)): Option R:=E1002 x0 x1 x0 0
def wqfr(k:Nat){R:Type}: Nat→(List UInt8)→Int→(List UInt8)→Int→(Bool→Option R)→Option R
 |0,_,_,_,_,_=>none
 |n+1,s0,s1,s2,s3,K=>wqnp k (fun s0 s1 s2 s3=>wqfr k n s0 s1 s2 s3 K) s0 s1 s2 s3 K
theorem wqt7(k:Nat){R:Type}(I:Nat→St→Option R)(K:(Bool→Option R))(n:Nat): ∀(s0:(List UInt8)) (s1:Int) (s2:(List UInt8)) (s3:Int),wqfq k I n (wqal s0 s1 s2 s3) K=wqfr k n s0 s1 s2 s3 K:=by
 induction n with
 |zero=>intros;rfl
 |succ n ih =>
  intro s0 s1 s2 s3
  refine(?_:_=_).trans ((wqt6 k (upI 1002 (fun s=>wqfq k I n s K) I) s0 s1 s2 s3 K).trans ?_)
  ·rfl
  ·simp only[wq43,ih]<;>rfl
def wqam(k:Nat){R:Type}(x0:(List UInt8))(x1:Int)(K:(Bool→Option R)): Option R:=wq10c k (fun s0 s1 s2 s3=>wqfr k k s0 s1 s2 s3 K) x0 x1 K
theorem wq16c(k:Nat){R:Type}(x0:(List UInt8))(x1:Int)(K:(Bool→Option R)): fnW (wqon k) k Tryz.f119 wqom [.v .str x0,.v kI x1] [] (wqek K)=wqam k x0 x1 K:=by
 refine Eq.trans (b:=wq10c k (fun s0 s1 s2 s3=>wqfq k (fun _ _=>none) k (wqal s0 s1 s2 s3) K) x0 x1 K) (by kernel_rfl) ?_
 simp only[wqt7]<;>rfl
def wqfs(k:Nat){R:Type}: List PV→List (Nm×HObj)→(Out→Option R)→Option R
 |[.v .str x0,.v (.int .i64) x1],[],K=>wqam k x0 x1 (fun y0=>K (.ret [.v .bool y0] []))
 |_,_,_=>none
theorem wq1ee(k:Nat): DOK Tryz.prog 119 (wqfs k):=by
 intro ps hp R K r h
 have h:wqfs k ps hp K=some r:=h
 unfold wqfs at h
 split at h
 ·rw[←wq16c]at h
  exact fnW_ok ⟨tyT_ok,CTab.nil_ok,fun _ _=>rfl⟩ mixed (by kernel_rfl) (by kernel_rfl) h fun o ho=>by unfold wqek at ho;split at ho<;>first|exact ho|cases ho
 ·cases h
end Go.Proofs.YtabkhphoacmcdaaGreatDoor.Pvm
end
noncomputable section
namespace Go.Proofs.YtabkhphoacmcdaaGreatDoor.Pvm
open Go Go.Proofs
def wqt8:List LS:=[.any]
def wqkt{R:Type}(K:(Int→Option R)): Out→Option R
 |.ret [.v (.int .i64) y0] []=>K y0
 |_=>none
def wqxr:RetSpec:=⟨[.any],[],[]⟩
def wqxs(k:Nat): Ctx:=⟨tyT,[(1003,⟨[(3,.any),(4,.any),(5,.any)],[]⟩)],.nil,[],[],[],@SH⟩
def wqel(s0 s1 s2:Int): St:=⟨mkT [(3,.v kI s0),(4,.v kI s1),(5,.v kI s2)],mkH []⟩
def wqm1(k:Nat){R:Type}(I:Nat→St→Option R)(n:Nat)(s:St)(K:(Int→Option R)): Option R:=loopK (wqxs k) k Tryz.f121 wqxr 1003 [1,1,0,1,0] I n s (wqkt K)
def wqt9(k:Nat){R:Type}(E1003:(Int→Int→Int→Option R))(s0 s1 s2:Int)(K:(Int→Option R)): Option R:=cond (decide (s2<s1)) (E1003 (@Go.IntKind.wrap Go.IntKind.i64 (s0*10)) s1 (@Go.IntKind.wrap Go.IntKind.i64 (s2+1))) (K s0)
theorem wq10d(k:Nat){R:Type}(I:Nat→St→Option R)(s0 s1 s2:Int)(K:(Int→Option R)): bodyK (wqxs k) k Tryz.f121 wqxr [1,1,0,1,0,0] I (wqel s0 s1 s2) (wqkt K)=wqt9 k (fun s0 s1 s2=>I 1003 (wqel s0 s1 s2)) s0 s1 s2 K:=by kernel_rfl
def wq1db(k:Nat){R:Type}(E1003:(Int→Int→Int→Option R))(x0:Int)(K:(Int→Option R)): Option R:=E1003 1 x0 0
def wqm2(k:Nat){R:Type}: Nat→Int→Int→Int→(Int→Option R)→Option R
 |0,_,_,_,_=>none
 |n+1,s0,s1,s2,K=>wqt9 k (fun s0 s1 s2=>wqm2 k n s0 s1 s2 K) s0 s1 s2 K
theorem wq10e(k:Nat){R:Type}(I:Nat→St→Option R)(K:(Int→Option R))(n:Nat): ∀(s0 s1 s2:Int),wqm1 k I n (wqel s0 s1 s2) K=wqm2 k n s0 s1 s2 K:=by
 induction n with
 |zero=>intros;rfl
 |succ n ih =>
  intro s0 s1 s2
  refine(?_:_=_).trans ((wq10d k (upI 1003 (fun s=>wqm1 k I n s K) I) s0 s1 s2 K).trans ?_)
  ·rfl
  ·simp only[wq43,ih]<;>rfl
def wq85(k:Nat){R:Type}(x0:Int)(K:(Int→Option R)): Option R:=wq1db k (fun s0 s1 s2=>wqm2 k k s0 s1 s2 K) x0 K
theorem wq1ef(k:Nat){R:Type}(x0:Int)(K:(Int→Option R)): fnW (wqxs k) k Tryz.f121 wqxr [.v kI x0] [] (wqkt K)=wq85 k x0 K:=by
 refine Eq.trans (b:=wq1db k (fun s0 s1 s2=>wqm1 k (fun _ _=>none) k (wqel s0 s1 s2) K) x0 K) (by kernel_rfl) ?_
 simp only[wq10e]<;>rfl
def wqiv(k:Nat){R:Type}: List PV→List (Nm×HObj)→(Out→Option R)→Option R
 |[.v (.int .i64) x0],[],K=>wq85 k x0 (fun y0=>K (.ret [.v (.int .i64) y0] []))
 |_,_,_=>none
theorem wq1dc(k:Nat): DOK Tryz.prog 121 (wqiv k):=by
 intro ps hp R K r h
 have h:wqiv k ps hp K=some r:=h
 unfold wqiv at h
 split at h
 ·rw[←wq1ef]at h
  exact fnW_ok ⟨tyT_ok,CTab.nil_ok,fun _ _=>rfl⟩ mixed (by kernel_rfl) (by kernel_rfl) h fun o ho=>by unfold wqkt at ho;split at ho<;>first|exact ho|cases ho
 ·cases h
end Go.Proofs.YtabkhphoacmcdaaGreatDoor.Pvm
end
noncomputable section
namespace Go.Proofs.YtabkhphoacmcdaaGreatDoor.Pvm
open Go Go.Proofs
def wqwo:List LS:=[.any]
def wqft{R:Type}(K:(Int→Option R)): Out→Option R
 |.ret [.v (.int .i64) y0] []=>K y0
 |_=>none
def wqqj:RetSpec:=⟨[.any],[],[]⟩
def wqqk(k:Nat): Ctx:=⟨tyT,[(1003,⟨[(3,.any),(7,.mpo 77 .it kI)],[]⟩)],.nil,[],[],[],@SH⟩
def wqbz(s0:Int)(s1:(List UInt8))(s2:Int): St:=⟨mkT [(3,.v kI s0),(7,.mpp 77)],mkH [(77,.mp .it kI [(s1,s2)])]⟩
def wqhl(k:Nat){R:Type}(I:Nat→St→Option R)(n:Nat)(s:St)(K:(Int→Option R)): Option R:=loopK (wqqk k) k Tryz.f120 wqqj 1003 [1,1,0,1,0] I n s (wqft K)
def wqpe(k:Nat){R:Type}(E1003:(Int→(List UInt8)→Int→Option R))(s0:Int)(s1:(List UInt8))(s2:Int)(K:(Int→Option R)): Option R:=cond (decide (s2<(s1.length:Int))) (cond (decide (s2<(s1.length:Int))) (E1003 (@Go.IntKind.wrap Go.IntKind.i64 ((@Go.IntKind.wrap Go.IntKind.i64 ((10:Int)*s0))+(@Go.IntKind.wrap Go.IntKind.i64 (@Go.IntKind.wrap Go.IntKind.i32 ((nxtC s1 s2)-48))))) s1 (nxtP s1 s2)) none) (K s0)
theorem wqvp(k:Nat){R:Type}(I:Nat→St→Option R)(s0:Int)(s1:(List UInt8))(s2:Int)(K:(Int→Option R)): bodyK (wqqk k) k Tryz.f120 wqqj [1,1,0,1,0,0] I (wqbz s0 s1 s2) (wqft K)=wqpe k (fun s0 s1 s2=>I 1003 (wqbz s0 s1 s2)) s0 s1 s2 K:=by kernel_rfl
def wq155(k:Nat){R:Type}(E1003:(Int→(List UInt8)→Int→Option R))(x0:(List UInt8))(K:(Int→Option R)): Option R:=E1003 0 x0 0
def wqhm(k:Nat){R:Type}: Nat→Int→(List UInt8)→Int→(Int→Option R)→Option R
 |0,_,_,_,_=>none
 |n+1,s0,s1,s2,K=>wqpe k (fun s0 s1 s2=>wqhm k n s0 s1 s2 K) s0 s1 s2 K
theorem wqvq(k:Nat){R:Type}(I:Nat→St→Option R)(K:(Int→Option R))(n:Nat): ∀(s0:Int) (s1:(List UInt8)) (s2:Int),wqhl k I n (wqbz s0 s1 s2) K=wqhm k n s0 s1 s2 K:=by
 induction n with
 |zero=>intros;rfl
 |succ n ih =>
  intro s0 s1 s2
  refine(?_:_=_).trans ((wqvp k (upI 1003 (fun s=>wqhl k I n s K) I) s0 s1 s2 K).trans ?_)
  ·rfl
  ·simp only[wq43,ih]<;>rfl
def wqcj(k:Nat){R:Type}(x0:(List UInt8))(K:(Int→Option R)): Option R:=wq155 k (fun s0 s1 s2=>wqhm k k s0 s1 s2 K) x0 K
theorem wq18m(k:Nat){R:Type}(x0:(List UInt8))(K:(Int→Option R)): fnW (wqqk k) k Tryz.f120 wqqj [.v .str x0] [] (wqft K)=wqcj k x0 K:=by
 refine Eq.trans (b:=wq155 k (fun s0 s1 s2=>wqhl k (fun _ _=>none) k (wqbz s0 s1 s2) K) x0 K) (by kernel_rfl) ?_
 simp only[wqvq]<;>rfl
def wqi9(k:Nat){R:Type}: List PV→List (Nm×HObj)→(Out→Option R)→Option R
 |[.v .str x0],[],K=>wqcj k x0 (fun y0=>K (.ret [.v (.int .i64) y0] []))
 |_,_,_=>none
theorem wq1gz(k:Nat): DOK Tryz.prog 120 (wqi9 k):=by
 intro ps hp R K r h
 have h:wqi9 k ps hp K=some r:=h
 unfold wqi9 at h
 split at h
 ·rw[←wq18m]at h
  exact fnW_ok ⟨tyT_ok,CTab.nil_ok,fun _ _=>rfl⟩ mixed (by kernel_rfl) (by kernel_rfl) h fun o ho=>by unfold wqft at ho;split at ho<;>first|exact ho|cases ho
 ·cases h
end Go.Proofs.YtabkhphoacmcdaaGreatDoor.Pvm
end
namespace Go.Proofs.YtabkhphoacmcdaaGreatDoor.Pvm
open Go Go.Proofs
def wq18n(s:List UInt8)(c:Int): Int :=
 match(List.range s.length).find? fun i=>s.getD i 0 == UInt8.ofNat c.toNat with
 |some i=>(i:Int)
 |none => -1
theorem wq1dd{P:Program}(x0:List UInt8)(x1:Int)(w:World): (Go.Extern.BytealgIndexByte.indexByte #[.string ⟨x0.toArray⟩,.int .u8 x1]).run P w = .ok (.int .i64 (wq18n x0 x1)) w:=by
 have e5:(Go.Extern.BytealgIndexByte.indexByte #[.string ⟨x0.toArray⟩,.int .u8 x1]).run P w=(match(List.range (ByteArray.mk x0.toArray).size).find? fun i=>(ByteArray.mk x0.toArray)[i]! == x1.toNat.toUInt8 with
  |some i=>(pure (goInt i):Sem Value)
  |none=>pure (goInt (-1))).run P w:=rfl
 rw[e5]
 unfold wq18n
 have e6:(ByteArray.mk x0.toArray).size=x0.length:=by simp[ByteArray.size]
 have e7:∀ i,(ByteArray.mk x0.toArray)[i]! = x0.getD i 0:=by
  intro i
  by_cases hi:i<x0.length
  ·rw[getElem!_pos (ByteArray.mk x0.toArray) i (by rw[e6];exact hi)]
   have:x0.getD i 0=x0[i]:=by simp[List.getD,hi]
   rw[this];rfl
  ·rw[getElem!_neg (ByteArray.mk x0.toArray) i (by rw[e6];exact hi)]
   have:x0.getD i 0=0:=by simp[List.getD,Nat.le_of_not_lt hi]
   rw[this];rfl
 simp only[e6,e7]
 have e8:∀ i,(x0.getD i 0 == x1.toNat.toUInt8)=(x0.getD i 0 == UInt8.ofNat x1.toNat):=fun i=>rfl
 simp only[e8]
 cases(List.range x0.length).find? fun i=>x0.getD i 0 == UInt8.ofNat x1.toNat with
 |none=>rfl
 |some i=>rfl
def wqql:List LS:=[.any,.any]
def wqiw(k:Nat){R:Type}(x0:List UInt8)(x1:Int)(K:Int→Option R): Option R:=K (wq18n x0 x1)
def wqan(k:Nat){R:Type}: List PV→List (Nm×HObj)→(Out→Option R)→Option R
 |[.v .str x0,.v (.int .u8) x1],[],K=>wqiw k x0 x1 (fun y0=>K (.ret [.v (.int .i64) y0] []))
 |_,_,_=>none
theorem wq1sc{G:Gh}{w:World}: Fin [] [] G w G w :=
 ⟨fun n o h=>(by cases h),fun n m b h=>(by simp[blkOf,mkH,look]at h),fun n t cs h=>(by cases h),fun n ag V es h=>(by cases h),fun _ _ _=>rfl,rfl,fun n b h=>(by simp[blkOf,mkH,look]at h),Nat.le_refl _,rfl,rfl,rfl⟩
theorem wqpf:Extern.find Tryz.f257=some Go.Extern.BytealgIndexByte.indexByte:=by kernel_rfl
theorem wqku:(Extern.findNext Tryz.f257).isNone=true:=by kernel_rfl
theorem wqsh:Tryz.prog.funcs[257]? = some Tryz.f257:=by kernel_rfl
theorem wqfd:(Tryz.f257.name == "runtime.NumGoroutine")=false:=by kernel_rfl
theorem wqpg:Tryz.f257.body.isNone=true:=by kernel_rfl
theorem wqta(k:Nat){ps:List PV}{hp:List (Nm×HObj)}{R:Type}{K:Out→Option R}{r:R}(h:wqan k ps hp K=some r): DoesTo Tryz.prog 257 ps hp fun out=>K out=some r:=by
 unfold wqan at h
 split at h
 ·next x0 x1 =>
  intro G w vals hr obj dis
  obtain⟨v0,l0,rfl,h0,v1,l1,rfl,h1,rfl⟩:=hr
  have e0:v0 = .string ⟨x0.toArray⟩:=by simpa [RV,RD]using h0
  have e1:v1 = .int .u8 x1:=by simpa [RV,RD]using h1
  subst e0 e1
  have hrun:(callFunc 257 #[.string ⟨x0.toArray⟩,.int .u8 x1]).run Tryz.prog w = .ok (.value (.int .i64 (wq18n x0 x1))) w:=by
   have hn2:¬ Tryz.f257.name = "runtime.NumGoroutine" := by simpa using wqfd
   have hn3:Extern.findNext Tryz.f257=none:=by
    cases hq:Extern.findNext Tryz.f257 with
    |none=>rfl
    |some e=>have:=wqku;rw[hq]at this;cases this
   have e1:(callFunc 257 #[.string ⟨x0.toArray⟩,.int .u8 x1]).run Tryz.prog w=(Go.Extern.BytealgIndexByte.indexByte #[.string ⟨x0.toArray⟩,.int .u8 x1] >>= fun v=>pure (Next.value v)).run Tryz.prog w:=by
    unfold callFunc
    rw[Sem.run_bind]
    have e2:(program).run Tryz.prog w = .ok Tryz.prog w:=rfl
    rw[e2,Result.andThen_ok,wqsh]
    simp only[wqfd,wqpg,if_true,Bool.false_eq_true,if_false]
    rw[Sem.run_bind]
    have e3:(mark (.extern 257)).run Tryz.prog w = .ok () w:=rfl
    rw[e3,Result.andThen_ok,hn3,wqpf]
   rw[e1]
   have e4:=wq1dd (P:=Tryz.prog) x0 x1 w
   rw[Sem.run_bind,e4];rfl
  show Does _ _ #[_,_] _ _
  unfold Does
  rw[hrun]
  exact⟨.ret [.v (.int .i64) (wq18n x0 x1)] [],h,G,⟨_,rfl,rfl⟩,wq1sc⟩
 ·cases h
end Go.Proofs.YtabkhphoacmcdaaGreatDoor.Pvm
noncomputable section
namespace Go.Proofs.YtabkhphoacmcdaaGreatDoor.Pvm
open Go Go.Proofs
def wqnq:List LS:=[.any,.any]
def wqm3{R:Type}(K:(Int→Option R)): Out→Option R
 |.ret [.v (.int .i64) y0] []=>K y0
 |_=>none
def wq139:RetSpec:=⟨[.any],[],[]⟩
def wq13a(k:Nat): Ctx:=⟨tyT,[],(.add 257 wqql (wqan k) .nil),[],[],[],@SH⟩
def wq16d(k:Nat){R:Type}(x0:(List UInt8))(x1:Int)(K:(Int→Option R)): Option R:=wqiw k x0 x1 K
def wqem(k:Nat){R:Type}(x0:(List UInt8))(x1:Int)(K:(Int→Option R)): Option R:=wq16d k x0 x1 K
theorem wqxt(k:Nat){R:Type}(x0:(List UInt8))(x1:Int)(K:(Int→Option R)): fnW (wq13a k) k Tryz.f236 wq139 [.v .str x0,.v (.int .u8) x1] [] (wqm3 K)=wqem k x0 x1 K:=by
 kernel_rfl
def wq97(k:Nat){R:Type}: List PV→List (Nm×HObj)→(Out→Option R)→Option R
 |[.v .str x0,.v (.int .u8) x1],[],K=>wqem k x0 x1 (fun y0=>K (.ret [.v (.int .i64) y0] []))
 |_,_,_=>none
theorem wqrv(k:Nat): DOK Tryz.prog 236 (wq97 k):=by
 intro ps hp R K r h
 have h:wq97 k ps hp K=some r:=h
 unfold wq97 at h
 split at h
 ·rw[←wqxt]at h
  exact fnW_ok ⟨tyT_ok,(CTab.add_ok (fun h=>wqta k h) CTab.nil_ok),fun _ _=>rfl⟩ mixed (by kernel_rfl) (by kernel_rfl) h fun o ho=>by unfold wqm3 at ho;split at ho<;>first|exact ho|cases ho
 ·cases h
end Go.Proofs.YtabkhphoacmcdaaGreatDoor.Pvm
end
noncomputable section
namespace Go.Proofs.YtabkhphoacmcdaaGreatDoor.Pvm
open Go Go.Proofs
def wq1az:List LS:=[.any,.any]
def wqtb{R:Type}(K:(Int→Option R)): Out→Option R
 |.ret [.v (.int .i64) y0] []=>K y0
 |_=>none
def wq1eg:RetSpec:=⟨[.any],[],[]⟩
def wq1eh(k:Nat): Ctx:=⟨tyT,[],(.add 236 wqnq (wq97 k) .nil),[],[],[],@SH⟩
def wq1h0(k:Nat){R:Type}(x0:(List UInt8))(x1:UInt8)(K:(Int→Option R)): Option R:=cond (cond ((@List.length UInt8 [x1]:Int) == 0) true ([x1] == x0)) (K 0) (wqem k x0 ((([x1]).getD (Int.toNat 0) 0).toNat:Int) K)
def wqtc(k:Nat){R:Type}(x0:(List UInt8))(x1:UInt8)(K:(Int→Option R)): Option R:=wq1h0 k x0 x1 K
theorem wq18o(k:Nat){R:Type}(x0:(List UInt8))(x1:UInt8)(K:(Int→Option R)): fnW (wq1eh k) k Tryz.f203 wq1eg [.v .str x0,.v .str [x1]] [] (wqtb K)=wqtc k x0 x1 K:=by
 kernel_rfl
def wqia(k:Nat){R:Type}: List PV→List (Nm×HObj)→(Out→Option R)→Option R
 |[.v .str x0,.v .str [x1]],[],K=>wqtc k x0 x1 (fun y0=>K (.ret [.v (.int .i64) y0] []))
 |_,_,_=>none
theorem wq1h1(k:Nat): DOK Tryz.prog 203 (wqia k):=by
 intro ps hp R K r h
 have h:wqia k ps hp K=some r:=h
 unfold wqia at h
 split at h
 ·rw[←wq18o]at h
  exact fnW_ok ⟨tyT_ok,(wqd (wqrv k) CTab.nil_ok),fun _ _=>rfl⟩ mixed (by kernel_rfl) (by kernel_rfl) h fun o ho=>by unfold wqtb at ho;split at ho<;>first|exact ho|cases ho
 ·cases h
end Go.Proofs.YtabkhphoacmcdaaGreatDoor.Pvm
end
noncomputable section
namespace Go.Proofs.YtabkhphoacmcdaaGreatDoor.Pvm
open Go Go.Proofs
def wq1h2:List LS:=[.any,.any]
def wq10f{R:Type}(K:((List UInt8)→(List UInt8)→Bool→Option R)): Out→Option R
 |.ret [.v .str y0,.v .str y1,.v .bool y2] []=>K y0 y1 y2
 |_=>none
def wq1j7:RetSpec:=⟨[.any,.any,.any],[],[]⟩
def wq1j8(k:Nat): Ctx:=⟨tyT,[],(.add 203 wq1az (wqia k) .nil),[],[],[(3,(.of [(0,1),(1,1),(2,1),(3,1),(4,1),(5,1),(6,1),(7,1),(8,1),(9,1),(10,1),(11,1)] .done))],@SH⟩
def wq1m9(k:Nat){R:Type}(x0:(List UInt8))(x1:UInt8)(K:((List UInt8)→(List UInt8)→Bool→Option R)): Option R:=wqtc k x0 x1 (fun y5=>cond (decide (y5≥0)) (cond (bnd 0 y5 (x0.length:Int)) (cond (bnd (@Go.IntKind.wrap Go.IntKind.i64 (y5+(@List.length UInt8 [x1]:Int))) (x0.length:Int) (x0.length:Int)) (K (cut x0 0 y5) (cut x0 (@Go.IntKind.wrap Go.IntKind.i64 (y5+(@List.length UInt8 [x1]:Int))) (x0.length:Int)) true) none) none) (K x0 [] false))
def wq13b(k:Nat){R:Type}(x0:(List UInt8))(x1:UInt8)(K:((List UInt8)→(List UInt8)→Bool→Option R)): Option R:=wq1m9 k x0 x1 K
theorem wq1ei(k:Nat){R:Type}(x0:(List UInt8))(x1:UInt8)(K:((List UInt8)→(List UInt8)→Bool→Option R)): fnW (wq1j8 k) k Tryz.f169 wq1j7 [.v .str x0,.v .str [x1]] [] (wq10f K)=wq13b k x0 x1 K:=by
 kernel_rfl
def wqnr(k:Nat){R:Type}: List PV→List (Nm×HObj)→(Out→Option R)→Option R
 |[.v .str x0,.v .str [x1]],[],K=>wq13b k x0 x1 (fun y0 y1 y2=>K (.ret [.v .str y0,.v .str y1,.v .bool y2] []))
 |_,_,_=>none
theorem wq1ma(k:Nat): DOK Tryz.prog 169 (wqnr k):=by
 intro ps hp R K r h
 have h:wqnr k ps hp K=some r:=h
 unfold wqnr at h
 split at h
 ·rw[←wq1ei]at h
  exact fnW_ok ⟨tyT_ok,(wqd (wq1h1 k) CTab.nil_ok),fun _ _=>rfl⟩ mixed (by kernel_rfl) (by kernel_rfl) h fun o ho=>by unfold wq10f at ho;split at ho<;>first|exact ho|cases ho
 ·cases h
end Go.Proofs.YtabkhphoacmcdaaGreatDoor.Pvm
end
noncomputable section
namespace Go.Proofs.YtabkhphoacmcdaaGreatDoor.Pvm
open Go Go.Proofs
def wqoo:List LS:=[.any,.any]
def wqtd{R:Type}(K:((List UInt8)→(List UInt8)→Bool→Option R)): Out→Option R
 |.ret [.v .str y0,.v .str y1,.v .bool y2] []=>K y0 y1 y2
 |_=>none
def wq1ej:RetSpec:=⟨[.any,.any,.any],[],[]⟩
def wq1ek(k:Nat): Ctx:=⟨tyT,[],(.add 169 wq1h2 (wqnr k) .nil),[],[],[],@SH⟩
def wq1h3(k:Nat){R:Type}(x0:(List UInt8))(x1:UInt8)(K:((List UInt8)→(List UInt8)→Bool→Option R)): Option R:=wq13b k x0 x1 K
def wqck(k:Nat){R:Type}(x0:(List UInt8))(x1:UInt8)(K:((List UInt8)→(List UInt8)→Bool→Option R)): Option R:=wq1h3 k x0 x1 K
theorem wq18p(k:Nat){R:Type}(x0:(List UInt8))(x1:UInt8)(K:((List UInt8)→(List UInt8)→Bool→Option R)): fnW (wq1ek k) k Tryz.f118 wq1ej [.v .str x0,.v .str [x1]] [] (wqtd K)=wqck k x0 x1 K:=by
 kernel_rfl
def wqe9(k:Nat){R:Type}: List PV→List (Nm×HObj)→(Out→Option R)→Option R
 |[.v .str x0,.v .str [x1]],[],K=>wqck k x0 x1 (fun y0 y1 y2=>K (.ret [.v .str y0,.v .str y1,.v .bool y2] []))
 |_,_,_=>none
theorem wq156(k:Nat): DOK Tryz.prog 118 (wqe9 k):=by
 intro ps hp R K r h
 have h:wqe9 k ps hp K=some r:=h
 unfold wqe9 at h
 split at h
 ·rw[←wq18p]at h
  exact fnW_ok ⟨tyT_ok,(wqd (wq1ma k) CTab.nil_ok),fun _ _=>rfl⟩ mixed (by kernel_rfl) (by kernel_rfl) h fun o ho=>by unfold wqtd at ho;split at ho<;>first|exact ho|cases ho
 ·cases h
end Go.Proofs.YtabkhphoacmcdaaGreatDoor.Pvm
end
noncomputable section
namespace Go.Proofs.YtabkhphoacmcdaaGreatDoor.Pvm
open Go Go.Proofs
def wqns:List LS:=[.any,.any]
def wqm4{R:Type}(K:(Bool→Option R)): Out→Option R
 |.ret [.v .bool y0] []=>K y0
 |_=>none
def wq13c:RetSpec:=⟨[.any],[],[]⟩
def wq13d(k:Nat): Ctx:=⟨tyT,[],.nil,[],[],[],@SH⟩
def wq16e(k:Nat){R:Type}(x0 x1:(List UInt8))(K:(Bool→Option R)): Option R:=cond ((!((decide ((x0.length:Int)≥(x1.length:Int))) == true)) || (bnd 0 (x1.length:Int) (x0.length:Int))) (K (cond (decide ((x0.length:Int)≥(x1.length:Int))) ((cut x0 0 (x1.length:Int)) == x1) false)) none
def wqen(k:Nat){R:Type}(x0 x1:(List UInt8))(K:(Bool→Option R)): Option R:=wq16e k x0 x1 K
theorem wqxu(k:Nat){R:Type}(x0 x1:(List UInt8))(K:(Bool→Option R)): fnW (wq13d k) k Tryz.f88 wq13c [.v .str x0,.v .str x1] [] (wqm4 K)=wqen k x0 x1 K:=by
 kernel_rfl
def wq98(k:Nat){R:Type}: List PV→List (Nm×HObj)→(Out→Option R)→Option R
 |[.v .str x0,.v .str x1],[],K=>wqen k x0 x1 (fun y0=>K (.ret [.v .bool y0] []))
 |_,_,_=>none
theorem wqrw(k:Nat): DOK Tryz.prog 88 (wq98 k):=by
 intro ps hp R K r h
 have h:wq98 k ps hp K=some r:=h
 unfold wq98 at h
 split at h
 ·rw[←wqxu]at h
  exact fnW_ok ⟨tyT_ok,CTab.nil_ok,fun _ _=>rfl⟩ mixed (by kernel_rfl) (by kernel_rfl) h fun o ho=>by unfold wqm4 at ho;split at ho<;>first|exact ho|cases ho
 ·cases h
end Go.Proofs.YtabkhphoacmcdaaGreatDoor.Pvm
end
noncomputable section
namespace Go.Proofs.YtabkhphoacmcdaaGreatDoor.Pvm
open Go Go.Proofs
def wq10g:List LS:=[.any,.any]
def wqm5{R:Type}(K:((List UInt8)→Bool→Option R)): Out→Option R
 |.ret [.v .str y0,.v .bool y1] []=>K y0 y1
 |_=>none
def wq13e:RetSpec:=⟨[.any,.any],[],[]⟩
def wq13f(k:Nat): Ctx:=⟨tyT,[],(.add 88 wqns (wq98 k) .nil),[],[],[],@SH⟩
def wq16f(k:Nat){R:Type}(x0:(List UInt8))(x1:UInt8)(K:((List UInt8)→Bool→Option R)): Option R:=wqen k x0 [x1] (fun y5=>cond (!y5) (K x0 false) (cond (bnd (@List.length UInt8 [x1]:Int) (x0.length:Int) (x0.length:Int)) (K (cut x0 (@List.length UInt8 [x1]:Int) (x0.length:Int)) true) none))
def wqjl(k:Nat){R:Type}(x0:(List UInt8))(x1:UInt8)(K:((List UInt8)→Bool→Option R)): Option R:=wq16f k x0 x1 K
theorem wqxv(k:Nat){R:Type}(x0:(List UInt8))(x1:UInt8)(K:((List UInt8)→Bool→Option R)): fnW (wq13f k) k Tryz.f168 wq13e [.v .str x0,.v .str [x1]] [] (wqm5 K)=wqjl k x0 x1 K:=by
 kernel_rfl
def wqc0(k:Nat){R:Type}: List PV→List (Nm×HObj)→(Out→Option R)→Option R
 |[.v .str x0,.v .str [x1]],[],K=>wqjl k x0 x1 (fun y0 y1=>K (.ret [.v .str y0,.v .bool y1] []))
 |_,_,_=>none
theorem wq16g(k:Nat): DOK Tryz.prog 168 (wqc0 k):=by
 intro ps hp R K r h
 have h:wqc0 k ps hp K=some r:=h
 unfold wqc0 at h
 split at h
 ·rw[←wqxv]at h
  exact fnW_ok ⟨tyT_ok,(wqd (wqrw k) CTab.nil_ok),fun _ _=>rfl⟩ mixed (by kernel_rfl) (by kernel_rfl) h fun o ho=>by unfold wqm5 at ho;split at ho<;>first|exact ho|cases ho
 ·cases h
end Go.Proofs.YtabkhphoacmcdaaGreatDoor.Pvm
end
noncomputable section
namespace Go.Proofs.YtabkhphoacmcdaaGreatDoor.Pvm
open Go Go.Proofs
def wqke:List LS:=[.any,.any]
def wqix{R:Type}(K:((List UInt8)→Bool→Option R)): Out→Option R
 |.ret [.v .str y0,.v .bool y1] []=>K y0 y1
 |_=>none
def wqxw:RetSpec:=⟨[.any,.any],[],[]⟩
def wqxx(k:Nat): Ctx:=⟨tyT,[],(.add 168 wq10g (wqc0 k) .nil),[],[],[],@SH⟩
def wq10h(k:Nat){R:Type}(x0:(List UInt8))(x1:UInt8)(K:((List UInt8)→Bool→Option R)): Option R:=wqjl k x0 x1 K
def wq77(k:Nat){R:Type}(x0:(List UInt8))(x1:UInt8)(K:((List UInt8)→Bool→Option R)): Option R:=wq10h k x0 x1 K
theorem wqte(k:Nat){R:Type}(x0:(List UInt8))(x1:UInt8)(K:((List UInt8)→Bool→Option R)): fnW (wqxx k) k Tryz.f117 wqxw [.v .str x0,.v .str [x1]] [] (wqix K)=wq77 k x0 x1 K:=by
 kernel_rfl
def wq9n(k:Nat){R:Type}: List PV→List (Nm×HObj)→(Out→Option R)→Option R
 |[.v .str x0,.v .str [x1]],[],K=>wq77 k x0 x1 (fun y0 y1=>K (.ret [.v .str y0,.v .bool y1] []))
 |_,_,_=>none
theorem wq10i(k:Nat): DOK Tryz.prog 117 (wq9n k):=by
 intro ps hp R K r h
 have h:wq9n k ps hp K=some r:=h
 unfold wq9n at h
 split at h
 ·rw[←wqte]at h
  exact fnW_ok ⟨tyT_ok,(wqd (wq16g k) CTab.nil_ok),fun _ _=>rfl⟩ mixed (by kernel_rfl) (by kernel_rfl) h fun o ho=>by unfold wqix at ho;split at ho<;>first|exact ho|cases ho
 ·cases h
end Go.Proofs.YtabkhphoacmcdaaGreatDoor.Pvm
end
end
