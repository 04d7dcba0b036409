/- The Go function ConfigParses returns true for every slice of bytes. -/
import Derived.LoopN
import Derived.Scope
import Derived.Recover
import Derived.WalkKit
import Derived.ProofKit
import Derived.OpenShut
import Derived.ShutString
import Derived.ChangeOld
import Derived.Below
import Derived.SizedLaws
import Derived.ChangeArms
import Derived.Test.YtabkhphoacmcdaaGreatDoorProg
import Derived.KernelRfl
import Derived.Lib.BytesEntry
import Derived.Shelf.Strings.Repeat
import Derived.Test.YtabkhphoacmcdaaGreatDoorChecked
import Derived.WalkSpells
import Derived.WalkLawsBesides
import Derived.Lib.Builder
import Derived.Lib.AppendStr
import Derived.Lib.UnsafeStr
import Derived.Laws.Externs
import Derived.Shelf.RegionOpenPlain
import Derived.Deep.Heap
import Derived.Lib.Bytealg
import Derived.Test.YtabkhphoacmcdaaGreatDoorConfigParsesM0
import Derived.Test.YtabkhphoacmcdaaGreatDoorConfigParsesM1
set_option linter.unusedVariables false
set_option linter.unusedSimpArgs false
set_option linter.unusedSectionVars false
noncomputable section
namespace Go.Proofs.YtabkhphoacmcdaaGreatDoor.Pvm
section
open Go
variable {P:Program}
section
variable {h:Je} {G:Gh} {w:World}
theorem Je5:∀(l:List (Nm×LS)) (na:NA) {na':NA},normObjs h na l=some na'->Found h na->Found h na'∧na.le na'
 |[],na,na',he,F=>by cases he;exact⟨F,.refl na⟩
 |(n,s)::r,na,na',he,F=>by
  rw[normObjs]at he
  split at he
  ·next q na1 h1 =>
   obtain⟨F1,L1⟩:=J7Z s _ na h1 F
   obtain⟨F2,L2⟩:=Je5 r na1 he F1
   exact⟨F2,L1.trans L2⟩
  ·cases he
theorem Jij{t:Nat->PV}: ∀(l:List (Nat×LS)) (na:NA) {ps:List (Nat×PV)} {na':NA},normSlots h t na l=some (ps,na')->Found h na->Found h na'∧na.le na'
 |[],na,ps,na',he,F=>by cases he;exact⟨F,.refl na⟩
 |(i,s)::r,na,ps,na',he,F=>by
  rw[normSlots]at he
  split at he
  ·next q na1 h1 =>
   split at he
   ·next qs na2 h2 =>
    cases he
    obtain⟨F1,L1⟩:=J7Z s _ na h1 F
    obtain⟨F2,L2⟩:=Jij r na1 h2 F1
    exact⟨F2,L1.trans L2⟩
   ·cases he
  ·cases he
section
variable {nf:NA} (S:Sub h G w nf)
include S
theorem Sub.normObjs:∀(l:List (Nm×LS)) (na:NA) {na':NA},normObjs h na l=some na'->na'.le nf->Found h na ->
 ∀ x∈na'.hp,x∈na.hp∨RO (mkH nf.hp) (JM G nf (Qe h G nf)) w x.1 x.2
 |[],na,na',he,L,F=>by cases he;exact fun x hx => .inl hx
 |(n,s)::r,na,na',he,L,F=>by
  rw[Pvm.normObjs]at he
  split at he
  ·next q na1 h1 =>
   obtain⟨F1,L1⟩:=J7Z s _ na h1 F
   obtain⟨F2,L2⟩:=Je5 r na1 he F1
   have hr:=Sub.normObjs r na1 he L F1
   have hs:∀ x∈na1.hp,x∈na.hp∨RO (mkH nf.hp) (JM G nf (Qe h G nf)) w x.1 x.2:=by
    by_cases hv:∃ t cs,h n=some (.var t cs)
    ·have hp:RV h G w (.ptr n 0) (.pointer (some ⟨G.bk n,0,none⟩)):=⟨rfl,hv⟩
     exact(Sub.norm S s _ na h1 (L2.trans L) F hp).2
    ·have:na1=na:=by
      cases s with
      |obj nm cs =>
       simp only[Qs]at h1
       split at h1
       ·cases h1;rfl
       ·split at h1
        ·next t ps hn=>exact absurd ⟨t,ps,hn⟩ hv
        ·cases h1
      |any=>simp[Qs,Q0]at h1
      |sl K =>
       have e0:Pvm.leaf h (.sl K) (.ptr n 0)=none:=rfl
       simp[Qs,e0]at h1
      |own nm e K=>simp[Qs]at h1
      |nps nm o0 =>
       simp only[Qs]at h1
       split at h1
       ·cases hb:Nat.beq 0 o0 with
        |false=>rw[hb]at h1;cases h1
        |true=>rw[hb,cond_true]at h1;simp at h1;exact h1.2.symm
       ·cases h1
      |mpo nm ag V=>simp[Qs]at h1
      |ag cs=>simp[Qs]at h1
      |clo cs=>simp[Qs]at h1
      |bor K=>simp[Qs]at h1
      |lend K =>
       simp only[Qs]at h1
       split at h1
       ·next t cs hn=>exact absurd ⟨t,cs,hn⟩ hv
       ·cases h1
     rw[this];exact fun x hx => .inl hx
   intro x hx
   rcases hr x hx with hx|hx
   ·exact hs x hx
   ·exact .inr hx
  ·cases he
theorem Sub.normSlots{t:Nat->PV}{tm:Nat->Value}(ht:∀ i,RT h G w tm (t i) (tm i)): ∀(l:List (Nat×LS)) (na:NA) {ps:List (Nat×PV)} {na':NA},normSlots h t na l=some (ps,na')->na'.le nf->Found h na ->
 (∀ i p,(i,p)∈ps->RV (mkH nf.hp) (JM G nf (Qe h G nf)) w p (tm i))∧∀ x∈na'.hp,x∈na.hp∨RO (mkH nf.hp) (JM G nf (Qe h G nf)) w x.1 x.2
 |[],na,ps,na',he,L,F=>by cases he;exact⟨fun i p hp=>(by cases hp),fun x hx => .inl hx⟩
 |(i,s)::r,na,ps,na',he,L,F=>by
  rw[Pvm.normSlots]at he
  split at he
  ·next q na1 h1 =>
   split at he
   ·next qs na2 h2 =>
    cases he
    obtain⟨F1,L1⟩:=J7Z s _ na h1 F
    obtain⟨F2,L2⟩:=Jij r na1 h2 F1
    have hv:RV h G w (t i) (tm i):=by
     have:=ht i
     cases hti:t i with
     |opt g c p =>
      exfalso
      rw[hti]at h1
      have e0:∀ K,Pvm.leaf h (.sl K) (.opt g c p)=none:=fun K=>rfl
      cases s<;>simp[Qs,Q0,e0]at h1
     |_=>rw[hti]at this;exact this
    obtain⟨a1,a2⟩:=Sub.norm S s (t i) na h1 (L2.trans L) F hv
    obtain⟨b1,b2⟩:=Sub.normSlots ht r na1 h2 L F1
    refine⟨fun j p hp => ?_,fun x hx => ?_⟩
    ·rcases List.mem_cons.1 hp with e|hp
     ·cases e;exact a1
     ·exact b1 j p hp
    ·rcases b2 x hx with hx|hx
     ·exact a2 x hx
     ·exact .inr hx
   ·cases he
  ·cases he
end
end
section
variable {w0:World} {fr:Nat->Prop} {X0:Org} {n:Nat} {ds:List Deferred} {st:St} {G:Gh} {a:Act} {w:World}
theorem Jt8{nm:List (Nm×Option Nm)}: ∀ {l:List Nm},J3J nm l=true->∀ n∈l,Jx nm n=some (some n)
 |[],_,n,hn=>by cases hn
 |m::r,h,n,hn=>by
  simp only[J3J,Bool.and_eq_true]at h
  rcases List.mem_cons.1 hn with rfl|hn
  ·have h1:=h.1
   rw[Jak]at h1
   split at h1
   ·next m hm=>rw[Qj.1 h1]at hm;exact hm
   ·cases h1
  ·exact Jt8 h.2 n hn
theorem JtW(R:Rel w0 fr X0 n ds st G a w){na:NA}(S:Sub st.h G w na){X:Nat->Prop}{pv:List Nm}(hst:J3J na.nm pv=true)(hpv:∀ x∈X0.vs,x.1∈pv):
 ∀ x∈X0.vs,(∃ cs,mkH na.hp x.1=some (.var x.2.1 cs))∧(JM G na X).bk x.1=x.2.2:=by
 intro x hx
 obtain⟨⟨cs,h1⟩,h2⟩:=R.org x hx
 have h3:=Jt8 hst _ (hpv x hx)
 obtain⟨o,ho⟩:=J0u (S.fi.k4 _ (UD (Qd h3)))
 have ho:=QQ S.fi.k3 ho
 refine⟨?_,by simp only[JM,h3];exact h2⟩
 rcases S.hhp _ _ ho _ h3 with⟨t',cs1,cs2,rfl,hv⟩|⟨e,K,xs,rfl,hv⟩|⟨ag,V,es,rfl,hv⟩
 ·rw[h1]at hv;cases hv;exact⟨cs2,ho⟩
 ·rw[h1]at hv;cases hv
 ·rw[h1]at hv;cases hv
theorem Jm8(R:Rel w0 fr X0 n ds st G a w)(hf:∀ b,fr b->b<w0.heap.size){pv:List Nm}(hpv:∀ x∈X0.vs,x.1∈pv){c:CutSpec}{s:St}(he:norm pv c st=some s): ∃ G',Rel w0 fr X0 n ds s G' a w:=by
 unfold norm at he
 split at he
 ·next na1 h1 =>
  split at he
  ·next l na h2 =>
   cases hfi:(J1M na&&J3J na.nm pv)with
   |false=>rw[hfi]at he;cases he
   |true =>
    rw[hfi]at he
    cases he
    simp only[Bool.and_eq_true]at hfi
    obtain⟨hfi,hst⟩:=hfi
    have F0:Found st.h ⟨[],[],[],[]⟩:=⟨fun k o hk=>(by cases hk),fun m hm=>(by cases hm)⟩
    obtain⟨F1,L1⟩:=Je5 _ _ h1 F0
    obtain⟨F2,L2⟩:=Jij _ _ h2 F1
    have S:Sub st.h G w na:=⟨Jf3 hfi,F2,R.obj,R.toDis hf⟩
    have hO:=Sub.normObjs S _ _ h1 L2 F0
    obtain⟨hS,hO2⟩:=Sub.normSlots S R.tm _ _ h2 (.refl na) F1
    have hobj:∀ k o,mkH na.hp k=some o->RO (mkH na.hp) (JM G na (Qe st.h G na)) w k o:=fun k o hk=>by
     rcases hO2 (k,o) (Qd hk)with h|h
     ·rcases hO _ h with h|h
      ·cases h
      ·exact h
     ·exact h
    let G1:=JM G na (Qe st.h G na)
    let G2:Gh:={ G1 with X:=G.X }
    have bk:∀ k,Jd (mkH na.hp) G2 k=Jd (mkH na.hp) G1 k:=fun k=>rfl
    have ok:∀ b,okB (mkH na.hp) G1 b->okB (mkH na.hp) G2 b:=fun b hb=>⟨hb.1,fun hx=>hb.2 (.inl hx)⟩
    have C:Carry (mkH na.hp) G1 w (mkH na.hp) G2 w .row :=
     ⟨fun b ho _=>⟨ok b ho,rfl⟩,fun n t cs hn=>⟨⟨cs,hn⟩,rfl⟩,fun n ag V es hn=>⟨⟨es,hn⟩,rfl⟩,S.okX,fun n e K xs hn=>⟨⟨rfl,e,K,xs,hn⟩,fun m hm=>by cases hm;exact⟨e,xs,hn,Nat.le_refl _⟩⟩⟩
    have rv:∀ p v,RV (mkH na.hp) G1 w p v->RV (mkH na.hp) G2 w p v:=fun p v hp=>by
     have:=RV.carry C p v hp
     rwa [PV.mapR_row]at this
    refine⟨G2,fun i => ?_,R.size,fun k o hk => ?_,fun k m b h1 h2=>S.toDis.inj k m b h1 h2,fun k b hb => ?_,R.xfr,R.xeq,fun x hx => ?_,R.ext,R.grow,R.os,R.tape,R.out,R.defers⟩
    ·show RT (mkH na.hp) G2 w _ (mkT l i) _
     unfold mkT
     cases hl:Jx l i with
     |none=>exact J1z (show RV _ _ _ .un _ from trivial)
     |some p=>exact J1z (rv _ _ (hS i p (Qd hl)))
    ·have:=RO.carry C hk (hobj k o hk) (fun b _=>rfl) rfl rfl
     rwa [J1A]at this
    ·obtain⟨m,_,hm⟩:=S.blk k b hb
     exact R.apart m b hm
    ·exact JtW R S hst hpv x hx
  ·cases he
 ·cases he
def Post{R0:Type}(w0:World)(fr:Nat->Prop)(X0:Org)(n:Nat)(ds:List Deferred)(ks:List Nat)(K:Ex->St->Option R0)(r:R0): Exit->Act->World->Prop
 |.normal,a,w=>∃ st G,K .normal st=some r∧Rel w0 fr X0 n ds st G a w
 |.exit i,a,w=>∃ st G,K (.exit i) st=some r∧Rel w0 fr X0 n ds st G a w
 |.ret,a,w=>∃ st G,K .ret st=some r∧Rel w0 fr X0 n ds st G a w
 |.panic ch,a,w=>∃ st G a0 p v,ch=[{ v,recovered:=false }]∧K (.panic p) st=some r∧Rel w0 fr X0 n ds st G a0 w∧RV st.h G w p v∧a.defers=a0.defers∧a.tmps.size=n∧∀ i∈ks,JW a i=JW a0 i
 |_,_,_=>False
theorem Post.mono{R1 R2:Type}{ks:List Nat}{K:Ex->St->Option R1}{r:R1}{K':Ex->St->Option R2}{r':R2}(h:∀ e st,K e st=some r->K' e st=some r'): ∀ e a w,Post w0 fr X0 n ds ks K r e a w->Post w0 fr X0 n ds ks K' r' e a w
 |.normal,a,w,⟨st,G,h1,h2⟩=>⟨st,G,h _ _ h1,h2⟩
 |.exit i,a,w,⟨st,G,h1,h2⟩=>⟨st,G,h _ _ h1,h2⟩
 |.ret,a,w,⟨st,G,h1,h2⟩=>⟨st,G,h _ _ h1,h2⟩
 |.panic ch,a,w,⟨st,G,a0,p,v,h1,h2,h3⟩=>⟨st,G,a0,p,v,h1,h _ _ h2,h3⟩
theorem Post.put{R0:Type}{ks:List Nat}{K:Ex->St->Option R0}{r:R0}{d:Option Nat}{v:Value}{c:List PanicEntry}{a:Act}{w:World}(hd:∀ i,d=some i->i ∉ ks)(h:Post w0 fr X0 n ds ks K r (.panic c) (a.put d v) w): Post w0 fr X0 n ds ks K r (.panic c) a w:=by
 obtain⟨st,G,a0,p,u,h1,h2,h3,h4,h5,h6,h7⟩:=h
 cases d with
 |none=>exact⟨st,G,a0,p,u,h1,h2,h3,h4,h5,h6,h7⟩
 |some d =>
  refine⟨st,G,a0,p,u,h1,h2,h3,h4,h5,by simpa [Act.put]using h6,fun i hi => ?_⟩
  rw[←h7 i hi]
  have hne:i≠d:=fun e=>hd d rfl (e ▸ hi)
  unfold JW Act.put
  simp[Array.getElem?_setIfInBounds_ne (Ne.symm hne)]
def Jb9(n:Nat): List Oper->Bool
 |[]=>true
 |o::r=>(match o.dst with|some d=>Nat.blt d n|none=>true)&&Jb9 n r
def Yq(n:Nat): Code->Bool
 |.region _ ops _=>Jb9 n ops.toList
 |.seq a b=>Yq n a&&Yq n b
 |.cond _ a b=>Yq n a&&Yq n b
 |.block _ a=>Yq n a
 |.loop a=>Yq n a
 |.scope a=>Yq n a
 |_=>true
theorem JkB:∀ {l:List Oper},Jb9 n l=true->∀ o∈l,∀ i,o.dst=some i->i<n
 |[],_,o,ho=>by cases ho
 |o'::r,h,o,ho=>by
  simp only[Jb9,Bool.and_eq_true]at h
  rcases List.mem_cons.1 ho with rfl|ho
  ·intro i hi
   rw[hi]at h
   exact Nat.le_of_ble_eq_true h.1
  ·exact JkB h.2 o ho
theorem Juy {cx:Ctx} (X:cx.Ok P) (hm:P.follows .mixedOrders=true) {R0:Type} {K:Ex->St->Option R0} {r:R0} {id:Nat} {ops:Array Oper} {draw:Bool} (hf:∀ b,fr b->b<w0.heap.size) (hd:Jb9 n ops.toList=true)
 (R:Rel w0 fr X0 n ds st G a w) (he:Jnc cx id ops draw st K=some r):(Code.region id ops draw).wp P (Post w0 fr X0 n ds cx.keep K r) a w:=by
 have hp:∀ p v st' G' a' w',K (Jgk (some p)) st'=some r->Rel w0 fr X0 n ds st' G' a' w'->RV st'.h G' w' p v->Post w0 fr X0 n ds cx.keep K r (.panic [{ v,recovered:=false }]) a' w' :=
  fun p v st' G' a' w' h1 h2 h3=>⟨st',G',a',p,v,rfl,h1,h2,h3,rfl,h2.size,fun _ _=>rfl⟩
 have hQ:∀ st' G' a' w',K (Jgk none) st'=some r->Rel w0 fr X0 n ds st' G' a' w'->Post w0 fr X0 n ds cx.keep K r .normal a' w':=fun st' G' a' w' h1 h2=>⟨st',G',h1,h2⟩
 unfold Jnc at he
 cases draw with
 |false =>
  exact wp_region_list (Jux X hf hQ hp _ R (JkB hd) he)
 |true =>
  rw[cond_true]at he
  split at he
  ·next l hl =>
   cases hs:(Jg7 ops&&J16 cx.keep ops l ops.size 0 0)with
   |false=>rw[hs]at he;cases he
   |true =>
    rw[hs,cond_true]at he
    simp only[Bool.and_eq_true]at hs
    have S:Still w { w with drawn:=w.drawn+1 }:=⟨fun _ _=>rfl,Nat.le_refl _,rfl,rfl,rfl⟩
    have R':=R.loud0 hf (Loud.still R.obj (R.toDis hf) S)
    have hcl:ListedClosed .any ops (Array.replicate ops.size false):=by
     intro j oj hj hl
     have hjl:=(Array.getElem?_eq_some_iff.1 hj).1
     simp[Array.getD_eq_getD_getElem?,hjl]at hl
    have:=(J8u X hf hs.1 (fun o ho=>JkB hd o (by simpa using ho)) hQ hp (fun d v c a w h1 h2=>Post.put h1 h2) l ops.size 0 [] (fun _=>False) 0 _ hs.2 (Tells.start _) hcl he R' (fun b hb=>hb.elim)).1 rfl
    exact JEE hm this
  ·cases he
theorem Zf{cx:Ctx}(X:cx.Ok P)(hpv:∀ x∈X0.vs,x.1∈cx.pv)(hm:P.follows .mixedOrders=true)(k:Nat)(hf:∀ b,fr b->b<w0.heap.size){R0:Type}{r:R0}:
 ∀(c:Code) {K:Ex->St->Option R0} {st:St} {G:Gh} {a:Act} {w:World},Yq n c=true->QR cx k c st K=some r->Rel w0 fr X0 n ds st G a w->c.wp P (Post w0 fr X0 n ds cx.keep K r) a w
 |.skip,K,st,G,a,w,_,he,R=>wp_skip ⟨st,G,he,R⟩
 |.region id ops draw,K,st,G,a,w,hd,he,R=>by
  rw[QR]at he
  unfold J8Q at he
  split at he
  ·exact Juy X hm hf hd R he
  ·split at he
   ·next s hs =>
    obtain⟨G',R'⟩:=Jm8 R hf hpv hs
    exact Juy X hm hf hd R' he
   ·cases he
 |.seq x y,K,st,G,a,w,hd,he,R=>by
  rw[QR]at he
  simp only[Yq,Bool.and_eq_true]at hd
  refine wp_seq (wp_mono (Zf X hpv hm k hf x hd.1 he R) fun e a w h => ?_)
  cases e with
  |normal=>obtain⟨st,G,h1,h2⟩:=h;exact Zf X hpv hm k hf y hd.2 h1 h2
  |exit i=>exact h
  |ret=>exact h
  |panic c=>exact h
  |goto l=>exact h
  |outgrown=>exact h
 |.cond c x y,K,st,G,a,w,hd,he,R=>by
  unfold QR at he
  simp only[Yq,Bool.and_eq_true]at hd
  split at he
  ·next s =>
   have ht:=R.tm s
   split at he
   ·next b hb =>
    rw[hb]at ht
    have ht:JW a s = .bool b:=by simpa [RT,RV,RD]using ht
    refine wp_cond (t:=b) ht ?_
    cases b with
    |true=>exact Zf X hpv hm k hf x hd.1 he (R.know hf ht)
    |false=>exact Zf X hpv hm k hf y hd.2 he (R.know hf ht)
   ·next b hb =>
    rw[hb]at ht
    have ht:JW a s = .bool b:=ht
    refine wp_cond (t:=b) ht ?_
    cases b with
    |true=>exact Zf X hpv hm k hf x hd.1 he R
    |false=>exact Zf X hpv hm k hf y hd.2 he R
   ·cases he
  ·next v =>
   split at he
   ·next b =>
    refine wp_cond (t:=b) rfl ?_
    cases b with
    |true=>exact Zf X hpv hm k hf x hd.1 he R
    |false=>exact Zf X hpv hm k hf y hd.2 he R
   ·cases he
  ·cases he
 |.block id b,K,st,G,a,w,hd,he,R=>by
  rw[QR]at he
  refine wp_block (wp_mono (Zf X hpv hm k hf b hd he R) fun e a w h => ?_)
  cases e with
  |exit i =>
   obtain⟨st,G,h1,h2⟩:=h
   unfold Jmw at h1
   simp only at h1
   show if i=id then _ else _
   cases hb:Nat.beq i id with
   |true =>
    rw[if_pos (Qj.1 hb)]
    rw[hb]at h1
    exact⟨st,G,h1,h2⟩
   |false =>
    rw[if_neg (fun e=>by rw[Qj.2 e]at hb;cases hb)]
    rw[hb]at h1
    exact⟨st,G,h1,h2⟩
  |normal=>exact h
  |ret=>exact h
  |panic c=>exact h
  |goto l=>exact h
  |outgrown=>exact h
 |.loop b,K,st,G,a,w,hd,he,R=>by
  rw[QR]at he
  have key:∀(m:Nat) {st:St} {G:Gh} {a:Act} {w:World},Jbj cx.pv (Jx cx.cuts (1000+J2p b)) (QR cx k b) m st K=some r->Rel w0 fr X0 n ds st G a w->Code.rounds P b (Post w0 fr X0 n ds cx.keep K r) m a w:=by
   intro m
   induction m with
   |zero=>intro st G a w he _;cases he
   |succ m ih =>
    intro st G a w he R
    rw[Jbj]at he
    rw[rounds_succ]
    refine wp_mono (Zf X hpv hm k hf b hd he R) fun e a w h => ?_
    cases e with
    |normal =>
     obtain⟨st,G,h1,h2⟩:=h
     unfold JmT at h1
     simp only at h1
     unfold J8Q at h1
     split at h1
     ·exact ih h1 h2
     ·split at h1
      ·next s hs =>
       obtain⟨G',R'⟩:=Jm8 h2 hf hpv hs
       exact ih h1 R'
      ·cases h1
    |exit i=>exact h
    |ret=>exact h
    |panic c=>exact h
    |goto l=>exact h
    |outgrown=>exact h
  unfold J8Q at he
  split at he
  ·exact wp_loop_rounds k (key k he R)
  ·split at he
   ·next s hs =>
    obtain⟨G',R'⟩:=Jm8 R hf hpv hs
    exact wp_loop_rounds k (key k he R')
   ·cases he
 |.exit id,K,st,G,a,w,_,he,R=>wp_exit ⟨st,G,he,R⟩
 |.scope b,K,st,G,a,w,hd,he,R=>by
  rw[QR]at he
  refine wp_scope_straight (wp_mono (Zf X hpv hm k hf b hd he R) fun e a w h => ?_)
  cases e<;>exact h
 |.label l,K,st,G,a,w,_,he,R=>wp_label ⟨st,G,he,R⟩
 |.ret,K,st,G,a,w,_,he,R=>wp_ret ⟨st,G,he,R⟩
 |.rangeFunc ..,K,st,G,a,w,_,he,R=>by simp[QR]at he
 |.goto l,K,st,G,a,w,_,he,R=>by simp[QR]at he
 |.refuse s,K,st,G,a,w,_,he,R=>by simp[QR]at he
end
end
section
open Go
structure RetSpec where
 res:List LS
 objs:List (Nm×LS)
 pan:List (Nm×LS)
def J92(ty:TypeId->Option TI)(st:St): List ResultVar->Option (List PV)
 |[]=>some []
 |.tmp t::r=>match J92 ty st r with
  |some l=>some (QG [] (st.t t)::l)
  |none=>none
 |.cell a t::r=>match ty t with
  |some ti=>match J8H ti st.h (QG [] (st.t a))with
   |some ev=>match J92 ty st r with
    |some l=>some (ev.val::l)
    |none=>none
   |none=>none
  |none=>none
def Jgl(cx:Ctx){R:Type}(objs:List (Nm×LS))(res:List LS)(ps:List PV)(st:St)(K:List PV->List (Nm×HObj)->Option R): Option R :=
 match normObjs st.h ⟨[],[],[],[]⟩ objs with
 |none=>none
 |some na1=>match normPs st.h na1 res ps with
  |none=>none
  |some (qs,na)=>bif J1M na&&J3J na.nm cx.pv then K qs na.hp else none
noncomputable def J1O(cx:Ctx){R:Type}(sp:RetSpec)(rs:List ResultVar)(st:St)(K:Out->Option R): Option R :=
 match J92 cx.ty st rs with
 |none=>none
 |some ps=>Jgl cx sp.objs sp.res ps st fun qs hs=>K (.ret qs hs)
noncomputable def Jnd(cx:Ctx){R:Type}(sp:RetSpec)(p:PV)(st:St)(K:Out->Option R): Option R :=
 Jgl cx sp.pan [.any] [p] st fun qs hs=>match qs with
  |[q]=>K (.pan q hs)
  |_=>none
def YX(pv:List Nm): List (Nm×HObj)->Bool
 |[]=>true
 |(n,.var _ _)::r=>QV n pv&&YX pv r
 |(_,.mp _ _ _)::_=>false
 |_::r=>YX pv r
def J8R(args:List PV): Nat->PV:=fun i=>args.getD i .un
noncomputable def J93(cx:Ctx){R:Type}(sp:RetSpec)(rs:List ResultVar)(K:Out->Option R): Ex->St->Option R:=fun e st=>match e with
 |.normal=>J1O cx sp rs st K
 |.ret=>J1O cx sp rs st K
 |.panic p=>Jnd cx sp p st K
 |.exit _=>none
noncomputable def fnK(cx:Ctx)(k:Nat){R:Type}(c:Code)(n:Nat)(rs:List ResultVar)(sp:RetSpec)(args:List PV)(hp:List (Nm×HObj))(K:Out->Option R): Option R :=
 bif YX cx.pv hp&&Nat.ble args.length n then QR cx k c ⟨J8R args,mkH hp⟩ (J93 cx sp rs K)else none
section
variable {P:Program} {w0:World} {fr:Nat->Prop} {X0:Org} {n:Nat} {ds:List Deferred} {st:St} {G:Gh} {a:Act} {w:World}
def J0C(tmps:Array Value): ResultVar->Sem Value
 |.tmp t=>pure (tmps.getD t undef)
 |.cell x t=>do loadVar t (←asAddr (tmps.getD x undef))
theorem JFD(fn:Func)(tmps:Array Value): results fn tmps=(fn.results.mapM (J0C tmps) >>= fun vs=>pure (if h:vs.size=1 then vs[0]else .tuple vs)):=by
 unfold results
 have:(fun r:ResultVar=>match r with
  |.tmp t=>(pure (tmps.getD t undef):Sem Value)
  |.cell a t=>do loadVar t (←asAddr (tmps.getD a undef)))=J0C tmps:=by
  funext r;cases r<;>rfl
 rw[←this]
 rfl
theorem J8A{cx:Ctx}(X:cx.Ok P)(R:Rel w0 fr X0 n ds st G a w): ∀(rs:List ResultVar) {ps:List PV},J92 cx.ty st rs=some ps ->
 ∃ vs:List Value,RVs st.h G w ps vs∧(rs.mapM (J0C a.tmps)).run P w = .ok vs w
 |[],ps,he=>by cases he;exact⟨[],rfl,rfl⟩
 |.tmp t::r,ps,he=>by
  rw[J92]at he
  split at he
  ·next l hl =>
   cases he
   obtain⟨vs,h1,h2⟩:=J8A X R r hl
   refine⟨JW a t::vs,⟨_,_,rfl,R.use J3x (.tmp t),h1⟩,?_⟩
   rw[List.mapM_cons]
   simp only[Sem.run_bind,J0C,Sem.run_pure,Result.andThen_ok]
   rw[h2]
   rfl
  ·cases he
 |.cell x t::r,ps,he=>by
  rw[J92]at he
  split at he
  ·next ti hti =>
   split at he
   ·next ev hev =>
    split at he
    ·next l hl =>
     cases he
     obtain⟨vs,h1,h2⟩:=J8A X R r hl
     obtain⟨u,e1,e2,_⟩:=JkZ (P:=P) X.ty hti R.obj hev (R.use J3x (.tmp x))
     refine⟨u::vs,⟨_,_,rfl,e2,h1⟩,?_⟩
     have hld:(J0C a.tmps (.cell x t)).run P w = .ok u w:=by
      have e3:(Instr.loadAt t (a.tmps.getD x undef)).run P w = .ok u w:=e1
      unfold Instr.loadAt Instr.sureAddr at e3
      show(do loadVar t (←asAddr (a.tmps.getD x undef))).run P w=_
      split at e3
      ·next A hA =>
       rw[hA]
       exact e3
      ·simp[stuck,Sem.run]at e3
     rw[List.mapM_cons,Sem.run_bind,hld,Result.andThen_ok,Sem.run_bind,h2]
     rfl
    ·cases he
   ·cases he
  ·cases he
theorem JeK{fn:Func}{rs:List ResultVar}(hrs:fn.results.toList=rs){tmps:Array Value}{vs:List Value}(h:(rs.mapM (J0C tmps)).run P w = .ok vs w):
 (results fn tmps).run P w = .ok (if h:vs.toArray.size=1 then vs.toArray[0]else .tuple vs.toArray) w:=by
 rw[JFD,Sem.run_bind,Array.mapM_eq_mapM_toList,Sem.run_map,hrs,h]
 rfl
theorem JfM{ps:List PV}{vs:List Value}{h:Je}(hr:RVs h G w ps vs): RV h G w (J5O ps) (if h:vs.toArray.size=1 then vs.toArray[0]else .tuple vs.toArray):=by
 cases ps with
 |nil=>cases hr;exact⟨[],rfl,rfl⟩
 |cons p r =>
  obtain⟨v,l,rfl,hv,hl⟩:=hr
  cases r with
  |nil=>cases hl;exact hv
  |cons q r =>
   obtain⟨u,l',rfl,hu,hl'⟩:=hl
   have:¬ ((v::u::l').toArray.size=1):=by simp
   rw[dif_neg this]
   exact⟨_,rfl,v,_,rfl,hv,u,_,rfl,hu,hl'⟩
def J1g(hp:List (Nm×HObj))(G:Gh)(w:World)(b:Nat): Prop:=b<w.heap.size∧J3C (mkH hp) G b
def ZF(G:Gh): List (Nm×HObj)->List (Nm×TypeId×Nat)
 |[]=>[]
 |(n,.var t _)::r=>(n,t,G.bk n)::ZF G r
 |_::r=>ZF G r
def J0x(hp:List (Nm×HObj))(G:Gh): Org:=⟨G.X,(ZF G hp).filter fun x=>match Jx hp x.1 with|some (.var t _)=>Nat.beq t x.2.1|_=>false⟩
theorem JeT:∀ {hp:List (Nm×HObj)} {x},x∈ZF G hp->x.2.2=G.bk x.1
 |[],x,h=>by cases h
 |(n,.var t cs)::r,x,h=>by
  rw[ZF]at h
  rcases List.mem_cons.1 h with rfl|h
  ·rfl
  ·exact JeT h
 |(n,.row e K xs)::r,x,h=>JeT (hp:=r) (by simpa [ZF]using h)
 |(n,.mp ag V es)::r,x,h=>JeT (hp:=r) (by simpa [ZF]using h)
theorem Jf5:∀ {hp:List (Nm×HObj)} {n:Nm} {t:TypeId} {cs:List PV},(n,.var t cs)∈hp->(n,t,G.bk n)∈ZF G hp
 |(m,.var t' cs')::r,n,t,cs,h=>by
  rw[ZF]
  rcases List.mem_cons.1 h with e|h
  ·cases e;exact List.mem_cons_self
  ·exact List.mem_cons_of_mem _ (Jf5 h)
 |(m,.row e K xs)::r,n,t,cs,h=>by
  rcases List.mem_cons.1 h with e|h
  ·cases e
  ·show _∈ZF G r
   exact Jf5 h
 |(m,.mp ag V es)::r,n,t,cs,h=>by
  rcases List.mem_cons.1 h with e|h
  ·cases e
  ·show _∈ZF G r
   exact Jf5 h
 |[],n,t,cs,h=>by cases h
theorem Jl9{pv:List Nm}: ∀ {hp:List (Nm×HObj)} {n:Nm} {ag:MK} {V:Kd} {es:List (List UInt8×V.T)},YX pv hp=true->(n,.mp ag V es)∈hp->False
 |[],_,_,_,_,_,h=>by cases h
 |(m,.var t cs)::r,n,ag,V,es,hv,h=>by
  simp only[YX,Bool.and_eq_true]at hv
  rcases List.mem_cons.1 h with e|h
  ·cases e
  ·exact Jl9 hv.2 h
 |(m,.row e K xs)::r,n,ag,V,es,hv,h=>by
  rcases List.mem_cons.1 h with e|h
  ·cases e
  ·exact Jl9 (hp:=r) hv h
 |(m,.mp ag' V' es')::r,n,ag,V,es,hv,h=>by simp[YX]at hv
theorem J8v{pv:List Nm}: ∀ {hp:List (Nm×HObj)},YX pv hp=true->∀ x∈ZF G hp,x.1∈pv
 |[],_,x,hx=>by cases hx
 |(n,.var t cs)::r,h,x,hx=>by
  simp only[YX,Bool.and_eq_true]at h
  rw[ZF]at hx
  rcases List.mem_cons.1 hx with rfl|hx
  ·exact UC.1 h.1
  ·exact J8v h.2 x hx
 |(n,.row e K xs)::r,h,x,hx=>J8v (hp:=r) (by simpa [YX]using h) x (by simpa [ZF]using hx)
 |(n,.mp ag V es)::r,h,x,hx=>by simp[YX]at h
theorem JHn{h:Je}: ∀ {args:List PV} {vals:List Value},RVs h G w args vals->∀ i,RV h G w (J8R args i) ((vals.toArray++Array.replicate (n-vals.toArray.size) undef).getD i undef):=by
 intro args vals hr i
 have hl:=hr.length
 unfold J8R
 by_cases hi:i<args.length
 ·obtain⟨v,hv,hp⟩:=hr.get i args[i] (by simp[hi])
  have h1:args.getD i .un=args[i]:=by simp[List.getD,hi]
  rw[h1]
  have h2:(vals.toArray++Array.replicate (n-vals.toArray.size) undef).getD i undef=v:=by
   rw[Array.getD_eq_getD_getElem?,Array.getElem?_append_left (by simp;omega)]
   simp[hv]
  rw[h2];exact hp
 ·have h1:args.getD i .un = .un:=by simp[List.getD,Nat.le_of_not_lt hi]
  rw[h1];trivial
theorem Rel.start{hp:List (Nm×HObj)}{args:List PV}{vals:List Value}(hr:RVs (mkH hp) G w args vals)(obj:∀ n o,mkH hp n=some o->RO (mkH hp) G w n o)(dis:Dis (mkH hp) G w)(hn:args.length≤n):
 Rel w (J1g hp G w) (J0x hp G) n [] ⟨J8R args,mkH hp⟩ G { tmps:=vals.toArray++Array.replicate (n-vals.toArray.size) undef,defers:=[] } w:=by
 refine⟨fun i=>J1z (JHn hr i),?_,obj,dis.inj,fun m b hb hf=>hf.2 m hb,fun b hb=>⟨dis.xlt b hb,fun m hm=>dis.xo m b hm hb⟩,rfl,fun x hx => ?_,fun _ _=>rfl,Nat.le_refl _,rfl,rfl,rfl,rfl⟩
 ·have:=hr.length
  simp;omega
 ·obtain⟨h1,h2⟩:=List.mem_filter.1 hx
  refine⟨?_,(JeT h1).symm⟩
  show ∃ cs,Jx hp x.1=_
  split at h2
  ·next t cs hl=>rw[Qj.1 h2]at hl;exact⟨cs,hl⟩
  ·cases h2
theorem J8B {cx:Ctx} {hp:List (Nm×HObj)} {G0:Gh} (R:Rel w0 (J1g hp G0 w0) (J0x hp G0) n ds st G a w) (hv:YX cx.pv hp=true) {R0:Type} {objs:List (Nm×LS)} {res:List LS} {ps:List PV} {K:List PV->List (Nm×HObj)->Option R0} {r:R0} {vs:List Value}
 (hr:RVs st.h G w ps vs) (he:Jgl cx objs res ps st K=some r) :
 ∃ qs hs G',K qs hs=some r∧RVs (mkH hs) G' w qs vs∧Fin hp hs G0 w0 G' w:=by
 have hf:∀ b,J1g hp G0 w0 b->b<w0.heap.size:=fun b hb=>hb.1
 unfold Jgl at he
 split at he
 ·cases he
 ·next na1 h1 =>
  split at he
  ·cases he
  ·next qs na h2 =>
   cases hfi:(J1M na&&J3J na.nm cx.pv)with
   |false=>rw[hfi]at he;cases he
   |true =>
    rw[hfi,cond_true]at he
    simp only[Bool.and_eq_true]at hfi
    obtain⟨hfi,hst⟩:=hfi
    have F0:Found st.h ⟨[],[],[],[]⟩:=⟨fun k o hk=>(by cases hk),fun m hm=>(by cases hm)⟩
    obtain⟨F1,L1⟩:=Je5 _ _ h1 F0
    obtain⟨F2,L2⟩:=normPs_found _ _ _ h2 F1
    have S:Sub st.h G w na:=⟨Jf3 hfi,F2,R.obj,R.toDis hf⟩
    have hO:=Sub.normObjs S _ _ h1 L2 F0
    obtain⟨hS,hO2⟩:=Sub.norms S _ _ _ h2 (.refl na) F1 hr
    have hobj:∀ k o,mkH na.hp k=some o->RO (mkH na.hp) (JM G na (Qe st.h G na)) w k o:=fun k o hk=>by
     rcases hO2 (k,o) (Qd hk)with h|h
     ·rcases hO _ h with h|h
      ·cases h
      ·exact h
     ·exact h
    let G1:=JM G na (Qe st.h G na)
    let G2:Gh:={ G1 with X:=G.X }
    have ok:∀ b,okB (mkH na.hp) G1 b->okB (mkH na.hp) G2 b:=fun b hb=>⟨hb.1,fun hx=>hb.2 (.inl hx)⟩
    have C:Carry (mkH na.hp) G1 w (mkH na.hp) G2 w .row :=
     ⟨fun b ho _=>⟨ok b ho,rfl⟩,fun n t cs hn=>⟨⟨cs,hn⟩,rfl⟩,fun n ag V es hn=>⟨⟨es,hn⟩,rfl⟩,S.okX,fun n e K xs hn=>⟨⟨rfl,e,K,xs,hn⟩,fun m hm=>by cases hm;exact⟨e,xs,hn,Nat.le_refl _⟩⟩⟩
    have hRVs:RVs (mkH na.hp) G2 w qs vs:=by
     have:=RVs.carry C _ _ hS
     have e:∀ l:List PV,mapRs .row l=l:=by
      intro l
      induction l with
      |nil=>rfl
      |cons p r ih=>rw[mapRs,ih,PV.mapR_row]
     rwa [e]at this
    have hpv:∀ x∈(J0x hp G0).vs,x.1∈cx.pv:=fun x hx=>J8v hv x (List.mem_filter.1 hx).1
    refine⟨qs,na.hp,G2,he,hRVs,⟨fun k o hk => ?_,fun k m b h1 h2=>S.toDis.inj k m b h1 h2,fun m t cs hm o ho => ?_,fun m ag V es hm o ho=>(Jl9 hv (Qd hm)).elim,fun b hb hfree=>R.ext b ⟨hb,hfree⟩,R.xeq,fun k b hb => ?_,R.grow,R.os,R.tape,R.out⟩⟩
    ·have:=RO.carry C hk (hobj k o hk) (fun b _=>rfl) rfl rfl
     rwa [J1A]at this
    ·have hmem:(m,t,G0.bk m)∈(J0x hp G0).vs:=List.mem_filter.2 ⟨Jf5 (Qd hm),by simp[hm]⟩
     obtain⟨⟨cs',h1⟩,h2⟩:=JtW (X:=G.X) R S hst hpv _ hmem
     have h1:Jx na.hp m=some (.var t cs'):=h1
     rw[ho]at h1
     exact⟨⟨cs',by simpa using h1⟩,h2⟩
    ·obtain⟨m,_,hm⟩:=S.blk k b hb
     have:=R.apart m b hm
     by_cases hlt:b<w0.heap.size
     ·refine .inl (Classical.byContradiction fun hno=>this ⟨hlt,fun m hm=>hno ⟨m,hm⟩⟩)
     ·exact .inr (Nat.le_of_not_lt hlt)
theorem JJA {cx:Ctx} (X:cx.Ok P) (hm:P.follows .mixedOrders=true) {f:FuncId} {fn:Func} {c:Code} (hfn:P.funcs[f]? = some fn) (hb:fn.body=some c) (hname:(fn.name == "runtime.NumGoroutine")=false) {rs:List ResultVar} (hrs:fn.results.toList=rs) (hco:Yq fn.ntmps c=true)
 {k:Nat} {R0:Type} {sp:RetSpec} {args:List PV} {hp:List (Nm×HObj)} {K:Out->Option R0} {r:R0} (he:fnK cx k c fn.ntmps rs sp args hp K=some r):DoesTo P f args hp fun out=>K out=some r:=by
 intro G w vals hr obj dis
 unfold fnK at he
 cases hc1:(YX cx.pv hp&&Nat.ble args.length fn.ntmps)with
 |false=>rw[hc1]at he;cases he
 |true =>
  rw[hc1,cond_true]at he
  simp only[Bool.and_eq_true]at hc1
  have hrun:(callFunc f vals.toArray).run P w = .ok (.enter f vals.toArray) w:=by
   have hn2:¬ fn.name = "runtime.NumGoroutine" := by simpa using hname
   simp[callFunc,program,Sem.run,hfn,hn2,hb]
  unfold Does
  rw[hrun]
  have R:=Rel.start hr obj dis (Nat.le_of_ble_eq_true hc1.2)
  have hf:∀ b,J1g hp G w b->b<w.heap.size:=fun b hb=>hb.1
  have hpv:∀ x∈(J0x hp G).vs,x.1∈cx.pv:=fun x hx=>J8v hc1.1 x (List.mem_filter.1 hx).1
  have hret:∀ {st:St} {G':Gh} {a:Act} {w':World},J1O cx sp rs st K=some r->Rel w (J1g hp G w) (J0x hp G) fn.ntmps [] st G' a w'->∃ v,(results fn a.tmps).run P w' = .ok v w'∧∃ out,K out=some r∧∃ G'',J2A G'' w' (.returned v) out∧Fin hp out.hs G w G'' w':=by
   intro st G' a w' he R
   unfold J1O at he
   split at he
   ·cases he
   ·next ps hps =>
    obtain⟨vs,h1,h2⟩:=J8A X R rs hps
    obtain⟨qs,hs,G'',h3,h4,h5⟩:=J8B R hc1.1 h1 he
    exact⟨_,JeK hrs h2,.ret qs hs,h3,G'',⟨_,rfl,JfM h4⟩,h5⟩
  refine calls_of_wp hfn hb (wp_mono (Zf X hpv hm k hf c hco he R) fun e a w' h => ?_)
  cases e with
  |normal =>
   obtain⟨st,G',h1,h2⟩:=h
   obtain⟨v,h3,h4⟩:=hret h1 h2
   exact⟨h2.defers,v,h3,h4⟩
  |ret =>
   obtain⟨st,G',h1,h2⟩:=h
   obtain⟨v,h3,h4⟩:=hret h1 h2
   exact⟨h2.defers,v,h3,h4⟩
  |panic ch =>
   obtain⟨st,G',a0,p,v,rfl,h1,h2,h3,h4,_⟩:=h
   refine⟨h4.trans h2.defers,?_⟩
   simp only[J93]at h1
   unfold Jnd at h1
   obtain⟨qs,hs,G'',h5,h6,h7⟩:=J8B h2 hc1.1 (ps:=[p]) (vs:=[v]) ⟨v,[],rfl,h3,rfl⟩ h1
   split at h5
   ·next q =>
    obtain⟨u,l,hu,h8,h9⟩:=h6
    cases hu
    exact⟨.pan q hs,h5,G'',⟨v,rfl,h8⟩,h7⟩
   ·cases h5
  |exit i=>obtain⟨st,G',h1,h2⟩:=h;cases h1
  |goto l=>exact h
  |outgrown=>exact h.elim
end
end
section
open Go
variable {P:Program}
def JaY:Kd->List Value
 |.int k=>[.int k 0]
 |.bool=>[.bool false]
 |.str=>[.string ⟨#[]⟩]
 |.flt=>[.float .f64 0]
 |.nil=>[]
 |.sl _=>[.slice none 0 0]
 |.pr a b=>JaY a++JaY b
theorem Jla{w:World}{ok:Nat->Prop}: ∀ K:Kd,RD w ok K K.zero (JaY K)
 |.int _=>rfl
 |.bool=>rfl
 |.str=>rfl
 |.flt=>rfl
 |.nil=>rfl
 |.sl _=>⟨none,0,rfl,Nat.le_refl _,.inl rfl⟩
 |.pr a b=>⟨_,_,rfl,Jla a,Jla b⟩
def kdB(ti:TI)(z:List Value): Prop :=
 match ti.kd with
 |none=>True
 |some K=>(decide (0<K.sz)&&decide (K.sz=ti.size))=true∧z=JaY K
def Jm9(P:Program)(fs:Array Field): Bool:=(fs.toList.mapM (fun f=>(P.info? f.type).map fun i=>(f.offset,i.size))).isSome
theorem TiOk.of {t:TypeId} {ti:TI} {z:Value} {d:TypeDesc} (hi:(P.info? t).map (fun i=>(i.size,i.bytes,i.zero))=some (ti.size,ti.bytes,some z)) (hz:z.cells.toList.map cv=ti.zero) (hs:z.cells.size=ti.size)
 (hk:kdB ti z.cells.toList) (hsh:match ti.k with | .struct=>∃ cs,z = .agg cs | .int k=>z = .int k 0|_=>z.cells = #[z])
 (hm:match ti.k with
  |.int k=>d = .int k
  |.bool=>d = .bool
  |.str=>d = .string
  |.flt=>d = .float .f64
  |.slice=>d = .slice ti.el
  |.ptr=>d = .pointer ti.el
  |.struct=>∃ fs,d = .struct fs∧fs.toList.map (fun f=>(f.offset,f.type))=ti.fs∧Jm9 P fs=true
  |.iface=>∃ ms,d = .interface ms
  |.map=>∃ kt,d = .map kt ti.el∧P.underlying kt=some .string
  |.other=>(match d with | .struct _ | .array _ _ | .interface _=>False|_=>True))
 (hd:P.underlying t=some d) (he:ti.eqs=true->ti.k = .struct->JaH P t=true):TiOk P t ti:=by
 obtain⟨i,h1,h2⟩:=Option.map_eq_some_iff.1 hi
 simp only[Prod.mk.injEq]at h2
 refine⟨⟨i,z,h1,h2.1,h2.2.1,h2.2.2,hz,hs,fun K hK => ?_,hsh⟩,⟨d,hd,?_⟩,he⟩
 ·unfold kdB at hk
  rw[hK]at hk
  simp only[Bool.and_eq_true,decide_eq_true_eq]at hk
  exact⟨hk.1.1,hk.1.2,fun w ok=>by rw[hk.2];exact Jla K⟩
 ·revert hm
  cases ti.k<;>simp only[]<;>intro hm<;>first
   |exact hm
   |(obtain⟨fs,h1,h2,h3⟩:=hm
     unfold Jm9 at h3
     obtain⟨pl,hpl⟩:=Option.isSome_iff_exists.1 h3
     exact⟨fs,h1,h2,pl,hpl⟩)
theorem JI8{l:List (Nat×TI)}(h:∀ x∈l,TiOk P x.1 x.2): Qg P (Jx l):=fun t ti ht=>h (t,ti) (Qd ht)
theorem JI9:∀ x∈([]:List (Nat×TI)),TiOk P x.1 x.2:=fun x hx=>by cases hx
theorem all_cons{t:Nat}{ti:TI}{l:List (Nat×TI)}(h:TiOk P t ti)(hl:∀ x∈l,TiOk P x.1 x.2): ∀ x∈(t,ti)::l,TiOk P x.1 x.2:=fun x hx=>by
 rcases List.mem_cons.1 hx with rfl|hx
 ·exact h
 ·exact hl x hx
def Jwi:(K:Kd)->K.T->K.T->Bool
 |.int _,x,y=>decide ((x:Int)=y)
 |.bool,x,y=>decide ((x:Bool)=y)
 |.str,x,y=>decide ((x:List UInt8)=y)
 |.flt,x,y=>decide ((x:Nat)=y)
 |_,_,_=>false
theorem JIa:∀(K:Kd) {x y:K.T},Jwi K x y=true->x=y
 |.int _,x,y,h=>of_decide_eq_true h
 |.bool,x,y,h=>of_decide_eq_true h
 |.str,x,y,h=>of_decide_eq_true h
 |.flt,x,y,h=>of_decide_eq_true h
 |.sl _,_,_,h=>by cases h
 |.pr _ _,_,_,h=>by cases h
 |.nil,_,_,h=>by cases h
def pvB(p q:PV): Bool :=
 match p,q with
 |.un,.un=>true
 |.nilsl,.nilsl=>true
 |.nilptr,.nilptr=>true
 |.nilif,.nilif=>true
 |.v K x,.v K' y=>match QU K K' x with
  |some x=>Jwi K' x y
  |none=>false
 |_,_=>false
theorem JIR{p q:PV}(h:pvB p q=true): p=q:=by
 unfold pvB at h
 split at h
 ·rfl
 ·rfl
 ·rfl
 ·rfl
 ·next K x K' y =>
  split at h
  ·next z hz =>
   unfold QU at hz
   split at hz
   ·next e=>cases e;cases hz;cases JIa _ h;rfl
   ·cases hz
  ·cases h
 ·cases h
noncomputable def Jgm:List PV->List PV->Bool
 |[],[]=>true
 |p::r,q::s=>pvB p q&&Jgm r s
 |_,_=>false
theorem Juz:∀ {a b:List PV},Jgm a b=true->a=b
 |[],[],_=>rfl
 |p::r,q::s,h=>by
  simp only[Jgm,Bool.and_eq_true]at h
  rw[JIR h.1,Juz h.2]
 |[],_::_,h=>by cases h
 |_::_,[],h=>by cases h
def vB(v z:Value): Bool :=
 match v,z with
 |.int k a,.int k' b=>decide (k=k')&&decide (a=b)
 |.bool a,.bool b=>decide (a=b)
 |.string s,.string s'=>decide (s.data.toList=s'.data.toList)
 |.float k a,.float k' b=>decide (k=k')&&decide (a=b)
 |.slice none a b,.slice none a' b'=>decide (a=a')&&decide (b=b')
 |_,_=>false
theorem Jw0{v z:Value}(h:vB v z=true): v=z:=by
 unfold vB at h
 split at h
 ·simp only[Bool.and_eq_true,decide_eq_true_eq]at h;rw[h.1,h.2]
 ·simp only[decide_eq_true_eq]at h;rw[h]
 ·next s s' =>
  simp only[decide_eq_true_eq]at h
  obtain⟨⟨a⟩⟩:=s;obtain⟨⟨b⟩⟩:=s'
  cases h;rfl
 ·simp only[Bool.and_eq_true,decide_eq_true_eq]at h;rw[h.1,h.2]
 ·simp only[Bool.and_eq_true,decide_eq_true_eq]at h;rw[h.1,h.2]
 ·cases h
def vsB:List Value->List Value->Bool
 |[],[]=>true
 |p::r,q::s=>vB p q&&vsB r s
 |_,_=>false
theorem Jvj:∀ {a b:List Value},vsB a b=true->a=b
 |[],[],_=>rfl
 |p::r,q::s,h=>by
  simp only[vsB,Bool.and_eq_true]at h
  rw[Jw0 h.1,Jvj h.2]
 |[],_::_,h=>by cases h
 |_::_,[],h=>by cases h
def Jwj(ti:TI)(z:List Value): Bool :=
 match ti.kd with
 |none=>true
 |some K=>(decide (0<K.sz)&&decide (K.sz=ti.size))&&vsB z (JaY K)
def shB(ti:TI)(z:Value): Bool :=
 match ti.k with
 |.struct=>match z with
  |.agg _=>true
  |_=>false
 |.int k=>vB z (.int k 0)
 |_=>match z with
  |.agg _=>false
  |_=>true
def mdB(P:Program)(ti:TI)(d:TypeDesc): Bool :=
 match ti.k,d with
 |.int k,.int k'=>decide (k=k')
 |.bool,.bool=>true
 |.str,.string=>true
 |.flt,.float k=>decide (k = .f64)
 |.slice,.slice e=>decide (e=ti.el)
 |.ptr,.pointer e=>decide (e=ti.el)
 |.struct,.struct fs=>decide (fs.toList.map (fun f=>(f.offset,f.type))=ti.fs)&&Jm9 P fs
 |.iface,.interface _=>true
 |.map,.map kt e=>decide (e=ti.el)&&(match P.underlying kt with|some .string=>true|_=>false)
 |.other,d=>match d with
  |.struct _=>false
  |.array _ _=>false
  |.interface _=>false
  |_=>true
 |_,_=>false
def tiB(P:Program)(t:TypeId)(ti:TI): Bool :=
 match P.info? t,P.underlying t with
 |some i,some d=>match i.zero with
  |some z=>decide (i.size=ti.size)&&(decide (i.bytes=ti.bytes)&&(Jgm (z.cells.toList.map cv) ti.zero&&(decide (z.cells.size=ti.size)&&(Jwj ti z.cells.toList&&(shB ti z&&(mdB P ti d&&(!ti.eqs || (match ti.k with | .struct=>JaH P t|_=>true))))))))
  |none=>false
 |_,_=>false
theorem TiOk.ofB{t:TypeId}{ti:TI}(h:tiB P t ti=true): TiOk P t ti:=by
 unfold tiB at h
 split at h
 ·next i d hi hd =>
  split at h
  ·next z hz =>
   simp only[Bool.and_eq_true,decide_eq_true_eq]at h
   obtain⟨h1,h2,h3,h4,h5,h6,h7,h8⟩:=h
   refine TiOk.of (z:=z) (d:=d) (by rw[hi];simp only[Option.map_some,h1,h2,hz]) (Juz h3) h4 ?_ ?_ ?_ hd ?_
   ·unfold Jwj at h5
    unfold kdB
    split at h5
    ·trivial
    ·next K hK =>
     simp only[Bool.and_eq_true]at h5 ⊢
     exact⟨h5.1,Jvj h5.2⟩
   ·unfold shB at h6
    revert h6
    cases ti.k<;>simp only[]<;>intro h6
    ·exact Jw0 h6
    all_goals (cases z<;>first|(cases h6;done)|rfl|exact⟨_,rfl⟩)
   ·unfold mdB at h7
    revert h7
    cases ti.k<;>cases d<;>simp only[]<;>intro h7<;>first
     |(cases h7;done)
     |trivial
     |(simp only[decide_eq_true_eq]at h7;rw[h7])
     |exact⟨_,rfl⟩
     |(simp only[Bool.and_eq_true,decide_eq_true_eq]at h7;exact⟨_,rfl,h7.1,h7.2⟩)
     |(simp only[Bool.and_eq_true,decide_eq_true_eq]at h7
       obtain⟨a,b⟩:=h7
       subst a
       refine⟨_,rfl,?_⟩
       split at b
       ·assumption
       ·cases b)
   ·intro he hk
    rw[he]at h8
    simp only[hk,Bool.not_true,Bool.false_or]at h8
    exact h8
  ·cases h
 ·cases h
def Jne(P:Program): List (Nat×TI)->Bool
 |[]=>true
 |(t,ti)::r=>tiB P t ti&&Jne P r
theorem JHo:∀ {l:List (Nat×TI)},Jne P l=true->Qg P (Jx l):=fun {l} h=>JI8 (by
 induction l with
 |nil=>exact JI9
 |cons x r ih =>
  obtain⟨t,ti⟩:=x
  simp only[Jne,Bool.and_eq_true]at h
  exact all_cons (.ofB h.1) (ih h.2))
abbrev kI:Kd := .int .i64
abbrev zI:PV := .v kI 0
abbrev zB:PV := .v .bool false
abbrev zS:PV := .v .str []
end
section
open Go
def at_:List Nat->Code->Code
 |[],c=>c
 |0::p,.seq a _=>at_ p a
 |_::p,.seq _ b=>at_ p b
 |0::p,.cond _ a _=>at_ p a
 |_::p,.cond _ _ b=>at_ p b
 |_::p,.block _ b=>at_ p b
 |_::p,.scope b=>at_ p b
 |_::p,.loop b=>at_ p b
 |_,c=>c
def J2B(cx:Ctx)(k:Nat){R:Type}(I:Nat->St->Option R): List Nat->Code->(Ex->St->Option R)->(Ex->St->Option R)
 |[],_,K=>K
 |0::p,.seq a b,K=>J2B cx k I p a (Jwh (QR cx k b) K)
 |_::p,.seq _ b,K=>J2B cx k I p b K
 |0::p,.cond _ a _,K=>J2B cx k I p a K
 |_::p,.cond _ _ b,K=>J2B cx k I p b K
 |_::p,.block id b,K=>J2B cx k I p b (Jmw id K)
 |_::p,.scope b,K=>J2B cx k I p b K
 |_::p,.loop b,K=>J2B cx k I p b (JmT cx.pv (Jx cx.cuts (1000+J2p b)) (I (1000+J2p b)) K)
 |_,_,K=>K
theorem DoesTo.mono{P:Program}{f:FuncId}{ps:List PV}{hp:List (Nm×HObj)}{O O':Out->Prop}(h:DoesTo P f ps hp O)(ho:∀ out,O out->O' out): DoesTo P f ps hp O' :=
 fun G w vals h1 h2 h3=>(h G w vals h1 h2 h3).mono fun e w' ⟨out,h4,h5⟩=>⟨out,ho out h4,h5⟩
def Jnf:List (Nm×HObj)->Bool
 |[]=>true
 |(_,.mp _ _ _)::_=>false
 |_::r=>Jnf r
theorem Jar:∀ {hp:List (Nm×HObj)},Jnf hp=true->∀ {n:Nm} {ag:MK} {V:Kd} {es:List (List UInt8×V.T)},Jx hp n=some (.mp ag V es)->False
 |[],_,n,ag,V,es,hl=>by cases hl
 |(m,.mp _ _ _)::r,h,n,ag,V,es,hl=>by simp[Jnf]at h
 |(m,.var t cs)::r,h,n,ag,V,es,hl=>by
  rw[Jx]at hl
  cases hb:Nat.beq m n with
  |true=>rw[hb]at hl;cases hl
  |false=>rw[hb]at hl;exact Jar (hp:=r) h hl
 |(m,.row e K xs)::r,h,n,ag,V,es,hl=>by
  rw[Jx]at hl
  cases hb:Nat.beq m n with
  |true=>rw[hb]at hl;cases hl
  |false=>rw[hb]at hl;exact Jar (hp:=r) h hl
end
section
open Go
def JuA(h:Je)(G:Gh)(w:World): PV->FrameMode->FrameMode->Prop
 |.nilif,u,u1=>u = .returning∧u1 = .returning
 |.ifc t p,u,u1=>∃ v,RV h G w (.ifc t p) v∧u = .panicking [{ v,recovered:=false }]∧u1 = .panicking [{ v,recovered:=true }]
 |_,_,_=>False
def DoesToD(P:Program)(g:FuncId)(rec:PV)(caps:List PV)(hp:List (Nm×HObj))(O:Out->Prop): Prop :=
 ∀(G:Gh) (w:World) (vals:List Value) (u u1:FrameMode),RVs (mkH hp) G w caps vals->JuA (mkH hp) G w rec u u1->(∀ n o,mkH hp n=some o->RO (mkH hp) G w n o)->Dis (mkH hp) G w ->
  CallsD P g vals.toArray u w fun e u' w'=>u'=u1∧∃ out,O out∧∃ G',J2A G' w' e out∧Fin hp out.hs G w G' w'
theorem DoesToD.mono{P:Program}{g:FuncId}{rec:PV}{caps:List PV}{hp:List (Nm×HObj)}{O O':Out->Prop}(h:DoesToD P g rec caps hp O)(ho:∀ out,O out->O' out): DoesToD P g rec caps hp O' :=
 fun G w vals u u1 h1 h2 h3 h4=>(h G w vals u u1 h1 h2 h3 h4).mono fun e u' w' ⟨h5,out,h6,h7⟩=>⟨h5,out,ho out h6,h7⟩
noncomputable def ZK(cx:Ctx)(k:Nat){R:Type}(c:Code)(n:Nat)(rs:List ResultVar)(sp:RetSpec)(caps:List PV)(s:Nat)(rec:PV)(hp:List (Nm×HObj))(K:Out->Option R): Option R :=
 bif YX cx.pv hp&&Nat.ble caps.length n&&Nat.blt s n then QR cx k c ⟨upd (J8R caps) s rec,mkH hp⟩ (J93 cx sp rs K)else none
def Zk:Code->Array Oper
 |.region _ ops _=>ops
 |_ => #[]
def JmA(ops:List Oper): Option Nat :=
 match ops with
 |[o]=>match o.guard,o.dst,o.op with
  |none,some s,.call { callee := .builtin .recover,args,.. }=>bif Nat.beq args.size 0 then some s else none
  |_,_,_=>none
 |_=>none
theorem JEG{ops:Array Oper}{s:Nat}(h:JmA ops.toList=some s): ∃ o ats,ops = #[o]∧o.guard=none∧o.dst=some s∧o.op = .call { callee := .builtin .recover,args := #[],argTypes:=ats }:=by
 unfold JmA at h
 split at h
 ·next o hl =>
  split at h
  ·next e1 e2 e3 =>
   next args _ =>
   cases hb:Nat.beq args.size 0 with
   |false=>rw[hb]at h;cases h
   |true =>
    rw[hb,cond_true]at h
    cases h
    have ha:args = #[]:=Array.eq_empty_of_size_eq_zero (Qj.1 hb)
    subst ha
    exact⟨o,_,by apply Array.ext';simpa using hl,e1,e2,e3⟩
  ·cases h
 ·cases h
def JlE(ops:List Oper): Option (Nat×FuncId×List Operand) :=
 match ops with
 |[o1,o2]=>match o1.guard,o2.guard,o1.dst,o2.dst with
  |none,none,some s,none=>match o1.op,o2.op with
   |.makeFunc (.func g) first caps,.defer { callee := .value (.tmp s'),args,.. }=>bif Nat.beq first.size 0&&Nat.beq s' s&&Nat.beq args.size 0 then some (s,g,caps.toList)else none
   |_,_=>none
  |_,_,_,_=>none
 |_=>none
def JaM(st:St): List Operand->List (Nm×Nat)->Bool
 |[],[]=>true
 |x::xs,(n,off)::r=>(match QG [] (st.get x)with | .ptr m o=>Nat.beq m n&&Nat.beq o off|_=>false)&&JaM st xs r
 |_,_=>false
def JaZ(st:St)(pv:List Nm): List (Nm×Nat)->Bool
 |[]=>true
 |(n,_)::r=>QV n pv&&(match st.h n with|some (.var _ _)=>true|_=>false)&&JaZ st pv r
def J1P:List (Nm×Nat)->List PV
 |[]=>[]
 |(n,off)::r => .ptr n off::J1P r
def J5x(ks:List Nat): List ResultVar->Bool
 |[]=>true
 |.tmp t::r=>QV t ks&&J5x ks r
 |.cell a _::r=>QV a ks&&J5x ks r
def Jvk(pan:Bool): PV->Bool
 |.nilif => !pan
 |.ifc _ _=>pan
 |_=>false
noncomputable def Jba(cx:Ctx){R:Type}(runD:PV->List PV->List (Nm×HObj)->(Out->Option R)->Option R)(sigD:List LS)(caps:List (Nm×Nat))(sp:RetSpec)(rs:List ResultVar)(K:Out->Option R)(pan:Bool)(rec:PV)(st:St): Option R :=
 match normPs st.h ⟨[],[],[],[]⟩ (.any::sigD) (rec::J1P caps)with
 |some (q::ps,na)=>bif J1M na&&Jvk pan q then runD q ps na.hp fun o=>match o with
  |.ret _ hs=>match Jbh st 9000 na hs (J5D hs)with
   |some st'=>J1O cx sp rs st' K
   |none=>none
  |.pan _ _=>none
  else none
 |_=>none
noncomputable def JJP(cx:Ctx){R:Type}(runD:PV->List PV->List (Nm×HObj)->(Out->Option R)->Option R)(sigD:List LS)(caps:List (Nm×Nat))(sp:RetSpec)(rs:List ResultVar)(K:Out->Option R): Ex->St->Option R:=fun e st=>match e with
 |.normal=>Jba cx runD sigD caps sp rs K false .nilif st
 |.ret=>Jba cx runD sigD caps sp rs K false .nilif st
 |.panic p=>Jba cx runD sigD caps sp rs K true p st
 |.exit _=>none
def Jng:List Code->Code->Code
 |[],b=>b
 |p::r,b => .seq p (Jng r b)
def Jnh{R:Type}(ex:Ctx->Code->St->(Ex->St->Option R)->Option R)(cx:Ctx)(KN KR:St->Option R): List Code->St->Option R
 |[],st=>KN st
 |p::r,st=>ex cx p st fun e st=>match e with
  |.normal=>Jnh ex cx KN KR r st
  |.ret=>KR st
  |_=>none
def Jwk {R:Type} (ex:Ctx->Code->St->(Ex->St->Option R)->Option R) (cx:Ctx) (pv2:List Nm) (pre:List Code) (ops:Array Oper) (rest:Code) (n:Nat) (rs:List ResultVar) (sp:RetSpec)
 (runD:PV->List PV->List (Nm×HObj)->(Out->Option R)->Option R) (sigD:List LS) (caps:List (Nm×Nat)) (args:List PV) (hp:List (Nm×HObj)) (K:Out->Option R):Option R :=
 bif YX cx.pv hp&&Nat.ble args.length n&&J2H cx.pv pv2&&J5x cx.keep rs then
  Jnh ex cx (fun st=>match JlE ops.toList with
   |some (s,g,xs)=>bif JaM st xs caps&&JaZ st pv2 caps&&Nat.blt s n then
    ex { cx with pv:=pv2 } rest ⟨upd st.t s (.clo g (J1P caps)),st.h⟩ (JJP cx runD sigD caps sp rs K)
    else none
   |none=>none) (fun st=>J1O cx sp rs st K) pre ⟨J8R args,mkH hp⟩
 else none
def J3L (cx:Ctx) (k:Nat) {R:Type} (pv2:List Nm) (pre:List Code) (ops:Array Oper) (rest:Code) (n:Nat) (rs:List ResultVar) (sp:RetSpec)
 (runD:PV->List PV->List (Nm×HObj)->(Out->Option R)->Option R) (sigD:List LS) (caps:List (Nm×Nat)) (args:List PV) (hp:List (Nm×HObj)) (K:Out->Option R):Option R :=
 Jwk (fun cx c st K=>QR cx k c st K) cx pv2 pre ops rest n rs sp runD sigD caps args hp K
section
variable {P:Program} {w0:World} {fr:Nat->Prop} {X0:Org} {n:Nat} {ds:List Deferred} {st:St} {G:Gh} {a:Act} {w:World}
theorem Jwl{a b:Nat}(h:Nat.blt a b=true): a<b:=Nat.le_of_ble_eq_true h
theorem J8C {cx:Ctx} (X:cx.Ok P) (hm:P.follows .mixedOrders=true) {f:FuncId} {fn:Func} {id:Nat} {ops:Array Oper} {c:Code} (hfn:P.funcs[f]? = some fn) (hb:fn.body=some (.seq (.region id ops false) c))
 {s:Nat} (hops:JmA ops.toList=some s) {rs:List ResultVar} (hrs:fn.results.toList=rs) (hco:Yq fn.ntmps c=true)
 {k:Nat} {R0:Type} {sp:RetSpec} {caps:List PV} {rec:PV} {hp:List (Nm×HObj)} {K:Out->Option R0} {r:R0} (he:ZK cx k c fn.ntmps rs sp caps s rec hp K=some r):DoesToD P f rec caps hp fun out=>K out=some r:=by
 intro G w vals u u1 hr hmode obj dis
 obtain⟨o,ats,hops,hg,hds,hop⟩:=JEG hops
 unfold ZK at he
 cases hc1:(YX cx.pv hp&&Nat.ble caps.length fn.ntmps&&Nat.blt s fn.ntmps)with
 |false=>rw[hc1]at he;cases he
 |true =>
  rw[hc1,cond_true]at he
  simp only[Bool.and_eq_true]at hc1
  obtain⟨⟨hc0,hc2⟩,hc3⟩:=hc1
  have R:=Rel.start hr obj dis (Nat.le_of_ble_eq_true hc2)
  have hf:∀ b,J1g hp G w b->b<w.heap.size:=fun b hb=>hb.1
  have hpv:∀ x∈(J0x hp G).vs,x.1∈cx.pv:=fun x hx=>J8v hc0 x (List.mem_filter.1 hx).1
  have hret:∀ {st:St} {G':Gh} {a:Act} {w':World},J1O cx sp rs st K=some r->Rel w (J1g hp G w) (J0x hp G) fn.ntmps [] st G' a w'->∃ v,(results fn a.tmps).run P w' = .ok v w'∧∃ out,K out=some r∧∃ G'',J2A G'' w' (.returned v) out∧Fin hp out.hs G w G'' w':=by
   intro st G' a w' he R
   unfold J1O at he
   split at he
   ·cases he
   ·next ps hps =>
    obtain⟨vs,h1,h2⟩:=J8A X R rs hps
    obtain⟨qs,hs,G'',h3,h4,h5⟩:=J8B R hc0 h1 he
    exact⟨_,JeK hrs h2,.ret qs hs,h3,G'',⟨_,rfl,JfM h4⟩,h5⟩
  refine callsD_of_wpS hfn hb fun c₀ cs hu => ?_
  refine wpS_seq (wpS_region ?_)
  subst hops
  have hwant:Region.wanted o (yielded #[o] (vals.toArray++Array.replicate (fn.ntmps-vals.toArray.size) undef))=true:=by simp[Region.wanted,hg]
  have hrun:∀ ρ : Operand->Value,(execOp ρ o).run P w = .ok .recover w:=by
   intro ρ
   simp[execOp,hop,resolve,invoke,builtin]
  have key:∀(v:Value) (cs':List Frame),RV (mkH hp) G w rec v->cs'={ c₀ with mode:=u1 }::cs ->
   Exit.thenS (c.wpS P (bodyPostS P fn c₀ cs fun e u' w'=>u'=u1∧∃ out,K out=some r∧∃ G',J2A G' w' e out∧Fin hp out.hs G w G' w')) (bodyPostS P fn c₀ cs fun e u' w'=>u'=u1∧∃ out,K out=some r∧∃ G',J2A G' w' e out∧Fin hp out.hs G w G' w') .normal
    (({ tmps:=vals.toArray++Array.replicate (fn.ntmps-vals.toArray.size) undef,defers:=[] }:Act).put o.dst v) cs' w:=by
   rintro v cs' hv rfl
   show c.wpS _ _ _ _ _
   rw[hds]
   have R2:=R.putV hf (d:=some s) (fun i hi=>by cases hi;exact Jwl hc3) hv
   refine wpS_of_wp (wp_mono (Zf X hpv hm k hf c hco he R2) fun e a w' h => ?_)
   cases e with
   |normal =>
    obtain⟨st,G',h1,h2⟩:=h
    obtain⟨v,h3,h4⟩:=hret h1 h2
    exact⟨h2.defers,u1,rfl,v,h3,rfl,h4⟩
   |ret =>
    obtain⟨st,G',h1,h2⟩:=h
    obtain⟨v,h3,h4⟩:=hret h1 h2
    exact⟨h2.defers,u1,rfl,v,h3,rfl,h4⟩
   |panic ch =>
    obtain⟨st,G',a0,p,v,rfl,h1,h2,h3,h4,_⟩:=h
    refine⟨h4.trans h2.defers,u1,rfl,rfl,?_⟩
    simp only[J93]at h1
    unfold Jnd at h1
    obtain⟨qs,hs,G'',h5,h6,h7⟩:=J8B h2 hc0 (ps:=[p]) (vs:=[v]) ⟨v,[],rfl,h3,rfl⟩ h1
    split at h5
    ·next q =>
     obtain⟨u,l,hu,h8,h9⟩:=h6
     cases hu
     exact⟨.pan q hs,h5,G'',⟨v,rfl,h8⟩,h7⟩
    ·cases h5
   |exit i=>obtain⟨st,G',h1,h2⟩:=h;cases h1
   |goto l=>exact h
   |outgrown=>exact h.elim
  show wpOpsS P #[o] _ [0] _ _ _
  simp only[wpOpsS,List.getElem?_toArray,List.getElem?_cons_zero,hwant,if_true,hrun]
  cases rec with
  |nilif =>
   obtain⟨rfl,rfl⟩:=hmode
   have hrec:recoverD (c₀ :: cs)=none:=by simp[recoverD,hu]
   rw[hrec]
   refine key .nilIface (c₀ :: cs) rfl ?_
   cases c₀;simp_all
  |ifc t p =>
   obtain⟨v,hv,rfl,rfl⟩:=hmode
   have hrec:recoverD (c₀ :: cs)=some (v,{ c₀ with mode := .panicking [{ v,recovered:=true }] }::cs):=by simp[recoverD,hu]
   rw[hrec]
   exact key v _ hv rfl
  |_=>exact hmode.elim
theorem JkC{ks:List Nat}{a a0:Act}(h:∀ i∈ks,JW a i=JW a0 i): ∀ {rs:List ResultVar},J5x ks rs=true->rs.mapM (J0C a.tmps)=rs.mapM (J0C a0.tmps)
 |[],_=>rfl
 |.tmp t::r,hk=>by
  simp only[J5x,Bool.and_eq_true]at hk
  have e1:a.tmps.getD t undef=a0.tmps.getD t undef:=h t (UC.1 hk.1)
  rw[List.mapM_cons,List.mapM_cons,JkC h hk.2]
  simp only[J0C,e1]
 |.cell x t::r,hk=>by
  simp only[J5x,Bool.and_eq_true]at hk
  have e1:a.tmps.getD x undef=a0.tmps.getD x undef:=h x (UC.1 hk.1)
  rw[List.mapM_cons,List.mapM_cons,JkC h hk.2]
  simp only[J0C,e1]
theorem Jsl(R:Rel w0 fr X0 n ds st G a w): ∀(xs:List Operand) (caps:List (Nm×Nat)),JaM st xs caps=true->RVs st.h G w (J1P caps) (xs.map a.eval)
 |[],[],_=>rfl
 |[],_::_,h=>by cases h
 |x::xs,[],h=>by cases h
 |x::xs,(m,off)::r,h=>by
  simp only[JaM,Bool.and_eq_true]at h
  obtain⟨h1,h2⟩:=h
  refine⟨a.eval x,xs.map a.eval,rfl,?_,Jsl R xs r h2⟩
  have:=R.use J3x x
  split at h1
  ·next m' o' hx =>
   rw[hx]at this
   simp only[Bool.and_eq_true]at h1
   rw[Qj.1 h1.1,Qj.1 h1.2]at this
   exact this
  ·cases h1
theorem Jt9{pv:List Nm}: ∀ {caps:List (Nm×Nat)},JaZ st pv caps=true->∀ x∈caps,x.1∈pv∧∃ t cs,st.h x.1=some (.var t cs)
 |[],_,x,hx=>by cases hx
 |(m,off)::r,h,x,hx=>by
  simp only[JaZ,Bool.and_eq_true]at h
  obtain⟨⟨h1,h2⟩,h3⟩:=h
  rcases List.mem_cons.1 hx with rfl|hx
  ·refine⟨UC.1 h1,?_⟩
   split at h2
   ·next t cs ht=>exact⟨t,cs,ht⟩
   ·cases h2
  ·exact Jt9 h3 x hx
def Jb0(h:Je)(n:Nm): TypeId:=match h n with|some (.var t _)=>t|_=>0
def J8K(st:St)(G:Gh): List (Nm×Nat)->List (Nm×TypeId×Nat)
 |[]=>[]
 |(n,_)::r=>(n,Jb0 st.h n,G.bk n)::J8K st G r
theorem JkD{st:St}{G:Gh}: ∀ {caps:List (Nm×Nat)} {x},x∈J8K st G caps->∃ y∈caps,x=(y.1,Jb0 st.h y.1,G.bk y.1)
 |[],x,h=>by cases h
 |(n,off)::r,x,h=>by
  rw[J8K]at h
  rcases List.mem_cons.1 h with rfl|h
  ·exact⟨_,List.mem_cons_self,rfl⟩
  ·obtain⟨y,hy,e⟩:=JkD h
   exact⟨y,List.mem_cons_of_mem _ hy,e⟩
theorem Jta{st:St}{G:Gh}: ∀ {caps:List (Nm×Nat)} {y},y∈caps->(y.1,Jb0 st.h y.1,G.bk y.1)∈J8K st G caps
 |(n,off)::r,y,h=>by
  rw[J8K]
  rcases List.mem_cons.1 h with rfl|h
  ·exact List.mem_cons_self
  ·exact List.mem_cons_of_mem _ (Jta h)
theorem Jsm{st0:St}{G0:Gh}{w0':World}: ∀ {caps:List (Nm×Nat)} {vals:List Value},RVs st0.h G0 w0' (J1P caps) vals->(∀ y∈caps,(∃ t cs,st.h y.1=some (.var t cs))∧G.bk y.1=G0.bk y.1)->RVs st.h G w (J1P caps) vals
 |[],vals,hr,_=>hr
 |(m,off)::r,vals,⟨v,l,e,hv,hl⟩,h=>by
  obtain⟨rfl,_⟩:=hv
  obtain⟨⟨t,cs,h1⟩,h2⟩:=h (m,off) List.mem_cons_self
  exact⟨_,l,e,⟨by rw[h2],t,cs,h1⟩,Jsm hl fun y hy=>h y (List.mem_cons_of_mem _ hy)⟩
theorem JIb{l r:List Nat}(h:J2H l r=true): ∀ x∈l,x∈r:=by
 induction l with
 |nil=>intro x hx;cases hx
 |cons n l ih =>
  simp only[J2H,Bool.and_eq_true]at h
  intro x hx
  rcases List.mem_cons.1 hx with rfl|hx
  ·exact UC.1 h.1
  ·exact ih h.2 x hx
def Invokes(P:Program)(g:FuncId): Prop:=∀(cap:Array Value) (w:World),(invoke (.fn (.func g) cap) #[]).run P w = .ok (.enter g cap) w
theorem Invokes.of{f:FuncId}{fn:Func}{c:Code}(hfn:P.funcs[f]? = some fn)(hb:fn.body=some c)(hname:(fn.name == "runtime.NumGoroutine")=false): Invokes P f:=by
 intro cap w
 have hn2:¬ fn.name = "runtime.NumGoroutine" := by simpa using hname
 simp[invoke,callFunc,program,Sem.run,hfn,hn2,hb]
theorem JuB{cx:Ctx}(X:cx.Ok P)(hpv:∀ x∈X0.vs,x.1∈cx.pv)(hm:P.follows .mixedOrders=true)(k:Nat)(hf:∀ b,fr b->b<w0.heap.size){R0:Type}{KN KR:St->Option R0}{r:R0}{b:Code}{Q:Exit->Act->World->Prop}:
 ∀(pre:List Code),(pre.all fun c=>Yq n c)=true->∀ {st:St} {G:Gh} {a:Act} {w:World},Jnh (fun cx c st K=>QR cx k c st K) cx KN KR pre st=some r->Rel w0 fr X0 n ds st G a w ->
  (∀ {st:St} {G:Gh} {a:Act} {w:World},KN st=some r->Rel w0 fr X0 n ds st G a w->b.wp P Q a w)->(∀ {st:St} {G:Gh} {a:Act} {w:World},KR st=some r->Rel w0 fr X0 n ds st G a w->Q .ret a w)->(Jng pre b).wp P Q a w
 |[],_,st,G,a,w,he,R,hN,_=>hN he R
 |p::l,hc,st,G,a,w,he,R,hN,hR=>by
  simp only[List.all_cons,Bool.and_eq_true]at hc
  refine wp_seq (wp_mono (Zf X hpv hm k hf p hc.1 he R) fun e a1 w1 h => ?_)
  cases e with
  |exit i=>obtain⟨st,G',h1,h2⟩:=h;cases h1
  |ret=>obtain⟨st,G',h1,h2⟩:=h;exact hR h1 h2
  |panic ch=>obtain⟨st,G',a0,p,v,rfl,h1,h2⟩:=h;cases h1
  |goto l=>exact h.elim
  |outgrown=>exact h.elim
  |normal=>obtain⟨st,G',h1,h2⟩:=h;exact JuB X hpv hm k hf l hc.2 h1 h2 hN hR
theorem Jma {cx:Ctx} (X:cx.Ok P) (hm:P.follows .mixedOrders=true) {f:FuncId} {fn:Func} {pre:List Code} {rest:Code} {id:Nat} {ops:Array Oper} (hfn:P.funcs[f]? = some fn) (hb:fn.body=some (Jng pre (.seq (.region id ops false) rest)))
 (hname:(fn.name == "runtime.NumGoroutine")=false) {rs:List ResultVar} (hrs:fn.results.toList=rs) (hco:(pre.all fun c=>Yq fn.ntmps c)=true) (hco2:Yq fn.ntmps rest=true)
 {g:FuncId} {s:Nat} {xs:List Operand} (hops:JlE ops.toList=some (s,g,xs))
 {k:Nat} {R0:Type} {sp:RetSpec} {pv2:List Nm} {runD:PV->List PV->List (Nm×HObj)->(Out->Option R0)->Option R0} {sigD:List LS} {caps:List (Nm×Nat)}
 (hinv:Invokes P g) (hrunD:∀ rec ps hp (K:Out->Option R0) (r:R0),runD rec ps hp K=some r->DoesToD P g rec ps hp fun out=>K out=some r)
 {args:List PV} {hp:List (Nm×HObj)} {K:Out->Option R0} {r:R0} (he:J3L cx k pv2 pre ops rest fn.ntmps rs sp runD sigD caps args hp K=some r):DoesTo P f args hp fun out=>K out=some r:=by
 intro G w vals hr obj dis
 unfold J3L Jwk at he
 cases hc1:(YX cx.pv hp&&Nat.ble args.length fn.ntmps&&J2H cx.pv pv2&&J5x cx.keep rs)with
 |false=>rw[hc1]at he;cases he
 |true =>
  rw[hc1,cond_true]at he
  simp only[Bool.and_eq_true]at hc1
  obtain⟨⟨⟨hc0,hc2⟩,hsub⟩,hkeep⟩:=hc1
  have hrun:(callFunc f vals.toArray).run P w = .ok (.enter f vals.toArray) w:=by
   have hn2:¬ fn.name = "runtime.NumGoroutine" := by simpa using hname
   simp[callFunc,program,Sem.run,hfn,hn2,hb]
  unfold Does
  rw[hrun]
  have R:=Rel.start hr obj dis (Nat.le_of_ble_eq_true hc2)
  have hf:∀ b,J1g hp G w b->b<w.heap.size:=fun b hb=>hb.1
  have hpv:∀ x∈(J0x hp G).vs,x.1∈cx.pv:=fun x hx=>J8v hc0 x (List.mem_filter.1 hx).1
  refine calls_of_wp_defers hfn hb (JuB X hpv hm k hf pre hco he R (fun {st1 G1 a1 w1} h1 R1 => ?_) fun {st1 G1 a1 w1} h1 R1 => ?_)
  case refine_2 =>
   show Leaves P fn a1.tmps _ a1.defers .returning w1
   rw[R1.defers]
   unfold J1O at h1
   split at h1
   ·cases h1
   ·next ps2 hps2 =>
    obtain⟨vs,g1,g2⟩:=J8A X R1 rs hps2
    obtain⟨qs,hs2,G'',g3,g4,g5⟩:=J8B R1 hc0 g1 h1
    exact⟨_,JeK hrs g2,.ret qs hs2,g3,G'',⟨_,rfl,JfM g4⟩,g5⟩
  case refine_1 =>
   simp only[hops]at h1
   cases hc3:(JaM st1 xs caps&&JaZ st1 pv2 caps&&Nat.blt s fn.ntmps)with
   |false=>rw[hc3]at h1;cases h1
   |true =>
    rw[hc3,cond_true]at h1
    simp only[Bool.and_eq_true]at hc3
    obtain⟨⟨hca,hci⟩,hs⟩:=hc3
    have hcaps:=Jsl R1 xs caps hca
    have hcin:=Jt9 hci
    have hsh:∃ o1 o2 first cps args ats s',ops.toList=[o1,o2]∧o1.guard=none∧o2.guard=none∧o1.dst=some s∧o2.dst=none∧o1.op = .makeFunc (.func g) first cps∧o2.op = .defer { callee := .value (.tmp s'),args:=args,argTypes:=ats }∧first = #[]∧s'=s∧args = #[]∧cps.toList=xs:=by
     unfold JlE at hops
     split at hops
     ·next o1 o2 hl =>
      split at hops
      ·next e1 e2 e3 e4 =>
       split at hops
       ·next g' first cps s1 args ats e5 e6 =>
        cases hbb:(Nat.beq first.size 0&&Nat.beq s1 _&&Nat.beq args.size 0)with
        |false=>rw[hbb]at hops;cases hops
        |true =>
         rw[hbb,cond_true]at hops
         cases hops
         simp only[Bool.and_eq_true]at hbb
         exact⟨o1,o2,first,cps,args,_,s1,hl,e1,e2,e3,e4,e5,e6,Array.eq_empty_of_size_eq_zero (Qj.1 hbb.1.1),Qj.1 hbb.1.2,Array.eq_empty_of_size_eq_zero (Qj.1 hbb.2),rfl⟩
       ·cases hops
      ·cases hops
     ·cases hops
    obtain⟨o1,o2,first,cps,args',ats,s',hl,g1,g2,d1,d2,p1,p2,rfl,rfl,rfl,hx⟩:=hsh
    have hs:=Jwl hs
    have hsz:=R1.size
    let F:Value := .func (.func g) #[] (cps.map a1.eval)
    let d:Deferred:={ target := .fn (.func g) (cps.map a1.eval),args := #[] }
    let a2:Act:={ (a1.put (some s') F)with defers:=d::a1.defers }
    have hcapsA:RVs st1.h G1 w1 (J1P caps) (cps.map a1.eval).toList:=by rw[Array.toList_map,hx];exact hcaps
    let X0':Org:=⟨(J0x hp G).X,J8K st1 G1 caps++(J0x hp G).vs⟩
    have R2:Rel w (J1g hp G w) X0' fn.ntmps [d] ⟨upd st1.t s' (.clo g (J1P caps)),st1.h⟩ G1 a2 w1:=by
     have:=R1.putV hf (d:=some s') (fun i hi=>by cases hi;exact hs) (p := .clo g (J1P caps)) (v:=F) ⟨(cps.map a1.eval).toList,by simp only[F,Array.toArray_toList],hcapsA⟩
     refine⟨this.tm,this.size,this.obj,this.dis,this.apart,this.xfr,this.xeq,fun x hx => ?_,this.ext,this.grow,this.os,this.tape,this.out,by simp[a2,R1.defers]⟩
     rcases List.mem_append.1 hx with hx|hx
     ·obtain⟨y,hy,rfl⟩:=JkD hx
      obtain⟨_,t,cs,ht⟩:=hcin y hy
      exact⟨⟨cs,by simp only[Jb0];rw[show st1.h y.1=_ from ht]⟩,rfl⟩
     ·exact this.org x hx
    have hpv2:∀ x∈X0'.vs,x.1∈pv2:=by
     intro x hx
     rcases List.mem_append.1 hx with hx|hx
     ·obtain⟨y,hy,rfl⟩:=JkD hx
      exact(hcin y hy).1
     ·exact JIb hsub _ (hpv x hx)
    have X2:Ctx.Ok P { cx with pv:=pv2 }:=⟨X.ty,X.C,X.sh⟩
    have fin:∀ {pan:Bool} {rec:PV} {v:Value} {st:St} {G':Gh} {a b:Act} {w':World},rs.mapM (J0C b.tmps)=rs.mapM (J0C a.tmps)->b.defers=a.defers->Jba cx runD sigD caps sp rs K pan rec st=some r->Rel w (J1g hp G w) X0' fn.ntmps [d] st G' a w'->RV st.h G' w' rec v ->
     Leaves P fn b.tmps (fun e w'=>∃ out,K out=some r∧∃ G',J2A G' w' e out∧Fin hp out.hs G w G' w') b.defers (bif pan then .panicking [{ v,recovered:=false }]else .returning) w':=by
     intro pan rec v st G' a b w' hbm hbd he R3 hv
     rw[hbd,R3.defers]
     refine leaves_cons (f:=g) (args:=cps.map a1.eval) (by cases pan<;>simp) (hinv _ _) ?_
     unfold Jba at he
     split at he
     ·next q ps na hn =>
      cases hfi:(J1M na&&Jvk pan q)with
      |false=>rw[hfi]at he;cases he
      |true =>
       rw[hfi,cond_true]at he
       simp only[Bool.and_eq_true]at hfi
       obtain⟨hfi,hmo⟩:=hfi
       have hc:=hrunD _ _ _ _ _ he
       have F0:Found st.h ⟨[],[],[],[]⟩:=⟨fun k o hk=>(by cases hk),fun m hm=>(by cases hm)⟩
       obtain⟨F1,L1⟩:=normPs_found _ _ _ hn F0
       have S:Sub st.h G' w' na:=⟨Jf3 hfi,F1,R3.obj,R3.toDis hf⟩
       have hcl:RVs st.h G' w' (J1P caps) (cps.map a1.eval).toList:=by
        refine Jsm hcapsA fun y hy => ?_
        obtain⟨⟨cs,h1⟩,h2⟩:=R3.org (y.1,Jb0 st1.h y.1,G1.bk y.1) (List.mem_append_left _ (Jta hy))
        exact⟨⟨_,cs,h1⟩,h2⟩
       obtain⟨h1,h2⟩:=Sub.norms S _ _ _ hn (.refl na) F0 (vs:=v::(cps.map a1.eval).toList) ⟨v,_,rfl,hv,hcl⟩
       obtain⟨v',l',hvl,hq,hps⟩:=h1
       simp only[List.cons.injEq]at hvl
       obtain⟨rfl,rfl⟩:=hvl
       have hobj:∀ k o,mkH na.hp k=some o->RO (mkH na.hp) (JM G' na (Qe st.h G' na)) w' k o:=fun k o hk=>by
        rcases h2 (k,o) (Qd hk)with h|h
        ·cases h
        ·exact h
       have hrec:JuA (mkH na.hp) (JM G' na (Qe st.h G' na)) w' q (bif pan then .panicking [{ v,recovered:=false }]else .returning) (bif pan then .panicking [{ v,recovered:=true }]else .returning):=by
        cases q with
        |nilif=>cases pan with
         |false=>exact⟨rfl,rfl⟩
         |true=>cases hmo
        |ifc t p=>cases pan with
         |false=>cases hmo
         |true=>exact⟨v,hq,rfl,rfl⟩
        |_=>cases hmo
       have hcd:=hc _ w' _ _ _ hps hrec hobj S.toDis
       rw[Array.toArray_toList]at hcd
       refine hcd.mono fun e u' w'' hh => ?_
       obtain⟨rfl,out,ho,G3,hout,Fi⟩:=hh
       cases out with
       |pan p hs=>cases ho
       |ret rs' hs' =>
        obtain⟨v3,rfl,hv3⟩:=hout
        simp only at ho
        split at ho
        ·next st' hbk =>
         obtain⟨G4,L,ht,hren⟩:=Jm5 S hbk Fi (fun h=>h)
         have R4:=R3.loud0 hf L
         rw[←ht]at R4
         have R5:Rel w (J1g hp G w) (J0x hp G) fn.ntmps [d] st' G4 a w'' :=
          ⟨R4.tm,R4.size,R4.obj,R4.dis,R4.apart,R4.xfr,R4.xeq,fun x hx=>R4.org x (List.mem_append_right _ hx),R4.ext,R4.grow,R4.os,R4.tape,R4.out,R4.defers⟩
         have hset:settle (bif pan then .panicking [{ v,recovered:=true }]else .returning) = .returning:=by cases pan<;>rfl
         show Leaves P fn b.tmps _ [] (settle _) w''
         rw[hset]
         unfold J1O at ho
         split at ho
         ·cases ho
         ·next ps2 hps2 =>
          obtain⟨vs,h1,h2⟩:=J8A X R5 rs hps2
          obtain⟨qs,hs2,G'',h3,h4,h5⟩:=J8B R5 hc0 h1 ho
          exact⟨_,JeK hrs (by rw[hbm];exact h2),.ret qs hs2,h3,G'',⟨_,rfl,JfM h4⟩,h5⟩
        ·cases ho
     ·cases he
    have hrest:rest.wp P (bodyPostD P fn fun e w'=>∃ out,K out=some r∧∃ G',J2A G' w' e out∧Fin hp out.hs G w G' w') a2 w1:=by
     refine wp_mono (Zf X2 hpv2 hm k hf rest hco2 h1 R2) fun e a w' h => ?_
     cases e with
     |normal =>
      obtain⟨st,G',h1,h2⟩:=h
      exact fin (pan:=false) rfl rfl h1 h2 (v := .nilIface) rfl
     |ret =>
      obtain⟨st,G',h1,h2⟩:=h
      exact fin (pan:=false) rfl rfl h1 h2 (v := .nilIface) rfl
     |panic ch =>
      obtain⟨st,G',a0,p,v,rfl,h1,h2,h3,h4,h5,h6⟩:=h
      exact fin (pan:=true) (JkC h6 hkeep) h4 h1 h2 h3
     |exit i=>obtain⟨st,G',h1,h2⟩:=h;cases h1
     |goto l=>exact h
     |outgrown=>exact h.elim
    refine wp_seq (wp_region_list ?_)
    rw[hl]
    have w1':Region.wanted o1 (yielded ops a1.tmps)=true:=by simp[Region.wanted,g1]
    have w2':∀ t,Region.wanted o2 (yielded ops t)=true:=fun t=>by simp[Region.wanted,g2]
    have e1:(execOp a1.eval o1).run P w1 = .ok (.value F) w1:=by simp[execOp,p1,Instr.makeFunc,F]
    have e2:(execOp (a1.put (some s') F).eval o2).run P w1 = .ok (.defer d) w1:=by
     have:(a1.put (some s') F).eval (.tmp s')=F:=by
      simp[Act.eval,Act.put,hsz,hs]
     simp[execOp,p2,resolve,this,F,Deferred.ofValue,d]
    unfold wpList
    rw[if_pos w1']
    refine .inl ?_
    unfold Oper.wp
    rw[e1,Oper.upon_value,d1]
    unfold wpList
    rw[if_pos (w2' _)]
    refine .inl ?_
    unfold Oper.wp
    rw[e2,Oper.upon_defer,d2]
    exact hrest
end
end
section
open Go Go.RowKit
def Kd.lob:Kd->Nat
 |.int k=>k.bits / 8
 |.bool=>1
 |.str=>16
 |.flt=>8
 |.sl _=>24
 |.pr a b=>a.lob+b.lob
 |.nil=>0
def Wf:(K:Kd)->K.T->Prop
 |.int k,x=>k.min≤x∧x≤k.max
 |.bool,_=>True
 |.str,x=>x.length≤140737488351232
 |.flt,x=>x<2 ^ 64
 |.sl e,x=>x.length*e.lob≤140737488351232∧∀ y∈x,Wf e y
 |.pr a b,x=>Wf a x.1∧Wf b x.2
 |.nil,_=>True
def J5G(ty:TypeId->Option TI)(f:TypeId->Kd->Bool): Nat->List (Nat×TypeId)->Kd->Bool
 |off,[(o,t)],K=>Nat.beq o off&&f t K&&(match ty t with|some ti=>Nat.beq ti.size K.sz|none=>false)
 |off,(o,t)::fs,.pr a b=>Nat.beq o off&&f t a&&(match ty t with|some ti=>Nat.beq ti.size a.sz|none=>false)&&J5G ty f (off+a.sz) fs b
 |_,_,_=>false
def readB(ty:TypeId->Option TI): Nat->TypeId->Kd->Bool
 |0,_,_=>false
 |n+1,t,K=>match ty t with
  |none=>false
  |some ti=>match ti.k,K with
   |.int k,.int k'=>decide (k=k')
   |.bool,.bool=>true
   |.str,.str=>true
   |.flt,.flt=>true
   |.slice,.sl e=>(match ty ti.el with|some ei=>Nat.blt 0 ei.size&&Nat.beq ei.size e.sz&&Nat.ble e.lob ei.bytes|none=>false)&&readB ty n ti.el e
   |.struct,K=>J5G ty (readB ty n) 0 ti.fs K&&Nat.beq ti.size K.sz
   |_,_=>false
section
variable {P:Program} {ty:TypeId->Option TI} {H:Type} {enc:TypeId×Value->H} {w:World} {spare:Nat->Bool} {held:Bool}
theorem TiOk.cellsOf{t:TypeId}{ti:TI}(h:TiOk P t ti): P.cellsOf t=ti.size:=by
 obtain⟨i,z,h1,h2,_⟩:=h.info
 simp[Program.cellsOf,h1,h2]
theorem TiOk.bytesOf{t:TypeId}{ti:TI}(h:TiOk P t ti): P.bytesOf t=ti.bytes:=by
 obtain⟨i,z,h1,_,h2,_⟩:=h.info
 simp[Program.bytesOf,h1,h2]
def Jvl(P:Program)(enc:TypeId×Value->H)(w:World)(spare:Nat->Bool)(held:Bool)(t:TypeId)(K:Kd): Prop :=
 ∀(fuel:Nat) (cs:List Value) (d:DataW H) (ps:List MemPlace),DataW.trod enc P w 0 spare held fuel t cs=some (d,ps)->(∀ m∈DataW.weights P t d,m≤reachBytes) ->
  ∃ x:K.T,RD w (fun _=>True) K x cs∧Wf K x
theorem Jtb(T:Qg P ty){f:TypeId->Kd->Bool}(hf:∀ t K,f t K=true->Jvl P enc w spare held t K){n:Nat}{cs:List Value}:
 ∀(fl:List Field) (tfs:List (Nat×TypeId)) (off:Nat) (K:Kd) (xs:List (DataW H×List MemPlace)),fl.map (fun g=>(g.offset,g.type))=tfs->J5G ty f off tfs K=true ->
  (∀(i:Nat) (g:Field),fl[i]? = some g->DataW.trod enc P w 0 spare held n g.type ((cs.drop g.offset).take (P.cellsOf g.type))=xs[i]?)->xs.length=fl.length ->
  (∀ m∈DataW.weightsEach P (fl.map (·.type)) (xs.map (·.1)),m≤reachBytes)->cs.length=off+K.sz ->
  ∃ x:K.T,RD w (fun _=>True) K x (cs.drop off)∧Wf K x
 |[],tfs,off,K,xs,ht,hr,_,_,_,_=>by subst ht;simp[J5G]at hr
 |g::fl,tfs,off,K,xs,ht,hr,hx,hl,hw,hc=>by
  cases xs with
  |nil=>simp at hl
  |cons x xs =>
   have h0:=hx 0 g (by simp)
   have key:∀ a:Kd,Nat.beq g.offset off=true->f g.type a=true->(match ty g.type with|some ti=>Nat.beq ti.size a.sz|none=>false)=true->a.sz≤cs.length-off ->
    ∃ y:a.T,RD w (fun _=>True) a y ((cs.drop off).take a.sz)∧Wf a y:=by
    intro a h1 h2 h3 h4
    split at h3
    ·next ti hti =>
     have hsz:P.cellsOf g.type=a.sz:=by rw[(T _ _ hti).cellsOf];exact Qj.1 h3
     rw[Qj.1 h1,hsz]at h0
     obtain⟨d,ps⟩:=x
     refine hf _ _ h2 n _ d ps (by simpa using h0) fun m hm=>hw m ?_
     simp[DataW.weightsEach,hm]
    ·cases h3
   cases fl with
   |nil =>
    subst ht
    simp only[List.map_cons,List.map_nil,J5G,Bool.and_eq_true]at hr
    obtain⟨⟨h1,h2⟩,h3⟩:=hr
    obtain⟨y,hy1,hy2⟩:=key K h1 h2 h3 (by omega)
    refine⟨y,?_,hy2⟩
    rw[List.take_of_length_le (by rw[List.length_drop];omega)]at hy1
    exact hy1
   |cons g2 fl =>
    subst ht
    cases K with
    |pr a b =>
     simp only[List.map_cons,J5G,Bool.and_eq_true]at hr
     obtain⟨⟨⟨h1,h2⟩,h3⟩,h4⟩:=hr
     rw[Kd.sz]at hc
     obtain⟨y,hy1,hy2⟩:=key a h1 h2 h3 (by omega)
     obtain⟨z,hz1,hz2⟩:=Jtb T hf (n:=n) (g2::fl) _ (off+a.sz) b xs rfl h4 (fun i g' hg'=>by simpa using hx (i+1) g' (by simpa using hg')) (by simpa using hl)
      (fun m hm=>hw m (by simp[DataW.weightsEach]at hm ⊢;exact .inr hm)) (by omega)
     refine⟨(y,z),⟨(cs.drop off).take a.sz,(cs.drop off).drop a.sz,(List.take_append_drop _ _).symm,hy1,?_⟩,hy2,hz2⟩
     rw[List.drop_drop];exact hz1
    |_=>simp[J5G]at hr
theorem Jpi{e:TypeId}: ∀ {l:List (DataW H)} {d:DataW H},d∈l->∀ m∈DataW.weights P e d,m∈DataW.weightsAll P e l
 |a::r,d,h,m,hm=>by
  rw[DataW.weightsAll]
  rcases List.mem_cons.1 h with rfl|h
  ·exact List.mem_append_left _ hm
  ·exact List.mem_append_right _ (Jpi h m hm)
 |[],d,h,m,hm=>by cases h
theorem JGG{P:Program}{w:World}{a:Addr}{n:Nat}{cs:List Value}(h:w.cells? 0 a n=some cs): cs.length=n∧∀(j:Nat) (u:Value),cs[j]? = some u->w.cell? (a.add j)=some u:=by
 unfold World.cells? at h
 rw[if_pos (Nat.zero_le _)]at h
 have key:∀(l:List Nat) (cs:List Value),l.mapM (fun i=>w.cell? (a.add i))=some cs->cs.length=l.length∧∀(j:Nat) (u:Value),cs[j]? = some u->∃ i,l[j]? = some i∧w.cell? (a.add i)=some u:=by
  intro l
  induction l with
  |nil=>intro cs h;simp at h;subst h;exact⟨rfl,fun j u hj=>by simp at hj⟩
  |cons i l ih =>
   intro cs h
   rw[List.mapM_cons]at h
   cases hc:w.cell? (a.add i)with
   |none=>rw[hc]at h;simp at h
   |some v =>
    cases hl:l.mapM (fun i=>w.cell? (a.add i))with
    |none=>rw[hc,hl]at h;simp at h
    |some r =>
     rw[hc,hl]at h
     simp at h
     subst h
     obtain⟨h1,h2⟩:=ih r hl
     refine⟨by simp[h1],fun j u hj => ?_⟩
     cases j with
     |zero=>simp at hj;subst hj;exact⟨i,by simp,hc⟩
     |succ j=>obtain⟨i',h3,h4⟩:=h2 j u (by simpa using hj);exact⟨i',by simpa using h3,h4⟩
 obtain⟨h1,h2⟩:=key _ _ h
 refine⟨by simpa using h1,fun j u hj => ?_⟩
 obtain⟨i,h3,h4⟩:=h2 j u hj
 have hlt:=(List.getElem?_eq_some_iff.1 h3).1
 have:i=j:=by
  obtain⟨_,e⟩:=List.getElem?_eq_some_iff.1 h3
  simpa using e.symm
 subst this
 exact h4
theorem Jmb(T:Qg P ty): ∀(n:Nat) (t:TypeId) (K:Kd),readB ty n t K=true->Jvl P enc w spare held t K
 |0,t,K,h=>by simp[readB]at h
 |n+1,t,K,h=>by
  intro fuel cs d ps ht hw
  rw[readB]at h
  split at h
  ·cases h
  ·next ti hti =>
   have hT:=T _ _ hti
   obtain⟨td,hu,hk⟩:=hT.kind
   split at h
   ·next k k' hk1 =>
    have:k=k':=by simpa using h
    subst this
    rw[hk1]at hk;simp only at hk;subst hk
    obtain⟨m,rfl,_,hwf⟩:=DataW.trod_int hu ht
    simp only[Lit.wf,Bool.and_eq_true,decide_eq_true_eq]at hwf
    exact⟨m,rfl,hwf⟩
   ·next hk1 =>
    rw[hk1]at hk;simp only at hk;subst hk
    obtain⟨b,rfl,_⟩:=DataW.trod_bool hu ht
    exact⟨b,rfl,trivial⟩
   ·next hk1 =>
    rw[hk1]at hk;simp only at hk;subst hk
    obtain⟨s,rfl,hx,_⟩:=DataW.trod_string hu ht
    cases hx
    refine⟨s.data.toList,rfl,?_⟩
    have:=hw _ (by rw[DataW.weights];exact List.mem_cons_self)
    simpa [Wf,reachBytes]using this
   ·next hk1 =>
    rw[hk1]at hk;simp only at hk;subst hk
    cases fuel with
    |zero=>simp[DataW.trod]at ht
    |succ m =>
     unfold DataW.trod at ht
     rw[hu]at ht
     split at ht
     case h_3 k k' b e1 =>
      simp only[Option.some.injEq,TypeDesc.float.injEq]at e1
      subst e1
      split at ht
      ·next hh =>
       obtain⟨rfl,hwf⟩:=hh
       refine⟨b,rfl,?_⟩
       simpa [Lit.wf,Wf]using hwf
      ·cases ht
     all_goals simp_all
   ·next e hk1 =>
    rw[hk1]at hk;simp only at hk;subst hk
    simp only[Bool.and_eq_true]at h
    obtain⟨h1,h2⟩:=h
    split at h1
    ·next ei hei =>
     simp only[Bool.and_eq_true]at h1
     obtain⟨⟨h3,h4⟩,h5⟩:=h1
     have h3:0<ei.size:=Nat.le_of_ble_eq_true h3
     have h4:=Qj.1 h4
     have h5:=Nat.le_of_ble_eq_true h5
     have hE:=T _ _ hei
     rcases DataW.trod_slice hu ht with⟨rfl,_⟩|⟨a,len,cap,ZE,rest,m,rfl,rfl,hx,_,hlc,hcm,hel,hat,_⟩
     ·exact⟨[],⟨none,0,rfl,Nat.le_refl _,.inl rfl⟩,by simp,fun y hy=>by cases hy⟩
     ·cases hx
      rw[DataW.weights,hu]at hw
      simp only at hw
      have hlen:=hw _ List.mem_cons_self
      rw[List.length_map,List.length_map,hE.bytesOf]at hlen
      rw[hE.cellsOf,h4]at hat
      have ih:=Jmb T n _ _ h2
      have each:∀ i,i<len->∃(y:e.T) (c:List Value),RD w (fun _=>True) e y c∧Wf e y∧∀(j:Nat) (u:Value),c[j]? = some u->w.cell? (a.add (i*e.sz+j))=some u:=by
       intro i hi
       have h6:=hat i hi
       have h7:ZE[i]? = some ZE[i]:=by simp[hel,hi]
       rw[h7]at h6
       cases hc:w.cells? 0 (a.add (i*e.sz)) e.sz with
       |none=>rw[hc]at h6;simp at h6
       |some c =>
        rw[hc,Option.bind_some]at h6
        obtain⟨y,hy1,hy2⟩:=ih m c ZE[i].1 ZE[i].2 (by rw[h6]) (fun q hq=>hw q (List.mem_cons_of_mem _ (List.mem_append_left _ (Jpi (List.mem_map.2 ⟨ZE[i],List.getElem_mem _,rfl⟩) q hq))))
        obtain⟨_,hcell⟩:=JGG (P:=P) hc
        refine⟨y,c,hy1,hy2,fun j u hj => ?_⟩
        rw[←Addr.add_add];exact hcell j u hj
      have all:∃ l:List e.T,l.length=len∧(∀ y∈l,Wf e y)∧∀(i:Nat) (y:e.T),l[i]? = some y->∃ c,RD w (fun _=>True) e y c∧∀(j:Nat) (u:Value),c[j]? = some u->w.cell? (a.add (i*e.sz+j))=some u:=by
       have key:∀ k,k≤len->∃ l:List e.T,l.length=k∧(∀ y∈l,Wf e y)∧∀(i:Nat) (y:e.T),l[i]? = some y->∃ c,RD w (fun _=>True) e y c∧∀(j:Nat) (u:Value),c[j]? = some u->w.cell? (a.add (i*e.sz+j))=some u:=by
        intro k
        induction k with
        |zero=>intro _;exact⟨[],rfl,fun y hy=>(by cases hy),fun i y hi=>by simp at hi⟩
        |succ k ihk =>
         intro hk
         obtain⟨l,hl1,hl2,hl3⟩:=ihk (by omega)
         obtain⟨y,c,e1,e2,e3⟩:=each k (by omega)
         refine⟨l++[y],by simp[hl1],fun z hz => ?_,fun i z hz => ?_⟩
         ·rcases List.mem_append.1 hz with hz|hz
          ·exact hl2 z hz
          ·simp at hz;subst hz;exact e2
         ·by_cases hi:i<l.length
          ·rw[List.getElem?_append_left hi]at hz;exact hl3 i z hz
          ·rw[List.getElem?_append_right (by omega)]at hz
           have hi2:i=k:=by
            have:=(List.getElem?_eq_some_iff.1 hz).1
            simp at this;omega
           subst hi2
           simp[hl1]at hz;subst hz
           exact⟨c,e1,e3⟩
       exact key len (Nat.le_refl _)
      obtain⟨l,hl1,hl2,hl3⟩:=all
      refine⟨l,⟨some a,cap,by rw[hl1],by omega,?_⟩,?_,hl2⟩
      ·by_cases hnil:l=[]
       ·exact .inl hnil
       ·refine .inr ⟨a,rfl,trivial,?_,hl3⟩
        have hpos:0<l.length:=List.length_pos_iff.2 hnil
        obtain⟨c,hc,hu'⟩:=hl3 0 l[0] (by simp)
        have hcl:=hc.len
        have h0c:0<c.length:=by omega
        have:=hu' 0 c[0] (by simp[h0c])
        simp only[Nat.zero_mul,Nat.add_zero,Addr.add_zero']at this
        refine Classical.byContradiction fun hno => ?_
        simp[World.cell?,Array.getElem?_eq_none (Nat.le_of_not_lt hno)]at this
      ·rw[hl1,←hel]
       refine Nat.le_trans (Nat.mul_le_mul_left _ h5) ?_
       refine Nat.le_trans (Nat.mul_le_mul_right _ (Nat.le_add_right _ rest.length)) ?_
       simpa [reachBytes]using hlen
    ·cases h1
   ·next hk1 =>
    rw[hk1]at hk;simp only at hk
    obtain⟨fs,rfl,hfs,_⟩:=hk
    simp only[Bool.and_eq_true]at h
    obtain⟨h1,h2⟩:=h
    obtain⟨xs,m,rfl,hx,hcl,hxl,hat⟩:=DataW.trod_struct hu ht
    cases hx
    rw[DataW.weights,hu]at hw
    simp only at hw
    rw[hT.cellsOf,Qj.1 h2]at hcl
    have:=Jtb (enc:=enc) (w:=w) (spare:=spare) (held:=held) T (f:=readB ty n) (fun t K h=>Jmb T n t K h) (n:=m) (cs:=cs) fs.toList ti.fs 0 _ xs hfs h1 (fun i g hg=>hat i g (by simpa using hg)) (by simpa using hxl) hw (by omega)
    rwa [List.drop_zero]at this
   ·cases h
theorem okT{h:Je}{G:Gh}(hh:∀ n,h n=none)(hX:∀ b,¬ G.X b){b:Nat}: okB h G b:=⟨fun n hn=>by simp[Jd,hh n]at hn,hX b⟩
theorem JHp (T:Qg P ty) {n base:Nat} {r:Reach} {t:TypeId} {K:Kd} (hr:readB ty n t K=true) (hs:(match ty t with|some ti=>(match ti.k with | .struct=>false|_=>true)|none=>false)=true) {v:Value} {d:DataW H} {p:List MemPlace} (hval:Value.okWide P w r base t v) (hd:DataW.Trod enc P w 0 spare held t v d p)
 (hw:∀ m∈DataW.weights P t d,m≤reachBytes) {h:Je} {G:Gh} (hh:∀ n,h n=none) (hX:∀ b,¬ G.X b):∃ x:K.T,Wf K x∧RV h G w (.v K x) v:=by
 obtain⟨fuel,hf⟩:=hd
 obtain⟨x,h1,h2⟩:=Jmb T n t K hr fuel _ d p hf hw
 refine⟨x,h2,?_⟩
 have hc:v.cells.toList=[v]:=by
  split at hs
  ·next ti hti =>
   obtain⟨td,hu,hk⟩:=(T _ _ hti).kind
   rw[readB.eq_def]at hr
   cases n with
   |zero=>simp at hr
   |succ n =>
    simp only[hti]at hr
    split at hr
    ·next hk1=>rw[hk1]at hk;simp only at hk;subst hk;obtain⟨m,rfl⟩:=WideShapes.okWide_int hu hval;rfl
    ·next hk1=>rw[hk1]at hk;simp only at hk;subst hk;simp only[Value.okWide,hu,Cell.okWide]at hval;cases v<;>simp_all [Cell.ok,Value.cells]
    ·next hk1=>rw[hk1]at hk;simp only at hk;subst hk;obtain⟨m,rfl⟩:=WideShapes.okWide_string hu hval;rfl
    ·next hk1=>rw[hk1]at hk;simp only at hk;subst hk;simp only[Value.okWide,hu,Cell.okWide]at hval;cases v<;>simp_all [Cell.ok,Value.cells]
    ·next hk1=>rw[hk1]at hk;simp only at hk;subst hk;obtain⟨a,l,c,rfl⟩:=WideShapes.okWide_slice hu hval;rfl
    ·next hk1=>rw[hk1]at hs;cases hs
    ·cases hr
  ·cases hs
 show RD w (okB h G) K x [v]
 rw[←hc]
 exact h1.mono fun b _ _=>⟨okT hh hX,rfl⟩
def Jgn:Out->Option Bool
 |.ret [.v .bool y] []=>some y
 |_=>none
def G0:Gh:=⟨fun _=>0,fun _ => .nilIface,fun _=>False⟩
theorem JfN{f:FuncId}{fn:Func}{c:Code}(hfn:P.funcs[f]? = some fn)(hb:fn.body=some c)(hname:(fn.name == "runtime.NumGoroutine")=false)(args:Array Value)(w:World): (callFunc f args).run P w = .ok (.enter f args) w:=by
 have hn2:¬ fn.name = "runtime.NumGoroutine" := by simpa using hname
 simp[callFunc,program,Sem.run,hfn,hn2,hb]
theorem Jtc{f:FuncId}{fn:Func}{c:Code}(hfn:P.funcs[f]? = some fn)(hb:fn.body=some c)(hname:(fn.name == "runtime.NumGoroutine")=false){ps:List PV}{b:Bool}(h:DoesTo P f ps [] fun out=>Jgn out=some b){vals:List Value}(hv:RVs (mkH []) G0 w ps vals):
 Calls P f vals.toArray w fun e w'=>e = .returned (.bool b)∧Below w.heap.size w w':=by
 have:=h G0 w vals hv (fun n o hn=>by cases hn) ⟨fun n m b hn=>by simp[Jd,mkH,Jx]at hn,fun n b hn=>by simp[Jd,mkH,Jx]at hn,fun b hb=>hb.elim⟩
 unfold Does at this
 rw[JfN hfn hb hname]at this
 refine Calls.mono this fun e w' hh => ?_
 obtain⟨out,ho,G',hout,F⟩:=hh
 unfold Jgn at ho
 split at ho
 ·cases ho
  obtain⟨v,rfl,hv⟩:=hout
  have hv:RD _ _ .bool b [v]:=hv
  simp only[RD,List.cons.injEq,and_true]at hv
  subst hv
  exact⟨rfl,F.os,F.tape,F.out,F.grow,fun k hk=>F.blk k hk fun n hn=>by simp[Jd,mkH,Jx]at hn⟩
 ·cases ho
theorem Jtd{G:Gh}{w w':World}(b:Below w.heap.size w w'): Fin [] [] G w G w' :=
 ⟨fun n o h=>(by cases h),fun n m b h=>(by simp[Jd,mkH,Jx]at h),fun n t cs h=>(by cases h),fun n ag V es h=>(by cases h),fun k hk _=>b.block k hk,rfl,fun n b h=>(by simp[Jd,mkH,Jx]at h),b.size,b.os,b.tape,b.output⟩
theorem JFE{ts:List TypeId}{ds:List (DataW H)}{vt:List TypeId}{gs:List (DataW H)}(h:(DataW.weightsEach P (ts++vt) (ds++gs)).all (· ≤ reachBytes)=true): ∀(i:Nat) (t:TypeId) (d:DataW H),ts[i]? = some t->ds[i]? = some d->∀ m∈DataW.weights P t d,m≤reachBytes:=by
 have key:∀(ts:List TypeId) (ds:List (DataW H)),(∀ m∈DataW.weightsEach P (ts++vt) (ds++gs),m≤reachBytes)->∀(i:Nat) (t:TypeId) (d:DataW H),ts[i]? = some t->ds[i]? = some d->∀ m∈DataW.weights P t d,m≤reachBytes:=by
  intro ts
  induction ts with
  |nil=>intro ds _ i t d ht;simp at ht
  |cons t0 ts ih =>
   intro ds hw i t d ht hd m hm
   cases ds with
   |nil=>simp at hd
   |cons d0 ds =>
    simp only[List.cons_append,DataW.weightsEach]at hw
    cases i with
    |zero=>simp at ht hd;subst ht hd;exact hw m (List.mem_append_left _ hm)
    |succ i=>exact ih ds (fun m hm=>hw m (List.mem_append_right _ hm)) i t d (by simpa using ht) (by simpa using hd) m hm
 exact key ts ds (by simpa using h)
end
end
end Go.Proofs.YtabkhphoacmcdaaGreatDoor.Pvm
set_option maxRecDepth 100000
namespace Go.Proofs.YtabkhphoacmcdaaGreatDoor.Pvm
open Go Go.Proofs
abbrev Jwm:Kd:=(.pr (.int .i64) (.pr (.int .i64) (.pr .bool (.int .u8))))
abbrev Jw1:Kd:=(.pr (.sl (.pr .str (.sl (.int .i64)))) (.sl (.pr .str (.pr .str (.pr .bool (.pr (.int .i64) (.pr (.int .i64) (.pr .bool (.pr (.pr .str (.pr (.int .i64) (.pr (.int .i64) (.pr .flt (.pr .bool .bool))))) (.sl (.int .i64)))))))))))
abbrev J0y:Kd:=(.sl (.pr (.int .i64) (.pr (.int .i64) (.pr .str (.pr .bool (.pr (.sl .str) (.sl (.int .i64))))))))
abbrev JmV:Kd:=(.pr .str (.pr (.int .i64) (.int .i64)))
abbrev Jw2:Kd:=(.pr .str (.pr (.int .i64) (.pr (.int .i64) (.pr .flt (.pr .bool .bool)))))
abbrev J5:Kd:=(.pr .str (.pr .str (.pr .bool (.pr (.int .i64) (.pr (.int .i64) (.pr .bool (.pr (.pr .str (.pr (.int .i64) (.pr (.int .i64) (.pr .flt (.pr .bool .bool))))) (.sl (.int .i64)))))))))
abbrev J4:Kd:=(.pr (.int .i64) (.pr (.int .i64) (.pr .str (.pr .bool (.pr (.sl .str) (.sl (.int .i64)))))))
abbrev Jw3:Kd:=(.pr (.sl (.pr (.int .i64) (.pr (.int .i64) (.pr .str (.pr .bool (.pr (.sl .str) (.sl (.int .i64)))))))) (.pr (.pr (.sl (.pr .str (.sl (.int .i64)))) (.sl (.pr .str (.pr .str (.pr .bool (.pr (.int .i64) (.pr (.int .i64) (.pr .bool (.pr (.pr .str (.pr (.int .i64) (.pr (.int .i64) (.pr .flt (.pr .bool .bool))))) (.sl (.int .i64))))))))))) .flt))
abbrev Jw4:Kd:=(.pr (.sl (.pr (.int .i64) (.pr (.int .i64) (.pr .str (.pr .bool (.pr (.sl .str) (.sl (.int .i64)))))))) (.pr .flt (.pr (.pr (.sl (.pr .str (.sl (.int .i64)))) (.sl (.pr .str (.pr .str (.pr .bool (.pr (.int .i64) (.pr (.int .i64) (.pr .bool (.pr (.pr .str (.pr (.int .i64) (.pr (.int .i64) (.pr .flt (.pr .bool .bool))))) (.sl (.int .i64))))))))))) (.pr (.int .i64) (.int .i64)))))
abbrev US:Kd:=(.pr (.int .i64) (.pr (.int .i64) .str))
abbrev JIS:Kd:=(.pr (.sl (.pr (.int .i64) (.pr (.int .i64) (.pr (.int .i64) (.pr .str .bool))))) (.sl (.pr (.int .i64) (.pr (.int .i64) (.pr .str (.pr .bool (.pr (.sl .str) (.sl (.int .i64)))))))))
abbrev Jf:Kd:=(.pr (.int .i64) (.pr (.int .i64) (.pr (.int .i64) (.pr .str .bool))))
abbrev JIT:Kd:=(.pr (.sl (.pr (.int .i64) (.pr (.int .i64) (.pr (.int .i64) (.pr .str .bool))))) (.pr (.int .i64) (.pr (.sl (.pr (.int .i64) (.pr (.int .i64) (.pr .str (.pr .bool (.pr (.sl .str) (.sl (.int .i64)))))))) (.pr (.int .i64) (.int .i64)))))
abbrev JIU:Kd:=(.pr (.pr (.int .i64) (.pr (.int .i64) .str)) (.pr (.int .i64) (.sl (.pr (.int .i64) (.pr (.int .i64) (.pr (.int .i64) (.pr .str .bool)))))))
abbrev JJB:Type:=(Int×(Int×(List UInt8)))
abbrev QS:Type:=(Int×(Int×(Int×((List UInt8)×Bool))))
abbrev JJQ:Type:=((List UInt8)×(Int×(Int×(Nat×(Bool×Bool)))))
abbrev QL:Type:=(Int×(Int×((List UInt8)×(Bool×((List (List UInt8))×(List Int))))))
abbrev J0b:Type:=(List QL)
abbrev Uc:Type:=((List UInt8)×((List UInt8)×(Bool×(Int×(Int×(Bool×(JJQ×(List Int))))))))
theorem mixed:Tryz.prog.follows .mixedOrders=true:=by kernel_rfl
def tyL:List (Nat×TI):=[(1,⟨.other,1,8,none,[.un],[],0,false⟩),(2,⟨.int .i64,1,8,some kI,[zI],[],0,false⟩),(3,⟨.int .i64,1,8,some kI,[zI],[],0,false⟩),(4,⟨.bool,1,1,some .bool,[zB],[],0,false⟩),(5,⟨.int .u8,1,1,some (.int .u8),[.v (.int .u8) 0],[],0,false⟩),(6,⟨.int .u8,1,1,some (.int .u8),[.v (.int .u8) 0],[],0,false⟩),(7,⟨.struct,4,24,some Jwm,[zI,zI,zB,.v (.int .u8) 0],[(0,2),(1,3),(2,4),(3,6)],0,true⟩),(8,⟨.struct,4,24,some Jwm,[zI,zI,zB,.v (.int .u8) 0],[(0,2),(1,3),(2,4),(3,6)],0,true⟩),(9,⟨.str,1,16,some .str,[zS],[],0,false⟩),(10,⟨.str,1,16,some .str,[zS],[],0,false⟩),(11,⟨.str,1,16,some .str,[zS],[],0,false⟩),(12,⟨.int .u64,1,8,some (.int .u64),[.v (.int .u64) 0],[],0,false⟩),(13,⟨.struct,2,24,some (.pr .str (.int .u64)),[zS,.v (.int .u64) 0],[(0,9),(1,12)],0,false⟩),(14,⟨.struct,2,24,some (.pr .str (.int .u64)),[zS,.v (.int .u64) 0],[(0,9),(1,12)],0,false⟩),(15,⟨.ptr,1,8,none,[.nilptr],[],260,false⟩),(16,⟨.ptr,1,8,none,[.nilptr],[],263,false⟩),(17,⟨.ptr,1,8,none,[.nilptr],[],270,false⟩),(18,⟨.struct,1,8,none,[.nilptr],[(0,17)],0,false⟩),(19,⟨.struct,1,8,none,[.nilptr],[(0,17)],0,false⟩),(20,⟨.iface,1,16,none,[.nilif],[],0,false⟩),(21,⟨.int .i32,1,4,some (.int .i32),[.v (.int .i32) 0],[],0,false⟩),(22,⟨.slice,1,24,some (.sl (.int .u8)),[.nilsl],[],5,false⟩),(23,⟨.other,1,8,none,[.un],[],0,false⟩),(24,⟨.slice,1,24,some (.sl (.pr .str (.sl kI))),[.nilsl],[],64,false⟩),(25,⟨.slice,1,24,some (.sl J5),[.nilsl],[],57,false⟩),(26,⟨.struct,2,48,some Jw1,[.nilsl,.nilsl],[(0,24),(1,25)],0,false⟩),(27,⟨.struct,2,48,some Jw1,[.nilsl,.nilsl],[(0,24),(1,25)],0,false⟩),(28,⟨.struct,2,16,some (.pr kI kI),[zI,zI],[(0,3),(1,3)],0,true⟩),(29,⟨.struct,2,16,some (.pr kI kI),[zI,zI],[(0,3),(1,3)],0,true⟩),(31,⟨.other,1,8,none,[.un],[],0,false⟩),(32,⟨.other,1,8,none,[.un],[],0,false⟩),(33,⟨.int .i64,1,8,some kI,[zI],[],0,false⟩),(34,⟨.other,1,8,none,[.un],[],0,false⟩),(35,⟨.other,1,8,none,[.un],[],0,false⟩),(36,⟨.slice,1,24,some J0y,[.nilsl],[],73,false⟩),(37,⟨.struct,1,24,some J0y,[.nilsl],[(0,36)],0,false⟩),(38,⟨.struct,1,24,some J0y,[.nilsl],[(0,36)],0,false⟩),(39,⟨.other,1,8,none,[.un],[],0,false⟩),(40,⟨.other,1,8,none,[.un],[],0,false⟩),(41,⟨.slice,1,24,some (.sl JmV),[.nilsl],[],44,false⟩),(42,⟨.other,1,8,none,[.un],[],0,false⟩),(43,⟨.struct,3,32,some JmV,[zS,zI,zI],[(0,9),(1,3),(2,3)],0,true⟩),(44,⟨.struct,3,32,some JmV,[zS,zI,zI],[(0,9),(1,3),(2,3)],0,true⟩),(45,⟨.other,1,8,none,[.un],[],0,false⟩),(46,⟨.other,1,8,none,[.un],[],0,false⟩),(47,⟨.other,1,8,none,[.un],[],0,false⟩),(48,⟨.other,1,8,none,[.un],[],0,false⟩),(49,⟨.other,1,8,none,[.un],[],0,false⟩),(50,⟨.slice,1,24,some (.sl kI),[.nilsl],[],3,false⟩),(51,⟨.other,1,8,none,[.un],[],0,false⟩),(52,⟨.ptr,1,8,none,[.nilptr],[],57,false⟩),(53,⟨.flt,1,8,some .flt,[.v .flt 0],[],0,false⟩),(54,⟨.struct,6,48,some Jw2,[zS,zI,zI,.v .flt 0,zB,zB],[(0,9),(1,3),(2,3),(3,53),(4,4),(5,4)],0,true⟩),(55,⟨.struct,6,48,some Jw2,[zS,zI,zI,.v .flt 0,zB,zB],[(0,9),(1,3),(2,3),(3,53),(4,4),(5,4)],0,true⟩),(56,⟨.struct,13,136,some J5,[zS,zS,zB,zI,zI,zB,zS,zI,zI,.v .flt 0,zB,zB,.nilsl],[(0,9),(1,9),(2,4),(3,3),(4,3),(5,4),(6,55),(12,50)],0,false⟩),(57,⟨.struct,13,136,some J5,[zS,zS,zB,zI,zI,zB,zS,zI,zI,.v .flt 0,zB,zB,.nilsl],[(0,9),(1,9),(2,4),(3,3),(4,3),(5,4),(6,55),(12,50)],0,false⟩),(58,⟨.other,1,8,none,[.un],[],0,false⟩),(59,⟨.slice,1,24,some (.sl .str),[.nilsl],[],9,false⟩),(60,⟨.other,1,8,none,[.un],[],0,false⟩),(61,⟨.other,1,8,none,[.un],[],0,false⟩),(62,⟨.other,1,8,none,[.un],[],0,false⟩),(63,⟨.struct,2,40,some (.pr .str (.sl kI)),[zS,.nilsl],[(0,9),(1,50)],0,false⟩),(64,⟨.struct,2,40,some (.pr .str (.sl kI)),[zS,.nilsl],[(0,9),(1,50)],0,false⟩),(66,⟨.other,1,8,none,[.un],[],0,false⟩),(67,⟨.other,1,8,none,[.un],[],0,false⟩),(68,⟨.other,1,8,none,[.un],[],0,false⟩),(69,⟨.map,1,8,none,[.un],[],4,false⟩),(70,⟨.other,1,8,none,[.un],[],0,false⟩),(71,⟨.other,1,8,none,[.un],[],0,false⟩),(72,⟨.struct,6,88,some J4,[zI,zI,zS,zB,.nilsl,.nilsl],[(0,3),(1,3),(2,9),(3,4),(4,59),(5,50)],0,false⟩),(73,⟨.struct,6,88,some J4,[zI,zI,zS,zB,.nilsl,.nilsl],[(0,3),(1,3),(2,9),(3,4),(4,59),(5,50)],0,false⟩),(74,⟨.other,1,8,none,[.un],[],0,false⟩),(75,⟨.ptr,1,8,none,[.nilptr],[],79,false⟩),(76,⟨.struct,1,24,some J0y,[.nilsl],[(0,38)],0,false⟩),(77,⟨.struct,1,24,some J0y,[.nilsl],[(0,38)],0,false⟩),(78,⟨.struct,4,80,some Jw3,[.nilsl,.nilsl,.nilsl,.v .flt 0],[(0,77),(1,27),(3,53)],0,false⟩),(79,⟨.struct,4,80,some Jw3,[.nilsl,.nilsl,.nilsl,.v .flt 0],[(0,77),(1,27),(3,53)],0,false⟩),(80,⟨.ptr,1,8,none,[.nilptr],[],82,false⟩),(81,⟨.struct,6,96,some Jw4,[.nilsl,.v .flt 0,.nilsl,.nilsl,zI,zI],[(0,38),(1,53),(2,27),(4,29)],0,false⟩),(82,⟨.struct,6,96,some Jw4,[.nilsl,.v .flt 0,.nilsl,.nilsl,zI,zI],[(0,38),(1,53),(2,27),(4,29)],0,false⟩),(83,⟨.int .u64,1,8,some (.int .u64),[.v (.int .u64) 0],[],0,false⟩),(85,⟨.other,1,8,none,[.un],[],0,false⟩),(86,⟨.other,1,8,none,[.un],[],0,false⟩),(87,⟨.ptr,1,8,none,[.nilptr],[],89,false⟩),(88,⟨.struct,2,32,none,[.nilptr,.nilsl],[(0,87),(1,22)],0,false⟩),(89,⟨.struct,2,32,none,[.nilptr,.nilsl],[(0,87),(1,22)],0,false⟩),(90,⟨.other,1,8,none,[.un],[],0,false⟩),(91,⟨.iface,1,16,none,[.nilif],[],0,false⟩),(92,⟨.iface,1,16,none,[.nilif],[],0,false⟩),(94,⟨.other,1,8,none,[.un],[],0,false⟩),(95,⟨.other,1,8,none,[.un],[],0,false⟩),(96,⟨.other,1,8,none,[.un],[],0,false⟩),(97,⟨.other,1,8,none,[.un],[],0,false⟩),(98,⟨.other,1,8,none,[.un],[],0,false⟩),(99,⟨.other,1,8,none,[.un],[],0,false⟩),(100,⟨.other,1,8,none,[.un],[],0,false⟩),(101,⟨.other,1,8,none,[.un],[],0,false⟩),(102,⟨.ptr,1,8,none,[.nilptr],[],104,false⟩),(103,⟨.struct,2,32,some (.pr (.sl kI) kI),[.nilsl,zI],[(0,50),(1,3)],0,false⟩),(104,⟨.struct,2,32,some (.pr (.sl kI) kI),[.nilsl,zI],[(0,50),(1,3)],0,false⟩),(105,⟨.other,1,8,none,[.un],[],0,false⟩),(106,⟨.ptr,1,8,none,[.nilptr],[],27,false⟩),(107,⟨.slice,1,24,some (.sl US),[.nilsl],[],151,false⟩),(109,⟨.other,1,8,none,[.un],[],0,false⟩),(110,⟨.slice,1,24,some (.sl Jf),[.nilsl],[],157,false⟩),(112,⟨.other,1,8,none,[.un],[],0,false⟩),(113,⟨.other,1,8,none,[.un],[],0,false⟩),(114,⟨.other,1,8,none,[.un],[],0,false⟩),(115,⟨.other,1,8,none,[.un],[],0,false⟩),(116,⟨.other,1,8,none,[.un],[],0,false⟩),(117,⟨.other,1,8,none,[.un],[],0,false⟩),(118,⟨.other,1,8,none,[.un],[],0,false⟩),(119,⟨.other,1,8,none,[.un],[],0,false⟩),(121,⟨.other,1,8,none,[.un],[],0,false⟩),(122,⟨.other,1,8,none,[.un],[],0,false⟩),(123,⟨.other,1,8,none,[.un],[],0,false⟩),(124,⟨.other,1,8,none,[.un],[],0,false⟩),(125,⟨.other,1,8,none,[.un],[],0,false⟩),(126,⟨.other,1,8,none,[.un],[],0,false⟩),(127,⟨.other,1,8,none,[.un],[],0,false⟩),(129,⟨.other,1,8,none,[.un],[],0,false⟩),(131,⟨.other,1,8,none,[.un],[],0,false⟩),(132,⟨.other,1,8,none,[.un],[],0,false⟩),(133,⟨.other,1,8,none,[.un],[],0,false⟩),(134,⟨.int .u32,1,4,some (.int .u32),[.v (.int .u32) 0],[],0,false⟩),(136,⟨.other,1,8,none,[.un],[],0,false⟩),(137,⟨.int .u64,1,8,some (.int .u64),[.v (.int .u64) 0],[],0,false⟩),(140,⟨.ptr,1,8,none,[.nilptr],[],5,false⟩),(143,⟨.slice,1,24,some (.sl (.sl (.int .u8))),[.nilsl],[],22,false⟩),(146,⟨.other,1,8,none,[.un],[],0,false⟩),(149,⟨.other,1,8,none,[.un],[],0,false⟩),(151,⟨.struct,3,32,some US,[zI,zI,zS],[(0,3),(1,3),(2,9)],0,true⟩),(153,⟨.ptr,1,8,none,[.nilptr],[],155,false⟩),(155,⟨.struct,2,48,some JIS,[.nilsl,.nilsl],[(0,110),(1,38)],0,false⟩),(157,⟨.struct,5,48,some Jf,[zI,zI,zI,zS,zB],[(0,3),(1,3),(2,3),(3,9),(4,4)],0,true⟩),(158,⟨.ptr,1,8,none,[.nilptr],[],160,false⟩),(160,⟨.struct,5,72,some JIT,[.nilsl,zI,.nilsl,zI,zI],[(0,110),(1,3),(2,36),(3,29)],0,false⟩),(178,⟨.other,1,8,none,[.un],[],0,false⟩),(196,⟨.ptr,1,8,none,[.nilptr],[],192,false⟩),(198,⟨.ptr,1,8,none,[.nilptr],[],200,false⟩),(200,⟨.struct,5,64,some JIU,[zI,zI,zS,zI,.nilsl],[(0,151),(3,3),(4,110)],0,false⟩),(205,⟨.other,1,8,none,[.un],[],0,false⟩),(224,⟨.ptr,1,8,none,[.nilptr],[],73,false⟩),(260,⟨.struct,4,40,none,[.nilptr,.nilptr,.nilptr,zS],[(0,17),(1,17),(2,17),(3,9)],0,false⟩),(263,⟨.struct,0,0,none,[],[(0,261)],0,false⟩),(264,⟨.int .u8,1,1,some (.int .u8),[.v (.int .u8) 0],[],0,false⟩),(265,⟨.int .u8,1,1,some (.int .u8),[.v (.int .u8) 0],[],0,false⟩),(266,⟨.other,1,8,none,[.un],[],0,false⟩),(267,⟨.int .i32,1,4,some (.int .i32),[.v (.int .i32) 0],[],0,false⟩),(268,⟨.int .i32,1,4,some (.int .i32),[.v (.int .i32) 0],[],0,false⟩),(270,⟨.struct,11,48,none,[.v (.int .u64) 0,.v (.int .u64) 0,.v (.int .u32) 0,.v (.int .u8) 0,.v (.int .u8) 0,.v (.int .u8) 0,.v (.int .u8) 0,.un,.nilptr,.v (.int .i32) 0,.v (.int .i32) 0],[(0,12),(1,12),(2,134),(3,264),(4,5),(5,5),(6,265),(7,266),(8,140),(9,267),(10,268)],0,false⟩)]
def tyT:TypeId->Option TI:=Jx tyL
theorem J18:Qg Tryz.prog tyT:=JHo (by kernel_rfl)
section
open Go
variable {P:Program}
def J1Q(fn:Func): Code:=fn.body.getD .skip
noncomputable def fnW(cx:Ctx)(k:Nat)(fn:Func)(sp:RetSpec){R:Type}(ps:List PV)(hp:List (Nm×HObj))(wr:Out->Option R): Option R:=fnK cx k (J1Q fn) fn.ntmps fn.results.toList sp ps hp wr
noncomputable def JmW(cx:Ctx)(k:Nat)(fn:Func)(sp:RetSpec)(p:List Nat){R:Type}(I:Nat->St->Option R)(s:St)(wr:Out->Option R): Option R :=
 QR cx k (at_ p (J1Q fn)) s (J2B cx k I p (J1Q fn) (J93 cx sp fn.results.toList wr))
noncomputable def J3D(cx:Ctx)(k:Nat)(fn:Func)(sp:RetSpec)(id:Nat)(p:List Nat){R:Type}(I:Nat->St->Option R)(n:Nat)(s:St)(wr:Out->Option R): Option R :=
 Jbj cx.pv (Jx cx.cuts id) (QR cx k (at_ (p++[0]) (J1Q fn))) n s (J2B cx k I p (J1Q fn) (J93 cx sp fn.results.toList wr))
def upI{R:Type}(id:Nat)(f:St->Option R)(I:Nat->St->Option R): Nat->St->Option R:=fun i s=>bif Nat.beq i id then f s else I i s
theorem JtX{R:Type}(id:Nat)(f:St->Option R)(I:Nat->St->Option R)(s:St): upI id f I id s=f s:=by unfold upI;rw[Nat.beq_refl];rfl
noncomputable def DOK(P:Program)(f:FuncId)(run:{R:Type}->List PV->List (Nm×HObj)->(Out->Option R)->Option R): Prop :=
 ∀(ps:List PV) (hp:List (Nm×HObj)) (R:Type) (K:Out->Option R) (r:R),run ps hp K=some r->DoesTo P f ps hp fun out=>K out=some r
theorem J8D{f:FuncId}{s:List LS}{C:CTab}{run:{R:Type}->List PV->List (Nm×HObj)->(Out->Option R)->Option R}(h:DOK P f run)(hC:C.Ok P): (CTab.add f s run C).Ok P:=CTab.add_ok (h _ _ _ _ _) hC
theorem JIV {cx:Ctx} (X:cx.Ok P) (hm:P.follows .mixedOrders=true) {f:FuncId} {fn:Func} (h1:P.funcs[f]? = some fn) (h2:(fn.body.isSome && !(fn.name == "runtime.NumGoroutine")&&Yq fn.ntmps (J1Q fn))=true)
 {k:Nat} {sp:RetSpec} {ps:List PV} {hp:List (Nm×HObj)} {R:Type} {wr K:Out->Option R} {r:R} (h:fnW cx k fn sp ps hp wr=some r) (hw:∀ o,wr o=some r->K o=some r):DoesTo P f ps hp fun out=>K out=some r:=by
 simp only[Bool.and_eq_true,Bool.not_eq_true']at h2
 obtain⟨⟨h3,h4⟩,h5⟩:=h2
 obtain⟨c,hc⟩:=Option.isSome_iff_exists.1 h3
 have e:J1Q fn=c:=by unfold J1Q;rw[hc];rfl
 unfold fnW at h
 rw[e]at h h5
 exact(JJA X hm h1 hc h4 rfl h5 h).mono hw
end
section
open Go
variable {P:Program}
inductive Fm where
 |a (K:Kd)
 |s (K:Kd)
 |w (n:Nm) (e:TypeId) (K:Kd)
 |o (n:Nm) (t:TypeId) (z:Nat) (cs:List Fm)
 |r (n:Nm) (z:Nat)
 |p (n:Nm) (z:Nat)
 |ni|np|ns
 |b (K:Kd)
 |l (K:Kd)
 |m (n:Nm) (g:MK) (V:Kd)
 |g (cs:List Fm)
 |c (f:FuncId) (cs:List Fm)
 |i (t:TypeId) (f:Fm)
 |t (n:Nm)
 |j
 |k (K:Kd)
mutual
def Fm.ls:Fm->LS
 |.s K => .sl K
 |.w n e K => .own n e K
 |.o n _ _ cs => .obj n (Fms.ls cs)
 |.r n _ => .obj n []
 |.p n z => .nps n z
 |.b K => .bor K
 |.l K => .lend K
 |.m n g V => .mpo n g V
 |.t n => .mpo n .it (.int .i64)
 |.g cs => .ag (Fms.ls cs)
 |.c _ cs => .clo (Fms.ls cs)
 |_ => .any
def Fms.ls:List Fm->List LS
 |[]=>[]
 |f::r=>f.ls::Fms.ls r
end
mutual
def Fm.C:Fm->Type->Type
 |.a K,X=>K.T->X
 |.s K,X=>List K.T->X
 |.w _ _ K,X=>List K.T->X
 |.o _ _ _ cs,X=>FmsC cs X
 |.b K,X=>List K.T->X
 |.l K,X=>K.T->X
 |.m _ _ V,X=>List (List UInt8×V.T)->X
 |.g cs,X=>FmsC cs X
 |.c _ cs,X=>FmsC cs X
 |.i _ f,X=>f.C X
 |.t _,X=>List UInt8->Int->X
 |.j,X=>UInt8->X
 |.k K,X=>K.T->X
 |_,X=>X
def FmsC:List Fm->Type->Type
 |[],X=>X
 |f::r,X=>f.C (FmsC r X)
end
mutual
def Fm.nv:Fm->Bool
 |.a _=>false
 |.s _=>false
 |.w _ _ _=>false
 |.b _=>false
 |.l _=>false
 |.m _ _ _=>false
 |.o _ _ _ cs=>Fms.nv cs
 |.g cs=>Fms.nv cs
 |.c _ cs=>Fms.nv cs
 |.i _ f=>f.nv
 |.t _=>false
 |.j=>false
 |.k _=>false
 |_=>true
def Fms.nv:List Fm->Bool
 |[]=>true
 |f::r=>f.nv&&Fms.nv r
end
mutual
def Fm.mk:(f:Fm)->{X:Type}->List (Nm×HObj)->(PV->List (Nm×HObj)->X)->f.C X
 |.a K,_,h,k=>fun x=>k (.v K x) h
 |.s K,_,h,k=>fun x=>k (.v (.sl K) x) h
 |.w n e K,_,h,k=>fun x=>k (.row n) ((n,.row e K x)::h)
 |.o n t z cs,_,h,k=>Fms.mk cs h fun ps h=>k (.ptr n z) ((n,.var t ps)::h)
 |.r n z,_,h,k=>k (.ptr n z) h
 |.p n z,_,h,k=>k (.nps n z) h
 |.ni,_,h,k=>k .nilif h
 |.np,_,h,k=>k .nilptr h
 |.ns,_,h,k=>k .nilsl h
 |.b K,_,h,k=>fun x=>k (.bv K x) h
 |.l K,_,h,k=>fun x=>k (.lp K x 0) h
 |.m n g V,_,h,k=>fun x=>k (.mpp n) ((n,.mp g V x)::h)
 |.g cs,_,h,k=>Fms.mk cs h fun ps h=>k (.agg ps) h
 |.c f cs,_,h,k=>Fms.mk cs h fun ps h=>k (.clo f ps) h
 |.i t f,_,h,k=>f.mk h fun p h=>k (.ifc t p) h
 |.t n,_,h,k=>fun x y=>k (.mpp n) ((n,.mp .it (.int .i64) [(x,y)])::h)
 |.j,_,h,k=>fun x=>k (.v .str [x]) h
 |.k K,_,h,k=>fun x=>k (.v (.sl K) [x]) h
def Fms.mk:(l:List Fm)->{X:Type}->List (Nm×HObj)->(List PV->List (Nm×HObj)->X)->FmsC l X
 |[],_,h,k=>k [] h
 |f::r,_,h,k=>f.mk h fun p h=>Fms.mk r h fun ps h=>k (p::ps) h
end
mutual
def Fm.tk:(f:Fm)->PV->List (Nm×HObj)->Option (((X:Type)->f.C X->X)×List (Nm×HObj))
 |.a K,q,h=>match q with
  |.v K' x=>match QU K' K x with
   |some x=>some (fun _ g=>g x,h)
   |none=>none
  |_=>none
 |.s K,q,h=>match q with
  |.v K' x=>match QU K' (.sl K) x with
   |some x=>some (fun _ g=>g x,h)
   |none=>none
  |_=>none
 |.w n e K,q,h=>match q,h with
  |.row n',(m,.row e' K' x)::h=>bif Nat.beq n' n&&(Nat.beq m n&&Nat.beq e' e)then match QU (.sl K') (.sl K) x with
   |some x=>some (fun _ g=>g x,h)
   |none=>none
   else none
  |_,_=>none
 |.o n t z cs,q,h=>match q,h with
  |.ptr n' z',(m,.var t' ps)::h=>bif (Nat.beq n' n&&Nat.beq z' z)&&(Nat.beq m n&&Nat.beq t' t)then match Fms.tk cs ps h with
   |some (a,h)=>some (fun _ g=>a _ g,h)
   |none=>none
   else none
  |_,_=>none
 |.r n z,q,h=>match q with
  |.ptr n' z'=>bif Nat.beq n' n&&Nat.beq z' z then some (fun _ g=>g,h)else none
  |_=>none
 |.p n z,q,h=>match q with
  |.nps n' z'=>bif Nat.beq n' n&&Nat.beq z' z then some (fun _ g=>g,h)else none
  |_=>none
 |.ni,q,h=>match q with
  |.nilif=>some (fun _ g=>g,h)
  |_=>none
 |.np,q,h=>match q with
  |.nilptr=>some (fun _ g=>g,h)
  |_=>none
 |.ns,q,h=>match q with
  |.nilsl=>some (fun _ g=>g,h)
  |_=>none
 |.b K,q,h=>match q with
  |.bv K' x=>match QU (.sl K') (.sl K) x with
   |some x=>some (fun _ g=>g x,h)
   |none=>none
  |_=>none
 |.l K,q,h=>match q with
  |.lp K' x z=>bif Nat.beq z 0 then match QU K' K x with
   |some x=>some (fun _ g=>g x,h)
   |none=>none
   else none
  |_=>none
 |.m n g V,q,h=>match q,h with
  |.mpp n',(m,.mp g' V' x)::h=>bif Nat.beq n' n&&(Nat.beq m n&&decide (g'=g))then match QU (.sl (.pr .str V')) (.sl (.pr .str V)) x with
   |some x=>some (fun _ g=>g x,h)
   |none=>none
   else none
  |_,_=>none
 |.g cs,q,h=>match q with
  |.agg ps=>match Fms.tk cs ps h with
   |some (a,h)=>some (fun _ g=>a _ g,h)
   |none=>none
  |_=>none
 |.c f cs,q,h=>match q with
  |.clo f' ps=>bif Nat.beq f' f then match Fms.tk cs ps h with
   |some (a,h)=>some (fun _ g=>a _ g,h)
   |none=>none
   else none
  |_=>none
 |.i t f,q,h=>match q with
  |.ifc t' p=>bif Nat.beq t' t then match f.tk p h with
   |some (a,h)=>some (fun _ g=>a _ g,h)
   |none=>none
   else none
  |_=>none
 |.t n,q,h=>match q,h with
  |.mpp n',(m,.mp .it V' x)::h=>bif Nat.beq n' n&&Nat.beq m n then match J8Z V' x with
   |some x=>some (fun _ g=>g x.1 x.2,h)
   |none=>none
   else none
  |_,_=>none
 |.j,q,h=>match q with
  |.v .str [x]=>some (fun _ g=>g x,h)
  |_=>none
 |.k K,q,h=>match q with
  |.v K' x=>match QU K' (.sl K) x with
   |some [x]=>some (fun _ g=>g x,h)
   |_=>none
  |_=>none
def Fms.tk:(l:List Fm)->List PV->List (Nm×HObj)->Option (((X:Type)->FmsC l X->X)×List (Nm×HObj))
 |[],q,h=>match q with
  |[]=>some (fun _ g=>g,h)
  |_=>none
 |f::r,q,h=>match q with
  |p::ps=>match Fms.tk r ps h with
   |some (a,h)=>match f.tk p h with
    |some (b,h)=>some (fun _ g=>a _ (b _ g),h)
    |none=>none
   |none=>none
  |_=>none
end
theorem J5y{K K':Kd}{x:K.T}{y:K'.T}(h:QU K K' x=some y): K=K'∧HEq x y:=by
 unfold QU at h
 split at h
 ·next e=>cases e;cases h;exact⟨rfl,HEq.rfl⟩
 ·cases h
theorem Yw{a b:Nat}(h:Nat.beq a b=true): a=b:=Nat.eq_of_beq_eq_true h
mutual
theorem Fm.tk_ok:∀(f:Fm) {q:PV} {h h':List (Nm×HObj)} {a:(X:Type)->f.C X->X},f.tk q h=some (a,h')->∀(X:Type) (k:PV->List (Nm×HObj)->X),a X (f.mk h' k)=k q h
 |.a K,q,h,h',a,he,X,k=>by
  unfold Fm.tk at he
  split at he
  ·split at he
   ·next x y hy=>obtain⟨rfl,e⟩:=J5y hy;cases e;cases he;rfl
   ·cases he
  ·cases he
 |.s K,q,h,h',a,he,X,k=>by
  unfold Fm.tk at he
  split at he
  ·split at he
   ·next x y hy=>obtain⟨rfl,e⟩:=J5y hy;cases e;cases he;rfl
   ·cases he
  ·cases he
 |.w n e K,q,h,h',a,he,X,k=>by
  unfold Fm.tk at he
  split at he
  ·cases hb:(Nat.beq _ n&&(Nat.beq _ n&&Nat.beq _ e))with
   |false=>rw[hb]at he;cases he
   |true =>
    rw[hb,cond_true]at he
    simp only[Bool.and_eq_true]at hb
    obtain⟨h1,h2,h3⟩:=hb
    cases Yw h1;cases Yw h2;cases Yw h3
    split at he
    ·next x y hy =>
     obtain⟨e,e2⟩:=J5y hy
     cases e;cases e2;cases he;rfl
    ·cases he
  ·cases he
 |.o n t z cs,q,h,h',a,he,X,k=>by
  unfold Fm.tk at he
  split at he
  ·cases hb:((Nat.beq _ n&&Nat.beq _ z)&&(Nat.beq _ n&&Nat.beq _ t))with
   |false=>rw[hb]at he;cases he
   |true =>
    rw[hb,cond_true]at he
    simp only[Bool.and_eq_true]at hb
    obtain⟨⟨h1,h2⟩,h3,h4⟩:=hb
    cases Yw h1;cases Yw h2;cases Yw h3;cases Yw h4
    split at he
    ·next a' h'' ha=>cases he;unfold Fm.mk;exact Fms.tk_ok cs ha X _
    ·cases he
  ·cases he
 |.r n z,q,h,h',a,he,X,k=>by
  unfold Fm.tk at he
  split at he
  ·cases hb:(Nat.beq _ n&&Nat.beq _ z)with
   |false=>rw[hb]at he;cases he
   |true =>
    rw[hb,cond_true]at he
    simp only[Bool.and_eq_true]at hb
    obtain⟨h1,h2⟩:=hb
    cases Yw h1;cases Yw h2;cases he;rfl
  ·cases he
 |.p n z,q,h,h',a,he,X,k=>by
  unfold Fm.tk at he
  split at he
  ·cases hb:(Nat.beq _ n&&Nat.beq _ z)with
   |false=>rw[hb]at he;cases he
   |true =>
    rw[hb,cond_true]at he
    simp only[Bool.and_eq_true]at hb
    obtain⟨h1,h2⟩:=hb
    cases Yw h1;cases Yw h2;cases he;rfl
  ·cases he
 |.ni,q,h,h',a,he,X,k=>by
  unfold Fm.tk at he
  split at he
  ·cases he;rfl
  ·cases he
 |.np,q,h,h',a,he,X,k=>by
  unfold Fm.tk at he
  split at he
  ·cases he;rfl
  ·cases he
 |.ns,q,h,h',a,he,X,k=>by
  unfold Fm.tk at he
  split at he
  ·cases he;rfl
  ·cases he
 |.b K,q,h,h',a,he,X,k=>by
  unfold Fm.tk at he
  split at he
  ·split at he
   ·next x y hy=>obtain⟨e,e2⟩:=J5y hy;cases e;cases e2;cases he;rfl
   ·cases he
  ·cases he
 |.l K,q,h,h',a,he,X,k=>by
  unfold Fm.tk at he
  split at he
  ·next K' x z =>
   cases hb:Nat.beq z 0 with
   |false=>rw[hb]at he;cases he
   |true =>
    rw[hb,cond_true]at he
    cases Yw hb
    split at he
    ·next y hy=>obtain⟨rfl,e2⟩:=J5y hy;cases e2;cases he;rfl
    ·cases he
  ·cases he
 |.m n g V,q,h,h',a,he,X,k=>by
  unfold Fm.tk at he
  split at he
  ·cases hb:(Nat.beq _ n&&(Nat.beq _ n&&decide (_=g)))with
   |false=>rw[hb]at he;cases he
   |true =>
    rw[hb,cond_true]at he
    simp only[Bool.and_eq_true,decide_eq_true_eq]at hb
    obtain⟨h1,h2,h3⟩:=hb
    cases Yw h1;cases Yw h2;cases h3
    split at he
    ·next x y hy =>
     obtain⟨e,e2⟩:=J5y hy
     cases e;cases e2;cases he;rfl
    ·cases he
  ·cases he
 |.g cs,q,h,h',a,he,X,k=>by
  unfold Fm.tk at he
  split at he
  ·split at he
   ·next a' h'' ha=>cases he;unfold Fm.mk;exact Fms.tk_ok cs ha X _
   ·cases he
  ·cases he
 |.c f cs,q,h,h',a,he,X,k=>by
  unfold Fm.tk at he
  split at he
  ·next f' ps =>
   cases hb:Nat.beq f' f with
   |false=>rw[hb]at he;cases he
   |true =>
    rw[hb,cond_true]at he
    cases Yw hb
    split at he
    ·next a' h'' ha=>cases he;unfold Fm.mk;exact Fms.tk_ok cs ha X _
    ·cases he
  ·cases he
 |.i t f,q,h,h',a,he,X,k=>by
  unfold Fm.tk at he
  split at he
  ·next t' p =>
   cases hb:Nat.beq t' t with
   |false=>rw[hb]at he;cases he
   |true =>
    rw[hb,cond_true]at he
    cases Yw hb
    split at he
    ·next a' h'' ha=>cases he;unfold Fm.mk;exact Fm.tk_ok f ha X _
    ·cases he
  ·cases he
 |.t n,q,h,h',a,he,X,k=>by
  unfold Fm.tk at he
  split at he
  ·cases hb:(Nat.beq _ n&&Nat.beq _ n)with
   |false=>rw[hb]at he;cases he
   |true =>
    rw[hb,cond_true]at he
    simp only[Bool.and_eq_true]at hb
    obtain⟨h1,h2⟩:=hb
    cases Yw h1;cases Yw h2
    split at he
    ·next x hx =>
     unfold J8Z at hx
     split at hx
     ·cases hx;cases he;rfl
     ·cases hx
    ·cases he
  ·cases he
 |.j,q,h,h',a,he,X,k=>by
  unfold Fm.tk at he
  split at he
  ·cases he;rfl
  ·cases he
 |.k K,q,h,h',a,he,X,k=>by
  unfold Fm.tk at he
  split at he
  ·split at he
   ·next x y hy=>obtain⟨e,e2⟩:=J5y hy;cases e;cases e2;cases he;rfl
   ·cases he
  ·cases he
theorem Fms.tk_ok:∀(l:List Fm) {q:List PV} {h h':List (Nm×HObj)} {a:(X:Type)->FmsC l X->X},Fms.tk l q h=some (a,h')->∀(X:Type) (k:List PV->List (Nm×HObj)->X),a X (Fms.mk l h' k)=k q h
 |[],q,h,h',a,he,X,k=>by
  unfold Fms.tk at he
  split at he
  ·cases he;rfl
  ·cases he
 |f::r,q,h,h',a,he,X,k=>by
  unfold Fms.tk at he
  split at he
  ·next p ps =>
   split at he
   ·next a' h1 ha =>
    split at he
    ·next b h2 hb =>
     cases he
     unfold Fms.mk
     have e1:=Fm.tk_ok f hb _ (fun p h=>Fms.mk r h fun ps h=>k (p::ps) h)
     have e2:=Fms.tk_ok r ha X (fun ps h=>k (p::ps) h)
     exact(congrArg (a' X) e1).trans e2
    ·cases he
   ·cases he
  ·cases he
end
def rvA{α : Type}: List α -> List α -> List α
 |[],r=>r
 |x::l,r=>rvA l (x::r)
def rv{α : Type}(l:List α): List α := rvA l []
theorem JmB{α : Type}: ∀ l r:List α,rvA l r=l.reverse++r
 |[],r=>rfl
 |x::l,r=>by rw[rvA,JmB l];simp
theorem Jw5{α : Type}(l:List α): rv (rv l)=l:=by unfold rv;rw[JmB,JmB];simp
def UT(b:Bool)(X:Type): Type:=match b with
 |true=>Unit->X
 |false=>X
def uI:(b:Bool)->{X:Type}->X->UT b X
 |true,_,x=>fun _=>x
 |false,_,x=>x
def uE:(b:Bool)->{X:Type}->UT b X->X
 |true,_,f=>f ()
 |false,_,x=>x
theorem JJC(b:Bool){X:Type}(x:X): uE b (uI b x)=x:=by cases b<;>rfl
def KO:Option (List Fm×List Fm)->Type->Type->Type
 |none,_,X=>X
 |some l,R,X=>UT (Fms.nv (l.1++l.2)) (FmsC (l.1++l.2) (Option R))->X
def Jw6:Fm->PV
 |.o n _ _ _ => .ptr n 0
 |.r n _ => .ptr n 0
 |_ => .un
def JmX(l:List Fm×List Fm){R:Type}(K:UT (Fms.nv (l.1++l.2)) (FmsC (l.1++l.2) (Option R)))(ps:List PV)(h:List (Nm×HObj)): Option R :=
 match Fms.tk (l.1++l.2) (l.1.map Jw6++ps) (rv h)with
 |some (a,[])=>a _ (uE _ K)
 |_=>none
def JmY(l:List Fm×List Fm){R:Type}(out:List PV->List (Nm×HObj)->Option R): UT (Fms.nv (l.1++l.2)) (FmsC (l.1++l.2) (Option R)) :=
 uI _ (Fms.mk (l.1++l.2) [] fun ps h=>out (ps.drop l.1.length) (rv h))
theorem JGH{l:List Fm×List Fm}{R:Type}{out:List PV->List (Nm×HObj)->Option R}{ps:List PV}{h:List (Nm×HObj)}{r:R}(he:JmX l (JmY l out) ps h=some r): out ps h=some r:=by
 unfold JmX at he
 split at he
 ·next a ha =>
  unfold JmY at he
  rw[JJC,Fms.tk_ok _ ha,Jw5]at he
  rw[←he]
  have:l.1.length=(l.1.map Jw6).length:=by simp
  rw[this,List.drop_left]
 ·cases he
def J94:(o:Option (List Fm×List Fm))->{R X:Type}->((List PV->List (Nm×HObj)->Option R)->X)->KO o R X
 |none,_,_,g=>g fun _ _=>none
 |some l,_,_,g=>fun K=>g (JmX l K)
def J5X:(o:Option (List Fm×List Fm))->{R X:Type}->(List PV->List (Nm×HObj)->Option R)->KO o R X->X
 |none,_,_,_,x=>x
 |some l,_,_,out,f=>f (JmY l out)
theorem Jfw(o:Option (List Fm×List Fm)){R X:Type}(out:List PV->List (Nm×HObj)->Option R)(g:(List PV->List (Nm×HObj)->Option R)->X):
 ∃ kr,J5X o out (J94 o g)=g kr∧∀ ps h r,kr ps h=some r->out ps h=some r:=by
 cases o with
 |none=>exact⟨_,rfl,fun _ _ _ h=>by cases h⟩
 |some l=>exact⟨_,rfl,fun _ _ _ h=>JGH h⟩
structure Sh where
 ps:List Fm
 rt:Option (List Fm×List Fm)
 pn:Option (List Fm×List Fm)
abbrev Sh.E(s:Sh)(R:Type): Type:=KO s.rt R (KO s.pn R (Option R))
abbrev Sh.F(s:Sh)(R:Type): Type:=FmsC s.ps (s.E R)
noncomputable def Jgo{R:Type}(kr ke:List PV->List (Nm×HObj)->Option R): Out->Option R
 |.ret ps h=>kr ps h
 |.pan p h=>ke [p] h
noncomputable def Sh.wr(s:Sh){R:Type}(g:(Out->Option R)->Option R): s.E R:=J94 s.rt fun kr=>J94 s.pn fun ke=>g (Jgo kr ke)
noncomputable def Sh.cur(s:Sh){R:Type}(g:List PV->List (Nm×HObj)->(Out->Option R)->Option R): s.F R:=Fms.mk s.ps [] fun ps h=>s.wr (g ps (rv h))
noncomputable def Sh.run(s:Sh)(F:(R:Type)->s.F R){R:Type}(ps:List PV)(hp:List (Nm×HObj))(K:Out->Option R): Option R :=
 match Fms.tk s.ps ps (rv hp)with
 |some (a,[])=>J5X s.pn (fun ps h=>K (.pan (ps.headD .un) h)) (J5X s.rt (fun ps h=>K (.ret ps h)) (a _ (F R)))
 |_=>none
def Jwn:Fm->Nm×LS
 |.o n _ _ cs=>(n,.obj n (Fms.ls cs))
 |.r n _=>(n,.obj n [])
 |_=>(0,.any)
def Jw7:Option (List Fm×List Fm)->List (Nm×LS)
 |some l=>l.1.map Jwn
 |none=>[]
def Sh.sp(s:Sh): RetSpec:=⟨match s.rt with
 |some l=>Fms.ls l.2
 |none=>[],Jw7 s.rt,Jw7 s.pn⟩
def Sh.sig(s:Sh): List LS:=Fms.ls s.ps
theorem Sh.ok (s:Sh) {cx:Ctx} (X:cx.Ok P) (hm:P.follows .mixedOrders=true) {f:FuncId} {fn:Func} (h1:P.funcs[f]? = some fn) (h2:(fn.body.isSome && !(fn.name == "runtime.NumGoroutine")&&Yq fn.ntmps (J1Q fn))=true)
 {k:Nat} {F:(R:Type)->s.F R} (he:∀ R:Type,s.cur (fnW cx k fn s.sp (R:=R))=F R):DOK P f (s.run F):=by
 intro ps hp R K r h
 have h:s.run F ps hp K=some r:=h
 unfold Sh.run at h
 split at h
 ·next a ha =>
  have h:J5X s.pn (fun ps h=>K (.pan (ps.headD .un) h)) (J5X s.rt (fun ps h=>K (.ret ps h)) (a _ (s.cur (fnW cx k fn s.sp (R:=R)))))=some r:=by rw[he R];exact h
  rw[Sh.cur,Fms.tk_ok _ ha,Jw5,Sh.wr]at h
  obtain⟨kr,e1,w1⟩:=Jfw s.rt (fun ps h=>K (.ret ps h)) (fun kr=>J94 s.pn fun ke=>fnW cx k fn s.sp ps hp (Jgo kr ke))
  rw[e1]at h
  obtain⟨ke,e2,w2⟩:=Jfw s.pn (fun ps h=>K (.pan (ps.headD .un) h)) (fun ke=>fnW cx k fn s.sp ps hp (Jgo kr ke))
  rw[e2]at h
  refine JIV X hm h1 h2 h fun o ho => ?_
  cases o with
  |ret qs g=>exact w1 _ _ _ ho
  |pan q g=>exact w2 _ _ _ ho
 ·cases h
theorem Sh.ok0(s:Sh){f:FuncId}{F:(R:Type)->s.F R}(he:∀ R:Type,s.cur (fun _ _ _=>none)=F R): DOK P f (s.run F):=by
 intro ps hp R K r h
 have h:s.run F ps hp K=some r:=h
 unfold Sh.run at h
 split at h
 ·next a ha =>
  have h:J5X s.pn (fun ps h=>K (.pan (ps.headD .un) h)) (J5X s.rt (fun ps h=>K (.ret ps h)) (a _ (s.cur fun _ _ _=>none)))=some r:=by rw[he R];exact h
  rw[Sh.cur,Fms.tk_ok _ ha,Sh.wr]at h
  obtain⟨kr,e1,w1⟩:=Jfw s.rt (fun ps h=>K (.ret ps h)) (fun kr=>J94 s.pn fun ke=>(none:Option R))
  rw[e1]at h
  obtain⟨ke,e2,w2⟩:=Jfw s.pn (fun ps h=>K (.pan (ps.headD .un) h)) (fun ke=>(none:Option R))
  rw[e2]at h
  cases h
 ·cases h
mutual
def Fm.V:Fm->Type
 |.a K=>K.T
 |.s K=>List K.T
 |.w _ _ K=>List K.T
 |.o _ _ _ cs=>Fms.V cs
 |.b K=>List K.T
 |.l K=>K.T
 |.m _ _ V=>List (List UInt8×V.T)
 |.g cs=>Fms.V cs
 |.c _ cs=>Fms.V cs
 |.i _ f=>f.V
 |.t _=>List UInt8×Int
 |.j=>UInt8
 |.k K=>K.T
 |_=>Unit
def Fms.V:List Fm->Type
 |[]=>Unit
 |f::r=>f.V×Fms.V r
end
mutual
def Fm.ap:(f:Fm)->{X:Type}->f.C X->f.V->X
 |.a _,_,g,v=>g v
 |.s _,_,g,v=>g v
 |.w _ _ _,_,g,v=>g v
 |.o _ _ _ cs,_,g,v=>Fms.ap cs g v
 |.r _ _,_,g,_=>g
 |.p _ _,_,g,_=>g
 |.ni,_,g,_=>g
 |.np,_,g,_=>g
 |.ns,_,g,_=>g
 |.b _,_,g,v=>g v
 |.l _,_,g,v=>g v
 |.m _ _ _,_,g,v=>g v
 |.g cs,_,g,v=>Fms.ap cs g v
 |.c _ cs,_,g,v=>Fms.ap cs g v
 |.i _ f,_,g,v=>f.ap g v
 |.t _,_,g,v=>g v.1 v.2
 |.j,_,g,v=>g v
 |.k _,_,g,v=>g v
def Fms.ap:(l:List Fm)->{X:Type}->FmsC l X->Fms.V l->X
 |[],_,g,_=>g
 |f::r,_,g,v=>Fms.ap r (f.ap g v.1) v.2
end
mutual
def Fm.la:(f:Fm)->{X:Type}->(f.V->X)->f.C X
 |.a _,_,g=>g
 |.s _,_,g=>g
 |.w _ _ _,_,g=>g
 |.o _ _ _ cs,_,g=>Fms.la cs g
 |.r _ _,_,g=>g ()
 |.p _ _,_,g=>g ()
 |.ni,_,g=>g ()
 |.np,_,g=>g ()
 |.ns,_,g=>g ()
 |.b _,_,g=>g
 |.l _,_,g=>g
 |.m _ _ _,_,g=>g
 |.g cs,_,g=>Fms.la cs g
 |.c _ cs,_,g=>Fms.la cs g
 |.i _ f,_,g=>f.la g
 |.t _,_,g=>fun x y=>g (x,y)
 |.j,_,g=>g
 |.k _,_,g=>g
def Fms.la:(l:List Fm)->{X:Type}->(Fms.V l->X)->FmsC l X
 |[],_,g=>g ()
 |f::r,_,g=>f.la fun v=>Fms.la r fun w=>g (v,w)
end
mutual
theorem Fm.ap_la:∀(f:Fm) {X:Type} (g:f.V->X) (v:f.V),f.ap (f.la g) v=g v
 |.a _,_,_,_=>rfl
 |.s _,_,_,_=>rfl
 |.w _ _ _,_,_,_=>rfl
 |.o _ _ _ cs,_,g,v=>Fms.ap_la cs g v
 |.r _ _,_,_,_=>rfl
 |.p _ _,_,_,_=>rfl
 |.ni,_,_,_=>rfl
 |.np,_,_,_=>rfl
 |.ns,_,_,_=>rfl
 |.b _,_,_,_=>rfl
 |.l _,_,_,_=>rfl
 |.m _ _ _,_,_,_=>rfl
 |.g cs,_,g,v=>Fms.ap_la cs g v
 |.c _ cs,_,g,v=>Fms.ap_la cs g v
 |.i _ f,_,g,v=>Fm.ap_la f g v
 |.t _,_,_,_=>rfl
 |.j,_,_,_=>rfl
 |.k _,_,_,_=>rfl
theorem Fms.ap_la:∀(l:List Fm) {X:Type} (g:Fms.V l->X) (v:Fms.V l),Fms.ap l (Fms.la l g) v=g v
 |[],_,_,_=>rfl
 |f::r,_,g,v=>by
  have h1:=Fm.ap_la f (fun v=>Fms.la r fun w=>g (v,w)) v.1
  have h2:=Fms.ap_la r (fun w=>g (v.1,w)) v.2
  exact(congrArg (fun y=>Fms.ap r y v.2) h1).trans h2
end
mutual
theorem Fm.la_ap:∀(f:Fm) {X:Type} (g:f.C X),f.la (f.ap g)=g
 |.a _,_,_=>rfl
 |.s _,_,_=>rfl
 |.w _ _ _,_,_=>rfl
 |.o _ _ _ cs,_,g=>Fms.la_ap cs g
 |.r _ _,_,_=>rfl
 |.p _ _,_,_=>rfl
 |.ni,_,_=>rfl
 |.np,_,_=>rfl
 |.ns,_,_=>rfl
 |.b _,_,_=>rfl
 |.l _,_,_=>rfl
 |.m _ _ _,_,_=>rfl
 |.g cs,_,g=>Fms.la_ap cs g
 |.c _ cs,_,g=>Fms.la_ap cs g
 |.i _ f,_,g=>Fm.la_ap f g
 |.t _,_,_=>rfl
 |.j,_,_=>rfl
 |.k _,_,_=>rfl
theorem Fms.la_ap:∀(l:List Fm) {X:Type} (g:FmsC l X),Fms.la l (Fms.ap l g)=g
 |[],_,_=>rfl
 |f::r,_,g=>by
  have h1:(fun v=>Fms.la r fun w=>Fms.ap r (f.ap g v) w)=f.ap g:=funext fun v=>Fms.la_ap r (f.ap g v)
  exact(congrArg f.la h1).trans (Fm.la_ap f g)
end
theorem Fms.ext{l:List Fm}{X:Type}{a b:FmsC l X}(h:∀ v,Fms.ap l a v=Fms.ap l b v): a=b:=by
 rw[←Fms.la_ap l a,←Fms.la_ap l b]
 exact congrArg _ (funext h)
mutual
theorem Fm.ap_mk:∀(f:Fm) (v:f.V) (h:List (Nm×HObj)),∃ p h',∀(X:Type) (k:PV->List (Nm×HObj)->X),f.ap (f.mk h k) v=k p h'
 |.a _,_,_=>⟨_,_,fun _ _=>rfl⟩
 |.s _,_,_=>⟨_,_,fun _ _=>rfl⟩
 |.w _ _ _,_,_=>⟨_,_,fun _ _=>rfl⟩
 |.o n t z cs,v,h=>by
  obtain⟨p,h',e⟩:=Fms.ap_mk cs v h
  exact⟨_,_,fun X k=>e X _⟩
 |.r _ _,_,_=>⟨_,_,fun _ _=>rfl⟩
 |.p _ _,_,_=>⟨_,_,fun _ _=>rfl⟩
 |.ni,_,_=>⟨_,_,fun _ _=>rfl⟩
 |.np,_,_=>⟨_,_,fun _ _=>rfl⟩
 |.ns,_,_=>⟨_,_,fun _ _=>rfl⟩
 |.b _,_,_=>⟨_,_,fun _ _=>rfl⟩
 |.l _,_,_=>⟨_,_,fun _ _=>rfl⟩
 |.m _ _ _,_,_=>⟨_,_,fun _ _=>rfl⟩
 |.g cs,v,h=>by
  obtain⟨p,h',e⟩:=Fms.ap_mk cs v h
  exact⟨_,_,fun X k=>e X _⟩
 |.c _ cs,v,h=>by
  obtain⟨p,h',e⟩:=Fms.ap_mk cs v h
  exact⟨_,_,fun X k=>e X _⟩
 |.i _ f,v,h=>by
  obtain⟨p,h',e⟩:=Fm.ap_mk f v h
  exact⟨_,_,fun X k=>e X _⟩
 |.t _,_,_=>⟨_,_,fun _ _=>rfl⟩
 |.j,_,_=>⟨_,_,fun _ _=>rfl⟩
 |.k _,_,_=>⟨_,_,fun _ _=>rfl⟩
theorem Fms.ap_mk:∀(l:List Fm) (v:Fms.V l) (h:List (Nm×HObj)),∃ ps h',∀(X:Type) (k:List PV->List (Nm×HObj)->X),Fms.ap l (Fms.mk l h k) v=k ps h'
 |[],_,h=>⟨_,_,fun _ _=>rfl⟩
 |f::r,v,h=>by
  obtain⟨p,h1,e1⟩:=Fm.ap_mk f v.1 h
  obtain⟨ps,h2,e2⟩:=Fms.ap_mk r v.2 h1
  exact⟨_,_,fun X k=>(congrArg (fun y=>Fms.ap r y v.2) (e1 _ _)).trans (e2 X _)⟩
end
def KOV:Option (List Fm×List Fm)->Type->Type
 |none,_=>Unit
 |some l,R=>UT (Fms.nv (l.1++l.2)) (FmsC (l.1++l.2) (Option R))
def apO:(o:Option (List Fm×List Fm))->{R X:Type}->KO o R X->KOV o R->X
 |none,_,_,x,_=>x
 |some _,_,_,f,v=>f v
def laO:(o:Option (List Fm×List Fm))->{R X:Type}->(KOV o R->X)->KO o R X
 |none,_,_,g=>g ()
 |some _,_,_,g=>g
theorem Jvm(o:Option (List Fm×List Fm)){R X:Type}(g:KOV o R->X)(v:KOV o R): apO o (laO o g) v=g v:=by cases o<;>rfl
theorem Jvn(o:Option (List Fm×List Fm)){R X:Type}(g:KO o R X): laO o (apO o g)=g:=by cases o<;>rfl
theorem JuC(o:Option (List Fm×List Fm)){R:Type}(v:KOV o R): ∃ kr,∀(X:Type) (g:(List PV->List (Nm×HObj)->Option R)->X),apO o (J94 o g) v=g kr:=by
 cases o with
 |none=>exact⟨_,fun _ _=>rfl⟩
 |some l=>exact⟨_,fun _ _=>rfl⟩
abbrev Sh.EV(s:Sh)(R:Type): Type:=KOV s.rt R×KOV s.pn R
def Sh.apE(s:Sh){R:Type}(g:s.E R)(e:s.EV R): Option R:=apO s.pn (apO s.rt g e.1) e.2
def Sh.laE(s:Sh){R:Type}(g:s.EV R->Option R): s.E R:=laO s.rt fun v=>laO s.pn fun w=>g (v,w)
theorem Sh.apE_la(s:Sh){R:Type}(g:s.EV R->Option R)(e:s.EV R): s.apE (s.laE g) e=g e:=by
 unfold Sh.apE Sh.laE;rw[Jvm,Jvm]
theorem Sh.laE_ap(s:Sh){R:Type}(g:s.E R): s.laE (s.apE g)=g:=by
 unfold Sh.laE Sh.apE
 have:(fun v=>laO s.pn fun w=>apO s.pn (apO s.rt g v) w)=apO s.rt g:=funext fun v=>Jvn s.pn _
 exact(congrArg (laO s.rt) this).trans (Jvn s.rt g)
theorem Sh.apE_wr(s:Sh){R:Type}(e:s.EV R): ∃ W,∀ g:(Out->Option R)->Option R,s.apE (s.wr g) e=g W:=by
 obtain⟨kr,h1⟩:=JuC s.rt e.1
 obtain⟨ke,h2⟩:=JuC s.pn e.2
 exact⟨Jgo kr ke,fun g=>by unfold Sh.apE Sh.wr;rw[h1,h2]⟩
theorem Sh.ext(s:Sh){l:List Fm}{R:Type}{a b:FmsC l (s.E R)}(h:∀ v e,s.apE (Fms.ap l a v) e=s.apE (Fms.ap l b v) e): a=b :=
 Fms.ext fun v=>by rw[←s.laE_ap (Fms.ap l a v),←s.laE_ap (Fms.ap l b v)];exact congrArg _ (funext (h v))
structure Cu where
 n:Nat
 sl:List Nat
 fs:List Fm
def Jwo:List Nat->List PV->List (Nat×PV)
 |i::l,p::r=>(i,p)::Jwo l r
 |_,_=>[]
def Cu.cur(c:Cu){X:Type}(g:St->X): FmsC c.fs X:=Fms.mk c.fs [] fun ps h=>g ⟨mkT (Jwo c.sl (ps.drop c.n)),mkH (rv h)⟩
theorem Cu.ap_cur(c:Cu)(v:Fms.V c.fs): ∃ st,∀(X:Type) (g:St->X),Fms.ap c.fs (c.cur g) v=g st:=by
 obtain⟨ps,h,e⟩:=Fms.ap_mk c.fs v []
 exact⟨_,fun X g=>e X _⟩
def Jwp:List Nat->List Fm->List (Nat×LS)
 |i::l,p::r=>(i,p.ls)::Jwp l r
 |_,_=>[]
def Cu.spec(c:Cu): CutSpec:=⟨Jwp c.sl (c.fs.drop c.n),(c.fs.take c.n).map Jwn⟩
def Sh.glue(s:Sh){l u:List Fm}{R:Type}(A:FmsC u (Option R)->FmsC l (s.E R))(g:FmsC u (s.E R)): FmsC l (s.E R) :=
 Fms.la l fun v=>s.laE fun e=>s.apE (Fms.ap l (A (Fms.la u fun w=>s.apE (Fms.ap u g w) e)) v) e
theorem Sh.ap_glue(s:Sh){l u:List Fm}{R:Type}(A:FmsC u (Option R)->FmsC l (s.E R))(g:FmsC u (s.E R))(v:Fms.V l)(e:s.EV R):
 s.apE (Fms.ap l (s.glue A g) v) e=s.apE (Fms.ap l (A (Fms.la u fun w=>s.apE (Fms.ap u g w) e)) v) e:=by
 unfold Sh.glue;rw[Fms.ap_la,Sh.apE_la]
def Sh.lp(s:Sh)(u:Cu)(cx:Ctx)(k:Nat)(fn:Func)(id:Nat)(p:List Nat){R:Type}(I:Nat->St->Option R)(n:Nat): FmsC u.fs (s.E R):=u.cur fun st=>s.wr (J3D cx k fn s.sp id p I n st)
def Sh.bd(s:Sh)(u:Cu)(cx:Ctx)(k:Nat)(fn:Func)(p:List Nat){R:Type}(I:Nat->St->Option R): FmsC u.fs (s.E R):=u.cur fun st=>s.wr (JmW cx k fn s.sp p I st)
theorem Sh.lok (s:Sh) (u:Cu) {cx:Ctx} {k:Nat} {fn:Func} {id:Nat} {p:List Nat} {R:Type} {B:FmsC u.fs (Option R)->FmsC u.fs (s.E R)} {L:Nat->FmsC u.fs (s.E R)}
 (hB:∀ I:Nat->St->Option R,s.bd u cx k fn (p++[0]) I=B (u.cur (I id)))
 (h0:∀ I:Nat->St->Option R,s.lp u cx k fn id p I 0=L 0) (hS:∀ n,s.glue B (L n)=L (n+1))
 (hT:∀(I:Nat->St->Option R) n st W,J3D cx k fn s.sp id p I (n+1) st W=JmW cx k fn s.sp (p++[0]) (upI id (fun st=>J3D cx k fn s.sp id p I n st W) I) st W)
 (I:Nat->St->Option R) (n:Nat):s.lp u cx k fn id p I n=L n:=by
 induction n with
 |zero=>exact h0 I
 |succ n ih =>
  rw[←hS]
  refine s.ext fun v e => ?_
  rw[s.ap_glue]
  obtain⟨st,hst⟩:=u.ap_cur v
  obtain⟨W,hW⟩:=s.apE_wr e
  have e1:(Fms.la u.fs fun w=>s.apE (Fms.ap u.fs (L n) w) e)=u.cur (upI id (fun st=>J3D cx k fn s.sp id p I n st W) I id):=by
   rw[←Fms.la_ap u.fs (u.cur (upI id _ I id))]
   refine congrArg _ (funext fun w => ?_)
   obtain⟨st',hst'⟩:=u.ap_cur w
   rw[hst',JtX,←ih]
   unfold Sh.lp
   rw[hst',hW]
  rw[e1,←hB]
  unfold Sh.lp Sh.bd
  rw[hst,hst,hW,hW,hT]
theorem Sh.lokA (s:Sh) (u:Cu) {cx:Ctx} {k:Nat} {fn:Func} {id:Nat} {p:List Nat} {R:Type} (B:(Nat->St->Option R)->FmsC u.fs (Option R)->FmsC u.fs (s.E R)) (L:(Nat->St->Option R)->Nat->FmsC u.fs (s.E R))
 (hI:∀ I f,B (upI id f I)=B I) (hB:∀ I:Nat->St->Option R,s.bd u cx k fn (p++[0]) I=B I (u.cur (I id)))
 (h0:∀ I:Nat->St->Option R,s.lp u cx k fn id p I 0=L I 0) (hS:∀ I n,s.glue (B I) (L I n)=L I (n+1))
 (hT:∀(I:Nat->St->Option R) n st W,J3D cx k fn s.sp id p I (n+1) st W=JmW cx k fn s.sp (p++[0]) (upI id (fun st=>J3D cx k fn s.sp id p I n st W) I) st W)
 (I:Nat->St->Option R) (n:Nat):s.lp u cx k fn id p I n=L I n:=by
 induction n with
 |zero=>exact h0 I
 |succ n ih =>
  rw[←hS]
  refine s.ext fun v e => ?_
  rw[s.ap_glue]
  obtain⟨st,hst⟩:=u.ap_cur v
  obtain⟨W,hW⟩:=s.apE_wr e
  have e1:(Fms.la u.fs fun w=>s.apE (Fms.ap u.fs (L I n) w) e)=u.cur (upI id (fun st=>J3D cx k fn s.sp id p I n st W) I id):=by
   rw[←Fms.la_ap u.fs (u.cur (upI id _ I id))]
   refine congrArg _ (funext fun w => ?_)
   obtain⟨st',hst'⟩:=u.ap_cur w
   rw[hst',JtX,←ih]
   unfold Sh.lp
   rw[hst',hW]
  rw[e1,←hI I (fun st=>J3D cx k fn s.sp id p I n st W),←hB]
  unfold Sh.lp Sh.bd
  rw[hst,hst,hW,hW,hT]
structure Ent where
 f:FuncId
 sig:List LS
 run:{R:Type}->List PV->List (Nm×HObj)->(Out->Option R)->Option R
def Jni:List Ent->CTab
 |[] => .nil
 |e::r => .add e.f e.sig e.run (Jni r)
def Sh.e(s:Sh)(f:FuncId)(F:(R:Type)->s.F R): Ent:=⟨f,s.sig,s.run F⟩
def J8S(P:Program): List Ent->Prop
 |[]=>True
 |e::r=>DOK P e.f e.run∧J8S P r
theorem JuD:∀ {l:List Ent},J8S P l->(Jni l).Ok P
 |[],_=>CTab.nil_ok
 |e::r,h=>J8D h.1 (JuD h.2)
structure Cxt where
 l:List Ent
 pv:List Nm
 cuts:List (Nat×CutSpec)
 plans:List (Nat×Plan)
end
end Go.Proofs.YtabkhphoacmcdaaGreatDoor.Pvm
set_option maxRecDepth 1000000
namespace Go.Proofs.YtabkhphoacmcdaaGreatDoor.Pvm
section
open Go Go.Proofs
noncomputable section
def Cxt.cx(x:Cxt): Ctx:=⟨tyT,x.cuts,Jni x.l,[],x.pv,x.plans,@SH⟩
def Sh.at(s:Sh)(x:Cxt)(k:Nat)(fn:Func)(R:Type): s.F R:=s.cur (fnW x.cx k fn s.sp (R:=R))
theorem ok0:J8S Tryz.prog []:=trivial
theorem ok1{e:Ent}{l:List Ent}(h:DOK Tryz.prog e.f e.run)(hl:J8S Tryz.prog l): J8S Tryz.prog (e::l):=And.intro h hl
theorem dok (s:Sh) (x:Cxt) {f:FuncId} (fn:Func) (k:Nat) {F:(R:Type)->s.F R} (hl:J8S Tryz.prog x.l) (h1:Tryz.prog.funcs[f]? = some fn) (h2:(fn.body.isSome && !(fn.name == "runtime.NumGoroutine")&&Yq fn.ntmps (J1Q fn))=true)
 (he:∀ R:Type,s.at x k fn R=F R):DOK Tryz.prog f (s.run F):=s.ok (cx:=x.cx) ⟨J18,JuD hl,fun _ _=>rfl⟩ mixed h1 h2 he
theorem Sh.f1(s:Sh)(u:Cu){R:Type}(A:FmsC u.fs (Option R)->s.F R){a b:FmsC u.fs (s.E R)}{F G:s.F R}(h1:G=s.glue A a)(h:a=b)(h2:s.glue A b=F): G=F:=by
 subst h;exact h1.trans h2
end
end
section
open Go
abbrev J0:=List UInt8
abbrev J6:=List Int
abbrev Jt:=List (List UInt8)
abbrev J7:=List ((List UInt8)×(List Int))
abbrev J9:=List Uc
abbrev J3:=List QL
abbrev Q8:=List JJB
abbrev Jc:=List QS
end
end Go.Proofs.YtabkhphoacmcdaaGreatDoor.Pvm
set_option maxHeartbeats 0
namespace Go.Proofs.YtabkhphoacmcdaaGreatDoor.Pvm
open Go Go.Proofs
def J5b:Sh:=⟨[.a .str],some ([],[.a .bool]),none⟩
abbrev Jju:Type 1:=(R:Type)->J0->(Bool->Option R)->Option R
def Jdv:Cu:=⟨0,[0,5,6],[.a .str,.a kI,.a kI]⟩
def Jrw(k:Nat): Cxt:=⟨[],[],[(1002,Jdv.spec)],[]⟩
def Jdw(k:Nat){R:Type}(E1002:(J0->Int->Int->Option R))(s0:J0)(s1 s2:Int)(K:(Bool->Option R)): Option R:=cond (decide (s2<s1)) (cond (inb s2 (s0.length:Int)) (cond ((!((decide (((s0.getD s2.toNat 0).toNat:Int)<33)) == false)) || (inb s2 (s0.length:Int))) (cond (cond (decide (((s0.getD s2.toNat 0).toNat:Int)<33)) true (decide (((s0.getD s2.toNat 0).toNat:Int)>126))) (K false) (E1002 s0 s1 (IntKind.i64.wrap (s2+1)))) none) none) (K (cond (decide ((s0.length:Int)≥1)) (decide ((s0.length:Int)≤64)) false))
def Jk3(k:Nat){R:Type}(E1002:(J0->Int->Int->Option R))(x0:J0)(K:(Bool->Option R)): Option R:=E1002 x0 (x0.length:Int) 0
def J4C(k:Nat){R:Type}: Nat->J0->Int->Int->(Bool->Option R)->Option R
 |0,_,_,_,_=>none
 |n+1,s0,s1,s2,K=>Jdw k (fun s0 s1 s2=>J4C k n s0 s1 s2 K) s0 s1 s2 K
theorem JyJ(k:Nat){R:Type}: ∀(I:Nat->St->Option R) (n:Nat),J5b.lp Jdv (Jrw k).cx k Tryz.f33 1002 [1,0,1,0] I n=J4C k n:=J5b.lok Jdv (B:=Jdw k) (L:=J4C k) (fun I=>by kernel_rfl) (fun I=>by kernel_rfl) (fun n=>by kernel_rfl) (fun _ _ _ _=>rfl)
def J1w(k:Nat){R:Type}(x0:J0)(K:(Bool->Option R)): Option R:=Jk3 k (fun s0 s1 s2=>J4C k k s0 s1 s2 K) x0 K
theorem JeL(k:Nat): DOK Tryz.prog 33 (J5b.run (@J1w k)):=dok J5b (Jrw k) Tryz.f33 k ok0 (by kernel_rfl) (by kernel_rfl) fun R=>J5b.f1 Jdv (Jk3 k) (by kernel_rfl) (JyJ k (fun _ _=>none) k) (by kernel_rfl)
def Jk4(k:Nat): Ent:=J5b.e 33 (@J1w k)
def Jhb:Sh:=⟨[.a .flt],some ([],[.a .bool]),none⟩
def JyK(k:Nat): Cxt:=⟨[],[],[],[]⟩
def Jcv(k:Nat){R:Type}(x0:Nat)(K:(Bool->Option R)): Option R:=K (@Jr @Go.BinOp.neq x0 x0)
def J4b:=@Jcv
theorem JyL(k:Nat): DOK Tryz.prog 247 (Jhb.run (@J4b k)):=dok Jhb (JyK k) Tryz.f247 k ok0 (by kernel_rfl) (by kernel_rfl) fun R=>by kernel_rfl
def JyM(k:Nat): Ent:=Jhb.e 247 (@J4b k)
def Jc8:Sh:=⟨[.a .flt,.a .flt],some ([],[.a kI]),none⟩
abbrev JgT:Type 1:=(R:Type)->Nat->Nat->(Int->Option R)->Option R
def JxP(k:Nat): Cxt:=⟨[JyM k],[],[],[]⟩
def Jc9(k:Nat){R:Type}(x0 x1:Nat)(K:(Int->Option R)): Option R:=J4b k x0 (fun y5=>J4b k x1 (fun y6=>cond y5 (cond y6 (K 0) (K (-(1:Int)))) (cond y6 (K 1) (cond (@Jr @Go.BinOp.lss x0 x1) (K (-(1:Int))) (cond (@Jr @Go.BinOp.gtr x0 x1) (K 1) (K 0))))))
def J1W:=@Jc9
theorem JnT(k:Nat): DOK Tryz.prog 217 (Jc8.run (@J1W k)):=dok Jc8 (JxP k) Tryz.f217 k (ok1 (JyL k) ok0) (by kernel_rfl) (by kernel_rfl) fun R=>by kernel_rfl
def JxQ(k:Nat): Ent:=Jc8.e 217 (@J1W k)
def Jik:Sh:=⟨[.a kI],some ([],[.a .bool]),none⟩
def JAY(k:Nat): Cxt:=⟨[],[],[],[]⟩
def JdU(k:Nat){R:Type}(x0:Int)(K:(Bool->Option R)): Option R:=K (x0 != x0)
def J4N:=@JdU
theorem JAZ(k:Nat): DOK Tryz.prog 246 (Jik.run (@J4N k)):=dok Jik (JAY k) Tryz.f246 k ok0 (by kernel_rfl) (by kernel_rfl) fun R=>by kernel_rfl
def JB0(k:Nat): Ent:=Jik.e 246 (@J4N k)
def JhP:Sh:=⟨[.a kI,.a kI],some ([],[.a kI]),none⟩
abbrev Jhp:Type 1:=(R:Type)->Int->Int->(Int->Option R)->Option R
def JzO(k:Nat): Cxt:=⟨[JB0 k],[],[],[]⟩
def Jd7(k:Nat){R:Type}(x0 x1:Int)(K:(Int->Option R)): Option R:=J4N k x0 (fun y5=>J4N k x1 (fun y6=>cond y5 (cond y6 (K 0) (K (-(1:Int)))) (cond y6 (K 1) (cond (decide (x0<x1)) (K (-(1:Int))) (cond (decide (x0>x1)) (K 1) (K 0))))))
def J35:=@Jd7
theorem JzP(k:Nat): DOK Tryz.prog 216 (JhP.run (@J35 k)):=dok JhP (JzO k) Tryz.f216 k (ok1 (JAZ k) ok0) (by kernel_rfl) (by kernel_rfl) fun R=>by kernel_rfl
theorem JtY{h:Je}{G:Gh}{w:World}{P:Program}{x:List Int}{v:Value}(hv:RV h G w (.v (.sl (.int .u8)) x) v): (Extern.Bytes.bytesOf v).run P w = .ok ⟨(Q5 x).toArray⟩ w:=by
 obtain⟨A,cap,e,hcap,hr⟩:=hv
 simp only[List.cons.injEq,and_true]at e
 subst e
 rcases hr with rfl|⟨ad,rfl,h1,h2,h3⟩
 ·cases A with
  |none=>rfl
  |some a=>rfl
 ·have hl:=Lib.run_loadBytesX (P:=P) w x ad .empty (fun j y hj=>by
   obtain⟨c,hc,hu⟩:=h3 j y hj
   have hc':c=[.int .u8 y]:=hc
   subst hc'
   have:=hu 0 _ rfl
   have e1:j*(Kd.int .u8).sz+0=j:=by simp[Kd.sz]
   rw[e1]at this
   exact this)
  have e2:(⟨ByteArray.empty.data++(Lib.bytesOf x).toArray⟩:ByteArray)=⟨(Q5 x).toArray⟩:=by
   apply ByteArray.ext
   show(#[]:Array UInt8)++(Lib.bytesOf x).toArray=(Q5 x).toArray
   simp[Lib.bytesOf,Q5]
  rw[e2]at hl
  exact hl
theorem Jfd{G:Gh}{w:World}: Fin [] [] G w G w :=
 ⟨fun n o h=>(by cases h),fun n m b h=>(by simp[Jd,mkH,Jx]at h),fun n t cs h=>(by cases h),fun n ag V es h=>(by cases h),fun _ _ _=>rfl,rfl,fun n b h=>(by simp[Jd,mkH,Jx]at h),Nat.le_refl _,rfl,rfl,rfl⟩
theorem Jfx {P:Program} {f:FuncId} {fn:Func} {g:Array Value->Sem Value} (h1:P.funcs[f]? = some fn) (h2:(fn.name == "runtime.NumGoroutine")=false) (h3:fn.body.isNone=true) (h4:(Extern.findNext fn).isNone=true)
 (h5:Extern.find fn=some g) (args:Array Value) (w:World) {v:Value} (h6:(g args).run P w = .ok v w):(callFunc f args).run P w = .ok (.value v) w:=by
 have h4':Extern.findNext fn=none:=by
  cases hq:Extern.findNext fn with
  |none=>rfl
  |some e=>rw[hq]at h4;cases h4
 have h2':¬ fn.name = "runtime.NumGoroutine" := by simpa using h2
 have e1:(callFunc f args).run P w=(g args >>= fun v=>pure (Next.value v)).run P w:=by
  unfold callFunc
  rw[Sem.run_bind]
  have e2:(program).run P w = .ok P w:=rfl
  rw[e2,Result.andThen_ok,h1]
  simp only[h2,h3,if_true,Bool.false_eq_true,if_false]
  rw[Sem.run_bind]
  have e3:(mark (.extern f)).run P w = .ok () w:=rfl
  rw[e3,Result.andThen_ok,h4',h5]
 rw[e1,Sem.run_bind,h6]
 rfl
def Jh2:List LS:=[.any]
def J1r(k:Nat){R:Type}(x0:Nat)(K:Int->Option R): Option R:=K (x0:Int)
noncomputable def J9l(k:Nat){R:Type}: List PV->List (Nm×HObj)->(Out->Option R)->Option R
 |[.v (.flt) x0],[],K=>J1r k x0 (fun y0=>K (.ret [.v (.int .u64) y0] []))
 |_,_,_=>none
theorem Jhq(k:Nat){ps:List PV}{hp:List (Nm×HObj)}{R:Type}{K:Out->Option R}{r:R}(h:J9l k ps hp K=some r): DoesTo Tryz.prog 170 ps hp fun out=>K out=some r:=by
 unfold J9l at h
 split at h
 ·next x0 =>
  intro G w vals hr obj dis
  obtain⟨v0,l0,rfl,h0,rfl⟩:=hr
  have e0:v0 = .float .f64 x0:=by simpa [RV,RD]using h0
  subst e0
  have hrun:(callFunc 170 #[.float .f64 x0]).run Tryz.prog w = .ok (.value (.int .u64 (x0:Int))) w :=
   Jfx (fn:=Tryz.f170) (g:=Extern.MathFloatBits.float64bits) (by kernel_rfl) (by kernel_rfl) (by kernel_rfl) (by kernel_rfl) (by kernel_rfl) _ w rfl
  show Does _ _ #[_] _ _
  unfold Does
  rw[hrun]
  exact⟨.ret [.v (.int .u64) _] [],h,G,⟨_,rfl,rfl⟩,Jfd⟩
 ·cases h
def J7q:Sh:=⟨[.a .flt],some ([],[.a .bool]),none⟩
abbrev Z8:Type 1:=(R:Type)->Nat->(Bool->Option R)->Option R
def JBv(k:Nat): Cxt:=⟨[⟨170,Jh2,J9l k⟩],[],[],[]⟩
def Je6(k:Nat){R:Type}(x0:Nat)(K:(Bool->Option R)): Option R:=J1r k x0 (fun y4=>K (decide ((IntKind.i64.wrap y4)<0)))
def U9:=@Je6
theorem Je7(k:Nat): DOK Tryz.prog 161 (J7q.run (@U9 k)):=dok J7q (JBv k) Tryz.f161 k (ok1 (fun _ _ _ _ _ h=>Jhq k h) ok0) (by kernel_rfl) (by kernel_rfl) fun R=>by kernel_rfl
def JBw(k:Nat): Ent:=J7q.e 161 (@U9 k)
def J9X:Sh:=⟨[.a .flt],some ([],[.a .bool]),none⟩
abbrev J7w:Type 1:=(R:Type)->Nat->(Bool->Option R)->Option R
def JDl(k:Nat): Cxt:=⟨[],[],[],[]⟩
def J1v(k:Nat){R:Type}(x0:Nat)(K:(Bool->Option R)): Option R:=K (@Jr @Go.BinOp.neq x0 x0)
def QO:=@J1v
theorem J9Y(k:Nat): DOK Tryz.prog 134 (J9X.run (@QO k)):=dok J9X (JDl k) Tryz.f134 k ok0 (by kernel_rfl) (by kernel_rfl) fun R=>by kernel_rfl
def Jjv(k:Nat): Ent:=J9X.e 134 (@QO k)
def JiZ:Sh:=⟨[.a .flt],some ([],[.a kI]),none⟩
abbrev JiA:Type 1:=(R:Type)->Nat->(Int->Option R)->Option R
def JC5(k:Nat): Cxt:=⟨[Jjv k,JxQ k],[],[],[]⟩
def Jj0(k:Nat){R:Type}(x0:Nat)(K:(Int->Option R)): Option R:=QO k x0 (fun y4=>cond y4 (K 2) (J1W k x0 0 K))
def J3c:=@Jj0
theorem JC6(k:Nat): DOK Tryz.prog 215 (JiZ.run (@J3c k)):=dok JiZ (JC5 k) Tryz.f215 k (ok1 (J9Y k) (ok1 (JnT k) ok0)) (by kernel_rfl) (by kernel_rfl) fun R=>by kernel_rfl
def Jee:Sh:=⟨[.a .flt,.a .flt],some ([],[.a kI]),none⟩
def JpV(k:Nat)(Q1:Z8)(J53:JiA)(J7b:Jhp)(J6y:JgT): Cxt:=⟨[J7q.e 161 Q1,JiZ.e 215 J53,JhP.e 216 J7b,Jc8.e 217 J6y],[],[],[]⟩
def J7x(k:Nat)(Q1:Z8)(J53:JiA)(J7b:Jhp)(J6y:JgT){R:Type}(x0 x1:Nat)(K:(Int->Option R)): Option R:=J53 R x0 (fun y5=>J53 R x1 (fun y6=>cond (y5 != y6) (J7b R y5 y6 K) (cond (y5 == 2) (K 0) (cond (y5 != 0) (J6y R x0 x1 K) (Q1 R x0 (fun y7=>Q1 R x1 (fun y8=>cond (y7 == y8) (K 0) (cond y7 (K (-(1:Int))) (K 1)))))))))
theorem JC7(k:Nat)(Q1:Z8)(J53:JiA)(J7b:Jhp)(J6y:JgT)(R:Type): Jee.at (JpV k Q1 J53 J7b J6y) k Tryz.f181 R=@J7x k Q1 J53 J7b J6y R:=by kernel_rfl
def Yy(k:Nat){R:Type}:= @J7x k (@U9 k) (@J3c k) (@J35 k) (@J1W k) R
theorem JpW(k:Nat): DOK Tryz.prog 181 (Jee.run (@Yy k)):=dok Jee (JpV k (@U9 k) (@J3c k) (@J35 k) (@J1W k)) Tryz.f181 k (ok1 (Je7 k) (ok1 (JC6 k) (ok1 (JzP k) (ok1 (JnT k) ok0)))) (by kernel_rfl) (by kernel_rfl) fun R=>JC7 k (@U9 k) (@J3c k) (@J35 k) (@J1W k) R
def JpX(k:Nat): Ent:=Jee.e 181 (@Yy k)
def J9Z:Sh:=⟨[.a .flt,.a .flt],some ([],[.a .bool]),none⟩
abbrev J0k:Type 1:=(R:Type)->Nat->Nat->(Bool->Option R)->Option R
def JDm(k:Nat): Cxt:=⟨[JpX k],[],[],[]⟩
def Jjw(k:Nat){R:Type}(x0 x1:Nat)(K:(Bool->Option R)): Option R:=Yy k x0 x1 (fun y5=>K (y5 == 0))
def Y7:=@Jjw
theorem Jjx(k:Nat): DOK Tryz.prog 140 (J9Z.run (@Y7 k)):=dok J9Z (JDm k) Tryz.f140 k (ok1 (JpW k) ok0) (by kernel_rfl) (by kernel_rfl) fun R=>by kernel_rfl
def JDn(k:Nat): Ent:=J9Z.e 140 (@Y7 k)
def JbS:List LS:=[.any]
def J2W(k:Nat){R:Type}(x0:Int)(K:Nat->Option R): Option R:=K x0.toNat
noncomputable def J6k(k:Nat){R:Type}: List PV->List (Nm×HObj)->(Out->Option R)->Option R
 |[.v (.int .u64) x0],[],K=>J2W k x0 (fun y0=>K (.ret [.v (.flt) y0] []))
 |_,_,_=>none
theorem Jc4(k:Nat){ps:List PV}{hp:List (Nm×HObj)}{R:Type}{K:Out->Option R}{r:R}(h:J6k k ps hp K=some r): DoesTo Tryz.prog 167 ps hp fun out=>K out=some r:=by
 unfold J6k at h
 split at h
 ·next x0 =>
  intro G w vals hr obj dis
  obtain⟨v0,l0,rfl,h0,rfl⟩:=hr
  have e0:v0 = .int .u64 x0:=by simpa [RV,RD]using h0
  subst e0
  have hrun:(callFunc 167 #[.int .u64 x0]).run Tryz.prog w = .ok (.value (.float .f64 x0.toNat)) w :=
   Jfx (fn:=Tryz.f167) (g:=Extern.MathFloatBits.float64frombits) (by kernel_rfl) (by kernel_rfl) (by kernel_rfl) (by kernel_rfl) (by kernel_rfl) _ w rfl
  show Does _ _ #[_] _ _
  unfold Does
  rw[hrun]
  exact⟨.ret [.v (.flt) _] [],h,G,⟨_,rfl,rfl⟩,Jfd⟩
 ·cases h
def J8e:Sh:=⟨[.a .flt],some ([],[.a .flt]),none⟩
abbrev Zd:Type 1:=(R:Type)->Nat->(Nat->Option R)->Option R
def JFF(k:Nat): Cxt:=⟨[⟨167,JbS,J6k k⟩,⟨170,Jh2,J9l k⟩],[],[],[]⟩
def Jsn(k:Nat){R:Type}(x0:Nat)(K:(Nat->Option R)): Option R:=J1r k x0 (fun y4=>J2W k (ZD @Go.BinOp.andNot Go.IntKind.u64 y4 9223372036854775808) K)
def Ub:=@Jsn
theorem JeU(k:Nat): DOK Tryz.prog 172 (J8e.run (@Ub k)):=dok J8e (JFF k) Tryz.f172 k (ok1 (fun _ _ _ _ _ h=>Jc4 k h) (ok1 (fun _ _ _ _ _ h=>Jhq k h) ok0)) (by kernel_rfl) (by kernel_rfl) fun R=>by kernel_rfl
def JFG(k:Nat): Ent:=J8e.e 172 (@Ub k)
def JkE:Sh:=⟨[.a kI],some ([],[.a kI]),none⟩
def JFH(k:Nat): Cxt:=⟨[],[],[],[]⟩
def Jso(k:Nat){R:Type}(x0:Int)(K:(Int->Option R)): Option R:=K (cond false (@ite (@Kd.T kI) ((4611686018427387904:Int)>(cond true (@ite (@Kd.T kI) ((0:Int)>x0) (@Int.decLt x0 (0:Int)) (0:Int) x0) (@ite (@Kd.T kI) ((0:Int)<x0) (@Int.decLt (0:Int) x0) (0:Int) x0))) (@Int.decLt (cond true (@ite (@Kd.T kI) ((0:Int)>x0) (@Int.decLt x0 (0:Int)) (0:Int) x0) (@ite (@Kd.T kI) ((0:Int)<x0) (@Int.decLt (0:Int) x0) (0:Int) x0)) (4611686018427387904:Int)) (4611686018427387904:Int) (cond true (@ite (@Kd.T kI) ((0:Int)>x0) (@Int.decLt x0 (0:Int)) (0:Int) x0) (@ite (@Kd.T kI) ((0:Int)<x0) (@Int.decLt (0:Int) x0) (0:Int) x0))) (@ite (@Kd.T kI) ((4611686018427387904:Int)<(cond true (@ite (@Kd.T kI) ((0:Int)>x0) (@Int.decLt x0 (0:Int)) (0:Int) x0) (@ite (@Kd.T kI) ((0:Int)<x0) (@Int.decLt (0:Int) x0) (0:Int) x0))) (@Int.decLt (4611686018427387904:Int) (cond true (@ite (@Kd.T kI) ((0:Int)>x0) (@Int.decLt x0 (0:Int)) (0:Int) x0) (@ite (@Kd.T kI) ((0:Int)<x0) (@Int.decLt (0:Int) x0) (0:Int) x0))) (4611686018427387904:Int) (cond true (@ite (@Kd.T kI) ((0:Int)>x0) (@Int.decLt x0 (0:Int)) (0:Int) x0) (@ite (@Kd.T kI) ((0:Int)<x0) (@Int.decLt (0:Int) x0) (0:Int) x0))))
def J1x:=@Jso
theorem JkF(k:Nat): DOK Tryz.prog 256 (JkE.run (@J1x k)):=dok JkE (JFH k) Tryz.f256 k ok0 (by kernel_rfl) (by kernel_rfl) fun R=>by kernel_rfl
def JkG(k:Nat): Ent:=JkE.e 256 (@J1x k)
def J3i:Sh:=⟨[.a kI],some ([],[.a .str]),none⟩
abbrev J0l:Type 1:=(R:Type)->Int->(J0->Option R)->Option R
def Jd8:Cu:=⟨0,[0,3],[.a kI,.s (.int .u8)]⟩
def JqH(k:Nat): Cxt:=⟨[JkG k],[],[(1004,Jd8.spec)],[]⟩
def Jd9(k:Nat){R:Type}(E1004:(Int->J6->Option R))(s0:Int)(s1:J6)(K:(J0->Option R)): Option R:=cond (decide (s0>0)) (cond (Ju (@List.length (@Kd.T (@Kd.int Go.IntKind.u8)) [(IntKind.u8.wrap (IntKind.i64.wrap ((48:Int)+(Int.tmod s0 10))))]) s1.length 1) (E1004 (IntKind.i64.wrap (Int.tdiv s0 10)) ([(IntKind.u8.wrap (IntKind.i64.wrap ((48:Int)+(Int.tmod s0 10))))]++s1)) none) (K (Q5 s1))
def Jjy(k:Nat){R:Type}(E1004:(Int->J6->Option R))(x0:Int)(K:(J0->Option R)): Option R:=J1x k x0 (fun y5=>E1004 (IntKind.i64.wrap (Int.tdiv y5 10)) [(IntKind.u8.wrap (IntKind.i64.wrap ((48:Int)+(Int.tmod y5 10))))])
def J4s(k:Nat){R:Type}: Nat->Int->J6->(J0->Option R)->Option R
 |0,_,_,_=>none
 |n+1,s0,s1,K=>Jd9 k (fun s0 s1=>J4s k n s0 s1 K) s0 s1 K
theorem Jyg(k:Nat){R:Type}: ∀(I:Nat->St->Option R) (n:Nat),J3i.lp Jd8 (JqH k).cx k Tryz.f233 1004 [1,1,1,0,1,0] I n=J4s k n:=J3i.lok Jd8 (B:=Jd9 k) (L:=J4s k) (fun I=>by kernel_rfl) (fun I=>by kernel_rfl) (fun n=>by kernel_rfl) (fun _ _ _ _=>rfl)
def Yz(k:Nat){R:Type}(x0:Int)(K:(J0->Option R)): Option R:=Jjy k (fun s0 s1=>J4s k k s0 s1 K) x0 K
theorem Jer(k:Nat): DOK Tryz.prog 233 (J3i.run (@Yz k)):=dok J3i (JqH k) Tryz.f233 k (ok1 (JkF k) ok0) (by kernel_rfl) (by kernel_rfl) fun R=>J3i.f1 Jd8 (Jjy k) (by kernel_rfl) (Jyg k (fun _ _=>none) k) (by kernel_rfl)
def JqI(k:Nat): Ent:=J3i.e 233 (@Yz k)
def Jil:Sh:=⟨[.a .flt,.a .flt],some ([],[.a .flt]),none⟩
abbrev Ji7:Type 1:=(R:Type)->Nat->Nat->(Nat->Option R)->Option R
def JB1(k:Nat): Cxt:=⟨[⟨167,JbS,J6k k⟩,⟨170,Jh2,J9l k⟩],[],[],[]⟩
def JoV(k:Nat){R:Type}(x0 x1:Nat)(K:(Nat->Option R)): Option R:=J1r k x0 (fun y5=>J1r k x1 (fun y6=>J2W k (ZD @Go.BinOp.or Go.IntKind.u64 (ZD @Go.BinOp.andNot Go.IntKind.u64 y5 9223372036854775808) (ZD @Go.BinOp.and Go.IntKind.u64 y6 9223372036854775808)) K))
def J4O:=@JoV
theorem JB2(k:Nat): DOK Tryz.prog 122 (Jil.run (@J4O k)):=dok Jil (JB1 k) Tryz.f122 k (ok1 (fun _ _ _ _ _ h=>Jc4 k h) (ok1 (fun _ _ _ _ _ h=>Jhq k h) ok0)) (by kernel_rfl) (by kernel_rfl) fun R=>by kernel_rfl
def JeV:Sh:=⟨[.a kI],some ([],[.a .flt]),none⟩
abbrev Jk5:Type 1:=(R:Type)->Int->(Nat->Option R)->Option R
def JFI(k:Nat): Cxt:=⟨[⟨167,JbS,J6k k⟩],[],[],[]⟩
def JFJ(k:Nat){R:Type}(x0:Int)(K:(Nat->Option R)): Option R:=cond (decide (x0≥0)) (J2W k 9218868437227405312 K) (J2W k 18442240474082181120 K)
def J5i:=@JFJ
theorem Jsp(k:Nat): DOK Tryz.prog 116 (JeV.run (@J5i k)):=dok JeV (JFI k) Tryz.f116 k (ok1 (fun _ _ _ _ _ h=>Jc4 k h) ok0) (by kernel_rfl) (by kernel_rfl) fun R=>by kernel_rfl
def JFK(k:Nat): Ent:=JeV.e 116 (@J5i k)
def JeW:Sh:=⟨[],some ([],[.a .flt]),none⟩
abbrev Jk6:Type 1:=(R:Type)->(Nat->Option R)->Option R
def JFL(k:Nat): Cxt:=⟨[⟨167,JbS,J6k k⟩],[],[],[]⟩
def JFM(k:Nat){R:Type}(K:(Nat->Option R)): Option R:=J2W k 9221120237041090561 K
def J8f:=@JFM
theorem Jsq(k:Nat): DOK Tryz.prog 115 (JeW.run (@J8f k)):=dok JeW (JFL k) Tryz.f115 k (ok1 (fun _ _ _ _ _ h=>Jc4 k h) ok0) (by kernel_rfl) (by kernel_rfl) fun R=>by kernel_rfl
def JFN(k:Nat): Ent:=JeW.e 115 (@J8f k)
def J7r:Sh:=⟨[.a .str,.a kI],some ([],[.a .bool]),none⟩
abbrev Jim:Type 1:=(R:Type)->J0->Int->(Bool->Option R)->Option R
def Jcw:Cu:=⟨0,[0,1,8],[.a .str,.a kI,.t 78]⟩
def Jpj(k:Nat): Cxt:=⟨[],[],[(1002,Jcw.spec)],[]⟩
def Jcx(k:Nat){R:Type}(E1002:(J0->Int->J0->Int->Option R))(s0:J0)(s1:Int)(s2:J0)(s3:Int)(K:(Bool->Option R)): Option R:=cond (decide (s3<(s2.length:Int))) (cond (decide (s3<(s2.length:Int))) (cond (cond (decide ((YE s2 s3)<48)) true (decide ((YE s2 s3)>57))) (K false) (E1002 s0 s1 s2 (Z3 s2 s3))) none) (K (cond (decide ((s0.length:Int)≥1)) (decide ((s0.length:Int)≤s1)) false))
def JiB(k:Nat){R:Type}(E1002:(J0->Int->J0->Int->Option R))(x0:J0)(x1:Int)(K:(Bool->Option R)): Option R:=E1002 x0 x1 x0 0
def J4c(k:Nat){R:Type}: Nat->J0->Int->J0->Int->(Bool->Option R)->Option R
 |0,_,_,_,_,_=>none
 |n+1,s0,s1,s2,s3,K=>Jcx k (fun s0 s1 s2 s3=>J4c k n s0 s1 s2 s3 K) s0 s1 s2 s3 K
theorem JxC(k:Nat){R:Type}: ∀(I:Nat->St->Option R) (n:Nat),J7r.lp Jcw (Jpj k).cx k Tryz.f119 1002 [1,0,1,0] I n=J4c k n:=J7r.lok Jcw (B:=Jcx k) (L:=J4c k) (fun I=>by kernel_rfl) (fun I=>by kernel_rfl) (fun n=>by kernel_rfl) (fun _ _ _ _=>rfl)
def J29(k:Nat){R:Type}(x0:J0)(x1:Int)(K:(Bool->Option R)): Option R:=JiB k (fun s0 s1 s2 s3=>J4c k k s0 s1 s2 s3 K) x0 x1 K
theorem JBx(k:Nat): DOK Tryz.prog 119 (J7r.run (@J29 k)):=dok J7r (Jpj k) Tryz.f119 k ok0 (by kernel_rfl) (by kernel_rfl) fun R=>J7r.f1 Jcw (JiB k) (by kernel_rfl) (JxC k (fun _ _=>none) k) (by kernel_rfl)
def J5c:Sh:=⟨[.a kI],some ([],[.a kI]),none⟩
abbrev J0o:Type 1:=(R:Type)->Int->(Int->Option R)->Option R
def Jdx:Cu:=⟨0,[3,4,5],[.a kI,.a kI,.a kI]⟩
def Jrx(k:Nat): Cxt:=⟨[],[],[(1003,Jdx.spec)],[]⟩
def Jdy(k:Nat){R:Type}(E1003:(Int->Int->Int->Option R))(s0 s1 s2:Int)(K:(Int->Option R)): Option R:=cond (decide (s2<s1)) (E1003 (IntKind.i64.wrap (s0*10)) s1 (IntKind.i64.wrap (s2+1))) (K s0)
def Jk7(k:Nat){R:Type}(E1003:(Int->Int->Int->Option R))(x0:Int)(K:(Int->Option R)): Option R:=E1003 1 x0 0
def J4D(k:Nat){R:Type}: Nat->Int->Int->Int->(Int->Option R)->Option R
 |0,_,_,_,_=>none
 |n+1,s0,s1,s2,K=>Jdy k (fun s0 s1 s2=>J4D k n s0 s1 s2 K) s0 s1 s2 K
theorem JyN(k:Nat){R:Type}: ∀(I:Nat->St->Option R) (n:Nat),J5c.lp Jdx (Jrx k).cx k Tryz.f121 1003 [1,1,0,1,0] I n=J4D k n:=J5c.lok Jdx (B:=Jdy k) (L:=J4D k) (fun I=>by kernel_rfl) (fun I=>by kernel_rfl) (fun n=>by kernel_rfl) (fun _ _ _ _=>rfl)
def YS(k:Nat){R:Type}(x0:Int)(K:(Int->Option R)): Option R:=Jk7 k (fun s0 s1 s2=>J4D k k s0 s1 s2 K) x0 K
theorem Jry(k:Nat): DOK Tryz.prog 121 (J5c.run (@YS k)):=dok J5c (Jrx k) Tryz.f121 k ok0 (by kernel_rfl) (by kernel_rfl) fun R=>J5c.f1 Jdx (Jk7 k) (by kernel_rfl) (JyN k (fun _ _=>none) k) (by kernel_rfl)
def J7y:Sh:=⟨[.a .str],some ([],[.a kI]),none⟩
abbrev JiC:Type 1:=(R:Type)->J0->(Int->Option R)->Option R
def JcO:Cu:=⟨0,[3,7],[.a kI,.t 77]⟩
def JpY(k:Nat): Cxt:=⟨[],[],[(1003,JcO.spec)],[]⟩
def JcP(k:Nat){R:Type}(E1003:(Int->J0->Int->Option R))(s0:Int)(s1:J0)(s2:Int)(K:(Int->Option R)): Option R:=cond (decide (s2<(s1.length:Int))) (cond (decide (s2<(s1.length:Int))) (E1003 (IntKind.i64.wrap ((IntKind.i64.wrap ((10:Int)*s0))+(IntKind.i64.wrap (IntKind.i32.wrap ((YE s1 s2)-48))))) s1 (Z3 s1 s2)) none) (K s0)
def Jj1(k:Nat){R:Type}(E1003:(Int->J0->Int->Option R))(x0:J0)(K:(Int->Option R)): Option R:=E1003 0 x0 0
def J4h(k:Nat){R:Type}: Nat->Int->J0->Int->(Int->Option R)->Option R
 |0,_,_,_,_=>none
 |n+1,s0,s1,s2,K=>JcP k (fun s0 s1 s2=>J4h k n s0 s1 s2 K) s0 s1 s2 K
theorem JxR(k:Nat){R:Type}: ∀(I:Nat->St->Option R) (n:Nat),J7y.lp JcO (JpY k).cx k Tryz.f120 1003 [1,1,0,1,0] I n=J4h k n:=J7y.lok JcO (B:=JcP k) (L:=J4h k) (fun I=>by kernel_rfl) (fun I=>by kernel_rfl) (fun n=>by kernel_rfl) (fun _ _ _ _=>rfl)
def J50(k:Nat){R:Type}(x0:J0)(K:(Int->Option R)): Option R:=Jj1 k (fun s0 s1 s2=>J4h k k s0 s1 s2 K) x0 K
theorem JC8(k:Nat): DOK Tryz.prog 120 (J7y.run (@J50 k)):=dok J7y (JpY k) Tryz.f120 k ok0 (by kernel_rfl) (by kernel_rfl) fun R=>J7y.f1 JcO (Jj1 k) (by kernel_rfl) (JxR k (fun _ _=>none) k) (by kernel_rfl)
def YW(s:List UInt8)(c:Int): Int :=
 match(List.range s.length).find? fun i=>s.getD i 0 == UInt8.ofNat c.toNat with
 |some i=>(i:Int)
 |none => -1
theorem Jrz{P:Program}(x0:List UInt8)(x1:Int)(w:World): (Go.Extern.BytealgIndexByte.indexByte #[.string ⟨x0.toArray⟩,.int .u8 x1]).run P w = .ok (.int .i64 (YW x0 x1)) w:=by
 have e5:(Go.Extern.BytealgIndexByte.indexByte #[.string ⟨x0.toArray⟩,.int .u8 x1]).run P w=(match(List.range (ByteArray.mk x0.toArray).size).find? fun i=>(ByteArray.mk x0.toArray)[i]! == x1.toNat.toUInt8 with
  |some i=>(pure (goInt i):Sem Value)
  |none=>pure (goInt (-1))).run P w:=rfl
 rw[e5]
 unfold YW
 have e6:(ByteArray.mk x0.toArray).size=x0.length:=by simp[ByteArray.size]
 have e7:∀ i,(ByteArray.mk x0.toArray)[i]! = x0.getD i 0:=by
  intro i
  by_cases hi:i<x0.length
  ·rw[getElem!_pos (ByteArray.mk x0.toArray) i (by rw[e6];exact hi)]
   have:x0.getD i 0=x0[i]:=by simp[List.getD,hi]
   rw[this];rfl
  ·rw[getElem!_neg (ByteArray.mk x0.toArray) i (by rw[e6];exact hi)]
   have:x0.getD i 0=0:=by simp[List.getD,Nat.le_of_not_lt hi]
   rw[this];rfl
 simp only[e6,e7]
 have e8:∀ i,(x0.getD i 0 == x1.toNat.toUInt8)=(x0.getD i 0 == UInt8.ofNat x1.toNat):=fun i=>rfl
 simp only[e8]
 cases(List.range x0.length).find? fun i=>x0.getD i 0 == UInt8.ofNat x1.toNat with
 |none=>rfl
 |some i=>rfl
def Jxj:List LS:=[.any,.any]
def JgU(k:Nat){R:Type}(x0:List UInt8)(x1:Int)(K:Int->Option R): Option R:=K (YW x0 x1)
noncomputable def JgO(k:Nat){R:Type}: List PV->List (Nm×HObj)->(Out->Option R)->Option R
 |[.v .str x0,.v (.int .u8) x1],[],K=>JgU k x0 x1 (fun y0=>K (.ret [.v (.int .i64) y0] []))
 |_,_,_=>none
theorem JHq{G:Gh}{w:World}: Fin [] [] G w G w :=
 ⟨fun n o h=>(by cases h),fun n m b h=>(by simp[Jd,mkH,Jx]at h),fun n t cs h=>(by cases h),fun n ag V es h=>(by cases h),fun _ _ _=>rfl,rfl,fun n b h=>(by simp[Jd,mkH,Jx]at h),Nat.le_refl _,rfl,rfl,rfl⟩
theorem Jxg:Extern.find Tryz.f257=some Go.Extern.BytealgIndexByte.indexByte:=by kernel_rfl
theorem Jx0:(Extern.findNext Tryz.f257).isNone=true:=by kernel_rfl
theorem Jxu:Tryz.prog.funcs[257]? = some Tryz.f257:=by kernel_rfl
theorem JnH:(Tryz.f257.name == "runtime.NumGoroutine")=false:=by kernel_rfl
theorem Jxh:Tryz.f257.body.isNone=true:=by kernel_rfl
theorem JxD(k:Nat){ps:List PV}{hp:List (Nm×HObj)}{R:Type}{K:Out->Option R}{r:R}(h:JgO k ps hp K=some r): DoesTo Tryz.prog 257 ps hp fun out=>K out=some r:=by
 unfold JgO at h
 split at h
 ·next x0 x1 =>
  intro G w vals hr obj dis
  obtain⟨v0,l0,rfl,h0,v1,l1,rfl,h1,rfl⟩:=hr
  have e0:v0 = .string ⟨x0.toArray⟩:=by simpa [RV,RD]using h0
  have e1:v1 = .int .u8 x1:=by simpa [RV,RD]using h1
  subst e0 e1
  have hrun:(callFunc 257 #[.string ⟨x0.toArray⟩,.int .u8 x1]).run Tryz.prog w = .ok (.value (.int .i64 (YW x0 x1))) w:=by
   have hn2:¬ Tryz.f257.name = "runtime.NumGoroutine" := by simpa using JnH
   have hn3:Extern.findNext Tryz.f257=none:=by
    cases hq:Extern.findNext Tryz.f257 with
    |none=>rfl
    |some e=>have:=Jx0;rw[hq]at this;cases this
   have e1:(callFunc 257 #[.string ⟨x0.toArray⟩,.int .u8 x1]).run Tryz.prog w=(Go.Extern.BytealgIndexByte.indexByte #[.string ⟨x0.toArray⟩,.int .u8 x1] >>= fun v=>pure (Next.value v)).run Tryz.prog w:=by
    unfold callFunc
    rw[Sem.run_bind]
    have e2:(program).run Tryz.prog w = .ok Tryz.prog w:=rfl
    rw[e2,Result.andThen_ok,Jxu]
    simp only[JnH,Jxh,if_true,Bool.false_eq_true,if_false]
    rw[Sem.run_bind]
    have e3:(mark (.extern 257)).run Tryz.prog w = .ok () w:=rfl
    rw[e3,Result.andThen_ok,hn3,Jxg]
   rw[e1]
   have e4:=Jrz (P:=Tryz.prog) x0 x1 w
   rw[Sem.run_bind,e4];rfl
  show Does _ _ #[_,_] _ _
  unfold Does
  rw[hrun]
  exact⟨.ret [.v (.int .i64) (YW x0 x1)] [],h,G,⟨_,rfl,rfl⟩,JHq⟩
 ·cases h
def JhQ:Sh:=⟨[.a .str,.a (.int .u8)],some ([],[.a kI]),none⟩
def JzQ(k:Nat): Cxt:=⟨[⟨257,Jxj,JgO k⟩],[],[],[]⟩
def Jol(k:Nat){R:Type}(x0:J0)(x1:Int)(K:(Int->Option R)): Option R:=JgU k x0 x1 K
def J9w:=@Jol
theorem Jom(k:Nat): DOK Tryz.prog 236 (JhQ.run (@J9w k)):=dok JhQ (JzQ k) Tryz.f236 k (ok1 (fun _ _ _ _ _ h=>JxD k h) ok0) (by kernel_rfl) (by kernel_rfl) fun R=>by kernel_rfl
def Jon(k:Nat): Ent:=JhQ.e 236 (@J9w k)
def Jj2:Sh:=⟨[.a .str,.j],some ([],[.a kI]),none⟩
def JC9(k:Nat): Cxt:=⟨[Jon k],[],[],[]⟩
def JpZ(k:Nat){R:Type}(x0:J0)(x1:UInt8)(K:(Int->Option R)): Option R:=cond (cond ((@List.length UInt8 [x1]:Int) == 0) true ([x1] == x0)) (K 0) (J9w k x0 ((([x1]).getD (Int.toNat 0) 0).toNat:Int) K)
def Jef:=@JpZ
theorem JCa(k:Nat): DOK Tryz.prog 203 (Jj2.run (@Jef k)):=dok Jj2 (JC9 k) Tryz.f203 k (ok1 (Jom k) ok0) (by kernel_rfl) (by kernel_rfl) fun R=>by kernel_rfl
def JCb(k:Nat): Ent:=Jj2.e 203 (@Jef k)
def Jk8:Sh:=⟨[.a .str,.j],some ([],[.a .str,.a .str,.a .bool]),none⟩
def JEH(k:Nat): Cxt:=⟨[JCb k],[],[],[(3,(.of [(0,1),(1,1),(2,1),(3,1),(4,1),(5,1),(6,1),(7,1),(8,1),(9,1),(10,1),(11,1)] .done))]⟩
def JrA(k:Nat){R:Type}(x0:J0)(x1:UInt8)(K:(J0->J0->Bool->Option R)): Option R:=Jef k x0 x1 (fun y5=>cond (decide (y5≥0)) (cond (bnd 0 y5 (x0.length:Int)) (cond (bnd (IntKind.i64.wrap (y5+(@List.length UInt8 [x1]:Int))) (x0.length:Int) (x0.length:Int)) (K (cut x0 0 y5) (cut x0 (IntKind.i64.wrap (y5+(@List.length UInt8 [x1]:Int))) (x0.length:Int)) true) none) none) (K x0 [] false))
def JeM:=@JrA
theorem JEI(k:Nat): DOK Tryz.prog 169 (Jk8.run (@JeM k)):=dok Jk8 (JEH k) Tryz.f169 k (ok1 (JCa k) ok0) (by kernel_rfl) (by kernel_rfl) fun R=>by kernel_rfl
def JEJ(k:Nat): Ent:=Jk8.e 169 (@JeM k)
def Jeg:Sh:=⟨[.a .str,.j],some ([],[.a .str,.a .str,.a .bool]),none⟩
abbrev JiD:Type 1:=(R:Type)->J0->UInt8->(J0->J0->Bool->Option R)->Option R
def JCc(k:Nat): Cxt:=⟨[JEJ k],[],[],[]⟩
def Jq0(k:Nat){R:Type}(x0:J0)(x1:UInt8)(K:(J0->J0->Bool->Option R)): Option R:=JeM k x0 x1 K
def J3d:=@Jq0
theorem Jq1(k:Nat): DOK Tryz.prog 118 (Jeg.run (@J3d k)):=dok Jeg (JCc k) Tryz.f118 k (ok1 (JEI k) ok0) (by kernel_rfl) (by kernel_rfl) fun R=>by kernel_rfl
def JCd(k:Nat): Ent:=Jeg.e 118 (@J3d k)
def JhR:Sh:=⟨[.a .str,.a .str],some ([],[.a .bool]),none⟩
def JzR(k:Nat): Cxt:=⟨[],[],[],[]⟩
def JhS(k:Nat){R:Type}(x0 x1:J0)(K:(Bool->Option R)): Option R:=cond ((!((decide ((x0.length:Int)≥(x1.length:Int))) == true)) || (bnd 0 (x1.length:Int) (x0.length:Int))) (K (cond (decide ((x0.length:Int)≥(x1.length:Int))) ((cut x0 0 (x1.length:Int)) == x1) false)) none
def J70:=@JhS
theorem Joo(k:Nat): DOK Tryz.prog 88 (JhR.run (@J70 k)):=dok JhR (JzR k) Tryz.f88 k ok0 (by kernel_rfl) (by kernel_rfl) fun R=>by kernel_rfl
def Jop(k:Nat): Ent:=JhR.e 88 (@J70 k)
def JhT:Sh:=⟨[.a .str,.j],some ([],[.a .str,.a .bool]),none⟩
def JzS(k:Nat): Cxt:=⟨[Jop k],[],[],[]⟩
def Joq(k:Nat){R:Type}(x0:J0)(x1:UInt8)(K:(J0->Bool->Option R)): Option R:=J70 k x0 [x1] (fun y5=>cond (!y5) (K x0 false) (cond (bnd (@List.length UInt8 [x1]:Int) (x0.length:Int) (x0.length:Int)) (K (cut x0 (@List.length UInt8 [x1]:Int) (x0.length:Int)) true) none))
def Jda:=@Joq
theorem JzT(k:Nat): DOK Tryz.prog 168 (JhT.run (@Jda k)):=dok JhT (JzS k) Tryz.f168 k (ok1 (Joo k) ok0) (by kernel_rfl) (by kernel_rfl) fun R=>by kernel_rfl
def JzU(k:Nat): Ent:=JhT.e 168 (@Jda k)
def Jhc:Sh:=⟨[.a .str,.j],some ([],[.a .str,.a .bool]),none⟩
abbrev Jh3:Type 1:=(R:Type)->J0->UInt8->(J0->Bool->Option R)->Option R
def JyO(k:Nat): Cxt:=⟨[JzU k],[],[],[]⟩
def Jo6(k:Nat){R:Type}(x0:J0)(x1:UInt8)(K:(J0->Bool->Option R)): Option R:=Jda k x0 x1 K
def J6E:=@Jo6
theorem JyP(k:Nat): DOK Tryz.prog 117 (Jhc.run (@J6E k)):=dok Jhc (JyO k) Tryz.f117 k (ok1 (JzT k) ok0) (by kernel_rfl) (by kernel_rfl) fun R=>by kernel_rfl
def J7z:Sh:=⟨[.a .str],some ([],[.a .flt,.a .bool]),none⟩
abbrev Ym:Type 1:=(R:Type)->J0->(Nat->Bool->Option R)->Option R
def Jq2(k:Nat)(J8h:Jk6)(J5l:Jk5)(J6J:Jh3)(J7M:JiD)(J4Y:Jim)(J54:JiC)(Qc:J0o)(J4R:Ji7): Cxt:=⟨[JeW.e 115 J8h,JeV.e 116 J5l,Jhc.e 117 J6J,Jeg.e 118 J7M,J7r.e 119 J4Y,J7y.e 120 J54,J5c.e 121 Qc,Jil.e 122 J4R],[],[],[]⟩
def Jj3(k:Nat)(J8h:Jk6)(J5l:Jk5)(J6J:Jh3)(J7M:JiD)(J4Y:Jim)(J54:JiC)(Qc:J0o)(J4R:Ji7){R:Type}(x0:J0)(K:(Nat->Bool->Option R)): Option R:=cond (x0 == [(110:UInt8),97,110]) (J8h R (fun y4=>K y4 true)) (cond (x0 == [(105:UInt8),110,102]) (J5l R 1 (fun y4=>K y4 true)) (cond (x0 == [(45:UInt8),105,110,102]) (J5l R (-(1:Int)) (fun y4=>K y4 true)) (J6J R x0 45 (fun y4 y5=>J7M R y4 46 (fun y6 y7 y8=>J4Y R y6 9 (fun y9=>cond ((!(((!y9) == false)&&((decide ((y6.length:Int)>1)) == true))) || (inb 0 (y6.length:Int))) (cond ((cond (!y9) true (cond (decide ((y6.length:Int)>1)) (((y6.getD (Int.toNat 0) 0).toNat:Int) == 48) false)) == false) (cond (y8 == true) (J4Y R y7 6 (fun y10=>cond (!y10) (K 0 false) (cond (Ye y6 y7) (J54 R (y6++y7) (fun y11=>Qc R (y7.length:Int) (fun y12=>cond (@Option.isSome Nat (@Jq @Go.BinOp.quo (@Jo y11) (@Jo y12))) (cond y5 (J4R R (@Option.getD Nat (@Jq @Go.BinOp.quo (@Jo y11) (@Jo y12)) (0:Nat)) 13830554455654793216 (fun y13=>K y13 true)) (K (@Option.getD Nat (@Jq @Go.BinOp.quo (@Jo y11) (@Jo y12)) (0:Nat)) true)) none))) none))) (cond (Ye y6 y7) (J54 R (y6++y7) (fun y10=>Qc R (y7.length:Int) (fun y11=>cond (@Option.isSome Nat (@Jq @Go.BinOp.quo (@Jo y10) (@Jo y11))) (cond y5 (J4R R (@Option.getD Nat (@Jq @Go.BinOp.quo (@Jo y10) (@Jo y11)) (0:Nat)) 13830554455654793216 (fun y12=>K y12 true)) (K (@Option.getD Nat (@Jq @Go.BinOp.quo (@Jo y10) (@Jo y11)) (0:Nat)) true)) none))) none)) (K 0 false)) none))))))
theorem JCe(k:Nat)(J8h:Jk6)(J5l:Jk5)(J6J:Jh3)(J7M:JiD)(J4Y:Jim)(J54:JiC)(Qc:J0o)(J4R:Ji7)(R:Type): J7z.at (Jq2 k J8h J5l J6J J7M J4Y J54 Qc J4R) k Tryz.f71 R=@Jj3 k J8h J5l J6J J7M J4Y J54 Qc J4R R:=by kernel_rfl
def Ui(k:Nat){R:Type}:= @Jj3 k (@J8f k) (@J5i k) (@J6E k) (@J3d k) (@J29 k) (@J50 k) (@YS k) (@J4O k) R
theorem Jj4(k:Nat): DOK Tryz.prog 71 (J7z.run (@Ui k)):=dok J7z (Jq2 k (@J8f k) (@J5i k) (@J6E k) (@J3d k) (@J29 k) (@J50 k) (@YS k) (@J4O k)) Tryz.f71 k (ok1 (Jsq k) (ok1 (Jsp k) (ok1 (JyP k) (ok1 (Jq1 k) (ok1 (JBx k) (ok1 (JC8 k) (ok1 (Jry k) (ok1 (JB2 k) ok0)))))))) (by kernel_rfl) (by kernel_rfl) fun R=>JCe k (@J8f k) (@J5i k) (@J6E k) (@J3d k) (@J29 k) (@J50 k) (@YS k) (@J4O k) R
def Jjz:Sh:=⟨[.a .flt,.a kI],some ([],[.a .bool]),none⟩
abbrev Jj5:Type 1:=(R:Type)->Nat->Int->(Bool->Option R)->Option R
def JDo(k:Nat): Cxt:=⟨[JFG k],[],[],[]⟩
def Ja0(k:Nat){R:Type}(x0:Nat)(x1:Int)(K:(Bool->Option R)): Option R:=cond (x1 == 0) (Ub k x0 (fun y5=>K (@Jr @Go.BinOp.gtr y5 (9218868437227405311:Nat)))) (cond (decide (x1<0)) (K (@Jr @Go.BinOp.gtr (@Ul x0) (9218868437227405311:Nat))) (K (@Jr @Go.BinOp.gtr x0 (9218868437227405311:Nat))))
def J0W:=@Ja0
theorem JDp(k:Nat): DOK Tryz.prog 212 (Jjz.run (@J0W k)):=dok Jjz (JDo k) Tryz.f212 k (ok1 (JeU k) ok0) (by kernel_rfl) (by kernel_rfl) fun R=>by kernel_rfl
end Go.Proofs.YtabkhphoacmcdaaGreatDoor.Pvm
namespace Go.Proofs
open Go.Shelf
def Tryz.laysLaysn105_ren:Go.Shelf.Ren:=⟨fun|105=>19|212=>40|99=>41|165=>42|166=>43|170=>44|169=>45|263=>86|264=>87|206=>88|240=>89|241=>90|276=>137|277=>138|n=>n,fun|9=>9|3=>3|4=>4|20=>20|0=>0|46=>83|109=>84|5=>5|72=>89|76=>93|51=>134|146=>135|53=>137|148=>138|70=>87|37=>22|75=>92|127=>140|164=>184|80=>96|n=>n,fun|n=>n⟩
theorem Tryz.laysLaysn105:Go.Proofs.Lays.n105 Tryz.prog Tryz.laysLaysn105_ren:={
 mixed:=by kernel_rfl
 f99:=Tryz.func41.trans (congrArg some (by kernel_rfl))
 f105:=Tryz.func19.trans (congrArg some (by kernel_rfl))
 f165:=Tryz.func42.trans (congrArg some (by kernel_rfl))
 f166:=Tryz.func43.trans (congrArg some (by kernel_rfl))
 f169:=Tryz.func45.trans (congrArg some (by kernel_rfl))
 f170:=Tryz.func44.trans (congrArg some (by kernel_rfl))
 f206:=Tryz.func88.trans (congrArg some (by kernel_rfl))
 f212:=Tryz.func40.trans (congrArg some (by kernel_rfl))
 f240:=Tryz.func89.trans (congrArg some (by kernel_rfl))
 f241:=Tryz.func90.trans (congrArg some (by kernel_rfl))
 f263:=Tryz.func86.trans (congrArg some (by kernel_rfl))
 f264:=Tryz.func87.trans (congrArg some (by kernel_rfl))
 f276:=Tryz.func137.trans (congrArg some (by kernel_rfl))
 f277:=Tryz.func138.trans (congrArg some (by kernel_rfl))
 t0:=Tryz.underlying0
 a0:=Tryz.isAgg0
 z0:=Tryz.sizeOf0
 v0:=Tryz.zeroValue0
 t3:=Tryz.underlying3
 a3:=Tryz.isAgg3
 z3:=Tryz.sizeOf3
 v3:=Tryz.zeroValue3
 t4:=Tryz.underlying4
 a4:=Tryz.isAgg4
 z4:=Tryz.sizeOf4
 v4:=Tryz.zeroValue4
 t5:=Tryz.underlying5
 a5:=Tryz.isAgg5
 z5:=Tryz.sizeOf5
 v5:=Tryz.zeroValue5
 t9:=Tryz.underlying9
 a9:=Tryz.isAgg9
 z9:=Tryz.sizeOf9
 v9:=Tryz.zeroValue9
 t20:=Tryz.underlying20
 a20:=Tryz.isAgg20
 z20:=Tryz.sizeOf20
 v20:=Tryz.zeroValue20
 t37:=Tryz.underlying22
 a37:=Tryz.isAgg22
 z37:=Tryz.sizeOf22
 v37:=Tryz.zeroValue22
 t46:=Tryz.underlying83
 a46:=Tryz.isAgg83
 z46:=Tryz.sizeOf83
 v46:=Tryz.zeroValue83
 t51:=Tryz.underlying134
 a51:=Tryz.isAgg134
 z51:=Tryz.sizeOf134
 v51:=Tryz.zeroValue134
 t53:=Tryz.underlying137
 a53:=Tryz.isAgg137
 z53:=Tryz.sizeOf137
 v53:=Tryz.zeroValue137
 t70:=Tryz.underlying87
 a70:=Tryz.isAgg87
 z70:=Tryz.sizeOf87
 v70:=Tryz.zeroValue87
 t72:=Tryz.underlying89
 a72:=Tryz.isAgg89
 z72:=Tryz.sizeOf89
 v72:=Tryz.zeroValue89
 t75:=Tryz.underlying92
 a75:=Tryz.isAgg92
 z75:=Tryz.sizeOf92
 v75:=Tryz.zeroValue92
 t76:=Tryz.underlying93
 a76:=Tryz.isAgg93
 z76:=Tryz.sizeOf93
 v76:=Tryz.zeroValue93
 t109:=Tryz.underlying84
 a109:=Tryz.isAgg84
 z109:=Tryz.sizeOf84
 v109:=Tryz.zeroValue84
 t127:=Tryz.underlying140
 a127:=Tryz.isAgg140
 z127:=Tryz.sizeOf140
 v127:=Tryz.zeroValue140
 t146:=Tryz.underlying135
 a146:=Tryz.isAgg135
 z146:=Tryz.sizeOf135
 v146:=Tryz.zeroValue135
 t148:=Tryz.underlying138
 a148:=Tryz.isAgg138
 z148:=Tryz.sizeOf138
 v148:=Tryz.zeroValue138
 t164:=Tryz.underlying184
 a164:=Tryz.isAgg184
 z164:=Tryz.sizeOf184
 v164:=Tryz.zeroValue184 }
theorem Tryz.extra105:Builder.Extra Tryz.prog Tryz.laysLaysn105_ren where
 sizeBuilder:=by kernel_rfl
 liesBuilder:=by kernel_rfl
 t5:=Tryz.underlying5
 a5:=Tryz.isAgg5
 z5:=Tryz.sizeOf5
 v5:=Tryz.zeroValue5
 infoByte:=by kernel_rfl
 cellsByte:=by kernel_rfl
 sizeByte:=by kernel_rfl
 neB5:=by decide
end Go.Proofs
namespace Go.Proofs.YtabkhphoacmcdaaGreatDoor.Pvm
open Go Go.Proofs Go.RowKit Go.Shelf
def Jbk(s:List UInt8)(n:Nat): List UInt8:=Lib.repeatL s n
def Jzq:List LS:=[.any,.any]
def Jdz(k:Nat){R:Type}(x0:List UInt8)(x1:Int)(K:List UInt8->Option R): Option R:=bif decide (0≤x1)&&decide (x1≤1000000)&&decide (x0.length≤1000000)then K (Jbk x0 x1.toNat)else none
noncomputable def Jhr(k:Nat){R:Type}: List PV->List (Nm×HObj)->(Out->Option R)->Option R
 |[.v .str x0,.v (.int .i64) x1],[],K=>Jdz k x0 x1 (fun y0=>K (.ret [.v .str y0] []))
 |_,_,_=>none
theorem JAt(k:Nat){ps:List PV}{hp:List (Nm×HObj)}{R:Type}{K:Out->Option R}{r:R}(h:Jhr k ps hp K=some r): DoesTo Tryz.prog 19 ps hp fun out=>K out=some r:=by
 unfold Jhr at h
 split at h
 ·next x0 x1 =>
  intro G w vals hr obj dis
  obtain⟨v0,l0,rfl,h0,v1,l1,rfl,h1,rfl⟩:=hr
  have e0:v0 = .string ⟨x0.toArray⟩:=by simpa [RV,RD]using h0
  have e1:v1 = .int .i64 x1:=by simpa [RV,RD]using h1
  subst e0 e1
  unfold Jdz at h
  cases hx:(decide (0≤x1)&&decide (x1≤1000000)&&decide (x0.length≤1000000))with
  |false=>rw[hx]at h;cases h
  |true =>
   rw[hx,cond_true]at h
   simp only[Bool.and_eq_true,decide_eq_true_eq]at hx
   obtain⟨⟨g0,g1⟩,g2⟩:=hx
   obtain⟨n,rfl⟩:∃ n:Nat,x1=(n:Int):=⟨x1.toNat,(Int.toNat_of_nonneg g0).symm⟩
   have hn:n≤1000000:=by
    have:(n:Int)≤1000000:=g1
    omega
   have hsz:(⟨x0.toArray⟩:ByteArray).size=x0.length:=by simp[ByteArray.size]
   have hmul:x0.length*n≤1000000*1000000:=Nat.mul_le_mul g2 hn
   have c:=Any.strings_Repeat Tryz.laysLaysn105 Tryz.extra105 ⟨x0.toArray⟩ n w (by omega) (by rw[hsz];omega)
   show Does _ _ #[_,_] _ _
   unfold Does
   rw[JfN (P:=Tryz.prog) (fn:=Tryz.f19) (c:=Tryz.f19.body.getD .skip) (by kernel_rfl) (by kernel_rfl) (by kernel_rfl)]
   refine Calls.mono c fun e w' hh => ?_
   obtain⟨rfl,b⟩:=hh
   exact⟨.ret [.v .str (Jbk x0 n)] [],h,G,⟨_,rfl,rfl⟩,Jtd b⟩
 ·cases h
end Go.Proofs.YtabkhphoacmcdaaGreatDoor.Pvm
namespace Go.Proofs.YtabkhphoacmcdaaGreatDoor.Pvm
open Go Go.Proofs
def Jes:Sh:=⟨[.a kI,.a kI],some ([],[.a .str]),none⟩
abbrev J0m:Type 1:=(R:Type)->Int->Int->(J0->Option R)->Option R
def JDq(k:Nat): Cxt:=⟨[⟨19,Jzq,Jhr k⟩,JqI k],[],[],[]⟩
def JqJ(k:Nat){R:Type}(x0 x1:Int)(K:(J0->Option R)): Option R:=Yz k x0 (fun y5=>Jdz k [48] (cond true (@ite (@Kd.T kI) ((0:Int)>(IntKind.i64.wrap (x1-(y5.length:Int)))) (@Int.decLt (IntKind.i64.wrap (x1-(y5.length:Int))) (0:Int)) (0:Int) (IntKind.i64.wrap (x1-(y5.length:Int)))) (@ite (@Kd.T kI) ((0:Int)<(IntKind.i64.wrap (x1-(y5.length:Int)))) (@Int.decLt (0:Int) (IntKind.i64.wrap (x1-(y5.length:Int)))) (0:Int) (IntKind.i64.wrap (x1-(y5.length:Int))))) (fun y6=>cond (Ye y6 y5) (K (y6++y5)) none))
def Zc:=@JqJ
theorem JqK(k:Nat): DOK Tryz.prog 234 (Jes.run (@Zc k)):=dok Jes (JDq k) Tryz.f234 k (ok1 (fun _ _ _ _ _ h=>JAt k h) (ok1 (Jer k) ok0)) (by kernel_rfl) (by kernel_rfl) fun R=>by kernel_rfl
def Jet:Sh:=⟨[.a .flt],some ([],[.a .str]),none⟩
abbrev J2e:Type 1:=(R:Type)->Nat->(J0->Option R)->Option R
def JqL(k:Nat)(ZY:J7w)(Q1:Z8)(JZ:Zd)(J5a:Jj5)(Qo:J0l)(Qp:J0m): Cxt:=⟨[J9X.e 134 ZY,J7q.e 161 Q1,J8e.e 172 JZ,Jjz.e 212 J5a,J3i.e 233 Qo,Jes.e 234 Qp],[],[],[]⟩
def J7O(k:Nat)(ZY:J7w)(Q1:Z8)(JZ:Zd)(J5a:Jj5)(Qo:J0l)(Qp:J0m){R:Type}(x0:Nat)(K:(J0->Option R)): Option R:=ZY R x0 (fun y4=>cond y4 (K [110,97,110]) (J5a R x0 1 (fun y5=>cond y5 (K [105,110,102]) (J5a R x0 (-(1:Int)) (fun y6=>cond y6 (K [45,105,110,102]) (Q1 R x0 (fun y7=>cond y7 (JZ R x0 (fun y8=>cond (@Jr @Go.BinOp.geq y8 (4845873199050653696:Nat)) (K ([45]++[98,105,103])) (cond (@J2x Go.IntKind.i64 y8) (cond (@Option.isSome Nat (@Jq @Go.BinOp.sub y8 (@Jo (@Option.getD Int (@JX y8) (0:Int))))) (cond (@Option.isSome Nat (@Jq @Go.BinOp.mul (@Option.getD Nat (@Jq @Go.BinOp.sub y8 (@Jo (@Option.getD Int (@JX y8) (0:Int)))) (0:Nat)) (4652007308841189376:Nat))) (cond (@J2x Go.IntKind.i64 (@Option.getD Nat (@Jq @Go.BinOp.mul (@Option.getD Nat (@Jq @Go.BinOp.sub y8 (@Jo (@Option.getD Int (@JX y8) (0:Int)))) (0:Nat)) (4652007308841189376:Nat)) (0:Nat))) (Qo R (@Option.getD Int (@JX y8) (0:Int)) (fun y9=>cond (Ye [45] y9) (cond (Ye ([45]++y9) [46]) (Qp R (cond false (@ite (@Kd.T kI) ((999:Int)>(@Option.getD Int (@JX (@Option.getD Nat (@Jq @Go.BinOp.mul (@Option.getD Nat (@Jq @Go.BinOp.sub y8 (@Jo (@Option.getD Int (@JX y8) (0:Int)))) (0:Nat)) (4652007308841189376:Nat)) (0:Nat))) (0:Int))) (@Int.decLt (@Option.getD Int (@JX (@Option.getD Nat (@Jq @Go.BinOp.mul (@Option.getD Nat (@Jq @Go.BinOp.sub y8 (@Jo (@Option.getD Int (@JX y8) (0:Int)))) (0:Nat)) (4652007308841189376:Nat)) (0:Nat))) (0:Int)) (999:Int)) (999:Int) (@Option.getD Int (@JX (@Option.getD Nat (@Jq @Go.BinOp.mul (@Option.getD Nat (@Jq @Go.BinOp.sub y8 (@Jo (@Option.getD Int (@JX y8) (0:Int)))) (0:Nat)) (4652007308841189376:Nat)) (0:Nat))) (0:Int))) (@ite (@Kd.T kI) ((999:Int)<(@Option.getD Int (@JX (@Option.getD Nat (@Jq @Go.BinOp.mul (@Option.getD Nat (@Jq @Go.BinOp.sub y8 (@Jo (@Option.getD Int (@JX y8) (0:Int)))) (0:Nat)) (4652007308841189376:Nat)) (0:Nat))) (0:Int))) (@Int.decLt (999:Int) (@Option.getD Int (@JX (@Option.getD Nat (@Jq @Go.BinOp.mul (@Option.getD Nat (@Jq @Go.BinOp.sub y8 (@Jo (@Option.getD Int (@JX y8) (0:Int)))) (0:Nat)) (4652007308841189376:Nat)) (0:Nat))) (0:Int))) (999:Int) (@Option.getD Int (@JX (@Option.getD Nat (@Jq @Go.BinOp.mul (@Option.getD Nat (@Jq @Go.BinOp.sub y8 (@Jo (@Option.getD Int (@JX y8) (0:Int)))) (0:Nat)) (4652007308841189376:Nat)) (0:Nat))) (0:Int)))) 3 (fun y10=>cond (Ye (([45]++y9)++[46]) y10) (K ((([45]++y9)++[46])++y10)) none)) none) none)) none) none) none) none))) (JZ R x0 (fun y8=>cond (@Jr @Go.BinOp.geq y8 (4845873199050653696:Nat)) (K ([]++[98,105,103])) (cond (@J2x Go.IntKind.i64 y8) (cond (@Option.isSome Nat (@Jq @Go.BinOp.sub y8 (@Jo (@Option.getD Int (@JX y8) (0:Int))))) (cond (@Option.isSome Nat (@Jq @Go.BinOp.mul (@Option.getD Nat (@Jq @Go.BinOp.sub y8 (@Jo (@Option.getD Int (@JX y8) (0:Int)))) (0:Nat)) (4652007308841189376:Nat))) (cond (@J2x Go.IntKind.i64 (@Option.getD Nat (@Jq @Go.BinOp.mul (@Option.getD Nat (@Jq @Go.BinOp.sub y8 (@Jo (@Option.getD Int (@JX y8) (0:Int)))) (0:Nat)) (4652007308841189376:Nat)) (0:Nat))) (Qo R (@Option.getD Int (@JX y8) (0:Int)) (fun y9=>cond (Ye [] y9) (cond (Ye ([]++y9) [46]) (Qp R (cond false (@ite (@Kd.T kI) ((999:Int)>(@Option.getD Int (@JX (@Option.getD Nat (@Jq @Go.BinOp.mul (@Option.getD Nat (@Jq @Go.BinOp.sub y8 (@Jo (@Option.getD Int (@JX y8) (0:Int)))) (0:Nat)) (4652007308841189376:Nat)) (0:Nat))) (0:Int))) (@Int.decLt (@Option.getD Int (@JX (@Option.getD Nat (@Jq @Go.BinOp.mul (@Option.getD Nat (@Jq @Go.BinOp.sub y8 (@Jo (@Option.getD Int (@JX y8) (0:Int)))) (0:Nat)) (4652007308841189376:Nat)) (0:Nat))) (0:Int)) (999:Int)) (999:Int) (@Option.getD Int (@JX (@Option.getD Nat (@Jq @Go.BinOp.mul (@Option.getD Nat (@Jq @Go.BinOp.sub y8 (@Jo (@Option.getD Int (@JX y8) (0:Int)))) (0:Nat)) (4652007308841189376:Nat)) (0:Nat))) (0:Int))) (@ite (@Kd.T kI) ((999:Int)<(@Option.getD Int (@JX (@Option.getD Nat (@Jq @Go.BinOp.mul (@Option.getD Nat (@Jq @Go.BinOp.sub y8 (@Jo (@Option.getD Int (@JX y8) (0:Int)))) (0:Nat)) (4652007308841189376:Nat)) (0:Nat))) (0:Int))) (@Int.decLt (999:Int) (@Option.getD Int (@JX (@Option.getD Nat (@Jq @Go.BinOp.mul (@Option.getD Nat (@Jq @Go.BinOp.sub y8 (@Jo (@Option.getD Int (@JX y8) (0:Int)))) (0:Nat)) (4652007308841189376:Nat)) (0:Nat))) (0:Int))) (999:Int) (@Option.getD Int (@JX (@Option.getD Nat (@Jq @Go.BinOp.mul (@Option.getD Nat (@Jq @Go.BinOp.sub y8 (@Jo (@Option.getD Int (@JX y8) (0:Int)))) (0:Nat)) (4652007308841189376:Nat)) (0:Nat))) (0:Int)))) 3 (fun y10=>cond (Ye (([]++y9)++[46]) y10) (K ((([]++y9)++[46])++y10)) none)) none) none)) none) none) none) none))))))))))
theorem JDr(k:Nat)(ZY:J7w)(Q1:Z8)(JZ:Zd)(J5a:Jj5)(Qo:J0l)(Qp:J0m)(R:Type): Jet.at (JqL k ZY Q1 JZ J5a Qo Qp) k Tryz.f232 R=@J7O k ZY Q1 JZ J5a Qo Qp R:=by kernel_rfl
def Zz(k:Nat){R:Type}:= @J7O k (@QO k) (@U9 k) (@Ub k) (@J0W k) (@Yz k) (@Zc k) R
theorem JDs(k:Nat): DOK Tryz.prog 232 (Jet.run (@Zz k)):=dok Jet (JqL k (@QO k) (@U9 k) (@Ub k) (@J0W k) (@Yz k) (@Zc k)) Tryz.f232 k (ok1 (J9Y k) (ok1 (Je7 k) (ok1 (JeU k) (ok1 (JDp k) (ok1 (Jer k) (ok1 (JqK k) ok0)))))) (by kernel_rfl) (by kernel_rfl) fun R=>JDr k (@QO k) (@U9 k) (@Ub k) (@J0W k) (@Yz k) (@Zc k) R
def Zb:Sh:=⟨[.a .flt],some ([],[.a .str,.a .bool]),none⟩
def J0N:Cu:=⟨0,[0,5,6,7],[.a .flt,.a .str,.a .flt,.a kI]⟩
def J6L:Cu:=⟨0,[0,5,6,7,8,9],[.a .flt,.a .str,.a .flt,.a kI,.a kI,.a kI]⟩
def J7A(k:Nat)(JP:Ym)(Qc:J0o)(Qi:J0k)(Q1:Z8)(JZ:Zd)(QP:J2e)(Qo:J0l)(Qp:J0m): Cxt:=⟨[J7z.e 71 JP,J5c.e 121 Qc,J9Z.e 140 Qi,J7q.e 161 Q1,J8e.e 172 JZ,Jet.e 232 QP,J3i.e 233 Qo,Jes.e 234 Qp],[],[(1011,J0N.spec),(1015,J6L.spec)],[]⟩
def J9t(k:Nat)(JP:Ym)(Qc:J0o)(Qi:J0k)(Q1:Z8)(JZ:Zd)(QP:J2e)(Qo:J0l)(Qp:J0m){R:Type}(E1015:(Nat->J0->Nat->Int->Int->Int->Option R))(s0:Nat)(s1:J0)(s2:Nat)(s3:Int)(K:(J0->Bool->Option R)): Option R:=cond (decide (s3≤6)) (Qc R s3 (fun y9=>cond (@Option.isSome Nat (@Jq @Go.BinOp.mul s2 (@Jo y9))) (cond (@J2x Go.IntKind.i64 (@Option.getD Nat (@Jq @Go.BinOp.mul s2 (@Jo y9)) (0:Nat))) (E1015 s0 s1 s2 s3 (@Option.getD Int (@JX (@Option.getD Nat (@Jq @Go.BinOp.mul s2 (@Jo y9)) (0:Nat))) (0:Int)) (cond true (@ite (@Kd.T kI) ((0:Int)>(IntKind.i64.wrap ((@Option.getD Int (@JX (@Option.getD Nat (@Jq @Go.BinOp.mul s2 (@Jo y9)) (0:Nat))) (0:Int))-1))) (@Int.decLt (IntKind.i64.wrap ((@Option.getD Int (@JX (@Option.getD Nat (@Jq @Go.BinOp.mul s2 (@Jo y9)) (0:Nat))) (0:Int))-1)) (0:Int)) (0:Int) (IntKind.i64.wrap ((@Option.getD Int (@JX (@Option.getD Nat (@Jq @Go.BinOp.mul s2 (@Jo y9)) (0:Nat))) (0:Int))-1))) (@ite (@Kd.T kI) ((0:Int)<(IntKind.i64.wrap ((@Option.getD Int (@JX (@Option.getD Nat (@Jq @Go.BinOp.mul s2 (@Jo y9)) (0:Nat))) (0:Int))-1))) (@Int.decLt (0:Int) (IntKind.i64.wrap ((@Option.getD Int (@JX (@Option.getD Nat (@Jq @Go.BinOp.mul s2 (@Jo y9)) (0:Nat))) (0:Int))-1))) (0:Int) (IntKind.i64.wrap ((@Option.getD Int (@JX (@Option.getD Nat (@Jq @Go.BinOp.mul s2 (@Jo y9)) (0:Nat))) (0:Int))-1))))) none) none)) (K [] false)
def JcQ(k:Nat)(JP:Ym)(Qc:J0o)(Qi:J0k)(Q1:Z8)(JZ:Zd)(QP:J2e)(Qo:J0l)(Qp:J0m){R:Type}(E1011:(Nat->J0->Nat->Int->Option R))(E1015:(Nat->J0->Nat->Int->Int->Int->Option R))(s0:Nat)(s1:J0)(s2:Nat)(s3 s4 s5:Int)(K:(J0->Bool->Option R)): Option R:=cond (decide (s5≤(IntKind.i64.wrap (s4+1)))) (Qc R s3 (fun y11=>cond (y11 != 0) (Qo R (IntKind.i64.wrap (Int.tdiv s5 y11)) (fun y12=>cond (Ye s1 y12) (cond (decide (s3>0)) (Qc R s3 (fun y13=>cond (y13 != 0) (Qp R (Int.tmod s5 y13) s3 (fun y14=>cond (Ye [46] y14) (cond (Ye (s1++y12) ([46]++y14)) (JP R ((s1++y12)++([46]++y14)) (fun y15 y16=>cond (y16 == true) (Qi R s0 y15 (fun y17=>cond y17 (K ((s1++y12)++([46]++y14)) true) (E1015 s0 s1 s2 s3 s4 (IntKind.i64.wrap (s5+1))))) (E1015 s0 s1 s2 s3 s4 (IntKind.i64.wrap (s5+1))))) none) none)) none)) (JP R (s1++y12) (fun y13 y14=>cond (y14 == true) (Qi R s0 y13 (fun y15=>cond y15 (K (s1++y12) true) (E1015 s0 s1 s2 s3 s4 (IntKind.i64.wrap (s5+1))))) (E1015 s0 s1 s2 s3 s4 (IntKind.i64.wrap (s5+1)))))) none)) none)) (E1011 s0 s1 s2 (IntKind.i64.wrap (s3+1)))
def J7B(k:Nat)(JP:Ym)(Qc:J0o)(Qi:J0k)(Q1:Z8)(JZ:Zd)(QP:J2e)(Qo:J0l)(Qp:J0m){R:Type}(E1011:(Nat->J0->Nat->Int->Option R))(x0:Nat)(K:(J0->Bool->Option R)): Option R:=QP R x0 (fun y6=>cond (cond (cond (y6 == [(110:UInt8),97,110]) true (y6 == [(105:UInt8),110,102])) true (y6 == [(45:UInt8),105,110,102])) (K y6 true) (Q1 R x0 (fun y7=>cond y7 (JZ R x0 (fun y8=>Qc R 9 (fun y9=>cond (@Jr @Go.BinOp.geq y8 (@Jo y9)) (K [] false) (E1011 x0 [45] y8 0)))) (JZ R x0 (fun y8=>Qc R 9 (fun y9=>cond (@Jr @Go.BinOp.geq y8 (@Jo y9)) (K [] false) (E1011 x0 [] y8 0)))))))
def J30(k:Nat)(JP:Ym)(Qc:J0o)(Qi:J0k)(Q1:Z8)(JZ:Zd)(QP:J2e)(Qo:J0l)(Qp:J0m){R:Type}(J1011:(Nat->J0->Nat->Int->Option R)): Nat->Nat->J0->Nat->Int->Int->Int->(J0->Bool->Option R)->Option R
 |0,_,_,_,_,_,_,_=>none
 |n+1,s0,s1,s2,s3,s4,s5,K=>JcQ k JP Qc Qi Q1 JZ QP Qo Qp J1011 (fun s0 s1 s2 s3 s4 s5=>J30 k JP Qc Qi Q1 JZ QP Qo Qp J1011 n s0 s1 s2 s3 s4 s5 K) s0 s1 s2 s3 s4 s5 K
theorem JxS(k:Nat)(JP:Ym)(Qc:J0o)(Qi:J0k)(Q1:Z8)(JZ:Zd)(QP:J2e)(Qo:J0l)(Qp:J0m){R:Type}: ∀(I:Nat->St->Option R) (n:Nat),Zb.lp J6L (J7A k JP Qc Qi Q1 JZ QP Qo Qp).cx k Tryz.f201 1015 [1,1,1,1,1,1,0,1,0,0,1,0,0,1,1,0] I n=J30 k JP Qc Qi Q1 JZ QP Qo Qp (J0N.cur (I 1011)) n:=Zb.lokA J6L (fun I J=>JcQ k JP Qc Qi Q1 JZ QP Qo Qp (J0N.cur (I 1011)) J) (fun I=>J30 k JP Qc Qi Q1 JZ QP Qo Qp (J0N.cur (I 1011))) (fun I f=>by kernel_rfl) (fun I=>by kernel_rfl) (fun I=>by kernel_rfl) (fun I n=>by kernel_rfl) (fun _ _ _ _=>rfl)
def J4i(k:Nat)(JP:Ym)(Qc:J0o)(Qi:J0k)(Q1:Z8)(JZ:Zd)(QP:J2e)(Qo:J0l)(Qp:J0m){R:Type}: Nat->Nat->J0->Nat->Int->(J0->Bool->Option R)->Option R
 |0,_,_,_,_,_=>none
 |n+1,s0,s1,s2,s3,K=>J9t k JP Qc Qi Q1 JZ QP Qo Qp (fun s0 s1 s2 s3 s4 s5=>J30 k JP Qc Qi Q1 JZ QP Qo Qp (fun s0 s1 s2 s3=>J4i k JP Qc Qi Q1 JZ QP Qo Qp n s0 s1 s2 s3 K) k s0 s1 s2 s3 s4 s5 K) s0 s1 s2 s3 K
theorem JxT(k:Nat)(JP:Ym)(Qc:J0o)(Qi:J0k)(Q1:Z8)(JZ:Zd)(QP:J2e)(Qo:J0l)(Qp:J0m){R:Type}: ∀(I:Nat->St->Option R) (n:Nat),Zb.lp J0N (J7A k JP Qc Qi Q1 JZ QP Qo Qp).cx k Tryz.f201 1011 [1,1,1,1,1,1,0,1,0] I n=J4i k JP Qc Qi Q1 JZ QP Qo Qp n:=Zb.lokA J0N (fun I J=>Zb.glue (l:=J0N.fs) (u:=J6L.fs) (fun E1015=>J9t k JP Qc Qi Q1 JZ QP Qo Qp E1015) (J30 k JP Qc Qi Q1 JZ QP Qo Qp J k)) (fun I=>J4i k JP Qc Qi Q1 JZ QP Qo Qp ) (fun I f=>by kernel_rfl) (fun I=>(show _=Zb.glue (l:=J0N.fs) (u:=J6L.fs) (fun E1015=>J9t k JP Qc Qi Q1 JZ QP Qo Qp E1015) (Zb.lp J6L (J7A k JP Qc Qi Q1 JZ QP Qo Qp).cx k Tryz.f201 1015 [1,1,1,1,1,1,0,1,0,0,1,0,0,1,1,0] I k) by kernel_rfl).trans (by rw[JxS])) (fun I=>by kernel_rfl) (fun I n=>by kernel_rfl) (fun _ _ _ _=>rfl)
theorem JCf(k:Nat)(JP:Ym)(Qc:J0o)(Qi:J0k)(Q1:Z8)(JZ:Zd)(QP:J2e)(Qo:J0l)(Qp:J0m)(R:Type): Zb.at (J7A k JP Qc Qi Q1 JZ QP Qo Qp) k Tryz.f201 R=Zb.glue (l:=Zb.ps) (u:=J0N.fs) (fun E1011=>@J7B k JP Qc Qi Q1 JZ QP Qo Qp R E1011) (Zb.lp J0N (J7A k JP Qc Qi Q1 JZ QP Qo Qp).cx k Tryz.f201 1011 [1,1,1,1,1,1,0,1,0] (fun _ _=>none) k):=by kernel_rfl
def J3e(k:Nat){R:Type}(x0:Nat)(K:(J0->Bool->Option R)): Option R:=J7B k (@Ui k) (@YS k) (@Y7 k) (@U9 k) (@Ub k) (@Zz k) (@Yz k) (@Zc k) (fun s0 s1 s2 s3=>J4i k (@Ui k) (@YS k) (@Y7 k) (@U9 k) (@Ub k) (@Zz k) (@Yz k) (@Zc k) k s0 s1 s2 s3 K) x0 K
theorem JCg(k:Nat): DOK Tryz.prog 201 (Zb.run (@J3e k)):=dok Zb (J7A k (@Ui k) (@YS k) (@Y7 k) (@U9 k) (@Ub k) (@Zz k) (@Yz k) (@Zc k)) Tryz.f201 k (ok1 (Jj4 k) (ok1 (Jry k) (ok1 (Jjx k) (ok1 (Je7 k) (ok1 (JeU k) (ok1 (JDs k) (ok1 (Jer k) (ok1 (JqK k) ok0)))))))) (by kernel_rfl) (by kernel_rfl) fun R=>Zb.f1 J0N (J7B k (@Ui k) (@YS k) (@Y7 k) (@U9 k) (@Ub k) (@Zz k) (@Yz k) (@Zc k)) (JCf k (@Ui k) (@YS k) (@Y7 k) (@U9 k) (@Ub k) (@Zz k) (@Yz k) (@Zc k) R) (JxT k (@Ui k) (@YS k) (@Y7 k) (@U9 k) (@Ub k) (@Zz k) (@Yz k) (@Zc k) (fun _ _=>none) k) (by kernel_rfl)
def JCh(k:Nat): Ent:=Zb.e 201 (@J3e k)
def Jk9:Sh:=⟨[.a .flt],some ([],[.a .bool]),none⟩
abbrev JjA:Type 1:=(R:Type)->Nat->(Bool->Option R)->Option R
def JEK(k:Nat): Cxt:=⟨[JpX k,JCh k],[],[],[]⟩
def JrB(k:Nat){R:Type}(x0:Nat)(K:(Bool->Option R)): Option R:=J3e k x0 (fun y4 y5=>cond (y5 == true) (Yy k x0 0 (fun y6=>cond ((decide (y6≥0)) == true) (Yy k x0 4607182418800017408 (fun y7=>K (decide (y7≤0)))) (K false))) (K false))
def J81:=@JrB
theorem JEL(k:Nat): DOK Tryz.prog 163 (Jk9.run (@J81 k)):=dok Jk9 (JEK k) Tryz.f163 k (ok1 (JpW k) (ok1 (JCg k) ok0)) (by kernel_rfl) (by kernel_rfl) fun R=>by kernel_rfl
def Jka:Sh:=⟨[.a kI],some ([],[.a kI]),none⟩
abbrev JjB:Type 1:=(R:Type)->Int->(Int->Option R)->Option R
def JEM(k:Nat): Cxt:=⟨[],[],[],[]⟩
def JrC(k:Nat){R:Type}(x0:Int)(K:(Int->Option R)): Option R:=cond (cond (decide (x0<1)) true (decide (x0>4))) (K 0) (cond (inb x0 (([(0:Int),1,60,3600,86400]).length:Int)) (K (([(0:Int),1,60,3600,86400]).getD x0.toNat kI.zero)) none)
def J82:=@JrC
theorem JEN(k:Nat): DOK Tryz.prog 162 (Jka.run (@J82 k)):=dok Jka (JEM k) Tryz.f162 k ok0 (by kernel_rfl) (by kernel_rfl) fun R=>by kernel_rfl
def Jeu:Sh:=⟨[.g [.a .str,.a kI,.a kI,.a .flt,.a .bool,.a .bool]],some ([],[.a kI]),none⟩
def JqM(k:Nat)(J3l:Jju)(Qi:J0k)(J8c:JjB)(J8d:JjA): Cxt:=⟨[J5b.e 33 J3l,J9Z.e 140 Qi,Jka.e 162 J8c,Jk9.e 163 J8d],[],[],[]⟩
def JjC(k:Nat)(J3l:Jju)(Qi:J0k)(J8c:JjB)(J8d:JjA){R:Type}(x0:J0)(x1 x2:Int)(x3:Nat)(x4 x5:Bool)(K:(Int->Option R)): Option R:=J8c R x1 (fun y9=>cond ((cond (cond (decide (y9>0)) (decide (x2≥0)) false) (decide (x2≤4294967295)) false) == true) (J8d R x3 (fun y10=>cond x5 (cond ((cond (x1 == 0) (x2 == 0) false) == true) (Qi R x3 0 (fun y11=>cond ((!y11) == false) (cond ((!(x0 == [])) == true) (J3l R x0 (fun y12=>cond (!y12) (K 1) (K 0))) (K 0)) (K 1))) (K 1)) (cond ((!y10) == false) (cond ((!(x0 == [])) == true) (J3l R x0 (fun y11=>cond (!y11) (K 1) (K 0))) (K 0)) (K 1)))) (cond x5 (cond ((cond (x1 == 0) (x2 == 0) false) == true) (Qi R x3 0 (fun y10=>cond ((!y10) == false) (cond ((!(x0 == [])) == true) (J3l R x0 (fun y11=>cond (!y11) (K 1) (K 0))) (K 0)) (K 1))) (K 1)) (K 1)))
theorem JDt(k:Nat)(J3l:Jju)(Qi:J0k)(J8c:JjB)(J8d:JjA)(R:Type): Jeu.at (JqM k J3l Qi J8c J8d) k Tryz.f109 R=@JjC k J3l Qi J8c J8d R:=by kernel_rfl
def Ja1(k:Nat){R:Type}:= @JjC k (@J1w k) (@Y7 k) (@J82 k) (@J81 k) R
theorem JDu(k:Nat): DOK Tryz.prog 109 (Jeu.run (@Ja1 k)):=dok Jeu (JqM k (@J1w k) (@Y7 k) (@J82 k) (@J81 k)) Tryz.f109 k (ok1 (JeL k) (ok1 (Jjx k) (ok1 (JEN k) (ok1 (JEL k) ok0)))) (by kernel_rfl) (by kernel_rfl) fun R=>JDt k (@J1w k) (@Y7 k) (@J82 k) (@J81 k) R
def JDv(k:Nat): Ent:=Jeu.e 109 (@Ja1 k)
def Jkb:Sh:=⟨[.g [.a .str,.a kI,.a kI,.a .flt,.a .bool,.a .bool],.g [.a .str,.a kI,.a kI,.a .flt,.a .bool,.a .bool]],some ([],[.a .bool]),none⟩
def JEO(k:Nat): Cxt:=⟨[JDn k],[],[],[]⟩
def JrD(k:Nat){R:Type}(x0:J0)(x1 x2:Int)(x3:Nat)(x4 x5:Bool)(x6:J0)(x7 x8:Int)(x9:Nat)(x10 x11:Bool)(K:(Bool->Option R)): Option R:=Y7 k x3 x9 (fun y15=>K (cond y15 ((x0 == x6)&&((x1 == x7)&&((x2 == x8)&&((@Jr @Go.BinOp.eql (0:Nat) (0:Nat))&&((x4 == x10)&&(x5 == x11)))))) false))
def J5d:=@JrD
theorem JrE(k:Nat): DOK Tryz.prog 92 (Jkb.run (@J5d k)):=dok Jkb (JEO k) Tryz.f92 k (ok1 (Jjx k) ok0) (by kernel_rfl) (by kernel_rfl) fun R=>by kernel_rfl
def JrF(k:Nat): Ent:=Jkb.e 92 (@J5d k)
def JjD:Sh:=⟨[.g [.a .str,.a .str,.a .bool,.a kI,.a kI,.a .bool,.a .str,.a kI,.a kI,.a .flt,.a .bool,.a .bool,.s kI],.a kI,.a kI],some ([],[.a .bool]),none⟩
def JDw(k:Nat): Cxt:=⟨[Jk4 k,JrF k,JDv k],[],[],[]⟩
def JqN(k:Nat){R:Type}(x0 x1:J0)(x2:Bool)(x3 x4:Int)(x5:Bool)(x6:J0)(x7 x8:Int)(x9:Nat)(x10 x11:Bool)(x12:J6)(x13 x14:Int)(K:(Bool->Option R)): Option R:=cond ((cond (x3 != x13) true (x4 != x14)) == false) (J1w k x0 (fun y18=>cond (cond (cond (!y18) true (decide ((x1.length:Int)>128))) true (cond x2 (!(x1 == [])) false)) (K false) (cond x5 (Ja1 k x6 x7 x8 x9 x10 x11 (fun y19=>K (y19 == 0))) (J5d k x6 x7 x8 x9 x10 x11 [] 0 0 0 false false K)))) (K false)
def Ja2:=@JqN
theorem JDx(k:Nat): DOK Tryz.prog 64 (JjD.run (@Ja2 k)):=dok JjD (JDw k) Tryz.f64 k (ok1 (JeL k) (ok1 (JrE k) (ok1 (JDu k) ok0))) (by kernel_rfl) (by kernel_rfl) fun R=>by kernel_rfl
def JDy(k:Nat): Ent:=JjD.e 64 (@Ja2 k)
def Jj6:Sh:=⟨[.g [.a .str,.a .str,.a .bool,.a kI,.a kI,.a .bool,.a .str,.a kI,.a kI,.a .flt,.a .bool,.a .bool,.s kI],.g [.a .str,.a .str,.a .bool,.a kI,.a kI,.a .bool,.a .str,.a kI,.a kI,.a .flt,.a .bool,.a .bool,.s kI]],some ([],[.a .bool]),none⟩
def JCi(k:Nat): Cxt:=⟨[],[],[],[]⟩
def Jq3(k:Nat){R:Type}(x0 x1:J0)(x2:Bool)(x3 x4:Int)(x5:Bool)(x6:J0)(x7 x8:Int)(x9:Nat)(x10 x11:Bool)(x12:J6)(x13 x14:J0)(x15:Bool)(x16 x17:Int)(x18:Bool)(x19:J0)(x20 x21:Int)(x22:Nat)(x23 x24:Bool)(x25:J6)(K:(Bool->Option R)): Option R:=K (cond (cond (x0 == x13) (x1 == x14) false) (x2 == x15) false)
def J7C:=@Jq3
theorem Jj7(k:Nat): DOK Tryz.prog 67 (Jj6.run (@J7C k)):=dok Jj6 (JCi k) Tryz.f67 k ok0 (by kernel_rfl) (by kernel_rfl) fun R=>by kernel_rfl
def Jj8(k:Nat): Ent:=Jj6.e 67 (@J7C k)
def Jin:Sh:=⟨[.a kI,.o 11 27 0 [.s (.pr .str (.sl kI)),.s J5],.o 12 57 0 [.a .str,.a .str,.a .bool,.a kI,.a kI,.a .bool,.a .str,.a kI,.a kI,.a .flt,.a .bool,.a .bool,.s kI]],some ([.o 11 27 0 [.s (.pr .str (.sl kI)),.s J5],.o 12 57 0 [.a .str,.a .str,.a .bool,.a kI,.a kI,.a .bool,.a .str,.a kI,.a kI,.a .flt,.a .bool,.a .bool,.s kI]],[.a .bool]),none⟩
def JB3(k:Nat): Cxt:=⟨[Jj8 k],[11,12],[],[(1,(.of [(0,1),(2,1),(1,1),(3,1),(4,1),(5,1),(6,0),(7,1)] .done))]⟩
def JoW(k:Nat){R:Type}(x0:Int)(x1:J7)(x2:J9)(x3 x4:J0)(x5:Bool)(x6 x7:Int)(x8:Bool)(x9:J0)(x10 x11:Int)(x12:Nat)(x13 x14:Bool)(x15:J6)(K:(J7->J9->J0->J0->Bool->Int->Int->Bool->J0->Int->Int->Nat->Bool->Bool->J6->Bool->Option R)): Option R:=cond (inb x0 (x2.length:Int)) (J7C k (x2.getD x0.toNat J5.zero).1 (x2.getD x0.toNat J5.zero).2.1 (x2.getD x0.toNat J5.zero).2.2.1 (x2.getD x0.toNat J5.zero).2.2.2.1 (x2.getD x0.toNat J5.zero).2.2.2.2.1 (x2.getD x0.toNat J5.zero).2.2.2.2.2.1 (x2.getD x0.toNat J5.zero).2.2.2.2.2.2.1.1 (x2.getD x0.toNat J5.zero).2.2.2.2.2.2.1.2.1 (x2.getD x0.toNat J5.zero).2.2.2.2.2.2.1.2.2.1 (x2.getD x0.toNat J5.zero).2.2.2.2.2.2.1.2.2.2.1 (x2.getD x0.toNat J5.zero).2.2.2.2.2.2.1.2.2.2.2.1 (x2.getD x0.toNat J5.zero).2.2.2.2.2.2.1.2.2.2.2.2 (x2.getD x0.toNat J5.zero).2.2.2.2.2.2.2 x3 x4 x5 x6 x7 x8 x9 x10 x11 x12 x13 x14 x15 (fun y19=>K x1 x2 x3 x4 x5 x6 x7 x8 x9 x10 x11 x12 x13 x14 x15 y19)) none
def JdV:=@JoW
theorem JB4(k:Nat): DOK Tryz.prog 66 (Jin.run (@JdV k)):=dok Jin (JB3 k) Tryz.f66 k (ok1 (Jj7 k) ok0) (by kernel_rfl) (by kernel_rfl) fun R=>by kernel_rfl
def JB5(k:Nat): Ent:=Jin.e 66 (@JdV k)
def J69:Sh:=⟨[.s kI,.c 66 [.o 300 27 0 [.s (.pr .str (.sl kI)),.s J5],.o 301 57 0 [.a .str,.a .str,.a .bool,.a kI,.a kI,.a .bool,.a .str,.a kI,.a kI,.a .flt,.a .bool,.a .bool,.s kI]]],some ([.o 300 27 0 [.s (.pr .str (.sl kI)),.s J5],.o 301 57 0 [.a .str,.a .str,.a .bool,.a kI,.a kI,.a .bool,.a .str,.a kI,.a kI,.a .flt,.a .bool,.a .bool,.s kI]],[.a kI]),none⟩
def JbC:Cu:=⟨2,[0,1,7,8],[.o 300 27 0 [.s (.pr .str (.sl kI)),.s J5],.o 301 57 0 [.a .str,.a .str,.a .bool,.a kI,.a kI,.a .bool,.a .str,.a kI,.a kI,.a .flt,.a .bool,.a .bool,.s kI],.s kI,.c 66 [.r 300 0,.r 301 0],.a kI,.a kI]⟩
def Jny(k:Nat): Cxt:=⟨[JB5 k],[300,301],[(1002,JbC.spec)],[]⟩
def JbD(k:Nat){R:Type}(E1002:(J7->J9->J0->J0->Bool->Int->Int->Bool->J0->Int->Int->Nat->Bool->Bool->J6->J6->Int->Int->Option R))(s0:J7)(s1:J9)(s2 s3:J0)(s4:Bool)(s5 s6:Int)(s7:Bool)(s8:J0)(s9 s10:Int)(s11:Nat)(s12 s13:Bool)(s14 s15:J6)(s16 s17:Int)(K:(J7->J9->J0->J0->Bool->Int->Int->Bool->J0->Int->Int->Nat->Bool->Bool->J6->Int->Option R)): Option R:=cond (decide (s17<s16)) (cond (inb s17 (s15.length:Int)) (JdV k (s15.getD s17.toNat kI.zero) s0 s1 s2 s3 s4 s5 s6 s7 s8 s9 s10 s11 s12 s13 s14 (fun y22 y23 y24 y25 y26 y27 y28 y29 y30 y31 y32 y33 y34 y35 y36 y37=>cond y37 (K y22 y23 y24 y25 y26 y27 y28 y29 y30 y31 y32 y33 y34 y35 y36 s17) (E1002 y22 y23 y24 y25 y26 y27 y28 y29 y30 y31 y32 y33 y34 y35 y36 s15 s16 (IntKind.i64.wrap (s17+1))))) none) (K s0 s1 s2 s3 s4 s5 s6 s7 s8 s9 s10 s11 s12 s13 s14 (-(1:Int)))
def JgD(k:Nat){R:Type}(E1002:(J7->J9->J0->J0->Bool->Int->Int->Bool->J0->Int->Int->Nat->Bool->Bool->J6->J6->Int->Int->Option R))(x0:J6)(x1:J7)(x2:J9)(x3 x4:J0)(x5:Bool)(x6 x7:Int)(x8:Bool)(x9:J0)(x10 x11:Int)(x12:Nat)(x13 x14:Bool)(x15:J6)(K:(J7->J9->J0->J0->Bool->Int->Int->Bool->J0->Int->Int->Nat->Bool->Bool->J6->Int->Option R)): Option R:=E1002 x1 x2 x3 x4 x5 x6 x7 x8 x9 x10 x11 x12 x13 x14 x15 x0 (x0.length:Int) 0
def J3W(k:Nat){R:Type}: Nat->J7->J9->J0->J0->Bool->Int->Int->Bool->J0->Int->Int->Nat->Bool->Bool->J6->J6->Int->Int->(J7->J9->J0->J0->Bool->Int->Int->Bool->J0->Int->Int->Nat->Bool->Bool->J6->Int->Option R)->Option R
 |0,_,_,_,_,_,_,_,_,_,_,_,_,_,_,_,_,_,_,_=>none
 |n+1,s0,s1,s2,s3,s4,s5,s6,s7,s8,s9,s10,s11,s12,s13,s14,s15,s16,s17,K=>JbD k (fun s0 s1 s2 s3 s4 s5 s6 s7 s8 s9 s10 s11 s12 s13 s14 s15 s16 s17=>J3W k n s0 s1 s2 s3 s4 s5 s6 s7 s8 s9 s10 s11 s12 s13 s14 s15 s16 s17 K) s0 s1 s2 s3 s4 s5 s6 s7 s8 s9 s10 s11 s12 s13 s14 s15 s16 s17 K
theorem JwI(k:Nat){R:Type}: ∀(I:Nat->St->Option R) (n:Nat),J69.lp JbC (Jny k).cx k Tryz.f110 1002 [1,0,1,0] I n=J3W k n:=J69.lok JbC (B:=JbD k) (L:=J3W k) (fun I=>by kernel_rfl) (fun I=>by kernel_rfl) (fun n=>by kernel_rfl) (fun _ _ _ _=>rfl)
def JbG(k:Nat){R:Type}(x0:J6)(x1:J7)(x2:J9)(x3 x4:J0)(x5:Bool)(x6 x7:Int)(x8:Bool)(x9:J0)(x10 x11:Int)(x12:Nat)(x13 x14:Bool)(x15:J6)(K:(J7->J9->J0->J0->Bool->Int->Int->Bool->J0->Int->Int->Nat->Bool->Bool->J6->Int->Option R)): Option R:=JgD k (fun s0 s1 s2 s3 s4 s5 s6 s7 s8 s9 s10 s11 s12 s13 s14 s15 s16 s17=>J3W k k s0 s1 s2 s3 s4 s5 s6 s7 s8 s9 s10 s11 s12 s13 s14 s15 s16 s17 K) x0 x1 x2 x3 x4 x5 x6 x7 x8 x9 x10 x11 x12 x13 x14 x15 K
theorem JwS(k:Nat): DOK Tryz.prog 110 (J69.run (@JbG k)):=dok J69 (Jny k) Tryz.f110 k (ok1 (JB4 k) ok0) (by kernel_rfl) (by kernel_rfl) fun R=>J69.f1 JbC (JgD k) (by kernel_rfl) (JwI k (fun _ _=>none) k) (by kernel_rfl)
def JwT(k:Nat): Ent:=J69.e 110 (@JbG k)
def JgA:Sh:=⟨[.s kI,.c 66 [.o 300 27 0 [.s (.pr .str (.sl kI)),.s J5],.o 301 57 0 [.a .str,.a .str,.a .bool,.a kI,.a kI,.a .bool,.a .str,.a kI,.a kI,.a .flt,.a .bool,.a .bool,.s kI]]],some ([.o 300 27 0 [.s (.pr .str (.sl kI)),.s J5],.o 301 57 0 [.a .str,.a .str,.a .bool,.a kI,.a kI,.a .bool,.a .str,.a kI,.a kI,.a .flt,.a .bool,.a .bool,.s kI]],[.a .bool]),none⟩
def JwM(k:Nat): Cxt:=⟨[JwT k],[300,301],[],[]⟩
def Jnw(k:Nat){R:Type}(x0:J6)(x1:J7)(x2:J9)(x3 x4:J0)(x5:Bool)(x6 x7:Int)(x8:Bool)(x9:J0)(x10 x11:Int)(x12:Nat)(x13 x14:Bool)(x15:J6)(K:(J7->J9->J0->J0->Bool->Int->Int->Bool->J0->Int->Int->Nat->Bool->Bool->J6->Bool->Option R)): Option R:=JbG k x0 x1 x2 x3 x4 x5 x6 x7 x8 x9 x10 x11 x12 x13 x14 x15 (fun y19 y20 y21 y22 y23 y24 y25 y26 y27 y28 y29 y30 y31 y32 y33 y34=>K y19 y20 y21 y22 y23 y24 y25 y26 y27 y28 y29 y30 y31 y32 y33 (decide (y34≥0)))
def J9c:=@Jnw
theorem JwN(k:Nat): DOK Tryz.prog 65 (JgA.run (@J9c k)):=dok JgA (JwM k) Tryz.f65 k (ok1 (JwS k) ok0) (by kernel_rfl) (by kernel_rfl) fun R=>by kernel_rfl
def JwO(k:Nat): Ent:=JgA.e 65 (@J9c k)
def ZW:Sh:=⟨[.g [.s (.pr .str (.sl kI)),.s J5],.s kI,.a kI,.a kI,.a kI,.a kI],some ([],[.a kI]),none⟩
abbrev J4S:Type 1:=(R:Type)->J7->J9->J6->Int->Int->Int->Int->(Int->Option R)->Option R
def J6M:Cu:=⟨0,[1,2,3,4,5,6,16,17,18],[.s kI,.a kI,.a kI,.a kI,.a kI,.o 16 27 0 [.s (.pr .str (.sl kI)),.s J5],.s kI,.a kI,.a kI]⟩
def Jeh(k:Nat)(YQ:J4S): Cxt:=⟨[ZW.e 34 YQ,JDy k,JwO k],[],[(1002,J6M.spec)],[]⟩
def J6N(k:Nat)(YQ:J4S){R:Type}(E1002:(J6->Int->Int->Int->Int->J7->J9->J6->Int->Int->Option R))(s0:J6)(s1 s2 s3 s4:Int)(s5:J7)(s6:J9)(s7:J6)(s8 s9:Int)(K:(Int->Option R)): Option R:=cond (decide (s9<s8)) (cond (inb s9 (s7.length:Int)) (cond ((!((cond (cond ((s7.getD s9.toNat kI.zero) != s3) true (decide ((s7.getD s9.toNat kI.zero)≥(s6.length:Int)))) true (decide (s4>8))) == false)) || (inb (s7.getD s9.toNat kI.zero) (s6.length:Int))) (cond ((cond (cond ((s7.getD s9.toNat kI.zero) != s3) true (decide ((s7.getD s9.toNat kI.zero)≥(s6.length:Int)))) true (decide (s4>8))) == false) (Ja2 k (s6.getD (s7.getD s9.toNat kI.zero).toNat J5.zero).1 ((s6.getD (s7.getD s9.toNat kI.zero).toNat J5.zero).2).1 (((s6.getD (s7.getD s9.toNat kI.zero).toNat J5.zero).2).2).1 ((((s6.getD (s7.getD s9.toNat kI.zero).toNat J5.zero).2).2).2).1 (((((s6.getD (s7.getD s9.toNat kI.zero).toNat J5.zero).2).2).2).2).1 ((((((s6.getD (s7.getD s9.toNat kI.zero).toNat J5.zero).2).2).2).2).2).1 ((((((((s6.getD (s7.getD s9.toNat kI.zero).toNat J5.zero).2).2).2).2).2).2).1).1 (((((((((s6.getD (s7.getD s9.toNat kI.zero).toNat J5.zero).2).2).2).2).2).2).1).2).1 ((((((((((s6.getD (s7.getD s9.toNat kI.zero).toNat J5.zero).2).2).2).2).2).2).1).2).2).1 (((((((((((s6.getD (s7.getD s9.toNat kI.zero).toNat J5.zero).2).2).2).2).2).2).1).2).2).2).1 ((((((((((((s6.getD (s7.getD s9.toNat kI.zero).toNat J5.zero).2).2).2).2).2).2).1).2).2).2).2).1 ((((((((((((s6.getD (s7.getD s9.toNat kI.zero).toNat J5.zero).2).2).2).2).2).2).1).2).2).2).2).2 (((((((s6.getD (s7.getD s9.toNat kI.zero).toNat J5.zero).2).2).2).2).2).2).2 s1 s2 (fun y14=>cond (!y14) (K (-(1:Int))) (cond (inb (s7.getD s9.toNat kI.zero) (s6.length:Int)) (cond (bnd 0 s9 (s0.length:Int)) (J9c k (cut s0 0 s9) s5 s6 (s6.getD (s7.getD s9.toNat kI.zero).toNat J5.zero).1 ((s6.getD (s7.getD s9.toNat kI.zero).toNat J5.zero).2).1 (((s6.getD (s7.getD s9.toNat kI.zero).toNat J5.zero).2).2).1 ((((s6.getD (s7.getD s9.toNat kI.zero).toNat J5.zero).2).2).2).1 (((((s6.getD (s7.getD s9.toNat kI.zero).toNat J5.zero).2).2).2).2).1 ((((((s6.getD (s7.getD s9.toNat kI.zero).toNat J5.zero).2).2).2).2).2).1 ((((((((s6.getD (s7.getD s9.toNat kI.zero).toNat J5.zero).2).2).2).2).2).2).1).1 (((((((((s6.getD (s7.getD s9.toNat kI.zero).toNat J5.zero).2).2).2).2).2).2).1).2).1 ((((((((((s6.getD (s7.getD s9.toNat kI.zero).toNat J5.zero).2).2).2).2).2).2).1).2).2).1 (((((((((((s6.getD (s7.getD s9.toNat kI.zero).toNat J5.zero).2).2).2).2).2).2).1).2).2).2).1 ((((((((((((s6.getD (s7.getD s9.toNat kI.zero).toNat J5.zero).2).2).2).2).2).2).1).2).2).2).2).1 ((((((((((((s6.getD (s7.getD s9.toNat kI.zero).toNat J5.zero).2).2).2).2).2).2).1).2).2).2).2).2 (((((((s6.getD (s7.getD s9.toNat kI.zero).toNat J5.zero).2).2).2).2).2).2).2 (fun y15 y16 y17 y18 y19 y20 y21 y22 y23 y24 y25 y26 y27 y28 y29 y30=>cond y30 (K (-(1:Int))) (YQ R y15 y16 y29 s1 (s7.getD s9.toNat kI.zero) (IntKind.i64.wrap ((s7.getD s9.toNat kI.zero)+1)) (IntKind.i64.wrap (s4+1)) (fun y31=>cond (decide (y31<0)) (K (-(1:Int))) (E1002 s0 s1 s2 y31 s4 y15 y16 s7 s8 (IntKind.i64.wrap (s9+1))))))) none) none))) (K (-(1:Int)))) none) none) (K s3)
def J9M(k:Nat)(YQ:J4S){R:Type}(E1002:(J6->Int->Int->Int->Int->J7->J9->J6->Int->Int->Option R))(x0:J7)(x1:J9)(x2:J6)(x3 x4 x5 x6:Int)(K:(Int->Option R)): Option R:=E1002 x2 x3 x4 x5 x6 x0 x1 x2 (x2.length:Int) 0
def ZU(k:Nat)(YQ:J4S){R:Type}: Nat->J6->Int->Int->Int->Int->J7->J9->J6->Int->Int->(Int->Option R)->Option R
 |0,_,_,_,_,_,_,_,_,_,_,_=>none
 |n+1,s0,s1,s2,s3,s4,s5,s6,s7,s8,s9,K=>J6N k YQ (fun s0 s1 s2 s3 s4 s5 s6 s7 s8 s9=>ZU k YQ n s0 s1 s2 s3 s4 s5 s6 s7 s8 s9 K) s0 s1 s2 s3 s4 s5 s6 s7 s8 s9 K
theorem JxU(k:Nat)(YQ:J4S){R:Type}: ∀(I:Nat->St->Option R) (n:Nat),ZW.lp J6M (Jeh k YQ).cx k Tryz.f34 1002 [1,0,1,0] I n=ZU k YQ n:=ZW.lok J6M (B:=J6N k YQ) (L:=ZU k YQ) (fun I=>by kernel_rfl) (fun I=>by kernel_rfl) (fun n=>by kernel_rfl) (fun _ _ _ _=>rfl)
theorem JCj(k:Nat)(YQ:J4S)(R:Type): ZW.at (Jeh k YQ) k Tryz.f34 R=ZW.glue (l:=ZW.ps) (u:=J6M.fs) (fun E1002=>@J9M k YQ R E1002) (ZW.lp J6M (Jeh k YQ).cx k Tryz.f34 1002 [1,0,1,0] (fun _ _=>none) k):=by kernel_rfl
def YN:Nat->J4S
 |0,_,_,_,_,_,_,_,_,_=>none
 |k+1,R,x0,x1,x2,x3,x4,x5,x6,K=>J9M k (YN k) (fun s0 s1 s2 s3 s4 s5 s6 s7 s8 s9=>ZU k (YN k) k s0 s1 s2 s3 s4 s5 s6 s7 s8 s9 K) x0 x1 x2 x3 x4 x5 x6 K
def Jei(k:Nat){R:Type}(x0:J7)(x1:J9)(x2:J6)(x3 x4 x5 x6:Int)(K:(Int->Option R)): Option R:=YN k R x0 x1 x2 x3 x4 x5 x6 K
theorem JBy(k:Nat): DOK Tryz.prog 34 (ZW.run (YN k)):=by
 induction k with
 |zero=>exact ZW.ok0 fun R=>by kernel_rfl
 |succ k ih =>
  have ih_config_walk:=ih
  exact dok ZW (Jeh k (YN k)) Tryz.f34 k (ok1 ih_config_walk (ok1 (JDx k) (ok1 (JwN k) ok0))) (by kernel_rfl) (by kernel_rfl) fun R=>ZW.f1 J6M (J9M k (YN k)) (JCj k (YN k) R) (JxU k (YN k) (fun _ _=>none) k) (by kernel_rfl)
theorem JCk(k:Nat): DOK Tryz.prog 34 (ZW.run (@Jei k)):=(JBy k)
def JCl(k:Nat): Ent:=ZW.e 34 (@Jei k)
def J4T:Sh:=⟨[.g [.s (.pr .str (.sl kI)),.s J5]],some ([],[.a kI]),none⟩
abbrev J7m:Type 1:=(R:Type)->J7->J9->(Int->Option R)->Option R
def Jcy:Cu:=⟨0,[1,3,4,25,26,27],[.o 11 27 0 [.s (.pr .str (.sl kI)),.s J5],.m 73 .one .bool,.a kI,.s (.pr .str (.sl kI)),.a kI,.a kI]⟩
def Jpk(k:Nat): Cxt:=⟨[Jk4 k,JCl k],[],[(1006,Jcy.spec)],[]⟩
def Jcz(k:Nat){R:Type}(E1006:(J7->J9->(List (List UInt8×Bool))->Int->J7->Int->Int->Option R))(s0:J7)(s1:J9)(s2:(List (List UInt8×Bool)))(s3:Int)(s4:J7)(s5 s6:Int)(K:(Int->Option R)): Option R:=cond (decide (s6<s5)) (cond (inb s6 (s4.length:Int)) (cond ((Yv Kd.bool (s4.getD s6.toNat (Kd.zero (@Kd.pr Kd.str (@Kd.sl kI)))).1 s2) == false) (J1w k (s4.getD s6.toNat (Kd.zero (@Kd.pr Kd.str (@Kd.sl kI)))).1 (fun y11=>cond (!y11) (K 1) (Jei k s0 s1 (s4.getD s6.toNat (Kd.zero (@Kd.pr Kd.str (@Kd.sl kI)))).2 s6 (-(1:Int)) s3 1 (fun y12=>cond (decide (y12<0)) (K 1) (E1006 s0 s1 (Z2 Kd.bool (s4.getD s6.toNat (Kd.zero (@Kd.pr Kd.str (@Kd.sl kI)))).1 true s2) y12 s4 s5 (IntKind.i64.wrap (s6+1))))))) (K 1)) none) (cond (s3 != (s1.length:Int)) (K 1) (K 0))
def JiE(k:Nat){R:Type}(E1006:(J7->J9->(List (List UInt8×Bool))->Int->J7->Int->Int->Option R))(x0:J7)(x1:J9)(K:(Int->Option R)): Option R:=cond (cond (cond (decide ((x0.length:Int)<1)) true (decide ((x0.length:Int)>16))) true (decide ((x1.length:Int)>500))) (K 1) (E1006 x0 x1 [] 0 x0 (x0.length:Int) 0)
def J2Z(k:Nat){R:Type}: Nat->J7->J9->(List (List UInt8×Bool))->Int->J7->Int->Int->(Int->Option R)->Option R
 |0,_,_,_,_,_,_,_,_=>none
 |n+1,s0,s1,s2,s3,s4,s5,s6,K=>Jcz k (fun s0 s1 s2 s3 s4 s5 s6=>J2Z k n s0 s1 s2 s3 s4 s5 s6 K) s0 s1 s2 s3 s4 s5 s6 K
theorem JxE(k:Nat){R:Type}: ∀(I:Nat->St->Option R) (n:Nat),J4T.lp Jcy (Jpk k).cx k Tryz.f14 1006 [1,1,1,1,0,1,0] I n=J2Z k n:=J4T.lok Jcy (B:=Jcz k) (L:=J2Z k) (fun I=>by kernel_rfl) (fun I=>by kernel_rfl) (fun n=>by kernel_rfl) (fun _ _ _ _=>rfl)
def J2a(k:Nat){R:Type}(x0:J7)(x1:J9)(K:(Int->Option R)): Option R:=JiE k (fun s0 s1 s2 s3 s4 s5 s6=>J2Z k k s0 s1 s2 s3 s4 s5 s6 K) x0 x1 K
theorem Jpl(k:Nat): DOK Tryz.prog 14 (J4T.run (@J2a k)):=dok J4T (Jpk k) Tryz.f14 k (ok1 (JeL k) (ok1 (JCk k) ok0)) (by kernel_rfl) (by kernel_rfl) fun R=>J4T.f1 Jcy (JiE k) (by kernel_rfl) (JxE k (fun _ _=>none) k) (by kernel_rfl)
def JoX:List LS:=[.obj 1 [.sl (.pr .str (.sl (.int .i64))),.sl (.pr .str (.pr .str (.pr .bool (.pr (.int .i64) (.pr (.int .i64) (.pr .bool (.pr (.pr .str (.pr (.int .i64) (.pr (.int .i64) (.pr .flt (.pr .bool .bool))))) (.sl (.int .i64)))))))))],.obj 2 [.any,.any]]
def JoY(k:Nat): CTab:=CTab.nil
noncomputable def Jhs{R:Type}(K:((List ((List UInt8)×(List Int)))->(List Uc)->Int->Int->Option R)): Out->Option R
 |.ret [] [(1,.var 27 [.v (.sl (.pr .str (.sl (.int .i64)))) y0,.v (.sl (.pr .str (.pr .str (.pr .bool (.pr (.int .i64) (.pr (.int .i64) (.pr .bool (.pr (.pr .str (.pr (.int .i64) (.pr (.int .i64) (.pr .flt (.pr .bool .bool))))) (.sl (.int .i64)))))))))) y1]),(2,.var 29 [.v (.int .i64) y2,.v (.int .i64) y3])]=>K y0 y1 y2 y3
 |_=>none
def JoK:RetSpec:=⟨[],[(1,.obj 1 [.sl (.pr .str (.sl (.int .i64))),.sl (.pr .str (.pr .str (.pr .bool (.pr (.int .i64) (.pr (.int .i64) (.pr .bool (.pr (.pr .str (.pr (.int .i64) (.pr (.int .i64) (.pr .flt (.pr .bool .bool))))) (.sl (.int .i64)))))))))]),(2,.obj 2 [.any,.any])],[]⟩
def Jzr:List (Nat×CutSpec):=[]
def JyQ:List (Nat×Plan):=[(7,(.of [(0,1),(1,2),(2,0),(3,0)] .done))]
def Ji8(k:Nat): Ctx:=⟨tyT,Jzr,JoY k,[],[1,2],JyQ,@SH⟩
def JcR:Code:=Tryz.f36.body.getD .skip
def JoZ(k:Nat){R:Type}(x0:(List ((List UInt8)×(List Int))))(x1:(List Uc))(x2 x3:Int)(K:((List ((List UInt8)×(List Int)))->(List Uc)->Int->Int->Option R)): Option R:=K x0 x1 x2 x3
theorem Jzs(k:Nat){R:Type}(I:Nat->St->Option R)(x0:(List ((List UInt8)×(List Int))))(x1:(List Uc))(x2 x3:Int)(K:((List ((List UInt8)×(List Int)))->(List Uc)->Int->Int->Option R)): ZK (Ji8 k) k (at_ [1] JcR) 13 [] JoK [.ptr 1 0,.ptr 2 0] 5 (.nilif) [(1,.var 27 [.v (.sl (.pr .str (.sl (.int .i64)))) x0,.v (.sl (.pr .str (.pr .str (.pr .bool (.pr (.int .i64) (.pr (.int .i64) (.pr .bool (.pr (.pr .str (.pr (.int .i64) (.pr (.int .i64) (.pr .flt (.pr .bool .bool))))) (.sl (.int .i64)))))))))) x1]),(2,.var 29 [.v (.int .i64) x2,.v (.int .i64) x3])] (Jhs K)=JoZ k x0 x1 x2 x3 K:=by kernel_rfl
def J9E(k:Nat){R:Type}(x0:(List ((List UInt8)×(List Int))))(x1:(List Uc))(x2 x3:Int)(K:((List ((List UInt8)×(List Int)))->(List Uc)->Int->Int->Option R)): Option R:=JoZ k x0 x1 x2 x3 K
theorem Jzt(k:Nat){R:Type}(x0:(List ((List UInt8)×(List Int))))(x1:(List Uc))(x2 x3:Int)(K:((List ((List UInt8)×(List Int)))->(List Uc)->Int->Int->Option R)): ZK (Ji8 k) k (at_ [1] JcR) 13 [] JoK [.ptr 1 0,.ptr 2 0] 5 (.nilif) [(1,.var 27 [.v (.sl (.pr .str (.sl (.int .i64)))) x0,.v (.sl (.pr .str (.pr .str (.pr .bool (.pr (.int .i64) (.pr (.int .i64) (.pr .bool (.pr (.pr .str (.pr (.int .i64) (.pr (.int .i64) (.pr .flt (.pr .bool .bool))))) (.sl (.int .i64)))))))))) x1]),(2,.var 29 [.v (.int .i64) x2,.v (.int .i64) x3])] (Jhs K)=J9E k x0 x1 x2 x3 K:=by
 exact Jzs k (fun _ _=>none) x0 x1 x2 x3 K
noncomputable def Jor(k:Nat){R:Type}: PV->List PV->List (Nm×HObj)->(Out->Option R)->Option R
 |.nilif,[.ptr 1 0,.ptr 2 0],[(1,.var 27 [.v (.sl (.pr .str (.sl (.int .i64)))) x0,.v (.sl (.pr .str (.pr .str (.pr .bool (.pr (.int .i64) (.pr (.int .i64) (.pr .bool (.pr (.pr .str (.pr (.int .i64) (.pr (.int .i64) (.pr .flt (.pr .bool .bool))))) (.sl (.int .i64)))))))))) x1]),(2,.var 29 [.v (.int .i64) x2,.v (.int .i64) x3])],K=>J9E k x0 x1 x2 x3 (fun y0 y1 y2 y3=>K (.ret [] [(1,.var 27 [.v (.sl (.pr .str (.sl (.int .i64)))) y0,.v (.sl (.pr .str (.pr .str (.pr .bool (.pr (.int .i64) (.pr (.int .i64) (.pr .bool (.pr (.pr .str (.pr (.int .i64) (.pr (.int .i64) (.pr .flt (.pr .bool .bool))))) (.sl (.int .i64)))))))))) y1]),(2,.var 29 [.v (.int .i64) y2,.v (.int .i64) y3])]))
 |_,_,_,_=>none
theorem Jzu(k:Nat): (JoY k).Ok Tryz.prog:=CTab.nil_ok
theorem JAu(k:Nat){rec:PV}{ps:List PV}{hp:List (Nm×HObj)}{R:Type}{K:Out->Option R}{r:R}(h:Jor k rec ps hp K=some r): DoesToD Tryz.prog 36 rec ps hp fun out=>K out=some r:=by
 unfold Jor at h
 split at h
 ·rw[←Jzt]at h
  have:=J8C (P:=Tryz.prog) (cx:=Ji8 k) (f:=36) ⟨J18,Jzu k,fun _ _=>rfl⟩ (by kernel_rfl) (fn:=Tryz.f36) (id:=0) (ops:=Zk (at_ [0] JcR)) (c:=at_ [1] JcR) (by kernel_rfl) (by kernel_rfl) (by kernel_rfl) (rs:=[]) (by kernel_rfl) (by kernel_rfl) h
  exact this.mono fun out ho=>by
   unfold Jhs at ho
   split at ho<;>first|exact ho|cases ho
 ·cases h
def Jp0(k:Nat): CTab:=CTab.nil
noncomputable def Jht{R:Type}(K:((List ((List UInt8)×(List Int)))->(List Uc)->Int->Int->Option R)): Out->Option R
 |.ret [] [(1,.var 27 [.v (.sl (.pr .str (.sl (.int .i64)))) y0,.v (.sl (.pr .str (.pr .str (.pr .bool (.pr (.int .i64) (.pr (.int .i64) (.pr .bool (.pr (.pr .str (.pr (.int .i64) (.pr (.int .i64) (.pr .flt (.pr .bool .bool))))) (.sl (.int .i64)))))))))) y1]),(2,.var 29 [.v (.int .i64) y2,.v (.int .i64) y3])]=>K y0 y1 y2 y3
 |_=>none
def JoL:RetSpec:=⟨[],[(1,.obj 1 [.sl (.pr .str (.sl (.int .i64))),.sl (.pr .str (.pr .str (.pr .bool (.pr (.int .i64) (.pr (.int .i64) (.pr .bool (.pr (.pr .str (.pr (.int .i64) (.pr (.int .i64) (.pr .flt (.pr .bool .bool))))) (.sl (.int .i64)))))))))]),(2,.obj 2 [.any,.any])],[]⟩
def Jzv:List (Nat×CutSpec):=[]
def JyR:List (Nat×Plan):=[(7,(.of [(0,1),(1,2),(2,0),(3,0)] .done))]
def Ji9(k:Nat): Ctx:=⟨tyT,Jzv,Jp0 k,[],[1,2],JyR,@SH⟩
def JcS:Code:=Tryz.f36.body.getD .skip
def Jp1(k:Nat){R:Type}(x0:(List ((List UInt8)×(List Int))))(x1:(List Uc))(x2 x3 x4 x5:Int)(K:((List ((List UInt8)×(List Int)))->(List Uc)->Int->Int->Option R)): Option R:=K [] [] x4 x5
theorem Jzw(k:Nat){R:Type}(I:Nat->St->Option R)(x0:(List ((List UInt8)×(List Int))))(x1:(List Uc))(x2 x3 x4 x5:Int)(K:((List ((List UInt8)×(List Int)))->(List Uc)->Int->Int->Option R)): ZK (Ji9 k) k (at_ [1] JcS) 13 [] JoL [.ptr 1 0,.ptr 2 0] 5 (.ifc 29 (.agg [.v (.int .i64) x4,.v (.int .i64) x5])) [(1,.var 27 [.v (.sl (.pr .str (.sl (.int .i64)))) x0,.v (.sl (.pr .str (.pr .str (.pr .bool (.pr (.int .i64) (.pr (.int .i64) (.pr .bool (.pr (.pr .str (.pr (.int .i64) (.pr (.int .i64) (.pr .flt (.pr .bool .bool))))) (.sl (.int .i64)))))))))) x1]),(2,.var 29 [.v (.int .i64) x2,.v (.int .i64) x3])] (Jht K)=Jp1 k x0 x1 x2 x3 x4 x5 K:=by kernel_rfl
def J9F(k:Nat){R:Type}(x0:(List ((List UInt8)×(List Int))))(x1:(List Uc))(x2 x3 x4 x5:Int)(K:((List ((List UInt8)×(List Int)))->(List Uc)->Int->Int->Option R)): Option R:=Jp1 k x0 x1 x2 x3 x4 x5 K
theorem Jzx(k:Nat){R:Type}(x0:(List ((List UInt8)×(List Int))))(x1:(List Uc))(x2 x3 x4 x5:Int)(K:((List ((List UInt8)×(List Int)))->(List Uc)->Int->Int->Option R)): ZK (Ji9 k) k (at_ [1] JcS) 13 [] JoL [.ptr 1 0,.ptr 2 0] 5 (.ifc 29 (.agg [.v (.int .i64) x4,.v (.int .i64) x5])) [(1,.var 27 [.v (.sl (.pr .str (.sl (.int .i64)))) x0,.v (.sl (.pr .str (.pr .str (.pr .bool (.pr (.int .i64) (.pr (.int .i64) (.pr .bool (.pr (.pr .str (.pr (.int .i64) (.pr (.int .i64) (.pr .flt (.pr .bool .bool))))) (.sl (.int .i64)))))))))) x1]),(2,.var 29 [.v (.int .i64) x2,.v (.int .i64) x3])] (Jht K)=J9F k x0 x1 x2 x3 x4 x5 K:=by
 exact Jzw k (fun _ _=>none) x0 x1 x2 x3 x4 x5 K
noncomputable def Jos(k:Nat){R:Type}: PV->List PV->List (Nm×HObj)->(Out->Option R)->Option R
 |.ifc 29 (.agg [.v (.int .i64) x4,.v (.int .i64) x5]),[.ptr 1 0,.ptr 2 0],[(1,.var 27 [.v (.sl (.pr .str (.sl (.int .i64)))) x0,.v (.sl (.pr .str (.pr .str (.pr .bool (.pr (.int .i64) (.pr (.int .i64) (.pr .bool (.pr (.pr .str (.pr (.int .i64) (.pr (.int .i64) (.pr .flt (.pr .bool .bool))))) (.sl (.int .i64)))))))))) x1]),(2,.var 29 [.v (.int .i64) x2,.v (.int .i64) x3])],K=>J9F k x0 x1 x2 x3 x4 x5 (fun y0 y1 y2 y3=>K (.ret [] [(1,.var 27 [.v (.sl (.pr .str (.sl (.int .i64)))) y0,.v (.sl (.pr .str (.pr .str (.pr .bool (.pr (.int .i64) (.pr (.int .i64) (.pr .bool (.pr (.pr .str (.pr (.int .i64) (.pr (.int .i64) (.pr .flt (.pr .bool .bool))))) (.sl (.int .i64)))))))))) y1]),(2,.var 29 [.v (.int .i64) y2,.v (.int .i64) y3])]))
 |_,_,_,_=>none
theorem Jzy(k:Nat): (Jp0 k).Ok Tryz.prog:=CTab.nil_ok
theorem JAv(k:Nat){rec:PV}{ps:List PV}{hp:List (Nm×HObj)}{R:Type}{K:Out->Option R}{r:R}(h:Jos k rec ps hp K=some r): DoesToD Tryz.prog 36 rec ps hp fun out=>K out=some r:=by
 unfold Jos at h
 split at h
 ·rw[←Jzx]at h
  have:=J8C (P:=Tryz.prog) (cx:=Ji9 k) (f:=36) ⟨J18,Jzy k,fun _ _=>rfl⟩ (by kernel_rfl) (fn:=Tryz.f36) (id:=0) (ops:=Zk (at_ [0] JcS)) (c:=at_ [1] JcS) (by kernel_rfl) (by kernel_rfl) (by kernel_rfl) (rs:=[]) (by kernel_rfl) (by kernel_rfl) h
  exact this.mono fun out ho=>by
   unfold Jht at ho
   split at ho<;>first|exact ho|cases ho
 ·cases h
def J4U:Sh:=⟨[.g [.a kI,.a kI]],some ([],[]),some ([],[.i 29 (.g [.a kI,.a kI])])⟩
abbrev UQ:Type 1:=(R:Type)->Int->Int->(Unit->Option R)->(Int->Int->Option R)->Option R
def JBz(k:Nat): Cxt:=⟨[],[],[],[]⟩
def JiF(k:Nat){R:Type}(x0 x1:Int)(K:(Unit->Option R))(E:(Int->Int->Option R)): Option R:=cond (x0 != 0) (E x0 x1) (K @Unit.unit)
def Qh:=@JiF
theorem J2b(k:Nat): DOK Tryz.prog 69 (J4U.run (@Qh k)):=dok J4U (JBz k) Tryz.f69 k ok0 (by kernel_rfl) (by kernel_rfl) fun R=>by kernel_rfl
def J9H(k:Nat): Ent:=J4U.e 69 (@Qh k)
def Jh4:Sh:=⟨[.l J0y,.a kI],some ([],[.a kI]),none⟩
def Jyh(k:Nat): Cxt:=⟨[],[],[],[]⟩
def JnZ(k:Nat){R:Type}(x0:J0b)(x1:Int)(K:(Int->Option R)): Option R:=cond (inb x1 (x0.length:Int)) (K (x0.getD x1.toNat J4.zero).2.1) none
def Jci:=@JnZ
theorem Jyi(k:Nat): DOK Tryz.prog 125 (Jh4.run (@Jci k)):=dok Jh4 (Jyh k) Tryz.f125 k ok0 (by kernel_rfl) (by kernel_rfl) fun R=>by kernel_rfl
def Jyj(k:Nat): Ent:=Jh4.e 125 (@Jci k)
def J45:Sh:=⟨[.l J0y,.a kI,.a kI],none,some ([],[.i 29 (.g [.a kI,.a kI])])⟩
abbrev UM:Type 1:=(R:Type)->J0b->Int->Int->(Int->Int->Option R)->Option R
def JxV(k:Nat): Cxt:=⟨[J9H k,Jyj k],[],[],[]⟩
def JnU(k:Nat){R:Type}(x0:J0b)(x1 x2:Int)(E:(Int->Int->Option R)): Option R:=Jci k x0 x1 (fun y6=>Qh k x2 y6 (fun y7=>none) E)
def QB:=@JnU
theorem J9j(k:Nat): DOK Tryz.prog 75 (J45.run (@QB k)):=dok J45 (JxV k) Tryz.f75 k (ok1 (J2b k) (ok1 (Jyi k) ok0)) (by kernel_rfl) (by kernel_rfl) fun R=>by kernel_rfl
def JxW(k:Nat): Ent:=J45.e 75 (@QB k)
def JcT:Sh:=⟨[.g [.s J4],.a kI,.a kI],some ([],[.g [.a kI,.a kI]]),none⟩
abbrev Jhd:Type 1:=(R:Type)->J3->Int->Int->(Int->Int->Option R)->Option R
def Jzz(k:Nat): Cxt:=⟨[],[],[],[]⟩
def Jhu(k:Nat){R:Type}(x0:J3)(x1 x2:Int)(K:(Int->Int->Option R)): Option R:=cond (inb x1 (x0.length:Int)) (K x2 (x0.getD x1.toNat J4.zero).2.1) none
def Z7:=@Jhu
theorem J31(k:Nat): DOK Tryz.prog 114 (JcT.run (@Z7 k)):=dok JcT (Jzz k) Tryz.f114 k ok0 (by kernel_rfl) (by kernel_rfl) fun R=>by kernel_rfl
def J4j(k:Nat): Ent:=JcT.e 114 (@Z7 k)
def Jdb:Sh:=⟨[.g [.s J4],.a kI,.a kI],some ([],[.g [.a kI,.a kI]]),none⟩
abbrev J32:Type 1:=(R:Type)->J3->Int->Int->(Int->Int->Option R)->Option R
def JzV(k:Nat): Cxt:=⟨[J4j k],[],[],[]⟩
def Jot(k:Nat){R:Type}(x0:J3)(x1 x2:Int)(K:(Int->Int->Option R)): Option R:=cond (inb x1 (x0.length:Int)) (cond ((x0.getD x1.toNat J4.zero).1 != x2) (Z7 k x0 x1 11 K) (K 0 0)) none
def Uw:=@Jot
theorem J71(k:Nat): DOK Tryz.prog 112 (Jdb.run (@Uw k)):=dok Jdb (JzV k) Tryz.f112 k (ok1 (J31 k) ok0) (by kernel_rfl) (by kernel_rfl) fun R=>by kernel_rfl
def J9x(k:Nat): Ent:=Jdb.e 112 (@Uw k)
def Jdc:Sh:=⟨[.g [.s J4],.a kI,.a kI],some ([],[.a .str,.g [.a kI,.a kI]]),none⟩
abbrev Jhv:Type 1:=(R:Type)->J3->Int->Int->(J0->Int->Int->Option R)->Option R
def JzW(k:Nat): Cxt:=⟨[J9x k,J4j k],[],[],[(3,(.of [(1,1),(0,1),(2,0)] .done))]⟩
def Jou(k:Nat){R:Type}(x0:J3)(x1 x2:Int)(K:(J0->Int->Int->Option R)): Option R:=Uw k x0 x1 1 (fun y6 y7=>cond (y6 != 0) (K [] y6 y7) (cond (inb x1 (x0.length:Int)) (cond (x0.getD x1.toNat J4.zero).2.2.2.1 (Z7 k x0 x1 x2 (fun y8 y9=>K [] y8 y9)) (cond (inb x1 (x0.length:Int)) (K (x0.getD x1.toNat J4.zero).2.2.1 0 0) none)) none))
def J21:=@Jou
theorem JhU(k:Nat): DOK Tryz.prog 171 (Jdc.run (@J21 k)):=dok Jdc (JzW k) Tryz.f171 k (ok1 (J71 k) (ok1 (J31 k) ok0)) (by kernel_rfl) (by kernel_rfl) fun R=>by kernel_rfl
def Jov(k:Nat): Ent:=Jdc.e 171 (@J21 k)
def JhV:Sh:=⟨[.g [.s J4],.a kI],some ([],[.a .bool,.g [.a kI,.a kI]]),none⟩
def JzX(k:Nat): Cxt:=⟨[J4j k,Jov k],[],[],[(3,(.of [(1,1),(0,1),(2,0)] .done))]⟩
def Jow(k:Nat){R:Type}(x0:J3)(x1:Int)(K:(Bool->Int->Int->Option R)): Option R:=J21 k x0 x1 14 (fun y5 y6 y7=>cond (y6 != 0) (K false y6 y7) (cond (cond (!(y5 == [(116:UInt8),114,117,101])) (!(y5 == [(102:UInt8),97,108,115,101])) false) (Z7 k x0 x1 14 (fun y8 y9=>K false y8 y9)) (K (y5 == [(116:UInt8),114,117,101]) 0 0)))
def J72:=@Jow
theorem JzY(k:Nat): DOK Tryz.prog 241 (JhV.run (@J72 k)):=dok JhV (JzX k) Tryz.f241 k (ok1 (J31 k) (ok1 (JhU k) ok0)) (by kernel_rfl) (by kernel_rfl) fun R=>by kernel_rfl
def JzZ(k:Nat): Ent:=JhV.e 241 (@J72 k)
def J6a:Sh:=⟨[.s .str,.a .str],some ([],[.a kI]),none⟩
def JbE:Cu:=⟨0,[0,1,7,8],[.s .str,.a .str,.a kI,.a kI]⟩
def JnB(k:Nat): Cxt:=⟨[],[],[(1002,JbE.spec)],[]⟩
def J9d(k:Nat){R:Type}(E1002:(Jt->J0->Int->Int->Option R))(s0:Jt)(s1:J0)(s2 s3:Int)(K:(Int->Option R)): Option R:=cond (decide (s3<s2)) (cond (inb s3 (s0.length:Int)) (cond (s1 == (s0.getD s3.toNat Kd.str.zero)) (K s3) (E1002 s0 s1 s2 (IntKind.i64.wrap (s3+1)))) none) (K (-(1:Int)))
def JbH(k:Nat){R:Type}(E1002:(Jt->J0->Int->Int->Option R))(x0:Jt)(x1:J0)(K:(Int->Option R)): Option R:=E1002 x0 x1 (x0.length:Int) 0
def J1U(k:Nat){R:Type}: Nat->Jt->J0->Int->Int->(Int->Option R)->Option R
 |0,_,_,_,_,_=>none
 |n+1,s0,s1,s2,s3,K=>J9d k (fun s0 s1 s2 s3=>J1U k n s0 s1 s2 s3 K) s0 s1 s2 s3 K
theorem JwJ(k:Nat){R:Type}: ∀(I:Nat->St->Option R) (n:Nat),J6a.lp JbE (JnB k).cx k Tryz.f166 1002 [1,0,1,0] I n=J1U k n:=J6a.lok JbE (B:=J9d k) (L:=J1U k) (fun I=>by kernel_rfl) (fun I=>by kernel_rfl) (fun n=>by kernel_rfl) (fun _ _ _ _=>rfl)
def J2R(k:Nat){R:Type}(x0:Jt)(x1:J0)(K:(Int->Option R)): Option R:=JbH k (fun s0 s1 s2 s3=>J1U k k s0 s1 s2 s3 K) x0 x1 K
theorem JgG(k:Nat): DOK Tryz.prog 166 (J6a.run (@J2R k)):=dok J6a (JnB k) Tryz.f166 k ok0 (by kernel_rfl) (by kernel_rfl) fun R=>J6a.f1 JbE (JbH k) (by kernel_rfl) (JwJ k (fun _ _=>none) k) (by kernel_rfl)
def JgH(k:Nat): Ent:=J6a.e 166 (@J2R k)
def J9y:Sh:=⟨[.g [.s J4],.a kI,.a .str],some ([],[.a kI,.a .bool]),none⟩
abbrev J0O:Type 1:=(R:Type)->J3->Int->J0->(Int->Bool->Option R)->Option R
def JA0(k:Nat): Cxt:=⟨[JgH k],[],[],[]⟩
def Jox(k:Nat){R:Type}(x0:J3)(x1:Int)(x2:J0)(K:(Int->Bool->Option R)): Option R:=cond (inb x1 (x0.length:Int)) (J2R k (x0.getD x1.toNat J4.zero).2.2.2.2.1 x2 (fun y6=>cond (cond ((x0.getD x1.toNat J4.zero).1 != 3) true (decide (y6<0))) (K 0 false) (cond (inb y6 (((x0.getD x1.toNat J4.zero).2.2.2.2.2).length:Int)) (K (((x0.getD x1.toNat J4.zero).2.2.2.2.2).getD y6.toNat kI.zero) true) none))) none
def QZ:=@Jox
theorem J73(k:Nat): DOK Tryz.prog 123 (J9y.run (@QZ k)):=dok J9y (JA0 k) Tryz.f123 k (ok1 (JgG k) ok0) (by kernel_rfl) (by kernel_rfl) fun R=>by kernel_rfl
def Jdd(k:Nat): Ent:=J9y.e 123 (@QZ k)
def Jcj:Sh:=⟨[.l J0y,.a kI,.a .str],some ([],[.a .bool]),some ([],[.i 29 (.g [.a kI,.a kI])])⟩
abbrev J0J:Type 1:=(R:Type)->J0b->Int->J0->(Bool->Option R)->(Int->Int->Option R)->Option R
def Jyk(k:Nat): Cxt:=⟨[J9H k,Jdd k,JzZ k],[],[],[]⟩
def Jo0(k:Nat){R:Type}(x0:J0b)(x1:Int)(x2:J0)(K:(Bool->Option R))(E:(Int->Int->Option R)): Option R:=QZ k x0 x1 x2 (fun y7 y8=>cond (!y8) (K false) (J72 k x0 y7 (fun y9 y10 y11=>Qh k y10 y11 (fun y12=>K y9) E)))
def Y0:=@Jo0
theorem Jo1(k:Nat): DOK Tryz.prog 207 (Jcj.run (@Y0 k)):=dok Jcj (Jyk k) Tryz.f207 k (ok1 (J2b k) (ok1 (J73 k) (ok1 (JzY k) ok0))) (by kernel_rfl) (by kernel_rfl) fun R=>by kernel_rfl
def Jca:Sh:=⟨[.l J0y,.a kI,.a .str],some ([],[.s kI]),some ([],[.i 29 (.g [.a kI,.a kI])])⟩
abbrev J6s:Type 1:=(R:Type)->J0b->Int->J0->(J6->Option R)->(Int->Int->Option R)->Option R
def JxX(k:Nat): Cxt:=⟨[J9H k,J9x k,Jdd k],[],[],[]⟩
def JnV(k:Nat){R:Type}(x0:J0b)(x1:Int)(x2:J0)(K:(J6->Option R))(E:(Int->Int->Option R)): Option R:=QZ k x0 x1 x2 (fun y7 y8=>cond (!y8) (K []) (Uw k x0 y7 2 (fun y9 y10=>Qh k y9 y10 (fun y11=>cond (inb y7 (x0.length:Int)) (K (x0.getD y7.toNat J4.zero).2.2.2.2.2) none) E)))
def ZP:=@JnV
theorem JnW(k:Nat): DOK Tryz.prog 74 (Jca.run (@ZP k)):=dok Jca (JxX k) Tryz.f74 k (ok1 (J2b k) (ok1 (J71 k) (ok1 (J73 k) ok0))) (by kernel_rfl) (by kernel_rfl) fun R=>by kernel_rfl
def JxY(k:Nat): Ent:=Jca.e 74 (@ZP k)
def J6z:Sh:=⟨[.l J0y,.a kI,.a .str],some ([],[.a kI]),some ([],[.i 29 (.g [.a kI,.a kI])])⟩
abbrev UN:Type 1:=(R:Type)->J0b->Int->J0->(Int->Option R)->(Int->Int->Option R)->Option R
def Jyl(k:Nat): Cxt:=⟨[JxW k,Jdd k],[],[],[]⟩
def Jo2(k:Nat){R:Type}(x0:J0b)(x1:Int)(x2:J0)(K:(Int->Option R))(E:(Int->Int->Option R)): Option R:=QZ k x0 x1 x2 (fun y7 y8=>cond (!y8) (QB k x0 x1 10 E) (K y7))
def QY:=@Jo2
theorem Jck(k:Nat): DOK Tryz.prog 73 (J6z.run (@QY k)):=dok J6z (Jyl k) Tryz.f73 k (ok1 (J9j k) (ok1 (J73 k) ok0)) (by kernel_rfl) (by kernel_rfl) fun R=>by kernel_rfl
def JhW:Sh:=⟨[.g [.s J4],.a kI],some ([],[.a .str,.g [.a kI,.a kI]]),none⟩
def JA1(k:Nat): Cxt:=⟨[Jk4 k,J9x k,J4j k],[],[],[(3,(.of [(1,1),(0,1),(2,0)] .done))]⟩
def Joy(k:Nat){R:Type}(x0:J3)(x1:Int)(K:(J0->Int->Int->Option R)): Option R:=Uw k x0 x1 1 (fun y5 y6=>cond (y5 != 0) (K [] y5 y6) (cond (inb x1 (x0.length:Int)) (J1w k (x0.getD x1.toNat J4.zero).2.2.1 (fun y7=>cond y7 (K (x0.getD x1.toNat J4.zero).2.2.1 0 0) (Z7 k x0 x1 12 (fun y8 y9=>K [] y8 y9)))) none))
def J74:=@Joy
theorem JA2(k:Nat): DOK Tryz.prog 173 (JhW.run (@J74 k)):=dok JhW (JA1 k) Tryz.f173 k (ok1 (JeL k) (ok1 (J71 k) (ok1 (J31 k) ok0))) (by kernel_rfl) (by kernel_rfl) fun R=>by kernel_rfl
def JA3(k:Nat): Ent:=JhW.e 173 (@J74 k)
def J9m:Sh:=⟨[.l J0y,.a kI],some ([],[.a .str]),some ([],[.i 29 (.g [.a kI,.a kI])])⟩
abbrev Zv:Type 1:=(R:Type)->J0b->Int->(J0->Option R)->(Int->Int->Option R)->Option R
def Jym(k:Nat): Cxt:=⟨[J9H k,JA3 k],[],[],[]⟩
def Jo3(k:Nat){R:Type}(x0:J0b)(x1:Int)(K:(J0->Option R))(E:(Int->Int->Option R)): Option R:=J74 k x0 x1 (fun y6 y7 y8=>Qh k y7 y8 (fun y9=>K y6) E)
def UO:=@Jo3
theorem Jh5(k:Nat): DOK Tryz.prog 126 (J9m.run (@UO k)):=dok J9m (Jym k) Tryz.f126 k (ok1 (J2b k) (ok1 (JA2 k) ok0)) (by kernel_rfl) (by kernel_rfl) fun R=>by kernel_rfl
def JcU:Sh:=⟨[.g [.s J4],.a kI],some ([],[.a .flt,.g [.a kI,.a kI]]),none⟩
def Joe(k:Nat)(JP:Ym)(J4r:Jhd)(ZY:J7w)(J7c:Jhv)(JZ:Zd): Cxt:=⟨[J7z.e 71 JP,JcT.e 114 J4r,J9X.e 134 ZY,Jdc.e 171 J7c,J8e.e 172 JZ],[],[],[(3,(.of [(1,1),(0,1),(2,0)] .done))]⟩
def Jhw(k:Nat)(JP:Ym)(J4r:Jhd)(ZY:J7w)(J7c:Jhv)(JZ:Zd){R:Type}(x0:J3)(x1:Int)(K:(Nat->Int->Int->Option R)): Option R:=J7c R x0 x1 15 (fun y5 y6 y7=>cond (y6 != 0) (K 0 y6 y7) (JP R y5 (fun y8 y9=>cond ((!y9) == false) (ZY R y8 (fun y10=>cond (cond (cond y10 true (@Jr @Go.BinOp.lss y8 (0:Nat))) true (@Jr @Go.BinOp.gtr y8 (4607182418800017408:Nat))) (J4r R x0 x1 15 (fun y11 y12=>K 0 y11 y12)) (JZ R y8 (fun y11=>K y11 0 0)))) (J4r R x0 x1 15 (fun y10 y11=>K 0 y10 y11)))))
theorem JzA(k:Nat)(JP:Ym)(J4r:Jhd)(ZY:J7w)(J7c:Jhv)(JZ:Zd)(R:Type): JcU.at (Joe k JP J4r ZY J7c JZ) k Tryz.f124 R=@Jhw k JP J4r ZY J7c JZ R:=by kernel_rfl
def J6O(k:Nat){R:Type}:= @Jhw k (@Ui k) (@Z7 k) (@QO k) (@J21 k) (@Ub k) R
theorem JzB(k:Nat): DOK Tryz.prog 124 (JcU.run (@J6O k)):=dok JcU (Joe k (@Ui k) (@Z7 k) (@QO k) (@J21 k) (@Ub k)) Tryz.f124 k (ok1 (Jj4 k) (ok1 (J31 k) (ok1 (J9Y k) (ok1 (JhU k) (ok1 (JeU k) ok0))))) (by kernel_rfl) (by kernel_rfl) fun R=>JzA k (@Ui k) (@Z7 k) (@QO k) (@J21 k) (@Ub k) R
def JzC(k:Nat): Ent:=JcU.e 124 (@J6O k)
def Jcb:Sh:=⟨[.l J0y,.a kI,.a .str,.a .flt],some ([],[.a .flt]),some ([],[.i 29 (.g [.a kI,.a kI])])⟩
abbrev Zu:Type 1:=(R:Type)->J0b->Int->J0->Nat->(Nat->Option R)->(Int->Int->Option R)->Option R
def JxZ(k:Nat): Cxt:=⟨[J9H k,Jdd k,JzC k],[],[],[]⟩
def JnX(k:Nat){R:Type}(x0:J0b)(x1:Int)(x2:J0)(x3:Nat)(K:(Nat->Option R))(E:(Int->Int->Option R)): Option R:=QZ k x0 x1 x2 (fun y8 y9=>cond (!y9) (K x3) (J6O k x0 y8 (fun y10 y11 y12=>Qh k y11 y12 (fun y13=>K y10) E)))
def Us:=@JnX
theorem JnY(k:Nat): DOK Tryz.prog 72 (Jcb.run (@Us k)):=dok Jcb (JxZ k) Tryz.f72 k (ok1 (J2b k) (ok1 (J73 k) (ok1 (JzB k) ok0))) (by kernel_rfl) (by kernel_rfl) fun R=>by kernel_rfl
def JgE:Sh:=⟨[.s .str,.a .str],some ([],[.a .bool]),none⟩
def JwU(k:Nat): Cxt:=⟨[JgH k],[],[],[]⟩
def JgF(k:Nat){R:Type}(x0:Jt)(x1:J0)(K:(Bool->Option R)): Option R:=J2R k x0 x1 (fun y5=>K (decide (y5≥0)))
def J2Q:=@JgF
theorem Jnz(k:Nat): DOK Tryz.prog 113 (JgE.run (@J2Q k)):=dok JgE (JwU k) Tryz.f113 k (ok1 (JgG k) ok0) (by kernel_rfl) (by kernel_rfl) fun R=>by kernel_rfl
def JnA(k:Nat): Ent:=JgE.e 113 (@J2Q k)
def J1Y:Sh:=⟨[.g [.s J4],.a kI,.s .str],some ([],[.g [.a kI,.a kI]]),none⟩
abbrev UP:Type 1:=(R:Type)->J3->Int->Jt->(Int->Int->Option R)->Option R
def JbV:Cu:=⟨0,[2,3,6,8,25,26,27],[.s .str,.o 13 77 0 [.s J4],.o 16 29 0 [.a kI,.a kI],.o 18 73 0 [.a kI,.a kI,.a .str,.a .bool,.s .str,.s kI],.s .str,.a kI,.a kI]⟩
def Jof(k:Nat): Cxt:=⟨[J9x k,JnA k,J4j k],[],[(1006,JbV.spec)],[(9,(.of [(1,1),(3,1),(0,1),(2,1),(4,1),(5,1),(6,0),(7,0)] .done))]⟩
def JbW(k:Nat){R:Type}(E1006:(Jt->J3->Int->Int->Int->Int->J0->Bool->Jt->J6->Jt->Int->Int->Option R))(s0:Jt)(s1:J3)(s2 s3 s4 s5:Int)(s6:J0)(s7:Bool)(s8:Jt)(s9:J6)(s10:Jt)(s11 s12:Int)(K:(Int->Int->Option R)): Option R:=cond (decide (s12<s11)) (cond (inb s12 (s10.length:Int)) (J2Q k s0 (s10.getD s12.toNat Kd.str.zero) (fun y17=>cond (!y17) (cond (inb s12 (s9.length:Int)) (Z7 k s1 (s9.getD s12.toNat kI.zero) 5 K) none) (E1006 s0 s1 s2 s3 s4 s5 s6 s7 s8 s9 s10 s11 (IntKind.i64.wrap (s12+1))))) none) (K 0 0)
def Jhx(k:Nat){R:Type}(E1006:(Jt->J3->Int->Int->Int->Int->J0->Bool->Jt->J6->Jt->Int->Int->Option R))(x0:J3)(x1:Int)(x2:Jt)(K:(Int->Int->Option R)): Option R:=Uw k x0 x1 3 (fun y7 y8=>cond (y7 != 0) (K y7 y8) (cond (inb x1 (x0.length:Int)) (E1006 x2 x0 0 0 (x0.getD x1.toNat J4.zero).1 (x0.getD x1.toNat J4.zero).2.1 (x0.getD x1.toNat J4.zero).2.2.1 (x0.getD x1.toNat J4.zero).2.2.2.1 (x0.getD x1.toNat J4.zero).2.2.2.2.1 (x0.getD x1.toNat J4.zero).2.2.2.2.2 (x0.getD x1.toNat J4.zero).2.2.2.2.1 (((x0.getD x1.toNat J4.zero).2.2.2.2.1).length:Int) 0) none))
def J42(k:Nat){R:Type}: Nat->Jt->J3->Int->Int->Int->Int->J0->Bool->Jt->J6->Jt->Int->Int->(Int->Int->Option R)->Option R
 |0,_,_,_,_,_,_,_,_,_,_,_,_,_,_=>none
 |n+1,s0,s1,s2,s3,s4,s5,s6,s7,s8,s9,s10,s11,s12,K=>JbW k (fun s0 s1 s2 s3 s4 s5 s6 s7 s8 s9 s10 s11 s12=>J42 k n s0 s1 s2 s3 s4 s5 s6 s7 s8 s9 s10 s11 s12 K) s0 s1 s2 s3 s4 s5 s6 s7 s8 s9 s10 s11 s12 K
theorem Jxc(k:Nat){R:Type}: ∀(I:Nat->St->Option R) (n:Nat),J1Y.lp JbV (Jof k).cx k Tryz.f70 1006 [1,1,1,0,1,0] I n=J42 k n:=J1Y.lok JbV (B:=JbW k) (L:=J42 k) (fun I=>by kernel_rfl) (fun I=>by kernel_rfl) (fun n=>by kernel_rfl) (fun _ _ _ _=>rfl)
def QM(k:Nat){R:Type}(x0:J3)(x1:Int)(x2:Jt)(K:(Int->Int->Option R)): Option R:=Jhx k (fun s0 s1 s2 s3 s4 s5 s6 s7 s8 s9 s10 s11 s12=>J42 k k s0 s1 s2 s3 s4 s5 s6 s7 s8 s9 s10 s11 s12 K) x0 x1 x2 K
theorem JcV(k:Nat): DOK Tryz.prog 70 (J1Y.run (@QM k)):=dok J1Y (Jof k) Tryz.f70 k (ok1 (J71 k) (ok1 (Jnz k) (ok1 (J31 k) ok0))) (by kernel_rfl) (by kernel_rfl) fun R=>J1Y.f1 JbV (Jhx k) (by kernel_rfl) (Jxc k (fun _ _=>none) k) (by kernel_rfl)
def Jlb:Sh:=⟨[.a kI,.a kI],some ([],[.a kI]),none⟩
def JGI(k:Nat): Cxt:=⟨[JkG k],[],[],[]⟩
def Jte(k:Nat){R:Type}(x0 x1:Int)(K:(Int->Option R)): Option R:=J1x k x0 (fun y5=>J1x k x1 (fun y6=>cond (decide (y5>(IntKind.i64.wrap ((4611686018427387904:Int)-y6)))) (K 4611686018427387904) (K (IntKind.i64.wrap (y5+y6)))))
def Jas:=@Jte
theorem JGJ(k:Nat): DOK Tryz.prog 264 (Jlb.run (@Jas k)):=dok Jlb (JGI k) Tryz.f264 k (ok1 (JkF k) ok0) (by kernel_rfl) (by kernel_rfl) fun R=>by kernel_rfl
def JGK(k:Nat): Ent:=Jlb.e 264 (@Jas k)
def Jlc:Sh:=⟨[.a kI,.a kI],some ([],[.a kI]),none⟩
def JGL(k:Nat): Cxt:=⟨[JkG k],[],[],[]⟩
def Jtf(k:Nat){R:Type}(x0 x1:Int)(K:(Int->Option R)): Option R:=J1x k x0 (fun y5=>J1x k x1 (fun y6=>cond ((!((decide (y6>0)) == true)) || (y6 != 0)) (cond (cond (decide (y6>0)) (decide (y5>(IntKind.i64.wrap (Int.tdiv 4611686018427387904 y6)))) false) (K 4611686018427387904) (K (IntKind.i64.wrap (y5*y6)))) none))
def Jat:=@Jtf
theorem JGM(k:Nat): DOK Tryz.prog 265 (Jlc.run (@Jat k)):=dok Jlc (JGL k) Tryz.f265 k (ok1 (JkF k) ok0) (by kernel_rfl) (by kernel_rfl) fun R=>by kernel_rfl
def JGN(k:Nat): Ent:=Jlc.e 265 (@Jat k)
def J83:Sh:=⟨[.a .str],some ([],[.a kI,.a .bool]),none⟩
def JdA:Cu:=⟨0,[0,4,8],[.a .str,.a kI,.t 78]⟩
def JrG(k:Nat): Cxt:=⟨[JqI k,JGK k,JGN k],[],[(1003,JdA.spec)],[]⟩
def JdB(k:Nat){R:Type}(E1003:(J0->Int->J0->Int->Option R))(s0:J0)(s1:Int)(s2:J0)(s3:Int)(K:(Int->Bool->Option R)): Option R:=cond (decide (s3<(s2.length:Int))) (cond (decide (s3<(s2.length:Int))) (cond (cond (decide ((YE s2 s3)<48)) true (decide ((YE s2 s3)>57))) (K 0 false) (Jat k s1 10 (fun y8=>Jas k y8 (IntKind.i64.wrap (IntKind.i32.wrap ((YE s2 s3)-48))) (fun y9=>E1003 s0 y9 s2 (Z3 s2 s3))))) none) (Yz k s1 (fun y8=>cond (!(y8 == s0)) (K 0 false) (K s1 true)))
def Jkc(k:Nat){R:Type}(E1003:(J0->Int->J0->Int->Option R))(x0:J0)(K:(Int->Bool->Option R)): Option R:=E1003 x0 0 x0 0
def J4E(k:Nat){R:Type}: Nat->J0->Int->J0->Int->(Int->Bool->Option R)->Option R
 |0,_,_,_,_,_=>none
 |n+1,s0,s1,s2,s3,K=>JdB k (fun s0 s1 s2 s3=>J4E k n s0 s1 s2 s3 K) s0 s1 s2 s3 K
theorem JyS(k:Nat){R:Type}: ∀(I:Nat->St->Option R) (n:Nat),J83.lp JdA (JrG k).cx k Tryz.f260 1003 [1,1,0,1,0] I n=J4E k n:=J83.lok JdA (B:=JdB k) (L:=J4E k) (fun I=>by kernel_rfl) (fun I=>by kernel_rfl) (fun n=>by kernel_rfl) (fun _ _ _ _=>rfl)
def Jad(k:Nat){R:Type}(x0:J0)(K:(Int->Bool->Option R)): Option R:=Jkc k (fun s0 s1 s2 s3=>J4E k k s0 s1 s2 s3 K) x0 K
theorem JEP(k:Nat): DOK Tryz.prog 260 (J83.run (@Jad k)):=dok J83 (JrG k) Tryz.f260 k (ok1 (Jer k) (ok1 (JGJ k) (ok1 (JGM k) ok0))) (by kernel_rfl) (by kernel_rfl) fun R=>J83.f1 JdA (Jkc k) (by kernel_rfl) (JyS k (fun _ _=>none) k) (by kernel_rfl)
def JEQ(k:Nat): Ent:=J83.e 260 (@Jad k)
def Jhe:Sh:=⟨[.g [.s J4],.a kI,.a kI,.a kI],some ([],[.a kI,.g [.a kI,.a kI]]),none⟩
abbrev J2X:Type 1:=(R:Type)->J3->Int->Int->Int->(Int->Int->Int->Option R)->Option R
def JyT(k:Nat): Cxt:=⟨[J4j k,Jov k,JEQ k],[],[],[(3,(.of [(1,1),(0,1),(2,0)] .done))]⟩
def Jo7(k:Nat){R:Type}(x0:J3)(x1 x2 x3:Int)(K:(Int->Int->Int->Option R)): Option R:=J21 k x0 x1 13 (fun y7 y8 y9=>cond (y8 != 0) (K 0 y8 y9) (Jad k y7 (fun y10 y11=>cond (cond (cond (!y11) true (decide (y10<x2))) true (decide (y10>x3))) (Z7 k x0 x1 13 (fun y12 y13=>K 0 y12 y13)) (K y10 0 0))))
def Z6:=@Jo7
theorem JyU(k:Nat): DOK Tryz.prog 240 (Jhe.run (@Z6 k)):=dok Jhe (JyT k) Tryz.f240 k (ok1 (J31 k) (ok1 (JhU k) (ok1 (JEP k) ok0))) (by kernel_rfl) (by kernel_rfl) fun R=>by kernel_rfl
def JjE:Sh:=⟨[],some ([],[.s .str]),none⟩
def JDz(k:Nat): Cxt:=⟨[],[],[],[]⟩
def JqO(k:Nat){R:Type}(K:(Jt->Option R)): Option R:=K [[],[115,101,99,111,110,100],[109,105,110,117,116,101],[104,111,117,114],[100,97,121]]
def Jev:=@JqO
theorem JDA(k:Nat): DOK Tryz.prog 259 (JjE.run (@Jev k)):=dok JjE (JDz k) Tryz.f259 k ok0 (by kernel_rfl) (by kernel_rfl) fun R=>by kernel_rfl
def JDB(k:Nat): Ent:=JjE.e 259 (@Jev k)
def Jld:Sh:=⟨[.a .str],some ([],[.a kI]),none⟩
abbrev J3n:Type 1:=(R:Type)->J0->(Int->Option R)->Option R
def JGO(k:Nat): Cxt:=⟨[JgH k,JDB k],[],[],[]⟩
def Jtg(k:Nat){R:Type}(x0:J0)(K:(Int->Option R)): Option R:=Jev k (fun y4=>J2R k y4 x0 (fun y5=>K (cond true (@ite (@Kd.T kI) ((0:Int)>y5) (@Int.decLt y5 (0:Int)) (0:Int) y5) (@ite (@Kd.T kI) ((0:Int)<y5) (@Int.decLt (0:Int) y5) (0:Int) y5))))
def J03:=@Jtg
theorem JGP(k:Nat): DOK Tryz.prog 239 (Jld.run (@J03 k)):=dok Jld (JGO k) Tryz.f239 k (ok1 (JgG k) (ok1 (JDA k) ok0)) (by kernel_rfl) (by kernel_rfl) fun R=>by kernel_rfl
end Go.Proofs.YtabkhphoacmcdaaGreatDoor.Pvm
end
