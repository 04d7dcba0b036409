/- For every number n and both values of domains the Go function ConfigMany returns true. -/
import Derived.LoopN
import Derived.Scope
import Derived.Recover
import Derived.WalkKit
import Derived.ProofKit
import Derived.OpenShut
import Derived.ShutString
import Derived.ChangeOld
import Derived.Below
import Derived.SizedLaws
import Derived.ChangeArms
import Derived.Test.YtabkhphoacmcdaaGreatDoorProg
import Derived.KernelRfl
import Derived.Lib.BytesEntry
import Derived.Test.YtabkhphoacmcdaaGreatDoorChecked
import Derived.WalkSpells
import Derived.WalkLawsBesides
import Derived.Lib.Builder
import Derived.Lib.AppendStr
import Derived.Lib.UnsafeStr
import Derived.Laws.Externs
import Derived.Shelf.RegionOpenPlain
import Derived.Deep.Heap
import Derived.Lib.Bytealg
import Derived.Shelf.GgClosure.StringsIndexFuncTop
import Derived.Shelf.Strings.FuncGrows
import Derived.Shelf.Strings.Repeat
import Derived.Test.YtabkhphoacmcdaaGreatDoorConfigManyM0
import Derived.Test.YtabkhphoacmcdaaGreatDoorConfigManyM1
set_option linter.unusedVariables false
set_option linter.unusedSimpArgs false
set_option linter.unusedSectionVars false
noncomputable section
namespace Go.Proofs.YtabkhphoacmcdaaGreatDoor.Pvm
open Go
variable {P:Program}
section
variable {h:Heap} {G:Gh} {w:World}
theorem wqek:∀(l:List (Nm×LS)) (na:NA) {na':NA},normObjs h na l=some na'→Found h na→Found h na'∧na.le na'
 |[],na,na',he,F=>by cases he;exact⟨F,.refl na⟩
 |(n,s)::r,na,na',he,F=>by
  rw[normObjs]at he
  split at he
  ·next q na1 h1 =>
   obtain⟨F1,L1⟩:=wqeu s _ na h1 F
   obtain⟨F2,L2⟩:=wqek r na1 he F1
   exact⟨F2,L1.trans L2⟩
  ·cases he
theorem wqgh{t:Nat→PV}: ∀(l:List (Nat×LS)) (na:NA) {ps:List (Nat×PV)} {na':NA},normSlots h t na l=some (ps,na')→Found h na→Found h na'∧na.le na'
 |[],na,ps,na',he,F=>by cases he;exact⟨F,.refl na⟩
 |(i,s)::r,na,ps,na',he,F=>by
  rw[normSlots]at he
  split at he
  ·next q na1 h1 =>
   split at he
   ·next qs na2 h2 =>
    cases he
    obtain⟨F1,L1⟩:=wqeu s _ na h1 F
    obtain⟨F2,L2⟩:=wqgh r na1 h2 F1
    exact⟨F2,L1.trans L2⟩
   ·cases he
  ·cases he
section
variable {nf:NA} (S:Sub h G w nf)
include S
theorem Sub.normObjs:∀(l:List (Nm×LS)) (na:NA) {na':NA},normObjs h na l=some na'→na'.le nf→Found h na →
 ∀ x∈na'.hp,x∈na.hp∨RO (mkH nf.hp) (subG G nf (subX h G nf)) w x.1 x.2
 |[],na,na',he,L,F=>by cases he;exact fun x hx => .inl hx
 |(n,s)::r,na,na',he,L,F=>by
  rw[Pvm.normObjs]at he
  split at he
  ·next q na1 h1 =>
   obtain⟨F1,L1⟩:=wqeu s _ na h1 F
   obtain⟨F2,L2⟩:=wqek r na1 he F1
   have hr:=Sub.normObjs r na1 he L F1
   have hs:∀ x∈na1.hp,x∈na.hp∨RO (mkH nf.hp) (subG G nf (subX h G nf)) w x.1 x.2:=by
    by_cases hv:∃ t cs,h n=some (.var t cs)
    ·have hp:RV h G w (.ptr n 0) (.pointer (some ⟨G.bk n,0,none⟩)):=⟨rfl,hv⟩
     exact(Sub.norm S s _ na h1 (L2.trans L) F hp).2
    ·have:na1=na:=by
      cases s with
      |obj nm cs =>
       simp only[normP]at h1
       split at h1
       ·cases h1;rfl
       ·split at h1
        ·next t ps hn=>exact absurd ⟨t,ps,hn⟩ hv
        ·cases h1
      |any=>simp[normP,pureP]at h1
      |sl K =>
       have e0:Pvm.leaf h (.sl K) (.ptr n 0)=none:=rfl
       simp[normP,e0]at h1
      |own nm e K=>simp[normP]at h1
      |nps nm o0 =>
       simp only[normP]at h1
       split at h1
       ·cases hb:Nat.beq 0 o0 with
        |false=>rw[hb]at h1;cases h1
        |true=>rw[hb,cond_true]at h1;simp at h1;exact h1.2.symm
       ·cases h1
      |mpo nm ag V=>simp[normP]at h1
      |ag cs=>simp[normP]at h1
      |clo cs=>simp[normP]at h1
      |bor K=>simp[normP]at h1
      |lend K =>
       simp only[normP]at h1
       split at h1
       ·next t cs hn=>exact absurd ⟨t,cs,hn⟩ hv
       ·cases h1
     rw[this];exact fun x hx => .inl hx
   intro x hx
   rcases hr x hx with hx|hx
   ·exact hs x hx
   ·exact .inr hx
  ·cases he
theorem Sub.normSlots{t:Nat→PV}{tm:Nat→Value}(ht:∀ i,RT h G w tm (t i) (tm i)): ∀(l:List (Nat×LS)) (na:NA) {ps:List (Nat×PV)} {na':NA},normSlots h t na l=some (ps,na')→na'.le nf→Found h na →
 (∀ i p,(i,p)∈ps→RV (mkH nf.hp) (subG G nf (subX h G nf)) w p (tm i))∧∀ x∈na'.hp,x∈na.hp∨RO (mkH nf.hp) (subG G nf (subX h G nf)) w x.1 x.2
 |[],na,ps,na',he,L,F=>by cases he;exact⟨fun i p hp=>(by cases hp),fun x hx => .inl hx⟩
 |(i,s)::r,na,ps,na',he,L,F=>by
  rw[Pvm.normSlots]at he
  split at he
  ·next q na1 h1 =>
   split at he
   ·next qs na2 h2 =>
    cases he
    obtain⟨F1,L1⟩:=wqeu s _ na h1 F
    obtain⟨F2,L2⟩:=wqgh r na1 h2 F1
    have hv:RV h G w (t i) (tm i):=by
     have:=ht i
     cases hti:t i with
     |opt g c p =>
      exfalso
      rw[hti]at h1
      have e0:∀ K,Pvm.leaf h (.sl K) (.opt g c p)=none:=fun K=>rfl
      cases s<;>simp[normP,pureP,e0]at h1
     |_=>rw[hti]at this;exact this
    obtain⟨a1,a2⟩:=Sub.norm S s (t i) na h1 (L2.trans L) F hv
    obtain⟨b1,b2⟩:=Sub.normSlots ht r na1 h2 L F1
    refine⟨fun j p hp => ?_,fun x hx => ?_⟩
    ·rcases List.mem_cons.1 hp with e|hp
     ·cases e;exact a1
     ·exact b1 j p hp
    ·rcases b2 x hx with hx|hx
     ·exact a2 x hx
     ·exact .inr hx
   ·cases he
  ·cases he
end
end
section
variable {w0:World} {fr:Nat→Prop} {X0:Org} {n:Nat} {ds:List Deferred} {st:St} {G:Gh} {a:Act} {w:World}
theorem wq165{nm:List (Nm×Option Nm)}: ∀ {l:List Nm},stay nm l=true→∀ n∈l,look nm n=some (some n)
 |[],_,n,hn=>by cases hn
 |m::r,h,n,hn=>by
  simp only[stay,Bool.and_eq_true]at h
  rcases List.mem_cons.1 hn with rfl|hn
  ·have h1:=h.1
   rw[wqjn]at h1
   split at h1
   ·next m hm=>rw[beqN.1 h1]at hm;exact hm
   ·cases h1
  ·exact wq165 h.2 n hn
theorem wq19r(R:Rel w0 fr X0 n ds st G a w){na:NA}(S:Sub st.h G w na){X:Nat→Prop}{pv:List Nm}(hst:stay na.nm pv=true)(hpv:∀ x∈X0.vs,x.1∈pv):
 ∀ x∈X0.vs,(∃ cs,mkH na.hp x.1=some (.var x.2.1 cs))∧(subG G na X).bk x.1=x.2.2:=by
 intro x hx
 obtain⟨⟨cs,h1⟩,h2⟩:=R.org x hx
 have h3:=wq165 hst _ (hpv x hx)
 obtain⟨o,ho⟩:=wqe0 (S.fi.k4 _ (wq7p (wq37 h3)))
 have ho:=wq4k S.fi.k3 ho
 refine⟨?_,by simp only[subG,h3];exact h2⟩
 rcases S.hhp _ _ ho _ h3 with⟨t',cs1,cs2,rfl,hv⟩|⟨e,K,xs,rfl,hv⟩|⟨ag,V,es,rfl,hv⟩
 ·rw[h1]at hv;cases hv;exact⟨cs2,ho⟩
 ·rw[h1]at hv;cases hv
 ·rw[h1]at hv;cases hv
theorem wq19s(R:Rel w0 fr X0 n ds st G a w)(hf:∀ b,fr b→b<w0.heap.size){pv:List Nm}(hpv:∀ x∈X0.vs,x.1∈pv){c:CutSpec}{s:St}(he:norm pv c st=some s): ∃ G',Rel w0 fr X0 n ds s G' a w:=by
 unfold norm at he
 split at he
 ·next na1 h1 =>
  split at he
  ·next l na h2 =>
   cases hfi:(fine na&&stay na.nm pv)with
   |false=>rw[hfi]at he;cases he
   |true =>
    rw[hfi]at he
    cases he
    simp only[Bool.and_eq_true]at hfi
    obtain⟨hfi,hst⟩:=hfi
    have F0:Found st.h ⟨[],[],[],[]⟩:=⟨fun k o hk=>(by cases hk),fun m hm=>(by cases hm)⟩
    obtain⟨F1,L1⟩:=wqek _ _ h1 F0
    obtain⟨F2,L2⟩:=wqgh _ _ h2 F1
    have S:Sub st.h G w na:=⟨wqt9 hfi,F2,R.obj,R.toDis hf⟩
    have hO:=Sub.normObjs S _ _ h1 L2 F0
    obtain⟨hS,hO2⟩:=Sub.normSlots S R.tm _ _ h2 (.refl na) F1
    have hobj:∀ k o,mkH na.hp k=some o→RO (mkH na.hp) (subG G na (subX st.h G na)) w k o:=fun k o hk=>by
     rcases hO2 (k,o) (wq37 hk)with h|h
     ·rcases hO _ h with h|h
      ·cases h
      ·exact h
     ·exact h
    let G1:=subG G na (subX st.h G na)
    let G2:Gh:={ G1 with X:=G.X }
    have bk:∀ k,blkOf (mkH na.hp) G2 k=blkOf (mkH na.hp) G1 k:=fun k=>rfl
    have ok:∀ b,okB (mkH na.hp) G1 b→okB (mkH na.hp) G2 b:=fun b hb=>⟨hb.1,fun hx=>hb.2 (.inl hx)⟩
    have C:Carry (mkH na.hp) G1 w (mkH na.hp) G2 w .row :=
     ⟨fun b ho _=>⟨ok b ho,rfl⟩,fun n t cs hn=>⟨⟨cs,hn⟩,rfl⟩,fun n ag V es hn=>⟨⟨es,hn⟩,rfl⟩,S.okX,fun n e K xs hn=>⟨⟨rfl,e,K,xs,hn⟩,fun m hm=>by cases hm;exact⟨e,xs,hn,Nat.le_refl _⟩⟩⟩
    have rv:∀ p v,RV (mkH na.hp) G1 w p v→RV (mkH na.hp) G2 w p v:=fun p v hp=>by
     have:=RV.carry C p v hp
     rwa [PV.mapR_row]at this
    refine⟨G2,fun i => ?_,R.size,fun k o hk => ?_,fun k m b h1 h2=>S.toDis.inj k m b h1 h2,fun k b hb => ?_,R.xfr,R.xeq,fun x hx => ?_,R.ext,R.grow,R.os,R.tape,R.out,R.defers⟩
    ·show RT (mkH na.hp) G2 w _ (mkT l i) _
     unfold mkT
     cases hl:look l i with
     |none=>exact wqge (show RV _ _ _ .un _ from trivial)
     |some p=>exact wqge (rv _ _ (hS i p (wq37 hl)))
    ·have:=RO.carry C hk (hobj k o hk) (fun b _=>rfl) rfl rfl
     rwa [wqgf]at this
    ·obtain⟨m,_,hm⟩:=S.blk k b hb
     exact R.apart m b hm
    ·exact wq19r R S hst hpv x hx
  ·cases he
 ·cases he
def Post{R0:Type}(w0:World)(fr:Nat→Prop)(X0:Org)(n:Nat)(ds:List Deferred)(ks:List Nat)(K:Ex→St→Option R0)(r:R0): Exit→Act→World→Prop
 |.normal,a,w=>∃ st G,K .normal st=some r∧Rel w0 fr X0 n ds st G a w
 |.exit i,a,w=>∃ st G,K (.exit i) st=some r∧Rel w0 fr X0 n ds st G a w
 |.ret,a,w=>∃ st G,K .ret st=some r∧Rel w0 fr X0 n ds st G a w
 |.panic ch,a,w=>∃ st G a0 p v,ch=[{ v,recovered:=false }]∧K (.panic p) st=some r∧Rel w0 fr X0 n ds st G a0 w∧RV st.h G w p v∧a.defers=a0.defers∧a.tmps.size=n∧∀ i∈ks,tmOf a i=tmOf a0 i
 |_,_,_=>False
theorem Post.mono{R1 R2:Type}{ks:List Nat}{K:Ex→St→Option R1}{r:R1}{K':Ex→St→Option R2}{r':R2}(h:∀ e st,K e st=some r→K' e st=some r'): ∀ e a w,Post w0 fr X0 n ds ks K r e a w→Post w0 fr X0 n ds ks K' r' e a w
 |.normal,a,w,⟨st,G,h1,h2⟩=>⟨st,G,h _ _ h1,h2⟩
 |.exit i,a,w,⟨st,G,h1,h2⟩=>⟨st,G,h _ _ h1,h2⟩
 |.ret,a,w,⟨st,G,h1,h2⟩=>⟨st,G,h _ _ h1,h2⟩
 |.panic ch,a,w,⟨st,G,a0,p,v,h1,h2,h3⟩=>⟨st,G,a0,p,v,h1,h _ _ h2,h3⟩
theorem Post.put{R0:Type}{ks:List Nat}{K:Ex→St→Option R0}{r:R0}{d:Option Nat}{v:Value}{c:List PanicEntry}{a:Act}{w:World}(hd:∀ i,d=some i→i ∉ ks)(h:Post w0 fr X0 n ds ks K r (.panic c) (a.put d v) w): Post w0 fr X0 n ds ks K r (.panic c) a w:=by
 obtain⟨st,G,a0,p,u,h1,h2,h3,h4,h5,h6,h7⟩:=h
 cases d with
 |none=>exact⟨st,G,a0,p,u,h1,h2,h3,h4,h5,h6,h7⟩
 |some d =>
  refine⟨st,G,a0,p,u,h1,h2,h3,h4,h5,by simpa [Act.put]using h6,fun i hi => ?_⟩
  rw[←h7 i hi]
  have hne:i≠d:=fun e=>hd d rfl (e ▸ hi)
  unfold tmOf Act.put
  simp[Array.getElem?_setIfInBounds_ne (Ne.symm hne)]
def opsOk(n:Nat): List Oper→Bool
 |[]=>true
 |o::r=>(match o.dst with|some d=>Nat.blt d n|none=>true)&&opsOk n r
def codeOk(n:Nat): Code→Bool
 |.region _ ops _=>opsOk n ops.toList
 |.seq a b=>codeOk n a&&codeOk n b
 |.cond _ a b=>codeOk n a&&codeOk n b
 |.block _ a=>codeOk n a
 |.loop a=>codeOk n a
 |.scope a=>codeOk n a
 |_=>true
theorem wqu5:∀ {l:List Oper},opsOk n l=true→∀ o∈l,∀ i,o.dst=some i→i<n
 |[],_,o,ho=>by cases ho
 |o'::r,h,o,ho=>by
  simp only[opsOk,Bool.and_eq_true]at h
  rcases List.mem_cons.1 ho with rfl|ho
  ·intro i hi
   rw[hi]at h
   exact Nat.le_of_ble_eq_true h.1
  ·exact wqu5 h.2 o ho
theorem wq1df {cx:Ctx} (X:cx.Ok P) (hm:P.follows .mixedOrders=true) {R0:Type} {K:Ex→St→Option R0} {r:R0} {id:Nat} {ops:Array Oper} {draw:Bool} (hf:∀ b,fr b→b<w0.heap.size) (hd:opsOk n ops.toList=true)
 (R:Rel w0 fr X0 n ds st G a w) (he:regK cx id ops draw st K=some r):(Code.region id ops draw).wp P (Post w0 fr X0 n ds cx.keep K r) a w:=by
 have hp:∀ p v st' G' a' w',K (exOf (some p)) st'=some r→Rel w0 fr X0 n ds st' G' a' w'→RV st'.h G' w' p v→Post w0 fr X0 n ds cx.keep K r (.panic [{ v,recovered:=false }]) a' w' :=
  fun p v st' G' a' w' h1 h2 h3=>⟨st',G',a',p,v,rfl,h1,h2,h3,rfl,h2.size,fun _ _=>rfl⟩
 have hQ:∀ st' G' a' w',K (exOf none) st'=some r→Rel w0 fr X0 n ds st' G' a' w'→Post w0 fr X0 n ds cx.keep K r .normal a' w':=fun st' G' a' w' h1 h2=>⟨st',G',h1,h2⟩
 unfold regK at he
 cases draw with
 |false =>
  exact wp_region_list (wq1de X hf hQ hp _ R (wqu5 hd) he)
 |true =>
  rw[cond_true]at he
  split at he
  ·next l hl =>
   cases hs:(noSel ops&&planOk cx.keep ops l ops.size 0 0)with
   |false=>rw[hs]at he;cases he
   |true =>
    rw[hs,cond_true]at he
    simp only[Bool.and_eq_true]at hs
    have S:Still w { w with drawn:=w.drawn+1 }:=⟨fun _ _=>rfl,Nat.le_refl _,rfl,rfl,rfl⟩
    have R':=R.loud0 hf (Loud.still R.obj (R.toDis hf) S)
    have hcl:ListedClosed .any ops (Array.replicate ops.size false):=by
     intro j oj hj hl
     have hjl:=(Array.getElem?_eq_some_iff.1 hj).1
     simp[Array.getD_eq_getD_getElem?,hjl]at hl
    have:=(wqpv X hf hs.1 (fun o ho=>wqu5 hd o (by simpa using ho)) hQ hp (fun d v c a w h1 h2=>Post.put h1 h2) l ops.size 0 [] (fun _=>False) 0 _ hs.2 (Tells.start _) hcl he R' (fun b hb=>hb.elim)).1 rfl
    exact wq17d hm this
  ·cases he
theorem wqay{cx:Ctx}(X:cx.Ok P)(hpv:∀ x∈X0.vs,x.1∈cx.pv)(hm:P.follows .mixedOrders=true)(k:Nat)(hf:∀ b,fr b→b<w0.heap.size){R0:Type}{r:R0}:
 ∀(c:Code) {K:Ex→St→Option R0} {st:St} {G:Gh} {a:Act} {w:World},codeOk n c=true→execK cx k c st K=some r→Rel w0 fr X0 n ds st G a w→c.wp P (Post w0 fr X0 n ds cx.keep K r) a w
 |.skip,K,st,G,a,w,_,he,R=>wp_skip ⟨st,G,he,R⟩
 |.region id ops draw,K,st,G,a,w,hd,he,R=>by
  rw[execK]at he
  unfold normK at he
  split at he
  ·exact wq1df X hm hf hd R he
  ·split at he
   ·next s hs =>
    obtain⟨G',R'⟩:=wq19s R hf hpv hs
    exact wq1df X hm hf hd R' he
   ·cases he
 |.seq x y,K,st,G,a,w,hd,he,R=>by
  rw[execK]at he
  simp only[codeOk,Bool.and_eq_true]at hd
  refine wp_seq (wp_mono (wqay X hpv hm k hf x hd.1 he R) fun e a w h => ?_)
  cases e with
  |normal=>obtain⟨st,G,h1,h2⟩:=h;exact wqay X hpv hm k hf y hd.2 h1 h2
  |exit i=>exact h
  |ret=>exact h
  |panic c=>exact h
  |goto l=>exact h
  |outgrown=>exact h
 |.cond c x y,K,st,G,a,w,hd,he,R=>by
  unfold execK at he
  simp only[codeOk,Bool.and_eq_true]at hd
  split at he
  ·next s =>
   have ht:=R.tm s
   split at he
   ·next b hb =>
    rw[hb]at ht
    have ht:tmOf a s = .bool b:=by simpa [RT,RV,RD]using ht
    refine wp_cond (t:=b) ht ?_
    cases b with
    |true=>exact wqay X hpv hm k hf x hd.1 he (R.know hf ht)
    |false=>exact wqay X hpv hm k hf y hd.2 he (R.know hf ht)
   ·next b hb =>
    rw[hb]at ht
    have ht:tmOf a s = .bool b:=ht
    refine wp_cond (t:=b) ht ?_
    cases b with
    |true=>exact wqay X hpv hm k hf x hd.1 he R
    |false=>exact wqay X hpv hm k hf y hd.2 he R
   ·cases he
  ·next v =>
   split at he
   ·next b =>
    refine wp_cond (t:=b) rfl ?_
    cases b with
    |true=>exact wqay X hpv hm k hf x hd.1 he R
    |false=>exact wqay X hpv hm k hf y hd.2 he R
   ·cases he
  ·cases he
 |.block id b,K,st,G,a,w,hd,he,R=>by
  rw[execK]at he
  refine wp_block (wp_mono (wqay X hpv hm k hf b hd he R) fun e a w h => ?_)
  cases e with
  |exit i =>
   obtain⟨st,G,h1,h2⟩:=h
   unfold blockK at h1
   simp only at h1
   show if i=id then _ else _
   cases hb:Nat.beq i id with
   |true =>
    rw[if_pos (beqN.1 hb)]
    rw[hb]at h1
    exact⟨st,G,h1,h2⟩
   |false =>
    rw[if_neg (fun e=>by rw[beqN.2 e]at hb;cases hb)]
    rw[hb]at h1
    exact⟨st,G,h1,h2⟩
  |normal=>exact h
  |ret=>exact h
  |panic c=>exact h
  |goto l=>exact h
  |outgrown=>exact h
 |.loop b,K,st,G,a,w,hd,he,R=>by
  rw[execK]at he
  have key:∀(m:Nat) {st:St} {G:Gh} {a:Act} {w:World},iter cx.pv (look cx.cuts (1000+wqhp b)) (execK cx k b) m st K=some r→Rel w0 fr X0 n ds st G a w→Code.rounds P b (Post w0 fr X0 n ds cx.keep K r) m a w:=by
   intro m
   induction m with
   |zero=>intro st G a w he _;cases he
   |succ m ih =>
    intro st G a w he R
    rw[iter]at he
    rw[rounds_succ]
    refine wp_mono (wqay X hpv hm k hf b hd he R) fun e a w h => ?_
    cases e with
    |normal =>
     obtain⟨st,G,h1,h2⟩:=h
     unfold stepK at h1
     simp only at h1
     unfold normK at h1
     split at h1
     ·exact ih h1 h2
     ·split at h1
      ·next s hs =>
       obtain⟨G',R'⟩:=wq19s h2 hf hpv hs
       exact ih h1 R'
      ·cases h1
    |exit i=>exact h
    |ret=>exact h
    |panic c=>exact h
    |goto l=>exact h
    |outgrown=>exact h
  unfold normK at he
  split at he
  ·exact wp_loop_rounds k (key k he R)
  ·split at he
   ·next s hs =>
    obtain⟨G',R'⟩:=wq19s R hf hpv hs
    exact wp_loop_rounds k (key k he R')
   ·cases he
 |.exit id,K,st,G,a,w,_,he,R=>wp_exit ⟨st,G,he,R⟩
 |.scope b,K,st,G,a,w,hd,he,R=>by
  rw[execK]at he
  refine wp_scope_straight (wp_mono (wqay X hpv hm k hf b hd he R) fun e a w h => ?_)
  cases e<;>exact h
 |.label l,K,st,G,a,w,_,he,R=>wp_label ⟨st,G,he,R⟩
 |.ret,K,st,G,a,w,_,he,R=>wp_ret ⟨st,G,he,R⟩
 |.rangeFunc ..,K,st,G,a,w,_,he,R=>by simp[execK]at he
 |.goto l,K,st,G,a,w,_,he,R=>by simp[execK]at he
 |.refuse s,K,st,G,a,w,_,he,R=>by simp[execK]at he
end
end Go.Proofs.YtabkhphoacmcdaaGreatDoor.Pvm
namespace Go.Proofs.YtabkhphoacmcdaaGreatDoor.Pvm
open Go
structure RetSpec where
 res:List LS
 objs:List (Nm×LS)
 pan:List (Nm×LS)
def resP(ty:TypeId→Option TI)(st:St): List ResultVar→Option (List PV)
 |[]=>some []
 |.tmp t::r=>match resP ty st r with
  |some l=>some (useO [] (st.t t)::l)
  |none=>none
 |.cell a t::r=>match ty t with
  |some ti=>match evLoad ti st.h (useO [] (st.t a))with
   |some ev=>match resP ty st r with
    |some l=>some (ev.val::l)
    |none=>none
   |none=>none
  |none=>none
def endK(cx:Ctx){R:Type}(objs:List (Nm×LS))(res:List LS)(ps:List PV)(st:St)(K:List PV→List (Nm×HObj)→Option R): Option R :=
 match normObjs st.h ⟨[],[],[],[]⟩ objs with
 |none=>none
 |some na1=>match normPs st.h na1 res ps with
  |none=>none
  |some (qs,na)=>bif fine na&&stay na.nm cx.pv then K qs na.hp else none
def retK(cx:Ctx){R:Type}(sp:RetSpec)(rs:List ResultVar)(st:St)(K:Out→Option R): Option R :=
 match resP cx.ty st rs with
 |none=>none
 |some ps=>endK cx sp.objs sp.res ps st fun qs hs=>K (.ret qs hs)
def panK(cx:Ctx){R:Type}(sp:RetSpec)(p:PV)(st:St)(K:Out→Option R): Option R :=
 endK cx sp.pan [.any] [p] st fun qs hs=>match qs with
  |[q]=>K (.pan q hs)
  |_=>none
def varsIn(pv:List Nm): List (Nm×HObj)→Bool
 |[]=>true
 |(n,.var _ _)::r=>isIn n pv&&varsIn pv r
 |(_,.mp _ _ _)::_=>false
 |_::r=>varsIn pv r
def argsT(args:List PV): Nat→PV:=fun i=>args.getD i .un
def outK(cx:Ctx){R:Type}(sp:RetSpec)(rs:List ResultVar)(K:Out→Option R): Ex→St→Option R:=fun e st=>match e with
 |.normal=>retK cx sp rs st K
 |.ret=>retK cx sp rs st K
 |.panic p=>panK cx sp p st K
 |.exit _=>none
def fnK(cx:Ctx)(k:Nat){R:Type}(c:Code)(n:Nat)(rs:List ResultVar)(sp:RetSpec)(args:List PV)(hp:List (Nm×HObj))(K:Out→Option R): Option R :=
 bif varsIn cx.pv hp&&Nat.ble args.length n then execK cx k c ⟨argsT args,mkH hp⟩ (outK cx sp rs K)else none
section
variable {P:Program} {w0:World} {fr:Nat→Prop} {X0:Org} {n:Nat} {ds:List Deferred} {st:St} {G:Gh} {a:Act} {w:World}
def resF(tmps:Array Value): ResultVar→Sem Value
 |.tmp t=>pure (tmps.getD t undef)
 |.cell x t=>do loadVar t (←asAddr (tmps.getD x undef))
theorem wq19t(fn:Func)(tmps:Array Value): results fn tmps=(fn.results.mapM (resF tmps) >>= fun vs=>pure (if h:vs.size=1 then vs[0]else .tuple vs)):=by
 unfold results
 have:(fun r:ResultVar=>match r with
  |.tmp t=>(pure (tmps.getD t undef):Sem Value)
  |.cell a t=>do loadVar t (←asAddr (tmps.getD a undef)))=resF tmps:=by
  funext r;cases r<;>rfl
 rw[←this]
 rfl
theorem wqxq{cx:Ctx}(X:cx.Ok P)(R:Rel w0 fr X0 n ds st G a w): ∀(rs:List ResultVar) {ps:List PV},resP cx.ty st rs=some ps →
 ∃ vs:List Value,RVs st.h G w ps vs∧(rs.mapM (resF a.tmps)).run P w = .ok vs w
 |[],ps,he=>by cases he;exact⟨[],rfl,rfl⟩
 |.tmp t::r,ps,he=>by
  rw[resP]at he
  split at he
  ·next l hl =>
   cases he
   obtain⟨vs,h1,h2⟩:=wqxq X R r hl
   refine⟨tmOf a t::vs,⟨_,_,rfl,R.use noTags (.tmp t),h1⟩,?_⟩
   rw[List.mapM_cons]
   simp only[Sem.run_bind,resF,Sem.run_pure,Result.andThen_ok]
   rw[h2]
   rfl
  ·cases he
 |.cell x t::r,ps,he=>by
  rw[resP]at he
  split at he
  ·next ti hti =>
   split at he
   ·next ev hev =>
    split at he
    ·next l hl =>
     cases he
     obtain⟨vs,h1,h2⟩:=wqxq X R r hl
     obtain⟨u,e1,e2,_⟩:=wqyn (P:=P) X.ty hti R.obj hev (R.use noTags (.tmp x))
     refine⟨u::vs,⟨_,_,rfl,e2,h1⟩,?_⟩
     have hld:(resF a.tmps (.cell x t)).run P w = .ok u w:=by
      have e3:(Instr.loadAt t (a.tmps.getD x undef)).run P w = .ok u w:=e1
      unfold Instr.loadAt Instr.sureAddr at e3
      show(do loadVar t (←asAddr (a.tmps.getD x undef))).run P w=_
      split at e3
      ·next A hA =>
       rw[hA]
       exact e3
      ·simp[stuck,Sem.run]at e3
     rw[List.mapM_cons,Sem.run_bind,hld,Result.andThen_ok,Sem.run_bind,h2]
     rfl
    ·cases he
   ·cases he
  ·cases he
theorem wqkz{fn:Func}{rs:List ResultVar}(hrs:fn.results.toList=rs){tmps:Array Value}{vs:List Value}(h:(rs.mapM (resF tmps)).run P w = .ok vs w):
 (results fn tmps).run P w = .ok (if h:vs.toArray.size=1 then vs.toArray[0]else .tuple vs.toArray) w:=by
 rw[wq19t,Sem.run_bind,Array.mapM_eq_mapM_toList,Sem.run_map,hrs,h]
 rfl
theorem tup_ok{ps:List PV}{vs:List Value}{h:Heap}(hr:RVs h G w ps vs): RV h G w (tupOf ps) (if h:vs.toArray.size=1 then vs.toArray[0]else .tuple vs.toArray):=by
 cases ps with
 |nil=>cases hr;exact⟨[],rfl,rfl⟩
 |cons p r =>
  obtain⟨v,l,rfl,hv,hl⟩:=hr
  cases r with
  |nil=>cases hl;exact hv
  |cons q r =>
   obtain⟨u,l',rfl,hu,hl'⟩:=hl
   have:¬ ((v::u::l').toArray.size=1):=by simp
   rw[dif_neg this]
   exact⟨_,rfl,v,_,rfl,hv,u,_,rfl,hu,hl'⟩
def frOf(hp:List (Nm×HObj))(G:Gh)(w:World)(b:Nat): Prop:=b<w.heap.size∧freeB (mkH hp) G b
def varsL(G:Gh): List (Nm×HObj)→List (Nm×TypeId×Nat)
 |[]=>[]
 |(n,.var t _)::r=>(n,t,G.bk n)::varsL G r
 |_::r=>varsL G r
def orgOf(hp:List (Nm×HObj))(G:Gh): Org:=⟨G.X,(varsL G hp).filter fun x=>match look hp x.1 with|some (.var t _)=>Nat.beq t x.2.1|_=>false⟩
theorem wqnq:∀ {hp:List (Nm×HObj)} {x},x∈varsL G hp→x.2.2=G.bk x.1
 |[],x,h=>by cases h
 |(n,.var t cs)::r,x,h=>by
  rw[varsL]at h
  rcases List.mem_cons.1 h with rfl|h
  ·rfl
  ·exact wqnq h
 |(n,.row e K xs)::r,x,h=>wqnq (hp:=r) (by simpa [varsL]using h)
 |(n,.mp ag V es)::r,x,h=>wqnq (hp:=r) (by simpa [varsL]using h)
theorem wqtb:∀ {hp:List (Nm×HObj)} {n:Nm} {t:TypeId} {cs:List PV},(n,.var t cs)∈hp→(n,t,G.bk n)∈varsL G hp
 |(m,.var t' cs')::r,n,t,cs,h=>by
  rw[varsL]
  rcases List.mem_cons.1 h with e|h
  ·cases e;exact List.mem_cons_self
  ·exact List.mem_cons_of_mem _ (wqtb h)
 |(m,.row e K xs)::r,n,t,cs,h=>by
  rcases List.mem_cons.1 h with e|h
  ·cases e
  ·show _∈varsL G r
   exact wqtb h
 |(m,.mp ag V es)::r,n,t,cs,h=>by
  rcases List.mem_cons.1 h with e|h
  ·cases e
  ·show _∈varsL G r
   exact wqtb h
 |[],n,t,cs,h=>by cases h
theorem wqz3{pv:List Nm}: ∀ {hp:List (Nm×HObj)} {n:Nm} {ag:MK} {V:Kd} {es:List (List UInt8×V.T)},varsIn pv hp=true→(n,.mp ag V es)∈hp→False
 |[],_,_,_,_,_,h=>by cases h
 |(m,.var t cs)::r,n,ag,V,es,hv,h=>by
  simp only[varsIn,Bool.and_eq_true]at hv
  rcases List.mem_cons.1 h with e|h
  ·cases e
  ·exact wqz3 hv.2 h
 |(m,.row e K xs)::r,n,ag,V,es,hv,h=>by
  rcases List.mem_cons.1 h with e|h
  ·cases e
  ·exact wqz3 (hp:=r) hv h
 |(m,.mp ag' V' es')::r,n,ag,V,es,hv,h=>by simp[varsIn]at hv
theorem wqpw{pv:List Nm}: ∀ {hp:List (Nm×HObj)},varsIn pv hp=true→∀ x∈varsL G hp,x.1∈pv
 |[],_,x,hx=>by cases hx
 |(n,.var t cs)::r,h,x,hx=>by
  simp only[varsIn,Bool.and_eq_true]at h
  rw[varsL]at hx
  rcases List.mem_cons.1 hx with rfl|hx
  ·exact wq7o.1 h.1
  ·exact wqpw h.2 x hx
 |(n,.row e K xs)::r,h,x,hx=>wqpw (hp:=r) (by simpa [varsIn]using h) x (by simpa [varsL]using hx)
 |(n,.mp ag V es)::r,h,x,hx=>by simp[varsIn]at h
theorem wq1ei{h:Heap}: ∀ {args:List PV} {vals:List Value},RVs h G w args vals→∀ i,RV h G w (argsT args i) ((vals.toArray++Array.replicate (n-vals.toArray.size) undef).getD i undef):=by
 intro args vals hr i
 have hl:=hr.length
 unfold argsT
 by_cases hi:i<args.length
 ·obtain⟨v,hv,hp⟩:=hr.get i args[i] (by simp[hi])
  have h1:args.getD i .un=args[i]:=by simp[List.getD,hi]
  rw[h1]
  have h2:(vals.toArray++Array.replicate (n-vals.toArray.size) undef).getD i undef=v:=by
   rw[Array.getD_eq_getD_getElem?,Array.getElem?_append_left (by simp;omega)]
   simp[hv]
  rw[h2];exact hp
 ·have h1:args.getD i .un = .un:=by simp[List.getD,Nat.le_of_not_lt hi]
  rw[h1];trivial
theorem Rel.start{hp:List (Nm×HObj)}{args:List PV}{vals:List Value}(hr:RVs (mkH hp) G w args vals)(obj:∀ n o,mkH hp n=some o→RO (mkH hp) G w n o)(dis:Dis (mkH hp) G w)(hn:args.length≤n):
 Rel w (frOf hp G w) (orgOf hp G) n [] ⟨argsT args,mkH hp⟩ G { tmps:=vals.toArray++Array.replicate (n-vals.toArray.size) undef,defers:=[] } w:=by
 refine⟨fun i=>wqge (wq1ei hr i),?_,obj,dis.inj,fun m b hb hf=>hf.2 m hb,fun b hb=>⟨dis.xlt b hb,fun m hm=>dis.xo m b hm hb⟩,rfl,fun x hx => ?_,fun _ _=>rfl,Nat.le_refl _,rfl,rfl,rfl,rfl⟩
 ·have:=hr.length
  simp;omega
 ·obtain⟨h1,h2⟩:=List.mem_filter.1 hx
  refine⟨?_,(wqnq h1).symm⟩
  show ∃ cs,look hp x.1=_
  split at h2
  ·next t cs hl=>rw[beqN.1 h2]at hl;exact⟨cs,hl⟩
  ·cases h2
theorem wqxr {cx:Ctx} {hp:List (Nm×HObj)} {G0:Gh} (R:Rel w0 (frOf hp G0 w0) (orgOf hp G0) n ds st G a w) (hv:varsIn cx.pv hp=true) {R0:Type} {objs:List (Nm×LS)} {res:List LS} {ps:List PV} {K:List PV→List (Nm×HObj)→Option R0} {r:R0} {vs:List Value}
 (hr:RVs st.h G w ps vs) (he:endK cx objs res ps st K=some r) :
 ∃ qs hs G',K qs hs=some r∧RVs (mkH hs) G' w qs vs∧Fin hp hs G0 w0 G' w:=by
 have hf:∀ b,frOf hp G0 w0 b→b<w0.heap.size:=fun b hb=>hb.1
 unfold endK at he
 split at he
 ·cases he
 ·next na1 h1 =>
  split at he
  ·cases he
  ·next qs na h2 =>
   cases hfi:(fine na&&stay na.nm cx.pv)with
   |false=>rw[hfi]at he;cases he
   |true =>
    rw[hfi,cond_true]at he
    simp only[Bool.and_eq_true]at hfi
    obtain⟨hfi,hst⟩:=hfi
    have F0:Found st.h ⟨[],[],[],[]⟩:=⟨fun k o hk=>(by cases hk),fun m hm=>(by cases hm)⟩
    obtain⟨F1,L1⟩:=wqek _ _ h1 F0
    obtain⟨F2,L2⟩:=normPs_found _ _ _ h2 F1
    have S:Sub st.h G w na:=⟨wqt9 hfi,F2,R.obj,R.toDis hf⟩
    have hO:=Sub.normObjs S _ _ h1 L2 F0
    obtain⟨hS,hO2⟩:=Sub.norms S _ _ _ h2 (.refl na) F1 hr
    have hobj:∀ k o,mkH na.hp k=some o→RO (mkH na.hp) (subG G na (subX st.h G na)) w k o:=fun k o hk=>by
     rcases hO2 (k,o) (wq37 hk)with h|h
     ·rcases hO _ h with h|h
      ·cases h
      ·exact h
     ·exact h
    let G1:=subG G na (subX st.h G na)
    let G2:Gh:={ G1 with X:=G.X }
    have ok:∀ b,okB (mkH na.hp) G1 b→okB (mkH na.hp) G2 b:=fun b hb=>⟨hb.1,fun hx=>hb.2 (.inl hx)⟩
    have C:Carry (mkH na.hp) G1 w (mkH na.hp) G2 w .row :=
     ⟨fun b ho _=>⟨ok b ho,rfl⟩,fun n t cs hn=>⟨⟨cs,hn⟩,rfl⟩,fun n ag V es hn=>⟨⟨es,hn⟩,rfl⟩,S.okX,fun n e K xs hn=>⟨⟨rfl,e,K,xs,hn⟩,fun m hm=>by cases hm;exact⟨e,xs,hn,Nat.le_refl _⟩⟩⟩
    have hRVs:RVs (mkH na.hp) G2 w qs vs:=by
     have:=RVs.carry C _ _ hS
     have e:∀ l:List PV,mapRs .row l=l:=by
      intro l
      induction l with
      |nil=>rfl
      |cons p r ih=>rw[mapRs,ih,PV.mapR_row]
     rwa [e]at this
    have hpv:∀ x∈(orgOf hp G0).vs,x.1∈cx.pv:=fun x hx=>wqpw hv x (List.mem_filter.1 hx).1
    refine⟨qs,na.hp,G2,he,hRVs,⟨fun k o hk => ?_,fun k m b h1 h2=>S.toDis.inj k m b h1 h2,fun m t cs hm o ho => ?_,fun m ag V es hm o ho=>(wqz3 hv (wq37 hm)).elim,fun b hb hfree=>R.ext b ⟨hb,hfree⟩,R.xeq,fun k b hb => ?_,R.grow,R.os,R.tape,R.out⟩⟩
    ·have:=RO.carry C hk (hobj k o hk) (fun b _=>rfl) rfl rfl
     rwa [wqgf]at this
    ·have hmem:(m,t,G0.bk m)∈(orgOf hp G0).vs:=List.mem_filter.2 ⟨wqtb (wq37 hm),by simp[hm]⟩
     obtain⟨⟨cs',h1⟩,h2⟩:=wq19r (X:=G.X) R S hst hpv _ hmem
     have h1:look na.hp m=some (.var t cs'):=h1
     rw[ho]at h1
     exact⟨⟨cs',by simpa using h1⟩,h2⟩
    ·obtain⟨m,_,hm⟩:=S.blk k b hb
     have:=R.apart m b hm
     by_cases hlt:b<w0.heap.size
     ·refine .inl (Classical.byContradiction fun hno=>this ⟨hlt,fun m hm=>hno ⟨m,hm⟩⟩)
     ·exact .inr (Nat.le_of_not_lt hlt)
theorem fn_ok {cx:Ctx} (X:cx.Ok P) (hm:P.follows .mixedOrders=true) {f:FuncId} {fn:Func} {c:Code} (hfn:P.funcs[f]? = some fn) (hb:fn.body=some c) (hname:(fn.name == "runtime.NumGoroutine")=false) {rs:List ResultVar} (hrs:fn.results.toList=rs) (hco:codeOk fn.ntmps c=true)
 {k:Nat} {R0:Type} {sp:RetSpec} {args:List PV} {hp:List (Nm×HObj)} {K:Out→Option R0} {r:R0} (he:fnK cx k c fn.ntmps rs sp args hp K=some r):DoesTo P f args hp fun out=>K out=some r:=by
 intro G w vals hr obj dis
 unfold fnK at he
 cases hc1:(varsIn cx.pv hp&&Nat.ble args.length fn.ntmps)with
 |false=>rw[hc1]at he;cases he
 |true =>
  rw[hc1,cond_true]at he
  simp only[Bool.and_eq_true]at hc1
  have hrun:(callFunc f vals.toArray).run P w = .ok (.enter f vals.toArray) w:=by
   have hn2:¬ fn.name = "runtime.NumGoroutine" := by simpa using hname
   simp[callFunc,program,Sem.run,hfn,hn2,hb]
  unfold Does
  rw[hrun]
  have R:=Rel.start hr obj dis (Nat.le_of_ble_eq_true hc1.2)
  have hf:∀ b,frOf hp G w b→b<w.heap.size:=fun b hb=>hb.1
  have hpv:∀ x∈(orgOf hp G).vs,x.1∈cx.pv:=fun x hx=>wqpw hc1.1 x (List.mem_filter.1 hx).1
  have hret:∀ {st:St} {G':Gh} {a:Act} {w':World},retK cx sp rs st K=some r→Rel w (frOf hp G w) (orgOf hp G) fn.ntmps [] st G' a w'→∃ v,(results fn a.tmps).run P w' = .ok v w'∧∃ out,K out=some r∧∃ G'',OutIs G'' w' (.returned v) out∧Fin hp out.hs G w G'' w':=by
   intro st G' a w' he R
   unfold retK at he
   split at he
   ·cases he
   ·next ps hps =>
    obtain⟨vs,h1,h2⟩:=wqxq X R rs hps
    obtain⟨qs,hs,G'',h3,h4,h5⟩:=wqxr R hc1.1 h1 he
    exact⟨_,wqkz hrs h2,.ret qs hs,h3,G'',⟨_,rfl,tup_ok h4⟩,h5⟩
  refine calls_of_wp hfn hb (wp_mono (wqay X hpv hm k hf c hco he R) fun e a w' h => ?_)
  cases e with
  |normal =>
   obtain⟨st,G',h1,h2⟩:=h
   obtain⟨v,h3,h4⟩:=hret h1 h2
   exact⟨h2.defers,v,h3,h4⟩
  |ret =>
   obtain⟨st,G',h1,h2⟩:=h
   obtain⟨v,h3,h4⟩:=hret h1 h2
   exact⟨h2.defers,v,h3,h4⟩
  |panic ch =>
   obtain⟨st,G',a0,p,v,rfl,h1,h2,h3,h4,_⟩:=h
   refine⟨h4.trans h2.defers,?_⟩
   simp only[outK]at h1
   unfold panK at h1
   obtain⟨qs,hs,G'',h5,h6,h7⟩:=wqxr h2 hc1.1 (ps:=[p]) (vs:=[v]) ⟨v,[],rfl,h3,rfl⟩ h1
   split at h5
   ·next q =>
    obtain⟨u,l,hu,h8,h9⟩:=h6
    cases hu
    exact⟨.pan q hs,h5,G'',⟨v,rfl,h8⟩,h7⟩
   ·cases h5
  |exit i=>obtain⟨st,G',h1,h2⟩:=h;cases h1
  |goto l=>exact h
  |outgrown=>exact h.elim
end
end Go.Proofs.YtabkhphoacmcdaaGreatDoor.Pvm
namespace Go.Proofs.YtabkhphoacmcdaaGreatDoor.Pvm
open Go
variable {P:Program}
def zcells:Kd→List Value
 |.int k=>[.int k 0]
 |.bool=>[.bool false]
 |.str=>[.string ⟨#[]⟩]
 |.flt=>[.float .f64 0]
 |.nil=>[]
 |.sl _=>[.slice none 0 0]
 |.pr a b=>zcells a++zcells b
theorem wqz4{w:World}{ok:Nat→Prop}: ∀ K:Kd,RD w ok K K.zero (zcells K)
 |.int _=>rfl
 |.bool=>rfl
 |.str=>rfl
 |.flt=>rfl
 |.nil=>rfl
 |.sl _=>⟨none,0,rfl,Nat.le_refl _,.inl rfl⟩
 |.pr a b=>⟨_,_,rfl,wqz4 a,wqz4 b⟩
def kdB(ti:TI)(z:List Value): Prop :=
 match ti.kd with
 |none=>True
 |some K=>(decide (0<K.sz)&&decide (K.sz=ti.size))=true∧z=zcells K
def wq19u(P:Program)(fs:Array Field): Bool:=(fs.toList.mapM (fun f=>(P.info? f.type).map fun i=>(f.offset,i.size))).isSome
theorem TiOk.of {t:TypeId} {ti:TI} {z:Value} {d:TypeDesc} (hi:(P.info? t).map (fun i=>(i.size,i.bytes,i.zero))=some (ti.size,ti.bytes,some z)) (hz:z.cells.toList.map cv=ti.zero) (hs:z.cells.size=ti.size)
 (hk:kdB ti z.cells.toList) (hsh:match ti.k with | .struct=>∃ cs,z = .agg cs | .int k=>z = .int k 0|_=>z.cells = #[z])
 (hm:match ti.k with
  |.int k=>d = .int k
  |.bool=>d = .bool
  |.str=>d = .string
  |.flt=>d = .float .f64
  |.slice=>d = .slice ti.el
  |.ptr=>d = .pointer ti.el
  |.struct=>∃ fs,d = .struct fs∧fs.toList.map (fun f=>(f.offset,f.type))=ti.fs∧wq19u P fs=true
  |.iface=>∃ ms,d = .interface ms
  |.map=>∃ kt,d = .map kt ti.el∧P.underlying kt=some .string
  |.other=>(match d with | .struct _ | .array _ _ | .interface _=>False|_=>True))
 (hd:P.underlying t=some d) (he:ti.eqs=true→ti.k = .struct→wq109 P t=true):TiOk P t ti:=by
 obtain⟨i,h1,h2⟩:=Option.map_eq_some_iff.1 hi
 simp only[Prod.mk.injEq]at h2
 refine⟨⟨i,z,h1,h2.1,h2.2.1,h2.2.2,hz,hs,fun K hK => ?_,hsh⟩,⟨d,hd,?_⟩,he⟩
 ·unfold kdB at hk
  rw[hK]at hk
  simp only[Bool.and_eq_true,decide_eq_true_eq]at hk
  exact⟨hk.1.1,hk.1.2,fun w ok=>by rw[hk.2];exact wqz4 K⟩
 ·revert hm
  cases ti.k<;>simp only[]<;>intro hm<;>first
   |exact hm
   |(obtain⟨fs,h1,h2,h3⟩:=hm
     unfold wq19u at h3
     obtain⟨pl,hpl⟩:=Option.isSome_iff_exists.1 h3
     exact⟨fs,h1,h2,pl,hpl⟩)
theorem wq1fe{l:List (Nat×TI)}(h:∀ x∈l,TiOk P x.1 x.2): TyOk P (look l):=fun t ti ht=>h (t,ti) (wq37 ht)
theorem wq1ff:∀ x∈([]:List (Nat×TI)),TiOk P x.1 x.2:=fun x hx=>by cases hx
theorem all_cons{t:Nat}{ti:TI}{l:List (Nat×TI)}(h:TiOk P t ti)(hl:∀ x∈l,TiOk P x.1 x.2): ∀ x∈(t,ti)::l,TiOk P x.1 x.2:=fun x hx=>by
 rcases List.mem_cons.1 hx with rfl|hx
 ·exact h
 ·exact hl x hx
def kdxB:(K:Kd)→K.T→K.T→Bool
 |.int _,x,y=>decide ((x:Int)=y)
 |.bool,x,y=>decide ((x:Bool)=y)
 |.str,x,y=>decide ((x:List UInt8)=y)
 |.flt,x,y=>decide ((x:Nat)=y)
 |_,_,_=>false
theorem wq1fg:∀(K:Kd) {x y:K.T},kdxB K x y=true→x=y
 |.int _,x,y,h=>of_decide_eq_true h
 |.bool,x,y,h=>of_decide_eq_true h
 |.str,x,y,h=>of_decide_eq_true h
 |.flt,x,y,h=>of_decide_eq_true h
 |.sl _,_,_,h=>by cases h
 |.pr _ _,_,_,h=>by cases h
 |.nil,_,_,h=>by cases h
def pvB(p q:PV): Bool :=
 match p,q with
 |.un,.un=>true
 |.nilsl,.nilsl=>true
 |.nilptr,.nilptr=>true
 |.nilif,.nilif=>true
 |.v K x,.v K' y=>match cast K K' x with
  |some x=>kdxB K' x y
  |none=>false
 |_,_=>false
theorem pvB_ok{p q:PV}(h:pvB p q=true): p=q:=by
 unfold pvB at h
 split at h
 ·rfl
 ·rfl
 ·rfl
 ·rfl
 ·next K x K' y =>
  split at h
  ·next z hz =>
   unfold cast at hz
   split at hz
   ·next e=>cases e;cases hz;cases wq1fg _ h;rfl
   ·cases hz
  ·cases h
 ·cases h
def pvsB:List PV→List PV→Bool
 |[],[]=>true
 |p::r,q::s=>pvB p q&&pvsB r s
 |_,_=>false
theorem wq1dg:∀ {a b:List PV},pvsB a b=true→a=b
 |[],[],_=>rfl
 |p::r,q::s,h=>by
  simp only[pvsB,Bool.and_eq_true]at h
  rw[pvB_ok h.1,wq1dg h.2]
 |[],_::_,h=>by cases h
 |_::_,[],h=>by cases h
def vB(v z:Value): Bool :=
 match v,z with
 |.int k a,.int k' b=>decide (k=k')&&decide (a=b)
 |.bool a,.bool b=>decide (a=b)
 |.string s,.string s'=>decide (s.data.toList=s'.data.toList)
 |.float k a,.float k' b=>decide (k=k')&&decide (a=b)
 |.slice none a b,.slice none a' b'=>decide (a=a')&&decide (b=b')
 |_,_=>false
theorem vB_ok{v z:Value}(h:vB v z=true): v=z:=by
 unfold vB at h
 split at h
 ·simp only[Bool.and_eq_true,decide_eq_true_eq]at h;rw[h.1,h.2]
 ·simp only[decide_eq_true_eq]at h;rw[h]
 ·next s s' =>
  simp only[decide_eq_true_eq]at h
  obtain⟨⟨a⟩⟩:=s;obtain⟨⟨b⟩⟩:=s'
  cases h;rfl
 ·simp only[Bool.and_eq_true,decide_eq_true_eq]at h;rw[h.1,h.2]
 ·simp only[Bool.and_eq_true,decide_eq_true_eq]at h;rw[h.1,h.2]
 ·cases h
def vsB:List Value→List Value→Bool
 |[],[]=>true
 |p::r,q::s=>vB p q&&vsB r s
 |_,_=>false
theorem vsB_ok:∀ {a b:List Value},vsB a b=true→a=b
 |[],[],_=>rfl
 |p::r,q::s,h=>by
  simp only[vsB,Bool.and_eq_true]at h
  rw[vB_ok h.1,vsB_ok h.2]
 |[],_::_,h=>by cases h
 |_::_,[],h=>by cases h
def kdBB(ti:TI)(z:List Value): Bool :=
 match ti.kd with
 |none=>true
 |some K=>(decide (0<K.sz)&&decide (K.sz=ti.size))&&vsB z (zcells K)
def shB(ti:TI)(z:Value): Bool :=
 match ti.k with
 |.struct=>match z with
  |.agg _=>true
  |_=>false
 |.int k=>vB z (.int k 0)
 |_=>match z with
  |.agg _=>false
  |_=>true
def mdB(P:Program)(ti:TI)(d:TypeDesc): Bool :=
 match ti.k,d with
 |.int k,.int k'=>decide (k=k')
 |.bool,.bool=>true
 |.str,.string=>true
 |.flt,.float k=>decide (k = .f64)
 |.slice,.slice e=>decide (e=ti.el)
 |.ptr,.pointer e=>decide (e=ti.el)
 |.struct,.struct fs=>decide (fs.toList.map (fun f=>(f.offset,f.type))=ti.fs)&&wq19u P fs
 |.iface,.interface _=>true
 |.map,.map kt e=>decide (e=ti.el)&&(match P.underlying kt with|some .string=>true|_=>false)
 |.other,d=>match d with
  |.struct _=>false
  |.array _ _=>false
  |.interface _=>false
  |_=>true
 |_,_=>false
def tiB(P:Program)(t:TypeId)(ti:TI): Bool :=
 match P.info? t,P.underlying t with
 |some i,some d=>match i.zero with
  |some z=>decide (i.size=ti.size)&&(decide (i.bytes=ti.bytes)&&(pvsB (z.cells.toList.map cv) ti.zero&&(decide (z.cells.size=ti.size)&&(kdBB ti z.cells.toList&&(shB ti z&&(mdB P ti d&&(!ti.eqs || (match ti.k with | .struct=>wq109 P t|_=>true))))))))
  |none=>false
 |_,_=>false
theorem TiOk.ofB{t:TypeId}{ti:TI}(h:tiB P t ti=true): TiOk P t ti:=by
 unfold tiB at h
 split at h
 ·next i d hi hd =>
  split at h
  ·next z hz =>
   simp only[Bool.and_eq_true,decide_eq_true_eq]at h
   obtain⟨h1,h2,h3,h4,h5,h6,h7,h8⟩:=h
   refine TiOk.of (z:=z) (d:=d) (by rw[hi];simp only[Option.map_some,h1,h2,hz]) (wq1dg h3) h4 ?_ ?_ ?_ hd ?_
   ·unfold kdBB at h5
    unfold kdB
    split at h5
    ·trivial
    ·next K hK =>
     simp only[Bool.and_eq_true]at h5 ⊢
     exact⟨h5.1,vsB_ok h5.2⟩
   ·unfold shB at h6
    revert h6
    cases ti.k<;>simp only[]<;>intro h6
    ·exact vB_ok h6
    all_goals (cases z<;>first|(cases h6;done)|rfl|exact⟨_,rfl⟩)
   ·unfold mdB at h7
    revert h7
    cases ti.k<;>cases d<;>simp only[]<;>intro h7<;>first
     |(cases h7;done)
     |trivial
     |(simp only[decide_eq_true_eq]at h7;rw[h7])
     |exact⟨_,rfl⟩
     |(simp only[Bool.and_eq_true,decide_eq_true_eq]at h7;exact⟨_,rfl,h7.1,h7.2⟩)
     |(simp only[Bool.and_eq_true,decide_eq_true_eq]at h7
       obtain⟨a,b⟩:=h7
       subst a
       refine⟨_,rfl,?_⟩
       split at b
       ·assumption
       ·cases b)
   ·intro he hk
    rw[he]at h8
    simp only[hk,Bool.not_true,Bool.false_or]at h8
    exact h8
  ·cases h
 ·cases h
def tisB(P:Program): List (Nat×TI)→Bool
 |[]=>true
 |(t,ti)::r=>tiB P t ti&&tisB P r
theorem wq1ej:∀ {l:List (Nat×TI)},tisB P l=true→TyOk P (look l):=fun {l} h=>wq1fe (by
 induction l with
 |nil=>exact wq1ff
 |cons x r ih =>
  obtain⟨t,ti⟩:=x
  simp only[tisB,Bool.and_eq_true]at h
  exact all_cons (.ofB h.1) (ih h.2))
abbrev kI:Kd := .int .i64
abbrev zI:PV := .v kI 0
abbrev zB:PV := .v .bool false
abbrev zS:PV := .v .str []
end Go.Proofs.YtabkhphoacmcdaaGreatDoor.Pvm
namespace Go.Proofs.YtabkhphoacmcdaaGreatDoor.Pvm
open Go
def at_:List Nat→Code→Code
 |[],c=>c
 |0::p,.seq a _=>at_ p a
 |_::p,.seq _ b=>at_ p b
 |0::p,.cond _ a _=>at_ p a
 |_::p,.cond _ _ b=>at_ p b
 |_::p,.block _ b=>at_ p b
 |_::p,.scope b=>at_ p b
 |_::p,.loop b=>at_ p b
 |_,c=>c
def konts(cx:Ctx)(k:Nat){R:Type}(I:Nat→St→Option R): List Nat→Code→(Ex→St→Option R)→(Ex→St→Option R)
 |[],_,K=>K
 |0::p,.seq a b,K=>konts cx k I p a (seqK (execK cx k b) K)
 |_::p,.seq _ b,K=>konts cx k I p b K
 |0::p,.cond _ a _,K=>konts cx k I p a K
 |_::p,.cond _ _ b,K=>konts cx k I p b K
 |_::p,.block id b,K=>konts cx k I p b (blockK id K)
 |_::p,.scope b,K=>konts cx k I p b K
 |_::p,.loop b,K=>konts cx k I p b (stepK cx.pv (look cx.cuts (1000+wqhp b)) (I (1000+wqhp b)) K)
 |_,_,K=>K
theorem DoesTo.mono{P:Program}{f:FuncId}{ps:List PV}{hp:List (Nm×HObj)}{O O':Out→Prop}(h:DoesTo P f ps hp O)(ho:∀ out,O out→O' out): DoesTo P f ps hp O' :=
 fun G w vals h1 h2 h3=>(h G w vals h1 h2 h3).mono fun e w' ⟨out,h4,h5⟩=>⟨out,ho out h4,h5⟩
def noMp:List (Nm×HObj)→Bool
 |[]=>true
 |(_,.mp _ _ _)::_=>false
 |_::r=>noMp r
theorem wqnr:∀ {hp:List (Nm×HObj)},noMp hp=true→∀ {n:Nm} {ag:MK} {V:Kd} {es:List (List UInt8×V.T)},look hp n=some (.mp ag V es)→False
 |[],_,n,ag,V,es,hl=>by cases hl
 |(m,.mp _ _ _)::r,h,n,ag,V,es,hl=>by simp[noMp]at h
 |(m,.var t cs)::r,h,n,ag,V,es,hl=>by
  rw[look]at hl
  cases hb:Nat.beq m n with
  |true=>rw[hb]at hl;cases hl
  |false=>rw[hb]at hl;exact wqnr (hp:=r) h hl
 |(m,.row e K xs)::r,h,n,ag,V,es,hl=>by
  rw[look]at hl
  cases hb:Nat.beq m n with
  |true=>rw[hb]at hl;cases hl
  |false=>rw[hb]at hl;exact wqnr (hp:=r) h hl
def wq1dh(h:Heap)(G:Gh)(w:World): PV→FrameMode→FrameMode→Prop
 |.nilif,u,u1=>u = .returning∧u1 = .returning
 |.ifc t p,u,u1=>∃ v,RV h G w (.ifc t p) v∧u = .panicking [{ v,recovered:=false }]∧u1 = .panicking [{ v,recovered:=true }]
 |_,_,_=>False
def DoesToD(P:Program)(g:FuncId)(rec:PV)(caps:List PV)(hp:List (Nm×HObj))(O:Out→Prop): Prop :=
 ∀(G:Gh) (w:World) (vals:List Value) (u u1:FrameMode),RVs (mkH hp) G w caps vals→wq1dh (mkH hp) G w rec u u1→(∀ n o,mkH hp n=some o→RO (mkH hp) G w n o)→Dis (mkH hp) G w →
  CallsD P g vals.toArray u w fun e u' w'=>u'=u1∧∃ out,O out∧∃ G',OutIs G' w' e out∧Fin hp out.hs G w G' w'
theorem DoesToD.mono{P:Program}{g:FuncId}{rec:PV}{caps:List PV}{hp:List (Nm×HObj)}{O O':Out→Prop}(h:DoesToD P g rec caps hp O)(ho:∀ out,O out→O' out): DoesToD P g rec caps hp O' :=
 fun G w vals u u1 h1 h2 h3 h4=>(h G w vals u u1 h1 h2 h3 h4).mono fun e u' w' ⟨h5,out,h6,h7⟩=>⟨h5,out,ho out h6,h7⟩
def fnCK(cx:Ctx)(k:Nat){R:Type}(c:Code)(n:Nat)(rs:List ResultVar)(sp:RetSpec)(caps:List PV)(s:Nat)(rec:PV)(hp:List (Nm×HObj))(K:Out→Option R): Option R :=
 bif varsIn cx.pv hp&&Nat.ble caps.length n&&Nat.blt s n then execK cx k c ⟨upd (argsT caps) s rec,mkH hp⟩ (outK cx sp rs K)else none
def opsAt:Code→Array Oper
 |.region _ ops _=>ops
 |_ => #[]
def recOps(ops:List Oper): Option Nat :=
 match ops with
 |[o]=>match o.guard,o.dst,o.op with
  |none,some s,.call { callee := .builtin .recover,args,.. }=>bif Nat.beq args.size 0 then some s else none
  |_,_,_=>none
 |_=>none
theorem wq17f{ops:Array Oper}{s:Nat}(h:recOps ops.toList=some s): ∃ o ats,ops = #[o]∧o.guard=none∧o.dst=some s∧o.op = .call { callee := .builtin .recover,args := #[],argTypes:=ats }:=by
 unfold recOps at h
 split at h
 ·next o hl =>
  split at h
  ·next e1 e2 e3 =>
   next args _ =>
   cases hb:Nat.beq args.size 0 with
   |false=>rw[hb]at h;cases h
   |true =>
    rw[hb,cond_true]at h
    cases h
    have ha:args = #[]:=Array.eq_empty_of_size_eq_zero (beqN.1 hb)
    subst ha
    exact⟨o,_,by apply Array.ext';simpa using hl,e1,e2,e3⟩
  ·cases h
 ·cases h
def wq13o(ops:List Oper): Option (Nat×FuncId×List Operand) :=
 match ops with
 |[o1,o2]=>match o1.guard,o2.guard,o1.dst,o2.dst with
  |none,none,some s,none=>match o1.op,o2.op with
   |.makeFunc (.func g) first caps,.defer { callee := .value (.tmp s'),args,.. }=>bif Nat.beq first.size 0&&Nat.beq s' s&&Nat.beq args.size 0 then some (s,g,caps.toList)else none
   |_,_=>none
  |_,_,_,_=>none
 |_=>none
def wq10v(st:St): List Operand→List (Nm×Nat)→Bool
 |[],[]=>true
 |x::xs,(n,off)::r=>(match useO [] (st.get x)with | .ptr m o=>Nat.beq m n&&Nat.beq o off|_=>false)&&wq10v st xs r
 |_,_=>false
def capsIn(st:St)(pv:List Nm): List (Nm×Nat)→Bool
 |[]=>true
 |(n,_)::r=>isIn n pv&&(match st.h n with|some (.var _ _)=>true|_=>false)&&capsIn st pv r
def capP:List (Nm×Nat)→List PV
 |[]=>[]
 |(n,off)::r => .ptr n off::capP r
def wqu6(ks:List Nat): List ResultVar→Bool
 |[]=>true
 |.tmp t::r=>isIn t ks&&wqu6 ks r
 |.cell a _::r=>isIn a ks&&wqu6 ks r
def modeOk(pan:Bool): PV→Bool
 |.nilif => !pan
 |.ifc _ _=>pan
 |_=>false
def callD(cx:Ctx){R:Type}(runD:PV→List PV→List (Nm×HObj)→(Out→Option R)→Option R)(sigD:List LS)(caps:List (Nm×Nat))(sp:RetSpec)(rs:List ResultVar)(K:Out→Option R)(pan:Bool)(rec:PV)(st:St): Option R :=
 match normPs st.h ⟨[],[],[],[]⟩ (.any::sigD) (rec::capP caps)with
 |some (q::ps,na)=>bif fine na&&modeOk pan q then runD q ps na.hp fun o=>match o with
  |.ret _ hs=>match back st 9000 na hs (hasSlH hs)with
   |some st'=>retK cx sp rs st' K
   |none=>none
  |.pan _ _=>none
  else none
 |_=>none
def endD(cx:Ctx){R:Type}(runD:PV→List PV→List (Nm×HObj)→(Out→Option R)→Option R)(sigD:List LS)(caps:List (Nm×Nat))(sp:RetSpec)(rs:List ResultVar)(K:Out→Option R): Ex→St→Option R:=fun e st=>match e with
 |.normal=>callD cx runD sigD caps sp rs K false .nilif st
 |.ret=>callD cx runD sigD caps sp rs K false .nilif st
 |.panic p=>callD cx runD sigD caps sp rs K true p st
 |.exit _=>none
def seqs:List Code→Code→Code
 |[],b=>b
 |p::r,b => .seq p (seqs r b)
def preK{R:Type}(ex:Ctx→Code→St→(Ex→St→Option R)→Option R)(cx:Ctx)(KN KR:St→Option R): List Code→St→Option R
 |[],st=>KN st
 |p::r,st=>ex cx p st fun e st=>match e with
  |.normal=>preK ex cx KN KR r st
  |.ret=>KR st
  |_=>none
def dfrK {R:Type} (ex:Ctx→Code→St→(Ex→St→Option R)→Option R) (cx:Ctx) (pv2:List Nm) (pre:List Code) (ops:Array Oper) (rest:Code) (n:Nat) (rs:List ResultVar) (sp:RetSpec)
 (runD:PV→List PV→List (Nm×HObj)→(Out→Option R)→Option R) (sigD:List LS) (caps:List (Nm×Nat)) (args:List PV) (hp:List (Nm×HObj)) (K:Out→Option R):Option R :=
 bif varsIn cx.pv hp&&Nat.ble args.length n&&subL cx.pv pv2&&wqu6 cx.keep rs then
  preK ex cx (fun st=>match wq13o ops.toList with
   |some (s,g,xs)=>bif wq10v st xs caps&&capsIn st pv2 caps&&Nat.blt s n then
    ex { cx with pv:=pv2 } rest ⟨upd st.t s (.clo g (capP caps)),st.h⟩ (endD cx runD sigD caps sp rs K)
    else none
   |none=>none) (fun st=>retK cx sp rs st K) pre ⟨argsT args,mkH hp⟩
 else none
def fnDK (cx:Ctx) (k:Nat) {R:Type} (pv2:List Nm) (pre:List Code) (ops:Array Oper) (rest:Code) (n:Nat) (rs:List ResultVar) (sp:RetSpec)
 (runD:PV→List PV→List (Nm×HObj)→(Out→Option R)→Option R) (sigD:List LS) (caps:List (Nm×Nat)) (args:List PV) (hp:List (Nm×HObj)) (K:Out→Option R):Option R :=
 dfrK (fun cx c st K=>execK cx k c st K) cx pv2 pre ops rest n rs sp runD sigD caps args hp K
section
variable {P:Program} {w0:World} {fr:Nat→Prop} {X0:Org} {n:Nat} {ds:List Deferred} {st:St} {G:Gh} {a:Act} {w:World}
theorem nblt{a b:Nat}(h:Nat.blt a b=true): a<b:=Nat.le_of_ble_eq_true h
theorem wqxs {cx:Ctx} (X:cx.Ok P) (hm:P.follows .mixedOrders=true) {f:FuncId} {fn:Func} {id:Nat} {ops:Array Oper} {c:Code} (hfn:P.funcs[f]? = some fn) (hb:fn.body=some (.seq (.region id ops false) c))
 {s:Nat} (hops:recOps ops.toList=some s) {rs:List ResultVar} (hrs:fn.results.toList=rs) (hco:codeOk fn.ntmps c=true)
 {k:Nat} {R0:Type} {sp:RetSpec} {caps:List PV} {rec:PV} {hp:List (Nm×HObj)} {K:Out→Option R0} {r:R0} (he:fnCK cx k c fn.ntmps rs sp caps s rec hp K=some r):DoesToD P f rec caps hp fun out=>K out=some r:=by
 intro G w vals u u1 hr hmode obj dis
 obtain⟨o,ats,hops,hg,hds,hop⟩:=wq17f hops
 unfold fnCK at he
 cases hc1:(varsIn cx.pv hp&&Nat.ble caps.length fn.ntmps&&Nat.blt s fn.ntmps)with
 |false=>rw[hc1]at he;cases he
 |true =>
  rw[hc1,cond_true]at he
  simp only[Bool.and_eq_true]at hc1
  obtain⟨⟨hc0,hc2⟩,hc3⟩:=hc1
  have R:=Rel.start hr obj dis (Nat.le_of_ble_eq_true hc2)
  have hf:∀ b,frOf hp G w b→b<w.heap.size:=fun b hb=>hb.1
  have hpv:∀ x∈(orgOf hp G).vs,x.1∈cx.pv:=fun x hx=>wqpw hc0 x (List.mem_filter.1 hx).1
  have hret:∀ {st:St} {G':Gh} {a:Act} {w':World},retK cx sp rs st K=some r→Rel w (frOf hp G w) (orgOf hp G) fn.ntmps [] st G' a w'→∃ v,(results fn a.tmps).run P w' = .ok v w'∧∃ out,K out=some r∧∃ G'',OutIs G'' w' (.returned v) out∧Fin hp out.hs G w G'' w':=by
   intro st G' a w' he R
   unfold retK at he
   split at he
   ·cases he
   ·next ps hps =>
    obtain⟨vs,h1,h2⟩:=wqxq X R rs hps
    obtain⟨qs,hs,G'',h3,h4,h5⟩:=wqxr R hc0 h1 he
    exact⟨_,wqkz hrs h2,.ret qs hs,h3,G'',⟨_,rfl,tup_ok h4⟩,h5⟩
  refine callsD_of_wpS hfn hb fun c₀ cs hu => ?_
  refine wpS_seq (wpS_region ?_)
  subst hops
  have hwant:Region.wanted o (yielded #[o] (vals.toArray++Array.replicate (fn.ntmps-vals.toArray.size) undef))=true:=by simp[Region.wanted,hg]
  have hrun:∀ ρ : Operand→Value,(execOp ρ o).run P w = .ok .recover w:=by
   intro ρ
   simp[execOp,hop,resolve,invoke,builtin]
  have key:∀(v:Value) (cs':List Frame),RV (mkH hp) G w rec v→cs'={ c₀ with mode:=u1 }::cs →
   Exit.thenS (c.wpS P (bodyPostS P fn c₀ cs fun e u' w'=>u'=u1∧∃ out,K out=some r∧∃ G',OutIs G' w' e out∧Fin hp out.hs G w G' w')) (bodyPostS P fn c₀ cs fun e u' w'=>u'=u1∧∃ out,K out=some r∧∃ G',OutIs G' w' e out∧Fin hp out.hs G w G' w') .normal
    (({ tmps:=vals.toArray++Array.replicate (fn.ntmps-vals.toArray.size) undef,defers:=[] }:Act).put o.dst v) cs' w:=by
   rintro v cs' hv rfl
   show c.wpS _ _ _ _ _
   rw[hds]
   have R2:=R.putV hf (d:=some s) (fun i hi=>by cases hi;exact nblt hc3) hv
   refine wpS_of_wp (wp_mono (wqay X hpv hm k hf c hco he R2) fun e a w' h => ?_)
   cases e with
   |normal =>
    obtain⟨st,G',h1,h2⟩:=h
    obtain⟨v,h3,h4⟩:=hret h1 h2
    exact⟨h2.defers,u1,rfl,v,h3,rfl,h4⟩
   |ret =>
    obtain⟨st,G',h1,h2⟩:=h
    obtain⟨v,h3,h4⟩:=hret h1 h2
    exact⟨h2.defers,u1,rfl,v,h3,rfl,h4⟩
   |panic ch =>
    obtain⟨st,G',a0,p,v,rfl,h1,h2,h3,h4,_⟩:=h
    refine⟨h4.trans h2.defers,u1,rfl,rfl,?_⟩
    simp only[outK]at h1
    unfold panK at h1
    obtain⟨qs,hs,G'',h5,h6,h7⟩:=wqxr h2 hc0 (ps:=[p]) (vs:=[v]) ⟨v,[],rfl,h3,rfl⟩ h1
    split at h5
    ·next q =>
     obtain⟨u,l,hu,h8,h9⟩:=h6
     cases hu
     exact⟨.pan q hs,h5,G'',⟨v,rfl,h8⟩,h7⟩
    ·cases h5
   |exit i=>obtain⟨st,G',h1,h2⟩:=h;cases h1
   |goto l=>exact h
   |outgrown=>exact h.elim
  show wpOpsS P #[o] _ [0] _ _ _
  simp only[wpOpsS,List.getElem?_toArray,List.getElem?_cons_zero,hwant,if_true,hrun]
  cases rec with
  |nilif =>
   obtain⟨rfl,rfl⟩:=hmode
   have hrec:recoverD (c₀ :: cs)=none:=by simp[recoverD,hu]
   rw[hrec]
   refine key .nilIface (c₀ :: cs) rfl ?_
   cases c₀;simp_all
  |ifc t p =>
   obtain⟨v,hv,rfl,rfl⟩:=hmode
   have hrec:recoverD (c₀ :: cs)=some (v,{ c₀ with mode := .panicking [{ v,recovered:=true }] }::cs):=by simp[recoverD,hu]
   rw[hrec]
   exact key v _ hv rfl
  |_=>exact hmode.elim
theorem wqu7{ks:List Nat}{a a0:Act}(h:∀ i∈ks,tmOf a i=tmOf a0 i): ∀ {rs:List ResultVar},wqu6 ks rs=true→rs.mapM (resF a.tmps)=rs.mapM (resF a0.tmps)
 |[],_=>rfl
 |.tmp t::r,hk=>by
  simp only[wqu6,Bool.and_eq_true]at hk
  have e1:a.tmps.getD t undef=a0.tmps.getD t undef:=h t (wq7o.1 hk.1)
  rw[List.mapM_cons,List.mapM_cons,wqu7 h hk.2]
  simp only[resF,e1]
 |.cell x t::r,hk=>by
  simp only[wqu6,Bool.and_eq_true]at hk
  have e1:a.tmps.getD x undef=a0.tmps.getD x undef:=h x (wq7o.1 hk.1)
  rw[List.mapM_cons,List.mapM_cons,wqu7 h hk.2]
  simp only[resF,e1]
theorem wq10w(R:Rel w0 fr X0 n ds st G a w): ∀(xs:List Operand) (caps:List (Nm×Nat)),wq10v st xs caps=true→RVs st.h G w (capP caps) (xs.map a.eval)
 |[],[],_=>rfl
 |[],_::_,h=>by cases h
 |x::xs,[],h=>by cases h
 |x::xs,(m,off)::r,h=>by
  simp only[wq10v,Bool.and_eq_true]at h
  obtain⟨h1,h2⟩:=h
  refine⟨a.eval x,xs.map a.eval,rfl,?_,wq10w R xs r h2⟩
  have:=R.use noTags x
  split at h1
  ·next m' o' hx =>
   rw[hx]at this
   simp only[Bool.and_eq_true]at h1
   rw[beqN.1 h1.1,beqN.1 h1.2]at this
   exact this
  ·cases h1
theorem wq166{pv:List Nm}: ∀ {caps:List (Nm×Nat)},capsIn st pv caps=true→∀ x∈caps,x.1∈pv∧∃ t cs,st.h x.1=some (.var t cs)
 |[],_,x,hx=>by cases hx
 |(m,off)::r,h,x,hx=>by
  simp only[capsIn,Bool.and_eq_true]at h
  obtain⟨⟨h1,h2⟩,h3⟩:=h
  rcases List.mem_cons.1 hx with rfl|hx
  ·refine⟨wq7o.1 h1,?_⟩
   split at h2
   ·next t cs ht=>exact⟨t,cs,ht⟩
   ·cases h2
  ·exact wq166 h3 x hx
def typeIn(h:Heap)(n:Nm): TypeId:=match h n with|some (.var t _)=>t|_=>0
def capOrg(st:St)(G:Gh): List (Nm×Nat)→List (Nm×TypeId×Nat)
 |[]=>[]
 |(n,_)::r=>(n,typeIn st.h n,G.bk n)::capOrg st G r
theorem wqu8{st:St}{G:Gh}: ∀ {caps:List (Nm×Nat)} {x},x∈capOrg st G caps→∃ y∈caps,x=(y.1,typeIn st.h y.1,G.bk y.1)
 |[],x,h=>by cases h
 |(n,off)::r,x,h=>by
  rw[capOrg]at h
  rcases List.mem_cons.1 h with rfl|h
  ·exact⟨_,List.mem_cons_self,rfl⟩
  ·obtain⟨y,hy,e⟩:=wqu8 h
   exact⟨y,List.mem_cons_of_mem _ hy,e⟩
theorem wq167{st:St}{G:Gh}: ∀ {caps:List (Nm×Nat)} {y},y∈caps→(y.1,typeIn st.h y.1,G.bk y.1)∈capOrg st G caps
 |(n,off)::r,y,h=>by
  rw[capOrg]
  rcases List.mem_cons.1 h with rfl|h
  ·exact List.mem_cons_self
  ·exact List.mem_cons_of_mem _ (wq167 h)
theorem wq10x{st0:St}{G0:Gh}{w0':World}: ∀ {caps:List (Nm×Nat)} {vals:List Value},RVs st0.h G0 w0' (capP caps) vals→(∀ y∈caps,(∃ t cs,st.h y.1=some (.var t cs))∧G.bk y.1=G0.bk y.1)→RVs st.h G w (capP caps) vals
 |[],vals,hr,_=>hr
 |(m,off)::r,vals,⟨v,l,e,hv,hl⟩,h=>by
  obtain⟨rfl,_⟩:=hv
  obtain⟨⟨t,cs,h1⟩,h2⟩:=h (m,off) List.mem_cons_self
  exact⟨_,l,e,⟨by rw[h2],t,cs,h1⟩,wq10x hl fun y hy=>h y (List.mem_cons_of_mem _ hy)⟩
theorem wq1fh{l r:List Nat}(h:subL l r=true): ∀ x∈l,x∈r:=by
 induction l with
 |nil=>intro x hx;cases hx
 |cons n l ih =>
  simp only[subL,Bool.and_eq_true]at h
  intro x hx
  rcases List.mem_cons.1 hx with rfl|hx
  ·exact wq7o.1 h.1
  ·exact ih h.2 x hx
def Invokes(P:Program)(g:FuncId): Prop:=∀(cap:Array Value) (w:World),(invoke (.fn (.func g) cap) #[]).run P w = .ok (.enter g cap) w
theorem Invokes.of{f:FuncId}{fn:Func}{c:Code}(hfn:P.funcs[f]? = some fn)(hb:fn.body=some c)(hname:(fn.name == "runtime.NumGoroutine")=false): Invokes P f:=by
 intro cap w
 have hn2:¬ fn.name = "runtime.NumGoroutine" := by simpa using hname
 simp[invoke,callFunc,program,Sem.run,hfn,hn2,hb]
theorem wq1di{cx:Ctx}(X:cx.Ok P)(hpv:∀ x∈X0.vs,x.1∈cx.pv)(hm:P.follows .mixedOrders=true)(k:Nat)(hf:∀ b,fr b→b<w0.heap.size){R0:Type}{KN KR:St→Option R0}{r:R0}{b:Code}{Q:Exit→Act→World→Prop}:
 ∀(pre:List Code),(pre.all fun c=>codeOk n c)=true→∀ {st:St} {G:Gh} {a:Act} {w:World},preK (fun cx c st K=>execK cx k c st K) cx KN KR pre st=some r→Rel w0 fr X0 n ds st G a w →
  (∀ {st:St} {G:Gh} {a:Act} {w:World},KN st=some r→Rel w0 fr X0 n ds st G a w→b.wp P Q a w)→(∀ {st:St} {G:Gh} {a:Act} {w:World},KR st=some r→Rel w0 fr X0 n ds st G a w→Q .ret a w)→(seqs pre b).wp P Q a w
 |[],_,st,G,a,w,he,R,hN,_=>hN he R
 |p::l,hc,st,G,a,w,he,R,hN,hR=>by
  simp only[List.all_cons,Bool.and_eq_true]at hc
  refine wp_seq (wp_mono (wqay X hpv hm k hf p hc.1 he R) fun e a1 w1 h => ?_)
  cases e with
  |exit i=>obtain⟨st,G',h1,h2⟩:=h;cases h1
  |ret=>obtain⟨st,G',h1,h2⟩:=h;exact hR h1 h2
  |panic ch=>obtain⟨st,G',a0,p,v,rfl,h1,h2⟩:=h;cases h1
  |goto l=>exact h.elim
  |outgrown=>exact h.elim
  |normal=>obtain⟨st,G',h1,h2⟩:=h;exact wq1di X hpv hm k hf l hc.2 h1 h2 hN hR
theorem wq19v {cx:Ctx} (X:cx.Ok P) (hm:P.follows .mixedOrders=true) {f:FuncId} {fn:Func} {pre:List Code} {rest:Code} {id:Nat} {ops:Array Oper} (hfn:P.funcs[f]? = some fn) (hb:fn.body=some (seqs pre (.seq (.region id ops false) rest)))
 (hname:(fn.name == "runtime.NumGoroutine")=false) {rs:List ResultVar} (hrs:fn.results.toList=rs) (hco:(pre.all fun c=>codeOk fn.ntmps c)=true) (hco2:codeOk fn.ntmps rest=true)
 {g:FuncId} {s:Nat} {xs:List Operand} (hops:wq13o ops.toList=some (s,g,xs))
 {k:Nat} {R0:Type} {sp:RetSpec} {pv2:List Nm} {runD:PV→List PV→List (Nm×HObj)→(Out→Option R0)→Option R0} {sigD:List LS} {caps:List (Nm×Nat)}
 (hinv:Invokes P g) (hrunD:∀ rec ps hp (K:Out→Option R0) (r:R0),runD rec ps hp K=some r→DoesToD P g rec ps hp fun out=>K out=some r)
 {args:List PV} {hp:List (Nm×HObj)} {K:Out→Option R0} {r:R0} (he:fnDK cx k pv2 pre ops rest fn.ntmps rs sp runD sigD caps args hp K=some r):DoesTo P f args hp fun out=>K out=some r:=by
 intro G w vals hr obj dis
 unfold fnDK dfrK at he
 cases hc1:(varsIn cx.pv hp&&Nat.ble args.length fn.ntmps&&subL cx.pv pv2&&wqu6 cx.keep rs)with
 |false=>rw[hc1]at he;cases he
 |true =>
  rw[hc1,cond_true]at he
  simp only[Bool.and_eq_true]at hc1
  obtain⟨⟨⟨hc0,hc2⟩,hsub⟩,hkeep⟩:=hc1
  have hrun:(callFunc f vals.toArray).run P w = .ok (.enter f vals.toArray) w:=by
   have hn2:¬ fn.name = "runtime.NumGoroutine" := by simpa using hname
   simp[callFunc,program,Sem.run,hfn,hn2,hb]
  unfold Does
  rw[hrun]
  have R:=Rel.start hr obj dis (Nat.le_of_ble_eq_true hc2)
  have hf:∀ b,frOf hp G w b→b<w.heap.size:=fun b hb=>hb.1
  have hpv:∀ x∈(orgOf hp G).vs,x.1∈cx.pv:=fun x hx=>wqpw hc0 x (List.mem_filter.1 hx).1
  refine calls_of_wp_defers hfn hb (wq1di X hpv hm k hf pre hco he R (fun {st1 G1 a1 w1} h1 R1 => ?_) fun {st1 G1 a1 w1} h1 R1 => ?_)
  case refine_2 =>
   show Leaves P fn a1.tmps _ a1.defers .returning w1
   rw[R1.defers]
   unfold retK at h1
   split at h1
   ·cases h1
   ·next ps2 hps2 =>
    obtain⟨vs,g1,g2⟩:=wqxq X R1 rs hps2
    obtain⟨qs,hs2,G'',g3,g4,g5⟩:=wqxr R1 hc0 g1 h1
    exact⟨_,wqkz hrs g2,.ret qs hs2,g3,G'',⟨_,rfl,tup_ok g4⟩,g5⟩
  case refine_1 =>
   simp only[hops]at h1
   cases hc3:(wq10v st1 xs caps&&capsIn st1 pv2 caps&&Nat.blt s fn.ntmps)with
   |false=>rw[hc3]at h1;cases h1
   |true =>
    rw[hc3,cond_true]at h1
    simp only[Bool.and_eq_true]at hc3
    obtain⟨⟨hca,hci⟩,hs⟩:=hc3
    have hcaps:=wq10w R1 xs caps hca
    have hcin:=wq166 hci
    have hsh:∃ o1 o2 first cps args ats s',ops.toList=[o1,o2]∧o1.guard=none∧o2.guard=none∧o1.dst=some s∧o2.dst=none∧o1.op = .makeFunc (.func g) first cps∧o2.op = .defer { callee := .value (.tmp s'),args:=args,argTypes:=ats }∧first = #[]∧s'=s∧args = #[]∧cps.toList=xs:=by
     unfold wq13o at hops
     split at hops
     ·next o1 o2 hl =>
      split at hops
      ·next e1 e2 e3 e4 =>
       split at hops
       ·next g' first cps s1 args ats e5 e6 =>
        cases hbb:(Nat.beq first.size 0&&Nat.beq s1 _&&Nat.beq args.size 0)with
        |false=>rw[hbb]at hops;cases hops
        |true =>
         rw[hbb,cond_true]at hops
         cases hops
         simp only[Bool.and_eq_true]at hbb
         exact⟨o1,o2,first,cps,args,_,s1,hl,e1,e2,e3,e4,e5,e6,Array.eq_empty_of_size_eq_zero (beqN.1 hbb.1.1),beqN.1 hbb.1.2,Array.eq_empty_of_size_eq_zero (beqN.1 hbb.2),rfl⟩
       ·cases hops
      ·cases hops
     ·cases hops
    obtain⟨o1,o2,first,cps,args',ats,s',hl,g1,g2,d1,d2,p1,p2,rfl,rfl,rfl,hx⟩:=hsh
    have hs:=nblt hs
    have hsz:=R1.size
    let F:Value := .func (.func g) #[] (cps.map a1.eval)
    let d:Deferred:={ target := .fn (.func g) (cps.map a1.eval),args := #[] }
    let a2:Act:={ (a1.put (some s') F)with defers:=d::a1.defers }
    have hcapsA:RVs st1.h G1 w1 (capP caps) (cps.map a1.eval).toList:=by rw[Array.toList_map,hx];exact hcaps
    let X0':Org:=⟨(orgOf hp G).X,capOrg st1 G1 caps++(orgOf hp G).vs⟩
    have R2:Rel w (frOf hp G w) X0' fn.ntmps [d] ⟨upd st1.t s' (.clo g (capP caps)),st1.h⟩ G1 a2 w1:=by
     have:=R1.putV hf (d:=some s') (fun i hi=>by cases hi;exact hs) (p := .clo g (capP caps)) (v:=F) ⟨(cps.map a1.eval).toList,by simp only[F,Array.toArray_toList],hcapsA⟩
     refine⟨this.tm,this.size,this.obj,this.dis,this.apart,this.xfr,this.xeq,fun x hx => ?_,this.ext,this.grow,this.os,this.tape,this.out,by simp[a2,R1.defers]⟩
     rcases List.mem_append.1 hx with hx|hx
     ·obtain⟨y,hy,rfl⟩:=wqu8 hx
      obtain⟨_,t,cs,ht⟩:=hcin y hy
      exact⟨⟨cs,by simp only[typeIn];rw[show st1.h y.1=_ from ht]⟩,rfl⟩
     ·exact this.org x hx
    have hpv2:∀ x∈X0'.vs,x.1∈pv2:=by
     intro x hx
     rcases List.mem_append.1 hx with hx|hx
     ·obtain⟨y,hy,rfl⟩:=wqu8 hx
      exact(hcin y hy).1
     ·exact wq1fh hsub _ (hpv x hx)
    have X2:Ctx.Ok P { cx with pv:=pv2 }:=⟨X.ty,X.C,X.sh⟩
    have fin:∀ {pan:Bool} {rec:PV} {v:Value} {st:St} {G':Gh} {a b:Act} {w':World},rs.mapM (resF b.tmps)=rs.mapM (resF a.tmps)→b.defers=a.defers→callD cx runD sigD caps sp rs K pan rec st=some r→Rel w (frOf hp G w) X0' fn.ntmps [d] st G' a w'→RV st.h G' w' rec v →
     Leaves P fn b.tmps (fun e w'=>∃ out,K out=some r∧∃ G',OutIs G' w' e out∧Fin hp out.hs G w G' w') b.defers (bif pan then .panicking [{ v,recovered:=false }]else .returning) w':=by
     intro pan rec v st G' a b w' hbm hbd he R3 hv
     rw[hbd,R3.defers]
     refine leaves_cons (f:=g) (args:=cps.map a1.eval) (by cases pan<;>simp) (hinv _ _) ?_
     unfold callD at he
     split at he
     ·next q ps na hn =>
      cases hfi:(fine na&&modeOk pan q)with
      |false=>rw[hfi]at he;cases he
      |true =>
       rw[hfi,cond_true]at he
       simp only[Bool.and_eq_true]at hfi
       obtain⟨hfi,hmo⟩:=hfi
       have hc:=hrunD _ _ _ _ _ he
       have F0:Found st.h ⟨[],[],[],[]⟩:=⟨fun k o hk=>(by cases hk),fun m hm=>(by cases hm)⟩
       obtain⟨F1,L1⟩:=normPs_found _ _ _ hn F0
       have S:Sub st.h G' w' na:=⟨wqt9 hfi,F1,R3.obj,R3.toDis hf⟩
       have hcl:RVs st.h G' w' (capP caps) (cps.map a1.eval).toList:=by
        refine wq10x hcapsA fun y hy => ?_
        obtain⟨⟨cs,h1⟩,h2⟩:=R3.org (y.1,typeIn st1.h y.1,G1.bk y.1) (List.mem_append_left _ (wq167 hy))
        exact⟨⟨_,cs,h1⟩,h2⟩
       obtain⟨h1,h2⟩:=Sub.norms S _ _ _ hn (.refl na) F0 (vs:=v::(cps.map a1.eval).toList) ⟨v,_,rfl,hv,hcl⟩
       obtain⟨v',l',hvl,hq,hps⟩:=h1
       simp only[List.cons.injEq]at hvl
       obtain⟨rfl,rfl⟩:=hvl
       have hobj:∀ k o,mkH na.hp k=some o→RO (mkH na.hp) (subG G' na (subX st.h G' na)) w' k o:=fun k o hk=>by
        rcases h2 (k,o) (wq37 hk)with h|h
        ·cases h
        ·exact h
       have hrec:wq1dh (mkH na.hp) (subG G' na (subX st.h G' na)) w' q (bif pan then .panicking [{ v,recovered:=false }]else .returning) (bif pan then .panicking [{ v,recovered:=true }]else .returning):=by
        cases q with
        |nilif=>cases pan with
         |false=>exact⟨rfl,rfl⟩
         |true=>cases hmo
        |ifc t p=>cases pan with
         |false=>cases hmo
         |true=>exact⟨v,hq,rfl,rfl⟩
        |_=>cases hmo
       have hcd:=hc _ w' _ _ _ hps hrec hobj S.toDis
       rw[Array.toArray_toList]at hcd
       refine hcd.mono fun e u' w'' hh => ?_
       obtain⟨rfl,out,ho,G3,hout,Fi⟩:=hh
       cases out with
       |pan p hs=>cases ho
       |ret rs' hs' =>
        obtain⟨v3,rfl,hv3⟩:=hout
        simp only at ho
        split at ho
        ·next st' hbk =>
         obtain⟨G4,L,ht,hren⟩:=wq197 S hbk Fi (fun h=>h)
         have R4:=R3.loud0 hf L
         rw[←ht]at R4
         have R5:Rel w (frOf hp G w) (orgOf hp G) fn.ntmps [d] st' G4 a w'' :=
          ⟨R4.tm,R4.size,R4.obj,R4.dis,R4.apart,R4.xfr,R4.xeq,fun x hx=>R4.org x (List.mem_append_right _ hx),R4.ext,R4.grow,R4.os,R4.tape,R4.out,R4.defers⟩
         have hset:settle (bif pan then .panicking [{ v,recovered:=true }]else .returning) = .returning:=by cases pan<;>rfl
         show Leaves P fn b.tmps _ [] (settle _) w''
         rw[hset]
         unfold retK at ho
         split at ho
         ·cases ho
         ·next ps2 hps2 =>
          obtain⟨vs,h1,h2⟩:=wqxq X R5 rs hps2
          obtain⟨qs,hs2,G'',h3,h4,h5⟩:=wqxr R5 hc0 h1 ho
          exact⟨_,wqkz hrs (by rw[hbm];exact h2),.ret qs hs2,h3,G'',⟨_,rfl,tup_ok h4⟩,h5⟩
        ·cases ho
     ·cases he
    have hrest:rest.wp P (bodyPostD P fn fun e w'=>∃ out,K out=some r∧∃ G',OutIs G' w' e out∧Fin hp out.hs G w G' w') a2 w1:=by
     refine wp_mono (wqay X2 hpv2 hm k hf rest hco2 h1 R2) fun e a w' h => ?_
     cases e with
     |normal =>
      obtain⟨st,G',h1,h2⟩:=h
      exact fin (pan:=false) rfl rfl h1 h2 (v := .nilIface) rfl
     |ret =>
      obtain⟨st,G',h1,h2⟩:=h
      exact fin (pan:=false) rfl rfl h1 h2 (v := .nilIface) rfl
     |panic ch =>
      obtain⟨st,G',a0,p,v,rfl,h1,h2,h3,h4,h5,h6⟩:=h
      exact fin (pan:=true) (wqu7 h6 hkeep) h4 h1 h2 h3
     |exit i=>obtain⟨st,G',h1,h2⟩:=h;cases h1
     |goto l=>exact h
     |outgrown=>exact h.elim
    refine wp_seq (wp_region_list ?_)
    rw[hl]
    have w1':Region.wanted o1 (yielded ops a1.tmps)=true:=by simp[Region.wanted,g1]
    have w2':∀ t,Region.wanted o2 (yielded ops t)=true:=fun t=>by simp[Region.wanted,g2]
    have e1:(execOp a1.eval o1).run P w1 = .ok (.value F) w1:=by simp[execOp,p1,Instr.makeFunc,F]
    have e2:(execOp (a1.put (some s') F).eval o2).run P w1 = .ok (.defer d) w1:=by
     have:(a1.put (some s') F).eval (.tmp s')=F:=by
      simp[Act.eval,Act.put,hsz,hs]
     simp[execOp,p2,resolve,this,F,Deferred.ofValue,d]
    unfold wpList
    rw[if_pos w1']
    refine .inl ?_
    unfold Oper.wp
    rw[e1,Oper.upon_value,d1]
    unfold wpList
    rw[if_pos (w2' _)]
    refine .inl ?_
    unfold Oper.wp
    rw[e2,Oper.upon_defer,d2]
    exact hrest
end
end Go.Proofs.YtabkhphoacmcdaaGreatDoor.Pvm
namespace Go.Proofs.YtabkhphoacmcdaaGreatDoor.Pvm
open Go Go.RowKit
def Kd.lob:Kd→Nat
 |.int k=>k.bits / 8
 |.bool=>1
 |.str=>16
 |.flt=>8
 |.sl _=>24
 |.pr a b=>a.lob+b.lob
 |.nil=>0
def Wf:(K:Kd)→K.T→Prop
 |.int k,x=>k.min≤x∧x≤k.max
 |.bool,_=>True
 |.str,x=>x.length≤140737488351232
 |.flt,x=>x<2 ^ 64
 |.sl e,x=>x.length*e.lob≤140737488351232∧∀ y∈x,Wf e y
 |.pr a b,x=>Wf a x.1∧Wf b x.2
 |.nil,_=>True
def readFs(ty:TypeId→Option TI)(f:TypeId→Kd→Bool): Nat→List (Nat×TypeId)→Kd→Bool
 |off,[(o,t)],K=>Nat.beq o off&&f t K&&(match ty t with|some ti=>Nat.beq ti.size K.sz|none=>false)
 |off,(o,t)::fs,.pr a b=>Nat.beq o off&&f t a&&(match ty t with|some ti=>Nat.beq ti.size a.sz|none=>false)&&readFs ty f (off+a.sz) fs b
 |_,_,_=>false
def readB(ty:TypeId→Option TI): Nat→TypeId→Kd→Bool
 |0,_,_=>false
 |n+1,t,K=>match ty t with
  |none=>false
  |some ti=>match ti.k,K with
   |.int k,.int k'=>decide (k=k')
   |.bool,.bool=>true
   |.str,.str=>true
   |.flt,.flt=>true
   |.slice,.sl e=>(match ty ti.el with|some ei=>Nat.blt 0 ei.size&&Nat.beq ei.size e.sz&&Nat.ble e.lob ei.bytes|none=>false)&&readB ty n ti.el e
   |.struct,K=>readFs ty (readB ty n) 0 ti.fs K&&Nat.beq ti.size K.sz
   |_,_=>false
section
variable {P:Program} {ty:TypeId→Option TI} {H:Type} {enc:TypeId×Value→H} {w:World} {spare:Nat→Bool} {held:Bool}
theorem TiOk.cellsOf{t:TypeId}{ti:TI}(h:TiOk P t ti): P.cellsOf t=ti.size:=by
 obtain⟨i,z,h1,h2,_⟩:=h.info
 simp[Program.cellsOf,h1,h2]
theorem TiOk.bytesOf{t:TypeId}{ti:TI}(h:TiOk P t ti): P.bytesOf t=ti.bytes:=by
 obtain⟨i,z,h1,_,h2,_⟩:=h.info
 simp[Program.bytesOf,h1,h2]
def ReadAt(P:Program)(enc:TypeId×Value→H)(w:World)(spare:Nat→Bool)(held:Bool)(t:TypeId)(K:Kd): Prop :=
 ∀(fuel:Nat) (cs:List Value) (d:DataW H) (ps:List MemPlace),DataW.trod enc P w 0 spare held fuel t cs=some (d,ps)→(∀ m∈DataW.weights P t d,m≤reachBytes) →
  ∃ x:K.T,RD w (fun _=>True) K x cs∧Wf K x
theorem wq168(T:TyOk P ty){f:TypeId→Kd→Bool}(hf:∀ t K,f t K=true→ReadAt P enc w spare held t K){n:Nat}{cs:List Value}:
 ∀(fl:List Field) (tfs:List (Nat×TypeId)) (off:Nat) (K:Kd) (xs:List (DataW H×List MemPlace)),fl.map (fun g=>(g.offset,g.type))=tfs→readFs ty f off tfs K=true →
  (∀(i:Nat) (g:Field),fl[i]? = some g→DataW.trod enc P w 0 spare held n g.type ((cs.drop g.offset).take (P.cellsOf g.type))=xs[i]?)→xs.length=fl.length →
  (∀ m∈DataW.weightsEach P (fl.map (·.type)) (xs.map (·.1)),m≤reachBytes)→cs.length=off+K.sz →
  ∃ x:K.T,RD w (fun _=>True) K x (cs.drop off)∧Wf K x
 |[],tfs,off,K,xs,ht,hr,_,_,_,_=>by subst ht;simp[readFs]at hr
 |g::fl,tfs,off,K,xs,ht,hr,hx,hl,hw,hc=>by
  cases xs with
  |nil=>simp at hl
  |cons x xs =>
   have h0:=hx 0 g (by simp)
   have key:∀ a:Kd,Nat.beq g.offset off=true→f g.type a=true→(match ty g.type with|some ti=>Nat.beq ti.size a.sz|none=>false)=true→a.sz≤cs.length-off →
    ∃ y:a.T,RD w (fun _=>True) a y ((cs.drop off).take a.sz)∧Wf a y:=by
    intro a h1 h2 h3 h4
    split at h3
    ·next ti hti =>
     have hsz:P.cellsOf g.type=a.sz:=by rw[(T _ _ hti).cellsOf];exact beqN.1 h3
     rw[beqN.1 h1,hsz]at h0
     obtain⟨d,ps⟩:=x
     refine hf _ _ h2 n _ d ps (by simpa using h0) fun m hm=>hw m ?_
     simp[DataW.weightsEach,hm]
    ·cases h3
   cases fl with
   |nil =>
    subst ht
    simp only[List.map_cons,List.map_nil,readFs,Bool.and_eq_true]at hr
    obtain⟨⟨h1,h2⟩,h3⟩:=hr
    obtain⟨y,hy1,hy2⟩:=key K h1 h2 h3 (by omega)
    refine⟨y,?_,hy2⟩
    rw[List.take_of_length_le (by rw[List.length_drop];omega)]at hy1
    exact hy1
   |cons g2 fl =>
    subst ht
    cases K with
    |pr a b =>
     simp only[List.map_cons,readFs,Bool.and_eq_true]at hr
     obtain⟨⟨⟨h1,h2⟩,h3⟩,h4⟩:=hr
     rw[Kd.sz]at hc
     obtain⟨y,hy1,hy2⟩:=key a h1 h2 h3 (by omega)
     obtain⟨z,hz1,hz2⟩:=wq168 T hf (n:=n) (g2::fl) _ (off+a.sz) b xs rfl h4 (fun i g' hg'=>by simpa using hx (i+1) g' (by simpa using hg')) (by simpa using hl)
      (fun m hm=>hw m (by simp[DataW.weightsEach]at hm ⊢;exact .inr hm)) (by omega)
     refine⟨(y,z),⟨(cs.drop off).take a.sz,(cs.drop off).drop a.sz,(List.take_append_drop _ _).symm,hy1,?_⟩,hy2,hz2⟩
     rw[List.drop_drop];exact hz1
    |_=>simp[readFs]at hr
theorem wqns{e:TypeId}: ∀ {l:List (DataW H)} {d:DataW H},d∈l→∀ m∈DataW.weights P e d,m∈DataW.weightsAll P e l
 |a::r,d,h,m,hm=>by
  rw[DataW.weightsAll]
  rcases List.mem_cons.1 h with rfl|h
  ·exact List.mem_append_left _ hm
  ·exact List.mem_append_right _ (wqns h m hm)
 |[],d,h,m,hm=>by cases h
theorem wq1ch{P:Program}{w:World}{a:Addr}{n:Nat}{cs:List Value}(h:w.cells? 0 a n=some cs): cs.length=n∧∀(j:Nat) (u:Value),cs[j]? = some u→w.cell? (a.add j)=some u:=by
 unfold World.cells? at h
 rw[if_pos (Nat.zero_le _)]at h
 have key:∀(l:List Nat) (cs:List Value),l.mapM (fun i=>w.cell? (a.add i))=some cs→cs.length=l.length∧∀(j:Nat) (u:Value),cs[j]? = some u→∃ i,l[j]? = some i∧w.cell? (a.add i)=some u:=by
  intro l
  induction l with
  |nil=>intro cs h;simp at h;subst h;exact⟨rfl,fun j u hj=>by simp at hj⟩
  |cons i l ih =>
   intro cs h
   rw[List.mapM_cons]at h
   cases hc:w.cell? (a.add i)with
   |none=>rw[hc]at h;simp at h
   |some v =>
    cases hl:l.mapM (fun i=>w.cell? (a.add i))with
    |none=>rw[hc,hl]at h;simp at h
    |some r =>
     rw[hc,hl]at h
     simp at h
     subst h
     obtain⟨h1,h2⟩:=ih r hl
     refine⟨by simp[h1],fun j u hj => ?_⟩
     cases j with
     |zero=>simp at hj;subst hj;exact⟨i,by simp,hc⟩
     |succ j=>obtain⟨i',h3,h4⟩:=h2 j u (by simpa using hj);exact⟨i',by simpa using h3,h4⟩
 obtain⟨h1,h2⟩:=key _ _ h
 refine⟨by simpa using h1,fun j u hj => ?_⟩
 obtain⟨i,h3,h4⟩:=h2 j u hj
 have hlt:=(List.getElem?_eq_some_iff.1 h3).1
 have:i=j:=by
  obtain⟨_,e⟩:=List.getElem?_eq_some_iff.1 h3
  simpa using e.symm
 subst this
 exact h4
theorem wq19w(T:TyOk P ty): ∀(n:Nat) (t:TypeId) (K:Kd),readB ty n t K=true→ReadAt P enc w spare held t K
 |0,t,K,h=>by simp[readB]at h
 |n+1,t,K,h=>by
  intro fuel cs d ps ht hw
  rw[readB]at h
  split at h
  ·cases h
  ·next ti hti =>
   have hT:=T _ _ hti
   obtain⟨td,hu,hk⟩:=hT.kind
   split at h
   ·next k k' hk1 =>
    have:k=k':=by simpa using h
    subst this
    rw[hk1]at hk;simp only at hk;subst hk
    obtain⟨m,rfl,_,hwf⟩:=DataW.trod_int hu ht
    simp only[Lit.wf,Bool.and_eq_true,decide_eq_true_eq]at hwf
    exact⟨m,rfl,hwf⟩
   ·next hk1 =>
    rw[hk1]at hk;simp only at hk;subst hk
    obtain⟨b,rfl,_⟩:=DataW.trod_bool hu ht
    exact⟨b,rfl,trivial⟩
   ·next hk1 =>
    rw[hk1]at hk;simp only at hk;subst hk
    obtain⟨s,rfl,hx,_⟩:=DataW.trod_string hu ht
    cases hx
    refine⟨s.data.toList,rfl,?_⟩
    have:=hw _ (by rw[DataW.weights];exact List.mem_cons_self)
    simpa [Wf,reachBytes]using this
   ·next hk1 =>
    rw[hk1]at hk;simp only at hk;subst hk
    cases fuel with
    |zero=>simp[DataW.trod]at ht
    |succ m =>
     unfold DataW.trod at ht
     rw[hu]at ht
     split at ht
     case h_3 k k' b e1 =>
      simp only[Option.some.injEq,TypeDesc.float.injEq]at e1
      subst e1
      split at ht
      ·next hh =>
       obtain⟨rfl,hwf⟩:=hh
       refine⟨b,rfl,?_⟩
       simpa [Lit.wf,Wf]using hwf
      ·cases ht
     all_goals simp_all
   ·next e hk1 =>
    rw[hk1]at hk;simp only at hk;subst hk
    simp only[Bool.and_eq_true]at h
    obtain⟨h1,h2⟩:=h
    split at h1
    ·next ei hei =>
     simp only[Bool.and_eq_true]at h1
     obtain⟨⟨h3,h4⟩,h5⟩:=h1
     have h3:0<ei.size:=Nat.le_of_ble_eq_true h3
     have h4:=beqN.1 h4
     have h5:=Nat.le_of_ble_eq_true h5
     have hE:=T _ _ hei
     rcases DataW.trod_slice hu ht with⟨rfl,_⟩|⟨a,len,cap,elems,rest,m,rfl,rfl,hx,_,hlc,hcm,hel,hat,_⟩
     ·exact⟨[],⟨none,0,rfl,Nat.le_refl _,.inl rfl⟩,by simp,fun y hy=>by cases hy⟩
     ·cases hx
      rw[DataW.weights,hu]at hw
      simp only at hw
      have hlen:=hw _ List.mem_cons_self
      rw[List.length_map,List.length_map,hE.bytesOf]at hlen
      rw[hE.cellsOf,h4]at hat
      have ih:=wq19w T n _ _ h2
      have each:∀ i,i<len→∃(y:e.T) (c:List Value),RD w (fun _=>True) e y c∧Wf e y∧∀(j:Nat) (u:Value),c[j]? = some u→w.cell? (a.add (i*e.sz+j))=some u:=by
       intro i hi
       have h6:=hat i hi
       have h7:elems[i]? = some elems[i]:=by simp[hel,hi]
       rw[h7]at h6
       cases hc:w.cells? 0 (a.add (i*e.sz)) e.sz with
       |none=>rw[hc]at h6;simp at h6
       |some c =>
        rw[hc,Option.bind_some]at h6
        obtain⟨y,hy1,hy2⟩:=ih m c elems[i].1 elems[i].2 (by rw[h6]) (fun q hq=>hw q (List.mem_cons_of_mem _ (List.mem_append_left _ (wqns (List.mem_map.2 ⟨elems[i],List.getElem_mem _,rfl⟩) q hq))))
        obtain⟨_,hcell⟩:=wq1ch (P:=P) hc
        refine⟨y,c,hy1,hy2,fun j u hj => ?_⟩
        rw[←Addr.add_add];exact hcell j u hj
      have all:∃ l:List e.T,l.length=len∧(∀ y∈l,Wf e y)∧∀(i:Nat) (y:e.T),l[i]? = some y→∃ c,RD w (fun _=>True) e y c∧∀(j:Nat) (u:Value),c[j]? = some u→w.cell? (a.add (i*e.sz+j))=some u:=by
       have key:∀ k,k≤len→∃ l:List e.T,l.length=k∧(∀ y∈l,Wf e y)∧∀(i:Nat) (y:e.T),l[i]? = some y→∃ c,RD w (fun _=>True) e y c∧∀(j:Nat) (u:Value),c[j]? = some u→w.cell? (a.add (i*e.sz+j))=some u:=by
        intro k
        induction k with
        |zero=>intro _;exact⟨[],rfl,fun y hy=>(by cases hy),fun i y hi=>by simp at hi⟩
        |succ k ihk =>
         intro hk
         obtain⟨l,hl1,hl2,hl3⟩:=ihk (by omega)
         obtain⟨y,c,e1,e2,e3⟩:=each k (by omega)
         refine⟨l++[y],by simp[hl1],fun z hz => ?_,fun i z hz => ?_⟩
         ·rcases List.mem_append.1 hz with hz|hz
          ·exact hl2 z hz
          ·simp at hz;subst hz;exact e2
         ·by_cases hi:i<l.length
          ·rw[List.getElem?_append_left hi]at hz;exact hl3 i z hz
          ·rw[List.getElem?_append_right (by omega)]at hz
           have hi2:i=k:=by
            have:=(List.getElem?_eq_some_iff.1 hz).1
            simp at this;omega
           subst hi2
           simp[hl1]at hz;subst hz
           exact⟨c,e1,e3⟩
       exact key len (Nat.le_refl _)
      obtain⟨l,hl1,hl2,hl3⟩:=all
      refine⟨l,⟨some a,cap,by rw[hl1],by omega,?_⟩,?_,hl2⟩
      ·by_cases hnil:l=[]
       ·exact .inl hnil
       ·refine .inr ⟨a,rfl,trivial,?_,hl3⟩
        have hpos:0<l.length:=List.length_pos_iff.2 hnil
        obtain⟨c,hc,hu'⟩:=hl3 0 l[0] (by simp)
        have hcl:=hc.len
        have h0c:0<c.length:=by omega
        have:=hu' 0 c[0] (by simp[h0c])
        simp only[Nat.zero_mul,Nat.add_zero,Addr.add_zero']at this
        refine Classical.byContradiction fun hno => ?_
        simp[World.cell?,Array.getElem?_eq_none (Nat.le_of_not_lt hno)]at this
      ·rw[hl1,←hel]
       refine Nat.le_trans (Nat.mul_le_mul_left _ h5) ?_
       refine Nat.le_trans (Nat.mul_le_mul_right _ (Nat.le_add_right _ rest.length)) ?_
       simpa [reachBytes]using hlen
    ·cases h1
   ·next hk1 =>
    rw[hk1]at hk;simp only at hk
    obtain⟨fs,rfl,hfs,_⟩:=hk
    simp only[Bool.and_eq_true]at h
    obtain⟨h1,h2⟩:=h
    obtain⟨xs,m,rfl,hx,hcl,hxl,hat⟩:=DataW.trod_struct hu ht
    cases hx
    rw[DataW.weights,hu]at hw
    simp only at hw
    rw[hT.cellsOf,beqN.1 h2]at hcl
    have:=wq168 (enc:=enc) (w:=w) (spare:=spare) (held:=held) T (f:=readB ty n) (fun t K h=>wq19w T n t K h) (n:=m) (cs:=cs) fs.toList ti.fs 0 _ xs hfs h1 (fun i g hg=>hat i g (by simpa using hg)) (by simpa using hxl) hw (by omega)
    rwa [List.drop_zero]at this
   ·cases h
theorem okT{h:Heap}{G:Gh}(hh:∀ n,h n=none)(hX:∀ b,¬ G.X b){b:Nat}: okB h G b:=⟨fun n hn=>by simp[blkOf,hh n]at hn,hX b⟩
theorem wq19x (T:TyOk P ty) {n base:Nat} {r:Reach} {t:TypeId} {K:Kd} (hr:readB ty n t K=true) (hs:(match ty t with|some ti=>(match ti.k with | .struct=>false|_=>true)|none=>false)=true) {v:Value} {d:DataW H} {p:List MemPlace} (hval:Value.okWide P w r base t v) (hd:DataW.Trod enc P w 0 spare held t v d p)
 (hw:∀ m∈DataW.weights P t d,m≤reachBytes) {h:Heap} {G:Gh} (hh:∀ n,h n=none) (hX:∀ b,¬ G.X b):∃ x:K.T,Wf K x∧RV h G w (.v K x) v:=by
 obtain⟨fuel,hf⟩:=hd
 obtain⟨x,h1,h2⟩:=wq19w T n t K hr fuel _ d p hf hw
 refine⟨x,h2,?_⟩
 have hc:v.cells.toList=[v]:=by
  split at hs
  ·next ti hti =>
   obtain⟨td,hu,hk⟩:=(T _ _ hti).kind
   rw[readB.eq_def]at hr
   cases n with
   |zero=>simp at hr
   |succ n =>
    simp only[hti]at hr
    split at hr
    ·next hk1=>rw[hk1]at hk;simp only at hk;subst hk;obtain⟨m,rfl⟩:=WideShapes.okWide_int hu hval;rfl
    ·next hk1=>rw[hk1]at hk;simp only at hk;subst hk;simp only[Value.okWide,hu,Cell.okWide]at hval;cases v<;>simp_all [Cell.ok,Value.cells]
    ·next hk1=>rw[hk1]at hk;simp only at hk;subst hk;obtain⟨m,rfl⟩:=WideShapes.okWide_string hu hval;rfl
    ·next hk1=>rw[hk1]at hk;simp only at hk;subst hk;simp only[Value.okWide,hu,Cell.okWide]at hval;cases v<;>simp_all [Cell.ok,Value.cells]
    ·next hk1=>rw[hk1]at hk;simp only at hk;subst hk;obtain⟨a,l,c,rfl⟩:=WideShapes.okWide_slice hu hval;rfl
    ·next hk1=>rw[hk1]at hs;cases hs
    ·cases hr
  ·cases hs
 show RD w (okB h G) K x [v]
 rw[←hc]
 exact h1.mono fun b _ _=>⟨okT hh hX,rfl⟩
def lawK:Out→Option Bool
 |.ret [.v .bool y] []=>some y
 |_=>none
def G0:Gh:=⟨fun _=>0,fun _ => .nilIface,fun _=>False⟩
theorem enters{f:FuncId}{fn:Func}{c:Code}(hfn:P.funcs[f]? = some fn)(hb:fn.body=some c)(hname:(fn.name == "runtime.NumGoroutine")=false)(args:Array Value)(w:World): (callFunc f args).run P w = .ok (.enter f args) w:=by
 have hn2:¬ fn.name = "runtime.NumGoroutine" := by simpa using hname
 simp[callFunc,program,Sem.run,hfn,hn2,hb]
theorem wq169{f:FuncId}{fn:Func}{c:Code}(hfn:P.funcs[f]? = some fn)(hb:fn.body=some c)(hname:(fn.name == "runtime.NumGoroutine")=false){ps:List PV}{b:Bool}(h:DoesTo P f ps [] fun out=>lawK out=some b){vals:List Value}(hv:RVs (mkH []) G0 w ps vals):
 Calls P f vals.toArray w fun e w'=>e = .returned (.bool b)∧Below w.heap.size w w':=by
 have:=h G0 w vals hv (fun n o hn=>by cases hn) ⟨fun n m b hn=>by simp[blkOf,mkH,look]at hn,fun n b hn=>by simp[blkOf,mkH,look]at hn,fun b hb=>hb.elim⟩
 unfold Does at this
 rw[enters hfn hb hname]at this
 refine Calls.mono this fun e w' hh => ?_
 obtain⟨out,ho,G',hout,F⟩:=hh
 unfold lawK at ho
 split at ho
 ·cases ho
  obtain⟨v,rfl,hv⟩:=hout
  have hv:RD _ _ .bool b [v]:=hv
  simp only[RD,List.cons.injEq,and_true]at hv
  subst hv
  exact⟨rfl,F.os,F.tape,F.out,F.grow,fun k hk=>F.blk k hk fun n hn=>by simp[blkOf,mkH,look]at hn⟩
 ·cases ho
theorem wq16a{G:Gh}{w w':World}(b:Below w.heap.size w w'): Fin [] [] G w G w' :=
 ⟨fun n o h=>(by cases h),fun n m b h=>(by simp[blkOf,mkH,look]at h),fun n t cs h=>(by cases h),fun n ag V es h=>(by cases h),fun k hk _=>b.block k hk,rfl,fun n b h=>(by simp[blkOf,mkH,look]at h),b.size,b.os,b.tape,b.output⟩
theorem wq19y{ts:List TypeId}{ds:List (DataW H)}{vt:List TypeId}{gs:List (DataW H)}(h:(DataW.weightsEach P (ts++vt) (ds++gs)).all (· ≤ reachBytes)=true): ∀(i:Nat) (t:TypeId) (d:DataW H),ts[i]? = some t→ds[i]? = some d→∀ m∈DataW.weights P t d,m≤reachBytes:=by
 have key:∀(ts:List TypeId) (ds:List (DataW H)),(∀ m∈DataW.weightsEach P (ts++vt) (ds++gs),m≤reachBytes)→∀(i:Nat) (t:TypeId) (d:DataW H),ts[i]? = some t→ds[i]? = some d→∀ m∈DataW.weights P t d,m≤reachBytes:=by
  intro ts
  induction ts with
  |nil=>intro ds _ i t d ht;simp at ht
  |cons t0 ts ih =>
   intro ds hw i t d ht hd m hm
   cases ds with
   |nil=>simp at hd
   |cons d0 ds =>
    simp only[List.cons_append,DataW.weightsEach]at hw
    cases i with
    |zero=>simp at ht hd;subst ht hd;exact hw m (List.mem_append_left _ hm)
    |succ i=>exact ih ds (fun m hm=>hw m (List.mem_append_right _ hm)) i t d (by simpa using ht) (by simpa using hd) m hm
 exact key ts ds (by simpa using h)
end
end Go.Proofs.YtabkhphoacmcdaaGreatDoor.Pvm
set_option maxRecDepth 100000
namespace Go.Proofs.YtabkhphoacmcdaaGreatDoor.Pvm
open Go Go.Proofs
abbrev kdT7:Kd:=(.pr (.int .i64) (.pr (.int .i64) (.pr .bool (.int .u8))))
abbrev kdT26:Kd:=(.pr (.sl (.pr .str (.sl (.int .i64)))) (.sl (.pr .str (.pr .str (.pr .bool (.pr (.int .i64) (.pr (.int .i64) (.pr .bool (.pr (.pr .str (.pr (.int .i64) (.pr (.int .i64) (.pr .flt (.pr .bool .bool))))) (.sl (.int .i64)))))))))))
abbrev kdT37:Kd:=(.sl (.pr (.int .i64) (.pr (.int .i64) (.pr .str (.pr .bool (.pr (.sl .str) (.sl (.int .i64))))))))
abbrev kdT43:Kd:=(.pr .str (.pr (.int .i64) (.int .i64)))
abbrev kdT54:Kd:=(.pr .str (.pr (.int .i64) (.pr (.int .i64) (.pr .flt (.pr .bool .bool)))))
abbrev kdT56:Kd:=(.pr .str (.pr .str (.pr .bool (.pr (.int .i64) (.pr (.int .i64) (.pr .bool (.pr (.pr .str (.pr (.int .i64) (.pr (.int .i64) (.pr .flt (.pr .bool .bool))))) (.sl (.int .i64)))))))))
abbrev kdT72:Kd:=(.pr (.int .i64) (.pr (.int .i64) (.pr .str (.pr .bool (.pr (.sl .str) (.sl (.int .i64)))))))
abbrev kdT78:Kd:=(.pr (.sl (.pr (.int .i64) (.pr (.int .i64) (.pr .str (.pr .bool (.pr (.sl .str) (.sl (.int .i64)))))))) (.pr (.pr (.sl (.pr .str (.sl (.int .i64)))) (.sl (.pr .str (.pr .str (.pr .bool (.pr (.int .i64) (.pr (.int .i64) (.pr .bool (.pr (.pr .str (.pr (.int .i64) (.pr (.int .i64) (.pr .flt (.pr .bool .bool))))) (.sl (.int .i64))))))))))) .flt))
abbrev kdT81:Kd:=(.pr (.sl (.pr (.int .i64) (.pr (.int .i64) (.pr .str (.pr .bool (.pr (.sl .str) (.sl (.int .i64)))))))) (.pr .flt (.pr (.pr (.sl (.pr .str (.sl (.int .i64)))) (.sl (.pr .str (.pr .str (.pr .bool (.pr (.int .i64) (.pr (.int .i64) (.pr .bool (.pr (.pr .str (.pr (.int .i64) (.pr (.int .i64) (.pr .flt (.pr .bool .bool))))) (.sl (.int .i64))))))))))) (.pr (.int .i64) (.int .i64)))))
abbrev kdT150:Kd:=(.pr (.int .i64) (.pr (.int .i64) .str))
abbrev kdT154:Kd:=(.pr (.sl (.pr (.int .i64) (.pr (.int .i64) (.pr (.int .i64) (.pr .str .bool))))) (.sl (.pr (.int .i64) (.pr (.int .i64) (.pr .str (.pr .bool (.pr (.sl .str) (.sl (.int .i64)))))))))
abbrev kdT156:Kd:=(.pr (.int .i64) (.pr (.int .i64) (.pr (.int .i64) (.pr .str .bool))))
abbrev kdT159:Kd:=(.pr (.sl (.pr (.int .i64) (.pr (.int .i64) (.pr (.int .i64) (.pr .str .bool))))) (.pr (.int .i64) (.pr (.sl (.pr (.int .i64) (.pr (.int .i64) (.pr .str (.pr .bool (.pr (.sl .str) (.sl (.int .i64)))))))) (.pr (.int .i64) (.int .i64)))))
abbrev kdT199:Kd:=(.pr (.pr (.int .i64) (.pr (.int .i64) .str)) (.pr (.int .i64) (.sl (.pr (.int .i64) (.pr (.int .i64) (.pr (.int .i64) (.pr .str .bool)))))))
abbrev dT150:Type:=(Int×(Int×(List UInt8)))
abbrev dT156:Type:=(Int×(Int×(Int×((List UInt8)×Bool))))
abbrev dT54:Type:=((List UInt8)×(Int×(Int×(Nat×(Bool×Bool)))))
abbrev dT72:Type:=(Int×(Int×((List UInt8)×(Bool×((List (List UInt8))×(List Int))))))
abbrev dT37:Type:=(List dT72)
abbrev dT56:Type:=((List UInt8)×((List UInt8)×(Bool×(Int×(Int×(Bool×(dT54×(List Int))))))))
theorem mixed:Tryz.prog.follows .mixedOrders=true:=by kernel_rfl
def tyL:List (Nat×TI):=[(1,⟨.other,1,8,none,[.un],[],0,false⟩),(2,⟨.int .i64,1,8,some kI,[zI],[],0,false⟩),(3,⟨.int .i64,1,8,some kI,[zI],[],0,false⟩),(4,⟨.bool,1,1,some .bool,[zB],[],0,false⟩),(5,⟨.int .u8,1,1,some (.int .u8),[.v (.int .u8) 0],[],0,false⟩),(6,⟨.int .u8,1,1,some (.int .u8),[.v (.int .u8) 0],[],0,false⟩),(7,⟨.struct,4,24,some kdT7,[zI,zI,zB,.v (.int .u8) 0],[(0,2),(1,3),(2,4),(3,6)],0,true⟩),(8,⟨.struct,4,24,some kdT7,[zI,zI,zB,.v (.int .u8) 0],[(0,2),(1,3),(2,4),(3,6)],0,true⟩),(9,⟨.str,1,16,some .str,[zS],[],0,false⟩),(10,⟨.str,1,16,some .str,[zS],[],0,false⟩),(11,⟨.str,1,16,some .str,[zS],[],0,false⟩),(12,⟨.int .u64,1,8,some (.int .u64),[.v (.int .u64) 0],[],0,false⟩),(13,⟨.struct,2,24,some (.pr .str (.int .u64)),[zS,.v (.int .u64) 0],[(0,9),(1,12)],0,false⟩),(14,⟨.struct,2,24,some (.pr .str (.int .u64)),[zS,.v (.int .u64) 0],[(0,9),(1,12)],0,false⟩),(15,⟨.ptr,1,8,none,[.nilptr],[],260,false⟩),(16,⟨.ptr,1,8,none,[.nilptr],[],263,false⟩),(17,⟨.ptr,1,8,none,[.nilptr],[],270,false⟩),(18,⟨.struct,1,8,none,[.nilptr],[(0,17)],0,false⟩),(19,⟨.struct,1,8,none,[.nilptr],[(0,17)],0,false⟩),(20,⟨.iface,1,16,none,[.nilif],[],0,false⟩),(21,⟨.int .i32,1,4,some (.int .i32),[.v (.int .i32) 0],[],0,false⟩),(22,⟨.slice,1,24,some (.sl (.int .u8)),[.nilsl],[],5,false⟩),(23,⟨.other,1,8,none,[.un],[],0,false⟩),(24,⟨.slice,1,24,some (.sl (.pr .str (.sl kI))),[.nilsl],[],64,false⟩),(25,⟨.slice,1,24,some (.sl kdT56),[.nilsl],[],57,false⟩),(26,⟨.struct,2,48,some kdT26,[.nilsl,.nilsl],[(0,24),(1,25)],0,false⟩),(27,⟨.struct,2,48,some kdT26,[.nilsl,.nilsl],[(0,24),(1,25)],0,false⟩),(28,⟨.struct,2,16,some (.pr kI kI),[zI,zI],[(0,3),(1,3)],0,true⟩),(29,⟨.struct,2,16,some (.pr kI kI),[zI,zI],[(0,3),(1,3)],0,true⟩),(31,⟨.other,1,8,none,[.un],[],0,false⟩),(32,⟨.other,1,8,none,[.un],[],0,false⟩),(33,⟨.int .i64,1,8,some kI,[zI],[],0,false⟩),(34,⟨.other,1,8,none,[.un],[],0,false⟩),(35,⟨.other,1,8,none,[.un],[],0,false⟩),(36,⟨.slice,1,24,some kdT37,[.nilsl],[],73,false⟩),(37,⟨.struct,1,24,some kdT37,[.nilsl],[(0,36)],0,false⟩),(38,⟨.struct,1,24,some kdT37,[.nilsl],[(0,36)],0,false⟩),(39,⟨.other,1,8,none,[.un],[],0,false⟩),(40,⟨.other,1,8,none,[.un],[],0,false⟩),(41,⟨.slice,1,24,some (.sl kdT43),[.nilsl],[],44,false⟩),(42,⟨.other,1,8,none,[.un],[],0,false⟩),(43,⟨.struct,3,32,some kdT43,[zS,zI,zI],[(0,9),(1,3),(2,3)],0,true⟩),(44,⟨.struct,3,32,some kdT43,[zS,zI,zI],[(0,9),(1,3),(2,3)],0,true⟩),(45,⟨.other,1,8,none,[.un],[],0,false⟩),(46,⟨.other,1,8,none,[.un],[],0,false⟩),(47,⟨.other,1,8,none,[.un],[],0,false⟩),(48,⟨.other,1,8,none,[.un],[],0,false⟩),(49,⟨.other,1,8,none,[.un],[],0,false⟩),(50,⟨.slice,1,24,some (.sl kI),[.nilsl],[],3,false⟩),(51,⟨.other,1,8,none,[.un],[],0,false⟩),(52,⟨.ptr,1,8,none,[.nilptr],[],57,false⟩),(53,⟨.flt,1,8,some .flt,[.v .flt 0],[],0,false⟩),(54,⟨.struct,6,48,some kdT54,[zS,zI,zI,.v .flt 0,zB,zB],[(0,9),(1,3),(2,3),(3,53),(4,4),(5,4)],0,true⟩),(55,⟨.struct,6,48,some kdT54,[zS,zI,zI,.v .flt 0,zB,zB],[(0,9),(1,3),(2,3),(3,53),(4,4),(5,4)],0,true⟩),(56,⟨.struct,13,136,some kdT56,[zS,zS,zB,zI,zI,zB,zS,zI,zI,.v .flt 0,zB,zB,.nilsl],[(0,9),(1,9),(2,4),(3,3),(4,3),(5,4),(6,55),(12,50)],0,false⟩),(57,⟨.struct,13,136,some kdT56,[zS,zS,zB,zI,zI,zB,zS,zI,zI,.v .flt 0,zB,zB,.nilsl],[(0,9),(1,9),(2,4),(3,3),(4,3),(5,4),(6,55),(12,50)],0,false⟩),(58,⟨.other,1,8,none,[.un],[],0,false⟩),(59,⟨.slice,1,24,some (.sl .str),[.nilsl],[],9,false⟩),(60,⟨.other,1,8,none,[.un],[],0,false⟩),(61,⟨.other,1,8,none,[.un],[],0,false⟩),(62,⟨.other,1,8,none,[.un],[],0,false⟩),(63,⟨.struct,2,40,some (.pr .str (.sl kI)),[zS,.nilsl],[(0,9),(1,50)],0,false⟩),(64,⟨.struct,2,40,some (.pr .str (.sl kI)),[zS,.nilsl],[(0,9),(1,50)],0,false⟩),(66,⟨.other,1,8,none,[.un],[],0,false⟩),(67,⟨.other,1,8,none,[.un],[],0,false⟩),(68,⟨.other,1,8,none,[.un],[],0,false⟩),(69,⟨.map,1,8,none,[.un],[],4,false⟩),(70,⟨.other,1,8,none,[.un],[],0,false⟩),(71,⟨.other,1,8,none,[.un],[],0,false⟩),(72,⟨.struct,6,88,some kdT72,[zI,zI,zS,zB,.nilsl,.nilsl],[(0,3),(1,3),(2,9),(3,4),(4,59),(5,50)],0,false⟩),(73,⟨.struct,6,88,some kdT72,[zI,zI,zS,zB,.nilsl,.nilsl],[(0,3),(1,3),(2,9),(3,4),(4,59),(5,50)],0,false⟩),(74,⟨.other,1,8,none,[.un],[],0,false⟩),(75,⟨.ptr,1,8,none,[.nilptr],[],79,false⟩),(76,⟨.struct,1,24,some kdT37,[.nilsl],[(0,38)],0,false⟩),(77,⟨.struct,1,24,some kdT37,[.nilsl],[(0,38)],0,false⟩),(78,⟨.struct,4,80,some kdT78,[.nilsl,.nilsl,.nilsl,.v .flt 0],[(0,77),(1,27),(3,53)],0,false⟩),(79,⟨.struct,4,80,some kdT78,[.nilsl,.nilsl,.nilsl,.v .flt 0],[(0,77),(1,27),(3,53)],0,false⟩),(80,⟨.ptr,1,8,none,[.nilptr],[],82,false⟩),(81,⟨.struct,6,96,some kdT81,[.nilsl,.v .flt 0,.nilsl,.nilsl,zI,zI],[(0,38),(1,53),(2,27),(4,29)],0,false⟩),(82,⟨.struct,6,96,some kdT81,[.nilsl,.v .flt 0,.nilsl,.nilsl,zI,zI],[(0,38),(1,53),(2,27),(4,29)],0,false⟩),(83,⟨.int .u64,1,8,some (.int .u64),[.v (.int .u64) 0],[],0,false⟩),(85,⟨.other,1,8,none,[.un],[],0,false⟩),(86,⟨.other,1,8,none,[.un],[],0,false⟩),(87,⟨.ptr,1,8,none,[.nilptr],[],89,false⟩),(88,⟨.struct,2,32,none,[.nilptr,.nilsl],[(0,87),(1,22)],0,false⟩),(89,⟨.struct,2,32,none,[.nilptr,.nilsl],[(0,87),(1,22)],0,false⟩),(90,⟨.other,1,8,none,[.un],[],0,false⟩),(91,⟨.iface,1,16,none,[.nilif],[],0,false⟩),(92,⟨.iface,1,16,none,[.nilif],[],0,false⟩),(94,⟨.other,1,8,none,[.un],[],0,false⟩),(95,⟨.other,1,8,none,[.un],[],0,false⟩),(96,⟨.other,1,8,none,[.un],[],0,false⟩),(97,⟨.other,1,8,none,[.un],[],0,false⟩),(98,⟨.other,1,8,none,[.un],[],0,false⟩),(99,⟨.other,1,8,none,[.un],[],0,false⟩),(100,⟨.other,1,8,none,[.un],[],0,false⟩),(101,⟨.other,1,8,none,[.un],[],0,false⟩),(102,⟨.ptr,1,8,none,[.nilptr],[],104,false⟩),(103,⟨.struct,2,32,some (.pr (.sl kI) kI),[.nilsl,zI],[(0,50),(1,3)],0,false⟩),(104,⟨.struct,2,32,some (.pr (.sl kI) kI),[.nilsl,zI],[(0,50),(1,3)],0,false⟩),(105,⟨.other,1,8,none,[.un],[],0,false⟩),(106,⟨.ptr,1,8,none,[.nilptr],[],27,false⟩),(107,⟨.slice,1,24,some (.sl kdT150),[.nilsl],[],151,false⟩),(109,⟨.other,1,8,none,[.un],[],0,false⟩),(110,⟨.slice,1,24,some (.sl kdT156),[.nilsl],[],157,false⟩),(112,⟨.other,1,8,none,[.un],[],0,false⟩),(113,⟨.other,1,8,none,[.un],[],0,false⟩),(114,⟨.other,1,8,none,[.un],[],0,false⟩),(115,⟨.other,1,8,none,[.un],[],0,false⟩),(116,⟨.other,1,8,none,[.un],[],0,false⟩),(117,⟨.other,1,8,none,[.un],[],0,false⟩),(118,⟨.other,1,8,none,[.un],[],0,false⟩),(119,⟨.other,1,8,none,[.un],[],0,false⟩),(121,⟨.other,1,8,none,[.un],[],0,false⟩),(122,⟨.other,1,8,none,[.un],[],0,false⟩),(123,⟨.other,1,8,none,[.un],[],0,false⟩),(124,⟨.other,1,8,none,[.un],[],0,false⟩),(125,⟨.other,1,8,none,[.un],[],0,false⟩),(126,⟨.other,1,8,none,[.un],[],0,false⟩),(127,⟨.other,1,8,none,[.un],[],0,false⟩),(129,⟨.other,1,8,none,[.un],[],0,false⟩),(131,⟨.other,1,8,none,[.un],[],0,false⟩),(132,⟨.other,1,8,none,[.un],[],0,false⟩),(133,⟨.other,1,8,none,[.un],[],0,false⟩),(134,⟨.int .u32,1,4,some (.int .u32),[.v (.int .u32) 0],[],0,false⟩),(136,⟨.other,1,8,none,[.un],[],0,false⟩),(137,⟨.int .u64,1,8,some (.int .u64),[.v (.int .u64) 0],[],0,false⟩),(140,⟨.ptr,1,8,none,[.nilptr],[],5,false⟩),(143,⟨.slice,1,24,some (.sl (.sl (.int .u8))),[.nilsl],[],22,false⟩),(146,⟨.other,1,8,none,[.un],[],0,false⟩),(149,⟨.other,1,8,none,[.un],[],0,false⟩),(151,⟨.struct,3,32,some kdT150,[zI,zI,zS],[(0,3),(1,3),(2,9)],0,true⟩),(153,⟨.ptr,1,8,none,[.nilptr],[],155,false⟩),(155,⟨.struct,2,48,some kdT154,[.nilsl,.nilsl],[(0,110),(1,38)],0,false⟩),(157,⟨.struct,5,48,some kdT156,[zI,zI,zI,zS,zB],[(0,3),(1,3),(2,3),(3,9),(4,4)],0,true⟩),(158,⟨.ptr,1,8,none,[.nilptr],[],160,false⟩),(160,⟨.struct,5,72,some kdT159,[.nilsl,zI,.nilsl,zI,zI],[(0,110),(1,3),(2,36),(3,29)],0,false⟩),(178,⟨.other,1,8,none,[.un],[],0,false⟩),(196,⟨.ptr,1,8,none,[.nilptr],[],192,false⟩),(198,⟨.ptr,1,8,none,[.nilptr],[],200,false⟩),(200,⟨.struct,5,64,some kdT199,[zI,zI,zS,zI,.nilsl],[(0,151),(3,3),(4,110)],0,false⟩),(205,⟨.other,1,8,none,[.un],[],0,false⟩),(224,⟨.ptr,1,8,none,[.nilptr],[],73,false⟩),(260,⟨.struct,4,40,none,[.nilptr,.nilptr,.nilptr,zS],[(0,17),(1,17),(2,17),(3,9)],0,false⟩),(263,⟨.struct,0,0,none,[],[(0,261)],0,false⟩),(264,⟨.int .u8,1,1,some (.int .u8),[.v (.int .u8) 0],[],0,false⟩),(265,⟨.int .u8,1,1,some (.int .u8),[.v (.int .u8) 0],[],0,false⟩),(266,⟨.other,1,8,none,[.un],[],0,false⟩),(267,⟨.int .i32,1,4,some (.int .i32),[.v (.int .i32) 0],[],0,false⟩),(268,⟨.int .i32,1,4,some (.int .i32),[.v (.int .i32) 0],[],0,false⟩),(270,⟨.struct,11,48,none,[.v (.int .u64) 0,.v (.int .u64) 0,.v (.int .u32) 0,.v (.int .u8) 0,.v (.int .u8) 0,.v (.int .u8) 0,.v (.int .u8) 0,.un,.nilptr,.v (.int .i32) 0,.v (.int .i32) 0],[(0,12),(1,12),(2,134),(3,264),(4,5),(5,5),(6,265),(7,266),(8,140),(9,267),(10,268)],0,false⟩)]
def tyT:TypeId→Option TI:=look tyL
theorem tyT_ok:TyOk Tryz.prog tyT:=wq1ej (by kernel_rfl)
end Go.Proofs.YtabkhphoacmcdaaGreatDoor.Pvm
namespace Go.Proofs.YtabkhphoacmcdaaGreatDoor.Pvm
open Go
variable {P:Program}
def cdOf(fn:Func): Code:=fn.body.getD .skip
def fnW(cx:Ctx)(k:Nat)(fn:Func)(sp:RetSpec){R:Type}(ps:List PV)(hp:List (Nm×HObj))(wr:Out→Option R): Option R:=fnK cx k (cdOf fn) fn.ntmps fn.results.toList sp ps hp wr
def bodyK(cx:Ctx)(k:Nat)(fn:Func)(sp:RetSpec)(p:List Nat){R:Type}(I:Nat→St→Option R)(s:St)(wr:Out→Option R): Option R :=
 execK cx k (at_ p (cdOf fn)) s (konts cx k I p (cdOf fn) (outK cx sp fn.results.toList wr))
def loopK(cx:Ctx)(k:Nat)(fn:Func)(sp:RetSpec)(id:Nat)(p:List Nat){R:Type}(I:Nat→St→Option R)(n:Nat)(s:St)(wr:Out→Option R): Option R :=
 iter cx.pv (look cx.cuts id) (execK cx k (at_ (p++[0]) (cdOf fn))) n s (konts cx k I p (cdOf fn) (outK cx sp fn.results.toList wr))
def upI{R:Type}(id:Nat)(f:St→Option R)(I:Nat→St→Option R): Nat→St→Option R:=fun i s=>bif Nat.beq i id then f s else I i s
theorem wq19z{R:Type}(id:Nat)(f:St→Option R)(I:Nat→St→Option R)(s:St): upI id f I id s=f s:=by unfold upI;rw[Nat.beq_refl];rfl
def DOK(P:Program)(f:FuncId)(run:{R:Type}→List PV→List (Nm×HObj)→(Out→Option R)→Option R): Prop :=
 ∀(ps:List PV) (hp:List (Nm×HObj)) (R:Type) (K:Out→Option R) (r:R),run ps hp K=some r→DoesTo P f ps hp fun out=>K out=some r
theorem wqxt{f:FuncId}{s:List LS}{C:CTab}{run:{R:Type}→List PV→List (Nm×HObj)→(Out→Option R)→Option R}(h:DOK P f run)(hC:C.Ok P): (CTab.add f s run C).Ok P:=CTab.add_ok (h _ _ _ _ _) hC
theorem fnW_ok {cx:Ctx} (X:cx.Ok P) (hm:P.follows .mixedOrders=true) {f:FuncId} {fn:Func} (h1:P.funcs[f]? = some fn) (h2:(fn.body.isSome && !(fn.name == "runtime.NumGoroutine")&&codeOk fn.ntmps (cdOf fn))=true)
 {k:Nat} {sp:RetSpec} {ps:List PV} {hp:List (Nm×HObj)} {R:Type} {wr K:Out→Option R} {r:R} (h:fnW cx k fn sp ps hp wr=some r) (hw:∀ o,wr o=some r→K o=some r):DoesTo P f ps hp fun out=>K out=some r:=by
 simp only[Bool.and_eq_true,Bool.not_eq_true']at h2
 obtain⟨⟨h3,h4⟩,h5⟩:=h2
 obtain⟨c,hc⟩:=Option.isSome_iff_exists.1 h3
 have e:cdOf fn=c:=by unfold cdOf;rw[hc];rfl
 unfold fnW at h
 rw[e]at h h5
 exact(fn_ok X hm h1 hc h4 rfl h5 h).mono hw
end Go.Proofs.YtabkhphoacmcdaaGreatDoor.Pvm
namespace Go.Proofs.YtabkhphoacmcdaaGreatDoor.Pvm
open Go
variable {P:Program}
inductive Fm where
 |a (K:Kd)
 |s (K:Kd)
 |w (n:Nm) (e:TypeId) (K:Kd)
 |o (n:Nm) (t:TypeId) (z:Nat) (cs:List Fm)
 |r (n:Nm) (z:Nat)
 |p (n:Nm) (z:Nat)
 |ni|np|ns
 |b (K:Kd)
 |l (K:Kd)
 |m (n:Nm) (g:MK) (V:Kd)
 |g (cs:List Fm)
 |c (f:FuncId) (cs:List Fm)
 |i (t:TypeId) (f:Fm)
 |t (n:Nm)
 |j
 |k (K:Kd)
mutual
def Fm.ls:Fm→LS
 |.s K => .sl K
 |.w n e K => .own n e K
 |.o n _ _ cs => .obj n (Fms.ls cs)
 |.r n _ => .obj n []
 |.p n z => .nps n z
 |.b K => .bor K
 |.l K => .lend K
 |.m n g V => .mpo n g V
 |.t n => .mpo n .it (.int .i64)
 |.g cs => .ag (Fms.ls cs)
 |.c _ cs => .clo (Fms.ls cs)
 |_ => .any
def Fms.ls:List Fm→List LS
 |[]=>[]
 |f::r=>f.ls::Fms.ls r
end
mutual
def Fm.C:Fm→Type→Type
 |.a K,X=>K.T→X
 |.s K,X=>List K.T→X
 |.w _ _ K,X=>List K.T→X
 |.o _ _ _ cs,X=>FmsC cs X
 |.b K,X=>List K.T→X
 |.l K,X=>K.T→X
 |.m _ _ V,X=>List (List UInt8×V.T)→X
 |.g cs,X=>FmsC cs X
 |.c _ cs,X=>FmsC cs X
 |.i _ f,X=>f.C X
 |.t _,X=>List UInt8→Int→X
 |.j,X=>UInt8→X
 |.k K,X=>K.T→X
 |_,X=>X
def FmsC:List Fm→Type→Type
 |[],X=>X
 |f::r,X=>f.C (FmsC r X)
end
mutual
def Fm.nv:Fm→Bool
 |.a _=>false
 |.s _=>false
 |.w _ _ _=>false
 |.b _=>false
 |.l _=>false
 |.m _ _ _=>false
 |.o _ _ _ cs=>Fms.nv cs
 |.g cs=>Fms.nv cs
 |.c _ cs=>Fms.nv cs
 |.i _ f=>f.nv
 |.t _=>false
 |.j=>false
 |.k _=>false
 |_=>true
def Fms.nv:List Fm→Bool
 |[]=>true
 |f::r=>f.nv&&Fms.nv r
end
mutual
def Fm.mk:(f:Fm)→{X:Type}→List (Nm×HObj)→(PV→List (Nm×HObj)→X)→f.C X
 |.a K,_,h,k=>fun x=>k (.v K x) h
 |.s K,_,h,k=>fun x=>k (.v (.sl K) x) h
 |.w n e K,_,h,k=>fun x=>k (.row n) ((n,.row e K x)::h)
 |.o n t z cs,_,h,k=>Fms.mk cs h fun ps h=>k (.ptr n z) ((n,.var t ps)::h)
 |.r n z,_,h,k=>k (.ptr n z) h
 |.p n z,_,h,k=>k (.nps n z) h
 |.ni,_,h,k=>k .nilif h
 |.np,_,h,k=>k .nilptr h
 |.ns,_,h,k=>k .nilsl h
 |.b K,_,h,k=>fun x=>k (.bv K x) h
 |.l K,_,h,k=>fun x=>k (.lp K x 0) h
 |.m n g V,_,h,k=>fun x=>k (.mpp n) ((n,.mp g V x)::h)
 |.g cs,_,h,k=>Fms.mk cs h fun ps h=>k (.agg ps) h
 |.c f cs,_,h,k=>Fms.mk cs h fun ps h=>k (.clo f ps) h
 |.i t f,_,h,k=>f.mk h fun p h=>k (.ifc t p) h
 |.t n,_,h,k=>fun x y=>k (.mpp n) ((n,.mp .it (.int .i64) [(x,y)])::h)
 |.j,_,h,k=>fun x=>k (.v .str [x]) h
 |.k K,_,h,k=>fun x=>k (.v (.sl K) [x]) h
def Fms.mk:(l:List Fm)→{X:Type}→List (Nm×HObj)→(List PV→List (Nm×HObj)→X)→FmsC l X
 |[],_,h,k=>k [] h
 |f::r,_,h,k=>f.mk h fun p h=>Fms.mk r h fun ps h=>k (p::ps) h
end
mutual
def Fm.tk:(f:Fm)→PV→List (Nm×HObj)→Option (((X:Type)→f.C X→X)×List (Nm×HObj))
 |.a K,q,h=>match q with
  |.v K' x=>match cast K' K x with
   |some x=>some (fun _ g=>g x,h)
   |none=>none
  |_=>none
 |.s K,q,h=>match q with
  |.v K' x=>match cast K' (.sl K) x with
   |some x=>some (fun _ g=>g x,h)
   |none=>none
  |_=>none
 |.w n e K,q,h=>match q,h with
  |.row n',(m,.row e' K' x)::h=>bif Nat.beq n' n&&(Nat.beq m n&&Nat.beq e' e)then match cast (.sl K') (.sl K) x with
   |some x=>some (fun _ g=>g x,h)
   |none=>none
   else none
  |_,_=>none
 |.o n t z cs,q,h=>match q,h with
  |.ptr n' z',(m,.var t' ps)::h=>bif (Nat.beq n' n&&Nat.beq z' z)&&(Nat.beq m n&&Nat.beq t' t)then match Fms.tk cs ps h with
   |some (a,h)=>some (fun _ g=>a _ g,h)
   |none=>none
   else none
  |_,_=>none
 |.r n z,q,h=>match q with
  |.ptr n' z'=>bif Nat.beq n' n&&Nat.beq z' z then some (fun _ g=>g,h)else none
  |_=>none
 |.p n z,q,h=>match q with
  |.nps n' z'=>bif Nat.beq n' n&&Nat.beq z' z then some (fun _ g=>g,h)else none
  |_=>none
 |.ni,q,h=>match q with
  |.nilif=>some (fun _ g=>g,h)
  |_=>none
 |.np,q,h=>match q with
  |.nilptr=>some (fun _ g=>g,h)
  |_=>none
 |.ns,q,h=>match q with
  |.nilsl=>some (fun _ g=>g,h)
  |_=>none
 |.b K,q,h=>match q with
  |.bv K' x=>match cast (.sl K') (.sl K) x with
   |some x=>some (fun _ g=>g x,h)
   |none=>none
  |_=>none
 |.l K,q,h=>match q with
  |.lp K' x z=>bif Nat.beq z 0 then match cast K' K x with
   |some x=>some (fun _ g=>g x,h)
   |none=>none
   else none
  |_=>none
 |.m n g V,q,h=>match q,h with
  |.mpp n',(m,.mp g' V' x)::h=>bif Nat.beq n' n&&(Nat.beq m n&&decide (g'=g))then match cast (.sl (.pr .str V')) (.sl (.pr .str V)) x with
   |some x=>some (fun _ g=>g x,h)
   |none=>none
   else none
  |_,_=>none
 |.g cs,q,h=>match q with
  |.agg ps=>match Fms.tk cs ps h with
   |some (a,h)=>some (fun _ g=>a _ g,h)
   |none=>none
  |_=>none
 |.c f cs,q,h=>match q with
  |.clo f' ps=>bif Nat.beq f' f then match Fms.tk cs ps h with
   |some (a,h)=>some (fun _ g=>a _ g,h)
   |none=>none
   else none
  |_=>none
 |.i t f,q,h=>match q with
  |.ifc t' p=>bif Nat.beq t' t then match f.tk p h with
   |some (a,h)=>some (fun _ g=>a _ g,h)
   |none=>none
   else none
  |_=>none
 |.t n,q,h=>match q,h with
  |.mpp n',(m,.mp .it V' x)::h=>bif Nat.beq n' n&&Nat.beq m n then match itAt V' x with
   |some x=>some (fun _ g=>g x.1 x.2,h)
   |none=>none
   else none
  |_,_=>none
 |.j,q,h=>match q with
  |.v .str [x]=>some (fun _ g=>g x,h)
  |_=>none
 |.k K,q,h=>match q with
  |.v K' x=>match cast K' (.sl K) x with
   |some [x]=>some (fun _ g=>g x,h)
   |_=>none
  |_=>none
def Fms.tk:(l:List Fm)→List PV→List (Nm×HObj)→Option (((X:Type)→FmsC l X→X)×List (Nm×HObj))
 |[],q,h=>match q with
  |[]=>some (fun _ g=>g,h)
  |_=>none
 |f::r,q,h=>match q with
  |p::ps=>match Fms.tk r ps h with
   |some (a,h)=>match f.tk p h with
    |some (b,h)=>some (fun _ g=>a _ (b _ g),h)
    |none=>none
   |none=>none
  |_=>none
end
theorem wqu9{K K':Kd}{x:K.T}{y:K'.T}(h:cast K K' x=some y): K=K'∧HEq x y:=by
 unfold cast at h
 split at h
 ·next e=>cases e;cases h;exact⟨rfl,HEq.rfl⟩
 ·cases h
theorem beqE{a b:Nat}(h:Nat.beq a b=true): a=b:=Nat.eq_of_beq_eq_true h
mutual
theorem Fm.tk_ok:∀(f:Fm) {q:PV} {h h':List (Nm×HObj)} {a:(X:Type)→f.C X→X},f.tk q h=some (a,h')→∀(X:Type) (k:PV→List (Nm×HObj)→X),a X (f.mk h' k)=k q h
 |.a K,q,h,h',a,he,X,k=>by
  unfold Fm.tk at he
  split at he
  ·split at he
   ·next x y hy=>obtain⟨rfl,e⟩:=wqu9 hy;cases e;cases he;rfl
   ·cases he
  ·cases he
 |.s K,q,h,h',a,he,X,k=>by
  unfold Fm.tk at he
  split at he
  ·split at he
   ·next x y hy=>obtain⟨rfl,e⟩:=wqu9 hy;cases e;cases he;rfl
   ·cases he
  ·cases he
 |.w n e K,q,h,h',a,he,X,k=>by
  unfold Fm.tk at he
  split at he
  ·cases hb:(Nat.beq _ n&&(Nat.beq _ n&&Nat.beq _ e))with
   |false=>rw[hb]at he;cases he
   |true =>
    rw[hb,cond_true]at he
    simp only[Bool.and_eq_true]at hb
    obtain⟨h1,h2,h3⟩:=hb
    cases beqE h1;cases beqE h2;cases beqE h3
    split at he
    ·next x y hy =>
     obtain⟨e,e2⟩:=wqu9 hy
     cases e;cases e2;cases he;rfl
    ·cases he
  ·cases he
 |.o n t z cs,q,h,h',a,he,X,k=>by
  unfold Fm.tk at he
  split at he
  ·cases hb:((Nat.beq _ n&&Nat.beq _ z)&&(Nat.beq _ n&&Nat.beq _ t))with
   |false=>rw[hb]at he;cases he
   |true =>
    rw[hb,cond_true]at he
    simp only[Bool.and_eq_true]at hb
    obtain⟨⟨h1,h2⟩,h3,h4⟩:=hb
    cases beqE h1;cases beqE h2;cases beqE h3;cases beqE h4
    split at he
    ·next a' h'' ha=>cases he;unfold Fm.mk;exact Fms.tk_ok cs ha X _
    ·cases he
  ·cases he
 |.r n z,q,h,h',a,he,X,k=>by
  unfold Fm.tk at he
  split at he
  ·cases hb:(Nat.beq _ n&&Nat.beq _ z)with
   |false=>rw[hb]at he;cases he
   |true =>
    rw[hb,cond_true]at he
    simp only[Bool.and_eq_true]at hb
    obtain⟨h1,h2⟩:=hb
    cases beqE h1;cases beqE h2;cases he;rfl
  ·cases he
 |.p n z,q,h,h',a,he,X,k=>by
  unfold Fm.tk at he
  split at he
  ·cases hb:(Nat.beq _ n&&Nat.beq _ z)with
   |false=>rw[hb]at he;cases he
   |true =>
    rw[hb,cond_true]at he
    simp only[Bool.and_eq_true]at hb
    obtain⟨h1,h2⟩:=hb
    cases beqE h1;cases beqE h2;cases he;rfl
  ·cases he
 |.ni,q,h,h',a,he,X,k=>by
  unfold Fm.tk at he
  split at he
  ·cases he;rfl
  ·cases he
 |.np,q,h,h',a,he,X,k=>by
  unfold Fm.tk at he
  split at he
  ·cases he;rfl
  ·cases he
 |.ns,q,h,h',a,he,X,k=>by
  unfold Fm.tk at he
  split at he
  ·cases he;rfl
  ·cases he
 |.b K,q,h,h',a,he,X,k=>by
  unfold Fm.tk at he
  split at he
  ·split at he
   ·next x y hy=>obtain⟨e,e2⟩:=wqu9 hy;cases e;cases e2;cases he;rfl
   ·cases he
  ·cases he
 |.l K,q,h,h',a,he,X,k=>by
  unfold Fm.tk at he
  split at he
  ·next K' x z =>
   cases hb:Nat.beq z 0 with
   |false=>rw[hb]at he;cases he
   |true =>
    rw[hb,cond_true]at he
    cases beqE hb
    split at he
    ·next y hy=>obtain⟨rfl,e2⟩:=wqu9 hy;cases e2;cases he;rfl
    ·cases he
  ·cases he
 |.m n g V,q,h,h',a,he,X,k=>by
  unfold Fm.tk at he
  split at he
  ·cases hb:(Nat.beq _ n&&(Nat.beq _ n&&decide (_=g)))with
   |false=>rw[hb]at he;cases he
   |true =>
    rw[hb,cond_true]at he
    simp only[Bool.and_eq_true,decide_eq_true_eq]at hb
    obtain⟨h1,h2,h3⟩:=hb
    cases beqE h1;cases beqE h2;cases h3
    split at he
    ·next x y hy =>
     obtain⟨e,e2⟩:=wqu9 hy
     cases e;cases e2;cases he;rfl
    ·cases he
  ·cases he
 |.g cs,q,h,h',a,he,X,k=>by
  unfold Fm.tk at he
  split at he
  ·split at he
   ·next a' h'' ha=>cases he;unfold Fm.mk;exact Fms.tk_ok cs ha X _
   ·cases he
  ·cases he
 |.c f cs,q,h,h',a,he,X,k=>by
  unfold Fm.tk at he
  split at he
  ·next f' ps =>
   cases hb:Nat.beq f' f with
   |false=>rw[hb]at he;cases he
   |true =>
    rw[hb,cond_true]at he
    cases beqE hb
    split at he
    ·next a' h'' ha=>cases he;unfold Fm.mk;exact Fms.tk_ok cs ha X _
    ·cases he
  ·cases he
 |.i t f,q,h,h',a,he,X,k=>by
  unfold Fm.tk at he
  split at he
  ·next t' p =>
   cases hb:Nat.beq t' t with
   |false=>rw[hb]at he;cases he
   |true =>
    rw[hb,cond_true]at he
    cases beqE hb
    split at he
    ·next a' h'' ha=>cases he;unfold Fm.mk;exact Fm.tk_ok f ha X _
    ·cases he
  ·cases he
 |.t n,q,h,h',a,he,X,k=>by
  unfold Fm.tk at he
  split at he
  ·cases hb:(Nat.beq _ n&&Nat.beq _ n)with
   |false=>rw[hb]at he;cases he
   |true =>
    rw[hb,cond_true]at he
    simp only[Bool.and_eq_true]at hb
    obtain⟨h1,h2⟩:=hb
    cases beqE h1;cases beqE h2
    split at he
    ·next x hx =>
     unfold itAt at hx
     split at hx
     ·cases hx;cases he;rfl
     ·cases hx
    ·cases he
  ·cases he
 |.j,q,h,h',a,he,X,k=>by
  unfold Fm.tk at he
  split at he
  ·cases he;rfl
  ·cases he
 |.k K,q,h,h',a,he,X,k=>by
  unfold Fm.tk at he
  split at he
  ·split at he
   ·next x y hy=>obtain⟨e,e2⟩:=wqu9 hy;cases e;cases e2;cases he;rfl
   ·cases he
  ·cases he
theorem Fms.tk_ok:∀(l:List Fm) {q:List PV} {h h':List (Nm×HObj)} {a:(X:Type)→FmsC l X→X},Fms.tk l q h=some (a,h')→∀(X:Type) (k:List PV→List (Nm×HObj)→X),a X (Fms.mk l h' k)=k q h
 |[],q,h,h',a,he,X,k=>by
  unfold Fms.tk at he
  split at he
  ·cases he;rfl
  ·cases he
 |f::r,q,h,h',a,he,X,k=>by
  unfold Fms.tk at he
  split at he
  ·next p ps =>
   split at he
   ·next a' h1 ha =>
    split at he
    ·next b h2 hb =>
     cases he
     unfold Fms.mk
     have e1:=Fm.tk_ok f hb _ (fun p h=>Fms.mk r h fun ps h=>k (p::ps) h)
     have e2:=Fms.tk_ok r ha X (fun ps h=>k (p::ps) h)
     exact(congrArg (a' X) e1).trans e2
    ·cases he
   ·cases he
  ·cases he
end
def rvA{α : Type}: List α → List α → List α
 |[],r=>r
 |x::l,r=>rvA l (x::r)
def rv{α : Type}(l:List α): List α := rvA l []
theorem rvA_eq{α : Type}: ∀ l r:List α,rvA l r=l.reverse++r
 |[],r=>rfl
 |x::l,r=>by rw[rvA,rvA_eq l];simp
theorem rv_rv{α : Type}(l:List α): rv (rv l)=l:=by unfold rv;rw[rvA_eq,rvA_eq];simp
def UT(b:Bool)(X:Type): Type:=match b with
 |true=>Unit→X
 |false=>X
def uI:(b:Bool)→{X:Type}→X→UT b X
 |true,_,x=>fun _=>x
 |false,_,x=>x
def uE:(b:Bool)→{X:Type}→UT b X→X
 |true,_,f=>f ()
 |false,_,x=>x
theorem uE_uI(b:Bool){X:Type}(x:X): uE b (uI b x)=x:=by cases b<;>rfl
def KO:Option (List Fm×List Fm)→Type→Type→Type
 |none,_,X=>X
 |some l,R,X=>UT (Fms.nv (l.1++l.2)) (FmsC (l.1++l.2) (Option R))→X
def ptrOf:Fm→PV
 |.o n _ _ _ => .ptr n 0
 |.r n _ => .ptr n 0
 |_ => .un
def takeK(l:List Fm×List Fm){R:Type}(K:UT (Fms.nv (l.1++l.2)) (FmsC (l.1++l.2) (Option R)))(ps:List PV)(h:List (Nm×HObj)): Option R :=
 match Fms.tk (l.1++l.2) (l.1.map ptrOf++ps) (rv h)with
 |some (a,[])=>a _ (uE _ K)
 |_=>none
def giveK(l:List Fm×List Fm){R:Type}(out:List PV→List (Nm×HObj)→Option R): UT (Fms.nv (l.1++l.2)) (FmsC (l.1++l.2) (Option R)) :=
 uI _ (Fms.mk (l.1++l.2) [] fun ps h=>out (ps.drop l.1.length) (rv h))
theorem wq1ci{l:List Fm×List Fm}{R:Type}{out:List PV→List (Nm×HObj)→Option R}{ps:List PV}{h:List (Nm×HObj)}{r:R}(he:takeK l (giveK l out) ps h=some r): out ps h=some r:=by
 unfold takeK at he
 split at he
 ·next a ha =>
  unfold giveK at he
  rw[uE_uI,Fms.tk_ok _ ha,rv_rv]at he
  rw[←he]
  have:l.1.length=(l.1.map ptrOf).length:=by simp
  rw[this,List.drop_left]
 ·cases he
def absK:(o:Option (List Fm×List Fm))→{R X:Type}→((List PV→List (Nm×HObj)→Option R)→X)→KO o R X
 |none,_,_,g=>g fun _ _=>none
 |some l,_,_,g=>fun K=>g (takeK l K)
def fedK:(o:Option (List Fm×List Fm))→{R X:Type}→(List PV→List (Nm×HObj)→Option R)→KO o R X→X
 |none,_,_,_,x=>x
 |some l,_,_,out,f=>f (giveK l out)
theorem wq16b(o:Option (List Fm×List Fm)){R X:Type}(out:List PV→List (Nm×HObj)→Option R)(g:(List PV→List (Nm×HObj)→Option R)→X):
 ∃ kr,fedK o out (absK o g)=g kr∧∀ ps h r,kr ps h=some r→out ps h=some r:=by
 cases o with
 |none=>exact⟨_,rfl,fun _ _ _ h=>by cases h⟩
 |some l=>exact⟨_,rfl,fun _ _ _ h=>wq1ci h⟩
structure Sh where
 ps:List Fm
 rt:Option (List Fm×List Fm)
 pn:Option (List Fm×List Fm)
abbrev Sh.E(s:Sh)(R:Type): Type:=KO s.rt R (KO s.pn R (Option R))
abbrev Sh.F(s:Sh)(R:Type): Type:=FmsC s.ps (s.E R)
def outW{R:Type}(kr ke:List PV→List (Nm×HObj)→Option R): Out→Option R
 |.ret ps h=>kr ps h
 |.pan p h=>ke [p] h
def Sh.wr(s:Sh){R:Type}(g:(Out→Option R)→Option R): s.E R:=absK s.rt fun kr=>absK s.pn fun ke=>g (outW kr ke)
def Sh.cur(s:Sh){R:Type}(g:List PV→List (Nm×HObj)→(Out→Option R)→Option R): s.F R:=Fms.mk s.ps [] fun ps h=>s.wr (g ps (rv h))
def Sh.run(s:Sh)(F:(R:Type)→s.F R){R:Type}(ps:List PV)(hp:List (Nm×HObj))(K:Out→Option R): Option R :=
 match Fms.tk s.ps ps (rv hp)with
 |some (a,[])=>fedK s.pn (fun ps h=>K (.pan (ps.headD .un) h)) (fedK s.rt (fun ps h=>K (.ret ps h)) (a _ (F R)))
 |_=>none
def obLS:Fm→Nm×LS
 |.o n _ _ cs=>(n,.obj n (Fms.ls cs))
 |.r n _=>(n,.obj n [])
 |_=>(0,.any)
def obsLS:Option (List Fm×List Fm)→List (Nm×LS)
 |some l=>l.1.map obLS
 |none=>[]
def Sh.sp(s:Sh): RetSpec:=⟨match s.rt with
 |some l=>Fms.ls l.2
 |none=>[],obsLS s.rt,obsLS s.pn⟩
def Sh.sig(s:Sh): List LS:=Fms.ls s.ps
theorem Sh.ok (s:Sh) {cx:Ctx} (X:cx.Ok P) (hm:P.follows .mixedOrders=true) {f:FuncId} {fn:Func} (h1:P.funcs[f]? = some fn) (h2:(fn.body.isSome && !(fn.name == "runtime.NumGoroutine")&&codeOk fn.ntmps (cdOf fn))=true)
 {k:Nat} {F:(R:Type)→s.F R} (he:∀ R:Type,s.cur (fnW cx k fn s.sp (R:=R))=F R):DOK P f (s.run F):=by
 intro ps hp R K r h
 have h:s.run F ps hp K=some r:=h
 unfold Sh.run at h
 split at h
 ·next a ha =>
  have h:fedK s.pn (fun ps h=>K (.pan (ps.headD .un) h)) (fedK s.rt (fun ps h=>K (.ret ps h)) (a _ (s.cur (fnW cx k fn s.sp (R:=R)))))=some r:=by rw[he R];exact h
  rw[Sh.cur,Fms.tk_ok _ ha,rv_rv,Sh.wr]at h
  obtain⟨kr,e1,w1⟩:=wq16b s.rt (fun ps h=>K (.ret ps h)) (fun kr=>absK s.pn fun ke=>fnW cx k fn s.sp ps hp (outW kr ke))
  rw[e1]at h
  obtain⟨ke,e2,w2⟩:=wq16b s.pn (fun ps h=>K (.pan (ps.headD .un) h)) (fun ke=>fnW cx k fn s.sp ps hp (outW kr ke))
  rw[e2]at h
  refine fnW_ok X hm h1 h2 h fun o ho => ?_
  cases o with
  |ret qs g=>exact w1 _ _ _ ho
  |pan q g=>exact w2 _ _ _ ho
 ·cases h
theorem Sh.ok0(s:Sh){f:FuncId}{F:(R:Type)→s.F R}(he:∀ R:Type,s.cur (fun _ _ _=>none)=F R): DOK P f (s.run F):=by
 intro ps hp R K r h
 have h:s.run F ps hp K=some r:=h
 unfold Sh.run at h
 split at h
 ·next a ha =>
  have h:fedK s.pn (fun ps h=>K (.pan (ps.headD .un) h)) (fedK s.rt (fun ps h=>K (.ret ps h)) (a _ (s.cur fun _ _ _=>none)))=some r:=by rw[he R];exact h
  rw[Sh.cur,Fms.tk_ok _ ha,Sh.wr]at h
  obtain⟨kr,e1,w1⟩:=wq16b s.rt (fun ps h=>K (.ret ps h)) (fun kr=>absK s.pn fun ke=>(none:Option R))
  rw[e1]at h
  obtain⟨ke,e2,w2⟩:=wq16b s.pn (fun ps h=>K (.pan (ps.headD .un) h)) (fun ke=>(none:Option R))
  rw[e2]at h
  cases h
 ·cases h
mutual
def Fm.V:Fm→Type
 |.a K=>K.T
 |.s K=>List K.T
 |.w _ _ K=>List K.T
 |.o _ _ _ cs=>Fms.V cs
 |.b K=>List K.T
 |.l K=>K.T
 |.m _ _ V=>List (List UInt8×V.T)
 |.g cs=>Fms.V cs
 |.c _ cs=>Fms.V cs
 |.i _ f=>f.V
 |.t _=>List UInt8×Int
 |.j=>UInt8
 |.k K=>K.T
 |_=>Unit
def Fms.V:List Fm→Type
 |[]=>Unit
 |f::r=>f.V×Fms.V r
end
mutual
def Fm.ap:(f:Fm)→{X:Type}→f.C X→f.V→X
 |.a _,_,g,v=>g v
 |.s _,_,g,v=>g v
 |.w _ _ _,_,g,v=>g v
 |.o _ _ _ cs,_,g,v=>Fms.ap cs g v
 |.r _ _,_,g,_=>g
 |.p _ _,_,g,_=>g
 |.ni,_,g,_=>g
 |.np,_,g,_=>g
 |.ns,_,g,_=>g
 |.b _,_,g,v=>g v
 |.l _,_,g,v=>g v
 |.m _ _ _,_,g,v=>g v
 |.g cs,_,g,v=>Fms.ap cs g v
 |.c _ cs,_,g,v=>Fms.ap cs g v
 |.i _ f,_,g,v=>f.ap g v
 |.t _,_,g,v=>g v.1 v.2
 |.j,_,g,v=>g v
 |.k _,_,g,v=>g v
def Fms.ap:(l:List Fm)→{X:Type}→FmsC l X→Fms.V l→X
 |[],_,g,_=>g
 |f::r,_,g,v=>Fms.ap r (f.ap g v.1) v.2
end
mutual
def Fm.la:(f:Fm)→{X:Type}→(f.V→X)→f.C X
 |.a _,_,g=>g
 |.s _,_,g=>g
 |.w _ _ _,_,g=>g
 |.o _ _ _ cs,_,g=>Fms.la cs g
 |.r _ _,_,g=>g ()
 |.p _ _,_,g=>g ()
 |.ni,_,g=>g ()
 |.np,_,g=>g ()
 |.ns,_,g=>g ()
 |.b _,_,g=>g
 |.l _,_,g=>g
 |.m _ _ _,_,g=>g
 |.g cs,_,g=>Fms.la cs g
 |.c _ cs,_,g=>Fms.la cs g
 |.i _ f,_,g=>f.la g
 |.t _,_,g=>fun x y=>g (x,y)
 |.j,_,g=>g
 |.k _,_,g=>g
def Fms.la:(l:List Fm)→{X:Type}→(Fms.V l→X)→FmsC l X
 |[],_,g=>g ()
 |f::r,_,g=>f.la fun v=>Fms.la r fun w=>g (v,w)
end
mutual
theorem Fm.ap_la:∀(f:Fm) {X:Type} (g:f.V→X) (v:f.V),f.ap (f.la g) v=g v
 |.a _,_,_,_=>rfl
 |.s _,_,_,_=>rfl
 |.w _ _ _,_,_,_=>rfl
 |.o _ _ _ cs,_,g,v=>Fms.ap_la cs g v
 |.r _ _,_,_,_=>rfl
 |.p _ _,_,_,_=>rfl
 |.ni,_,_,_=>rfl
 |.np,_,_,_=>rfl
 |.ns,_,_,_=>rfl
 |.b _,_,_,_=>rfl
 |.l _,_,_,_=>rfl
 |.m _ _ _,_,_,_=>rfl
 |.g cs,_,g,v=>Fms.ap_la cs g v
 |.c _ cs,_,g,v=>Fms.ap_la cs g v
 |.i _ f,_,g,v=>Fm.ap_la f g v
 |.t _,_,_,_=>rfl
 |.j,_,_,_=>rfl
 |.k _,_,_,_=>rfl
theorem Fms.ap_la:∀(l:List Fm) {X:Type} (g:Fms.V l→X) (v:Fms.V l),Fms.ap l (Fms.la l g) v=g v
 |[],_,_,_=>rfl
 |f::r,_,g,v=>by
  have h1:=Fm.ap_la f (fun v=>Fms.la r fun w=>g (v,w)) v.1
  have h2:=Fms.ap_la r (fun w=>g (v.1,w)) v.2
  exact(congrArg (fun y=>Fms.ap r y v.2) h1).trans h2
end
mutual
theorem Fm.la_ap:∀(f:Fm) {X:Type} (g:f.C X),f.la (f.ap g)=g
 |.a _,_,_=>rfl
 |.s _,_,_=>rfl
 |.w _ _ _,_,_=>rfl
 |.o _ _ _ cs,_,g=>Fms.la_ap cs g
 |.r _ _,_,_=>rfl
 |.p _ _,_,_=>rfl
 |.ni,_,_=>rfl
 |.np,_,_=>rfl
 |.ns,_,_=>rfl
 |.b _,_,_=>rfl
 |.l _,_,_=>rfl
 |.m _ _ _,_,_=>rfl
 |.g cs,_,g=>Fms.la_ap cs g
 |.c _ cs,_,g=>Fms.la_ap cs g
 |.i _ f,_,g=>Fm.la_ap f g
 |.t _,_,_=>rfl
 |.j,_,_=>rfl
 |.k _,_,_=>rfl
theorem Fms.la_ap:∀(l:List Fm) {X:Type} (g:FmsC l X),Fms.la l (Fms.ap l g)=g
 |[],_,_=>rfl
 |f::r,_,g=>by
  have h1:(fun v=>Fms.la r fun w=>Fms.ap r (f.ap g v) w)=f.ap g:=funext fun v=>Fms.la_ap r (f.ap g v)
  exact(congrArg f.la h1).trans (Fm.la_ap f g)
end
theorem Fms.ext{l:List Fm}{X:Type}{a b:FmsC l X}(h:∀ v,Fms.ap l a v=Fms.ap l b v): a=b:=by
 rw[←Fms.la_ap l a,←Fms.la_ap l b]
 exact congrArg _ (funext h)
mutual
theorem Fm.ap_mk:∀(f:Fm) (v:f.V) (h:List (Nm×HObj)),∃ p h',∀(X:Type) (k:PV→List (Nm×HObj)→X),f.ap (f.mk h k) v=k p h'
 |.a _,_,_=>⟨_,_,fun _ _=>rfl⟩
 |.s _,_,_=>⟨_,_,fun _ _=>rfl⟩
 |.w _ _ _,_,_=>⟨_,_,fun _ _=>rfl⟩
 |.o n t z cs,v,h=>by
  obtain⟨p,h',e⟩:=Fms.ap_mk cs v h
  exact⟨_,_,fun X k=>e X _⟩
 |.r _ _,_,_=>⟨_,_,fun _ _=>rfl⟩
 |.p _ _,_,_=>⟨_,_,fun _ _=>rfl⟩
 |.ni,_,_=>⟨_,_,fun _ _=>rfl⟩
 |.np,_,_=>⟨_,_,fun _ _=>rfl⟩
 |.ns,_,_=>⟨_,_,fun _ _=>rfl⟩
 |.b _,_,_=>⟨_,_,fun _ _=>rfl⟩
 |.l _,_,_=>⟨_,_,fun _ _=>rfl⟩
 |.m _ _ _,_,_=>⟨_,_,fun _ _=>rfl⟩
 |.g cs,v,h=>by
  obtain⟨p,h',e⟩:=Fms.ap_mk cs v h
  exact⟨_,_,fun X k=>e X _⟩
 |.c _ cs,v,h=>by
  obtain⟨p,h',e⟩:=Fms.ap_mk cs v h
  exact⟨_,_,fun X k=>e X _⟩
 |.i _ f,v,h=>by
  obtain⟨p,h',e⟩:=Fm.ap_mk f v h
  exact⟨_,_,fun X k=>e X _⟩
 |.t _,_,_=>⟨_,_,fun _ _=>rfl⟩
 |.j,_,_=>⟨_,_,fun _ _=>rfl⟩
 |.k _,_,_=>⟨_,_,fun _ _=>rfl⟩
theorem Fms.ap_mk:∀(l:List Fm) (v:Fms.V l) (h:List (Nm×HObj)),∃ ps h',∀(X:Type) (k:List PV→List (Nm×HObj)→X),Fms.ap l (Fms.mk l h k) v=k ps h'
 |[],_,h=>⟨_,_,fun _ _=>rfl⟩
 |f::r,v,h=>by
  obtain⟨p,h1,e1⟩:=Fm.ap_mk f v.1 h
  obtain⟨ps,h2,e2⟩:=Fms.ap_mk r v.2 h1
  exact⟨_,_,fun X k=>(congrArg (fun y=>Fms.ap r y v.2) (e1 _ _)).trans (e2 X _)⟩
end
def KOV:Option (List Fm×List Fm)→Type→Type
 |none,_=>Unit
 |some l,R=>UT (Fms.nv (l.1++l.2)) (FmsC (l.1++l.2) (Option R))
def apO:(o:Option (List Fm×List Fm))→{R X:Type}→KO o R X→KOV o R→X
 |none,_,_,x,_=>x
 |some _,_,_,f,v=>f v
def laO:(o:Option (List Fm×List Fm))→{R X:Type}→(KOV o R→X)→KO o R X
 |none,_,_,g=>g ()
 |some _,_,_,g=>g
theorem apO_la(o:Option (List Fm×List Fm)){R X:Type}(g:KOV o R→X)(v:KOV o R): apO o (laO o g) v=g v:=by cases o<;>rfl
theorem laO_ap(o:Option (List Fm×List Fm)){R X:Type}(g:KO o R X): laO o (apO o g)=g:=by cases o<;>rfl
theorem wq1dj(o:Option (List Fm×List Fm)){R:Type}(v:KOV o R): ∃ kr,∀(X:Type) (g:(List PV→List (Nm×HObj)→Option R)→X),apO o (absK o g) v=g kr:=by
 cases o with
 |none=>exact⟨_,fun _ _=>rfl⟩
 |some l=>exact⟨_,fun _ _=>rfl⟩
abbrev Sh.EV(s:Sh)(R:Type): Type:=KOV s.rt R×KOV s.pn R
def Sh.apE(s:Sh){R:Type}(g:s.E R)(e:s.EV R): Option R:=apO s.pn (apO s.rt g e.1) e.2
def Sh.laE(s:Sh){R:Type}(g:s.EV R→Option R): s.E R:=laO s.rt fun v=>laO s.pn fun w=>g (v,w)
theorem Sh.apE_la(s:Sh){R:Type}(g:s.EV R→Option R)(e:s.EV R): s.apE (s.laE g) e=g e:=by
 unfold Sh.apE Sh.laE;rw[apO_la,apO_la]
theorem Sh.laE_ap(s:Sh){R:Type}(g:s.E R): s.laE (s.apE g)=g:=by
 unfold Sh.laE Sh.apE
 have:(fun v=>laO s.pn fun w=>apO s.pn (apO s.rt g v) w)=apO s.rt g:=funext fun v=>laO_ap s.pn _
 exact(congrArg (laO s.rt) this).trans (laO_ap s.rt g)
theorem Sh.apE_wr(s:Sh){R:Type}(e:s.EV R): ∃ W,∀ g:(Out→Option R)→Option R,s.apE (s.wr g) e=g W:=by
 obtain⟨kr,h1⟩:=wq1dj s.rt e.1
 obtain⟨ke,h2⟩:=wq1dj s.pn e.2
 exact⟨outW kr ke,fun g=>by unfold Sh.apE Sh.wr;rw[h1,h2]⟩
theorem Sh.ext(s:Sh){l:List Fm}{R:Type}{a b:FmsC l (s.E R)}(h:∀ v e,s.apE (Fms.ap l a v) e=s.apE (Fms.ap l b v) e): a=b :=
 Fms.ext fun v=>by rw[←s.laE_ap (Fms.ap l a v),←s.laE_ap (Fms.ap l b v)];exact congrArg _ (funext (h v))
structure Cu where
 n:Nat
 sl:List Nat
 fs:List Fm
def zipS:List Nat→List PV→List (Nat×PV)
 |i::l,p::r=>(i,p)::zipS l r
 |_,_=>[]
def Cu.cur(c:Cu){X:Type}(g:St→X): FmsC c.fs X:=Fms.mk c.fs [] fun ps h=>g ⟨mkT (zipS c.sl (ps.drop c.n)),mkH (rv h)⟩
theorem Cu.ap_cur(c:Cu)(v:Fms.V c.fs): ∃ st,∀(X:Type) (g:St→X),Fms.ap c.fs (c.cur g) v=g st:=by
 obtain⟨ps,h,e⟩:=Fms.ap_mk c.fs v []
 exact⟨_,fun X g=>e X _⟩
def zipL:List Nat→List Fm→List (Nat×LS)
 |i::l,p::r=>(i,p.ls)::zipL l r
 |_,_=>[]
def Cu.spec(c:Cu): CutSpec:=⟨zipL c.sl (c.fs.drop c.n),(c.fs.take c.n).map obLS⟩
def Sh.glue(s:Sh){l u:List Fm}{R:Type}(A:FmsC u (Option R)→FmsC l (s.E R))(g:FmsC u (s.E R)): FmsC l (s.E R) :=
 Fms.la l fun v=>s.laE fun e=>s.apE (Fms.ap l (A (Fms.la u fun w=>s.apE (Fms.ap u g w) e)) v) e
theorem Sh.ap_glue(s:Sh){l u:List Fm}{R:Type}(A:FmsC u (Option R)→FmsC l (s.E R))(g:FmsC u (s.E R))(v:Fms.V l)(e:s.EV R):
 s.apE (Fms.ap l (s.glue A g) v) e=s.apE (Fms.ap l (A (Fms.la u fun w=>s.apE (Fms.ap u g w) e)) v) e:=by
 unfold Sh.glue;rw[Fms.ap_la,Sh.apE_la]
def Sh.lp(s:Sh)(u:Cu)(cx:Ctx)(k:Nat)(fn:Func)(id:Nat)(p:List Nat){R:Type}(I:Nat→St→Option R)(n:Nat): FmsC u.fs (s.E R):=u.cur fun st=>s.wr (loopK cx k fn s.sp id p I n st)
def Sh.bd(s:Sh)(u:Cu)(cx:Ctx)(k:Nat)(fn:Func)(p:List Nat){R:Type}(I:Nat→St→Option R): FmsC u.fs (s.E R):=u.cur fun st=>s.wr (bodyK cx k fn s.sp p I st)
theorem Sh.lok (s:Sh) (u:Cu) {cx:Ctx} {k:Nat} {fn:Func} {id:Nat} {p:List Nat} {R:Type} {B:FmsC u.fs (Option R)→FmsC u.fs (s.E R)} {L:Nat→FmsC u.fs (s.E R)}
 (hB:∀ I:Nat→St→Option R,s.bd u cx k fn (p++[0]) I=B (u.cur (I id)))
 (h0:∀ I:Nat→St→Option R,s.lp u cx k fn id p I 0=L 0) (hS:∀ n,s.glue B (L n)=L (n+1))
 (hT:∀(I:Nat→St→Option R) n st W,loopK cx k fn s.sp id p I (n+1) st W=bodyK cx k fn s.sp (p++[0]) (upI id (fun st=>loopK cx k fn s.sp id p I n st W) I) st W)
 (I:Nat→St→Option R) (n:Nat):s.lp u cx k fn id p I n=L n:=by
 induction n with
 |zero=>exact h0 I
 |succ n ih =>
  rw[←hS]
  refine s.ext fun v e => ?_
  rw[s.ap_glue]
  obtain⟨st,hst⟩:=u.ap_cur v
  obtain⟨W,hW⟩:=s.apE_wr e
  have e1:(Fms.la u.fs fun w=>s.apE (Fms.ap u.fs (L n) w) e)=u.cur (upI id (fun st=>loopK cx k fn s.sp id p I n st W) I id):=by
   rw[←Fms.la_ap u.fs (u.cur (upI id _ I id))]
   refine congrArg _ (funext fun w => ?_)
   obtain⟨st',hst'⟩:=u.ap_cur w
   rw[hst',wq19z,←ih]
   unfold Sh.lp
   rw[hst',hW]
  rw[e1,←hB]
  unfold Sh.lp Sh.bd
  rw[hst,hst,hW,hW,hT]
theorem Sh.lokA (s:Sh) (u:Cu) {cx:Ctx} {k:Nat} {fn:Func} {id:Nat} {p:List Nat} {R:Type} (B:(Nat→St→Option R)→FmsC u.fs (Option R)→FmsC u.fs (s.E R)) (L:(Nat→St→Option R)→Nat→FmsC u.fs (s.E R))
 (hI:∀ I f,B (upI id f I)=B I) (hB:∀ I:Nat→St→Option R,s.bd u cx k fn (p++[0]) I=B I (u.cur (I id)))
 (h0:∀ I:Nat→St→Option R,s.lp u cx k fn id p I 0=L I 0) (hS:∀ I n,s.glue (B I) (L I n)=L I (n+1))
 (hT:∀(I:Nat→St→Option R) n st W,loopK cx k fn s.sp id p I (n+1) st W=bodyK cx k fn s.sp (p++[0]) (upI id (fun st=>loopK cx k fn s.sp id p I n st W) I) st W)
 (I:Nat→St→Option R) (n:Nat):s.lp u cx k fn id p I n=L I n:=by
 induction n with
 |zero=>exact h0 I
 |succ n ih =>
  rw[←hS]
  refine s.ext fun v e => ?_
  rw[s.ap_glue]
  obtain⟨st,hst⟩:=u.ap_cur v
  obtain⟨W,hW⟩:=s.apE_wr e
  have e1:(Fms.la u.fs fun w=>s.apE (Fms.ap u.fs (L I n) w) e)=u.cur (upI id (fun st=>loopK cx k fn s.sp id p I n st W) I id):=by
   rw[←Fms.la_ap u.fs (u.cur (upI id _ I id))]
   refine congrArg _ (funext fun w => ?_)
   obtain⟨st',hst'⟩:=u.ap_cur w
   rw[hst',wq19z,←ih]
   unfold Sh.lp
   rw[hst',hW]
  rw[e1,←hI I (fun st=>loopK cx k fn s.sp id p I n st W),←hB]
  unfold Sh.lp Sh.bd
  rw[hst,hst,hW,hW,hT]
structure Ent where
 f:FuncId
 sig:List LS
 run:{R:Type}→List PV→List (Nm×HObj)→(Out→Option R)→Option R
def tabE:List Ent→CTab
 |[] => .nil
 |e::r => .add e.f e.sig e.run (tabE r)
def Sh.e(s:Sh)(f:FuncId)(F:(R:Type)→s.F R): Ent:=⟨f,s.sig,s.run F⟩
def tabOK(P:Program): List Ent→Prop
 |[]=>True
 |e::r=>DOK P e.f e.run∧tabOK P r
theorem wq1dk:∀ {l:List Ent},tabOK P l→(tabE l).Ok P
 |[],_=>CTab.nil_ok
 |e::r,h=>wqxt h.1 (wq1dk h.2)
structure Cxt where
 l:List Ent
 pv:List Nm
 cuts:List (Nat×CutSpec)
 plans:List (Nat×Plan)
end Go.Proofs.YtabkhphoacmcdaaGreatDoor.Pvm
set_option maxRecDepth 1000000
namespace Go.Proofs.YtabkhphoacmcdaaGreatDoor.Pvm
open Go Go.Proofs
noncomputable section
def Cxt.cx(x:Cxt): Ctx:=⟨tyT,x.cuts,tabE x.l,[],x.pv,x.plans,@SH⟩
def Sh.at(s:Sh)(x:Cxt)(k:Nat)(fn:Func)(R:Type): s.F R:=s.cur (fnW x.cx k fn s.sp (R:=R))
theorem ok0:tabOK Tryz.prog []:=trivial
theorem ok1{e:Ent}{l:List Ent}(h:DOK Tryz.prog e.f e.run)(hl:tabOK Tryz.prog l): tabOK Tryz.prog (e::l):=And.intro h hl
theorem dok (s:Sh) (x:Cxt) {f:FuncId} (fn:Func) (k:Nat) {F:(R:Type)→s.F R} (hl:tabOK Tryz.prog x.l) (h1:Tryz.prog.funcs[f]? = some fn) (h2:(fn.body.isSome && !(fn.name == "runtime.NumGoroutine")&&codeOk fn.ntmps (cdOf fn))=true)
 (he:∀ R:Type,s.at x k fn R=F R):DOK Tryz.prog f (s.run F):=s.ok (cx:=x.cx) ⟨tyT_ok,wq1dk hl,fun _ _=>rfl⟩ mixed h1 h2 he
theorem Sh.f1(s:Sh)(u:Cu){R:Type}(A:FmsC u.fs (Option R)→s.F R){a b:FmsC u.fs (s.E R)}{F G:s.F R}(h1:G=s.glue A a)(h:a=b)(h2:s.glue A b=F): G=F:=by
 subst h;exact h1.trans h2
end
end Go.Proofs.YtabkhphoacmcdaaGreatDoor.Pvm
set_option maxHeartbeats 0
namespace Go.Proofs.YtabkhphoacmcdaaGreatDoor.Pvm
open Go Go.Proofs
def wqlw:List LS:=[.obj 1 [.sl (.pr .str (.sl (.int .i64))),.sl (.pr .str (.pr .str (.pr .bool (.pr (.int .i64) (.pr (.int .i64) (.pr .bool (.pr (.pr .str (.pr (.int .i64) (.pr (.int .i64) (.pr .flt (.pr .bool .bool))))) (.sl (.int .i64)))))))))],.obj 2 [.any,.any]]
def wqlx(k:Nat): CTab:=CTab.nil
def wqcm{R:Type}(K:((List ((List UInt8)×(List Int)))→(List dT56)→Int→Int→Option R)): Out→Option R
 |.ret [] [(1,.var 27 [.v (.sl (.pr .str (.sl (.int .i64)))) y0,.v (.sl (.pr .str (.pr .str (.pr .bool (.pr (.int .i64) (.pr (.int .i64) (.pr .bool (.pr (.pr .str (.pr (.int .i64) (.pr (.int .i64) (.pr .flt (.pr .bool .bool))))) (.sl (.int .i64)))))))))) y1]),(2,.var 29 [.v (.int .i64) y2,.v (.int .i64) y3])]=>K y0 y1 y2 y3
 |_=>none
def wqjp:RetSpec:=⟨[],[(1,.obj 1 [.sl (.pr .str (.sl (.int .i64))),.sl (.pr .str (.pr .str (.pr .bool (.pr (.int .i64) (.pr (.int .i64) (.pr .bool (.pr (.pr .str (.pr (.int .i64) (.pr (.int .i64) (.pr .flt (.pr .bool .bool))))) (.sl (.int .i64)))))))))]),(2,.obj 2 [.any,.any])],[]⟩
def wqpx:List (Nat×CutSpec):=[]
def wqnt:List (Nat×Plan):=[(7,(.of [(0,1),(1,2),(2,0),(3,0)] .done))]
def wqf3(k:Nat): Ctx:=⟨tyT,wqpx,wqlx k,[],[1,2],wqnt,@SH⟩
def wq9l:Code:=Tryz.f36.body.getD .skip
def wqly(k:Nat){R:Type}(x0:(List ((List UInt8)×(List Int))))(x1:(List dT56))(x2 x3:Int)(K:((List ((List UInt8)×(List Int)))→(List dT56)→Int→Int→Option R)): Option R:=K x0 x1 x2 x3
theorem wqpy(k:Nat){R:Type}(I:Nat→St→Option R)(x0:(List ((List UInt8)×(List Int))))(x1:(List dT56))(x2 x3:Int)(K:((List ((List UInt8)×(List Int)))→(List dT56)→Int→Int→Option R)): fnCK (wqf3 k) k (at_ [1] wq9l) 13 [] wqjp [.ptr 1 0,.ptr 2 0] 5 (.nilif) [(1,.var 27 [.v (.sl (.pr .str (.sl (.int .i64)))) x0,.v (.sl (.pr .str (.pr .str (.pr .bool (.pr (.int .i64) (.pr (.int .i64) (.pr .bool (.pr (.pr .str (.pr (.int .i64) (.pr (.int .i64) (.pr .flt (.pr .bool .bool))))) (.sl (.int .i64)))))))))) x1]),(2,.var 29 [.v (.int .i64) x2,.v (.int .i64) x3])] (wqcm K)=wqly k x0 x1 x2 x3 K:=by kernel_rfl
def wqad(k:Nat){R:Type}(x0:(List ((List UInt8)×(List Int))))(x1:(List dT56))(x2 x3:Int)(K:((List ((List UInt8)×(List Int)))→(List dT56)→Int→Int→Option R)): Option R:=wqly k x0 x1 x2 x3 K
theorem wqpz(k:Nat){R:Type}(x0:(List ((List UInt8)×(List Int))))(x1:(List dT56))(x2 x3:Int)(K:((List ((List UInt8)×(List Int)))→(List dT56)→Int→Int→Option R)): fnCK (wqf3 k) k (at_ [1] wq9l) 13 [] wqjp [.ptr 1 0,.ptr 2 0] 5 (.nilif) [(1,.var 27 [.v (.sl (.pr .str (.sl (.int .i64)))) x0,.v (.sl (.pr .str (.pr .str (.pr .bool (.pr (.int .i64) (.pr (.int .i64) (.pr .bool (.pr (.pr .str (.pr (.int .i64) (.pr (.int .i64) (.pr .flt (.pr .bool .bool))))) (.sl (.int .i64)))))))))) x1]),(2,.var 29 [.v (.int .i64) x2,.v (.int .i64) x3])] (wqcm K)=wqad k x0 x1 x2 x3 K:=by
 exact wqpy k (fun _ _=>none) x0 x1 x2 x3 K
def wqip(k:Nat){R:Type}: PV→List PV→List (Nm×HObj)→(Out→Option R)→Option R
 |.nilif,[.ptr 1 0,.ptr 2 0],[(1,.var 27 [.v (.sl (.pr .str (.sl (.int .i64)))) x0,.v (.sl (.pr .str (.pr .str (.pr .bool (.pr (.int .i64) (.pr (.int .i64) (.pr .bool (.pr (.pr .str (.pr (.int .i64) (.pr (.int .i64) (.pr .flt (.pr .bool .bool))))) (.sl (.int .i64)))))))))) x1]),(2,.var 29 [.v (.int .i64) x2,.v (.int .i64) x3])],K=>wqad k x0 x1 x2 x3 (fun y0 y1 y2 y3=>K (.ret [] [(1,.var 27 [.v (.sl (.pr .str (.sl (.int .i64)))) y0,.v (.sl (.pr .str (.pr .str (.pr .bool (.pr (.int .i64) (.pr (.int .i64) (.pr .bool (.pr (.pr .str (.pr (.int .i64) (.pr (.int .i64) (.pr .flt (.pr .bool .bool))))) (.sl (.int .i64)))))))))) y1]),(2,.var 29 [.v (.int .i64) y2,.v (.int .i64) y3])]))
 |_,_,_,_=>none
theorem wqq0(k:Nat): (wqlx k).Ok Tryz.prog:=CTab.nil_ok
theorem wqua(k:Nat){rec:PV}{ps:List PV}{hp:List (Nm×HObj)}{R:Type}{K:Out→Option R}{r:R}(h:wqip k rec ps hp K=some r): DoesToD Tryz.prog 36 rec ps hp fun out=>K out=some r:=by
 unfold wqip at h
 split at h
 ·rw[←wqpz]at h
  have:=wqxs (P:=Tryz.prog) (cx:=wqf3 k) (f:=36) ⟨tyT_ok,wqq0 k,fun _ _=>rfl⟩ (by kernel_rfl) (fn:=Tryz.f36) (id:=0) (ops:=opsAt (at_ [0] wq9l)) (c:=at_ [1] wq9l) (by kernel_rfl) (by kernel_rfl) (by kernel_rfl) (rs:=[]) (by kernel_rfl) (by kernel_rfl) h
  exact this.mono fun out ho=>by
   unfold wqcm at ho
   split at ho<;>first|exact ho|cases ho
 ·cases h
def wqlz(k:Nat): CTab:=CTab.nil
def wqcn{R:Type}(K:((List ((List UInt8)×(List Int)))→(List dT56)→Int→Int→Option R)): Out→Option R
 |.ret [] [(1,.var 27 [.v (.sl (.pr .str (.sl (.int .i64)))) y0,.v (.sl (.pr .str (.pr .str (.pr .bool (.pr (.int .i64) (.pr (.int .i64) (.pr .bool (.pr (.pr .str (.pr (.int .i64) (.pr (.int .i64) (.pr .flt (.pr .bool .bool))))) (.sl (.int .i64)))))))))) y1]),(2,.var 29 [.v (.int .i64) y2,.v (.int .i64) y3])]=>K y0 y1 y2 y3
 |_=>none
def wqjq:RetSpec:=⟨[],[(1,.obj 1 [.sl (.pr .str (.sl (.int .i64))),.sl (.pr .str (.pr .str (.pr .bool (.pr (.int .i64) (.pr (.int .i64) (.pr .bool (.pr (.pr .str (.pr (.int .i64) (.pr (.int .i64) (.pr .flt (.pr .bool .bool))))) (.sl (.int .i64)))))))))]),(2,.obj 2 [.any,.any])],[]⟩
def wqq1:List (Nat×CutSpec):=[]
def wqnu:List (Nat×Plan):=[(7,(.of [(0,1),(1,2),(2,0),(3,0)] .done))]
def wqf4(k:Nat): Ctx:=⟨tyT,wqq1,wqlz k,[],[1,2],wqnu,@SH⟩
def wq9m:Code:=Tryz.f36.body.getD .skip
def wqm0(k:Nat){R:Type}(x0:(List ((List UInt8)×(List Int))))(x1:(List dT56))(x2 x3 x4 x5:Int)(K:((List ((List UInt8)×(List Int)))→(List dT56)→Int→Int→Option R)): Option R:=K [] [] x4 x5
theorem wqq2(k:Nat){R:Type}(I:Nat→St→Option R)(x0:(List ((List UInt8)×(List Int))))(x1:(List dT56))(x2 x3 x4 x5:Int)(K:((List ((List UInt8)×(List Int)))→(List dT56)→Int→Int→Option R)): fnCK (wqf4 k) k (at_ [1] wq9m) 13 [] wqjq [.ptr 1 0,.ptr 2 0] 5 (.ifc 29 (.agg [.v (.int .i64) x4,.v (.int .i64) x5])) [(1,.var 27 [.v (.sl (.pr .str (.sl (.int .i64)))) x0,.v (.sl (.pr .str (.pr .str (.pr .bool (.pr (.int .i64) (.pr (.int .i64) (.pr .bool (.pr (.pr .str (.pr (.int .i64) (.pr (.int .i64) (.pr .flt (.pr .bool .bool))))) (.sl (.int .i64)))))))))) x1]),(2,.var 29 [.v (.int .i64) x2,.v (.int .i64) x3])] (wqcn K)=wqm0 k x0 x1 x2 x3 x4 x5 K:=by kernel_rfl
def wqae(k:Nat){R:Type}(x0:(List ((List UInt8)×(List Int))))(x1:(List dT56))(x2 x3 x4 x5:Int)(K:((List ((List UInt8)×(List Int)))→(List dT56)→Int→Int→Option R)): Option R:=wqm0 k x0 x1 x2 x3 x4 x5 K
theorem wqq3(k:Nat){R:Type}(x0:(List ((List UInt8)×(List Int))))(x1:(List dT56))(x2 x3 x4 x5:Int)(K:((List ((List UInt8)×(List Int)))→(List dT56)→Int→Int→Option R)): fnCK (wqf4 k) k (at_ [1] wq9m) 13 [] wqjq [.ptr 1 0,.ptr 2 0] 5 (.ifc 29 (.agg [.v (.int .i64) x4,.v (.int .i64) x5])) [(1,.var 27 [.v (.sl (.pr .str (.sl (.int .i64)))) x0,.v (.sl (.pr .str (.pr .str (.pr .bool (.pr (.int .i64) (.pr (.int .i64) (.pr .bool (.pr (.pr .str (.pr (.int .i64) (.pr (.int .i64) (.pr .flt (.pr .bool .bool))))) (.sl (.int .i64)))))))))) x1]),(2,.var 29 [.v (.int .i64) x2,.v (.int .i64) x3])] (wqcn K)=wqae k x0 x1 x2 x3 x4 x5 K:=by
 exact wqq2 k (fun _ _=>none) x0 x1 x2 x3 x4 x5 K
def wqiq(k:Nat){R:Type}: PV→List PV→List (Nm×HObj)→(Out→Option R)→Option R
 |.ifc 29 (.agg [.v (.int .i64) x4,.v (.int .i64) x5]),[.ptr 1 0,.ptr 2 0],[(1,.var 27 [.v (.sl (.pr .str (.sl (.int .i64)))) x0,.v (.sl (.pr .str (.pr .str (.pr .bool (.pr (.int .i64) (.pr (.int .i64) (.pr .bool (.pr (.pr .str (.pr (.int .i64) (.pr (.int .i64) (.pr .flt (.pr .bool .bool))))) (.sl (.int .i64)))))))))) x1]),(2,.var 29 [.v (.int .i64) x2,.v (.int .i64) x3])],K=>wqae k x0 x1 x2 x3 x4 x5 (fun y0 y1 y2 y3=>K (.ret [] [(1,.var 27 [.v (.sl (.pr .str (.sl (.int .i64)))) y0,.v (.sl (.pr .str (.pr .str (.pr .bool (.pr (.int .i64) (.pr (.int .i64) (.pr .bool (.pr (.pr .str (.pr (.int .i64) (.pr (.int .i64) (.pr .flt (.pr .bool .bool))))) (.sl (.int .i64)))))))))) y1]),(2,.var 29 [.v (.int .i64) y2,.v (.int .i64) y3])]))
 |_,_,_,_=>none
theorem wqq4(k:Nat): (wqlz k).Ok Tryz.prog:=CTab.nil_ok
theorem wqub(k:Nat){rec:PV}{ps:List PV}{hp:List (Nm×HObj)}{R:Type}{K:Out→Option R}{r:R}(h:wqiq k rec ps hp K=some r): DoesToD Tryz.prog 36 rec ps hp fun out=>K out=some r:=by
 unfold wqiq at h
 split at h
 ·rw[←wqq3]at h
  have:=wqxs (P:=Tryz.prog) (cx:=wqf4 k) (f:=36) ⟨tyT_ok,wqq4 k,fun _ _=>rfl⟩ (by kernel_rfl) (fn:=Tryz.f36) (id:=0) (ops:=opsAt (at_ [0] wq9m)) (c:=at_ [1] wq9m) (by kernel_rfl) (by kernel_rfl) (by kernel_rfl) (rs:=[]) (by kernel_rfl) (by kernel_rfl) h
  exact this.mono fun out ho=>by
   unfold wqcn at ho
   split at ho<;>first|exact ho|cases ho
 ·cases h
def h_config_gives:Sh:=⟨[.g [.a kI,.a kI]],some ([],[]),some ([],[.i 29 (.g [.a kI,.a kI])])⟩
abbrev wq29:Type 1:=(R:Type)→Int→Int→(Unit→Option R)→(Int→Int→Option R)→Option R
def wqz5(k:Nat): Cxt:=⟨[],[],[],[]⟩
def wqhu(k:Nat){R:Type}(x0 x1:Int)(K:(Unit→Option R))(E:(Int→Int→Option R)): Option R:=cond (x0 != 0) (E x0 x1) (K @Unit.unit)
def wqq:=@wqhu
theorem wq5w(k:Nat): DOK Tryz.prog 69 (h_config_gives.run (@wqq k)):=dok h_config_gives (wqz5 k) Tryz.f69 k ok0 (by kernel_rfl) (by kernel_rfl) fun R=>by kernel_rfl
def wqbq(k:Nat): Ent:=h_config_gives.e 69 (@wqq k)
def h_config_reader_line:Sh:=⟨[.l kdT37,.a kI],some ([],[.a kI]),none⟩
def wqmg(k:Nat): Cxt:=⟨[],[],[],[]⟩
def wqf5(k:Nat){R:Type}(x0:dT37)(x1:Int)(K:(Int→Option R)): Option R:=cond (inb x1 (x0.length:Int)) (K ((x0.getD x1.toNat kdT72.zero).2).1) none
def wq85:=@wqf5
theorem wqmh(k:Nat): DOK Tryz.prog 125 (h_config_reader_line.run (@wq85 k)):=dok h_config_reader_line (wqmg k) Tryz.f125 k ok0 (by kernel_rfl) (by kernel_rfl) fun R=>by kernel_rfl
def wqmi(k:Nat): Ent:=h_config_reader_line.e 125 (@wq85 k)
def h_config_reader_fault:Sh:=⟨[.l kdT37,.a kI,.a kI],none,some ([],[.i 29 (.g [.a kI,.a kI])])⟩
abbrev wqt:Type 1:=(R:Type)→dT37→Int→Int→(Int→Int→Option R)→Option R
def wqlc(k:Nat): Cxt:=⟨[wqbq k,wqmi k],[],[],[]⟩
def wqea(k:Nat){R:Type}(x0:dT37)(x1 x2:Int)(E:(Int→Int→Option R)): Option R:=wq85 k x0 x1 (fun y6=>wqq k x2 y6 (fun y7=>none) E)
def wqc:=@wqea
theorem wq5s(k:Nat): DOK Tryz.prog 75 (h_config_reader_fault.run (@wqc k)):=dok h_config_reader_fault (wqlc k) Tryz.f75 k (ok1 (wq5w k) (ok1 (wqmh k) ok0)) (by kernel_rfl) (by kernel_rfl) fun R=>by kernel_rfl
def wqld(k:Nat): Ent:=h_config_reader_fault.e 75 (@wqc k)
def h_field_Seen_fault:Sh:=⟨[.g [.s kdT72],.a kI,.a kI],some ([],[.g [.a kI,.a kI]]),none⟩
abbrev wqbr:Type 1:=(R:Type)→(List dT72)→Int→Int→(Int→Int→Option R)→Option R
def wqq5(k:Nat): Cxt:=⟨[],[],[],[]⟩
def wqco(k:Nat){R:Type}(x0:(List dT72))(x1 x2:Int)(K:(Int→Int→Option R)): Option R:=cond (inb x1 (x0.length:Int)) (K x2 ((x0.getD x1.toNat kdT72.zero).2).1) none
def wq2c:=@wqco
theorem wq4b(k:Nat): DOK Tryz.prog 114 (h_field_Seen_fault.run (@wq2c k)):=dok h_field_Seen_fault (wqq5 k) Tryz.f114 k ok0 (by kernel_rfl) (by kernel_rfl) fun R=>by kernel_rfl
def wq4z(k:Nat): Ent:=h_field_Seen_fault.e 114 (@wq2c k)
def h_field_Seen_Need:Sh:=⟨[.g [.s kdT72],.a kI,.a kI],some ([],[.g [.a kI,.a kI]]),none⟩
abbrev wq4c:Type 1:=(R:Type)→(List dT72)→Int→Int→(Int→Int→Option R)→Option R
def wqs1(k:Nat): Cxt:=⟨[wq4z k],[],[],[]⟩
def wqir(k:Nat){R:Type}(x0:(List dT72))(x1 x2:Int)(K:(Int→Int→Option R)): Option R:=cond (inb x1 (x0.length:Int)) (cond ((x0.getD x1.toNat kdT72.zero).1 != x2) (wq2c k x0 x1 11 K) (K 0 0)) none
def wq1n:=@wqir
theorem wq6y(k:Nat): DOK Tryz.prog 112 (h_field_Seen_Need.run (@wq1n k)):=dok h_field_Seen_Need (wqs1 k) Tryz.f112 k (ok1 (wq4b k) ok0) (by kernel_rfl) (by kernel_rfl) fun R=>by kernel_rfl
def wq8l(k:Nat): Ent:=h_field_Seen_Need.e 112 (@wq1n k)
def h_field_Seen_bare:Sh:=⟨[.g [.s kdT72],.a kI,.a kI],some ([],[.a .str,.g [.a kI,.a kI]]),none⟩
abbrev wqcp:Type 1:=(R:Type)→(List dT72)→Int→Int→((List UInt8)→Int→Int→Option R)→Option R
def wqs2(k:Nat): Cxt:=⟨[wq8l k,wq4z k],[],[],[(3,(.of [(1,1),(0,1),(2,0)] .done))]⟩
def wqis(k:Nat){R:Type}(x0:(List dT72))(x1 x2:Int)(K:((List UInt8)→Int→Int→Option R)): Option R:=wq1n k x0 x1 1 (fun y6 y7=>cond (y6 != 0) (K [] y6 y7) (cond (inb x1 (x0.length:Int)) (cond ((((x0.getD x1.toNat kdT72.zero).2).2).2).1 (wq2c k x0 x1 x2 (fun y8 y9=>K [] y8 y9)) (cond (inb x1 (x0.length:Int)) (K (((x0.getD x1.toNat kdT72.zero).2).2).1 0 0) none)) none))
def wq40:=@wqis
theorem wqe1(k:Nat): DOK Tryz.prog 171 (h_field_Seen_bare.run (@wq40 k)):=dok h_field_Seen_bare (wqs2 k) Tryz.f171 k (ok1 (wq6y k) (ok1 (wq4b k) ok0)) (by kernel_rfl) (by kernel_rfl) fun R=>by kernel_rfl
def wqit(k:Nat): Ent:=h_field_Seen_bare.e 171 (@wq40 k)
def h_field_Seen_Bool:Sh:=⟨[.g [.s kdT72],.a kI],some ([],[.a .bool,.g [.a kI,.a kI]]),none⟩
def wqs3(k:Nat): Cxt:=⟨[wq4z k,wqit k],[],[],[(3,(.of [(1,1),(0,1),(2,0)] .done))]⟩
def wqiu(k:Nat){R:Type}(x0:(List dT72))(x1:Int)(K:(Bool→Int→Int→Option R)): Option R:=wq40 k x0 x1 14 (fun y5 y6 y7=>cond (y6 != 0) (K false y6 y7) (cond (cond (!(y5 == [(116:UInt8),114,117,101])) (!(y5 == [(102:UInt8),97,108,115,101])) false) (wq2c k x0 x1 14 (fun y8 y9=>K false y8 y9)) (K (y5 == [(116:UInt8),114,117,101]) 0 0)))
def wq6z:=@wqiu
theorem wqs4(k:Nat): DOK Tryz.prog 241 (h_field_Seen_Bool.run (@wq6z k)):=dok h_field_Seen_Bool (wqs3 k) Tryz.f241 k (ok1 (wq4b k) (ok1 (wqe1 k) ok0)) (by kernel_rfl) (by kernel_rfl) fun R=>by kernel_rfl
def wqs5(k:Nat): Ent:=h_field_Seen_Bool.e 241 (@wq6z k)
def h_slices_Index___string_string:Sh:=⟨[.s .str,.a .str],some ([],[.a kI]),none⟩
def u_slices_Index___string_string_1002:Cu:=⟨0,[0,1,7,8],[.s .str,.a .str,.a kI,.a kI]⟩
def wq8m(k:Nat): Cxt:=⟨[],[],[(1002,u_slices_Index___string_string_1002.spec)],[]⟩
def wq2v(k:Nat){R:Type}(E1002:((List (List UInt8))→(List UInt8)→Int→Int→Option R))(s0:(List (List UInt8)))(s1:(List UInt8))(s2 s3:Int)(K:(Int→Option R)): Option R:=cond (decide (s3<s2)) (cond (inb s3 (s0.length:Int)) (cond (s1 == (s0.getD s3.toNat Kd.str.zero)) (K s3) (E1002 s0 s1 s2 (@Go.IntKind.wrap Go.IntKind.i64 (s3+1)))) none) (K (@Neg.neg Int @Int.instNegInt (1:Int)))
def wq41(k:Nat){R:Type}(E1002:((List (List UInt8))→(List UInt8)→Int→Int→Option R))(x0:(List (List UInt8)))(x1:(List UInt8))(K:(Int→Option R)): Option R:=E1002 x0 x1 (x0.length:Int) 0
def wq1a(k:Nat){R:Type}: Nat→(List (List UInt8))→(List UInt8)→Int→Int→(Int→Option R)→Option R
 |0,_,_,_,_,_=>none
 |n+1,s0,s1,s2,s3,K=>wq2v k (fun s0 s1 s2 s3=>wq1a k n s0 s1 s2 s3 K) s0 s1 s2 s3 K
theorem wqa4(k:Nat){R:Type}: ∀(I:Nat→St→Option R) (n:Nat),h_slices_Index___string_string.lp u_slices_Index___string_string_1002 (wq8m k).cx k Tryz.f166 1002 [1,0,1,0] I n=wq1a k n:=h_slices_Index___string_string.lok u_slices_Index___string_string_1002 (B:=wq2v k) (L:=wq1a k) (fun I=>by kernel_rfl) (fun I=>by kernel_rfl) (fun n=>by kernel_rfl) (fun _ _ _ _=>rfl)
def wq28(k:Nat){R:Type}(x0:(List (List UInt8)))(x1:(List UInt8))(K:(Int→Option R)): Option R:=wq41 k (fun s0 s1 s2 s3=>wq1a k k s0 s1 s2 s3 K) x0 x1 K
theorem wq5k(k:Nat): DOK Tryz.prog 166 (h_slices_Index___string_string.run (@wq28 k)):=dok h_slices_Index___string_string (wq8m k) Tryz.f166 k ok0 (by kernel_rfl) (by kernel_rfl) fun R=>h_slices_Index___string_string.f1 u_slices_Index___string_string_1002 (wq41 k) (by kernel_rfl) (wqa4 k (fun _ _=>none) k) (by kernel_rfl)
def wq5l(k:Nat): Ent:=h_slices_Index___string_string.e 166 (@wq28 k)
def h_field_Seen_Find:Sh:=⟨[.g [.s kdT72],.a kI,.a .str],some ([],[.a kI,.a .bool]),none⟩
abbrev wq38:Type 1:=(R:Type)→(List dT72)→Int→(List UInt8)→(Int→Bool→Option R)→Option R
def wqs6(k:Nat): Cxt:=⟨[wq5l k],[],[],[]⟩
def wqiv(k:Nat){R:Type}(x0:(List dT72))(x1:Int)(x2:(List UInt8))(K:(Int→Bool→Option R)): Option R:=cond (inb x1 (x0.length:Int)) (wq28 k (((((x0.getD x1.toNat kdT72.zero).2).2).2).2).1 x2 (fun y6=>cond (cond ((x0.getD x1.toNat kdT72.zero).1 != 3) true (decide (y6<0))) (K 0 false) (cond (inb y6 (((((((x0.getD x1.toNat kdT72.zero).2).2).2).2).2).length:Int)) (K (((((((x0.getD x1.toNat kdT72.zero).2).2).2).2).2).getD y6.toNat kI.zero) true) none))) none
def wqv:=@wqiv
theorem wq70(k:Nat): DOK Tryz.prog 123 (h_field_Seen_Find.run (@wqv k)):=dok h_field_Seen_Find (wqs6 k) Tryz.f123 k (ok1 (wq5k k) ok0) (by kernel_rfl) (by kernel_rfl) fun R=>by kernel_rfl
def wqal(k:Nat): Ent:=h_field_Seen_Find.e 123 (@wqv k)
def h_config_reader_bool:Sh:=⟨[.l kdT37,.a kI,.a .str],some ([],[.a .bool]),some ([],[.i 29 (.g [.a kI,.a kI])])⟩
abbrev wq2l:Type 1:=(R:Type)→dT37→Int→(List UInt8)→(Bool→Option R)→(Int→Int→Option R)→Option R
def wqmj(k:Nat): Cxt:=⟨[wqbq k,wqal k,wqs5 k],[],[],[]⟩
def wqf6(k:Nat){R:Type}(x0:dT37)(x1:Int)(x2:(List UInt8))(K:(Bool→Option R))(E:(Int→Int→Option R)): Option R:=wqv k x0 x1 x2 (fun y7 y8=>cond (!y8) (K false) (wq6z k x0 y7 (fun y9 y10 y11=>wqq k y10 y11 (fun y12=>K y9) E)))
def wq17:=@wqf6
theorem wqf7(k:Nat): DOK Tryz.prog 207 (h_config_reader_bool.run (@wq17 k)):=dok h_config_reader_bool (wqmj k) Tryz.f207 k (ok1 (wq5w k) (ok1 (wq70 k) (ok1 (wqs4 k) ok0))) (by kernel_rfl) (by kernel_rfl) fun R=>by kernel_rfl
def h_config_reader_items:Sh:=⟨[.l kdT37,.a kI,.a .str],some ([],[.s kI]),some ([],[.i 29 (.g [.a kI,.a kI])])⟩
abbrev wq4d:Type 1:=(R:Type)→dT37→Int→(List UInt8)→((List Int)→Option R)→(Int→Int→Option R)→Option R
def wqle(k:Nat): Cxt:=⟨[wqbq k,wq8l k,wqal k],[],[],[]⟩
def wqeb(k:Nat){R:Type}(x0:dT37)(x1:Int)(x2:(List UInt8))(K:((List Int)→Option R))(E:(Int→Int→Option R)): Option R:=wqv k x0 x1 x2 (fun y7 y8=>cond (!y8) (K []) (wq1n k x0 y7 2 (fun y9 y10=>wqq k y9 y10 (fun y11=>cond (inb y7 (x0.length:Int)) (K (((((x0.getD y7.toNat kdT72.zero).2).2).2).2).2) none) E)))
def wq26:=@wqeb
theorem wqec(k:Nat): DOK Tryz.prog 74 (h_config_reader_items.run (@wq26 k)):=dok h_config_reader_items (wqle k) Tryz.f74 k (ok1 (wq5w k) (ok1 (wq6y k) (ok1 (wq70 k) ok0))) (by kernel_rfl) (by kernel_rfl) fun R=>by kernel_rfl
def wqlf(k:Nat): Ent:=h_config_reader_items.e 74 (@wq26 k)
def h_config_reader_must:Sh:=⟨[.l kdT37,.a kI,.a .str],some ([],[.a kI]),some ([],[.i 29 (.g [.a kI,.a kI])])⟩
abbrev wqx:Type 1:=(R:Type)→dT37→Int→(List UInt8)→(Int→Option R)→(Int→Int→Option R)→Option R
def wqmk(k:Nat): Cxt:=⟨[wqld k,wqal k],[],[],[]⟩
def wqf8(k:Nat){R:Type}(x0:dT37)(x1:Int)(x2:(List UInt8))(K:(Int→Option R))(E:(Int→Int→Option R)): Option R:=wqv k x0 x1 x2 (fun y7 y8=>cond (!y8) (wqc k x0 x1 10 E) (K y7))
def wqk:=@wqf8
theorem wq86(k:Nat): DOK Tryz.prog 73 (h_config_reader_must.run (@wqk k)):=dok h_config_reader_must (wqmk k) Tryz.f73 k (ok1 (wq5s k) (ok1 (wq70 k) ok0)) (by kernel_rfl) (by kernel_rfl) fun R=>by kernel_rfl
def h_desc_Name:Sh:=⟨[.a .str],some ([],[.a .bool]),none⟩
abbrev wqml:Type 1:=(R:Type)→(List UInt8)→(Bool→Option R)→Option R
def u_desc_Name_1002:Cu:=⟨0,[0,5,6],[.a .str,.a kI,.a kI]⟩
def wqxu(k:Nat): Cxt:=⟨[],[],[(1002,u_desc_Name_1002.spec)],[]⟩
def wqbs(k:Nat){R:Type}(E1002:((List UInt8)→Int→Int→Option R))(s0:(List UInt8))(s1 s2:Int)(K:(Bool→Option R)): Option R:=cond (decide (s2<s1)) (cond (inb s2 (s0.length:Int)) (cond ((!((decide (((s0.getD s2.toNat 0).toNat:Int)<33)) == false)) || (inb s2 (s0.length:Int))) (cond (cond (decide (((s0.getD s2.toNat 0).toNat:Int)<33)) true (decide (((s0.getD s2.toNat 0).toNat:Int)>126))) (K false) (E1002 s0 s1 (@Go.IntKind.wrap Go.IntKind.i64 (s2+1)))) none) none) (K (cond (decide ((s0.length:Int)≥1)) (decide ((s0.length:Int)≤64)) false))
def wqq6(k:Nat){R:Type}(E1002:((List UInt8)→Int→Int→Option R))(x0:(List UInt8))(K:(Bool→Option R)): Option R:=E1002 x0 (x0.length:Int) 0
def wq6d(k:Nat){R:Type}: Nat→(List UInt8)→Int→Int→(Bool→Option R)→Option R
 |0,_,_,_,_=>none
 |n+1,s0,s1,s2,K=>wqbs k (fun s0 s1 s2=>wq6d k n s0 s1 s2 K) s0 s1 s2 K
theorem wqnv(k:Nat){R:Type}: ∀(I:Nat→St→Option R) (n:Nat),h_desc_Name.lp u_desc_Name_1002 (wqxu k).cx k Tryz.f33 1002 [1,0,1,0] I n=wq6d k n:=h_desc_Name.lok u_desc_Name_1002 (B:=wqbs k) (L:=wq6d k) (fun I=>by kernel_rfl) (fun I=>by kernel_rfl) (fun n=>by kernel_rfl) (fun _ _ _ _=>rfl)
def wq8u(k:Nat){R:Type}(x0:(List UInt8))(K:(Bool→Option R)): Option R:=wqq6 k (fun s0 s1 s2=>wq6d k k s0 s1 s2 K) x0 K
theorem wql0(k:Nat): DOK Tryz.prog 33 (h_desc_Name.run (@wq8u k)):=dok h_desc_Name (wqxu k) Tryz.f33 k ok0 (by kernel_rfl) (by kernel_rfl) fun R=>h_desc_Name.f1 u_desc_Name_1002 (wqq6 k) (by kernel_rfl) (wqnv k (fun _ _=>none) k) (by kernel_rfl)
def wqq7(k:Nat): Ent:=h_desc_Name.e 33 (@wq8u k)
def h_field_Seen_Name:Sh:=⟨[.g [.s kdT72],.a kI],some ([],[.a .str,.g [.a kI,.a kI]]),none⟩
def wqs7(k:Nat): Cxt:=⟨[wqq7 k,wq8l k,wq4z k],[],[],[(3,(.of [(1,1),(0,1),(2,0)] .done))]⟩
def wqiw(k:Nat){R:Type}(x0:(List dT72))(x1:Int)(K:((List UInt8)→Int→Int→Option R)): Option R:=wq1n k x0 x1 1 (fun y5 y6=>cond (y5 != 0) (K [] y5 y6) (cond (inb x1 (x0.length:Int)) (wq8u k (((x0.getD x1.toNat kdT72.zero).2).2).1 (fun y7=>cond y7 (K (((x0.getD x1.toNat kdT72.zero).2).2).1 0 0) (wq2c k x0 x1 12 (fun y8 y9=>K [] y8 y9)))) none))
def wq71:=@wqiw
theorem wqs8(k:Nat): DOK Tryz.prog 173 (h_field_Seen_Name.run (@wq71 k)):=dok h_field_Seen_Name (wqs7 k) Tryz.f173 k (ok1 (wql0 k) (ok1 (wq6y k) (ok1 (wq4b k) ok0))) (by kernel_rfl) (by kernel_rfl) fun R=>by kernel_rfl
def wqs9(k:Nat): Ent:=h_field_Seen_Name.e 173 (@wq71 k)
def h_config_reader_name:Sh:=⟨[.l kdT37,.a kI],some ([],[.a .str]),some ([],[.i 29 (.g [.a kI,.a kI])])⟩
abbrev wq1z:Type 1:=(R:Type)→dT37→Int→((List UInt8)→Option R)→(Int→Int→Option R)→Option R
def wqmm(k:Nat): Cxt:=⟨[wqbq k,wqs9 k],[],[],[]⟩
def wqf9(k:Nat){R:Type}(x0:dT37)(x1:Int)(K:((List UInt8)→Option R))(E:(Int→Int→Option R)): Option R:=wq71 k x0 x1 (fun y6 y7 y8=>wqq k y7 y8 (fun y9=>K y6) E)
def wq10:=@wqf9
theorem wqaz(k:Nat): DOK Tryz.prog 126 (h_config_reader_name.run (@wq10 k)):=dok h_config_reader_name (wqmm k) Tryz.f126 k (ok1 (wq5w k) (ok1 (wqs8 k) ok0)) (by kernel_rfl) (by kernel_rfl) fun R=>by kernel_rfl
theorem wq1a0{h:Heap}{G:Gh}{w:World}{P:Program}{x:List Int}{v:Value}(hv:RV h G w (.v (.sl (.int .u8)) x) v): (Extern.Bytes.bytesOf v).run P w = .ok ⟨(wq4a x).toArray⟩ w:=by
 obtain⟨A,cap,e,hcap,hr⟩:=hv
 simp only[List.cons.injEq,and_true]at e
 subst e
 rcases hr with rfl|⟨ad,rfl,h1,h2,h3⟩
 ·cases A with
  |none=>rfl
  |some a=>rfl
 ·have hl:=Lib.run_loadBytesX (P:=P) w x ad .empty (fun j y hj=>by
   obtain⟨c,hc,hu⟩:=h3 j y hj
   have hc':c=[.int .u8 y]:=hc
   subst hc'
   have:=hu 0 _ rfl
   have e1:j*(Kd.int .u8).sz+0=j:=by simp[Kd.sz]
   rw[e1]at this
   exact this)
  have e2:(⟨ByteArray.empty.data++(Lib.bytesOf x).toArray⟩:ByteArray)=⟨(wq4a x).toArray⟩:=by
   apply ByteArray.ext
   show(#[]:Array UInt8)++(Lib.bytesOf x).toArray=(wq4a x).toArray
   simp[Lib.bytesOf,wq4a]
  rw[e2]at hl
  exact hl
theorem wqz6{G:Gh}{w:World}: Fin [] [] G w G w :=
 ⟨fun n o h=>(by cases h),fun n m b h=>(by simp[blkOf,mkH,look]at h),fun n t cs h=>(by cases h),fun n ag V es h=>(by cases h),fun _ _ _=>rfl,rfl,fun n b h=>(by simp[blkOf,mkH,look]at h),Nat.le_refl _,rfl,rfl,rfl⟩
theorem wq16c {P:Program} {f:FuncId} {fn:Func} {g:Array Value→Sem Value} (h1:P.funcs[f]? = some fn) (h2:(fn.name == "runtime.NumGoroutine")=false) (h3:fn.body.isNone=true) (h4:(Extern.findNext fn).isNone=true)
 (h5:Extern.find fn=some g) (args:Array Value) (w:World) {v:Value} (h6:(g args).run P w = .ok v w):(callFunc f args).run P w = .ok (.value v) w:=by
 have h4':Extern.findNext fn=none:=by
  cases hq:Extern.findNext fn with
  |none=>rfl
  |some e=>rw[hq]at h4;cases h4
 have h2':¬ fn.name = "runtime.NumGoroutine" := by simpa using h2
 have e1:(callFunc f args).run P w=(g args >>= fun v=>pure (Next.value v)).run P w:=by
  unfold callFunc
  rw[Sem.run_bind]
  have e2:(program).run P w = .ok P w:=rfl
  rw[e2,Result.andThen_ok,h1]
  simp only[h2,h3,if_true,Bool.false_eq_true,if_false]
  rw[Sem.run_bind]
  have e3:(mark (.extern f)).run P w = .ok () w:=rfl
  rw[e3,Result.andThen_ok,h4',h5]
 rw[e1,Sem.run_bind,h6]
 rfl
def wqb0:List LS:=[.any]
def wq50(k:Nat){R:Type}(x0:Nat)(K:Int→Option R): Option R:=K (x0:Int)
def wq6e(k:Nat){R:Type}: List PV→List (Nm×HObj)→(Out→Option R)→Option R
 |[.v (.flt) x0],[],K=>wq50 k x0 (fun y0=>K (.ret [.v (.int .u64) y0] []))
 |_,_,_=>none
theorem wqcq(k:Nat){ps:List PV}{hp:List (Nm×HObj)}{R:Type}{K:Out→Option R}{r:R}(h:wq6e k ps hp K=some r): DoesTo Tryz.prog 170 ps hp fun out=>K out=some r:=by
 unfold wq6e at h
 split at h
 ·next x0 =>
  intro G w vals hr obj dis
  obtain⟨v0,l0,rfl,h0,rfl⟩:=hr
  have e0:v0 = .float .f64 x0:=by simpa [RV,RD]using h0
  subst e0
  have hrun:(callFunc 170 #[.float .f64 x0]).run Tryz.prog w = .ok (.value (.int .u64 (x0:Int))) w :=
   wq16c (fn:=Tryz.f170) (g:=Extern.MathFloatBits.float64bits) (by kernel_rfl) (by kernel_rfl) (by kernel_rfl) (by kernel_rfl) (by kernel_rfl) _ w rfl
  show Does _ _ #[_] _ _
  unfold Does
  rw[hrun]
  exact⟨.ret [.v (.int .u64) _] [],h,G,⟨_,rfl,rfl⟩,wqz6⟩
 ·cases h
def wq5x:List LS:=[.any]
def wq3a(k:Nat){R:Type}(x0:Int)(K:Nat→Option R): Option R:=K x0.toNat
def wq3o(k:Nat){R:Type}: List PV→List (Nm×HObj)→(Out→Option R)→Option R
 |[.v (.int .u64) x0],[],K=>wq3a k x0 (fun y0=>K (.ret [.v (.flt) y0] []))
 |_,_,_=>none
theorem wq7b(k:Nat){ps:List PV}{hp:List (Nm×HObj)}{R:Type}{K:Out→Option R}{r:R}(h:wq3o k ps hp K=some r): DoesTo Tryz.prog 167 ps hp fun out=>K out=some r:=by
 unfold wq3o at h
 split at h
 ·next x0 =>
  intro G w vals hr obj dis
  obtain⟨v0,l0,rfl,h0,rfl⟩:=hr
  have e0:v0 = .int .u64 x0:=by simpa [RV,RD]using h0
  subst e0
  have hrun:(callFunc 167 #[.int .u64 x0]).run Tryz.prog w = .ok (.value (.float .f64 x0.toNat)) w :=
   wq16c (fn:=Tryz.f167) (g:=Extern.MathFloatBits.float64frombits) (by kernel_rfl) (by kernel_rfl) (by kernel_rfl) (by kernel_rfl) (by kernel_rfl) _ w rfl
  show Does _ _ #[_] _ _
  unfold Does
  rw[hrun]
  exact⟨.ret [.v (.flt) _] [],h,G,⟨_,rfl,rfl⟩,wqz6⟩
 ·cases h
def h_math_Abs:Sh:=⟨[.a .flt],some ([],[.a .flt]),none⟩
abbrev wq51:Type 1:=(R:Type)→Nat→(Nat→Option R)→Option R
def wq1a1(k:Nat): Cxt:=⟨[⟨167,wq5x,wq3o k⟩,⟨170,wqb0,wq6e k⟩],[],[],[]⟩
def wq10y(k:Nat){R:Type}(x0:Nat)(K:(Nat→Option R)): Option R:=wq50 k x0 (fun y4=>wq3a k (ibits @Go.BinOp.andNot Go.IntKind.u64 y4 9223372036854775808) K)
def wq58:=@wq10y
theorem wqnw(k:Nat): DOK Tryz.prog 172 (h_math_Abs.run (@wq58 k)):=dok h_math_Abs (wq1a1 k) Tryz.f172 k (ok1 (fun _ _ _ _ _ h=>wq7b k h) (ok1 (fun _ _ _ _ _ h=>wqcq k h) ok0)) (by kernel_rfl) (by kernel_rfl) fun R=>by kernel_rfl
def wq1a2(k:Nat): Ent:=h_math_Abs.e 172 (@wq58 k)
def h_math_IsNaN:Sh:=⟨[.a .flt],some ([],[.a .bool]),none⟩
abbrev wqbe:Type 1:=(R:Type)→Nat→(Bool→Option R)→Option R
def wq13p(k:Nat): Cxt:=⟨[],[],[],[]⟩
def wquc(k:Nat){R:Type}(x0:Nat)(K:(Bool→Option R)): Option R:=K (@fltIs @Go.BinOp.neq x0 x0)
def wq33:=@wquc
theorem wqhv(k:Nat): DOK Tryz.prog 134 (h_math_IsNaN.run (@wq33 k)):=dok h_math_IsNaN (wq13p k) Tryz.f134 k ok0 (by kernel_rfl) (by kernel_rfl) fun R=>by kernel_rfl
def wqud(k:Nat): Ent:=h_math_IsNaN.e 134 (@wq33 k)
def h_math_Copysign:Sh:=⟨[.a .flt,.a .flt],some ([],[.a .flt]),none⟩
abbrev wqfa:Type 1:=(R:Type)→Nat→Nat→(Nat→Option R)→Option R
def wqwg(k:Nat): Cxt:=⟨[⟨167,wq5x,wq3o k⟩,⟨170,wqb0,wq6e k⟩],[],[],[]⟩
def wqm1(k:Nat){R:Type}(x0 x1:Nat)(K:(Nat→Option R)): Option R:=wq50 k x0 (fun y5=>wq50 k x1 (fun y6=>wq3a k (ibits @Go.BinOp.or Go.IntKind.u64 (ibits @Go.BinOp.andNot Go.IntKind.u64 y5 9223372036854775808) (ibits @Go.BinOp.and Go.IntKind.u64 y6 9223372036854775808)) K))
def wq7q:=@wqm1
theorem wqwh(k:Nat): DOK Tryz.prog 122 (h_math_Copysign.run (@wq7q k)):=dok h_math_Copysign (wqwg k) Tryz.f122 k (ok1 (fun _ _ _ _ _ h=>wq7b k h) (ok1 (fun _ _ _ _ _ h=>wqcq k h) ok0)) (by kernel_rfl) (by kernel_rfl) fun R=>by kernel_rfl
def h_math_Inf:Sh:=⟨[.a kI],some ([],[.a .flt]),none⟩
abbrev wqq8:Type 1:=(R:Type)→Int→(Nat→Option R)→Option R
def wq1a3(k:Nat): Cxt:=⟨[⟨167,wq5x,wq3o k⟩],[],[],[]⟩
def wq1a4(k:Nat){R:Type}(x0:Int)(K:(Nat→Option R)): Option R:=cond (decide (x0≥0)) (wq3a k 9218868437227405312 K) (wq3a k 18442240474082181120 K)
def wqh0:=@wq1a4
theorem wq1a5(k:Nat): DOK Tryz.prog 116 (h_math_Inf.run (@wqh0 k)):=dok h_math_Inf (wq1a3 k) Tryz.f116 k (ok1 (fun _ _ _ _ _ h=>wq7b k h) ok0) (by kernel_rfl) (by kernel_rfl) fun R=>by kernel_rfl
def h_math_NaN:Sh:=⟨[],some ([],[.a .flt]),none⟩
abbrev wqq9:Type 1:=(R:Type)→(Nat→Option R)→Option R
def wq1a6(k:Nat): Cxt:=⟨[⟨167,wq5x,wq3o k⟩],[],[],[]⟩
def wq1a7(k:Nat){R:Type}(K:(Nat→Option R)): Option R:=wq3a k 9221120237041090561 K
def wqjr:=@wq1a7
theorem wq1a8(k:Nat): DOK Tryz.prog 115 (h_math_NaN.run (@wqjr k)):=dok h_math_NaN (wq1a6 k) Tryz.f115 k (ok1 (fun _ _ _ _ _ h=>wq7b k h) ok0) (by kernel_rfl) (by kernel_rfl) fun R=>by kernel_rfl
def h_ratio_digits:Sh:=⟨[.a .str,.a kI],some ([],[.a .bool]),none⟩
abbrev wqgi:Type 1:=(R:Type)→(List UInt8)→Int→(Bool→Option R)→Option R
def u_ratio_digits_1002:Cu:=⟨0,[0,1,8],[.a .str,.a kI,.t 78]⟩
def wqnx(k:Nat): Cxt:=⟨[],[],[(1002,u_ratio_digits_1002.spec)],[]⟩
def wq91(k:Nat){R:Type}(E1002:((List UInt8)→Int→(List UInt8)→Int→Option R))(s0:(List UInt8))(s1:Int)(s2:(List UInt8))(s3:Int)(K:(Bool→Option R)): Option R:=cond (decide (s3<(s2.length:Int))) (cond (decide (s3<(s2.length:Int))) (cond (cond (decide ((nxtC s2 s3)<48)) true (decide ((nxtC s2 s3)>57))) (K false) (E1002 s0 s1 s2 (nxtP s2 s3))) none) (K (cond (decide ((s0.length:Int)≥1)) (decide ((s0.length:Int)≤s1)) false))
def wqhw(k:Nat){R:Type}(E1002:((List UInt8)→Int→(List UInt8)→Int→Option R))(x0:(List UInt8))(x1:Int)(K:(Bool→Option R)): Option R:=E1002 x0 x1 x0 0
def wq4l(k:Nat){R:Type}: Nat→(List UInt8)→Int→(List UInt8)→Int→(Bool→Option R)→Option R
 |0,_,_,_,_,_=>none
 |n+1,s0,s1,s2,s3,K=>wq91 k (fun s0 s1 s2 s3=>wq4l k n s0 s1 s2 s3 K) s0 s1 s2 s3 K
theorem wqjs(k:Nat){R:Type}: ∀(I:Nat→St→Option R) (n:Nat),h_ratio_digits.lp u_ratio_digits_1002 (wqnx k).cx k Tryz.f119 1002 [1,0,1,0] I n=wq4l k n:=h_ratio_digits.lok u_ratio_digits_1002 (B:=wq91 k) (L:=wq4l k) (fun I=>by kernel_rfl) (fun I=>by kernel_rfl) (fun n=>by kernel_rfl) (fun _ _ _ _=>rfl)
def wq5y(k:Nat){R:Type}(x0:(List UInt8))(x1:Int)(K:(Bool→Option R)): Option R:=wqhw k (fun s0 s1 s2 s3=>wq4l k k s0 s1 s2 s3 K) x0 x1 K
theorem wqz7(k:Nat): DOK Tryz.prog 119 (h_ratio_digits.run (@wq5y k)):=dok h_ratio_digits (wqnx k) Tryz.f119 k ok0 (by kernel_rfl) (by kernel_rfl) fun R=>h_ratio_digits.f1 u_ratio_digits_1002 (wqhw k) (by kernel_rfl) (wqjs k (fun _ _=>none) k) (by kernel_rfl)
def h_ratio_ten:Sh:=⟨[.a kI],some ([],[.a kI]),none⟩
abbrev wq5m:Type 1:=(R:Type)→Int→(Int→Option R)→Option R
def u_ratio_ten_1003:Cu:=⟨0,[3,4,5],[.a kI,.a kI,.a kI]⟩
def wqxv(k:Nat): Cxt:=⟨[],[],[(1003,u_ratio_ten_1003.spec)],[]⟩
def wqbt(k:Nat){R:Type}(E1003:(Int→Int→Int→Option R))(s0 s1 s2:Int)(K:(Int→Option R)): Option R:=cond (decide (s2<s1)) (E1003 (@Go.IntKind.wrap Go.IntKind.i64 (s0*10)) s1 (@Go.IntKind.wrap Go.IntKind.i64 (s2+1))) (K s0)
def wqqa(k:Nat){R:Type}(E1003:(Int→Int→Int→Option R))(x0:Int)(K:(Int→Option R)): Option R:=E1003 1 x0 0
def wq6f(k:Nat){R:Type}: Nat→Int→Int→Int→(Int→Option R)→Option R
 |0,_,_,_,_=>none
 |n+1,s0,s1,s2,K=>wqbt k (fun s0 s1 s2=>wq6f k n s0 s1 s2 K) s0 s1 s2 K
theorem wqny(k:Nat){R:Type}: ∀(I:Nat→St→Option R) (n:Nat),h_ratio_ten.lp u_ratio_ten_1003 (wqxv k).cx k Tryz.f121 1003 [1,1,0,1,0] I n=wq6f k n:=h_ratio_ten.lok u_ratio_ten_1003 (B:=wqbt k) (L:=wq6f k) (fun I=>by kernel_rfl) (fun I=>by kernel_rfl) (fun n=>by kernel_rfl) (fun _ _ _ _=>rfl)
def wq64(k:Nat){R:Type}(x0:Int)(K:(Int→Option R)): Option R:=wqqa k (fun s0 s1 s2=>wq6f k k s0 s1 s2 K) x0 K
theorem wqxw(k:Nat): DOK Tryz.prog 121 (h_ratio_ten.run (@wq64 k)):=dok h_ratio_ten (wqxv k) Tryz.f121 k ok0 (by kernel_rfl) (by kernel_rfl) fun R=>h_ratio_ten.f1 u_ratio_ten_1003 (wqqa k) (by kernel_rfl) (wqny k (fun _ _=>none) k) (by kernel_rfl)
def h_ratio_value:Sh:=⟨[.a .str],some ([],[.a kI]),none⟩
abbrev wqhx:Type 1:=(R:Type)→(List UInt8)→(Int→Option R)→Option R
def u_ratio_value_1003:Cu:=⟨0,[3,7],[.a kI,.t 77]⟩
def wqr9(k:Nat): Cxt:=⟨[],[],[(1003,u_ratio_value_1003.spec)],[]⟩
def wq9n(k:Nat){R:Type}(E1003:(Int→(List UInt8)→Int→Option R))(s0:Int)(s1:(List UInt8))(s2:Int)(K:(Int→Option R)): Option R:=cond (decide (s2<(s1.length:Int))) (cond (decide (s2<(s1.length:Int))) (E1003 (@Go.IntKind.wrap Go.IntKind.i64 ((@Go.IntKind.wrap Go.IntKind.i64 ((10:Int)*s0))+(@Go.IntKind.wrap Go.IntKind.i64 (@Go.IntKind.wrap Go.IntKind.i32 ((nxtC s1 s2)-48))))) s1 (nxtP s1 s2)) none) (K s0)
def wqjt(k:Nat){R:Type}(E1003:(Int→(List UInt8)→Int→Option R))(x0:(List UInt8))(K:(Int→Option R)): Option R:=E1003 0 x0 0
def wq52(k:Nat){R:Type}: Nat→Int→(List UInt8)→Int→(Int→Option R)→Option R
 |0,_,_,_,_=>none
 |n+1,s0,s1,s2,K=>wq9n k (fun s0 s1 s2=>wq52 k n s0 s1 s2 K) s0 s1 s2 K
theorem wqlg(k:Nat){R:Type}: ∀(I:Nat→St→Option R) (n:Nat),h_ratio_value.lp u_ratio_value_1003 (wqr9 k).cx k Tryz.f120 1003 [1,1,0,1,0] I n=wq52 k n:=h_ratio_value.lok u_ratio_value_1003 (B:=wq9n k) (L:=wq52 k) (fun I=>by kernel_rfl) (fun I=>by kernel_rfl) (fun n=>by kernel_rfl) (fun _ _ _ _=>rfl)
def wq98(k:Nat){R:Type}(x0:(List UInt8))(K:(Int→Option R)): Option R:=wqjt k (fun s0 s1 s2=>wq52 k k s0 s1 s2 K) x0 K
theorem wq10z(k:Nat): DOK Tryz.prog 120 (h_ratio_value.run (@wq98 k)):=dok h_ratio_value (wqr9 k) Tryz.f120 k ok0 (by kernel_rfl) (by kernel_rfl) fun R=>h_ratio_value.f1 u_ratio_value_1003 (wqjt k) (by kernel_rfl) (wqlg k (fun _ _=>none) k) (by kernel_rfl)
def wqed(s:List UInt8)(c:Int): Int :=
 match(List.range s.length).find? fun i=>s.getD i 0 == UInt8.ofNat c.toNat with
 |some i=>(i:Int)
 |none => -1
theorem wqxx{P:Program}(x0:List UInt8)(x1:Int)(w:World): (Go.Extern.BytealgIndexByte.indexByte #[.string ⟨x0.toArray⟩,.int .u8 x1]).run P w = .ok (.int .i64 (wqed x0 x1)) w:=by
 have e5:(Go.Extern.BytealgIndexByte.indexByte #[.string ⟨x0.toArray⟩,.int .u8 x1]).run P w=(match(List.range (ByteArray.mk x0.toArray).size).find? fun i=>(ByteArray.mk x0.toArray)[i]! == x1.toNat.toUInt8 with
  |some i=>(pure (goInt i):Sem Value)
  |none=>pure (goInt (-1))).run P w:=rfl
 rw[e5]
 unfold wqed
 have e6:(ByteArray.mk x0.toArray).size=x0.length:=by simp[ByteArray.size]
 have e7:∀ i,(ByteArray.mk x0.toArray)[i]! = x0.getD i 0:=by
  intro i
  by_cases hi:i<x0.length
  ·rw[getElem!_pos (ByteArray.mk x0.toArray) i (by rw[e6];exact hi)]
   have:x0.getD i 0=x0[i]:=by simp[List.getD,hi]
   rw[this];rfl
  ·rw[getElem!_neg (ByteArray.mk x0.toArray) i (by rw[e6];exact hi)]
   have:x0.getD i 0=0:=by simp[List.getD,Nat.le_of_not_lt hi]
   rw[this];rfl
 simp only[e6,e7]
 have e8:∀ i,(x0.getD i 0 == x1.toNat.toUInt8)=(x0.getD i 0 == UInt8.ofNat x1.toNat):=fun i=>rfl
 simp only[e8]
 cases(List.range x0.length).find? fun i=>x0.getD i 0 == UInt8.ofNat x1.toNat with
 |none=>rfl
 |some i=>rfl
def wqhy:List LS:=[.any,.any]
def wq99(k:Nat){R:Type}(x0:List UInt8)(x1:Int)(K:Int→Option R): Option R:=K (wqed x0 x1)
def wq87(k:Nat){R:Type}: List PV→List (Nm×HObj)→(Out→Option R)→Option R
 |[.v .str x0,.v (.int .u8) x1],[],K=>wq99 k x0 x1 (fun y0=>K (.ret [.v (.int .i64) y0] []))
 |_,_,_=>none
theorem wq1ek{G:Gh}{w:World}: Fin [] [] G w G w :=
 ⟨fun n o h=>(by cases h),fun n m b h=>(by simp[blkOf,mkH,look]at h),fun n t cs h=>(by cases h),fun n ag V es h=>(by cases h),fun _ _ _=>rfl,rfl,fun n b h=>(by simp[blkOf,mkH,look]at h),Nat.le_refl _,rfl,rfl,rfl⟩
theorem wqh1:Extern.find Tryz.f257=some Go.Extern.BytealgIndexByte.indexByte:=by kernel_rfl
theorem wqel:(Extern.findNext Tryz.f257).isNone=true:=by kernel_rfl
theorem wqjd:Tryz.prog.funcs[257]? = some Tryz.f257:=by kernel_rfl
theorem wqbf:(Tryz.f257.name == "runtime.NumGoroutine")=false:=by kernel_rfl
theorem wqh2:Tryz.f257.body.isNone=true:=by kernel_rfl
theorem wqju(k:Nat){ps:List PV}{hp:List (Nm×HObj)}{R:Type}{K:Out→Option R}{r:R}(h:wq87 k ps hp K=some r): DoesTo Tryz.prog 257 ps hp fun out=>K out=some r:=by
 unfold wq87 at h
 split at h
 ·next x0 x1 =>
  intro G w vals hr obj dis
  obtain⟨v0,l0,rfl,h0,v1,l1,rfl,h1,rfl⟩:=hr
  have e0:v0 = .string ⟨x0.toArray⟩:=by simpa [RV,RD]using h0
  have e1:v1 = .int .u8 x1:=by simpa [RV,RD]using h1
  subst e0 e1
  have hrun:(callFunc 257 #[.string ⟨x0.toArray⟩,.int .u8 x1]).run Tryz.prog w = .ok (.value (.int .i64 (wqed x0 x1))) w:=by
   have hn2:¬ Tryz.f257.name = "runtime.NumGoroutine" := by simpa using wqbf
   have hn3:Extern.findNext Tryz.f257=none:=by
    cases hq:Extern.findNext Tryz.f257 with
    |none=>rfl
    |some e=>have:=wqel;rw[hq]at this;cases this
   have e1:(callFunc 257 #[.string ⟨x0.toArray⟩,.int .u8 x1]).run Tryz.prog w=(Go.Extern.BytealgIndexByte.indexByte #[.string ⟨x0.toArray⟩,.int .u8 x1] >>= fun v=>pure (Next.value v)).run Tryz.prog w:=by
    unfold callFunc
    rw[Sem.run_bind]
    have e2:(program).run Tryz.prog w = .ok Tryz.prog w:=rfl
    rw[e2,Result.andThen_ok,wqjd]
    simp only[wqbf,wqh2,if_true,Bool.false_eq_true,if_false]
    rw[Sem.run_bind]
    have e3:(mark (.extern 257)).run Tryz.prog w = .ok () w:=rfl
    rw[e3,Result.andThen_ok,hn3,wqh1]
   rw[e1]
   have e4:=wqxx (P:=Tryz.prog) x0 x1 w
   rw[Sem.run_bind,e4];rfl
  show Does _ _ #[_,_] _ _
  unfold Does
  rw[hrun]
  exact⟨.ret [.v (.int .i64) (wqed x0 x1)] [],h,G,⟨_,rfl,rfl⟩,wq1ek⟩
 ·cases h
def h_slite_IndexByte:Sh:=⟨[.a .str,.a (.int .u8)],some ([],[.a kI]),none⟩
def wqsa(k:Nat): Cxt:=⟨[⟨257,wqhy,wq87 k⟩],[],[],[]⟩
def wqix(k:Nat){R:Type}(x0:(List UInt8))(x1:Int)(K:(Int→Option R)): Option R:=wq99 k x0 x1 K
def wq8n:=@wqix
theorem wqiy(k:Nat): DOK Tryz.prog 236 (h_slite_IndexByte.run (@wq8n k)):=dok h_slite_IndexByte (wqsa k) Tryz.f236 k (ok1 (fun _ _ _ _ _ h=>wqju k h) ok0) (by kernel_rfl) (by kernel_rfl) fun R=>by kernel_rfl
def wqiz(k:Nat): Ent:=h_slite_IndexByte.e 236 (@wq8n k)
def h_slite_Index:Sh:=⟨[.a .str,.j],some ([],[.a kI]),none⟩
def wq110(k:Nat): Cxt:=⟨[wqiz k],[],[],[]⟩
def wqra(k:Nat){R:Type}(x0:(List UInt8))(x1:UInt8)(K:(Int→Option R)): Option R:=cond (cond ((@List.length UInt8 [x1]:Int) == 0) true ([x1] == x0)) (K 0) (wq8n k x0 ((([x1]).getD (Int.toNat 0) 0).toNat:Int) K)
def wqfy:=@wqra
theorem wq111(k:Nat): DOK Tryz.prog 203 (h_slite_Index.run (@wqfy k)):=dok h_slite_Index (wq110 k) Tryz.f203 k (ok1 (wqiy k) ok0) (by kernel_rfl) (by kernel_rfl) fun R=>by kernel_rfl
def wq112(k:Nat): Ent:=h_slite_Index.e 203 (@wqfy k)
def h_slite_Cut:Sh:=⟨[.a .str,.j],some ([],[.a .str,.a .str,.a .bool]),none⟩
def wq17g(k:Nat): Cxt:=⟨[wq112 k],[],[],[(3,(.of [(0,1),(1,1),(2,1),(3,1),(4,1),(5,1),(6,1),(7,1),(8,1),(9,1),(10,1),(11,1)] .done))]⟩
def wqxy(k:Nat){R:Type}(x0:(List UInt8))(x1:UInt8)(K:((List UInt8)→(List UInt8)→Bool→Option R)): Option R:=wqfy k x0 x1 (fun y5=>cond (decide (y5≥0)) (cond (bnd 0 y5 (x0.length:Int)) (cond (bnd (@Go.IntKind.wrap Go.IntKind.i64 (y5+(@List.length UInt8 [x1]:Int))) (x0.length:Int) (x0.length:Int)) (K (cut x0 0 y5) (cut x0 (@Go.IntKind.wrap Go.IntKind.i64 (y5+(@List.length UInt8 [x1]:Int))) (x0.length:Int)) true) none) none) (K x0 [] false))
def wql1:=@wqxy
theorem wq17h(k:Nat): DOK Tryz.prog 169 (h_slite_Cut.run (@wql1 k)):=dok h_slite_Cut (wq17g k) Tryz.f169 k (ok1 (wq111 k) ok0) (by kernel_rfl) (by kernel_rfl) fun R=>by kernel_rfl
def wq17i(k:Nat): Ent:=h_slite_Cut.e 169 (@wql1 k)
def h_strings_Cut:Sh:=⟨[.a .str,.j],some ([],[.a .str,.a .str,.a .bool]),none⟩
abbrev wqhz:Type 1:=(R:Type)→(List UInt8)→UInt8→((List UInt8)→(List UInt8)→Bool→Option R)→Option R
def wq113(k:Nat): Cxt:=⟨[wq17i k],[],[],[]⟩
def wqrb(k:Nat){R:Type}(x0:(List UInt8))(x1:UInt8)(K:((List UInt8)→(List UInt8)→Bool→Option R)): Option R:=wql1 k x0 x1 K
def wq82:=@wqrb
theorem wqrc(k:Nat): DOK Tryz.prog 118 (h_strings_Cut.run (@wq82 k)):=dok h_strings_Cut (wq113 k) Tryz.f118 k (ok1 (wq17h k) ok0) (by kernel_rfl) (by kernel_rfl) fun R=>by kernel_rfl
def wq114(k:Nat): Ent:=h_strings_Cut.e 118 (@wq82 k)
def h_slite_HasPrefix:Sh:=⟨[.a .str,.a .str],some ([],[.a .bool]),none⟩
def wqsb(k:Nat): Cxt:=⟨[],[],[],[]⟩
def wqe2(k:Nat){R:Type}(x0 x1:(List UInt8))(K:(Bool→Option R)): Option R:=cond ((!((decide ((x0.length:Int)≥(x1.length:Int))) == true)) || (bnd 0 (x1.length:Int) (x0.length:Int))) (K (cond (decide ((x0.length:Int)≥(x1.length:Int))) ((cut x0 0 (x1.length:Int)) == x1) false)) none
def wq72:=@wqe2
theorem wqj0(k:Nat): DOK Tryz.prog 88 (h_slite_HasPrefix.run (@wq72 k)):=dok h_slite_HasPrefix (wqsb k) Tryz.f88 k ok0 (by kernel_rfl) (by kernel_rfl) fun R=>by kernel_rfl
def wqj1(k:Nat): Ent:=h_slite_HasPrefix.e 88 (@wq72 k)
def h_slite_CutPrefix:Sh:=⟨[.a .str,.j],some ([],[.a .str,.a .bool]),none⟩
def wqsc(k:Nat): Cxt:=⟨[wqj1 k],[],[],[]⟩
def wqj2(k:Nat){R:Type}(x0:(List UInt8))(x1:UInt8)(K:((List UInt8)→Bool→Option R)): Option R:=wq72 k x0 [x1] (fun y5=>cond (!y5) (K x0 false) (cond (bnd (@List.length UInt8 [x1]:Int) (x0.length:Int) (x0.length:Int)) (K (cut x0 (@List.length UInt8 [x1]:Int) (x0.length:Int)) true) none))
def wqam:=@wqj2
theorem wqsd(k:Nat): DOK Tryz.prog 168 (h_slite_CutPrefix.run (@wqam k)):=dok h_slite_CutPrefix (wqsc k) Tryz.f168 k (ok1 (wqj0 k) ok0) (by kernel_rfl) (by kernel_rfl) fun R=>by kernel_rfl
def wqse(k:Nat): Ent:=h_slite_CutPrefix.e 168 (@wqam k)
def h_strings_CutPrefix:Sh:=⟨[.a .str,.j],some ([],[.a .str,.a .bool]),none⟩
abbrev wqb1:Type 1:=(R:Type)→(List UInt8)→UInt8→((List UInt8)→Bool→Option R)→Option R
def wqnz(k:Nat): Cxt:=⟨[wqse k],[],[],[]⟩
def wqfz(k:Nat){R:Type}(x0:(List UInt8))(x1:UInt8)(K:((List UInt8)→Bool→Option R)): Option R:=wqam k x0 x1 K
def wq5b:=@wqfz
theorem wqo0(k:Nat): DOK Tryz.prog 117 (h_strings_CutPrefix.run (@wq5b k)):=dok h_strings_CutPrefix (wqnz k) Tryz.f117 k (ok1 (wqsd k) ok0) (by kernel_rfl) (by kernel_rfl) fun R=>by kernel_rfl
def h_ratio_Parse:Sh:=⟨[.a .str],some ([],[.a .flt,.a .bool]),none⟩
abbrev wq2q:Type 1:=(R:Type)→(List UInt8)→(Nat→Bool→Option R)→Option R
def wqrd(k:Nat)(wqhm:wqq9)(wqfv:wqq8)(wq5h:wqb1)(wqbk:wqhz)(wq8j:wqgi)(wq9g:wqhx)(wq1j:wq5m)(wq7s:wqfa): Cxt:=⟨[h_math_NaN.e 115 wqhm,h_math_Inf.e 116 wqfv,h_strings_CutPrefix.e 117 wq5h,h_strings_Cut.e 118 wqbk,h_ratio_digits.e 119 wq8j,h_ratio_value.e 120 wq9g,h_ratio_ten.e 121 wq1j,h_math_Copysign.e 122 wq7s],[],[],[]⟩
def wqjv(k:Nat)(wqhm:wqq9)(wqfv:wqq8)(wq5h:wqb1)(wqbk:wqhz)(wq8j:wqgi)(wq9g:wqhx)(wq1j:wq5m)(wq7s:wqfa){R:Type}(x0:(List UInt8))(K:(Nat→Bool→Option R)): Option R:=cond (x0 == [(110:UInt8),97,110]) (wqhm R (fun y4=>K y4 true)) (cond (x0 == [(105:UInt8),110,102]) (wqfv R 1 (fun y4=>K y4 true)) (cond (x0 == [(45:UInt8),105,110,102]) (wqfv R (@Neg.neg Int @Int.instNegInt (1:Int)) (fun y4=>K y4 true)) (wq5h R x0 45 (fun y4 y5=>wqbk R y4 46 (fun y6 y7 y8=>wq8j R y6 9 (fun y9=>cond ((!(((!y9) == false)&&((decide ((y6.length:Int)>1)) == true))) || (inb 0 (y6.length:Int))) (cond ((cond (!y9) true (cond (decide ((y6.length:Int)>1)) (((y6.getD (Int.toNat 0) 0).toNat:Int) == 48) false)) == false) (cond (y8 == true) (wq8j R y7 6 (fun y10=>cond (!y10) (K 0 false) (cond (joins y6 y7) (wq9g R (y6++y7) (fun y11=>wq1j R (y7.length:Int) (fun y12=>cond (@Option.isSome Nat (@fltAr @Go.BinOp.quo (@fltOf y11) (@fltOf y12))) (cond y5 (wq7s R (@Option.getD Nat (@fltAr @Go.BinOp.quo (@fltOf y11) (@fltOf y12)) (0:Nat)) 13830554455654793216 (fun y13=>K y13 true)) (K (@Option.getD Nat (@fltAr @Go.BinOp.quo (@fltOf y11) (@fltOf y12)) (0:Nat)) true)) none))) none))) (cond (joins y6 y7) (wq9g R (y6++y7) (fun y10=>wq1j R (y7.length:Int) (fun y11=>cond (@Option.isSome Nat (@fltAr @Go.BinOp.quo (@fltOf y10) (@fltOf y11))) (cond y5 (wq7s R (@Option.getD Nat (@fltAr @Go.BinOp.quo (@fltOf y10) (@fltOf y11)) (0:Nat)) 13830554455654793216 (fun y12=>K y12 true)) (K (@Option.getD Nat (@fltAr @Go.BinOp.quo (@fltOf y10) (@fltOf y11)) (0:Nat)) true)) none))) none)) (K 0 false)) none))))))
theorem wq115(k:Nat)(wqhm:wqq9)(wqfv:wqq8)(wq5h:wqb1)(wqbk:wqhz)(wq8j:wqgi)(wq9g:wqhx)(wq1j:wq5m)(wq7s:wqfa)(R:Type): h_ratio_Parse.at (wqrd k wqhm wqfv wq5h wqbk wq8j wq9g wq1j wq7s) k Tryz.f71 R=@wqjv k wqhm wqfv wq5h wqbk wq8j wq9g wq1j wq7s R:=by kernel_rfl
def wq2r(k:Nat){R:Type}:= @wqjv k (@wqjr k) (@wqh0 k) (@wq5b k) (@wq82 k) (@wq5y k) (@wq98 k) (@wq64 k) (@wq7q k) R
theorem wqjw(k:Nat): DOK Tryz.prog 71 (h_ratio_Parse.run (@wq2r k)):=dok h_ratio_Parse (wqrd k (@wqjr k) (@wqh0 k) (@wq5b k) (@wq82 k) (@wq5y k) (@wq98 k) (@wq64 k) (@wq7q k)) Tryz.f71 k (ok1 (wq1a8 k) (ok1 (wq1a5 k) (ok1 (wqo0 k) (ok1 (wqrc k) (ok1 (wqz7 k) (ok1 (wq10z k) (ok1 (wqxw k) (ok1 (wqwh k) ok0)))))))) (by kernel_rfl) (by kernel_rfl) fun R=>wq115 k (@wqjr k) (@wqh0 k) (@wq5b k) (@wq82 k) (@wq5y k) (@wq98 k) (@wq64 k) (@wq7q k) R
def h_field_Seen_Ratio:Sh:=⟨[.g [.s kdT72],.a kI],some ([],[.a .flt,.g [.a kI,.a kI]]),none⟩
def wqh3(k:Nat)(wqh:wq2q)(wq54:wqbr)(wq55:wqbe)(wq77:wqcp)(wq1r:wq51): Cxt:=⟨[h_ratio_Parse.e 71 wqh,h_field_Seen_fault.e 114 wq54,h_math_IsNaN.e 134 wq55,h_field_Seen_bare.e 171 wq77,h_math_Abs.e 172 wq1r],[],[],[(3,(.of [(1,1),(0,1),(2,0)] .done))]⟩
def wqcr(k:Nat)(wqh:wq2q)(wq54:wqbr)(wq55:wqbe)(wq77:wqcp)(wq1r:wq51){R:Type}(x0:(List dT72))(x1:Int)(K:(Nat→Int→Int→Option R)): Option R:=wq77 R x0 x1 15 (fun y5 y6 y7=>cond (y6 != 0) (K 0 y6 y7) (wqh R y5 (fun y8 y9=>cond ((!y9) == false) (wq55 R y8 (fun y10=>cond (cond (cond y10 true (@fltIs @Go.BinOp.lss y8 (0:Nat))) true (@fltIs @Go.BinOp.gtr y8 (4607182418800017408:Nat))) (wq54 R x0 x1 15 (fun y11 y12=>K 0 y11 y12)) (wq1r R y8 (fun y11=>K y11 0 0)))) (wq54 R x0 x1 15 (fun y10 y11=>K 0 y10 y11)))))
theorem wqqb(k:Nat)(wqh:wq2q)(wq54:wqbr)(wq55:wqbe)(wq77:wqcp)(wq1r:wq51)(R:Type): h_field_Seen_Ratio.at (wqh3 k wqh wq54 wq55 wq77 wq1r) k Tryz.f124 R=@wqcr k wqh wq54 wq55 wq77 wq1r R:=by kernel_rfl
def wq65(k:Nat){R:Type}:= @wqcr k (@wq2r k) (@wq2c k) (@wq33 k) (@wq40 k) (@wq58 k) R
theorem wqqc(k:Nat): DOK Tryz.prog 124 (h_field_Seen_Ratio.run (@wq65 k)):=dok h_field_Seen_Ratio (wqh3 k (@wq2r k) (@wq2c k) (@wq33 k) (@wq40 k) (@wq58 k)) Tryz.f124 k (ok1 (wqjw k) (ok1 (wq4b k) (ok1 (wqhv k) (ok1 (wqe1 k) (ok1 (wqnw k) ok0))))) (by kernel_rfl) (by kernel_rfl) fun R=>wqqb k (@wq2r k) (@wq2c k) (@wq33 k) (@wq40 k) (@wq58 k) R
def wqqd(k:Nat): Ent:=h_field_Seen_Ratio.e 124 (@wq65 k)
def h_config_reader_ratio:Sh:=⟨[.l kdT37,.a kI,.a .str,.a .flt],some ([],[.a .flt]),some ([],[.i 29 (.g [.a kI,.a kI])])⟩
abbrev wq1u:Type 1:=(R:Type)→dT37→Int→(List UInt8)→Nat→(Nat→Option R)→(Int→Int→Option R)→Option R
def wqlh(k:Nat): Cxt:=⟨[wqbq k,wqal k,wqqd k],[],[],[]⟩
def wqee(k:Nat){R:Type}(x0:dT37)(x1:Int)(x2:(List UInt8))(x3:Nat)(K:(Nat→Option R))(E:(Int→Int→Option R)): Option R:=wqv k x0 x1 x2 (fun y8 y9=>cond (!y9) (K x3) (wq65 k x0 y8 (fun y10 y11 y12=>wqq k y11 y12 (fun y13=>K y10) E)))
def wqu:=@wqee
theorem wqef(k:Nat): DOK Tryz.prog 72 (h_config_reader_ratio.run (@wqu k)):=dok h_config_reader_ratio (wqlh k) Tryz.f72 k (ok1 (wq5w k) (ok1 (wq70 k) (ok1 (wqqc k) ok0))) (by kernel_rfl) (by kernel_rfl) fun R=>by kernel_rfl
def h_slices_Contains___string_string:Sh:=⟨[.s .str,.a .str],some ([],[.a .bool]),none⟩
def wqch(k:Nat): Cxt:=⟨[wq5l k],[],[],[]⟩
def wq4x(k:Nat){R:Type}(x0:(List (List UInt8)))(x1:(List UInt8))(K:(Bool→Option R)): Option R:=wq28 k x0 x1 (fun y5=>K (decide (y5≥0)))
def wq1x:=@wq4x
theorem wq7u(k:Nat): DOK Tryz.prog 113 (h_slices_Contains___string_string.run (@wq1x k)):=dok h_slices_Contains___string_string (wqch k) Tryz.f113 k (ok1 (wq5k k) ok0) (by kernel_rfl) (by kernel_rfl) fun R=>by kernel_rfl
def wq7v(k:Nat): Ent:=h_slices_Contains___string_string.e 113 (@wq1x k)
def h_field_Seen_Known:Sh:=⟨[.g [.s kdT72],.a kI,.s .str],some ([],[.g [.a kI,.a kI]]),none⟩
abbrev wq18:Type 1:=(R:Type)→(List dT72)→Int→(List (List UInt8))→(Int→Int→Option R)→Option R
def u_field_Seen_Known_1006:Cu:=⟨0,[2,3,6,8,25,26,27],[.s .str,.o 13 77 0 [.s kdT72],.o 16 29 0 [.a kI,.a kI],.o 18 73 0 [.a kI,.a kI,.a .str,.a .bool,.s .str,.s kI],.s .str,.a kI,.a kI]⟩
def wqh4(k:Nat): Cxt:=⟨[wq8l k,wq7v k,wq4z k],[],[(1006,u_field_Seen_Known_1006.spec)],[(9,(.of [(1,1),(3,1),(0,1),(2,1),(4,1),(5,1),(6,0),(7,0)] .done))]⟩
def wq6q(k:Nat){R:Type}(E1006:((List (List UInt8))→(List dT72)→Int→Int→Int→Int→(List UInt8)→Bool→(List (List UInt8))→(List Int)→(List (List UInt8))→Int→Int→Option R))(s0:(List (List UInt8)))(s1:(List dT72))(s2 s3 s4 s5:Int)(s6:(List UInt8))(s7:Bool)(s8:(List (List UInt8)))(s9:(List Int))(s10:(List (List UInt8)))(s11 s12:Int)(K:(Int→Int→Option R)): Option R:=cond (decide (s12<s11)) (cond (inb s12 (s10.length:Int)) (wq1x k s0 (s10.getD s12.toNat Kd.str.zero) (fun y17=>cond (!y17) (cond (inb s12 (s9.length:Int)) (wq2c k s1 (s9.getD s12.toNat kI.zero) 5 K) none) (E1006 s0 s1 s2 s3 s4 s5 s6 s7 s8 s9 s10 s11 (@Go.IntKind.wrap Go.IntKind.i64 (s12+1))))) none) (K 0 0)
def wqcs(k:Nat){R:Type}(E1006:((List (List UInt8))→(List dT72)→Int→Int→Int→Int→(List UInt8)→Bool→(List (List UInt8))→(List Int)→(List (List UInt8))→Int→Int→Option R))(x0:(List dT72))(x1:Int)(x2:(List (List UInt8)))(K:(Int→Int→Option R)): Option R:=wq1n k x0 x1 3 (fun y7 y8=>cond (y7 != 0) (K y7 y8) (cond (inb x1 (x0.length:Int)) (E1006 x2 x0 0 0 (x0.getD x1.toNat kdT72.zero).1 ((x0.getD x1.toNat kdT72.zero).2).1 (((x0.getD x1.toNat kdT72.zero).2).2).1 ((((x0.getD x1.toNat kdT72.zero).2).2).2).1 (((((x0.getD x1.toNat kdT72.zero).2).2).2).2).1 (((((x0.getD x1.toNat kdT72.zero).2).2).2).2).2 (((((x0.getD x1.toNat kdT72.zero).2).2).2).2).1 (((((((x0.getD x1.toNat kdT72.zero).2).2).2).2).1).length:Int) 0) none))
def wq3g(k:Nat){R:Type}: Nat→(List (List UInt8))→(List dT72)→Int→Int→Int→Int→(List UInt8)→Bool→(List (List UInt8))→(List Int)→(List (List UInt8))→Int→Int→(Int→Int→Option R)→Option R
 |0,_,_,_,_,_,_,_,_,_,_,_,_,_,_=>none
 |n+1,s0,s1,s2,s3,s4,s5,s6,s7,s8,s9,s10,s11,s12,K=>wq6q k (fun s0 s1 s2 s3 s4 s5 s6 s7 s8 s9 s10 s11 s12=>wq3g k n s0 s1 s2 s3 s4 s5 s6 s7 s8 s9 s10 s11 s12 K) s0 s1 s2 s3 s4 s5 s6 s7 s8 s9 s10 s11 s12 K
theorem wqgj(k:Nat){R:Type}: ∀(I:Nat→St→Option R) (n:Nat),h_field_Seen_Known.lp u_field_Seen_Known_1006 (wqh4 k).cx k Tryz.f70 1006 [1,1,1,0,1,0] I n=wq3g k n:=h_field_Seen_Known.lok u_field_Seen_Known_1006 (B:=wq6q k) (L:=wq3g k) (fun I=>by kernel_rfl) (fun I=>by kernel_rfl) (fun n=>by kernel_rfl) (fun _ _ _ _=>rfl)
def wqn(k:Nat){R:Type}(x0:(List dT72))(x1:Int)(x2:(List (List UInt8)))(K:(Int→Int→Option R)): Option R:=wqcs k (fun s0 s1 s2 s3 s4 s5 s6 s7 s8 s9 s10 s11 s12=>wq3g k k s0 s1 s2 s3 s4 s5 s6 s7 s8 s9 s10 s11 s12 K) x0 x1 x2 K
theorem wq9o(k:Nat): DOK Tryz.prog 70 (h_field_Seen_Known.run (@wqn k)):=dok h_field_Seen_Known (wqh4 k) Tryz.f70 k (ok1 (wq6y k) (ok1 (wq7u k) (ok1 (wq4b k) ok0))) (by kernel_rfl) (by kernel_rfl) fun R=>h_field_Seen_Known.f1 u_field_Seen_Known_1006 (wqcs k) (by kernel_rfl) (wqgj k (fun _ _=>none) k) (by kernel_rfl)
def h_num_Hold:Sh:=⟨[.a kI],some ([],[.a kI]),none⟩
def wq1a9(k:Nat): Cxt:=⟨[],[],[],[]⟩
def wq116(k:Nat){R:Type}(x0:Int)(K:(Int→Option R)): Option R:=K (cond false (@ite (@Kd.T kI) ((4611686018427387904:Int)>(cond true (@ite (@Kd.T kI) ((0:Int)>x0) (@Int.decLt x0 (0:Int)) (0:Int) x0) (@ite (@Kd.T kI) ((0:Int)<x0) (@Int.decLt (0:Int) x0) (0:Int) x0))) (@Int.decLt (cond true (@ite (@Kd.T kI) ((0:Int)>x0) (@Int.decLt x0 (0:Int)) (0:Int) x0) (@ite (@Kd.T kI) ((0:Int)<x0) (@Int.decLt (0:Int) x0) (0:Int) x0)) (4611686018427387904:Int)) (4611686018427387904:Int) (cond true (@ite (@Kd.T kI) ((0:Int)>x0) (@Int.decLt x0 (0:Int)) (0:Int) x0) (@ite (@Kd.T kI) ((0:Int)<x0) (@Int.decLt (0:Int) x0) (0:Int) x0))) (@ite (@Kd.T kI) ((4611686018427387904:Int)<(cond true (@ite (@Kd.T kI) ((0:Int)>x0) (@Int.decLt x0 (0:Int)) (0:Int) x0) (@ite (@Kd.T kI) ((0:Int)<x0) (@Int.decLt (0:Int) x0) (0:Int) x0))) (@Int.decLt (4611686018427387904:Int) (cond true (@ite (@Kd.T kI) ((0:Int)>x0) (@Int.decLt x0 (0:Int)) (0:Int) x0) (@ite (@Kd.T kI) ((0:Int)<x0) (@Int.decLt (0:Int) x0) (0:Int) x0))) (4611686018427387904:Int) (cond true (@ite (@Kd.T kI) ((0:Int)>x0) (@Int.decLt x0 (0:Int)) (0:Int) x0) (@ite (@Kd.T kI) ((0:Int)<x0) (@Int.decLt (0:Int) x0) (0:Int) x0))))
def wqaf:=@wq116
theorem wque(k:Nat): DOK Tryz.prog 256 (h_num_Hold.run (@wqaf k)):=dok h_num_Hold (wq1a9 k) Tryz.f256 k ok0 (by kernel_rfl) (by kernel_rfl) fun R=>by kernel_rfl
def wquf(k:Nat): Ent:=h_num_Hold.e 256 (@wqaf k)
def h_num_Add:Sh:=⟨[.a kI,.a kI],some ([],[.a kI]),none⟩
def wq1cj(k:Nat): Cxt:=⟨[wquf k],[],[],[]⟩
def wq16d(k:Nat){R:Type}(x0 x1:Int)(K:(Int→Option R)): Option R:=wqaf k x0 (fun y5=>wqaf k x1 (fun y6=>cond (decide (y5>(@Go.IntKind.wrap Go.IntKind.i64 ((4611686018427387904:Int)-y6)))) (K 4611686018427387904) (K (@Go.IntKind.wrap Go.IntKind.i64 (y5+y6)))))
def wqo1:=@wq16d
theorem wq1ck(k:Nat): DOK Tryz.prog 264 (h_num_Add.run (@wqo1 k)):=dok h_num_Add (wq1cj k) Tryz.f264 k (ok1 (wque k) ok0) (by kernel_rfl) (by kernel_rfl) fun R=>by kernel_rfl
def wq1cl(k:Nat): Ent:=h_num_Add.e 264 (@wqo1 k)
def h_num_Digits:Sh:=⟨[.a kI],some ([],[.a .str]),none⟩
abbrev wq4t:Type 1:=(R:Type)→Int→((List UInt8)→Option R)→Option R
def u_num_Digits_1004:Cu:=⟨0,[0,3],[.a kI,.s (.int .u8)]⟩
def wqug(k:Nat): Cxt:=⟨[wquf k],[],[(1004,u_num_Digits_1004.spec)],[]⟩
def wqan(k:Nat){R:Type}(E1004:(Int→(List Int)→Option R))(s0:Int)(s1:(List Int))(K:((List UInt8)→Option R)): Option R:=cond (decide (s0>0)) (cond (fits (@List.length (@Kd.T (@Kd.int Go.IntKind.u8)) [(@Go.IntKind.wrap Go.IntKind.u8 (@Go.IntKind.wrap Go.IntKind.i64 ((48:Int)+(Int.tmod s0 10))))]) s1.length 1) (E1004 (@Go.IntKind.wrap Go.IntKind.i64 (Int.tdiv s0 10)) ([(@Go.IntKind.wrap Go.IntKind.u8 (@Go.IntKind.wrap Go.IntKind.i64 ((48:Int)+(Int.tmod s0 10))))]++s1)) none) (K (wq4a s1))
def wqmn(k:Nat){R:Type}(E1004:(Int→(List Int)→Option R))(x0:Int)(K:((List UInt8)→Option R)): Option R:=wqaf k x0 (fun y5=>E1004 (@Go.IntKind.wrap Go.IntKind.i64 (Int.tdiv y5 10)) [(@Go.IntKind.wrap Go.IntKind.u8 (@Go.IntKind.wrap Go.IntKind.i64 ((48:Int)+(Int.tmod y5 10))))])
def wq5n(k:Nat){R:Type}: Nat→Int→(List Int)→((List UInt8)→Option R)→Option R
 |0,_,_,_=>none
 |n+1,s0,s1,K=>wqan k (fun s0 s1=>wq5n k n s0 s1 K) s0 s1 K
theorem wqmo(k:Nat){R:Type}: ∀(I:Nat→St→Option R) (n:Nat),h_num_Digits.lp u_num_Digits_1004 (wqug k).cx k Tryz.f233 1004 [1,1,1,0,1,0] I n=wq5n k n:=h_num_Digits.lok u_num_Digits_1004 (B:=wqan k) (L:=wq5n k) (fun I=>by kernel_rfl) (fun I=>by kernel_rfl) (fun n=>by kernel_rfl) (fun _ _ _ _=>rfl)
def wq44(k:Nat){R:Type}(x0:Int)(K:((List UInt8)→Option R)): Option R:=wqmn k (fun s0 s1=>wq5n k k s0 s1 K) x0 K
theorem wqi0(k:Nat): DOK Tryz.prog 233 (h_num_Digits.run (@wq44 k)):=dok h_num_Digits (wqug k) Tryz.f233 k (ok1 (wque k) ok0) (by kernel_rfl) (by kernel_rfl) fun R=>h_num_Digits.f1 u_num_Digits_1004 (wqmn k) (by kernel_rfl) (wqmo k (fun _ _=>none) k) (by kernel_rfl)
def wquh(k:Nat): Ent:=h_num_Digits.e 233 (@wq44 k)
def h_num_Mul:Sh:=⟨[.a kI,.a kI],some ([],[.a kI]),none⟩
def wq1cm(k:Nat): Cxt:=⟨[wquf k],[],[],[]⟩
def wq16e(k:Nat){R:Type}(x0 x1:Int)(K:(Int→Option R)): Option R:=wqaf k x0 (fun y5=>wqaf k x1 (fun y6=>cond ((!((decide (y6>0)) == true)) || (y6 != 0)) (cond (cond (decide (y6>0)) (decide (y5>(@Go.IntKind.wrap Go.IntKind.i64 (Int.tdiv 4611686018427387904 y6)))) false) (K 4611686018427387904) (K (@Go.IntKind.wrap Go.IntKind.i64 (y5*y6)))) none))
def wqo2:=@wq16e
theorem wq1cn(k:Nat): DOK Tryz.prog 265 (h_num_Mul.run (@wqo2 k)):=dok h_num_Mul (wq1cm k) Tryz.f265 k (ok1 (wque k) ok0) (by kernel_rfl) (by kernel_rfl) fun R=>by kernel_rfl
def wq1co(k:Nat): Ent:=h_num_Mul.e 265 (@wqo2 k)
def h_num_Parse:Sh:=⟨[.a .str],some ([],[.a kI,.a .bool]),none⟩
def u_num_Parse_1003:Cu:=⟨0,[0,4,8],[.a .str,.a kI,.t 78]⟩
def wqxz(k:Nat): Cxt:=⟨[wquh k,wq1cl k,wq1co k],[],[(1003,u_num_Parse_1003.spec)],[]⟩
def wqbu(k:Nat){R:Type}(E1003:((List UInt8)→Int→(List UInt8)→Int→Option R))(s0:(List UInt8))(s1:Int)(s2:(List UInt8))(s3:Int)(K:(Int→Bool→Option R)): Option R:=cond (decide (s3<(s2.length:Int))) (cond (decide (s3<(s2.length:Int))) (cond (cond (decide ((nxtC s2 s3)<48)) true (decide ((nxtC s2 s3)>57))) (K 0 false) (wqo2 k s1 10 (fun y8=>wqo1 k y8 (@Go.IntKind.wrap Go.IntKind.i64 (@Go.IntKind.wrap Go.IntKind.i32 ((nxtC s2 s3)-48))) (fun y9=>E1003 s0 y9 s2 (nxtP s2 s3))))) none) (wq44 k s1 (fun y8=>cond (!(y8 == s0)) (K 0 false) (K s1 true)))
def wqqe(k:Nat){R:Type}(E1003:((List UInt8)→Int→(List UInt8)→Int→Option R))(x0:(List UInt8))(K:(Int→Bool→Option R)): Option R:=E1003 x0 0 x0 0
def wq6g(k:Nat){R:Type}: Nat→(List UInt8)→Int→(List UInt8)→Int→(Int→Bool→Option R)→Option R
 |0,_,_,_,_,_=>none
 |n+1,s0,s1,s2,s3,K=>wqbu k (fun s0 s1 s2 s3=>wq6g k n s0 s1 s2 s3 K) s0 s1 s2 s3 K
theorem wqo3(k:Nat){R:Type}: ∀(I:Nat→St→Option R) (n:Nat),h_num_Parse.lp u_num_Parse_1003 (wqxz k).cx k Tryz.f260 1003 [1,1,0,1,0] I n=wq6g k n:=h_num_Parse.lok u_num_Parse_1003 (B:=wqbu k) (L:=wq6g k) (fun I=>by kernel_rfl) (fun I=>by kernel_rfl) (fun n=>by kernel_rfl) (fun _ _ _ _=>rfl)
def wqh5(k:Nat){R:Type}(x0:(List UInt8))(K:(Int→Bool→Option R)): Option R:=wqqe k (fun s0 s1 s2 s3=>wq6g k k s0 s1 s2 s3 K) x0 K
theorem wq17j(k:Nat): DOK Tryz.prog 260 (h_num_Parse.run (@wqh5 k)):=dok h_num_Parse (wqxz k) Tryz.f260 k (ok1 (wqi0 k) (ok1 (wq1ck k) (ok1 (wq1cn k) ok0))) (by kernel_rfl) (by kernel_rfl) fun R=>h_num_Parse.f1 u_num_Parse_1003 (wqqe k) (by kernel_rfl) (wqo3 k (fun _ _=>none) k) (by kernel_rfl)
def wq17k(k:Nat): Ent:=h_num_Parse.e 260 (@wqh5 k)
def h_field_Seen_Number:Sh:=⟨[.g [.s kdT72],.a kI,.a kI,.a kI],some ([],[.a kI,.g [.a kI,.a kI]]),none⟩
abbrev wq3k:Type 1:=(R:Type)→(List dT72)→Int→Int→Int→(Int→Int→Int→Option R)→Option R
def wqo4(k:Nat): Cxt:=⟨[wq4z k,wqit k,wq17k k],[],[],[(3,(.of [(1,1),(0,1),(2,0)] .done))]⟩
def wqg0(k:Nat){R:Type}(x0:(List dT72))(x1 x2 x3:Int)(K:(Int→Int→Int→Option R)): Option R:=wq40 k x0 x1 13 (fun y7 y8 y9=>cond (y8 != 0) (K 0 y8 y9) (wqh5 k y7 (fun y10 y11=>cond (cond (cond (!y11) true (decide (y10<x2))) true (decide (y10>x3))) (wq2c k x0 x1 13 (fun y12 y13=>K 0 y12 y13)) (K y10 0 0))))
def wq24:=@wqg0
theorem wqo5(k:Nat): DOK Tryz.prog 240 (h_field_Seen_Number.run (@wq24 k)):=dok h_field_Seen_Number (wqo4 k) Tryz.f240 k (ok1 (wq4b k) (ok1 (wqe1 k) (ok1 (wq17j k) ok0))) (by kernel_rfl) (by kernel_rfl) fun R=>by kernel_rfl
def h_unit_names:Sh:=⟨[],some ([],[.s .str]),none⟩
def wq13q(k:Nat): Cxt:=⟨[],[],[],[]⟩
def wqui(k:Nat){R:Type}(K:((List (List UInt8))→Option R)): Option R:=K [[],[115,101,99,111,110,100],[109,105,110,117,116,101],[104,111,117,114],[100,97,121]]
def wqi1:=@wqui
theorem wq13r(k:Nat): DOK Tryz.prog 259 (h_unit_names.run (@wqi1 k)):=dok h_unit_names (wq13q k) Tryz.f259 k ok0 (by kernel_rfl) (by kernel_rfl) fun R=>by kernel_rfl
def wq13s(k:Nat): Ent:=h_unit_names.e 259 (@wqi1 k)
def h_unit_Of:Sh:=⟨[.a .str],some ([],[.a kI]),none⟩
abbrev wqdm:Type 1:=(R:Type)→(List UInt8)→(Int→Option R)→Option R
def wq1cp(k:Nat): Cxt:=⟨[wq5l k,wq13s k],[],[],[]⟩
def wq16f(k:Nat){R:Type}(x0:(List UInt8))(K:(Int→Option R)): Option R:=wqi1 k (fun y4=>wq28 k y4 x0 (fun y5=>K (cond true (@ite (@Kd.T kI) ((0:Int)>y5) (@Int.decLt y5 (0:Int)) (0:Int) y5) (@ite (@Kd.T kI) ((0:Int)<y5) (@Int.decLt (0:Int) y5) (0:Int) y5))))
def wq9p:=@wq16f
theorem wq1cq(k:Nat): DOK Tryz.prog 239 (h_unit_Of.run (@wq9p k)):=dok h_unit_Of (wq1cp k) Tryz.f239 k (ok1 (wq5k k) (ok1 (wq13r k) ok0)) (by kernel_rfl) (by kernel_rfl) fun R=>by kernel_rfl
def h_config_reader_rule:Sh:=⟨[.o 1 79 0 [.s kdT72,.w 21 64 (.pr .str (.sl kI)),.w 51 57 kdT56,.a .flt],.a kI],some ([.o 1 79 0 [.s kdT72,.w 21 64 (.pr .str (.sl kI)),.w 51 57 kdT56,.a .flt]],[.g [.a .str,.a kI,.a kI,.a .flt,.a .bool,.a .bool]]),some ([.o 1 79 0 [.s kdT72,.w 21 64 (.pr .str (.sl kI)),.w 51 57 kdT56,.a .flt]],[.i 29 (.g [.a kI,.a kI])])⟩
abbrev wqa5:Type 1:=(R:Type)→(List dT72)→(List ((List UInt8)×(List Int)))→(List dT56)→Nat→Int→((List dT72)→(List ((List UInt8)×(List Int)))→(List dT56)→Nat→(List UInt8)→Int→Int→Nat→Bool→Bool→Option R)→((List dT72)→(List ((List UInt8)×(List Int)))→(List dT56)→Nat→Int→Int→Option R)→Option R
def u_config_reader_rule_1005:Cu:=⟨1,[0,1,4,28,29,30],[.o 1 79 0 [.s kdT72,.w 21 64 (.pr .str (.sl kI)),.w 51 57 kdT56,.a .flt],.r 1 0,.a kI,.o 14 55 0 [.a .str,.a kI,.a kI,.a .flt,.a .bool,.a .bool],.s .str,.a kI,.a kI]⟩
def wq88(k:Nat)(wq9:wq29)(wq2:wq18)(wq5:wq1u)(wq1:wqx)(wq0:wqt)(wq1o:wq4c)(wqi:wq38)(wq8:wq1z)(wqf:wq2l)(wq57:wqdm)(wqz:wq3k): Cxt:=⟨[h_config_gives.e 69 wq9,h_field_Seen_Known.e 70 wq2,h_config_reader_ratio.e 72 wq5,h_config_reader_must.e 73 wq1,h_config_reader_fault.e 75 wq0,h_field_Seen_Need.e 112 wq1o,h_field_Seen_Find.e 123 wqi,h_config_reader_name.e 126 wq8,h_config_reader_bool.e 207 wqf,h_unit_Of.e 239 wq57,h_field_Seen_Number.e 240 wqz],[1],[(1005,u_config_reader_rule_1005.spec)],[(16,(.of [(0,1),(1,1),(2,1),(4,1),(5,1),(3,2)] (.alt 6 (.alt 7 (.of [(8,1),(9,1),(10,1),(11,0),(12,1),(13,0)] .done) (.op 11 0 (.of [(7,0),(8,1),(9,1),(10,1),(12,1),(13,0)] .done))) (.op 11 0 (.of [(6,0),(7,0),(8,1),(9,1),(10,1),(12,1),(13,0)] .done)))))]⟩
def wq5c(k:Nat)(wq9:wq29)(wq2:wq18)(wq5:wq1u)(wq1:wqx)(wq0:wqt)(wq1o:wq4c)(wqi:wq38)(wq8:wq1z)(wqf:wq2l)(wq57:wqdm)(wqz:wq3k){R:Type}(E1005:((List dT72)→(List ((List UInt8)×(List Int)))→(List dT56)→Nat→Int→(List UInt8)→Int→Int→Nat→Bool→Bool→(List (List UInt8))→Int→Int→Option R))(s0:(List dT72))(s1:(List ((List UInt8)×(List Int))))(s2:(List dT56))(s3:Nat)(s4:Int)(s5:(List UInt8))(s6 s7:Int)(s8:Nat)(s9 s10:Bool)(s11:(List (List UInt8)))(s12 s13:Int)(K:((List dT72)→(List ((List UInt8)×(List Int)))→(List dT56)→Nat→(List UInt8)→Int→Int→Nat→Bool→Bool→Option R))(E:((List dT72)→(List ((List UInt8)×(List Int)))→(List dT56)→Nat→Int→Int→Option R)): Option R:=cond (decide (s13<s12)) (cond (inb s13 (s11.length:Int)) (wqi R s0 s4 (s11.getD s13.toNat Kd.str.zero) (fun y19 y20=>cond y20 (wq0 R s0 s4 17 (fun y21 y22=>E s0 s1 s2 s3 y21 y22)) (E1005 s0 s1 s2 s3 s4 s5 s6 s7 s8 s9 s10 s11 s12 (@Go.IntKind.wrap Go.IntKind.i64 (s13+1))))) none) (wqi R s0 s4 [110,97,109,101] (fun y19 y20=>cond y20 (wq8 R s0 y19 (fun y21=>K s0 s1 s2 s3 y21 s6 s7 s8 s9 s10) (fun y21 y22=>E s0 s1 s2 s3 y21 y22)) (K s0 s1 s2 s3 s5 s6 s7 s8 s9 s10)))
def wqa6(k:Nat)(wq9:wq29)(wq2:wq18)(wq5:wq1u)(wq1:wqx)(wq0:wqt)(wq1o:wq4c)(wqi:wq38)(wq8:wq1z)(wqf:wq2l)(wq57:wqdm)(wqz:wq3k){R:Type}(E1005:((List dT72)→(List ((List UInt8)×(List Int)))→(List dT56)→Nat→Int→(List UInt8)→Int→Int→Nat→Bool→Bool→(List (List UInt8))→Int→Int→Option R))(x0:(List dT72))(x1:(List ((List UInt8)×(List Int))))(x2:(List dT56))(x3:Nat)(x4:Int)(K:((List dT72)→(List ((List UInt8)×(List Int)))→(List dT56)→Nat→(List UInt8)→Int→Int→Nat→Bool→Bool→Option R))(E:((List dT72)→(List ((List UInt8)×(List Int)))→(List dT56)→Nat→Int→Int→Option R)): Option R:=wq2 R x0 x4 [[117,110,108,105,109,105,116,101,100],[117,110,105,116],[114,101,113,117,101,115,116,115,95,112,101,114,95,117,110,105,116],[110,101,97,114],[110,97,109,101]] (fun y10 y11=>wq9 R y10 y11 (fun y12=>wqf R x0 x4 [117,110,108,105,109,105,116,101,100] (fun y13=>cond y13 (E1005 x0 x1 x2 x3 x4 [] 0 0 0 false y13 [[117,110,105,116],[114,101,113,117,101,115,116,115,95,112,101,114,95,117,110,105,116],[110,101,97,114]] (@List.length (@Kd.T Kd.str) [[(117:UInt8),110,105,116],[(114:UInt8),101,113,117,101,115,116,115,95,112,101,114,95,117,110,105,116],[(110:UInt8),101,97,114]]:Int) 0) (wq1 R x0 x4 [117,110,105,116] (fun y14=>wq1o R x0 y14 1 (fun y15 y16=>wq9 R y15 y16 (fun y17=>cond (inb y14 (x0.length:Int)) (wq57 R (((x0.getD y14.toNat kdT72.zero).2).2).1 (fun y18=>cond (y18 == 0) (wq0 R x0 y14 16 (fun y19 y20=>E x0 x1 x2 x3 y19 y20)) (both (wq1 R x0 x4 [114,101,113,117,101,115,116,115,95,112,101,114,95,117,110,105,116] (fun y19=>dupT (@Shp.b @Shp.o @Shp.o) (wqz R x0 y19 0 4294967295 (fun y20 y21 y22=>wq9 R y21 y22 (fun y23=>wq5 R x0 x4 [110,101,97,114] x3 (fun y24=>wqi R x0 x4 [110,97,109,101] (fun y25 y26=>cond y26 (wq8 R x0 y25 (fun y27=>K x0 x1 x2 x3 y27 y18 y20 y24 false y13) (fun y27 y28=>E x0 x1 x2 x3 y27 y28)) (K x0 x1 x2 x3 [] y18 y20 y24 false y13))) (fun y24 y25=>E x0 x1 x2 x3 y24 y25)) (fun y23 y24=>E x0 x1 x2 x3 y23 y24)))) (fun y19 y20=>E x0 x1 x2 x3 y19 y20)) (wq1 R x0 x4 [114,101,113,117,101,115,116,115,95,112,101,114,95,117,110,105,116] (fun y19=>wqz R x0 y19 0 4294967295 (fun y20 y21 y22=>wq9 R y21 y22 (fun y23=>wq5 R x0 x4 [110,101,97,114] x3 (fun y24=>wqi R x0 x4 [110,97,109,101] (fun y25 y26=>cond y26 (wq8 R x0 y25 (fun y27=>K x0 x1 x2 x3 y27 y18 y20 y24 false y13) (fun y27 y28=>E x0 x1 x2 x3 y27 y28)) (K x0 x1 x2 x3 [] y18 y20 y24 false y13))) (fun y24 y25=>E x0 x1 x2 x3 y24 y25)) (fun y23 y24=>E x0 x1 x2 x3 y23 y24))) (fun y19 y20=>E x0 x1 x2 x3 y19 y20))))) none) (fun y17 y18=>E x0 x1 x2 x3 y17 y18))) (fun y14 y15=>E x0 x1 x2 x3 y14 y15))) (fun y13 y14=>E x0 x1 x2 x3 y13 y14)) (fun y12 y13=>E x0 x1 x2 x3 y12 y13))
def wq6h(k:Nat)(wq9:wq29)(wq2:wq18)(wq5:wq1u)(wq1:wqx)(wq0:wqt)(wq1o:wq4c)(wqi:wq38)(wq8:wq1z)(wqf:wq2l)(wq57:wqdm)(wqz:wq3k){R:Type}(E1005:((List dT72)→(List ((List UInt8)×(List Int)))→(List dT56)→Nat→Int→(List UInt8)→Int→Int→Nat→Bool→Bool→(List (List UInt8))→Int→Int→Option R))(x0:(List dT72))(x1:(List ((List UInt8)×(List Int))))(x2:(List dT56))(x3:Nat)(x4:Int)(K:((List dT72)→(List ((List UInt8)×(List Int)))→(List dT56)→Nat→(List UInt8)→Int→Int→Nat→Bool→Bool→Option R))(E:((List dT72)→(List ((List UInt8)×(List Int)))→(List dT56)→Nat→Int→Int→Option R)): Option R:=wq2 R x0 x4 [[117,110,108,105,109,105,116,101,100],[117,110,105,116],[114,101,113,117,101,115,116,115,95,112,101,114,95,117,110,105,116],[110,101,97,114],[110,97,109,101]] (fun y10 y11=>wq9 R y10 y11 (fun y12=>wqf R x0 x4 [117,110,108,105,109,105,116,101,100] (fun y13=>cond y13 (E1005 x0 x1 x2 x3 x4 [] 0 0 0 false y13 [[117,110,105,116],[114,101,113,117,101,115,116,115,95,112,101,114,95,117,110,105,116],[110,101,97,114]] (@List.length (@Kd.T Kd.str) [[(117:UInt8),110,105,116],[(114:UInt8),101,113,117,101,115,116,115,95,112,101,114,95,117,110,105,116],[(110:UInt8),101,97,114]]:Int) 0) (wq1 R x0 x4 [117,110,105,116] (fun y14=>wq1o R x0 y14 1 (fun y15 y16=>wq9 R y15 y16 (fun y17=>cond (inb y14 (x0.length:Int)) (wq57 R (((x0.getD y14.toNat kdT72.zero).2).2).1 (fun y18=>cond (y18 == 0) (wq0 R x0 y14 16 (fun y19 y20=>E x0 x1 x2 x3 y19 y20)) (wq1 R x0 x4 [114,101,113,117,101,115,116,115,95,112,101,114,95,117,110,105,116] (fun y19=>wqz R x0 y19 0 4294967295 (fun y20 y21 y22=>wq9 R y21 y22 (fun y23=>wq5 R x0 x4 [110,101,97,114] x3 (fun y24=>wqi R x0 x4 [110,97,109,101] (fun y25 y26=>cond y26 (wq8 R x0 y25 (fun y27=>K x0 x1 x2 x3 y27 y18 y20 y24 false y13) (fun y27 y28=>E x0 x1 x2 x3 y27 y28)) (K x0 x1 x2 x3 [] y18 y20 y24 false y13))) (fun y24 y25=>E x0 x1 x2 x3 y24 y25)) (fun y23 y24=>E x0 x1 x2 x3 y23 y24))) (fun y19 y20=>E x0 x1 x2 x3 y19 y20)))) none) (fun y17 y18=>E x0 x1 x2 x3 y17 y18))) (fun y14 y15=>E x0 x1 x2 x3 y14 y15))) (fun y13 y14=>E x0 x1 x2 x3 y13 y14)) (fun y12 y13=>E x0 x1 x2 x3 y12 y13))
theorem wqi2(k:Nat)(wq9:wq29)(wq2:wq18)(wq5:wq1u)(wq1:wqx)(wq0:wqt)(wq1o:wq4c)(wqi:wq38)(wq8:wq1z)(wqf:wq2l)(wq57:wqdm)(wqz:wq3k){R:Type}: @wqa6 k wq9 wq2 wq5 wq1 wq0 wq1o wqi wq8 wqf wq57 wqz R=@wq6h k wq9 wq2 wq5 wq1 wq0 wq1o wqi wq8 wqf wq57 wqz R:=by funext E1005 x0 x1 x2 x3 x4 K E;unfold wqa6 wq6h;simp only[wq164,show ∀(R:Type) (a:Option R),both a a=a from fun R a=>by unfold both;exact if_pos rfl]
def wq20(k:Nat)(wq9:wq29)(wq2:wq18)(wq5:wq1u)(wq1:wqx)(wq0:wqt)(wq1o:wq4c)(wqi:wq38)(wq8:wq1z)(wqf:wq2l)(wq57:wqdm)(wqz:wq3k){R:Type}: Nat→(List dT72)→(List ((List UInt8)×(List Int)))→(List dT56)→Nat→Int→(List UInt8)→Int→Int→Nat→Bool→Bool→(List (List UInt8))→Int→Int→((List dT72)→(List ((List UInt8)×(List Int)))→(List dT56)→Nat→(List UInt8)→Int→Int→Nat→Bool→Bool→Option R)→((List dT72)→(List ((List UInt8)×(List Int)))→(List dT56)→Nat→Int→Int→Option R)→Option R
 |0,_,_,_,_,_,_,_,_,_,_,_,_,_,_,_,_=>none
 |n+1,s0,s1,s2,s3,s4,s5,s6,s7,s8,s9,s10,s11,s12,s13,K,E=>wq5c k wq9 wq2 wq5 wq1 wq0 wq1o wqi wq8 wqf wq57 wqz (fun s0 s1 s2 s3 s4 s5 s6 s7 s8 s9 s10 s11 s12 s13=>wq20 k wq9 wq2 wq5 wq1 wq0 wq1o wqi wq8 wqf wq57 wqz n s0 s1 s2 s3 s4 s5 s6 s7 s8 s9 s10 s11 s12 s13 K E) s0 s1 s2 s3 s4 s5 s6 s7 s8 s9 s10 s11 s12 s13 K E
theorem wqfb(k:Nat)(wq9:wq29)(wq2:wq18)(wq5:wq1u)(wq1:wqx)(wq0:wqt)(wq1o:wq4c)(wqi:wq38)(wq8:wq1z)(wqf:wq2l)(wq57:wqdm)(wqz:wq3k){R:Type}: ∀(I:Nat→St→Option R) (n:Nat),h_config_reader_rule.lp u_config_reader_rule_1005 (wq88 k wq9 wq2 wq5 wq1 wq0 wq1o wqi wq8 wqf wq57 wqz).cx k Tryz.f206 1005 [1,1,0,1,1,0,1,0] I n=wq20 k wq9 wq2 wq5 wq1 wq0 wq1o wqi wq8 wqf wq57 wqz n:=h_config_reader_rule.lok u_config_reader_rule_1005 (B:=wq5c k wq9 wq2 wq5 wq1 wq0 wq1o wqi wq8 wqf wq57 wqz) (L:=wq20 k wq9 wq2 wq5 wq1 wq0 wq1o wqi wq8 wqf wq57 wqz) (fun I=>by kernel_rfl) (fun I=>by kernel_rfl) (fun n=>by kernel_rfl) (fun _ _ _ _=>rfl)
theorem wqmp(k:Nat)(wq9:wq29)(wq2:wq18)(wq5:wq1u)(wq1:wqx)(wq0:wqt)(wq1o:wq4c)(wqi:wq38)(wq8:wq1z)(wqf:wq2l)(wq57:wqdm)(wqz:wq3k)(R:Type): h_config_reader_rule.at (wq88 k wq9 wq2 wq5 wq1 wq0 wq1o wqi wq8 wqf wq57 wqz) k Tryz.f206 R=h_config_reader_rule.glue (l:=h_config_reader_rule.ps) (u:=u_config_reader_rule_1005.fs) (fun E1005=>@wqa6 k wq9 wq2 wq5 wq1 wq0 wq1o wqi wq8 wqf wq57 wqz R E1005) (h_config_reader_rule.lp u_config_reader_rule_1005 (wq88 k wq9 wq2 wq5 wq1 wq0 wq1o wqi wq8 wqf wq57 wqz).cx k Tryz.f206 1005 [1,1,0,1,1,0,1,0] (fun _ _=>none) k):=by kernel_rfl
def wq45(k:Nat){R:Type}(x0:(List dT72))(x1:(List ((List UInt8)×(List Int))))(x2:(List dT56))(x3:Nat)(x4:Int)(K:((List dT72)→(List ((List UInt8)×(List Int)))→(List dT56)→Nat→(List UInt8)→Int→Int→Nat→Bool→Bool→Option R))(E:((List dT72)→(List ((List UInt8)×(List Int)))→(List dT56)→Nat→Int→Int→Option R)): Option R:=wq6h k (@wqq k) (@wqn k) (@wqu k) (@wqk k) (@wqc k) (@wq1n k) (@wqv k) (@wq10 k) (@wq17 k) (@wq9p k) (@wq24 k) (fun s0 s1 s2 s3 s4 s5 s6 s7 s8 s9 s10 s11 s12 s13=>wq20 k (@wqq k) (@wqn k) (@wqu k) (@wqk k) (@wqc k) (@wq1n k) (@wqv k) (@wq10 k) (@wq17 k) (@wq9p k) (@wq24 k) k s0 s1 s2 s3 s4 s5 s6 s7 s8 s9 s10 s11 s12 s13 K E) x0 x1 x2 x3 x4 K E
theorem wqmq(k:Nat): DOK Tryz.prog 206 (h_config_reader_rule.run (@wq45 k)):=dok h_config_reader_rule (wq88 k (@wqq k) (@wqn k) (@wqu k) (@wqk k) (@wqc k) (@wq1n k) (@wqv k) (@wq10 k) (@wq17 k) (@wq9p k) (@wq24 k)) Tryz.f206 k (ok1 (wq5w k) (ok1 (wq9o k) (ok1 (wqef k) (ok1 (wq86 k) (ok1 (wq5s k) (ok1 (wq6y k) (ok1 (wq70 k) (ok1 (wqaz k) (ok1 (wqf7 k) (ok1 (wq1cq k) (ok1 (wqo5 k) ok0))))))))))) (by kernel_rfl) (by kernel_rfl) fun R=>(wqmp k (@wqq k) (@wqn k) (@wqu k) (@wqk k) (@wqc k) (@wq1n k) (@wqv k) (@wq10 k) (@wq17 k) (@wq9p k) (@wq24 k) R).trans ((show _=h_config_reader_rule.glue (l:=h_config_reader_rule.ps) (u:=u_config_reader_rule_1005.fs) (fun E1005=>@wq6h k (@wqq k) (@wqn k) (@wqu k) (@wqk k) (@wqc k) (@wq1n k) (@wqv k) (@wq10 k) (@wq17 k) (@wq9p k) (@wq24 k) R E1005) (wq20 k (@wqq k) (@wqn k) (@wqu k) (@wqk k) (@wqc k) (@wq1n k) (@wqv k) (@wq10 k) (@wq17 k) (@wq9p k) (@wq24 k) k) by simp only[wqfb,wqi2]).trans (by kernel_rfl))
def h_field_Seen_Word:Sh:=⟨[.g [.s kdT72],.a kI],some ([],[.a .str,.g [.a kI,.a kI]]),none⟩
abbrev wqct:Type 1:=(R:Type)→(List dT72)→Int→((List UInt8)→Int→Int→Option R)→Option R
def wqsf(k:Nat): Cxt:=⟨[wq8l k,wq4z k],[],[],[(3,(.of [(1,1),(0,1),(2,0)] .done))]⟩
def wqj3(k:Nat){R:Type}(x0:(List dT72))(x1:Int)(K:((List UInt8)→Int→Int→Option R)): Option R:=wq1n k x0 x1 1 (fun y5 y6=>cond (y5 != 0) (K [] y5 y6) (cond (inb x1 (x0.length:Int)) (cond (decide ((((((x0.getD x1.toNat kdT72.zero).2).2).1).length:Int)≤128)) (K (((x0.getD x1.toNat kdT72.zero).2).2).1 0 0) (wq2c k x0 x1 12 (fun y7 y8=>K [] y7 y8))) none))
def wq4u:=@wqj3
theorem wqsg(k:Nat): DOK Tryz.prog 204 (h_field_Seen_Word.run (@wq4u k)):=dok h_field_Seen_Word (wqsf k) Tryz.f204 k (ok1 (wq6y k) (ok1 (wq4b k) ok0)) (by kernel_rfl) (by kernel_rfl) fun R=>by kernel_rfl
def h_config_twin:Sh:=⟨[.g [.a .str,.a .str,.a .bool,.a kI,.a kI,.a .bool,.a .str,.a kI,.a kI,.a .flt,.a .bool,.a .bool,.s kI],.g [.a .str,.a .str,.a .bool,.a kI,.a kI,.a .bool,.a .str,.a kI,.a kI,.a .flt,.a .bool,.a .bool,.s kI]],some ([],[.a .bool]),none⟩
def wq117(k:Nat): Cxt:=⟨[],[],[],[]⟩
def wq118(k:Nat){R:Type}(x0 x1:(List UInt8))(x2:Bool)(x3 x4:Int)(x5:Bool)(x6:(List UInt8))(x7 x8:Int)(x9:Nat)(x10 x11:Bool)(x12:(List Int))(x13 x14:(List UInt8))(x15:Bool)(x16 x17:Int)(x18:Bool)(x19:(List UInt8))(x20 x21:Int)(x22:Nat)(x23 x24:Bool)(x25:(List Int))(K:(Bool→Option R)): Option R:=K (cond (cond (x0 == x13) (x1 == x14) false) (x2 == x15) false)
def wqdn:=@wq118
theorem wqjx(k:Nat): DOK Tryz.prog 67 (h_config_twin.run (@wqdn k)):=dok h_config_twin (wq117 k) Tryz.f67 k ok0 (by kernel_rfl) (by kernel_rfl) fun R=>by kernel_rfl
def wqjy(k:Nat): Ent:=h_config_twin.e 67 (@wqdn k)
def h_config_reader_branch_1:Sh:=⟨[.a kI,.o 11 75 0 [.o 330 79 0 [.s kdT72,.w 350 64 (.pr .str (.sl kI)),.w 380 57 kdT56,.a .flt]],.o 12 57 0 [.a .str,.a .str,.a .bool,.a kI,.a kI,.a .bool,.a .str,.a kI,.a kI,.a .flt,.a .bool,.a .bool,.s kI]],some ([.o 11 75 0 [.o 330 79 0 [.s kdT72,.w 350 64 (.pr .str (.sl kI)),.w 380 57 kdT56,.a .flt]],.r 330 0,.o 12 57 0 [.a .str,.a .str,.a .bool,.a kI,.a kI,.a .bool,.a .str,.a kI,.a kI,.a .flt,.a .bool,.a .bool,.s kI]],[.a .bool]),none⟩
def wqi3(k:Nat): Cxt:=⟨[wqjy k],[11,330,12],[],[(1,(.of [(5,1),(0,1),(1,1),(2,1),(3,1),(4,1),(6,1),(7,1),(8,1),(9,0),(10,1)] .done))]⟩
def wqbv(k:Nat){R:Type}(x0:Int)(x1:(List dT72))(x2:(List ((List UInt8)×(List Int))))(x3:(List dT56))(x4:Nat)(x5 x6:(List UInt8))(x7:Bool)(x8 x9:Int)(x10:Bool)(x11:(List UInt8))(x12 x13:Int)(x14:Nat)(x15 x16:Bool)(x17:(List Int))(K:((List dT72)→(List ((List UInt8)×(List Int)))→(List dT56)→Nat→(List UInt8)→(List UInt8)→Bool→Int→Int→Bool→(List UInt8)→Int→Int→Nat→Bool→Bool→(List Int)→Bool→Option R)): Option R:=cond (inb x0 (x3.length:Int)) (wqdn k (x3.getD x0.toNat kdT56.zero).1 ((x3.getD x0.toNat kdT56.zero).2).1 (((x3.getD x0.toNat kdT56.zero).2).2).1 ((((x3.getD x0.toNat kdT56.zero).2).2).2).1 (((((x3.getD x0.toNat kdT56.zero).2).2).2).2).1 ((((((x3.getD x0.toNat kdT56.zero).2).2).2).2).2).1 ((((((((x3.getD x0.toNat kdT56.zero).2).2).2).2).2).2).1).1 (((((((((x3.getD x0.toNat kdT56.zero).2).2).2).2).2).2).1).2).1 ((((((((((x3.getD x0.toNat kdT56.zero).2).2).2).2).2).2).1).2).2).1 (((((((((((x3.getD x0.toNat kdT56.zero).2).2).2).2).2).2).1).2).2).2).1 ((((((((((((x3.getD x0.toNat kdT56.zero).2).2).2).2).2).2).1).2).2).2).2).1 ((((((((((((x3.getD x0.toNat kdT56.zero).2).2).2).2).2).2).1).2).2).2).2).2 (((((((x3.getD x0.toNat kdT56.zero).2).2).2).2).2).2).2 x5 x6 x7 x8 x9 x10 x11 x12 x13 x14 x15 x16 x17 (fun y21=>K x1 x2 x3 x4 x5 x6 x7 x8 x9 x10 x11 x12 x13 x14 x15 x16 x17 y21)) none
def wq4m:=@wqbv
theorem wqi4(k:Nat): DOK Tryz.prog 205 (h_config_reader_branch_1.run (@wq4m k)):=dok h_config_reader_branch_1 (wqi3 k) Tryz.f205 k (ok1 (wqjx k) ok0) (by kernel_rfl) (by kernel_rfl) fun R=>by kernel_rfl
def wqi5(k:Nat): Ent:=h_config_reader_branch_1.e 205 (@wq4m k)
abbrev wq46(R:Type): Type:=((List dT72)→(List ((List UInt8)×(List Int)))→(List dT56)→Nat→(List UInt8)→(List UInt8)→Bool→Int→Int→Bool→(List UInt8)→Int→Int→Nat→Bool→Bool→(List Int)→Int→Option R)
def h_slices_IndexFunc___int_int_branch:Sh:=⟨[.b kI,.c 205 [.o 300 75 0 [.o 330 79 0 [.s kdT72,.w 350 64 (.pr .str (.sl kI)),.w 380 57 kdT56,.a .flt]],.o 301 57 0 [.a .str,.a .str,.a .bool,.a kI,.a kI,.a .bool,.a .str,.a kI,.a kI,.a .flt,.a .bool,.a .bool,.s kI]]],some ([.o 300 75 0 [.o 330 79 0 [.s kdT72,.w 350 64 (.pr .str (.sl kI)),.w 380 57 kdT56,.a .flt]],.r 330 0,.o 301 57 0 [.a .str,.a .str,.a .bool,.a kI,.a kI,.a .bool,.a .str,.a kI,.a kI,.a .flt,.a .bool,.a .bool,.s kI]],[.a kI]),none⟩
def u_slices_IndexFunc___int_int_branch_1002:Cu:=⟨3,[0,1,7,8],[.o 300 75 0 [.o 330 79 0 [.s kdT72,.w 350 64 (.pr .str (.sl kI)),.w 380 57 kdT56,.a .flt]],.r 330 0,.o 301 57 0 [.a .str,.a .str,.a .bool,.a kI,.a kI,.a .bool,.a .str,.a kI,.a kI,.a .flt,.a .bool,.a .bool,.s kI],.b kI,.c 205 [.r 300 0,.r 301 0],.a kI,.a kI]⟩
def wq6v(k:Nat): Cxt:=⟨[wqi5 k],[300,330,301],[(1002,u_slices_IndexFunc___int_int_branch_1002.spec)],[]⟩
def wq30(k:Nat){R:Type}(E1002:((List dT72)→(List ((List UInt8)×(List Int)))→(List dT56)→Nat→(List UInt8)→(List UInt8)→Bool→Int→Int→Bool→(List UInt8)→Int→Int→Nat→Bool→Bool→(List Int)→(List Int)→Int→Int→Option R))(s0:(List dT72))(s1:(List ((List UInt8)×(List Int))))(s2:(List dT56))(s3:Nat)(s4 s5:(List UInt8))(s6:Bool)(s7 s8:Int)(s9:Bool)(s10:(List UInt8))(s11 s12:Int)(s13:Nat)(s14 s15:Bool)(s16 s17:(List Int))(s18 s19:Int)(K:wq46 R): Option R:=cond (decide (s19<s18)) (cond (inb s19 (s17.length:Int)) (wq4m k (s17.getD s19.toNat kI.zero) s0 s1 s2 s3 s4 s5 s6 s7 s8 s9 s10 s11 s12 s13 s14 s15 s16 (fun y24 y25 y26 y27 y28 y29 y30 y31 y32 y33 y34 y35 y36 y37 y38 y39 y40 y41=>cond y41 (K y24 y25 y26 y27 y28 y29 y30 y31 y32 y33 y34 y35 y36 y37 y38 y39 y40 s19) (E1002 y24 y25 y26 y27 y28 y29 y30 y31 y32 y33 y34 y35 y36 y37 y38 y39 y40 s17 s18 (@Go.IntKind.wrap Go.IntKind.i64 (s19+1))))) none) (K s0 s1 s2 s3 s4 s5 s6 s7 s8 s9 s10 s11 s12 s13 s14 s15 s16 (@Neg.neg Int @Int.instNegInt (1:Int)))
def wq4g(k:Nat){R:Type}(E1002:((List dT72)→(List ((List UInt8)×(List Int)))→(List dT56)→Nat→(List UInt8)→(List UInt8)→Bool→Int→Int→Bool→(List UInt8)→Int→Int→Nat→Bool→Bool→(List Int)→(List Int)→Int→Int→Option R))(x0:(List Int))(x1:(List dT72))(x2:(List ((List UInt8)×(List Int))))(x3:(List dT56))(x4:Nat)(x5 x6:(List UInt8))(x7:Bool)(x8 x9:Int)(x10:Bool)(x11:(List UInt8))(x12 x13:Int)(x14:Nat)(x15 x16:Bool)(x17:(List Int))(K:wq46 R): Option R:=E1002 x1 x2 x3 x4 x5 x6 x7 x8 x9 x10 x11 x12 x13 x14 x15 x16 x17 x0 (x0.length:Int) 0
def wq1l(k:Nat){R:Type}: Nat→(List dT72)→(List ((List UInt8)×(List Int)))→(List dT56)→Nat→(List UInt8)→(List UInt8)→Bool→Int→Int→Bool→(List UInt8)→Int→Int→Nat→Bool→Bool→(List Int)→(List Int)→Int→Int→((List dT72)→(List ((List UInt8)×(List Int)))→(List dT56)→Nat→(List UInt8)→(List UInt8)→Bool→Int→Int→Bool→(List UInt8)→Int→Int→Nat→Bool→Bool→(List Int)→Int→Option R)→Option R
 |0,_,_,_,_,_,_,_,_,_,_,_,_,_,_,_,_,_,_,_,_,_=>none
 |n+1,s0,s1,s2,s3,s4,s5,s6,s7,s8,s9,s10,s11,s12,s13,s14,s15,s16,s17,s18,s19,K=>wq30 k (fun s0 s1 s2 s3 s4 s5 s6 s7 s8 s9 s10 s11 s12 s13 s14 s15 s16 s17 s18 s19=>wq1l k n s0 s1 s2 s3 s4 s5 s6 s7 s8 s9 s10 s11 s12 s13 s14 s15 s16 s17 s18 s19 K) s0 s1 s2 s3 s4 s5 s6 s7 s8 s9 s10 s11 s12 s13 s14 s15 s16 s17 s18 s19 K
theorem wq8o(k:Nat){R:Type}: ∀(I:Nat→St→Option R) (n:Nat),h_slices_IndexFunc___int_int_branch.lp u_slices_IndexFunc___int_int_branch_1002 (wq6v k).cx k Tryz.f110 1002 [1,0,1,0] I n=wq1l k n:=h_slices_IndexFunc___int_int_branch.lok u_slices_IndexFunc___int_int_branch_1002 (B:=wq30 k) (L:=wq1l k) (fun I=>by kernel_rfl) (fun I=>by kernel_rfl) (fun n=>by kernel_rfl) (fun _ _ _ _=>rfl)
def wq3e(k:Nat){R:Type}(x0:(List Int))(x1:(List dT72))(x2:(List ((List UInt8)×(List Int))))(x3:(List dT56))(x4:Nat)(x5 x6:(List UInt8))(x7:Bool)(x8 x9:Int)(x10:Bool)(x11:(List UInt8))(x12 x13:Int)(x14:Nat)(x15 x16:Bool)(x17:(List Int))(K:wq46 R): Option R:=wq4g k (fun s0 s1 s2 s3 s4 s5 s6 s7 s8 s9 s10 s11 s12 s13 s14 s15 s16 s17 s18 s19=>wq1l k k s0 s1 s2 s3 s4 s5 s6 s7 s8 s9 s10 s11 s12 s13 s14 s15 s16 s17 s18 s19 K) x0 x1 x2 x3 x4 x5 x6 x7 x8 x9 x10 x11 x12 x13 x14 x15 x16 x17 K
theorem wqbn(k:Nat): DOK Tryz.prog 110 (h_slices_IndexFunc___int_int_branch.run (@wq3e k)):=dok h_slices_IndexFunc___int_int_branch (wq6v k) Tryz.f110 k (ok1 (wqi4 k) ok0) (by kernel_rfl) (by kernel_rfl) fun R=>h_slices_IndexFunc___int_int_branch.f1 u_slices_IndexFunc___int_int_branch_1002 (wq4g k) (by kernel_rfl) (wq8o k (fun _ _=>none) k) (by kernel_rfl)
def wqbo(k:Nat): Ent:=h_slices_IndexFunc___int_int_branch.e 110 (@wq3e k)
def h_slices_ContainsFunc___int_int_branch:Sh:=⟨[.b kI,.c 205 [.o 300 75 0 [.o 330 79 0 [.s kdT72,.w 350 64 (.pr .str (.sl kI)),.w 380 57 kdT56,.a .flt]],.o 301 57 0 [.a .str,.a .str,.a .bool,.a kI,.a kI,.a .bool,.a .str,.a kI,.a kI,.a .flt,.a .bool,.a .bool,.s kI]]],some ([.o 300 75 0 [.o 330 79 0 [.s kdT72,.w 350 64 (.pr .str (.sl kI)),.w 380 57 kdT56,.a .flt]],.r 330 0,.o 301 57 0 [.a .str,.a .str,.a .bool,.a kI,.a kI,.a .bool,.a .str,.a kI,.a kI,.a .flt,.a .bool,.a .bool,.s kI]],[.a .bool]),none⟩
abbrev wq3p:Type 1:=(R:Type)→(List Int)→(List dT72)→(List ((List UInt8)×(List Int)))→(List dT56)→Nat→(List UInt8)→(List UInt8)→Bool→Int→Int→Bool→(List UInt8)→Int→Int→Nat→Bool→Bool→(List Int)→((List dT72)→(List ((List UInt8)×(List Int)))→(List dT56)→Nat→(List UInt8)→(List UInt8)→Bool→Int→Int→Bool→(List UInt8)→Int→Int→Nat→Bool→Bool→(List Int)→Bool→Option R)→Option R
def wqa7(k:Nat): Cxt:=⟨[wqbo k],[300,330,301],[],[]⟩
def wq5t(k:Nat){R:Type}(x0:(List Int))(x1:(List dT72))(x2:(List ((List UInt8)×(List Int))))(x3:(List dT56))(x4:Nat)(x5 x6:(List UInt8))(x7:Bool)(x8 x9:Int)(x10:Bool)(x11:(List UInt8))(x12 x13:Int)(x14:Nat)(x15 x16:Bool)(x17:(List Int))(K:((List dT72)→(List ((List UInt8)×(List Int)))→(List dT56)→Nat→(List UInt8)→(List UInt8)→Bool→Int→Int→Bool→(List UInt8)→Int→Int→Nat→Bool→Bool→(List Int)→Bool→Option R)): Option R:=wq3e k x0 x1 x2 x3 x4 x5 x6 x7 x8 x9 x10 x11 x12 x13 x14 x15 x16 x17 (fun y21 y22 y23 y24 y25 y26 y27 y28 y29 y30 y31 y32 y33 y34 y35 y36 y37 y38=>K y21 y22 y23 y24 y25 y26 y27 y28 y29 y30 y31 y32 y33 y34 y35 y36 y37 (decide (y38≥0)))
def wq1s:=@wq5t
theorem wqa8(k:Nat): DOK Tryz.prog 65 (h_slices_ContainsFunc___int_int_branch.run (@wq1s k)):=dok h_slices_ContainsFunc___int_int_branch (wqa7 k) Tryz.f65 k (ok1 (wqbn k) ok0) (by kernel_rfl) (by kernel_rfl) fun R=>by kernel_rfl
def h_config_reader_list:Sh:=⟨[.o 1 79 0 [.s kdT72,.w 21 64 (.pr .str (.sl kI)),.w 51 57 kdT56,.a .flt],.a kI,.a kI,.a kI,.a kI],some ([.o 1 79 0 [.s kdT72,.w 21 64 (.pr .str (.sl kI)),.w 51 57 kdT56,.a .flt]],[.s kI]),some ([.o 1 79 0 [.s kdT72,.w 21 64 (.pr .str (.sl kI)),.w 51 57 kdT56,.a .flt]],[.i 29 (.g [.a kI,.a kI])])⟩
abbrev wq27:Type 1:=(R:Type)→(List dT72)→(List ((List UInt8)×(List Int)))→(List dT56)→Nat→Int→Int→Int→Int→((List dT72)→(List ((List UInt8)×(List Int)))→(List dT56)→Nat→(List Int)→Option R)→((List dT72)→(List ((List UInt8)×(List Int)))→(List dT56)→Nat→Int→Int→Option R)→Option R
def h_config_reader_branch:Sh:=⟨[.o 1 79 0 [.s kdT72,.w 21 64 (.pr .str (.sl kI)),.w 51 57 kdT56,.a .flt],.a kI,.g [.a .str,.a .str,.a .bool,.a kI,.a kI,.a .bool,.a .str,.a kI,.a kI,.a .flt,.a .bool,.a .bool,.s kI],.b kI,.a kI],some ([.o 1 79 0 [.s kdT72,.w 21 64 (.pr .str (.sl kI)),.w 51 57 kdT56,.a .flt]],[.a kI]),some ([.o 1 79 0 [.s kdT72,.w 21 64 (.pr .str (.sl kI)),.w 51 57 kdT56,.a .flt]],[.i 29 (.g [.a kI,.a kI])])⟩
abbrev wq2i:Type 1:=(R:Type)→(List dT72)→(List ((List UInt8)×(List Int)))→(List dT56)→Nat→Int→(List UInt8)→(List UInt8)→Bool→Int→Int→Bool→(List UInt8)→Int→Int→Nat→Bool→Bool→(List Int)→(List Int)→Int→((List dT72)→(List ((List UInt8)×(List Int)))→(List dT56)→Nat→Int→Option R)→((List dT72)→(List ((List UInt8)×(List Int)))→(List dT56)→Nat→Int→Int→Option R)→Option R
def u_config_reader_list_1003:Cu:=⟨1,[0,2,3,4,11,16,17,18],[.o 1 79 0 [.s kdT72,.w 21 64 (.pr .str (.sl kI)),.w 51 57 kdT56,.a .flt],.r 1 0,.a kI,.a kI,.a kI,.w 100011 3 kI,.s kI,.a kI,.a kI]⟩
def wq89(k:Nat)(wqg:wq27)(wqp:wq2i): Cxt:=⟨[wqlf k,h_config_reader_branch.e 175 wqp],[1],[(1003,u_config_reader_list_1003.spec)],[]⟩
def wq5d(k:Nat)(wqg:wq27)(wqp:wq2i){R:Type}(E1003:((List dT72)→(List ((List UInt8)×(List Int)))→(List dT56)→Nat→Int→Int→Int→(List Int)→(List Int)→Int→Int→Option R))(s0:(List dT72))(s1:(List ((List UInt8)×(List Int))))(s2:(List dT56))(s3:Nat)(s4 s5 s6:Int)(s7 s8:(List Int))(s9 s10:Int)(K:((List dT72)→(List ((List UInt8)×(List Int)))→(List dT56)→Nat→(List Int)→Option R))(E:((List dT72)→(List ((List UInt8)×(List Int)))→(List dT56)→Nat→Int→Int→Option R)): Option R:=cond (decide (s10<s9)) (cond (inb s10 (s8.length:Int)) (wqp R s0 s1 s2 s3 (s8.getD s10.toNat kI.zero) [] [] false s4 s5 false [] 0 0 0 false false [] s7 s6 (fun y16 y17 y18 y19 y20=>cond (fits s7.length (@List.length (@Kd.T kI) [y20]) 8) (E1003 y16 y17 y18 y19 s4 s5 s6 (s7++[y20]) s8 s9 (@Go.IntKind.wrap Go.IntKind.i64 (s10+1))) none) E) none) (K s0 s1 s2 s3 s7)
def wq8a(k:Nat)(wqg:wq27)(wqp:wq2i){R:Type}(E1003:((List dT72)→(List ((List UInt8)×(List Int)))→(List dT56)→Nat→Int→Int→Int→(List Int)→(List Int)→Int→Int→Option R))(x0:(List dT72))(x1:(List ((List UInt8)×(List Int))))(x2:(List dT56))(x3:Nat)(x4 x5 x6 x7:Int)(K:((List dT72)→(List ((List UInt8)×(List Int)))→(List dT56)→Nat→(List Int)→Option R))(E:((List dT72)→(List ((List UInt8)×(List Int)))→(List dT56)→Nat→Int→Int→Option R)): Option R:=wq26 k x0 x4 [100,101,115,99,114,105,112,116,111,114,115] (fun y13=>E1003 x0 x1 x2 x3 x5 x6 x7 [] y13 (y13.length:Int) 0) (fun y13 y14=>E x0 x1 x2 x3 y13 y14)
def wq2s(k:Nat)(wqg:wq27)(wqp:wq2i){R:Type}: Nat→(List dT72)→(List ((List UInt8)×(List Int)))→(List dT56)→Nat→Int→Int→Int→(List Int)→(List Int)→Int→Int→((List dT72)→(List ((List UInt8)×(List Int)))→(List dT56)→Nat→(List Int)→Option R)→((List dT72)→(List ((List UInt8)×(List Int)))→(List dT56)→Nat→Int→Int→Option R)→Option R
 |0,_,_,_,_,_,_,_,_,_,_,_,_,_=>none
 |n+1,s0,s1,s2,s3,s4,s5,s6,s7,s8,s9,s10,K,E=>wq5d k wqg wqp (fun s0 s1 s2 s3 s4 s5 s6 s7 s8 s9 s10=>wq2s k wqg wqp n s0 s1 s2 s3 s4 s5 s6 s7 s8 s9 s10 K E) s0 s1 s2 s3 s4 s5 s6 s7 s8 s9 s10 K E
theorem wqfc(k:Nat)(wqg:wq27)(wqp:wq2i){R:Type}: ∀(I:Nat→St→Option R) (n:Nat),h_config_reader_list.lp u_config_reader_list_1003 (wq89 k wqg wqp).cx k Tryz.f129 1003 [1,1,0,1,0] I n=wq2s k wqg wqp n:=h_config_reader_list.lok u_config_reader_list_1003 (B:=wq5d k wqg wqp) (L:=wq2s k wqg wqp) (fun I=>by kernel_rfl) (fun I=>by kernel_rfl) (fun n=>by kernel_rfl) (fun _ _ _ _=>rfl)
theorem wqmr(k:Nat)(wqg:wq27)(wqp:wq2i)(R:Type): h_config_reader_list.at (wq89 k wqg wqp) k Tryz.f129 R=h_config_reader_list.glue (l:=h_config_reader_list.ps) (u:=u_config_reader_list_1003.fs) (fun E1003=>@wq8a k wqg wqp R E1003) (h_config_reader_list.lp u_config_reader_list_1003 (wq89 k wqg wqp).cx k Tryz.f129 1003 [1,1,0,1,0] (fun _ _=>none) k):=by kernel_rfl
def wqdo(k:Nat)(wqg:wq27)(wqp:wq2i)(wq1t:wq3p)(wq9:wq29)(wq2:wq18)(wq1:wqx)(wq0:wqt)(wqi:wq38)(wq8:wq1z)(wq78:wqct)(wq49:wqa5)(wqf:wq2l): Cxt:=⟨[h_slices_ContainsFunc___int_int_branch.e 65 wq1t,h_config_gives.e 69 wq9,h_field_Seen_Known.e 70 wq2,h_config_reader_must.e 73 wq1,h_config_reader_fault.e 75 wq0,h_field_Seen_Find.e 123 wqi,h_config_reader_name.e 126 wq8,h_config_reader_list.e 129 wqg,h_field_Seen_Word.e 204 wq78,h_config_reader_rule.e 206 wq49,h_config_reader_bool.e 207 wqf],[1],[],[(6,(.of [(2,1),(1,1),(0,2),(3,0),(4,0),(5,1),(6,0)] .done)),(16,(.of [(1,1),(2,1),(3,1),(4,1),(5,1),(6,1),(0,2),(7,0),(8,0),(9,1),(10,1),(11,1),(12,0)] .done)),(25,(.of [(5,1),(0,1),(1,1),(2,1),(3,1),(4,1),(6,1),(7,1),(8,0)] .done))]⟩
def wq7c(k:Nat)(wqg:wq27)(wqp:wq2i)(wq1t:wq3p)(wq9:wq29)(wq2:wq18)(wq1:wqx)(wq0:wqt)(wqi:wq38)(wq8:wq1z)(wq78:wqct)(wq49:wqa5)(wqf:wq2l){R:Type}(x0:(List dT72))(x1:(List ((List UInt8)×(List Int))))(x2:(List dT56))(x3:Nat)(x4:Int)(x5 x6:(List UInt8))(x7:Bool)(x8 x9:Int)(x10:Bool)(x11:(List UInt8))(x12 x13:Int)(x14:Nat)(x15 x16:Bool)(x17 x18:(List Int))(x19:Int)(K:((List dT72)→(List ((List UInt8)×(List Int)))→(List dT56)→Nat→Int→Option R))(E:((List dT72)→(List ((List UInt8)×(List Int)))→(List dT56)→Nat→Int→Int→Option R)): Option R:=cond (decide (x19>8)) (wq0 R x0 x4 8 (fun y24 y25=>E x0 x1 x2 x3 y24 y25)) (cond (decide ((x2.length:Int)≥500)) (wq0 R x0 x4 9 (fun y24 y25=>E x0 x1 x2 x3 y24 y25)) (wq2 R x0 x4 [[107,101,121],[118,97,108,117,101],[114,97,116,101,95,108,105,109,105,116],[115,104,97,100,111,119,95,109,111,100,101],[100,101,115,99,114,105,112,116,111,114,115]] (fun y24 y25=>wq9 R y24 y25 (fun y26=>wq1 R x0 x4 [107,101,121] (fun y27=>wq8 R x0 y27 (fun y28=>wqi R x0 x4 [118,97,108,117,101] (fun y29 y30=>cond y30 (wq78 R x0 y29 (fun y31 y32 y33=>wq9 R y32 y33 (fun y34=>wq1t R x18 x0 x1 x2 x3 y28 y31 false x8 x9 x10 x11 x12 x13 x14 x15 x16 x17 (fun y35 y36 y37 y38 y39 y40 y41 y42 y43 y44 y45 y46 y47 y48 y49 y50 y51 y52=>cond y52 (wq0 R y35 x4 7 (fun y53 y54=>E y35 y36 y37 y38 y53 y54)) (cond (fits y37.length (@List.length (@Kd.T kdT56) [(y39,(y40,(y41,(y42,(y43,(y44,((y45,(y46,(y47,(y48,(y49,y50))))),y51)))))))]) 136) (wqi R y35 x4 [114,97,116,101,95,108,105,109,105,116] (fun y53 y54=>cond y54 (wq49 R y35 y36 (y37++[(y39,(y40,(y41,(y42,(y43,(y44,((y45,(y46,(y47,(y48,(y49,y50))))),y51)))))))]) y38 y53 (fun y55 y56 y57 y58 y59 y60 y61 y62 y63 y64=>wqf R y55 x4 [115,104,97,100,111,119,95,109,111,100,101] (fun y65=>cond (cond y65 (!true) false) (wqi R y55 x4 [115,104,97,100,111,119,95,109,111,100,101] (fun y66 y67=>wq0 R y55 y66 17 (fun y68 y69=>E y55 y56 y57 y58 y68 y69))) (wqg R y55 y56 y57 y58 x4 y42 (y37.length:Int) (@Go.IntKind.wrap Go.IntKind.i64 (x19+1)) (fun y66 y67 y68 y69 y70=>cond (inb (y37.length:Int) (y68.length:Int)) (@SH (@List (@Kd.T kdT56)) R (List.set y68 (y37.length:Int).toNat (y39,(y40,(y41,(y42,(y43,(true,((y59,(y60,(y61,(y62,(y65,y64))))),y70)))))))) (fun y71=>K y66 y67 y71 y69 (y37.length:Int))) none) E)) (fun y65 y66=>E y55 y56 y57 y58 y65 y66)) E) (wqf R y35 x4 [115,104,97,100,111,119,95,109,111,100,101] (fun y55=>cond (cond y55 (!y44) false) (wqi R y35 x4 [115,104,97,100,111,119,95,109,111,100,101] (fun y56 y57=>wq0 R y35 y56 17 (fun y58 y59=>E y35 y36 (y37++[(y39,(y40,(y41,(y42,(y43,(y44,((y45,(y46,(y47,(y48,(y49,y50))))),y51)))))))]) y38 y58 y59))) (wqg R y35 y36 (y37++[(y39,(y40,(y41,(y42,(y43,(y44,((y45,(y46,(y47,(y48,(y49,y50))))),y51)))))))]) y38 x4 y42 (y37.length:Int) (@Go.IntKind.wrap Go.IntKind.i64 (x19+1)) (fun y56 y57 y58 y59 y60=>cond (inb (y37.length:Int) (y58.length:Int)) (@SH (@List (@Kd.T kdT56)) R (List.set y58 (y37.length:Int).toNat (y39,(y40,(y41,(y42,(y43,(y44,((y45,(y46,(y47,(y48,(y55,y50))))),y60)))))))) (fun y61=>K y56 y57 y61 y59 (y37.length:Int))) none) E)) (fun y55 y56=>E y35 y36 (y37++[(y39,(y40,(y41,(y42,(y43,(y44,((y45,(y46,(y47,(y48,(y49,y50))))),y51)))))))]) y38 y55 y56)))) none))) (fun y34 y35=>E x0 x1 x2 x3 y34 y35))) (wq1t R x18 x0 x1 x2 x3 y28 x6 true x8 x9 x10 x11 x12 x13 x14 x15 x16 x17 (fun y31 y32 y33 y34 y35 y36 y37 y38 y39 y40 y41 y42 y43 y44 y45 y46 y47 y48=>cond y48 (wq0 R y31 x4 7 (fun y49 y50=>E y31 y32 y33 y34 y49 y50)) (cond (fits y33.length (@List.length (@Kd.T kdT56) [(y35,(y36,(y37,(y38,(y39,(y40,((y41,(y42,(y43,(y44,(y45,y46))))),y47)))))))]) 136) (wqi R y31 x4 [114,97,116,101,95,108,105,109,105,116] (fun y49 y50=>cond y50 (wq49 R y31 y32 (y33++[(y35,(y36,(y37,(y38,(y39,(y40,((y41,(y42,(y43,(y44,(y45,y46))))),y47)))))))]) y34 y49 (fun y51 y52 y53 y54 y55 y56 y57 y58 y59 y60=>wqf R y51 x4 [115,104,97,100,111,119,95,109,111,100,101] (fun y61=>cond (cond y61 (!true) false) (wqi R y51 x4 [115,104,97,100,111,119,95,109,111,100,101] (fun y62 y63=>wq0 R y51 y62 17 (fun y64 y65=>E y51 y52 y53 y54 y64 y65))) (wqg R y51 y52 y53 y54 x4 y38 (y33.length:Int) (@Go.IntKind.wrap Go.IntKind.i64 (x19+1)) (fun y62 y63 y64 y65 y66=>cond (inb (y33.length:Int) (y64.length:Int)) (@SH (@List (@Kd.T kdT56)) R (List.set y64 (y33.length:Int).toNat (y35,(y36,(y37,(y38,(y39,(true,((y55,(y56,(y57,(y58,(y61,y60))))),y66)))))))) (fun y67=>K y62 y63 y67 y65 (y33.length:Int))) none) E)) (fun y61 y62=>E y51 y52 y53 y54 y61 y62)) E) (wqf R y31 x4 [115,104,97,100,111,119,95,109,111,100,101] (fun y51=>cond (cond y51 (!y40) false) (wqi R y31 x4 [115,104,97,100,111,119,95,109,111,100,101] (fun y52 y53=>wq0 R y31 y52 17 (fun y54 y55=>E y31 y32 (y33++[(y35,(y36,(y37,(y38,(y39,(y40,((y41,(y42,(y43,(y44,(y45,y46))))),y47)))))))]) y34 y54 y55))) (wqg R y31 y32 (y33++[(y35,(y36,(y37,(y38,(y39,(y40,((y41,(y42,(y43,(y44,(y45,y46))))),y47)))))))]) y34 x4 y38 (y33.length:Int) (@Go.IntKind.wrap Go.IntKind.i64 (x19+1)) (fun y52 y53 y54 y55 y56=>cond (inb (y33.length:Int) (y54.length:Int)) (@SH (@List (@Kd.T kdT56)) R (List.set y54 (y33.length:Int).toNat (y35,(y36,(y37,(y38,(y39,(y40,((y41,(y42,(y43,(y44,(y51,y46))))),y56)))))))) (fun y57=>K y52 y53 y57 y55 (y33.length:Int))) none) E)) (fun y51 y52=>E y31 y32 (y33++[(y35,(y36,(y37,(y38,(y39,(y40,((y41,(y42,(y43,(y44,(y45,y46))))),y47)))))))]) y34 y51 y52)))) none))))) (fun y28 y29=>E x0 x1 x2 x3 y28 y29)) (fun y27 y28=>E x0 x1 x2 x3 y27 y28)) (fun y26 y27=>E x0 x1 x2 x3 y26 y27))))
theorem wqjz(k:Nat)(wqg:wq27)(wqp:wq2i)(wq1t:wq3p)(wq9:wq29)(wq2:wq18)(wq1:wqx)(wq0:wqt)(wqi:wq38)(wq8:wq1z)(wq78:wqct)(wq49:wqa5)(wqf:wq2l)(R:Type): h_config_reader_branch.at (wqdo k wqg wqp wq1t wq9 wq2 wq1 wq0 wqi wq8 wq78 wq49 wqf) k Tryz.f175 R=@wq7c k wqg wqp wq1t wq9 wq2 wq1 wq0 wqi wq8 wq78 wq49 wqf R:=by kernel_rfl
mutual
def wq16:Nat→wq27
 |0,_,_,_,_,_,_,_,_,_,_,_=>none
 |k+1,R,x0,x1,x2,x3,x4,x5,x6,x7,K,E=>wq8a k (wq16 k) (FR_config_reader_branch k) (fun s0 s1 s2 s3 s4 s5 s6 s7 s8 s9 s10=>wq2s k (wq16 k) (FR_config_reader_branch k) k s0 s1 s2 s3 s4 s5 s6 s7 s8 s9 s10 K E) x0 x1 x2 x3 x4 x5 x6 x7 K E
def FR_config_reader_branch:Nat→wq2i
 |0,_,_,_,_,_,_,_,_,_,_,_,_,_,_,_,_,_,_,_,_,_,_,_=>none
 |k+1,R,x0,x1,x2,x3,x4,x5,x6,x7,x8,x9,x10,x11,x12,x13,x14,x15,x16,x17,x18,x19,K,E=>wq7c k (wq16 k) (FR_config_reader_branch k) (@wq1s k) (@wqq k) (@wqn k) (@wqk k) (@wqc k) (@wqv k) (@wq10 k) (@wq4u k) (@wq45 k) (@wq17 k) x0 x1 x2 x3 x4 x5 x6 x7 x8 x9 x10 x11 x12 x13 x14 x15 x16 x17 x18 x19 K E
end
def wq8b(k:Nat){R:Type}(x0:(List dT72))(x1:(List ((List UInt8)×(List Int))))(x2:(List dT56))(x3:Nat)(x4 x5 x6 x7:Int)(K:((List dT72)→(List ((List UInt8)×(List Int)))→(List dT56)→Nat→(List Int)→Option R))(E:((List dT72)→(List ((List UInt8)×(List Int)))→(List dT56)→Nat→Int→Int→Option R)): Option R:=wq16 k R x0 x1 x2 x3 x4 x5 x6 x7 K E
theorem wqli(k:Nat): DOK Tryz.prog 129 (h_config_reader_list.run (wq16 k))∧DOK Tryz.prog 175 (h_config_reader_branch.run (FR_config_reader_branch k)):=by
 induction k with
 |zero=>exact⟨h_config_reader_list.ok0 fun R=>by kernel_rfl,h_config_reader_branch.ok0 fun R=>by kernel_rfl⟩
 |succ k ih =>
  obtain⟨ih_config_reader_list,ih_config_reader_branch⟩:=ih
  exact⟨dok h_config_reader_list (wq89 k (wq16 k) (FR_config_reader_branch k)) Tryz.f129 k (ok1 (wqec k) (ok1 ih_config_reader_branch ok0)) (by kernel_rfl) (by kernel_rfl) fun R=>h_config_reader_list.f1 u_config_reader_list_1003 (wq8a k (wq16 k) (FR_config_reader_branch k)) (wqmr k (wq16 k) (FR_config_reader_branch k) R) (wqfc k (wq16 k) (FR_config_reader_branch k) (fun _ _=>none) k) (by kernel_rfl),dok h_config_reader_branch (wqdo k (wq16 k) (FR_config_reader_branch k) (@wq1s k) (@wqq k) (@wqn k) (@wqk k) (@wqc k) (@wqv k) (@wq10 k) (@wq4u k) (@wq45 k) (@wq17 k)) Tryz.f175 k (ok1 (wqa8 k) (ok1 (wq5w k) (ok1 (wq9o k) (ok1 (wq86 k) (ok1 (wq5s k) (ok1 (wq70 k) (ok1 (wqaz k) (ok1 ih_config_reader_list (ok1 (wqsg k) (ok1 (wqmq k) (ok1 (wqf7 k) ok0))))))))))) (by kernel_rfl) (by kernel_rfl) fun R=>wqjz k (wq16 k) (FR_config_reader_branch k) (@wq1s k) (@wqq k) (@wqn k) (@wqk k) (@wqc k) (@wqv k) (@wq10 k) (@wq4u k) (@wq45 k) (@wq17 k) R⟩
theorem wqms(k:Nat): DOK Tryz.prog 129 (h_config_reader_list.run (@wq8b k)):=(wqli k).1
end Go.Proofs.YtabkhphoacmcdaaGreatDoor.Pvm
namespace Go.Proofs.YtabkhphoacmcdaaGreatDoor.Pvm
open Go Go.Proofs
def h_config_reader_domain_1:Sh:=⟨[.g [.a .str,.s kI],.o 11 9 0 [.a .str]],some ([.o 11 9 0 [.a .str]],[.a .bool]),none⟩
def wqi6(k:Nat): Cxt:=⟨[],[11],[],[]⟩
def wqbw(k:Nat){R:Type}(x0:(List UInt8))(x1:(List Int))(x2:(List UInt8))(K:((List UInt8)→Bool→Option R)): Option R:=K x2 (x0 == x2)
def wq5z:=@wqbw
theorem wqi7(k:Nat): DOK Tryz.prog 128 (h_config_reader_domain_1.run (@wq5z k)):=dok h_config_reader_domain_1 (wqi6 k) Tryz.f128 k ok0 (by kernel_rfl) (by kernel_rfl) fun R=>by kernel_rfl
def wqi8(k:Nat): Ent:=h_config_reader_domain_1.e 128 (@wq5z k)
def h_slices_IndexFunc___api_Domain_api_Domain_domain:Sh:=⟨[.s (.pr .str (.sl kI)),.c 128 [.o 300 9 0 [.a .str]]],some ([.o 300 9 0 [.a .str]],[.a kI]),none⟩
def u_slices_IndexFunc___api_Domain_api_Domain_domain_1002:Cu:=⟨1,[0,1,7,8],[.o 300 9 0 [.a .str],.s (.pr .str (.sl kI)),.c 128 [.r 300 0],.a kI,.a kI]⟩
def wq3w(k:Nat): Cxt:=⟨[wqi8 k],[300],[(1002,u_slices_IndexFunc___api_Domain_api_Domain_domain_1002.spec)],[]⟩
def wq23(k:Nat){R:Type}(E1002:((List UInt8)→(List ((List UInt8)×(List Int)))→Int→Int→Option R))(s0:(List UInt8))(s1:(List ((List UInt8)×(List Int))))(s2 s3:Int)(K:((List UInt8)→Int→Option R)): Option R:=cond (decide (s3<s2)) (cond (inb s3 (s1.length:Int)) (wq5z k (s1.getD s3.toNat (Kd.zero (@Kd.pr Kd.str (@Kd.sl kI)))).1 (s1.getD s3.toNat (Kd.zero (@Kd.pr Kd.str (@Kd.sl kI)))).2 s0 (fun y8 y9=>cond y9 (K y8 s3) (E1002 y8 s1 s2 (@Go.IntKind.wrap Go.IntKind.i64 (s3+1))))) none) (K s0 (@Neg.neg Int @Int.instNegInt (1:Int)))
def wq31(k:Nat){R:Type}(E1002:((List UInt8)→(List ((List UInt8)×(List Int)))→Int→Int→Option R))(x0:(List ((List UInt8)×(List Int))))(x1:(List UInt8))(K:((List UInt8)→Int→Option R)): Option R:=E1002 x1 x0 (x0.length:Int) 0
def wqo(k:Nat){R:Type}: Nat→(List UInt8)→(List ((List UInt8)×(List Int)))→Int→Int→((List UInt8)→Int→Option R)→Option R
 |0,_,_,_,_,_=>none
 |n+1,s0,s1,s2,s3,K=>wq23 k (fun s0 s1 s2 s3=>wqo k n s0 s1 s2 s3 K) s0 s1 s2 s3 K
theorem wq5a(k:Nat){R:Type}: ∀(I:Nat→St→Option R) (n:Nat),h_slices_IndexFunc___api_Domain_api_Domain_domain.lp u_slices_IndexFunc___api_Domain_api_Domain_domain_1002 (wq3w k).cx k Tryz.f174 1002 [1,0,1,0] I n=wqo k n:=h_slices_IndexFunc___api_Domain_api_Domain_domain.lok u_slices_IndexFunc___api_Domain_api_Domain_domain_1002 (B:=wq23 k) (L:=wqo k) (fun I=>by kernel_rfl) (fun I=>by kernel_rfl) (fun n=>by kernel_rfl) (fun _ _ _ _=>rfl)
def wq2a(k:Nat){R:Type}(x0:(List ((List UInt8)×(List Int))))(x1:(List UInt8))(K:((List UInt8)→Int→Option R)): Option R:=wq31 k (fun s0 s1 s2 s3=>wqo k k s0 s1 s2 s3 K) x0 x1 K
theorem wq7d(k:Nat): DOK Tryz.prog 174 (h_slices_IndexFunc___api_Domain_api_Domain_domain.run (@wq2a k)):=dok h_slices_IndexFunc___api_Domain_api_Domain_domain (wq3w k) Tryz.f174 k (ok1 (wqi7 k) ok0) (by kernel_rfl) (by kernel_rfl) fun R=>h_slices_IndexFunc___api_Domain_api_Domain_domain.f1 u_slices_IndexFunc___api_Domain_api_Domain_domain_1002 (wq31 k) (by kernel_rfl) (wq5a k (fun _ _=>none) k) (by kernel_rfl)
def wq7e(k:Nat): Ent:=h_slices_IndexFunc___api_Domain_api_Domain_domain.e 174 (@wq2a k)
def h_slices_ContainsFunc___api_Domain_api_Domain_domain:Sh:=⟨[.s (.pr .str (.sl kI)),.c 128 [.o 300 9 0 [.a .str]]],some ([.o 300 9 0 [.a .str]],[.a .bool]),none⟩
abbrev wq2p:Type 1:=(R:Type)→(List ((List UInt8)×(List Int)))→(List UInt8)→((List UInt8)→Bool→Option R)→Option R
def wq6i(k:Nat): Cxt:=⟨[wq7e k],[300],[],[]⟩
def wq3l(k:Nat){R:Type}(x0:(List ((List UInt8)×(List Int))))(x1:(List UInt8))(K:((List UInt8)→Bool→Option R)): Option R:=wq2a k x0 x1 (fun y5 y6=>K y5 (decide (y6≥0)))
def wq11:=@wq3l
theorem wq6j(k:Nat): DOK Tryz.prog 127 (h_slices_ContainsFunc___api_Domain_api_Domain_domain.run (@wq11 k)):=dok h_slices_ContainsFunc___api_Domain_api_Domain_domain (wq6i k) Tryz.f127 k (ok1 (wq7d k) ok0) (by kernel_rfl) (by kernel_rfl) fun R=>by kernel_rfl
end Go.Proofs.YtabkhphoacmcdaaGreatDoor.Pvm
end
