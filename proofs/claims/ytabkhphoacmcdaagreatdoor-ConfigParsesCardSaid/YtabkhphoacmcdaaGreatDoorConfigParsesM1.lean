/- The Go function ConfigParses returns true for every slice of bytes. -/
import Derived.OrdersHeld
import Derived.Test.YtabkhphoacmcdaaGreatDoorConfigParsesM0
set_option linter.unusedVariables false
set_option linter.unusedSimpArgs false
set_option linter.unusedSectionVars false
noncomputable section
namespace Go.Proofs.YtabkhphoacmcdaaGreatDoor.Pvm
section
open Go
variable {P:Program} {h:Je} {G:Gh} {w:World} {ev:Ev} {ty:TypeId->Option TI}
theorem JC4{w':World}{row:Option Nat}(hg:w.grownBy w' row)(hr:row=none): Still w w' :=
 ⟨fun b hb=>hg.block b hb (by rw[hr];simp),hg.size,hg.os,hg.tape,hg.output⟩
theorem JIQ(n:Nm): J2w n=PV.mapR (fun m=>bif Nat.beq m n then .un else .row m):=rfl
theorem J8k(f:PV->PV)(n:Nm): JU (some f) h n=(h n).map (J1J f):=by
 cases hn:h n<;>simp[JU,hn]
theorem JHe (obj:∀ n o,h n=some o->RO h G w n o) (dis:Dis h G w) {n:Nm} {e:TypeId} {K:Kd} {xs xs':List K.T} (hn:h n=some (.row e K xs)) {w':World} {v':Value} {vs':List Value}
 (hg:w.grownBy w' (G.rv n).ownBlock) (hown:w'.ownsRow 0 e K.sz v' xs'.length vs') (hblk:∀ b,v'.ownBlock=some b->(G.rv n).ownBlock=some b∨w.heap.size≤b) (hr:RDs w (okB h G) K xs' vs') :
 Loud h G w (U1 (JU (some (J2w n)) h) n (some (.row e K xs'))) (some (J2w n)) (G.set n (G.bk n) v') w':=by
 have hpos:0<K.sz:=(obj n _ hn).choose_spec.2.2
 have hbn:Jd h G n=(G.rv n).ownBlock:=by simp[Jd,hn]
 have hblk':∀ m,m≠n->Jd (U1 (JU (some (J2w n)) h) n (some (.row e K xs'))) (G.set n (G.bk n) v') m=Jd h G m:=by
  intro m hm
  simp only[Jd,JF,if_neg hm,J8k,Gh.set_bk,Gh.set_rv]
  cases hh:h m with
  |none=>rfl
  |some o=>cases o<;>rfl
 have hbn':Jd (U1 (JU (some (J2w n)) h) n (some (.row e K xs'))) (G.set n (G.bk n) v') n=v'.ownBlock:=by
  simp[Jd,JF,Gh.set_rv]
 have hok:∀ c,okB h G c->c<w.heap.size->okB (U1 (JU (some (J2w n)) h) n (some (.row e K xs'))) (G.set n (G.bk n) v') c∧w'.heap[c]? = w.heap[c]? := by
  intro c hc hlt
  refine⟨⟨fun m hm => ?_,hc.2⟩,hg.block c hlt (fun e=>hc.1 n (by rw[hbn,←e]))⟩
  by_cases hmn:m=n
  ·subst hmn
   rw[hbn']at hm
   rcases hblk c hm with h1|h1
   ·exact hc.1 m (by rw[hbn];exact h1)
   ·omega
  ·rw[hblk' m hmn]at hm;exact hc.1 m hm
 have C:Carry h G w (U1 (JU (some (J2w n)) h) n (some (.row e K xs'))) (G.set n (G.bk n) v') w' (fun m=>bif Nat.beq m n then .un else .row m):=by
  refine⟨fun c hc hlt=>hok c hc hlt,fun m t cs hm => ?_,fun m ag V es hm => ?_,fun b hx hlt=>⟨.inr hx,hg.block b hlt (fun e=>dis.xo n b (by rw[hbn,←e]) hx)⟩,fun m e' K' ys hm => ?_⟩
  ·have hmn:m≠n:=fun e=>by subst e;rw[hn]at hm;cases hm
   exact⟨⟨_,by rw[JF,if_neg hmn,J8k,hm];rfl⟩,by rw[Gh.set_bk,if_neg hmn]⟩
  ·have hmn:m≠n:=fun e=>by subst e;rw[hn]at hm;cases hm
   exact⟨⟨_,by rw[JF,if_neg hmn,J8k,hm];rfl⟩,by rw[Gh.set_bk,if_neg hmn]⟩
  ·by_cases hmn:m=n
   ·subst hmn;simp[RV]
   ·have hb:Nat.beq m n=false:=by cases hb:Nat.beq m n with|false=>rfl|true=>exact absurd (Nat.eq_of_beq_eq_true hb) hmn
    rw[hb,cond_false]
    have hh:U1 (JU (some (J2w n)) h) n (some (.row e K xs')) m=some (.row e' K' ys):=by rw[JF,if_neg hmn,J8k,hm];rfl
    refine⟨⟨by rw[Gh.set_rv,if_neg hmn],e',K',ys,hh⟩,fun k hk => ?_⟩
    cases hk
    exact⟨e',ys,hh,Nat.le_refl _⟩
 refine⟨⟨_,.inr (congrArg some (JIQ n)),C⟩,fun m o hm => ?_,fun m k c h1 h2 => ?_,fun c hlt hc=>hg.block c hlt (fun e=>hc n (by rw[hbn,←e])),rfl,fun m c hm => ?_,hg.size,hg.os,hg.tape,hg.output⟩
 ·rw[JF]at hm
  by_cases hmn:m=n
  ·subst hmn
   rw[if_pos rfl]at hm
   cases hm
   exact⟨vs',by rw[Gh.set_rv,if_pos rfl];exact hown,hr.mono hok,hpos⟩
  ·rw[if_neg hmn,J8k]at hm
   obtain⟨o',ho',rfl⟩:=Option.map_eq_some_iff.1 hm
   refine RO.carry C ho' (obj m o' ho') (fun b hb => ?_) (by rw[Gh.set_bk,if_neg hmn]) (by rw[Gh.set_rv,if_neg hmn])
   exact hg.block b (RO.lt ho' (obj m o' ho') hb) (fun e2=>hmn (dis.inj m n b hb (by rw[hbn,←e2])))
 ·by_cases hm:m=n<;>by_cases hk:k=n
  ·rw[hm,hk]
  ·subst hm
   rw[hbn']at h1
   rw[hblk' k hk]at h2
   rcases hblk c h1 with h3|h3
   ·exact absurd (dis.inj k m c h2 (by rw[hbn];exact h3)) hk
   ·cases hko:h k with
    |none=>simp[Jd,hko]at h2
    |some o=>have:=RO.lt hko (obj k o hko) h2;omega
  ·subst hk
   rw[hbn']at h2
   rw[hblk' m hm]at h1
   rcases hblk c h2 with h3|h3
   ·exact absurd (dis.inj m k c h1 (by rw[hbn];exact h3)) hm
   ·cases hmo:h m with
    |none=>simp[Jd,hmo]at h1
    |some o=>have:=RO.lt hmo (obj m o hmo) h1;omega
  ·rw[hblk' m hm]at h1
   rw[hblk' k hk]at h2
   exact dis.inj m k c h1 h2
 ·by_cases hmn:m=n
  ·subst hmn
   rw[hbn']at hm
   rcases hblk c hm with h3|h3
   ·exact .inl ⟨m,by rw[hbn];exact h3⟩
   ·exact .inr h3
  ·rw[hblk' m hmn]at hm;exact .inl ⟨m,hm⟩
theorem JEw (T:Qg P ty) (obj:∀ n o,h n=some o->RO h G w n o) (dis:Dis h G w) {t t' e r:TypeId} {K:Kd} {b d:Nat} (hk:J1K ty t=some (e,K,b)) {p q:PV} {v s:Value}
 (he:Jf8 h d e K b p q=some ev) (ht:J2G ty q t t' b=true) (hp:RV h G w p v) (hq:RV h G w q s) (hc:U5 ev.chk=true) :
 ∃ z G' w',(Builtin.append_ #[t,t'] r #[v,s]).run P w = .ok z w'∧Loud h G w (JO (JU ev.mp h) ev.hs) ev.mp G' w'∧RV (JO (JU ev.mp h) ev.hs) G' w' ev.val z∧VarKept h G w w' (JH ev.hs):=by
 obtain⟨hd,i,z0,hi,hz,hsz,hby,hpos,hzs,hz0⟩:=JaI T hk
 unfold Jf8 at he
 split at he
 ·next ys hys =>
  split at he
  ·split at he
   ·next hnm =>
    cases he
    obtain rfl:v=_:=hp
    obtain⟨news,v',w',e1,e2,e3,e4,e5⟩:=Jsc (r:=r) T obj hk (World.ownsRow_nil w 0 e K.sz) hq hys ht hc
    rw[List.nil_append,Nat.zero_add]at e3
    have S:Still w w':=JC4 e4 rfl
    have hv0:(G.set (Q7 d) 0 v').rv (Q7 d)=v':=by rw[Gh.set_rv,if_pos rfl]
    have hge:∀ c,v'.ownBlock=some c->w.heap.size≤c:=by
     intro c hcb
     rcases e5 c hcb with h1|h1
     ·cases h1
     ·exact h1
    have L:=J5q (o := .row e K ys) (w':=w') (b:=0) (v:=v') obj dis hnm S (fun _=>by
     refine⟨news,by rw[hv0];exact e3,?_,hpos⟩
     refine RDs.mono (fun c hc hlt=>⟨⟨fun m hm => ?_,hc.2⟩,S.blk c hlt⟩) e2
     by_cases hmn:m=Q7 d
     ·subst hmn
      simp only[Jd,JF,if_pos,hv0]at hm
      have:=hge c hm;omega
     ·simp only[Jd,JF,if_neg hmn,Gh.set_bk,Gh.set_rv]at hm
      exact hc.1 m hm) (fun c hc=>by
     simp only[Jd,JF,if_pos,hv0]at hc
     exact hge c hc)
    exact⟨v',_,w',e1,L,⟨by rw[hv0],e,K,ys,by simp[JO,JF]⟩,VarKept.ext obj S.blk _⟩
   ·cases he
  ·next n =>
   split at he
   ·next e' K' xs hn =>
    split at he
    ·next xs' hcast =>
     obtain⟨hK,hx⟩:=UR hcast
     have hK:K'=K:=by injection hK
     subst hK
     subst hx
     cases hb:(JvZ n q&&Nat.beq e' e)with
     |false=>rw[hb]at he;cases he
     |true =>
      rw[hb,cond_true]at he
      cases he
      simp only[Bool.and_eq_true]at hb
      have hee:=Nat.eq_of_beq_eq_true hb.2
      subst hee
      obtain⟨rfl,_⟩:=hp
      obtain⟨vs,hown,hrd,_⟩:=obj _ _ hn
      obtain⟨news,v',w',e1,e2,e3,e4,e5⟩:=Jsc (r:=r) T obj hk hown hq hys ht hc
      have hlen:(xs'++ys).length=xs'.length+ys.length:=List.length_append
      have L:=JHe (xs':=xs'++ys) (vs':=vs++news) obj dis hn e4 (by rw[hlen];exact e3) e5 (hrd.append e2)
      refine⟨v',_,w',e1,L,⟨by rw[Gh.set_rv,if_pos rfl],e',K',xs'++ys,by simp[JO,JF]⟩,fun m tm cs hm _ => ?_⟩
      obtain⟨_,hwm,_⟩:=obj m _ hm
      refine e4.block _ (Array.getElem?_eq_some_iff.1 hwm).1 fun e => ?_
      have:=dis.inj m n (G.bk m) (by simp[Jd,hm]) (by simp[Jd,hn,←e])
      subst this;rw[hn]at hm;cases hm
    ·cases he
   ·cases he
  ·cases he
 ·cases he
theorem JqC(w:World)(g:Nat)(cs:Array Value): (w.setRow g cs).heap.size=w.heap.size∧(w.setRow g cs).os=w.os∧(w.setRow g cs).tape=w.tape∧(w.setRow g cs).output=w.output:=by
 refine⟨by simp[World.setRow],rfl,rfl,rfl⟩
theorem Jm4(pre us post:List Value)(off:Nat)(vs:List Value)(hv:vs=pre++post)(ho:off=pre.length)(hl:us.length≤post.length): UV vs off us=pre++us++post.drop us.length:=by
 subst hv ho
 have:=JtM pre us (post.take us.length) (post.drop us.length) (by simp;omega)
 rw[←this,List.append_assoc,List.take_append_drop]
theorem JoU{t:TypeId}{ti:TI}(ht:TiOk P t ti){g off:Nat}{cur:Array Value}{e:TypeId}(hg:w.heap[g]? = some (.cells cur e (0,0))){v:Value}(hs:v.cells.size=ti.size)(hf:off+ti.size≤cur.size)(h1:∀ u∈v.cells.toList,u.oneCell'=true):
 (storeVar t ⟨g,off,none⟩ v).run P w = .ok () (w.setRow g (UV cur.toList off v.cells.toList).toArray):=by
 have hst:=run_storeCells_at P g off e v.cells.toList 0 cur w hg (by simp[hs];omega) h1
 simp only[storeVar,Sem.run_bind,ht.size w,Result.andThen_ok,hs,ne_eq,not_true_eq_false,if_false]
 simp only[Nat.add_zero]at hst
 rw[Jm4 (cur.toList.take off) v.cells.toList (cur.toList.drop off) off cur.toList (by simp) (by simp;omega) (by simp[hs];omega)]
 simp only[List.drop_drop]
 simpa [Sem.run_bind,hs]using hst
theorem JHf (obj:∀ n o,h n=some o->RO h G w n o) (dis:Dis h G w) {n:Nm} {t:TypeId} {cs cs':List PV} (hn:h n=some (.var t cs)) {vs':List Value}
 (hr:RVs h G w cs' vs'):Loud h G w (U1 h n (some (.var t cs'))) none G (w.setRow (G.bk n) vs'.toArray):=by
 obtain⟨vs,hw,hv⟩:=obj n _ hn
 have hbn:Jd h G n=some (G.bk n):=by simp[Jd,hn]
 have hblk:∀ m,Jd (U1 h n (some (.var t cs'))) G m=Jd h G m:=by
  intro m
  by_cases hm:m=n
  ·subst hm;simp[Jd,JF,hn]
  ·simp[Jd,JF,hm]
 have hw':(w.setRow (G.bk n) vs'.toArray).heap[G.bk n]? = some (.cells vs'.toArray t (0,0)):=setRow_heap w _ _ _ _ _ hw
 have C:Carry h G w (U1 h n (some (.var t cs'))) G (w.setRow (G.bk n) vs'.toArray) .row:=by
  refine⟨fun c hc hlt=>⟨⟨fun m hm=>hc.1 m (by rw[←hblk];exact hm),hc.2⟩,setRow_other w _ _ _ (fun e=>hc.1 n (by rw[hbn,e]))⟩,fun m t' ds hm => ?_,fun m ag V es hm => ?_,fun b hx _=>⟨.inr hx,setRow_other w _ _ _ (fun e=>dis.xo n b (by rw[hbn,e]) hx)⟩,fun m e K xs hm => ?_⟩
  ·by_cases hmn:m=n
   ·subst hmn
    rw[hn]at hm
    cases hm
    exact⟨⟨cs',by simp[JF]⟩,rfl⟩
   ·exact⟨⟨ds,by rw[JF,if_neg hmn];exact hm⟩,rfl⟩
  ·have hmn:m≠n:=fun e=>by subst e;rw[hn]at hm;cases hm
   exact⟨⟨es,by rw[JF,if_neg hmn];exact hm⟩,rfl⟩
  ·have hmn:m≠n:=fun e=>by subst e;rw[hn]at hm;cases hm
   refine⟨⟨rfl,e,K,xs,by rw[JF,if_neg hmn];exact hm⟩,fun k hk => ?_⟩
   cases hk
   exact⟨e,xs,by rw[JF,if_neg hmn];exact hm,Nat.le_refl _⟩
 obtain⟨s1,s2,s3,s4⟩:=JqC w (G.bk n) vs'.toArray
 refine⟨⟨.row,.inl ⟨rfl,rfl⟩,C⟩,fun m o hm => ?_,fun m k c h1 h2=>dis.inj m k c (by rw[←hblk];exact h1) (by rw[←hblk];exact h2),fun c hlt hc=>setRow_other w _ _ _ (fun e=>hc n (by rw[hbn,e])),rfl,fun m c hm => .inl ⟨m,by rw[←hblk];exact hm⟩,by omega,s2,s3,s4⟩
 rw[JF]at hm
 by_cases hmn:m=n
 ·subst hmn
  rw[if_pos rfl]at hm
  cases hm
  refine⟨vs',hw',?_⟩
  have:=RVs.carry C _ _ hr
  rwa [mapRs_row]at this
 ·rw[if_neg hmn]at hm
  have:=RO.carry C hm (obj m o hm) (fun c hc=>setRow_other w _ _ _ (fun e=>hmn (dis.inj m n c hc (by rw[hbn,e])))) rfl rfl
  rwa [J1A]at this
theorem JGt (obj:∀ n o,h n=some o->RO h G w n o) (dis:Dis h G w) {n:Nm} {e:TypeId} {K:Kd} {xs xs':List K.T} (hn:h n=some (.row e K xs)) {g:Nat} (hg:(G.rv n).ownBlock=some g)
 {cur':Array Value} (hx:xs'.length=xs.length) {vs':List Value} (hown:(w.setRow g cur').ownsRow 0 e K.sz (G.rv n) xs'.length vs') (hr:RDs w (okB h G) K xs' vs') :
 Loud h G w (U1 h n (some (.row e K xs'))) none G (w.setRow g cur'):=by
 have hpos:0<K.sz:=(obj n _ hn).choose_spec.2.2
 have hbn:Jd h G n=some g:=by simp[Jd,hn,hg]
 have hblk:∀ m,Jd (U1 h n (some (.row e K xs'))) G m=Jd h G m:=by
  intro m
  by_cases hm:m=n
  ·subst hm;simp[Jd,JF,hn]
  ·simp[Jd,JF,hm]
 have C:Carry h G w (U1 h n (some (.row e K xs'))) G (w.setRow g cur') .row:=by
  refine⟨fun c hc hlt=>⟨⟨fun m hm=>hc.1 m (by rw[←hblk];exact hm),hc.2⟩,setRow_other w _ _ _ (fun e=>hc.1 n (by rw[hbn,e]))⟩,fun m t' ds hm => ?_,fun m ag V es hm => ?_,fun b hx _=>⟨.inr hx,setRow_other w _ _ _ (fun e=>dis.xo n b (by rw[hbn,e]) hx)⟩,fun m e' K' ys hm => ?_⟩
  ·have hmn:m≠n:=fun e=>by subst e;rw[hn]at hm;cases hm
   exact⟨⟨ds,by rw[JF,if_neg hmn];exact hm⟩,rfl⟩
  ·have hmn:m≠n:=fun e=>by subst e;rw[hn]at hm;cases hm
   exact⟨⟨es,by rw[JF,if_neg hmn];exact hm⟩,rfl⟩
  ·by_cases hmn:m=n
   ·subst hmn
    rw[hn]at hm
    simp only[Option.some.injEq,HObj.row.injEq]at hm
    obtain⟨rfl,rfl,hy⟩:=hm
    have hy:=eq_of_heq hy
    subst hy
    refine⟨⟨rfl,e,K,xs',by simp[JF]⟩,fun k hk => ?_⟩
    cases hk
    exact⟨e,xs',by simp[JF],by omega⟩
   ·refine⟨⟨rfl,e',K',ys,by rw[JF,if_neg hmn];exact hm⟩,fun k hk => ?_⟩
    cases hk
    exact⟨e',ys,by rw[JF,if_neg hmn];exact hm,Nat.le_refl _⟩
 obtain⟨s1,s2,s3,s4⟩:=JqC w g cur'
 refine⟨⟨.row,.inl ⟨rfl,rfl⟩,C⟩,fun m o hm => ?_,fun m k c h1 h2=>dis.inj m k c (by rw[←hblk];exact h1) (by rw[←hblk];exact h2),fun c hlt hc=>setRow_other w _ _ _ (fun e=>hc n (by rw[hbn,e])),rfl,fun m c hm => .inl ⟨m,by rw[←hblk];exact hm⟩,by omega,s2,s3,s4⟩
 rw[JF]at hm
 by_cases hmn:m=n
 ·subst hmn
  rw[if_pos rfl]at hm
  cases hm
  exact⟨vs',hown,hr.mono C.blk,hpos⟩
 ·rw[if_neg hmn]at hm
  have:=RO.carry C hm (obj m o hm) (fun c hc=>setRow_other w _ _ _ (fun e=>hmn (dis.inj m n c hc (by rw[hbn,e])))) rfl rfl
  rwa [J1A]at this
theorem RDs.split{ok:Nat->Prop}{K:Kd}: ∀ {xs:List K.T} {vs:List Value} (i:Nat) (y:K.T),RDs w ok K xs vs->xs[i]? = some y ->
 ∃ pre c post,vs=pre++c++post∧pre.length=i*K.sz∧RD w ok K y c∧∀(z:K.T) (c':List Value),RD w ok K z c'->RDs w ok K (xs.set i z) (pre++c'++post)
 |[],vs,i,y,hr,hy=>by simp at hy
 |x::r,vs,0,y,⟨c1,c2,e,h1,h2⟩,hy=>by
  simp at hy;subst hy
  exact⟨[],c1,c2,by simpa using e,by simp,h1,fun z c' hz=>⟨c',c2,rfl,hz,h2⟩⟩
 |x::r,vs,i+1,y,⟨c1,c2,e,h1,h2⟩,hy=>by
  obtain⟨pre,c,post,e2,e3,e4,e5⟩:=RDs.split i y h2 (by simpa using hy)
  refine⟨c1++pre,c,post,by rw[e,e2];simp,by rw[List.length_append,h1.len,e3,Nat.add_mul];omega,e4,fun z c' hz=>⟨c1,pre++c'++post,by simp,h1,e5 z c' hz⟩⟩
theorem JFq (T:Qg P ty) (obj:∀ n o,h n=some o->RO h G w n o) (dis:Dis h G w) {t:TypeId} {ti:TI} (ht:ty t=some ti) {p q:PV} {v s:Value}
 (he:Jfr ti h p q=some ev) (hp:RV h G w p v) (hq:RV h G w q s) :
 ∃ G' w',(Instr.storeAt t v s).run P w = .ok () w'∧Loud h G w (JO (JU ev.mp h) ev.hs) ev.mp G' w'∧ev.val = .un∧ev.chk = .ok∧VarKept h G w w' (JH ev.hs):=by
 have hti:=T _ _ ht
 unfold Jfr at he
 cases hb:(UG (cellsOf q)&&Nat.beq (cellsOf q).length ti.size)with
 |false=>rw[hb]at he;cases he
 |true =>
  rw[hb,cond_true]at he
  simp only[Bool.and_eq_true]at hb
  obtain⟨b1,b2⟩:=hb
  have b2:=Nat.eq_of_beq_eq_true b2
  obtain⟨c1,c2⟩:=J8r obj b1 hq
  have hsz:s.cells.size=ti.size:=by rw[JsX obj b1 hq,b2]
  split at he
  ·next n off =>
   split at he
   ·next t' cs hn =>
    cases hb3:Nat.ble (off+ti.size) cs.length with
    |false=>rw[hb3]at he;cases he
    |true =>
     rw[hb3]at he;cases he
     have b3:=Nat.le_of_ble_eq_true hb3
     obtain⟨rfl,_⟩:=hp
     obtain⟨vs,hw,hv⟩:=obj _ _ hn
     have hrun:=JoU (w:=w) hti hw hsz (by simp;rw[hv.length];exact b3) c2
     refine⟨G,_,by simp[Instr.storeAt,Instr.sureAddr,hrun];rfl,?_,rfl,rfl,fun m tm cs' hm hmn => ?_⟩
     ·exact JHf obj dis hn (Jf0 off c1 hv)
     ·exact setRow_other w _ _ _ fun e=>hmn (by have:=dis.inj m n (G.bk m) (by simp[Jd,hm]) (by simp[Jd,hn,e]);subst this;simp[JH])
   ·cases he
  ·next n i off =>
   split at he
   ·next e K xs hn =>
    cases hb3:Nat.ble (off+ti.size) K.sz with
    |false=>rw[hb3]at he;cases he
    |true =>
     rw[hb3,cond_true]at he
     have b3:=Nat.le_of_ble_eq_true hb3
     split at he
     ·next y f hy =>
      cases hb4:QV n f with
      |true=>rw[hb4]at he;cases he
      |false =>
       rw[hb4]at he;cases he
       have hnf:n ∉ f:=fun hm=>by rw[UC.2 hm]at hb4;cases hb4
       have hl:Yp h f:=Jfa K (Jl2 hy)
       have A:=JeI (w:=w) obj dis hl
       obtain⟨e',K',xs',g,hn',hi,hg,rfl⟩:=hp
       rw[hn]at hn'
       simp only[Option.some.injEq,HObj.row.injEq]at hn'
       obtain⟨rfl,rfl,hx⟩:=hn'
       have hx:=eq_of_heq hx
       subst hx
       obtain⟨vs,hown,hrd,hpos⟩:=obj _ _ hn
       have hget:xs[i]? = some (xs.getD i K.zero):=by simp[List.getD,hi]
       obtain⟨pre,c,post,e1,e2,e3,e4⟩:=hrd.split i _ hget
       have hcells:=J02 e3
       have hdec:=Jf2 obj dis hl hy (fun m hm=>hm) (Jf0 off c1 hcells)
       have hfn:UE h f n=some (.row e K xs):=by rw[J0Z,if_neg hnf,hn];rfl
       rcases hown.2 with⟨hrv,_⟩|⟨g',cap,cur,hrv,_,hgh,hnc,hcm,hcs,htake⟩
       ·rw[hrv]at hg;cases hg
       ·rw[hrv]at hg
        simp only[Value.ownBlock,Option.some.injEq]at hg
        subst hg
        have hcl:c.length=K.sz:=e3.len
        have hvl:=hrd.length
        have hlt:i*K.sz+K.sz≤xs.length*K.sz:=by rw[←Nat.succ_mul];exact Nat.mul_le_mul_right _ hi
        have hfull:i*K.sz+off+ti.size≤cur.size:=by
         rw[hcs]
         have:xs.length*K.sz≤cap*K.sz:=Nat.mul_le_mul_right _ hnc
         omega
        have hrun:=JoU (w:=w) hti hgh hsz hfull c2
        obtain⟨tl,htl⟩:∃ tl,tl=post++cur.toList.drop (xs.length*K.sz):=⟨_,rfl⟩
        have hcur:cur.toList=pre++c++tl:=by
         have h0:=List.take_append_drop (xs.length*K.sz) cur.toList
         rw[htake,e1,List.append_assoc,←htl]at h0
         exact h0.symm
        have hsv:UV cur.toList (i*K.sz+off) s.cells.toList=pre++UV c off s.cells.toList++tl:=by
         have hsl:s.cells.toList.length=ti.size:=by simpa using hsz
         have e5:=Jm4 (c.take off) s.cells.toList (c.drop off) off c (by simp) (by simp;omega) (by rw[List.length_drop,hsl,hcl];omega)
         have e6:=Jm4 (pre++c.take off) s.cells.toList (c.drop off++tl) (i*K.sz+off) cur.toList (by
          rw[List.append_assoc,←List.append_assoc (c.take off),List.take_append_drop,←List.append_assoc];exact hcur) (by simp;omega) (by rw[List.length_append,List.length_drop,hsl,hcl];omega)
         rw[e5,e6]
         have e7:(c.drop off++tl).drop s.cells.toList.length=(c.drop off).drop s.cells.toList.length++tl:=by
          rw[List.drop_append_of_le_length]
          rw[List.length_drop,hsl,hcl];omega
         rw[e7]
         simp
        have hrd':=(A.obj n _ hfn)
        obtain⟨vs2,_,hrd2,_⟩:=hrd'
        have B:=JGt (w:=w) (G:=G) (xs':=xs.set i y) (vs':=pre++UV c off s.cells.toList++post) (cur':=(UV cur.toList (i*K.sz+off) s.cells.toList).toArray) A.obj (A.toDis dis) hfn (by rw[hrv];rfl) (by simp) ?_ ?_
        ·have ehs:JO (JU (frz h f) h) (Ze f++[(n,some (.row e K (xs.set i y)))])=U1 (UE h f) n (some (.row e K (xs.set i y))):=by
          rw[JqB];rfl
         refine⟨G,_,by simp only[Instr.storeAt,Instr.sureAddr,Sem.run_bind,Sem.run_pure,Result.andThen_ok];exact hrun,?_,rfl,rfl,fun m tm cs' hm _=>setRow_other w _ _ _ fun e=>by have:=dis.inj m n (G.bk m) (by simp[Jd,hm]) (by simp[Jd,hn,hrv,Value.ownBlock,e]);subst this;rw[hn]at hm;cases hm⟩
         show Loud h G w (JO (JU (frz h f) h) (Ze f++[(n,some (.row e K (xs.set i y)))])) (frz h f) _ _
         rw[ehs]
         exact A.then B
        ·refine⟨?_,.inr ⟨g',cap,_,by rw[hrv,List.length_set],Nat.zero_le _,setRow_heap w _ _ _ _ _ hgh,by rw[List.length_set];exact hnc,hcm,?_,?_⟩⟩
         ·rw[List.length_set,←hvl,e1]
          simp[J7Y]
         ·rw[List.size_toArray,J7Y];simpa using hcs
         ·show List.take _ (UV cur.toList (i*K.sz+off) s.cells.toList)=_
          rw[hsv,List.length_set]
          rw[htl,show pre++UV c off s.cells.toList++(post++cur.toList.drop (xs.length*K.sz))=(pre++UV c off s.cells.toList++post)++cur.toList.drop (xs.length*K.sz) by simp]
          rw[e1]at hvl
          rw[←hvl]
          rw[List.take_left' (by simp[J7Y])]
        ·-- the row's data,with what has become data
         have mono:∀ b,okB h G b->b<w.heap.size->okB (UE h f) G b∧w.heap[b]? = w.heap[b]? := by
          obtain⟨_,_,C⟩:=A.f
          exact C.blk
         obtain⟨pre',c',post',e1',e2',e3',e4'⟩:=(hrd.mono mono).split i _ hget
         have hc':c'.length=K.sz:=e3'.len
         have hpre:pre'=pre:=by
          have:=congrArg (List.take (i*K.sz)) (e1.symm.trans e1')
          rw[List.append_assoc,List.append_assoc,List.take_left' e2,List.take_left' e2']at this
          exact this.symm
         have hpost:post'=post:=by
          have:=congrArg (List.drop (i*K.sz+K.sz)) (e1.symm.trans e1')
          rw[List.drop_left' (by rw[List.length_append,e2,hcl]),List.drop_left' (by rw[List.length_append,e2',hc'])]at this
          exact this.symm
         rw[←hpre,←hpost]
         exact e4' y _ hdec
     ·cases he
   ·cases he
  ·cases he
theorem Jfu(w:World)(g:Nat)(o:Obj)(b:Nat): ({ w with heap:=w.heap.setIfInBounds g o }:World).heap[b]? = if b=g∧g<w.heap.size then some o else w.heap[b]? := by
 simp only[Array.getElem?_setIfInBounds]
 by_cases hb:g=b
 ·subst hb
  by_cases hl:g<w.heap.size
  ·simp[hl]
  ·simp[hl]
 ·rw[if_neg hb,if_neg (fun h=>hb h.1.symm)]
theorem Jfb (obj:∀ n o,h n=some o->RO h G w n o) (dis:Dis h G w) {n:Nm} {ag:MK} {V:Kd} {es es':List (List UInt8×V.T)} (hn:h n=some (.mp ag V es)) {ob':Obj}
 (hr:ObOk h G w ag V es' ob'):Loud h G w (U1 h n (some (.mp ag V es'))) none G { w with heap:=w.heap.setIfInBounds (G.bk n) ob' }:=by
 obtain⟨ob,hw,hE⟩:=obj n _ hn
 have hlt:G.bk n<w.heap.size:=(Array.getElem?_eq_some_iff.1 hw).1
 have hbn:Jd h G n=some (G.bk n):=by simp[Jd,hn]
 have hblk:∀ m,Jd (U1 h n (some (.mp ag V es'))) G m=Jd h G m:=by
  intro m
  by_cases hm:m=n
  ·subst hm;simp[Jd,JF,hn]
  ·simp[Jd,JF,hm]
 have hother:∀ b,b≠G.bk n->({ w with heap:=w.heap.setIfInBounds (G.bk n) ob' }:World).heap[b]? = w.heap[b]? := fun b hb=>by rw[Jfu,if_neg (fun h=>hb h.1)]
 have C:Carry h G w (U1 h n (some (.mp ag V es'))) G { w with heap:=w.heap.setIfInBounds (G.bk n) ob' } .row:=by
  refine⟨fun c hc hlt=>⟨⟨fun m hm=>hc.1 m (by rw[←hblk];exact hm),hc.2⟩,hother _ (fun e=>hc.1 n (by rw[hbn,e]))⟩,fun m t' ds hm => ?_,fun m ag' V' ds hm => ?_,fun b hx _=>⟨.inr hx,hother _ (fun e=>dis.xo n b (by rw[hbn,e]) hx)⟩,fun m e K xs hm => ?_⟩
  ·have hmn:m≠n:=fun e=>by subst e;rw[hn]at hm;cases hm
   exact⟨⟨ds,by rw[JF,if_neg hmn];exact hm⟩,rfl⟩
  ·by_cases hmn:m=n
   ·subst hmn
    rw[hn]at hm
    simp only[Option.some.injEq,HObj.mp.injEq]at hm
    obtain⟨rfl,rfl,_⟩:=hm
    exact⟨⟨es',by simp[JF]⟩,rfl⟩
   ·exact⟨⟨ds,by rw[JF,if_neg hmn];exact hm⟩,rfl⟩
  ·have hmn:m≠n:=fun e=>by subst e;rw[hn]at hm;cases hm
   refine⟨⟨rfl,e,K,xs,by rw[JF,if_neg hmn];exact hm⟩,fun k hk => ?_⟩
   cases hk
   exact⟨e,xs,by rw[JF,if_neg hmn];exact hm,Nat.le_refl _⟩
 refine⟨⟨.row,.inl ⟨rfl,rfl⟩,C⟩,fun m o hm => ?_,fun m k c h1 h2=>dis.inj m k c (by rw[←hblk];exact h1) (by rw[←hblk];exact h2),fun c hlt hc=>hother _ (fun e=>hc n (by rw[hbn,e])),rfl,fun m c hm => .inl ⟨m,by rw[←hblk];exact hm⟩,by simp,rfl,rfl,rfl⟩
 rw[JF]at hm
 by_cases hmn:m=n
 ·subst hmn
  rw[if_pos rfl]at hm
  cases hm
  exact⟨ob',by rw[Jfu,if_pos ⟨rfl,hlt⟩],hr.carry C⟩
 ·rw[if_neg hmn]at hm
  have:=RO.carry C hm (obj m o hm) (fun c hc=>hother _ (fun e=>hmn (dis.inj m n c hc (by rw[hbn,e])))) rfl rfl
  rwa [J1A]at this
theorem JDd(obj:∀ n o,h n=some o->RO h G w n o)(dis:Dis h G w){d:Nat}{ag:MK}{V:Kd}(hni:ag ≠ .it)(s:TypeId)(he:JeZ h d ag V=some ev):
 ∃ v G' w',(Instr.makeMap s none).run P w = .ok v w'∧Loud h G w (JO (JU ev.mp h) ev.hs) ev.mp G' w'∧RV (JO (JU ev.mp h) ev.hs) G' w' ev.val v∧VarKept h G w w' (JH ev.hs):=by
 unfold JeZ at he
 split at he
 ·next hnm =>
  cases he
  have S:Still w { w with heap:=w.heap.push (.map #[] 0) }:=⟨fun b hb=>by simp[Array.getElem?_push,Nat.ne_of_lt hb],by simp,rfl,rfl,rfl⟩
  have L:=J5q (o := .mp ag V []) (w':={ w with heap:=w.heap.push (.map #[] 0) }) (b:=w.heap.size) (v:=undef) obj dis hnm S (fun _=>by
   refine⟨.map #[] 0,?_,.inl ⟨hni,#[],0,rfl,trivial⟩⟩
   rw[Gh.set_bk,if_pos rfl];simp) (fun c hc=>by
   simp only[Jd,JF,if_pos,Gh.set_bk]at hc
   cases hc;exact Nat.le_refl _)
  refine⟨.map (some w.heap.size),_,_,?_,L,⟨ag,by rw[Gh.set_bk,if_pos rfl];cases ag<;>first|rfl|exact absurd rfl hni,V,[],by simp[JO,JF]⟩,VarKept.ext obj S.blk _⟩
  simp[Instr.makeMap,newObj,Sem.run]
 ·cases he
theorem JsY{ag:Bool}{V:Kd}(key:List UInt8)(y:V.T)(e:MapEntry)(he:e.key = .string ⟨key.toArray⟩)(hv:RV h G w (UH ag V y) e.val): ∀(ents:List MapEntry) (es:List (List UInt8×V.T)),EntsOk h G w ag V ents es->J5V V key es=false->EntsOk h G w ag V (ents++[e]) (Z2 V key y es)
 |[],[],_,_=>⟨he,hv,trivial⟩
 |[],_::_,h,_=>h.elim
 |_::_,[],h,_=>h.elim
 |e'::r,(k,x)::s,⟨h1,h2,h3⟩,hk=>by
  rw[J5V]at hk
  rw[Z2]
  cases hkk:key == k with
  |true=>rw[hkk]at hk;cases hk
  |false =>
   rw[hkk,cond_false]at hk
   exact⟨h1,h2,JsY key y e he hv r s h3 hk⟩
theorem JsZ{ag:Bool}{V:Kd}(key:List UInt8)(y:V.T)(val:Value)(hv:RV h G w (UH ag V y) val): ∀(ents:List MapEntry) (es:List (List UInt8×V.T)) (i j:Nat) (v:Value),EntsOk h G w ag V ents es->Instr.findNow .string (.string ⟨key.toArray⟩) ents i=some (some (j,v)) ->
 i≤j∧(∃ e,ents[j-i]? = some e∧e.key = .string ⟨key.toArray⟩)∧EntsOk h G w ag V (ents.modify (j-i) fun e=>{ e with key := .string ⟨key.toArray⟩,val:=val }) (Z2 V key y es)
 |[],[],i,j,v,_,hf=>by simp[Instr.findNow]at hf
 |[],_::_,i,j,v,h,_=>h.elim
 |_::_,[],i,j,v,h,_=>h.elim
 |e'::r,(k,x)::s,i,j,v,⟨h1,h2,h3⟩,hf=>by
  unfold Instr.findNow at hf
  rw[h1]at hf
  have hs:Instr.sameNow .string (.string ⟨key.toArray⟩) (.string ⟨k.toArray⟩)=some (key == k):=by
   show some ((⟨key.toArray⟩:ByteArray) == ⟨k.toArray⟩)=_
   rw[JtL]
  rw[hs]at hf
  rw[Z2]
  cases hkk:key == k with
  |true =>
   rw[hkk]at hf
   cases hf
   have hkk:key=k:=by simpa using hkk
   subst hkk
   rw[Nat.sub_self]
   exact⟨Nat.le_refl _,⟨e',rfl,h1⟩,rfl,hv,h3⟩
  |false =>
   rw[hkk]at hf
   obtain⟨a1,a2,a3⟩:=JsZ key y val hv r s (i+1) j v h3 hf
   obtain⟨q,rfl⟩:∃ q,j=i+1+q:=⟨j-(i+1),by omega⟩
   rw[show i+1+q-(i+1)=q by omega]at a2 a3
   rw[show i+1+q-i=q+1 by omega]
   exact⟨by omega,a2,h1,h2,a3⟩
theorem Jse(b:ByteArray): (b == b)=true:=by
 show(b.data == b.data)=true
 simp
theorem JDe(b:ByteArray): ∀ n,Instr.sameBits n (.string b) (.string b)=true
 |0=>by rw[Instr.sameBits];exact Jse b
 |n+1=>by rw[Instr.sameBits];exact Jse b
theorem Juv:okF h G []=okB h G:=by
 funext b
 simp[okF,okB,J3C,J2g]
theorem JHg(obj:∀ n o,h n=some o->RO h G w n o)(dis:Dis h G w){ag:Bool}{V:Kd}{p:PV}{vp:Value}{y:V.T}(hy:V.decAll h (cellsOf p)=some (y,[]))(b1:(Jbg p).isAgg=ag)(b2:UG (cellsOf p)=true)(hp:RV h G w p vp): RV h G w (UH ag V y) vp:=by
 obtain⟨c1,_⟩:=J8r obj b2 hp
 have hl:Yp h []:=fun m hm=>by cases hm
 have hrd:=Jf2 obj dis hl hy (fun m hm=>hm) c1
 rw[Juv]at hrd
 have hc:=J02 hrd
 subst b1
 by_cases hag:∃ cs,p = .agg cs
 ·obtain⟨cs,rfl⟩:=hag
  obtain⟨vs,rfl,hr⟩:=hp
  exact⟨vs,rfl,by simpa [Value.cells]using hc⟩
 ·have ha:(Jbg p).isAgg=false:=by cases p<;>first|rfl|exact absurd ⟨_,rfl⟩ hag
  have hcp:cellsOf p=[p]:=by cases p<;>first|rfl|exact absurd ⟨_,rfl⟩ hag
  rw[hcp]at b2
  simp only[UG,Bool.and_true]at b2
  have h1:=Jlz obj b2 hp
  have hv:vp.cells = #[vp]:=by cases vp<;>first|rfl|simp[Value.oneCell']at h1
  rw[hv]at hc
  rw[ha]
  unfold UH
  simp only[cond_false]
  have hlen:=hc.length
  cases hcs:V.cells y with
  |nil=>rw[hcs]at hlen;simp at hlen
  |cons q r =>
   cases r with
   |nil =>
    rw[hcs]at hc
    obtain⟨v,l,e1,e2,e3⟩:=hc
    simp only[List.cons.injEq]at e1
    obtain⟨rfl,_⟩:=e1
    exact e2
   |cons q' r=>rw[hcs]at hlen;simp at hlen
theorem JBt(T:Qg P ty)(obj:∀ n o,h n=some o->RO h G w n o)(dis:Dis h G w){s:TypeId}{ag0:MK}{V0:Kd}(hm:J5M ty s=some (ag0,V0)){x i p:PV}{vx vi vp:Value}(he:JeG h x i p=some ev)(hx:RV h G w x vx)(hi:RV h G w i vi)(hp:RV h G w p vp):
 ∃ G' w',(Instr.mapUpdate s vx vi vp).run P w = .ok () w'∧Loud h G w (JO (JU ev.mp h) ev.hs) ev.mp G' w'∧ev.val = .un∧VarKept h G w w' (JH ev.hs):=by
 obtain⟨_,kt,el,z,h1,h2,_,_⟩:=JlA T hm
 unfold JeG at he
 split at he
 ·next n key =>
  split at he
  ·next ag V es hn =>
   split at he
   ·next y hy =>
    cases hb:(decide (Jbg p=ag)&&UG (cellsOf p))with
    |false=>rw[hb]at he;cases he
    |true =>
     rw[hb,cond_true]at he
     cases he
     simp only[Bool.and_eq_true,decide_eq_true_eq]at hb
     obtain⟨b1,b2⟩:=hb
     have hni:ag ≠ .it:=by subst b1;cases p<;>simp[Jbg]
     obtain⟨ag2,rfl,V2,es2,hn2⟩:=hx
     rw[hn]at hn2
     simp only[Option.some.injEq,HObj.mp.injEq]at hn2
     obtain⟨rfl,_,_⟩:=hn2
     have hmv:MK.val ag (G.bk n) = .map (some (G.bk n)):=by cases ag<;>first|rfl|exact absurd rfl hni
     rw[hmv]
     have hi:vi = .string ⟨key.toArray⟩:=by simpa [RV,RD]using hi
     subst hi
     have hval:=JHg (ag:=ag.isAgg) obj dis hy (by rw[b1]) b2 hp
     obtain⟨ob,hw,hO⟩:=obj _ _ hn
     rcases hO with⟨_,ents,clock,rfl,hE⟩|⟨hit,_⟩
     rotate_left
     ·exact absurd hit hni
     have hck:(Instr.checkKey false 10000 kt (.string ⟨key.toArray⟩)).run P w = .ok () w:=by
      unfold Instr.checkKey
      rw[Sem.run_bind,run_underlying h2,Result.andThen_ok]
      rfl
     have hgo:(getObj (G.bk n)).run P w = .ok (.map ents clock) w:=by
      simp[getObj,Sem.run,hw]
     obtain⟨r,hr,hs⟩:=Jkt (h:=h) (G:=G) (w:=w) key ents.toList es 0 hE
     have hfk:(Instr.findKey kt (.string ⟨key.toArray⟩) ents.toList).run P w = .ok r w:=by
      simp[Instr.findKey,run_underlying h2,hr]
     have hkept:∀ o:Obj,VarKept h G w { w with heap:=w.heap.setIfInBounds (G.bk n) o } (JH [(n,some (HObj.mp ag V (Z2 V key y es)))]):=by
      intro o m tm cs hm _
      rw[Jfu,if_neg]
      intro hc
      have:=dis.inj m n (G.bk m) (by simp[Jd,hm]) (by simp[Jd,hn,hc.1])
      subst this;rw[hn]at hm;cases hm
     cases r with
     |none =>
      obtain⟨s1,_⟩:=hs
      have L:=Jfb (ob' := .map (ents.push { key := .string ⟨key.toArray⟩,val:=vp,born:=clock }) (clock+1)) (es':=Z2 V key y es) obj dis hn (by
       refine .inl ⟨hni,_,_,rfl,?_⟩
       rw[Array.toList_push]
       exact JsY key y { key := .string ⟨key.toArray⟩,val:=vp,born:=clock } rfl hval ents.toList es hE s1)
      refine⟨G,_,?_,L,rfl,hkept _⟩
      simp[Instr.mapUpdate,run_underlying h1,hgo,hck,hfk,setObj,Sem.run,hw]
     |some q =>
      obtain⟨j,v⟩:=q
      obtain⟨_,⟨e,e1,e2⟩,e3⟩:=JsZ key y vp hval ents.toList es 0 j v hE hr
      rw[Nat.sub_zero]at e1 e3
      have L:=Jfb (ob' := .map (ents.modify j fun e=>{ e with key := .string ⟨key.toArray⟩,val:=vp }) clock) (es':=Z2 V key y es) obj dis hn (by
       refine .inl ⟨hni,_,_,rfl,?_⟩
       rw[Array.toList_modify];exact e3)
      refine⟨G,_,?_,L,rfl,hkept _⟩
      have e1':ents[j]? = some e:=by simpa using e1
      simp[Instr.mapUpdate,run_underlying h1,hgo,hck,hfk,setObj,Sem.run,hw,e1',e2,Instr.keyThatStays,JDe]
   ·cases he
  ·cases he
 ·cases he
theorem JFr(T:Qg P ty)(obj:∀ n o,h n=some o->RO h G w n o)(dis:Dis h G w){d:Nat}{t:TypeId}(ht:YA ty t=true){x:PV}{vx:Value}(he:Jfq h d x=some ev)(hx:RV h G w x vx):
 ∃ v G' w',(Instr.range t vx).run P w = .ok v w'∧Loud h G w (JO (JU ev.mp h) ev.hs) ev.mp G' w'∧RV (JO (JU ev.mp h) ev.hs) G' w' ev.val v∧VarKept h G w w' (JH ev.hs):=by
 have hu:=J5m T ht
 unfold Jfq at he
 split at he
 ·next s =>
  split at he
  ·next hnm =>
   cases he
   have hx:vx = .string ⟨s.toArray⟩:=by simpa [RV,RD]using hx
   subst hx
   have S:Still w { w with heap:=w.heap.push (.stringIter ⟨s.toArray⟩ 0) }:=⟨fun b hb=>by simp[Array.getElem?_push,Nat.ne_of_lt hb],by simp,rfl,rfl,rfl⟩
   have L:=J5q (o := .mp .it (.int .i64) [(s,(0:Int))]) (w':={ w with heap:=w.heap.push (.stringIter ⟨s.toArray⟩ 0) }) (b:=w.heap.size) (v:=undef) obj dis hnm S (fun _=>by
    refine⟨.stringIter ⟨s.toArray⟩ 0,?_,.inr ⟨rfl,s,0,rfl,Int.le_refl _,rfl⟩⟩
    rw[Gh.set_bk,if_pos rfl];simp) (fun c hc=>by
    simp only[Jd,JF,if_pos,Gh.set_bk]at hc
    cases hc;exact Nat.le_refl _)
   refine⟨.pointer (some ⟨w.heap.size,0,none⟩),_,_,?_,L,⟨.it,by rw[Gh.set_bk,if_pos rfl];rfl,.int .i64,[(s,(0:Int))],by simp[JO,JF]⟩,VarKept.ext obj S.blk _⟩
   simp[Instr.range,run_underlying hu,newObj,Sem.run]
  ·cases he
 ·cases he
theorem JI1{V:Kd}{es:List (List UInt8×V.T)}{s:List UInt8}{p:Int}(h:J8Z V es=some (s,p)): V = .int .i64∧HEq es [(s,p)]:=by
 unfold J8Z at h
 split at h
 ·cases h;exact⟨rfl,HEq.rfl⟩
 ·cases h
theorem JGu(obj:∀ n o,h n=some o->RO h G w n o)(dis:Dis h G w){x:PV}{vx:Value}(he:JfF h x=some ev)(hx:RV h G w x vx)(tt:TypeId):
 ∃ v G' w',(Instr.next vx true tt).run P w = .ok v w'∧Loud h G w (JO (JU ev.mp h) ev.hs) ev.mp G' w'∧RV (JO (JU ev.mp h) ev.hs) G' w' ev.val v∧VarKept h G w w' (JH ev.hs):=by
 unfold JfF at he
 split at he
 ·next n =>
  split at he
  ·next V es hn =>
   split at he
   ·next s p hit =>
    cases he
    obtain⟨rfl,hes⟩:=JI1 hit
    have hes:=eq_of_heq hes
    subst hes
    obtain⟨ag2,rfl,V2,es2,hn2⟩:=hx
    rw[hn]at hn2
    simp only[Option.some.injEq,HObj.mp.injEq]at hn2
    obtain⟨rfl,_,_⟩:=hn2
    obtain⟨ob,hw,hO⟩:=obj _ _ hn
    rcases hO with⟨hh,_⟩|⟨_,s',p',h1,h0,rfl⟩
    ·exact absurd rfl hh
    cases h1
    have hgo:(getObj (G.bk n)).run P w = .ok (.stringIter ⟨s.toArray⟩ p.toNat) w:=by simp[getObj,Sem.run,hw]
    have hkept:∀ o:Obj,VarKept h G w { w with heap:=w.heap.setIfInBounds (G.bk n) o } (JH [(n,some (HObj.mp .it (.int .i64) [(s,Z3 s p)]))]):=by
     intro o m tm cs hm _
     rw[Jfu,if_neg]
     intro hc
     have:=dis.inj m n (G.bk m) (by simp[Jd,hm]) (by simp[Jd,hn,hc.1])
     subst this;rw[hn]at hm;cases hm
    by_cases hp:p<(s.length:Int)
    ·have hP:Z3 s p=p+J8Y s p:=by unfold Z3;rw[decide_eq_true hp,cond_true]
     have hW:0≤J8Y s p:=Int.natCast_nonneg _
     have L:=Jfb (ob' := .stringIter ⟨s.toArray⟩ (p.toNat+(Utf8.decode ⟨s.toArray⟩ p.toNat).2)) (es':=[(s,Z3 s p)]) obj dis hn (by
      refine .inr ⟨rfl,s,Z3 s p,rfl,by rw[hP];omega,?_⟩
      rw[hP,show(p+J8Y s p).toNat=p.toNat+(Utf8.decode ⟨s.toArray⟩ p.toNat).2 by unfold J8Y;omega])
     have hp':p.toNat<s.length:=by omega
     refine⟨J3K s p,G,_,?_,L,⟨h0,rfl⟩,hkept _⟩
     have hpp:goInt p.toNat = .int .i64 p:=by show Value.int .i64 (p.toNat:Int)=_;rw[Int.toNat_of_nonneg h0]
     have hsz:p.toNat<ByteArray.size ⟨s.toArray⟩:=hp'
     simp[Instr.next,MK.val,hgo,hsz,setObj,Sem.run,hw,J3K,hp,hpp,YE]
     rw[Int.max_eq_left h0];rfl
    ·have hP:Z3 s p=p:=by unfold Z3;rw[decide_eq_false hp,cond_false]
     have L:=Jfb (ob' := .stringIter ⟨s.toArray⟩ p.toNat) (es':=[(s,Z3 s p)]) obj dis hn (by
      refine .inr ⟨rfl,s,Z3 s p,rfl,by rw[hP];exact h0,by rw[hP]⟩)
     have hws:({ w with heap:=w.heap.setIfInBounds (G.bk n) (.stringIter ⟨s.toArray⟩ p.toNat) }:World)=w:=by
      have:w.heap.setIfInBounds (G.bk n) (.stringIter ⟨s.toArray⟩ p.toNat)=w.heap:=by
       apply Array.ext_getElem?
       intro i
       rw[Array.getElem?_setIfInBounds]
       by_cases hi:G.bk n=i
       ·subst hi
        rw[hw]
        have:=(Array.getElem?_eq_some_iff.1 hw).1
        simp[this]
       ·rw[if_neg hi]
      rw[this]
     rw[hws]at L
     have hp':¬ p.toNat<ByteArray.size ⟨s.toArray⟩:=by
      show ¬ p.toNat<s.length
      omega
     refine⟨J3K s p,G,w,?_,L,⟨h0,rfl⟩,fun _ _ _ _ _=>rfl⟩
     simp[Instr.next,MK.val,hgo,hp',J3K,hp]
   ·cases he
  ·cases he
 ·cases he
end
section
open Go
variable {P:Program} {h:Je} {G:Gh} {w:World} {ev:Ev} {ty:TypeId->Option TI}
theorem Loud.still(obj:∀ n o,h n=some o->RO h G w n o)(dis:Dis h G w){w':World}(S:Still w w'): Loud h G w h none G w':=by
 have C:=Carry.quiet (h:=h) (G:=G) S.blk
 refine⟨⟨.row,.inl ⟨rfl,rfl⟩,C⟩,fun n o hn => ?_,dis.inj,fun b hb _=>S.blk b hb,rfl,fun n b hn => .inl ⟨n,hn⟩,S.grow,S.os,S.tape,S.out⟩
 have:=RO.carry C hn (obj n o hn) (fun b hb=>S.blk b (RO.lt hn (obj n o hn) hb)) rfl rfl
 rwa [J1A]at this
theorem JGv(T:Qg P ty)(obj:∀ n o,h n=some o->RO h G w n o)(dis:Dis h G w){s r:TypeId}{p:PV}{v:Value}(he:JfH ty h s r p=some ev)(hp:RV h G w p v):
 ∃ u w',(convert s r v).run P w = .ok u w'∧Loud h G w (JO (JU ev.mp h) ev.hs) ev.mp G w'∧RV (JO (JU ev.mp h) ev.hs) G w' ev.val u∧VarKept h G w w' (JH ev.hs):=by
 unfold JfH at he
 split at he
 ·next m =>
  cases hb:(Nat.beq s r&&J04 ty s)with
  |false=>rw[hb]at he;cases he
  |true =>
   rw[hb,cond_true]at he
   simp only[Bool.and_eq_true]at hb
   obtain rfl:=Nat.eq_of_beq_eq_true hb.1
   obtain⟨e,h1,h2,_⟩:=J7X T hb.2
   split at he
   ·next e' y ys hm =>
    cases he
    obtain⟨rfl,_⟩:=hp
    obtain⟨A,cap,hrv,hcap,hrr⟩:=J1C (obj _ _ hm)
    rcases hrr with hrr|⟨ad,g,cs,fz,hA,had,hg,hgh,hrr⟩
    ·cases hrr
    ·subst had
     have hrun:(convert s s (G.rv m)).run P w = .ok (G.rv m) (w.freeze ⟨g,cs.size,none⟩ 1):=by
      rw[hrv,hA]
      simp[convert,run_underlying h1,run_underlying h2,markStringish,World.shape?,hgh]
     obtain⟨L,hv⟩:=JGr obj dis hm hg (w':=w.freeze ⟨g,cs.size,none⟩ 1) (fun b hb=>Jix w _ 1 hb) (fun a ha=>JEv w _ 1 a) (JEu w _ 1) (Jl1 w _ 1).1 (Jl1 w _ 1).2.1 (Jl1 w _ 1).2.2
     refine⟨_,_,hrun,L,hv,fun n t cs' hn _ => ?_⟩
     refine Jix w _ 1 fun hbg => ?_
     have:=dis.inj n m g (by simp[Jd,hn,hbg]) (by simp[Jd,hm,hg])
     subst this
     rw[hm]at hn;cases hn
   ·cases he
 ·cases he
theorem JEx (T:Qg P ty) (obj:∀ n o,h n=some o->RO h G w n o) (dis:Dis h G w) {u:Operand->PV} {ρ : Operand->Value} (hu:∀ x,RV h G w (u x) (ρ x)) {xt:TypeId} {x:Operand} {lo hi:Option Operand}
 (he:JaF ty h xt (u x) (J06 u lo) (J06 u hi)=some ev) (hc:U5 ev.chk=true) (h1:ev.hs≠[]) :
 ∃ r,(Instr.sliceAt xt (ρ x) (lo.map ρ) (hi.map ρ) none).run P w = .ok r w∧Loud h G w (JO (JU ev.mp h) ev.hs) ev.mp G w∧RV (JO (JU ev.mp h) ev.hs) G w ev.val r:=by
 have hx:=hu x
 unfold JaF at he
 split at he
 ·cases hb:YA ty xt with
  |false=>rw[hb]at he;cases he
  |true =>
   rw[hb,cond_true]at he
   unfold Jls at he
   split at he
   ·cases he;exact absurd rfl h1
   ·cases he
 ·split at he
  ·cases hb:Nat.beq _ _ with
   |false=>rw[hb]at he;cases he
   |true =>
    rw[hb,cond_true]at he
    unfold J8q at he
    split at he
    ·cases he;exact absurd rfl h1
    ·cases he
  ·cases he
 ·next n hs =>
  rw[hs]at hx
  split at he
  ·next e K xs hn =>
   split at he
   ·next z hz =>
    obtain⟨e',i,hd,hi',hsz⟩:=J5w T hz
    cases hb:Nat.beq z K.sz with
    |false=>rw[hb]at he;cases he
    |true =>
     rw[hb,cond_true]at he
     have hb:=Nat.eq_of_beq_eq_true hb
     unfold Jlt at he
     split at he
     ·next l r hl hr =>
      cases he
      obtain⟨hv,_⟩:=hx
      have hln:Yp h [n]:=fun m hm=>by simp at hm;subst hm;exact⟨e,K,xs,hn⟩
      have A:=JeI (w:=w) obj dis hln
      have hdata:RV (UE h [n]) G w (.v (.sl K) xs) (ρ x):=by
       obtain⟨f,hf,C⟩:=A.f
       have:=(C.row n e K xs hn).1
       rcases hf with⟨hf,_⟩|hf
       ·cases hf
       ·have e2:frz h [n]=some (PV.mapR (U6 h [n])):=rfl
        rw[e2]at hf
        injection hf with hf
        have e3:PV.mapR (U6 h [n]) (.row n)=PV.mapR f (.row n):=by rw[hf]
        have e4:f n = .v (.sl K) xs:=by
         have:U6 h [n] n=f n:=e3
         rw[←this]
         simp[U6,QV,hn]
        rw[e4]at this
        rw[hv];exact this
      obtain⟨A',cap,hv2,hcap,hrow⟩:=hdata
      simp only[List.cons.injEq,and_true]at hv2
      rw[hv2]
      refine⟨_,JiX hd hi' (J2n hu hl) (J2n hu hr) hc hcap,A,?_⟩
      rw[hsz,hb]
      exact Jks hc hcap hrow
     ·cases he
   ·cases he
  ·cases he
 ·split at he
  ·unfold J8q at he
   split at he
   ·cases he;exact absurd rfl h1
   ·cases he
  ·cases he
 ·cases he
theorem JGw (T:Qg P ty) (obj:∀ n o,h n=some o->RO h G w n o) (dis:Dis h G w) {u:Operand->PV} {ρ : Operand->Value} (hu:∀ x,RV h G w (u x) (ρ x)) {o:Oper} {d:Nat}
 (he:Zh ty u h d o.op=some ev) (hc:U5 ev.chk=true) :
 ∃ nx v G' w',(execOp ρ o).run P w = .ok nx w'∧(nx = .value v∨nx = .skip∧v=undef)∧Loud h G w (JO (JU ev.mp h) ev.hs) ev.mp G' w'∧RV (JO (JU ev.mp h) ev.hs) G' w' ev.val v∧VarKept h G w w' (JH ev.hs):=by
 by_cases hq:ev.hs=[]∧ev.mp=none
 ·obtain⟨v,w',e1,e2,e3⟩:=Jqz T obj dis.xlt hu he hc hq.1 hq.2
  refine⟨_,v,G,w',e1,.inl rfl,?_,?_,VarKept.ext obj e2.blk _⟩
  ·rw[hq.1,hq.2];exact Loud.still obj dis e2
  ·rw[hq.1,hq.2];exact e3
 ·have he0:=he
  unfold Zh at he
  split at he
  ·exact absurd ⟨(J2m he (hu _)).2.1,(J2m he (hu _)).2.2.1⟩ hq
  ·exact absurd ⟨(J2m he (hu _)).2.1,(J2m he (hu _)).2.2.1⟩ hq
  ·next op t x y yt ho=>obtain⟨_,r,_,_,q1,q2⟩:=Jly (P:=P) T he (hu x) (hu y) hc;exact absurd ⟨q1,q2⟩ hq
  ·next op t x ho=>obtain⟨r,_,_,q1,q2,_⟩:=Jus (P:=P) he (hu x);exact absurd ⟨q1,q2⟩ hq
  ·next x i ho=>obtain⟨r,_,_,q1,q2⟩:=Jqw (P:=P) he (hu x) hc;exact absurd ⟨q1,q2⟩ hq
  ·next x ho=>obtain⟨_,_,q1,q2,_⟩:=JtJ (P:=P) he (hu x) ho rfl;exact absurd ⟨q1,q2⟩ hq
  ·next s x f ho =>
   split at he
   ·next hf=>obtain⟨r,_,_,q1,q2,_⟩:=Jpe (P:=P) T hf he (hu x);exact absurd ⟨q1,q2⟩ hq
   ·cases he
  ·next s x f ho =>
   split at he
   ·next hf=>obtain⟨r,_,_,q1,q2,_⟩:=Js5 (P:=P) T hf he (hu x);exact absurd ⟨q1,q2⟩ hq
   ·cases he
  ·next s parts ho =>
   split at he
   ·next ti hs=>obtain⟨r,_,_,q1,q2,_⟩:=Jsa (P:=P) T obj hs hu he;exact absurd ⟨q1,q2⟩ hq
   ·cases he
  ·next s x ho =>
   split at he
   ·next ti hs=>obtain⟨r,_,_,q1,q2,_⟩:=Js7 (P:=P) T hs he (hu x);exact absurd ⟨q1,q2⟩ hq
   ·cases he
  ·next x xt aT_ ok ho =>
   split at he
   ·next ti hs=>obtain⟨r,_,_,q1,q2,_⟩:=Jrm (P:=P) (xt:=xt) T hs he (hu x);exact absurd ⟨q1,q2⟩ hq
   ·cases he
  ·next f first caps ho =>
   cases hb:Nat.beq first.size 0 with
   |false=>rw[hb]at he;cases he
   |true=>rw[hb]at he;cases he;exact absurd ⟨rfl,rfl⟩ hq
  ·next t x i ho =>
   cases hb:YA ty t with
   |false=>rw[hb]at he;cases he
   |true=>rw[hb,cond_true]at he;obtain⟨r,_,_,q1,q2⟩:=Js6 (P:=P) (J5m T hb) he (hu x) (hu i) hc;exact absurd ⟨q1,q2⟩ hq
  ·next xt x lo hi ho =>
   by_cases h1:ev.hs=[]
   ·obtain⟨r,_,_,q2⟩:=Jsb (P:=P) T hu he hc h1;exact absurd ⟨h1,q2⟩ hq
   ·obtain⟨r,e1,e2,e3⟩:=JEx (P:=P) T obj dis hu he hc h1
    exact⟨_,r,G,w,by simp only[execOp,ho,Sem.run_bind,Option.map_none,e1];rfl,.inl rfl,e2,e3,fun _ _ _ _ _=>rfl⟩
  ·next xt x lo hi mx ho=>obtain⟨r,_,_,q1,q2⟩:=Jrn (P:=P) T hu he hc;exact absurd ⟨q1,q2⟩ hq
  ·next t x i ho=>obtain⟨r,_,_,q1,q2⟩:=Jpf (P:=P) T obj he (hu x) (hu i) hc;exact absurd ⟨q1,q2⟩ hq
  ·next s a ho =>
   split at he
   ·next ti hs=>obtain⟨r,_,_,q1,q2,_⟩:=JkZ (P:=P) T hs obj he (hu a);exact absurd ⟨q1,q2⟩ hq
   ·cases he
  ·next s a x ho =>
   split at he
   ·next ti hs =>
    obtain⟨G',w',e1,e2,e3,_,eV⟩:=JFq (P:=P) T obj dis hs he (hu a) (hu x)
    exact⟨.skip,undef,G',w',by simp only[execOp,ho,Sem.run_bind,e1];rfl,.inr ⟨rfl,rfl⟩,e2,by rw[e3];trivial,eV⟩
   ·cases he
  ·next s ho =>
   split at he
   ·next ti hs =>
    obtain⟨v,G',w',e1,e2,e3,_,eV⟩:=JFp (P:=P) T obj dis hs he
    exact⟨_,v,G',w',by simp only[execOp,ho,Sem.run_bind,e1];rfl,.inl rfl,e2,e3,eV⟩
   ·cases he
  ·next s x ho =>
   obtain⟨v,G',w',e1,e2,e3,_,eV⟩:=JHd (P:=P) obj dis he (hu x)
   exact⟨_,v,G',w',by simp only[execOp,ho,Sem.run_bind,e1];rfl,.inl rfl,e2,e3,eV⟩
  ·next s n parts ho =>
   split at he
   ·next e K b hk =>
    obtain⟨v,G',w',e1,e2,e3,_,eV⟩:=JAX (P:=P) T obj dis hk hu he
    exact⟨_,v,G',w',by simp only[execOp,ho,Sem.run_bind,e1];rfl,.inl rfl,e2,e3,eV⟩
   ·cases he
  ·next s l c ho =>
   split at he
   ·next e K b hk =>
    obtain⟨v,G',w',e1,e2,e3,eV⟩:=JGs (P:=P) T obj dis hk he (hu l) (hu c) hc
    exact⟨_,v,G',w',by simp only[execOp,ho,Sem.run_bind,e1];rfl,.inl rfl,e2,e3,eV⟩
   ·cases he
  ·next s r x ho =>
   split at he
   ·next ev' hm =>
    cases he
    obtain⟨v,w',e1,e2,e3,eV⟩:=JGv (P:=P) T obj dis hm (hu x)
    exact⟨_,v,G,w',by simp only[execOp,ho,Sem.run_bind,e1];rfl,.inl rfl,e2,e3,eV⟩
   ·obtain⟨v,w',_,_,_,q1,q2⟩:=Jqy (P:=P) T obj dis.xlt he (hu x) hc;exact absurd ⟨q1,q2⟩ hq
  ·next s ho =>
   split at he
   ·next ag V hm =>
    obtain⟨v,G',w',e1,e2,e3,eV⟩:=JDd (P:=P) obj dis (JlA T hm).1 s he
    exact⟨_,v,G',w',by simp only[execOp,ho,Sem.run_bind,Option.map_none,e1];rfl,.inl rfl,e2,e3,eV⟩
   ·cases he
  ·next t x ho =>
   cases hb:YA ty t with
   |false=>rw[hb]at he;cases he
   |true =>
    rw[hb,cond_true]at he
    obtain⟨v,G',w',e1,e2,e3,eV⟩:=JFr (P:=P) T obj dis hb he (hu x)
    exact⟨_,v,G',w',by simp only[execOp,ho,Sem.run_bind,Option.map_none,e1];rfl,.inl rfl,e2,e3,eV⟩
  ·next x ho =>
   obtain⟨v,G',w',e1,e2,e3,eV⟩:=JGu (P:=P) obj dis he (hu x) o.type
   exact⟨_,v,G',w',by simp only[execOp,ho,Sem.run_bind,Option.map_none,e1];rfl,.inl rfl,e2,e3,eV⟩
  ·next s x i ok ho =>
   exfalso
   split at he
   ·unfold Jf7 at he
    split at he
    ·split at he
     ·split at he
      ·cases he;exact hq ⟨rfl,rfl⟩
      ·cases he
     ·cases he
    ·cases he
   ·cases he
  ·next s x i p ho =>
   split at he
   ·next ag V hm =>
    obtain⟨G',w',e1,e2,e3,eV⟩:=JBt (P:=P) T obj dis hm he (hu x) (hu i) (hu p)
    exact⟨.skip,undef,G',w',by simp only[execOp,ho,Sem.run_bind,e1];rfl,.inr ⟨rfl,rfl⟩,e2,by rw[e3];trivial,eV⟩
   ·cases he
  ·next b args ts ho =>
   unfold Jmv at he
   split at he
   ·next x t ha ht=>obtain⟨v,_,_,q1,q2,_⟩:=JtI (P:=P) T obj he (hu x) o.type;exact absurd ⟨q1,q2⟩ hq
   ·next x y t t' ha ht =>
    split at he
    ·next e K b hk =>
     cases hb:J2G ty (u y) t t' b with
     |false=>rw[hb]at he;cases he
     |true =>
      rw[hb,cond_true]at he
      obtain⟨z,G',w',e1,e2,e3,eV⟩:=JEw (P:=P) (r:=o.type) T obj dis hk he hb (hu x) (hu y) hc
      have ha':args = #[x,y]:=by apply Array.ext';simpa using ha
      have ht':ts = #[t,t']:=by apply Array.ext';simpa using ht
      subst ha' ht'
      exact⟨_,z,G',w',by simp[execOp,ho,resolve,invoke,builtin,e1],.inl rfl,e2,e3,eV⟩
    ·cases he
   ·next x y ha=>obtain⟨v,_,_,q1,q2,_⟩:=JeH (P:=P) he (hu x) (hu y) ts o.type;exact absurd ⟨q1,q2⟩ hq
   ·next x y ha=>obtain⟨v,_,_,q1,q2,_⟩:=JeH (P:=P) he (hu x) (hu y) ts o.type;exact absurd ⟨q1,q2⟩ hq
   ·cases he
  ·cases he
end
section
open Go
variable {h:Je} {G:Gh} {w:World}
theorem J9W:∀ {l:List Nat},J3t l=true->l.Nodup
 |[],_=>List.nodup_nil
 |n::r,he=>by
  simp only[J3t,Bool.and_eq_true,Bool.not_eq_true']at he
  refine List.nodup_cons.2 ⟨fun hm => ?_,J9W he.2⟩
  rw[UC.2 hm]at he
  cases he.1
theorem Jl3:∀ {l r:List Nat},J2H l r=true->∀ n∈l,n∈r
 |[],r,_,n,hn=>by cases hn
 |m::l,r,he,n,hn=>by
  simp only[J2H,Bool.and_eq_true]at he
  rcases List.mem_cons.1 hn with rfl|hn
  ·exact UC.1 he.1
  ·exact Jl3 he.2 n hn
theorem Jl4:∀ {l r:List Nat},YF l r=true->∀ n∈l,n ∉ r
 |[],r,_,n,hn=>by cases hn
 |m::l,r,he,n,hn=>by
  simp only[YF,Bool.and_eq_true,Bool.not_eq_true']at he
  rcases List.mem_cons.1 hn with rfl|hn
  ·intro hr;rw[UC.2 hr]at he;cases he.1
  ·exact Jl4 he.2 n hn
theorem Qj{a b:Nat}: Nat.beq a b=true↔a=b:=⟨Nat.eq_of_beq_eq_true,fun e=>by subst e;simp⟩
theorem Jt0{α : Type}(l:List (Nat × α))(m n:Nat)(x : α): Jx ((m,x)::l) n=if m=n then some x else Jx l n:=by
 rw[Jx]
 by_cases hm:m=n
 ·subst hm;simp
 ·have:Nat.beq m n=false:=by cases hb:Nat.beq m n with|false=>rfl|true=>exact absurd (Qj.1 hb) hm
  rw[this,cond_false,if_neg hm]
theorem Qd{α : Type}: ∀ {l:List (Nat × α)} {n:Nat} {x : α},Jx l n=some x->(n,x)∈l
 |[],n,x,he=>by cases he
 |(m,y)::r,n,x,he=>by
  rw[Jt0]at he
  split at he
  ·next hm=>subst hm;cases he;simp
  ·exact List.mem_cons_of_mem _ (Qd he)
theorem UD{α : Type}: ∀ {l:List (Nat × α)} {n:Nat} {x : α},(n,x)∈l->n∈JH l
 |(m,y)::r,n,x,he=>by
  rcases List.mem_cons.1 he with e|he
  ·cases e;simp[JH]
  ·simp only[JH,List.mem_cons];exact .inr (UD he)
theorem J0u{α : Type}: ∀ {l:List (Nat × α)} {n:Nat},n∈JH l->∃ x,(n,x)∈l
 |(m,y)::r,n,he=>by
  simp only[JH,List.mem_cons]at he
  rcases he with rfl|he
  ·exact⟨y,by simp⟩
  ·obtain⟨x,hx⟩:=J0u he;exact⟨x,List.mem_cons_of_mem _ hx⟩
theorem QQ{α : Type}: ∀ {l:List (Nat × α)} {n:Nat} {x : α},(JH l).Nodup->(n,x)∈l->Jx l n=some x
 |(m,y)::r,n,x,hd,he=>by
  simp only[JH,List.nodup_cons]at hd
  rw[Jt0]
  rcases List.mem_cons.1 he with e|he
  ·cases e;simp
  ·have:m≠n:=fun e=>hd.1 (by rw[e];exact UD he)
   rw[if_neg this]
   exact QQ hd.2 he
theorem Jak:∀(l:List (Nm×Option Nm)) (k:Nm),J8O k l=Jx l k
 |[],_=>rfl
 |(m,x)::r,k=>by rw[J8O,Jx,Jak r k]
theorem J1B:∀ {l:List (Nm×Option Nm)} {k m:Nm},(k,some m)∈l->m∈Uf l
 |(a,some b)::r,k,m,he=>by
  rcases List.mem_cons.1 he with e|he
  ·cases e;simp[Uf]
  ·simp only[Uf,List.mem_cons];exact .inr (J1B he)
 |(a,none)::r,k,m,he=>by
  rcases List.mem_cons.1 he with e|he
  ·cases e
  ·exact J1B (l:=r) he
theorem JlB:∀ {l:List (Nm×Option Nm)} {m:Nm},m∈Uf l->∃ k,(k,some m)∈l
 |(a,some b)::r,m,he=>by
  simp only[Uf,List.mem_cons]at he
  rcases he with rfl|he
  ·exact⟨a,by simp⟩
  ·obtain⟨k,hk⟩:=JlB he;exact⟨k,List.mem_cons_of_mem _ hk⟩
 |(a,none)::r,m,he=>by
  obtain⟨k,hk⟩:=JlB (l:=r) he;exact⟨k,List.mem_cons_of_mem _ hk⟩
theorem Jfc:∀ {l:List (Nm×Option Nm)} {k k' m:Nm},(Uf l).Nodup->(k,some m)∈l->(k',some m)∈l->k=k'
 |(a,some b)::r,k,k',m,hd,h1,h2=>by
  simp only[Uf,List.nodup_cons]at hd
  rcases List.mem_cons.1 h1 with e1|h1<;>rcases List.mem_cons.1 h2 with e2|h2
  ·cases e1;cases e2;rfl
  ·cases e1;exact absurd (J1B h2) hd.1
  ·cases e2;exact absurd (J1B h1) hd.1
  ·exact Jfc hd.2 h1 h2
 |(a,none)::r,k,k',m,hd,h1,h2=>by
  rcases List.mem_cons.1 h1 with e1|h1
  ·cases e1
  ·rcases List.mem_cons.1 h2 with e2|h2
   ·cases e2
   ·exact Jfc (l:=r) hd h1 h2
theorem J8l:∀ {l:List (Nm×Option Nm)} {n k:Nm},J2y n l=some k->(k,some n)∈l
 |(a,some b)::r,n,k,he=>by
  rw[J2y]at he
  by_cases hb:b=n
  ·subst hb;simp at he;subst he;simp
  ·have:Nat.beq b n=false:=by cases hb2:Nat.beq b n with|false=>rfl|true=>exact absurd (Qj.1 hb2) hb
   rw[this]at he
   exact List.mem_cons_of_mem _ (J8l he)
 |(a,none)::r,n,k,he=>by
  rw[J2y]at he
  exact List.mem_cons_of_mem _ (J8l (l:=r) he)
structure Fine (na:NA):Prop where
 k1:(JH na.nm).Nodup
 k2:(Uf na.nm).Nodup
 k3:(JH na.hp).Nodup
 k4:∀ n∈JH na.nm,n∈JH na.hp
 k5:∀ n∈JH na.hp,n∈JH na.nm
 k6:∀ n∈na.fr,n ∉ Uf na.nm
 k7:∀ n∈na.br,n ∉ Uf na.nm
theorem Jf3{na:NA}(he:J1M na=true): Fine na:=by
 simp only[J1M,Bool.and_eq_true]at he
 obtain⟨⟨⟨⟨⟨⟨h1,h2⟩,h3⟩,h4⟩,h5⟩,h6⟩,h7⟩:=he
 exact⟨J9W h1,J9W h2,J9W h3,Jl3 h4,Jl3 h5,Jl4 h6,Jl4 h7⟩
def JM(G:Gh)(nf:NA)(X:Nat->Prop): Gh :=
 ⟨fun k=>match Jx nf.nm k with|some (some m)=>G.bk m|_=>0,fun k=>match Jx nf.nm k with|some (some m)=>G.rv m|_ => .slice none 0 0,X⟩
def Qe(h:Je)(G:Gh)(nf:NA)(b:Nat): Prop:=G.X b∨∃ n,n ∉ Uf nf.nm∧n ∉ nf.fr∧Jd h G n=some b
structure NA.le (a b:NA):Prop where
 nm:∀ x∈a.nm,x∈b.nm
 hp:∀ x∈a.hp,x∈b.hp
 fr:∀ x∈a.fr,x∈b.fr
 br:∀ x∈a.br,x∈b.br
theorem NA.le.refl(a:NA): a.le a:=⟨fun _ h=>h,fun _ h=>h,fun _ h=>h,fun _ h=>h⟩
theorem NA.le.trans{a b c:NA}(h:a.le b)(h':b.le c): a.le c:=⟨fun x hx=>h'.nm x (h.nm x hx),fun x hx=>h'.hp x (h.hp x hx),fun x hx=>h'.fr x (h.fr x hx),fun x hx=>h'.br x (h.br x hx)⟩
section
variable {nf:NA}
theorem Jvg (F:Fine nf) (obj:∀ n o,h n=some o->RO h G w n o) (hrow:Yp h nf.fr)
 (hhp:∀ k o,Jx nf.hp k=some o->∀ m,Jx nf.nm k=some (some m)->(∃ t cs cs',o = .var t cs'∧h m=some (.var t cs))∨(∃ e K xs,o = .row e K xs∧h m=some (.row e K xs))∨(∃ ag V es,o = .mp ag V es∧h m=some (.mp ag V es)))
 (hnil:∀ k o,Jx nf.hp k=some o->Jx nf.nm k=some none->∃ e K,o = .row e K []) :
 ∀ b,(okB h G b∨(∃ m∈nf.fr,Jd h G m=some b)∧Dis h G w)->okB (mkH nf.hp) (JM G nf (Qe h G nf)) b:=by
 have hblk:∀ k b,Jd (mkH nf.hp) (JM G nf (Qe h G nf)) k=some b->∃ m,Jx nf.nm k=some (some m)∧Jd h G m=some b:=by
  intro k b hb
  cases ho:Jx nf.hp k with
  |none=>simp[Jd,mkH,ho]at hb
  |some o =>
   have hk:k∈JH nf.nm:=F.k5 k (UD (Qd ho))
   obtain⟨x,hx⟩:=J0u hk
   have hl:=QQ F.k1 hx
   cases x with
   |none =>
    obtain⟨e,K,rfl⟩:=hnil k o ho hl
    simp[Jd,mkH,ho,JM,hl,Value.ownBlock]at hb
   |some m =>
    refine⟨m,hl,?_⟩
    rcases hhp k o ho m hl with⟨t,cs,cs',rfl,hm⟩|⟨e,K,xs,rfl,hm⟩|⟨ag,V,es,rfl,hm⟩
    ·simp[Jd,mkH,ho,JM,hl]at hb;simp[Jd,hm,hb]
    ·simp[Jd,mkH,ho,JM,hl]at hb;simp[Jd,hm,hb]
    ·simp[Jd,mkH,ho,JM,hl]at hb;simp[Jd,hm,hb]
 intro b hb
 rcases hb with hb|⟨⟨m,hm,hmb⟩,D⟩
 ·refine⟨fun k hk => ?_,fun hx => ?_⟩
  ·obtain⟨m,_,h2⟩:=hblk k b hk
   exact hb.1 m h2
  ·rcases hx with hx|⟨n,_,_,hn⟩
   ·exact hb.2 hx
   ·exact hb.1 n hn
 ·refine⟨fun k hk => ?_,fun hx => ?_⟩
  ·obtain⟨m',h1,h2⟩:=hblk k b hk
   have:=D.inj m m' b hmb h2
   subst this
   exact F.k6 m hm (J1B (Qd h1))
  ·rcases hx with hx|⟨n,_,hnf,hn⟩
   ·exact D.xo m b hmb hx
   ·have:=D.inj m n b hmb hn
    subst this
    exact hnf hm
end
structure Found (h:Je) (na:NA):Prop where
 hp:∀ k o,(k,o)∈na.hp->(∃ m,(k,some m)∈na.nm∧((∃ t cs cs',o = .var t cs'∧h m=some (.var t cs))∨(∃ e K xs,o = .row e K xs∧h m=some (.row e K xs))∨(∃ ag V es,o = .mp ag V es∧h m=some (.mp ag V es))))∨((k,none)∈na.nm∧∃ e K,o = .row e K [])
 fr:Yp h na.fr
mutual
theorem Jkv:∀(p:PV) {p':PV} {f:List Nm},Q0 h p=some (p',f)->Yp h f
 |.v K x,p',f,he=>by simp only[Q0,Option.some.injEq,Prod.mk.injEq]at he;obtain⟨_,rfl⟩:=he;intro n hn;cases hn
 |.kb b,p',f,he=>by simp only[Q0,Option.some.injEq,Prod.mk.injEq]at he;obtain⟨_,rfl⟩:=he;intro n hn;cases hn
 |.nilsl,p',f,he=>by simp only[Q0,Option.some.injEq,Prod.mk.injEq]at he;obtain⟨_,rfl⟩:=he;intro n hn;cases hn
 |.nilptr,p',f,he=>by simp only[Q0,Option.some.injEq,Prod.mk.injEq]at he;obtain⟨_,rfl⟩:=he;intro n hn;cases hn
 |.nilif,p',f,he=>by simp only[Q0,Option.some.injEq,Prod.mk.injEq]at he;obtain⟨_,rfl⟩:=he;intro n hn;cases hn
 |.elp K xs i off,p',f,he=>by simp only[Q0,Option.some.injEq,Prod.mk.injEq]at he;obtain⟨_,rfl⟩:=he;intro n hn;cases hn
 |.row m,p',f,he=>by
  simp only[Q0]at he
  split at he
  ·next e K xs hm =>
   simp only[Option.some.injEq,Prod.mk.injEq]at he
   obtain⟨_,rfl⟩:=he
   intro n hn
   simp at hn
   subst hn
   exact⟨e,K,xs,hm⟩
  ·cases he
 |.agg cs,p',f,he=>by
  simp only[Q0]at he
  split at he
  ·next cs' f' hc =>
   simp only[Option.some.injEq,Prod.mk.injEq]at he
   obtain⟨_,rfl⟩:=he
   exact purePs_rows cs hc
  ·cases he
 |.ifc t p,p',f,he=>by
  simp only[Q0]at he
  split at he
  ·next q f' hc =>
   simp only[Option.some.injEq,Prod.mk.injEq]at he
   obtain⟨_,rfl⟩:=he
   exact Jkv p hc
  ·cases he
 |.ng b,p',f,he=>by simp[Q0]at he
 |.ptr n off,p',f,he=>by simp[Q0]at he
 |.elr n i off,p',f,he=>by simp[Q0]at he
 |.tup ps,p',f,he=>by simp[Q0]at he
 |.clo g c,p',f,he=>by simp[Q0]at he
 |.opt g c p,p',f,he=>by simp[Q0]at he
 |.bv _ _,p',f,he=>by simp[Q0]at he
 |.elq _ _ _ _,p',f,he=>by simp[Q0]at he
 |.lp _ _ _,p',f,he=>by simp[Q0]at he
 |.un,p',f,he=>by simp[Q0]at he
theorem purePs_rows:∀(ps:List PV) {ps':List PV} {f:List Nm},purePs h ps=some (ps',f)->Yp h f
 |[],ps',f,he=>by simp only[purePs,Option.some.injEq,Prod.mk.injEq]at he;obtain⟨_,rfl⟩:=he;intro n hn;cases hn
 |p::r,ps',f,he=>by
  simp only[purePs]at he
  split at he
  ·next q f1 r' f2 h1 h2 =>
   simp only[Option.some.injEq,Prod.mk.injEq]at he
   obtain⟨_,rfl⟩:=he
   intro n hn
   rcases List.mem_append.1 hn with hn|hn
   ·exact Jkv p h1 n hn
   ·exact purePs_rows r h2 n hn
  ·cases he
end
theorem Found.addFr{na:NA}(F:Found h na){f:List Nm}(hf:Yp h f): Found h { na with fr:=na.fr++f } :=
 ⟨F.hp,fun n hn=>by rcases List.mem_append.1 hn with hn|hn;exact F.fr n hn;exact hf n hn⟩
mutual
theorem J7Z:∀(s:LS) (p:PV) (na:NA) {p':PV} {na':NA},Qs h na s p=some (p',na')->Found h na->Found h na'∧na.le na'
 |.any,p,na,p',na',he,F=>by
  simp only[Qs]at he
  split at he
  ·next q f hq =>
   simp only[Option.some.injEq,Prod.mk.injEq]at he
   obtain⟨rfl,rfl⟩:=he
   exact⟨F.addFr (Jkv p hq),fun _ h=>h,fun _ h=>h,fun _ h=>by simp[h],fun _ h=>h⟩
  ·cases he
 |.sl K,p,na,p',na',he,F=>by
  simp only[Qs]at he
  split at he
  ·next xs f hq =>
   simp only[Option.some.injEq,Prod.mk.injEq]at he
   obtain⟨rfl,rfl⟩:=he
   exact⟨F.addFr (J8j hq),fun _ h=>h,fun _ h=>h,fun _ h=>by simp[h],fun _ h=>h⟩
  ·cases he
 |.own nm e K,p,na,p',na',he,F=>by
  simp only[Qs]at he
  split at he
  ·cases hsz:Nat.ble 1 K.sz with
   |false=>rw[hsz]at he;cases he
   |true =>
   rw[hsz,cond_true]at he
   simp only[Option.some.injEq,Prod.mk.injEq]at he
   obtain⟨rfl,rfl⟩:=he
   refine⟨⟨fun k o hk => ?_,F.fr⟩,fun _ h=>by simp[h],fun _ h=>by simp[h],fun _ h=>h,fun _ h=>h⟩
   rcases List.mem_append.1 hk with hk|hk
   ·rcases F.hp k o hk with⟨m,h1,h2⟩|⟨h1,h2⟩
    ·exact .inl ⟨m,by simp[h1],h2⟩
    ·exact .inr ⟨by simp[h1],h2⟩
   ·simp at hk
    obtain⟨rfl,rfl⟩:=hk
    exact .inr ⟨by simp,e,K,rfl⟩
  ·next m =>
   split at he
   ·next e' K' xs hm =>
    cases hb:J3B m na.nm with
    |true=>rw[hb]at he;cases he
    |false =>
     rw[hb,cond_false]at he
     split at he
     ·next ys hc =>
      cases hb2:Nat.beq e' e with
      |false=>rw[hb2]at he;cases he
      |true =>
       rw[hb2,cond_true]at he
       have hee:=Qj.1 hb2
       subst hee
       obtain⟨hK,hx⟩:=UR hc
       have hK:K'=K:=by injection hK
       subst hK
       subst hx
       simp only[Option.some.injEq,Prod.mk.injEq]at he
       obtain⟨rfl,rfl⟩:=he
       refine⟨⟨fun k o hk => ?_,F.fr⟩,fun _ h=>by simp[h],fun _ h=>by simp[h],fun _ h=>h,fun _ h=>h⟩
       rcases List.mem_append.1 hk with hk|hk
       ·rcases F.hp k o hk with⟨m,h1,h2⟩|⟨h1,h2⟩
        ·exact .inl ⟨m,by simp[h1],h2⟩
        ·exact .inr ⟨by simp[h1],h2⟩
       ·simp at hk
        obtain⟨rfl,rfl⟩:=hk
        exact .inl ⟨m,by simp,.inr (.inl ⟨e',K',_,rfl,hm⟩)⟩
     ·cases he
   ·cases he
  ·cases he
 |.obj nm cs,p,na,p',na',he,F=>by
  simp only[Qs]at he
  split at he
  ·next n off =>
   split at he
   ·next k hk =>
    simp only[Option.some.injEq,Prod.mk.injEq]at he
    obtain⟨rfl,rfl⟩:=he
    exact⟨F,NA.le.refl _⟩
   ·split at he
    ·next t ps hn =>
     split at he
     ·next ps' na2 hps =>
      simp only[Option.some.injEq,Prod.mk.injEq]at he
      obtain⟨rfl,rfl⟩:=he
      have F0:Found h { na with nm:=na.nm++[(nm,some n)] }:=⟨fun k o hk=>by
       rcases F.hp k o hk with⟨m,h1,h2⟩|⟨h1,h2⟩
       ·exact .inl ⟨m,by simp[h1],h2⟩
       ·exact .inr ⟨by simp[h1],h2⟩,F.fr⟩
      obtain⟨F2,L2⟩:=normPs_found cs ps _ hps F0
      refine⟨⟨fun k o hk => ?_,F2.fr⟩,fun x hx=>L2.nm x (by simp[hx]),fun x hx=>by simp[L2.hp x hx],fun x hx=>L2.fr x hx,fun x hx=>L2.br x hx⟩
      rcases List.mem_append.1 hk with hk|hk
      ·exact F2.hp k o hk
      ·simp at hk
       obtain⟨rfl,rfl⟩:=hk
       exact .inl ⟨n,L2.nm _ (by simp),.inl ⟨t,ps,ps',rfl,hn⟩⟩
     ·cases he
    ·cases he
  ·cases he
 |.nps nm o0,p,na,p',na',he,F=>by
  simp only[Qs]at he
  split at he
  ·simp only[Option.some.injEq,Prod.mk.injEq]at he
   obtain⟨rfl,rfl⟩:=he
   exact⟨F,NA.le.refl _⟩
  ·next n off =>
   split at he
   ·cases hb:Nat.beq off o0 with
    |false=>rw[hb]at he;cases he
    |true =>
     rw[hb,cond_true]at he
     simp only[Option.some.injEq,Prod.mk.injEq]at he
     obtain⟨rfl,rfl⟩:=he
     exact⟨F,NA.le.refl _⟩
   ·cases he
  ·next n off =>
   split at he
   ·cases hb:Nat.beq off o0 with
    |false=>rw[hb]at he;cases he
    |true =>
     rw[hb,cond_true]at he
     simp only[Option.some.injEq,Prod.mk.injEq]at he
     obtain⟨rfl,rfl⟩:=he
     exact⟨F,NA.le.refl _⟩
   ·cases he
  ·cases he
 |.mpo nm ag V,p,na,p',na',he,F=>by
  simp only[Qs]at he
  split at he
  ·next m =>
   split at he
   ·next ag' V' es hm =>
    cases hb:J3B m na.nm with
    |true=>rw[hb]at he;cases he
    |false =>
     rw[hb,cond_false]at he
     split at he
     ·next ys hc =>
      cases hb2:decide (ag'=ag)with
      |false=>rw[hb2]at he;cases he
      |true =>
       rw[hb2,cond_true]at he
       have hee:ag'=ag:=by simpa using hb2
       subst hee
       obtain⟨hK,hx⟩:=UR hc
       have hK:V'=V:=by injection hK with hK;injection hK
       subst hK
       subst hx
       simp only[Option.some.injEq,Prod.mk.injEq]at he
       obtain⟨rfl,rfl⟩:=he
       refine⟨⟨fun k o hk => ?_,F.fr⟩,fun _ h=>by simp[h],fun _ h=>by simp[h],fun _ h=>h,fun _ h=>h⟩
       rcases List.mem_append.1 hk with hk|hk
       ·rcases F.hp k o hk with⟨m,h1,h2⟩|⟨h1,h2⟩
        ·exact .inl ⟨m,by simp[h1],h2⟩
        ·exact .inr ⟨by simp[h1],h2⟩
       ·simp at hk
        obtain⟨rfl,rfl⟩:=hk
        exact .inl ⟨m,by simp,.inr (.inr ⟨ag',V',_,rfl,hm⟩)⟩
     ·cases he
   ·cases he
  ·cases he
 |.bor K,p,na,p',na',he,F=>by
  simp only[Qs]at he
  split at he
  ·split at he
   ·simp only[Option.some.injEq,Prod.mk.injEq]at he
    obtain⟨rfl,rfl⟩:=he
    exact⟨F,NA.le.refl _⟩
   ·cases he
  ·split at he
   ·simp only[Option.some.injEq,Prod.mk.injEq]at he
    obtain⟨rfl,rfl⟩:=he
    exact⟨F,NA.le.refl _⟩
   ·cases he
  ·simp only[Option.some.injEq,Prod.mk.injEq]at he
   obtain⟨rfl,rfl⟩:=he
   exact⟨F,NA.le.refl _⟩
  ·split at he
   ·split at he
    ·simp only[Option.some.injEq,Prod.mk.injEq]at he
     obtain⟨rfl,rfl⟩:=he
     exact⟨⟨F.hp,F.fr⟩,fun _ h=>h,fun _ h=>h,fun _ h=>h,fun _ h=>by simp[h]⟩
    ·cases he
   ·cases he
  ·cases he
 |.lend K,p,na,p',na',he,F=>by
  simp only[Qs]at he
  split at he
  ·next K' x off =>
   split at he
   ·cases hb:Nat.beq off 0 with
    |false=>rw[hb]at he;cases he
    |true =>
     rw[hb,cond_true]at he
     simp only[Option.some.injEq,Prod.mk.injEq]at he
     obtain⟨rfl,rfl⟩:=he
     exact⟨F,NA.le.refl _⟩
   ·cases he
  ·split at he
   ·split at he
    ·simp only[Option.some.injEq,Prod.mk.injEq]at he
     obtain⟨rfl,rfl⟩:=he
     exact⟨⟨F.hp,F.fr⟩,fun _ h=>h,fun _ h=>h,fun _ h=>h,fun _ h=>by simp[h]⟩
    ·cases he
   ·cases he
  ·cases he
 |.ag cs,p,na,p',na',he,F=>by
  simp only[Qs]at he
  split at he
  ·next ps =>
   split at he
   ·next ps' na2 hps =>
    simp only[Option.some.injEq,Prod.mk.injEq]at he
    obtain⟨rfl,rfl⟩:=he
    exact normPs_found cs ps _ hps F
   ·cases he
  ·cases he
 |.clo cs,p,na,p',na',he,F=>by
  simp only[Qs]at he
  split at he
  ·next f ps =>
   split at he
   ·next ps' na2 hps =>
    simp only[Option.some.injEq,Prod.mk.injEq]at he
    obtain⟨rfl,rfl⟩:=he
    exact normPs_found cs ps _ hps F
   ·cases he
  ·cases he
theorem normPs_found:∀(ss:List LS) (ps:List PV) (na:NA) {ps':List PV} {na':NA},normPs h na ss ps=some (ps',na')->Found h na->Found h na'∧na.le na'
 |[],[],na,ps',na',he,F=>by
  simp only[normPs,Option.some.injEq,Prod.mk.injEq]at he
  obtain⟨rfl,rfl⟩:=he
  exact⟨F,NA.le.refl _⟩
 |s::ss,p::ps,na,ps',na',he,F=>by
  simp only[normPs]at he
  split at he
  ·next q na1 h1 =>
   split at he
   ·next qs na2 h2 =>
    simp only[Option.some.injEq,Prod.mk.injEq]at he
    obtain⟨rfl,rfl⟩:=he
    obtain⟨F1,L1⟩:=J7Z s p na h1 F
    obtain⟨F2,L2⟩:=normPs_found ss ps na1 h2 F1
    exact⟨F2,L1.trans L2⟩
   ·cases he
  ·cases he
 |[],p::ps,na,ps',na',he,F=>by simp[normPs]at he
 |s::ss,[],na,ps',na',he,F=>by simp[normPs]at he
end
structure Sub (h:Je) (G:Gh) (w:World) (nf:NA):Prop where
 fi:Fine nf
 fo:Found h nf
 obj:∀ n o,h n=some o->RO h G w n o
 dis:Dis h G w
theorem JpP:∀ {a b:List PV} {a' b':List PV} {f f':List Nm},purePs h a=some (a',f)->purePs h b=some (b',f')->purePs h (a++b)=some (a'++b',f++f')
 |[],b,a',b',f,f',h1,h2=>by
  simp only[purePs,Option.some.injEq,Prod.mk.injEq]at h1
  obtain⟨rfl,rfl⟩:=h1
  simpa using h2
 |p::a,b,a',b',f,f',h1,h2=>by
  simp only[purePs]at h1
  split at h1
  ·next q f1 r' f2 e1 e2 =>
   simp only[Option.some.injEq,Prod.mk.injEq]at h1
   obtain⟨rfl,rfl⟩:=h1
   rw[List.cons_append,purePs,e1,JpP e2 h2]
   simp
  ·cases h1
theorem Jkw:∀(V:Kd) (x:V.T),purePs h (V.cells x)=some (V.cells x,[])
 |.pr a b,x=>by rw[Kd.cells];exact JpP (Jkw a _) (Jkw b _)
 |.nil,_=>rfl
 |.int _,_=>rfl
 |.bool,_=>rfl
 |.str,_=>rfl
 |.flt,_=>rfl
 |.sl _,_=>rfl
section
variable {nf:NA} (S:Sub h G w nf)
include S
theorem Sub.hhp:∀ k o,Jx nf.hp k=some o->∀ m,Jx nf.nm k=some (some m)->(∃ t cs cs',o = .var t cs'∧h m=some (.var t cs))∨(∃ e K xs,o = .row e K xs∧h m=some (.row e K xs))∨(∃ ag V es,o = .mp ag V es∧h m=some (.mp ag V es)):=by
 intro k o ho m hm
 rcases S.fo.hp k o (Qd ho)with⟨m',h1,h2⟩|⟨h1,_⟩
 ·have:=QQ S.fi.k1 h1
  rw[hm]at this
  cases this
  exact h2
 ·have:=QQ S.fi.k1 h1
  rw[hm]at this
  cases this
theorem Sub.hnil:∀ k o,Jx nf.hp k=some o->Jx nf.nm k=some none->∃ e K,o = .row e K []:=by
 intro k o ho hm
 rcases S.fo.hp k o (Qd ho)with⟨m',h1,_⟩|⟨_,h2⟩
 ·have:=QQ S.fi.k1 h1
  rw[hm]at this
  cases this
 ·exact h2
theorem Sub.ok{b:Nat}(hb:okB h G b): okB (mkH nf.hp) (JM G nf (Qe h G nf)) b :=
 Jvg S.fi S.obj S.fo.fr S.hhp S.hnil b (.inl hb)
theorem Sub.okfr{b:Nat}{m:Nm}(hm:m∈nf.fr)(hb:Jd h G m=some b): okB (mkH nf.hp) (JM G nf (Qe h G nf)) b :=
 Jvg S.fi S.obj S.fo.fr S.hhp S.hnil b (.inr ⟨⟨m,hm,hb⟩,S.dis⟩)
theorem Sub.data{K:Kd}{x:K.T}{cs:List Value}(hr:RD w (okB h G) K x cs): RD w (okB (mkH nf.hp) (JM G nf (Qe h G nf))) K x cs :=
 hr.mono fun b hb _=>⟨S.ok hb,rfl⟩
theorem Sub.rowdata{m:Nm}{e:TypeId}{K:Kd}{xs:List K.T}(hm:m∈nf.fr)(hr:h m=some (.row e K xs)): RD w (okB (mkH nf.hp) (JM G nf (Qe h G nf))) (.sl K) xs [G.rv m]:=by
 obtain⟨A,cap,hrv,hcap,hrr⟩:=J1C (S.obj _ _ hr)
 refine⟨A,cap,by rw[hrv],hcap,?_⟩
 rcases hrr with hrr|⟨ad,g,cs,fz,hA,had,hg,hgh,hrr⟩
 ·exact .inl hrr
 ·refine .inr ⟨ad,hA,?_,?_,fun i y hy => ?_⟩
  ·subst had;exact S.okfr hm (by simp[Jd,hr,hg])
  ·subst had;exact(Array.getElem?_eq_some_iff.1 hgh).1
  ·obtain⟨c,hc,hu⟩:=hrr i y hy
   exact⟨c,S.data hc,hu⟩
mutual
theorem Sub.pure:∀(p:PV) {p':PV} {f:List Nm} {v:Value},Q0 h p=some (p',f)->(∀ n∈f,n∈nf.fr)->RV h G w p v->RV (mkH nf.hp) (JM G nf (Qe h G nf)) w p' v
 |.v K x,p',f,v,he,hf,hp=>by simp only[Q0,Option.some.injEq,Prod.mk.injEq]at he;obtain⟨rfl,rfl⟩:=he;exact S.data hp
 |.kb b,p',f,v,he,hf,hp=>by
  simp only[Q0,Option.some.injEq,Prod.mk.injEq]at he;obtain⟨rfl,rfl⟩:=he
  have hv:v = .bool b:=hp
  subst hv;rfl
 |.nilsl,p',f,v,he,hf,hp=>by simp only[Q0,Option.some.injEq,Prod.mk.injEq]at he;obtain⟨rfl,rfl⟩:=he;exact hp
 |.nilptr,p',f,v,he,hf,hp=>by simp only[Q0,Option.some.injEq,Prod.mk.injEq]at he;obtain⟨rfl,rfl⟩:=he;exact hp
 |.nilif,p',f,v,he,hf,hp=>by simp only[Q0,Option.some.injEq,Prod.mk.injEq]at he;obtain⟨rfl,rfl⟩:=he;exact hp
 |.elp K xs i off,p',f,v,he,hf,hp=>by
  simp only[Q0,Option.some.injEq,Prod.mk.injEq]at he;obtain⟨rfl,rfl⟩:=he
  obtain⟨ad,rfl,hi,hr⟩:=hp
  exact⟨ad,rfl,hi,hr.mono (fun b hb _=>⟨S.ok hb,rfl⟩) fun _ _=>S.data⟩
 |.row m,p',f,v,he,hf,hp=>by
  simp only[Q0]at he
  split at he
  ·next e K xs hm =>
   simp only[Option.some.injEq,Prod.mk.injEq]at he
   obtain⟨rfl,rfl⟩:=he
   obtain⟨rfl,_⟩:=hp
   exact S.rowdata (hf m (by simp)) hm
  ·cases he
 |.agg cs,p',f,v,he,hf,hp=>by
  simp only[Q0]at he
  split at he
  ·next cs' f' hc =>
   simp only[Option.some.injEq,Prod.mk.injEq]at he
   obtain⟨rfl,rfl⟩:=he
   obtain⟨vs,rfl,hr⟩:=hp
   exact⟨vs,rfl,Sub.pures cs hc hf hr⟩
  ·cases he
 |.ifc t p,p',f,v,he,hf,hp=>by
  simp only[Q0]at he
  split at he
  ·next q f' hc =>
   simp only[Option.some.injEq,Prod.mk.injEq]at he
   obtain⟨rfl,rfl⟩:=he
   obtain⟨u,rfl,hr⟩:=hp
   exact⟨u,rfl,Sub.pure p hc hf hr⟩
  ·cases he
 |.ng b,p',f,v,he,hf,hp=>by simp[Q0]at he
 |.ptr n off,p',f,v,he,hf,hp=>by simp[Q0]at he
 |.elr n i off,p',f,v,he,hf,hp=>by simp[Q0]at he
 |.tup ps,p',f,v,he,hf,hp=>by simp[Q0]at he
 |.clo g c,p',f,v,he,hf,hp=>by simp[Q0]at he
 |.opt g c p,p',f,v,he,hf,hp=>by simp[Q0]at he
 |.bv _ _,p',f,v,he,hf,hp=>by simp[Q0]at he
 |.elq _ _ _ _,p',f,v,he,hf,hp=>by simp[Q0]at he
 |.lp _ _ _,p',f,v,he,hf,hp=>by simp[Q0]at he
 |.un,p',f,v,he,hf,hp=>by simp[Q0]at he
theorem Sub.pures:∀(ps:List PV) {ps':List PV} {f:List Nm} {vs:List Value},purePs h ps=some (ps',f)->(∀ n∈f,n∈nf.fr)->RVs h G w ps vs->RVs (mkH nf.hp) (JM G nf (Qe h G nf)) w ps' vs
 |[],ps',f,vs,he,hf,hp=>by simp only[purePs,Option.some.injEq,Prod.mk.injEq]at he;obtain⟨rfl,rfl⟩:=he;exact hp
 |p::r,ps',f,vs,he,hf,hp=>by
  simp only[purePs]at he
  split at he
  ·next q f1 r' f2 h1 h2 =>
   simp only[Option.some.injEq,Prod.mk.injEq]at he
   obtain⟨rfl,rfl⟩:=he
   obtain⟨v,l,rfl,hv,hl⟩:=hp
   exact⟨v,l,rfl,Sub.pure p h1 (fun n hn=>hf n (by simp[hn])) hv,Sub.pures r h2 (fun n hn=>hf n (by simp[hn])) hl⟩
  ·cases he
end
theorem Sub.leaf{K:Kd}{p:PV}{x:K.T}{f:List Nm}{v:Value}(he:leaf h K p=some (x,f))(hf:∀ n∈f,n∈nf.fr)(hp:RV h G w p v): RD w (okB (mkH nf.hp) (JM G nf (Qe h G nf))) K x [v]:=by
 unfold Pvm.leaf at he
 split at he
 ·next K' y =>
  obtain⟨z,hz,he⟩:=Option.map_eq_some_iff.1 he
  simp only[Prod.mk.injEq]at he
  obtain⟨rfl,rfl⟩:=he
  obtain⟨rfl,rfl⟩:=UR hz
  exact S.data hp
 ·next b =>
  obtain⟨z,hz,he⟩:=Option.map_eq_some_iff.1 he
  simp only[Prod.mk.injEq]at he
  obtain⟨rfl,rfl⟩:=he
  obtain⟨rfl,rfl⟩:=UR hz
  obtain rfl:v=_:=hp
  rfl
 ·split at he
  ·cases he
   obtain rfl:v=_:=hp
   exact⟨none,0,rfl,Nat.le_refl _,.inl rfl⟩
  ·cases he
 ·next n =>
  split at he
  ·next e K' xs hn =>
   obtain⟨z,hz,he⟩:=Option.map_eq_some_iff.1 he
   simp only[Prod.mk.injEq]at he
   obtain⟨rfl,rfl⟩:=he
   obtain⟨rfl,rfl⟩:=UR hz
   obtain⟨rfl,_⟩:=hp
   exact S.rowdata (hf n (by simp)) hn
  ·cases he
 ·cases he
theorem Sub.val{V:Kd}{ag:Bool}{x:V.T}{v:Value}(hp:RV h G w (UH ag V x) v): RV (mkH nf.hp) (JM G nf (Qe h G nf)) w (UH ag V x) v:=by
 have C:=Jkw (h:=h) V x
 unfold UH at hp ⊢
 cases ag with
 |true =>
  simp only[cond_true]at hp ⊢
  obtain⟨vs,rfl,hr⟩:=hp
  exact⟨vs,rfl,Sub.pures S _ C (fun n hn=>by cases hn) hr⟩
 |false =>
  simp only[cond_false]at hp ⊢
  revert hp C
  cases V.cells x with
  |nil=>intro _ _;trivial
  |cons p r =>
   cases r with
   |nil =>
    intro C hp
    simp only[purePs]at C
    split at C
    ·next q f1 r' f2 h1 h2 =>
     simp only[Option.some.injEq,Prod.mk.injEq]at C h2
     obtain⟨rfl,rfl⟩:=h2
     obtain⟨C1,C2⟩:=C
     simp only[List.cons.injEq,and_true]at C1
     subst C1
     exact Sub.pure S _ h1 (fun n hn=>by have:n∈f1++[]:=by simpa using hn
                                         rw[C2]at this;cases this) hp
    ·cases C
   |cons q r=>intro _ _;trivial
theorem Sub.ents{ag:Bool}{V:Kd}: ∀ {ents:List MapEntry} {es:List (List UInt8×V.T)},EntsOk h G w ag V ents es->EntsOk (mkH nf.hp) (JM G nf (Qe h G nf)) w ag V ents es
 |[],[],_=>trivial
 |[],_::_,hE=>hE.elim
 |_::_,[],hE=>hE.elim
 |e::r,(k,x)::s,⟨h1,h2,h3⟩=>⟨h1,S.val h2,Sub.ents h3⟩
theorem Sub.ob{ag:MK}{V:Kd}{es:List (List UInt8×V.T)}{o:Obj}: ObOk h G w ag V es o->ObOk (mkH nf.hp) (JM G nf (Qe h G nf)) w ag V es o
 |.inl ⟨h1,ents,clock,h2,h3⟩ => .inl ⟨h1,ents,clock,h2,S.ents h3⟩
 |.inr hh => .inr hh
mutual
theorem Sub.norm:∀(s:LS) (p:PV) (na:NA) {p':PV} {na':NA} {v:Value},Qs h na s p=some (p',na')->na'.le nf->Found h na->RV h G w p v ->
 RV (mkH nf.hp) (JM G nf (Qe h G nf)) w p' v∧∀ x∈na'.hp,x∈na.hp∨RO (mkH nf.hp) (JM G nf (Qe h G nf)) w x.1 x.2
 |.any,p,na,p',na',v,he,L,F,hp=>by
  simp only[Qs]at he
  split at he
  ·next q f hq =>
   simp only[Option.some.injEq,Prod.mk.injEq]at he
   obtain⟨rfl,rfl⟩:=he
   exact⟨S.pure p hq (fun n hn=>L.fr n (by simp[hn])) hp,fun x hx => .inl hx⟩
  ·cases he
 |.sl K,p,na,p',na',v,he,L,F,hp=>by
  simp only[Qs]at he
  split at he
  ·next xs f hq =>
   simp only[Option.some.injEq,Prod.mk.injEq]at he
   obtain⟨rfl,rfl⟩:=he
   exact⟨S.leaf hq (fun n hn=>L.fr n (by simp[hn])) hp,fun x hx => .inl hx⟩
  ·cases he
 |.own nm e K,p,na,p',na',v,he,L,F,hp=>by
  simp only[Qs]at he
  split at he
  ·cases hsz:Nat.ble 1 K.sz with
   |false=>rw[hsz]at he;cases he
   |true =>
    rw[hsz,cond_true]at he
    have hpos:=Nat.le_of_ble_eq_true hsz
    simp only[Option.some.injEq,Prod.mk.injEq]at he
    obtain⟨rfl,rfl⟩:=he
    have h1:=QQ S.fi.k1 (L.nm (nm,none) (by simp))
    have h2:=QQ S.fi.k3 (L.hp (nm,.row e K []) (by simp))
    have hrv:(JM G nf (Qe h G nf)).rv nm = .slice none 0 0:=by simp[JM,h1]
    have hv:v = .slice none 0 0:=hp
    refine⟨⟨by rw[hrv];exact hv,e,K,[],h2⟩,fun x hx => ?_⟩
    rcases List.mem_append.1 hx with hx|hx
    ·exact .inl hx
    ·simp at hx
     subst hx
     exact .inr ⟨[],by rw[hrv];exact World.ownsRow_nil w 0 e K.sz,rfl,hpos⟩
  ·next m =>
   split at he
   ·next e' K' xs hm =>
    cases hb:J3B m na.nm with
    |true=>rw[hb]at he;cases he
    |false =>
     rw[hb,cond_false]at he
     split at he
     ·next ys hc =>
      cases hb2:Nat.beq e' e with
      |false=>rw[hb2]at he;cases he
      |true =>
       rw[hb2,cond_true]at he
       have hee:=Qj.1 hb2
       subst hee
       obtain⟨hK,hx⟩:=UR hc
       have hK:K'=K:=by injection hK
       subst hK
       subst hx
       simp only[Option.some.injEq,Prod.mk.injEq]at he
       obtain⟨rfl,rfl⟩:=he
       obtain⟨rfl,_⟩:=hp
       have h1:=QQ S.fi.k1 (L.nm (nm,some m) (by simp))
       have h2:=QQ S.fi.k3 (L.hp (nm,.row e' K' ys) (by simp))
       have hrv:(JM G nf (Qe h G nf)).rv nm=G.rv m:=by simp[JM,h1]
       refine⟨⟨hrv.symm,e',K',ys,h2⟩,fun x hx => ?_⟩
       rcases List.mem_append.1 hx with hx|hx
       ·exact .inl hx
       ·simp at hx
        subst hx
        obtain⟨vs,hown,hrd,hp0⟩:=S.obj _ _ hm
        exact .inr ⟨vs,by rw[hrv];exact hown,hrd.mono fun b hb _=>⟨S.ok hb,rfl⟩,hp0⟩
     ·cases he
   ·cases he
  ·cases he
 |.obj nm cs,p,na,p',na',v,he,L,F,hp=>by
  simp only[Qs]at he
  split at he
  ·next n off =>
   obtain⟨rfl,t0,cs0,hn0⟩:=hp
   split at he
   ·next k hk =>
    simp only[Option.some.injEq,Prod.mk.injEq]at he
    obtain⟨rfl,rfl⟩:=he
    have h1:=QQ S.fi.k1 (L.nm _ (J8l hk))
    have hkk:k∈JH nf.hp:=S.fi.k4 k (UD (L.nm _ (J8l hk)))
    obtain⟨o,ho⟩:=J0u hkk
    have h2:=QQ S.fi.k3 ho
    refine⟨⟨by simp[JM,h1],?_⟩,fun x hx => .inl hx⟩
    rcases S.hhp k o h2 n h1 with⟨t,cs',cs2,rfl,_⟩|⟨e,K,xs,rfl,hr⟩|⟨ag,V,es,rfl,hr⟩
    ·exact⟨t,cs2,h2⟩
    ·rw[hn0]at hr;cases hr
    ·rw[hn0]at hr;cases hr
   ·split at he
    ·next t ps hn =>
     split at he
     ·next ps' na2 hps =>
      simp only[Option.some.injEq,Prod.mk.injEq]at he
      obtain⟨rfl,rfl⟩:=he
      have F0:Found h { na with nm:=na.nm++[(nm,some n)] }:=⟨fun k o hk=>by
       rcases F.hp k o hk with⟨m,h1,h2⟩|⟨h1,h2⟩
       ·exact .inl ⟨m,by simp[h1],h2⟩
       ·exact .inr ⟨by simp[h1],h2⟩,F.fr⟩
      obtain⟨F2,L2⟩:=normPs_found cs ps _ hps F0
      have L3:na2.le nf:=⟨fun x hx=>L.nm x hx,fun x hx=>L.hp x (by simp[hx]),fun x hx=>L.fr x hx,fun x hx=>L.br x hx⟩
      obtain⟨vs,hw,hv⟩:=S.obj _ _ hn
      obtain⟨r1,r2⟩:=Sub.norms cs ps _ hps L3 F0 hv
      have h1:=QQ S.fi.k1 (L.nm (nm,some n) (L2.nm _ (by simp)))
      have h2:=QQ S.fi.k3 (L.hp (nm,.var t ps') (by simp))
      have hbk:(JM G nf (Qe h G nf)).bk nm=G.bk n:=by simp[JM,h1]
      refine⟨⟨by rw[hbk],t,ps',h2⟩,fun x hx => ?_⟩
      rcases List.mem_append.1 hx with hx|hx
      ·exact r2 x hx
      ·simp at hx
       subst hx
       exact .inr ⟨vs,by rw[hbk];exact hw,r1⟩
     ·cases he
    ·cases he
  ·cases he
 |.nps nm o0,p,na,p',na',v,he,L,F,hp=>by
  have key:∀ {n k t0 cs0},J2y n na.nm=some k->na.le nf->h n=some (.var t0 cs0)->(JM G nf (Qe h G nf)).bk k=G.bk n∧∃ t cs,mkH nf.hp k=some (.var t cs):=by
   intro n k t0 cs0 hk L hn0
   have h1:=QQ S.fi.k1 (L.nm _ (J8l hk))
   have hkk:k∈JH nf.hp:=S.fi.k4 k (UD (L.nm _ (J8l hk)))
   obtain⟨o,ho⟩:=J0u hkk
   have h2:=QQ S.fi.k3 ho
   refine⟨by simp[JM,h1],?_⟩
   rcases S.hhp k o h2 n h1 with⟨t,cs',cs2,rfl,_⟩|⟨e,K,xs,rfl,hr⟩|⟨ag,V,es,rfl,hr⟩
   ·exact⟨t,cs2,h2⟩
   ·rw[hn0]at hr;cases hr
   ·rw[hn0]at hr;cases hr
  simp only[Qs]at he
  split at he
  ·simp only[Option.some.injEq,Prod.mk.injEq]at he
   obtain⟨rfl,rfl⟩:=he
   exact⟨.inl hp,fun x hx => .inl hx⟩
  ·next n off =>
   split at he
   ·next k hk =>
    cases hb:Nat.beq off o0 with
    |false=>rw[hb]at he;cases he
    |true =>
     rw[hb,cond_true]at he
     have hb:=Qj.1 hb
     subst hb
     simp only[Option.some.injEq,Prod.mk.injEq]at he
     obtain⟨rfl,rfl⟩:=he
     refine⟨?_,fun x hx => .inl hx⟩
     rcases hp with hp|⟨rfl,t0,cs0,hn0⟩
     ·exact .inl hp
     ·obtain⟨e1,e2⟩:=key hk L hn0
      exact .inr ⟨by rw[e1],e2⟩
   ·cases he
  ·next n off =>
   obtain⟨rfl,t0,cs0,hn0⟩:=hp
   split at he
   ·next k hk =>
    cases hb:Nat.beq off o0 with
    |false=>rw[hb]at he;cases he
    |true =>
     rw[hb,cond_true]at he
     have hb:=Qj.1 hb
     subst hb
     simp only[Option.some.injEq,Prod.mk.injEq]at he
     obtain⟨rfl,rfl⟩:=he
     obtain⟨e1,e2⟩:=key hk L hn0
     exact⟨.inr ⟨by rw[e1],e2⟩,fun x hx => .inl hx⟩
   ·cases he
  ·cases he
 |.mpo nm ag V,p,na,p',na',v,he,L,F,hp=>by
  simp only[Qs]at he
  split at he
  ·next m =>
   split at he
   ·next ag' V' es hm =>
    cases hb:J3B m na.nm with
    |true=>rw[hb]at he;cases he
    |false =>
     rw[hb,cond_false]at he
     split at he
     ·next ys hc =>
      cases hb2:decide (ag'=ag)with
      |false=>rw[hb2]at he;cases he
      |true =>
       rw[hb2,cond_true]at he
       have hee:ag'=ag:=by simpa using hb2
       subst hee
       obtain⟨hK,hx⟩:=UR hc
       have hK:V'=V:=by injection hK with hK;injection hK
       subst hK
       subst hx
       simp only[Option.some.injEq,Prod.mk.injEq]at he
       obtain⟨rfl,rfl⟩:=he
       obtain⟨ag2,rfl,V2,es2,hn2⟩:=hp
       rw[hm]at hn2
       simp only[Option.some.injEq,HObj.mp.injEq]at hn2
       obtain⟨rfl,_,_⟩:=hn2
       have h1:=QQ S.fi.k1 (L.nm (nm,some m) (by simp))
       have h2:=QQ S.fi.k3 (L.hp (nm,.mp ag' V' ys) (by simp))
       have hbk:(JM G nf (Qe h G nf)).bk nm=G.bk m:=by simp[JM,h1]
       obtain⟨ob,hw,hE⟩:=S.obj _ _ hm
       refine⟨⟨ag',by rw[hbk],V',ys,h2⟩,fun x hx => ?_⟩
       rcases List.mem_append.1 hx with hx|hx
       ·exact .inl hx
       ·simp at hx
        subst hx
        exact .inr ⟨ob,by rw[hbk];exact hw,S.ob hE⟩
     ·cases he
   ·cases he
  ·cases he
 |.bor K,p,na,p',na',v,he,L,F,hp=>by
  have hx:∀ b,okX h G b->okX (mkH nf.hp) (JM G nf (Qe h G nf)) b:=fun b hb=>by
   rcases hb with hb|hb
   ·exact .inl (S.ok hb)
   ·exact .inr (.inl hb)
  simp only[Qs]at he
  split at he
  ·next K' xs =>
   split at he
   ·next ys hc =>
    obtain⟨hK,hx'⟩:=UR hc
    have hK:K'=K:=by injection hK
    subst hK
    subst hx'
    simp only[Option.some.injEq,Prod.mk.injEq]at he
    obtain⟨rfl,rfl⟩:=he
    obtain⟨A,cap,rfl,hcap,hr⟩:=hp
    refine⟨⟨A,cap,rfl,hcap,?_⟩,fun x hx => .inl hx⟩
    rcases hr with hr|⟨ad,hA,hr⟩
    ·exact .inl hr
    ·exact .inr ⟨ad,hA,hr.mono (fun b hb _=>⟨hx b hb,rfl⟩) fun _ _ h=>h.mono fun b hb _=>⟨S.ok hb,rfl⟩⟩
   ·cases he
  ·next K' xs =>
   split at he
   ·next ys hc =>
    obtain⟨hK,hx'⟩:=UR hc
    have hK:K'=K:=by injection hK
    subst hK
    subst hx'
    simp only[Option.some.injEq,Prod.mk.injEq]at he
    obtain⟨rfl,rfl⟩:=he
    obtain⟨A,cap,hv,hcap,hr⟩:=hp
    simp only[List.cons.injEq,and_true]at hv
    subst hv
    refine⟨⟨A,cap,rfl,hcap,?_⟩,fun x hx => .inl hx⟩
    rcases hr with hr|⟨ad,hA,hr⟩
    ·exact .inl hr
    ·exact .inr ⟨ad,hA,hr.mono (fun b hb _=>⟨hx b (.inl hb),rfl⟩) fun _ _ h=>h.mono fun b hb _=>⟨S.ok hb,rfl⟩⟩
   ·cases he
  ·simp only[Option.some.injEq,Prod.mk.injEq]at he
   obtain⟨rfl,rfl⟩:=he
   obtain rfl:v=_:=hp
   exact⟨⟨none,0,rfl,Nat.le_refl _,.inl rfl⟩,fun x hx => .inl hx⟩
  ·next m =>
   split at he
   ·next e' K' xs hm =>
    split at he
    ·next ys hc =>
     obtain⟨hK,hx'⟩:=UR hc
     have hK:K'=K:=by injection hK
     subst hK
     subst hx'
     simp only[Option.some.injEq,Prod.mk.injEq]at he
     obtain⟨rfl,rfl⟩:=he
     obtain⟨rfl,_⟩:=hp
     obtain⟨A,cap,hrv,hcap,hrr⟩:=J1C (S.obj _ _ hm)
     refine⟨⟨A,cap,hrv,hcap,?_⟩,fun x hx => .inl hx⟩
     rcases hrr with hrr|⟨ad,g,cs,fz,hA,had,hg,hgh,hrr⟩
     ·exact .inl hrr
     ·have hgb:Jd h G m=some g:=by simp[Jd,hm,hg]
      refine .inr ⟨ad,hA,?_,?_,fun i y hy => ?_⟩
      ·subst had
       by_cases hmf:m∈nf.fr
       ·exact .inl (S.okfr hmf hgb)
       ·exact .inr (.inr ⟨m,S.fi.k7 m (L.br m (by simp)),hmf,hgb⟩)
      ·subst had;exact(Array.getElem?_eq_some_iff.1 hgh).1
      ·obtain⟨c,hc,hu⟩:=hrr i y hy
       exact⟨c,hc.mono fun b hb _=>⟨S.ok hb,rfl⟩,hu⟩
    ·cases he
   ·cases he
  ·cases he
 |.lend K,p,na,p',na',v,he,L,F,hp=>by
  have hx:∀ b,okX h G b->okX (mkH nf.hp) (JM G nf (Qe h G nf)) b:=fun b hb=>by
   rcases hb with hb|hb
   ·exact .inl (S.ok hb)
   ·exact .inr (.inl hb)
  simp only[Qs]at he
  split at he
  ·next K' x off =>
   split at he
   ·next y hc =>
    cases hb:Nat.beq off 0 with
    |false=>rw[hb]at he;cases he
    |true =>
     have ho:=Nat.eq_of_beq_eq_true hb
     subst ho
     obtain⟨hK,hx'⟩:=UR hc
     subst hK
     subst hx'
     simp only[hb,cond_true,Option.some.injEq,Prod.mk.injEq]at he
     obtain⟨rfl,rfl⟩:=he
     obtain⟨ad,rfl,hr⟩:=hp
     exact⟨⟨ad,rfl,hr.mono (fun b hb _=>⟨hx b hb,rfl⟩) fun _ _ h=>h.mono fun b hb _=>⟨S.ok hb,rfl⟩⟩,fun x hx => .inl hx⟩
   ·cases he
  ·next n off =>
   split at he
   ·next t cs hn =>
    split at he
    ·next x hd =>
     simp only[Option.some.injEq,Prod.mk.injEq]at he
     obtain⟨rfl,rfl⟩:=he
     obtain⟨rfl,_⟩:=hp
     obtain⟨vs,hw,hr⟩:=S.obj _ _ hn
     have hb:Jd h G n=some (G.bk n):=by simp[Jd,hn]
     have hrd:=Jf2 S.obj S.dis (l:=[]) (fun m hm=>by cases hm) hd (fun m hm=>hm) ((hr.drop off).take K.sz)
     rw[Juv]at hrd
     refine⟨⟨⟨G.bk n,off,none⟩,by rw[Addr.add_zero'],?_,(Array.getElem?_eq_some_iff.1 hw).1,fun i y hy => ?_⟩,fun x hx => .inl hx⟩
     ·by_cases hmf:n∈nf.fr
      ·obtain⟨e,K,xs,hr2⟩:=S.fo.fr n hmf
       rw[hn]at hr2;cases hr2
      ·exact .inr (.inr ⟨n,S.fi.k7 n (L.br n (by simp)),hmf,hb⟩)
     ·cases i with
      |succ i=>simp at hy
      |zero =>
       simp at hy
       subst hy
       refine⟨_,hrd.mono fun b hb _=>⟨S.ok hb,rfl⟩,fun j u hj => ?_⟩
       rw[Addr.add_lit]
       simp only[World.cell?,hw]
       have h3:(vs.drop off)[j]? = some u:=by
        rw[List.getElem?_take]at hj
        split at hj
        ·exact hj
        ·cases hj
       rw[List.getElem?_drop]at h3
       simpa [Nat.add_assoc]using h3
    ·cases he
   ·cases he
  ·cases he
 |.ag cs,p,na,p',na',v,he,L,F,hp=>by
  simp only[Qs]at he
  split at he
  ·next ps =>
   split at he
   ·next ps' na2 hps =>
    simp only[Option.some.injEq,Prod.mk.injEq]at he
    obtain⟨rfl,rfl⟩:=he
    obtain⟨vs,rfl,hr⟩:=hp
    obtain⟨r1,r2⟩:=Sub.norms cs ps _ hps L F hr
    exact⟨⟨vs,rfl,r1⟩,r2⟩
   ·cases he
  ·cases he
 |.clo cs,p,na,p',na',v,he,L,F,hp=>by
  simp only[Qs]at he
  split at he
  ·next f ps =>
   split at he
   ·next ps' na2 hps =>
    simp only[Option.some.injEq,Prod.mk.injEq]at he
    obtain⟨rfl,rfl⟩:=he
    obtain⟨vs,rfl,hr⟩:=hp
    obtain⟨r1,r2⟩:=Sub.norms cs ps _ hps L F hr
    exact⟨⟨vs,rfl,r1⟩,r2⟩
   ·cases he
  ·cases he
theorem Sub.norms:∀(ss:List LS) (ps:List PV) (na:NA) {ps':List PV} {na':NA} {vs:List Value},normPs h na ss ps=some (ps',na')->na'.le nf->Found h na->RVs h G w ps vs ->
 RVs (mkH nf.hp) (JM G nf (Qe h G nf)) w ps' vs∧∀ x∈na'.hp,x∈na.hp∨RO (mkH nf.hp) (JM G nf (Qe h G nf)) w x.1 x.2
 |[],[],na,ps',na',vs,he,L,F,hp=>by
  simp only[normPs,Option.some.injEq,Prod.mk.injEq]at he
  obtain⟨rfl,rfl⟩:=he
  exact⟨hp,fun x hx => .inl hx⟩
 |s::ss,p::ps,na,ps',na',vs,he,L,F,hp=>by
  simp only[normPs]at he
  split at he
  ·next q na1 h1 =>
   split at he
   ·next qs na2 h2 =>
    simp only[Option.some.injEq,Prod.mk.injEq]at he
    obtain⟨rfl,rfl⟩:=he
    obtain⟨v,l,rfl,hv,hl⟩:=hp
    obtain⟨F1,L1⟩:=J7Z s p na h1 F
    obtain⟨F2,L2⟩:=normPs_found ss ps na1 h2 F1
    obtain⟨a1,a2⟩:=Sub.norm s p na h1 (L2.trans L) F hv
    obtain⟨b1,b2⟩:=Sub.norms ss ps na1 h2 L F1 hl
    refine⟨⟨v,l,rfl,a1,b1⟩,fun x hx => ?_⟩
    rcases b2 x hx with hx|hx
    ·exact a2 x hx
    ·exact .inr hx
   ·cases he
  ·cases he
 |[],p::ps,na,ps',na',vs,he,L,F,hp=>by simp[normPs]at he
 |s::ss,[],na,ps',na',vs,he,L,F,hp=>by simp[normPs]at he
end
end
end
section
open Go
variable {P:Program} {h:Je} {G:Gh} {w:World}
structure Fin (hp hs:List (Nm×HObj)) (G:Gh) (w:World) (G':Gh) (w':World):Prop where
 obj:∀ n o,mkH hs n=some o->RO (mkH hs) G' w' n o
 inj:∀ n m b,Jd (mkH hs) G' n=some b->Jd (mkH hs) G' m=some b->n=m
 keep:∀ n t cs,Jx hp n=some (.var t cs)->∀ o,Jx hs n=some o->(∃ cs',o = .var t cs')∧G'.bk n=G.bk n
 keepM:∀ n ag V es,Jx hp n=some (.mp ag V es)->∀ o,Jx hs n=some o->(∃ es',o = .mp ag V es')∧G'.bk n=G.bk n
 blk:∀ b,b<w.heap.size->J3C (mkH hp) G b->w'.heap[b]? = w.heap[b]?
 X:G'.X=G.X
 new:∀ n b,Jd (mkH hs) G' n=some b->(∃ m,Jd (mkH hp) G m=some b)∨w.heap.size≤b
 grow:w.heap.size≤w'.heap.size
 os:w'.os=w.os
 tape:w'.tape=w.tape
 out:w'.output=w.output
def Out.hs:Out->List (Nm×HObj)
 |.ret _ hs=>hs
 |.pan _ hs=>hs
def J2A(G':Gh)(w':World)(e:Ending): Out->Prop
 |.ret ps hs=>∃ v,e = .returned v∧RV (mkH hs) G' w' (J5O ps) v
 |.pan p hs=>∃ v,e = .panicked [{ v,recovered:=false }]∧RV (mkH hs) G' w' p v
theorem RD.plain{w':World}{ok ok':Nat->Prop}: ∀ {K:Kd} {x:K.T} {cs:List Value},K.hasSl=false->RD w ok K x cs->RD w' ok' K x cs
 |.int _,_,_,_,h=>h
 |.bool,_,_,_,h=>h
 |.str,_,_,_,h=>h
 |.flt,_,_,_,h=>h
 |.nil,_,_,_,h=>h
 |.sl _,_,_,hk,_=>by simp[Kd.hasSl]at hk
 |.pr a b,x,cs,hk,⟨c1,c2,e,h1,h2⟩=>by
  simp only[Kd.hasSl,Bool.or_eq_false_iff]at hk
  exact⟨c1,c2,e,RD.plain hk.1 h1,RD.plain hk.2 h2⟩
theorem RDs.plain{w':World}{ok ok':Nat->Prop}{K:Kd}(hk:K.hasSl=false): ∀ {xs:List K.T} {cs:List Value},RDs w ok K xs cs->RDs w' ok' K xs cs
 |[],_,h=>h
 |_::_,_,⟨c1,c2,e,h1,h2⟩=>⟨c1,c2,e,h1.plain hk,h2.plain hk⟩
structure Ren (h1:Je) (G1:Gh) (h2:Je) (G2:Gh) (σ : Nm->Nm):Prop where
 mp:∀ n ag V es,h1 n=some (.mp ag V es)->h2 (σ n)=some (.mp ag V es)∧G2.bk (σ n)=G1.bk n
 var:∀ n t cs,h1 n=some (.var t cs)->(∃ cs',h2 (σ n)=some (.var t cs'))∧G2.bk (σ n)=G1.bk n
 row:∀ n e K xs,h1 n=some (.row e K xs)->h2 (σ n)=some (.row e K xs)∧G2.rv (σ n)=G1.rv n
mutual
theorem RV.ren{h1 h2:Je}{G1 G2:Gh}{σ : Nm->Nm}(R:Ren h1 G1 h2 G2 σ): ∀(p:PV) {v:Value},(p.hasSl=true->∀ b,okB h1 G1 b->okB h2 G2 b)->RV h1 G1 w p v->RV h2 G2 w (p.ren σ) v
 |.v K x,v,hb,hp=>by
  cases hk:K.hasSl with
  |true=>exact RD.mono (fun b ho _=>⟨hb (by simpa [PV.hasSl]using hk) b ho,rfl⟩) hp
  |false=>exact RD.plain hk hp
 |.kb b,v,_,hp=>hp
 |.ng b,v,_,hp=>hp
 |.nilsl,v,_,hp=>hp
 |.nilptr,v,_,hp=>hp
 |.nilif,v,_,hp=>hp
 |.nps n off,v,_,hp=>by
  rcases hp with hp|⟨rfl,t,cs,hn⟩
  ·exact .inl hp
  ·obtain⟨⟨cs',h1⟩,h2⟩:=R.var n t cs hn
   exact .inr ⟨by rw[h2],t,cs',h1⟩
 |.ptr n off,v,_,hp=>by
  obtain⟨rfl,t,cs,hn⟩:=hp
  obtain⟨⟨cs',h1⟩,h2⟩:=R.var n t cs hn
  exact⟨by rw[h2],t,cs',h1⟩
 |.row n,v,_,hp=>by
  obtain⟨rfl,e,K,xs,hn⟩:=hp
  obtain⟨h1,h2⟩:=R.row n e K xs hn
  exact⟨by rw[h2],e,K,xs,h1⟩
 |.elp K xs i off,v,hb,hp=>by
  obtain⟨ad,rfl,hi,hr⟩:=hp
  have hb:=hb rfl
  exact⟨ad,rfl,hi,hr.mono (fun b ho _=>⟨hb b ho,rfl⟩) fun _ _=>RD.mono fun b ho _=>⟨hb b ho,rfl⟩⟩
 |.elr n i off,v,_,hp=>by
  obtain⟨e,K,xs,g,hn,hi,hg,rfl⟩:=hp
  obtain⟨h1,h2⟩:=R.row n e K xs hn
  exact⟨e,K,xs,g,h1,hi,by rw[h2];exact hg,rfl⟩
 |.agg cs,v,hb,hp=>by
  obtain⟨vs,rfl,hr⟩:=hp
  exact⟨vs,rfl,RVs.ren R cs hb hr⟩
 |.ifc t p,v,hb,hp=>by
  obtain⟨u,rfl,hr⟩:=hp
  exact⟨u,rfl,RV.ren R p hb hr⟩
 |.tup ps,v,hb,hp=>by
  obtain⟨vs,rfl,hr⟩:=hp
  exact⟨vs,rfl,RVs.ren R ps hb hr⟩
 |.clo g cap,v,hb,hp=>by
  obtain⟨vs,rfl,hr⟩:=hp
  exact⟨vs,rfl,RVs.ren R cap hb hr⟩
 |.opt g c p,v,_,hp=>by simp[RV]at hp
 |.mpp n,v,_,hp=>by
  obtain⟨ag,rfl,V,es,hn⟩:=hp
  obtain⟨h1,h2⟩:=R.mp n ag V es hn
  exact⟨ag,by rw[h2],V,es,h1⟩
 |.nxt s p,v,_,hp=>hp
 |.bv _ _,v,_,_=>trivial
 |.elq _ _ _ _,v,_,_=>trivial
 |.lp _ _ _,v,_,_=>trivial
 |.un,v,_,hp=>trivial
theorem RVs.ren{h1 h2:Je}{G1 G2:Gh}{σ : Nm->Nm}(R:Ren h1 G1 h2 G2 σ): ∀(ps:List PV) {vs:List Value},(hasSls ps=true->∀ b,okB h1 G1 b->okB h2 G2 b)->RVs h1 G1 w ps vs->RVs h2 G2 w (rens σ ps) vs
 |[],vs,_,hp=>hp
 |p::r,vs,hb,hp=>by
  obtain⟨v,l,rfl,hv,hl⟩:=hp
  exact⟨v,l,rfl,RV.ren R p (fun hs=>hb (by simp[hasSls,hs])) hv,RVs.ren R r (fun hs=>hb (by simp[hasSls,hs])) hl⟩
end
theorem Jro(f:Nm->Nm): ∀ a b:List PV,rens f (a++b)=rens f a++rens f b
 |[],b=>rfl
 |p::a,b=>by rw[List.cons_append,rens,rens,Jro f a b];rfl
theorem Jl5(f:Nm->Nm): ∀(V:Kd) (x:V.T),rens f (V.cells x)=V.cells x
 |.pr a b,x=>by rw[Kd.cells,Jro,Jl5 f a,Jl5 f b]
 |.nil,_=>rfl
 |.int _,_=>rfl
 |.bool,_=>rfl
 |.str,_=>rfl
 |.flt,_=>rfl
 |.sl _,_=>rfl
theorem JGx(f:Nm->Nm)(ag:Bool)(V:Kd)(x:V.T): (UH ag V x).ren f=UH ag V x:=by
 unfold UH
 have h:=Jl5 f V x
 cases ag with
 |true=>simp only[cond_true];rw[PV.ren,h]
 |false =>
  simp only[cond_false]
  revert h
  cases V.cells x with
  |nil=>intro _;rfl
  |cons p r =>
   cases r with
   |nil =>
    intro h
    simp only[rens,List.cons.injEq,and_true]at h
    exact h
   |cons q r=>intro _;rfl
theorem JpQ:∀ a b:List PV,hasSls (a++b)=(hasSls a || hasSls b)
 |[],b=>by simp[hasSls]
 |p::a,b=>by rw[List.cons_append,hasSls,hasSls,JpQ a b,Bool.or_assoc]
theorem Jk0:∀(V:Kd) (x:V.T),hasSls (V.cells x)=V.hasSl
 |.pr a b,x=>by rw[Kd.cells,JpQ,Jk0 a,Jk0 b];rfl
 |.nil,_=>rfl
 |.int _,_=>rfl
 |.bool,_=>rfl
 |.str,_=>rfl
 |.flt,_=>rfl
 |.sl _,_=>rfl
theorem JEy{ag:Bool}{V:Kd}{x:V.T}(hs:(UH ag V x).hasSl=true): V.hasSl=true:=by
 have h:=Jk0 V x
 unfold UH at hs
 cases ag with
 |true=>simp only[cond_true]at hs;rw[PV.hasSl,h]at hs;exact hs
 |false =>
  simp only[cond_false]at hs
  revert h hs
  cases V.cells x with
  |nil=>intro _ hs;exact Bool.noConfusion hs
  |cons p r =>
   cases r with
   |nil=>intro h hs;rw[←h,hasSls];simp only at hs;simp[hs]
   |cons q r=>intro _ hs;exact Bool.noConfusion hs
theorem EntsOk.ren{h1 h2:Je}{G1 G2:Gh}{σ : Nm->Nm}(R:Ren h1 G1 h2 G2 σ){ag:Bool}{V:Kd}(hb:V.hasSl=true->∀ b,okB h1 G1 b->okB h2 G2 b): ∀ {ents:List MapEntry} {es:List (List UInt8×V.T)},EntsOk h1 G1 w ag V ents es->EntsOk h2 G2 w ag V ents es
 |[],[],_=>trivial
 |[],_::_,hE=>hE.elim
 |_::_,[],hE=>hE.elim
 |e::r,(k,x)::s,⟨e1,e2,e3⟩=>⟨e1,by have:=RV.ren R _ (fun hs=>hb (JEy hs)) e2;rwa [JGx]at this,EntsOk.ren R hb e3⟩
theorem ObOk.ren{h1 h2:Je}{G1 G2:Gh}{σ : Nm->Nm}(R:Ren h1 G1 h2 G2 σ){ag:MK}{V:Kd}(hb:V.hasSl=true->∀ b,okB h1 G1 b->okB h2 G2 b){es:List (List UInt8×V.T)}{o:Obj}: ObOk h1 G1 w ag V es o->ObOk h2 G2 w ag V es o
 |.inl ⟨h1,ents,clock,h2,h3⟩ => .inl ⟨h1,ents,clock,h2,h3.ren R hb⟩
 |.inr hh => .inr hh
theorem Sub.blk{nf:NA}(S:Sub h G w nf){X:Nat->Prop}: ∀ k b,Jd (mkH nf.hp) (JM G nf X) k=some b->∃ m,Jx nf.nm k=some (some m)∧Jd h G m=some b:=by
 intro k b hb
 cases ho:Jx nf.hp k with
 |none=>simp[Jd,mkH,ho]at hb
 |some o =>
  have hk:k∈JH nf.nm:=S.fi.k5 k (UD (Qd ho))
  obtain⟨x,hx⟩:=J0u hk
  have hl:=QQ S.fi.k1 hx
  cases x with
  |none =>
   obtain⟨e,K,rfl⟩:=S.hnil k o ho hl
   simp[Jd,mkH,ho,JM,hl,Value.ownBlock]at hb
  |some m =>
   refine⟨m,hl,?_⟩
   rcases S.hhp k o ho m hl with⟨t,cs,cs',rfl,hm⟩|⟨e,K,xs,rfl,hm⟩|⟨ag,V,es,rfl,hm⟩
   ·simp[Jd,mkH,ho,JM,hl]at hb;simp[Jd,hm,hb]
   ·simp[Jd,mkH,ho,JM,hl]at hb;simp[Jd,hm,hb]
   ·simp[Jd,mkH,ho,JM,hl]at hb;simp[Jd,hm,hb]
theorem Sub.okX{nf:NA}(S:Sub h G w nf): ∀ b,(JM G nf (Qe h G nf)).X b->b<w.heap.size->okX (mkH nf.hp) { JM G nf (Qe h G nf)with X:=G.X } b∧w.heap[b]? = w.heap[b]? := fun b hx _=>by
 refine⟨?_,rfl⟩
 rcases hx with hx|⟨n,h1,_,h3⟩
 ·exact .inr hx
 ·refine .inl ⟨fun k hk => ?_,S.dis.xo n b h3⟩
  obtain⟨m,a1,a2⟩:=S.blk (X:=Qe h G nf) k b hk
  have:=S.dis.inj m n b a2 h3
  subst this
  exact h1 (J1B (Qd a1))
theorem Sub.toDis{nf:NA}(S:Sub h G w nf): Dis (mkH nf.hp) (JM G nf (Qe h G nf)) w:=by
 refine⟨fun n m b h1 h2 => ?_,fun n b h1 hx => ?_,fun b hx => ?_⟩
 ·obtain⟨m1,a1,a2⟩:=S.blk n b h1
  obtain⟨m2,b1,b2⟩:=S.blk m b h2
  have:=S.dis.inj m1 m2 b a2 b2
  subst this
  exact Jfc S.fi.k2 (Qd a1) (Qd b1)
 ·obtain⟨m1,a1,a2⟩:=S.blk n b h1
  rcases hx with hx|⟨k,k1,k2,k3⟩
  ·exact S.dis.xo m1 b a2 hx
  ·have:=S.dis.inj m1 k b a2 k3
   subst this
   exact k1 (J1B (Qd a1))
 ·rcases hx with hx|⟨k,_,_,k3⟩
  ·exact S.dis.xlt b hx
  ·cases hk:h k with
   |none=>simp[Jd,hk]at k3
   |some o=>exact RO.lt hk (S.obj k o hk) k3
theorem Sub.old{nf:NA}(S:Sub h G w nf){m:Nm}(hm:m∈Uf nf.nm): ∃ k o,Jx nf.nm k=some (some m)∧Jx nf.hp k=some o∧((∃ t cs cs',o = .var t cs'∧h m=some (.var t cs))∨(∃ e K xs,o = .row e K xs∧h m=some (.row e K xs))∨(∃ ag V es,o = .mp ag V es∧h m=some (.mp ag V es))):=by
 obtain⟨k,hk⟩:=JlB hm
 have h1:=QQ S.fi.k1 hk
 obtain⟨o,ho⟩:=J0u (S.fi.k4 k (UD hk))
 have h2:=QQ S.fi.k3 ho
 exact⟨k,o,h1,h2,S.hhp k o h2 m h1⟩
theorem J5g{hp:List (Nm×HObj)}: ∀ {nm:List (Nm×Option Nm)} {m:Nm},m∈J15 hp nm↔∃ k e K xs,(k,some m)∈nm∧Jx hp k=some (.row e K xs)
 |[],m=>by simp[J15]
 |(k,some a)::r,m=>by
  rw[J15]
  split
  ·next e K xs hk =>
   rw[List.mem_cons,J5g]
   constructor
   ·rintro(rfl|⟨k',e',K',xs',h1,h2⟩)
    ·exact⟨k,e,K,xs,by simp,hk⟩
    ·exact⟨k',e',K',xs',by simp[h1],h2⟩
   ·rintro⟨k',e',K',xs',h1,h2⟩
    rcases List.mem_cons.1 h1 with h1|h1
    ·cases h1;exact .inl rfl
    ·exact .inr ⟨k',e',K',xs',h1,h2⟩
  ·next hk =>
   rw[J5g]
   constructor
   ·rintro⟨k',e',K',xs',h1,h2⟩;exact⟨k',e',K',xs',by simp[h1],h2⟩
   ·rintro⟨k',e',K',xs',h1,h2⟩
    rcases List.mem_cons.1 h1 with h1|h1
    ·cases h1;exact absurd h2 (hk e' K' xs')
    ·exact⟨k',e',K',xs',h1,h2⟩
 |(k,none)::r,m=>by
  rw[J15,J5g]
  constructor
  ·rintro⟨k',e',K',xs',h1,h2⟩;exact⟨k',e',K',xs',by simp[h1],h2⟩
  ·rintro⟨k',e',K',xs',h1,h2⟩
   rcases List.mem_cons.1 h1 with h1|h1
   ·cases h1
   ·exact⟨k',e',K',xs',h1,h2⟩
theorem JiY{hp hs:List (Nm×HObj)}: ∀ {nm:List (Nm×Option Nm)},J3q hp hs nm=true->∀ k m t cs,(k,some m)∈nm->Jx hp k=some (.var t cs)->∃ o,Jx hs k=some o
 |(a,some b)::r,he,k,m,t,cs,hm,hk=>by
  simp only[J3q,Bool.and_eq_true]at he
  rcases List.mem_cons.1 hm with e|hm
  ·cases e
   rw[hk]at he
   cases hh:Jx hs a with
   |none=>rw[hh]at he;cases he.1
   |some o=>exact⟨o,rfl⟩
  ·exact JiY he.2 k m t cs hm hk
 |(a,none)::r,he,k,m,t,cs,hm,hk=>by
  rcases List.mem_cons.1 hm with e|hm
  ·cases e
  ·exact JiY (nm:=r) he k m t cs hm hk
 |[],_,k,m,t,cs,hm,_=>by cases hm
theorem Jiy{hp hs:List (Nm×HObj)}: ∀ {nm:List (Nm×Option Nm)},J3q hp hs nm=true->∀ k m ag V es,(k,some m)∈nm->Jx hp k=some (.mp ag V es)->∃ o,Jx hs k=some o
 |(a,some b)::r,he,k,m,ag,V,es,hm,hk=>by
  simp only[J3q,Bool.and_eq_true]at he
  rcases List.mem_cons.1 hm with e|hm
  ·cases e
   rw[hk]at he
   cases hh:Jx hs a with
   |none=>rw[hh]at he;cases he.1
   |some o=>exact⟨o,rfl⟩
  ·exact Jiy he.2 k m ag V es hm hk
 |(a,none)::r,he,k,m,ag,V,es,hm,hk=>by
  rcases List.mem_cons.1 hm with e|hm
  ·cases e
  ·exact Jiy (nm:=r) he k m ag V es hm hk
 |[],_,k,m,ag,V,es,hm,_=>by cases hm
theorem Jt1(h:Je)(rs l:List Nm): ∃ f,(J2z h rs l=none∧f=PV.row∨J2z h rs l=some (PV.mapR f))∧∀ m,f m=Zi h rs l m:=by
 unfold J2z
 split
 ·exact⟨.row,.inl ⟨rfl,rfl⟩,fun m=>rfl⟩
 ·exact⟨Zi h rs l,.inr rfl,fun m=>rfl⟩
theorem JFs(rs l:List Nm)(n:Nm): JU (J2z h rs l) h n=(h n).map (J1J (PV.mapR (Zi h rs l))):=by
 obtain⟨f,hf,he⟩:=Jt1 h rs l
 have:f=Zi h rs l:=funext he
 subst this
 rcases hf with⟨h1,h2⟩|h1
 ·rw[h1,h2];cases hn:h n<;>simp[JU,hn,J1A]
 ·rw[h1,J8k]
theorem Juw(σ : Nm->Nm): ∀(hs:List (Nm×HObj)) (h:Je) (n:Nm),(JH hs).Nodup->(∀ k k',k∈JH hs->k'∈JH hs -> σ k = σ k'->k=k') ->
 JO h (J91 σ hs) n=match hs.find? (fun x=>Nat.beq (σ x.1) n)with|some x=>some (J0B σ x.2)|none=>h n
 |[],h,n,_,_=>rfl
 |(k,o)::r,h,n,hd,hi=>by
  simp only[JH,List.nodup_cons]at hd
  rw[J91,JO,Juw σ r _ n hd.2 (fun a b ha hb e=>hi a b (by simp[JH,ha]) (by simp[JH,hb]) e),List.find?_cons]
  by_cases hk : σ k=n
  ·have hb:Nat.beq (σ k) n=true:=Qj.2 hk
   simp only[hb]
   have:r.find? (fun x=>Nat.beq (σ x.1) n)=none:=by
    rw[List.find?_eq_none]
    intro x hx hxb
    have hxe : σ x.1=n:=by simpa using Qj.1 hxb
    have hxk:x.1∈JH r:=UD (x:=x.2) hx
    have:=hi k x.1 (by simp[JH]) (by simp[JH,hxk]) (hk.trans hxe.symm)
    rw[this]at hd
    exact hd.1 hxk
   rw[this]
   simp[JF,hk]
  ·have hb:Nat.beq (σ k) n=false:=by cases hb:Nat.beq (σ k) n with|false=>rfl|true=>exact absurd (Qj.1 hb) hk
   simp only[hb]
   cases hf:r.find? (fun x=>Nat.beq (σ x.1) n)with
   |some x=>rfl
   |none=>simp[JF,Ne.symm hk]
theorem Jrp{d:Nat}{nm:List (Nm×Option Nm)}: ∀ {hs:List (Nm×HObj)},JaV h d nm hs=true->∀ k∈JH hs,(∃ m,Jx nm k=some (some m))∨((∀ m,Jx nm k≠some (some m))∧h ((d+1)*100+1+k)=none∧k≤98)
 |[],_,k,hk=>by cases hk
 |(a,o)::r,he,k,hk=>by
  simp only[JaV,Bool.and_eq_true]at he
  simp only[JH,List.mem_cons]at hk
  rcases hk with rfl|hk
  ·have h1:=he.1
   rw[Jak]at h1
   cases hl:Jx nm k with
   |none =>
    rw[hl]at h1
    simp only[Bool.and_eq_true]at h1
    refine .inr ⟨fun m hm=>(by cases hm),?_,Nat.le_of_ble_eq_true h1.2⟩
    cases hh:h ((d+1)*100+1+k)with
    |none=>rfl
    |some o=>have h2:=h1.1;rw[hh]at h2;cases h2
   |some x =>
    cases x with
    |some m=>exact .inl ⟨m,rfl⟩
    |none =>
     rw[hl]at h1
     simp only[Bool.and_eq_true]at h1
     refine .inr ⟨fun m hm=>(by cases hm),?_,Nat.le_of_ble_eq_true h1.2⟩
     cases hh:h ((d+1)*100+1+k)with
     |none=>rfl
     |some o=>have h2:=h1.1;rw[hh]at h2;cases h2
  ·exact Jrp he.2 k hk
theorem Jm5{st st':St}{d:Nat}{na:NA}{hs:List (Nm×HObj)}{sl:Bool}(S:Sub st.h G w na)(hb:Jbh st d na hs sl=some st'){G1:Gh}{w':World}(F:Fin na.hp hs (JM G na (Qe st.h G na)) w G1 w')(hsl:sl=false->J5D hs=false):
 ∃ G2,Loud st.h G w st'.h (J2z st.h (J15 na.hp na.nm) (bif sl then na.fr else[])) G2 w'∧st'.t=J2F (J2z st.h (J15 na.hp na.nm) (bif sl then na.fr else[])) st.t ∧
  ∀ p v,(sl=false->p.hasSl=false)->RV (mkH hs) G1 w' p v->RV st'.h G2 w' (p.ren (J5N d na.nm)) v:=by
 unfold Jbh at hb
 cases hbb:(JaV st.h d na.nm hs&&J3q na.hp hs na.nm&&J3t (JH hs))with
 |false=>rw[hbb]at hb;cases hb
 |true =>
  rw[hbb,cond_true]at hb
  simp only[Bool.and_eq_true]at hbb
  obtain⟨⟨hnew,hvb⟩,hnt⟩:=hbb
  have hnd:=J9W hnt
  simp only[Option.some.injEq]at hb
  generalize hl:(bif sl then na.fr else[])=l at hb ⊢
  generalize hrs:J15 na.hp na.nm=rs at hb ⊢
  generalize hσ : J5N d na.nm = σ at hb ⊢
  have hlfr:∀ m∈l,m∈na.fr:=by intro m hm;subst hl;cases sl with|true=>exact hm|false=>cases hm
  have σold:∀ k m,Jx na.nm k=some (some m) -> σ k=m:=by intro k m hk;subst hσ;simp[J5N,Jak,hk]
  have σnew:∀ k,(∀ m,Jx na.nm k≠some (some m)) -> σ k=(d+1)*100+1+k:=by
   intro k hk
   subst hσ
   unfold J5N
   rw[Jak]
   split
   ·next m hm=>exact absurd hm (hk m)
   ·rfl
  have kinds:=Jrp hnew
  have oldsome:∀ k m,Jx na.nm k=some (some m)->∃ o,st.h m=some o:=by
   intro k m hk
   obtain⟨k',o,_,_,ho⟩:=S.old (J1B (Qd hk))
   rcases ho with⟨t,cs,cs',_,ho⟩|⟨e,K,xs,_,ho⟩|⟨ag,V,es,_,ho⟩
   ·exact⟨_,ho⟩
   ·exact⟨_,ho⟩
   ·exact⟨_,ho⟩
  have σinj:∀ k k',k∈JH hs->k'∈JH hs -> σ k = σ k'->k=k':=by
   intro k k' hk hk' e
   rcases kinds k hk with⟨m,hm⟩|⟨h1,h2,_⟩<;>rcases kinds k' hk' with⟨m',hm'⟩|⟨h1',h2',_⟩
   ·rw[σold k m hm,σold k' m' hm']at e
    subst e
    exact Jfc S.fi.k2 (Qd hm) (Qd hm')
   ·obtain⟨o,ho⟩:=oldsome k m hm
    rw[σold k m hm,σnew k' h1']at e
    rw[e,h2']at ho;cases ho
   ·obtain⟨o,ho⟩:=oldsome k' m' hm'
    rw[σold k' m' hm',σnew k h1]at e
    rw[←e,h2]at ho;cases ho
   ·rw[σnew k h1,σnew k' h1']at e;exact Nat.add_left_cancel e
  let M:=J2z st.h rs l
  let h':Je:=JO (JO (JU M st.h) (Ze (rs++l))) (J91 σ hs)
  have hst:st'=⟨J2F M st.t,h'⟩:=hb.symm
  let G2:Gh:=⟨fun n=>match hs.find? (fun x=>Nat.beq (σ x.1) n)with|some x=>G1.bk x.1|none=>G.bk n,fun n=>match hs.find? (fun x=>Nat.beq (σ x.1) n)with|some x=>G1.rv x.1|none=>G.rv n,G.X⟩
  have find_at:∀ k o,Jx hs k=some o->hs.find? (fun x=>Nat.beq (σ x.1) (σ k))=some (k,o):=by
   intro k o hk
   have hm:=Qd hk
   cases hf:hs.find? (fun x=>Nat.beq (σ x.1) (σ k))with
   |none =>
    rw[List.find?_eq_none]at hf
    exact absurd (by simp) (hf (k,o) hm)
   |some x =>
    have h1:=List.find?_some hf
    have h2:=List.mem_of_find?_eq_some hf
    have e : σ x.1 = σ k:=by simpa using Qj.1 h1
    have hxk:x.1∈JH hs:=UD (x:=x.2) h2
    have := σinj x.1 k hxk (UD hm) e
    have h3:=QQ hnd (show(x.1,x.2)∈hs from h2)
    rw[this,hk]at h3
    cases h3
    rw[←this]
  have find_none:∀ n,hs.find? (fun x=>Nat.beq (σ x.1) n)=none->∀ k∈JH hs,σ k≠n:=by
   intro n hf k hk e
   obtain⟨o,ho⟩:=J0u hk
   rw[List.find?_eq_none]at hf
   exact hf (k,o) ho (by simpa using e)
  have find_some:∀ n x,hs.find? (fun x=>Nat.beq (σ x.1) n)=some x -> σ x.1=n∧Jx hs x.1=some x.2:=by
   intro n x hf
   have h1:=List.find?_some hf
   have h2:=List.mem_of_find?_eq_some hf
   exact⟨by simpa using Qj.1 h1,QQ hnd (show(x.1,x.2)∈hs from h2)⟩
  have h'at:∀ n,h' n=match hs.find? (fun x=>Nat.beq (σ x.1) n)with|some x=>some (J0B σ x.2)|none=>if n∈rs++l then none else(st.h n).map (J1J (PV.mapR (Zi st.h rs l))):=by
   intro n
   show JO (JO (JU M st.h) (Ze (rs++l))) (J91 σ hs) n=_
   rw[Juw σ hs _ n hnd σinj]
   cases hs.find? (fun x=>Nat.beq (σ x.1) n)with
   |some x=>rfl
   |none=>simp only[Jjq,M,JFs]
  have blkNew:∀ k,k∈JH hs->Jd h' G2 (σ k)=Jd (mkH hs) G1 k:=by
   intro k hk
   obtain⟨o,ho⟩:=J0u hk
   have ho:=QQ hnd ho
   have e1:h' (σ k)=some (J0B σ o):=by rw[h'at,find_at k o ho]
   simp only[Jd,e1,mkH,ho]
   cases o with
   |var t cs=>simp[J0B,G2,find_at k _ ho]
   |row e K xs=>simp[J0B,G2,find_at k _ ho]
   |mp ag V es=>simp[J0B,G2,find_at k _ ho]
  have blkOld:∀ n,hs.find? (fun x=>Nat.beq (σ x.1) n)=none->Jd h' G2 n=if n∈rs++l then none else Jd st.h G n:=by
   intro n hf
   simp only[Jd,h'at,hf]
   by_cases hm:n∈rs++l
   ·simp[hm]
   ·simp only[if_neg hm]
    cases hn:st.h n with
    |none=>rfl
    |some o=>cases o<;>simp[J1J,G2,hf]
  have blkCase:∀ n b,Jd h' G2 n=some b->(∃ k,k∈JH hs ∧ σ k=n∧Jd (mkH hs) G1 k=some b)∨((∀ k∈JH hs,σ k≠n)∧n ∉ rs++l∧Jd st.h G n=some b):=by
   intro n b hn
   cases hf:hs.find? (fun x=>Nat.beq (σ x.1) n)with
   |some x =>
    obtain⟨e,hx⟩:=find_some n x hf
    have hk:=UD (Qd hx)
    rw[←e,blkNew x.1 hk]at hn
    exact .inl ⟨x.1,hk,e,hn⟩
   |none =>
    rw[blkOld n hf]at hn
    split at hn
    ·cases hn
    ·next hm=>exact .inr ⟨find_none n hf,hm,hn⟩
  have notOld:∀ n,(∀ k∈JH hs,σ k≠n)->n ∉ rs->n ∉ Uf na.nm:=by
   intro n hk hn hm
   obtain⟨k,o,h1,h2,ho⟩:=S.old hm
   rcases ho with⟨t,cs,cs',rfl,ho⟩|⟨e,K,xs,rfl,ho⟩|⟨ag,V,es,rfl,ho⟩
   ·obtain⟨o',ho'⟩:=JiY hvb k n t cs' (Qd h1) h2
    exact hk k (UD (Qd ho')) (σold k n h1)
   ·exact hn (by rw[←hrs];exact J5g.2 ⟨k,e,K,xs,Qd h1,h2⟩)
   ·obtain⟨o',ho'⟩:=Jiy hvb k n ag V es (Qd h1) h2
    exact hk k (UD (Qd ho')) (σold k n h1)
  have gcNew:∀ k b,Jd (mkH hs) G1 k=some b->(∃ m∈Uf na.nm,Jd st.h G m=some b)∨w.heap.size≤b:=by
   intro k b hk
   rcases F.new k b hk with⟨m,hm⟩|hlt
   ·obtain⟨m',h1,h2⟩:=S.blk m b hm
    exact .inl ⟨m',J1B (Qd h1),h2⟩
   ·exact .inr hlt
  have olt:∀ n b,Jd st.h G n=some b->b<w.heap.size:=by
   intro n b hn
   cases ho:st.h n with
   |none=>simp[Jd,ho]at hn
   |some o=>exact RO.lt ho (S.obj n o ho) hn
  have keepB:∀ b,b<w.heap.size->(∀ m∈Uf na.nm,Jd st.h G m≠some b)->w'.heap[b]? = w.heap[b]? := by
   intro b hb hm
   refine F.blk b hb fun k hk => ?_
   obtain⟨m,h1,h2⟩:=S.blk k b hk
   exact hm m (J1B (Qd h1)) h2
  have okOld:∀ b,okB st.h G b->b<w.heap.size->okB h' G2 b∧w'.heap[b]? = w.heap[b]? := by
   intro b ho hlt
   refine⟨⟨fun n hn => ?_,ho.2⟩,keepB b hlt fun m _ hm=>ho.1 m hm⟩
   rcases blkCase n b hn with⟨k,_,_,hk⟩|⟨_,_,hk⟩
   ·rcases gcNew k b hk with⟨m,_,hm⟩|hlt'
    ·exact ho.1 m hm
    ·omega
   ·exact ho.1 n hk
  have okNew:sl=true->∀ b,okB (mkH hs) G1 b->okB h' G2 b:=by
   intro hslt b ho
   have hxb:¬ Qe st.h G na b:=by have:=ho.2;rw[F.X]at this;exact this
   refine⟨fun n hn => ?_,fun hx=>hxb (.inl hx)⟩
   rcases blkCase n b hn with⟨k,_,_,hk⟩|⟨h1,h2,hk⟩
   ·exact ho.1 k hk
   ·refine hxb (.inr ⟨n,notOld n h1 (fun hm=>h2 (by simp[hm])),fun hm=>h2 ?_,hk⟩)
    subst hl
    simp[hslt,hm]
  have R:Ren (mkH hs) G1 h' G2 σ := by
   refine⟨fun n ag V es hn => ?_,fun n t cs hn => ?_,fun n e K xs hn => ?_⟩
   ·have e1:h' (σ n)=some (J0B σ (.mp ag V es)):=by rw[h'at,find_at n _ hn]
    exact⟨e1,by simp[G2,find_at n _ hn]⟩
   ·have e1:h' (σ n)=some (J0B σ (.var t cs)):=by rw[h'at,find_at n _ hn]
    exact⟨⟨_,e1⟩,by simp[G2,find_at n _ hn]⟩
   ·have e1:h' (σ n)=some (J0B σ (.row e K xs)):=by rw[h'at,find_at n _ hn]
    exact⟨e1,by simp[G2,find_at n _ hn]⟩
  have rowD:∀ m e K xs,m∈l->st.h m=some (.row e K xs)->RV h' G2 w' (.v (.sl K) xs) (G.rv m):=by
   intro m e K xs hm hr
   obtain⟨A,cap,hrv,hcap,hrr⟩:=J1C (S.obj _ _ hr)
   refine⟨A,cap,by rw[hrv],hcap,?_⟩
   rcases hrr with hrr|⟨ad,g,cs,fz,hA,had,hg,hgh,hrr⟩
   ·exact .inl hrr
   ·have hgb:Jd st.h G m=some g:=by simp[Jd,hr,hg]
    have hlt:=(Array.getElem?_eq_some_iff.1 hgh).1
    have hno:∀ k∈Uf na.nm,Jd st.h G k≠some g:=by
     intro k hk hkb
     have:=S.dis.inj k m g hkb hgb
     subst this
     exact S.fi.k6 k (hlfr k hm) hk
    have hkeep:=keepB g hlt hno
    refine .inr ⟨ad,hA,?_,?_,fun i y hy => ?_⟩
    ·subst had
     refine⟨fun n hn => ?_,S.dis.xo m g hgb⟩
     rcases blkCase n g hn with⟨k,_,_,hk⟩|⟨_,h2,hk⟩
     ·rcases gcNew k g hk with⟨m',hm',hmb⟩|hlt'
      ·exact hno m' hm' hmb
      ·omega
     ·have:=S.dis.inj n m g hk hgb
      subst this
      exact h2 (by simp[hm])
    ·subst had
     have:w'.heap[g]? = some (.cells cs e fz):=by rw[hkeep];exact hgh
     exact(Array.getElem?_eq_some_iff.1 this).1
    ·obtain⟨c,hc,hu⟩:=hrr i y hy
     refine⟨c,hc.mono okOld,fun j u hj => ?_⟩
     rw[World.cell?_of_block (w:=w) (by rw[J0s,had];exact hkeep)]
     exact hu j u hj
  have C:Carry st.h G w h' G2 w' (Zi st.h rs l):=by
   refine⟨okOld,fun n t cs hn => ?_,fun n ag V es hn => ?_,fun b hx hlt=>⟨.inr hx,keepB b hlt fun m _ hm=>S.dis.xo m b hm hx⟩,fun n e K xs hn => ?_⟩
   ·cases hf:hs.find? (fun x=>Nat.beq (σ x.1) n)with
    |some x =>
     obtain⟨e1,hx⟩:=find_some n x hf
     have hk:=UD (Qd hx)
     rcases kinds x.1 hk with⟨m,hm⟩|⟨a1,a2,_⟩
     ·have:m=n:=by rw[←e1,σold x.1 m hm]
      subst this
      obtain⟨o,ho⟩:=J0u (S.fi.k4 x.1 (UD (Qd hm)))
      have ho:=QQ S.fi.k3 ho
      rcases S.hhp x.1 o ho m hm with⟨t',cs1,cs2,rfl,hv⟩|⟨e,K,xs,rfl,hv⟩|⟨ag,V,es,rfl,hv⟩
      ·rw[hn]at hv
       cases hv
       obtain⟨⟨cs3,hk1⟩,hk2⟩:=F.keep x.1 t cs2 ho x.2 hx
       refine⟨⟨rens σ cs3,?_⟩,?_⟩
       ·rw[h'at,hf];simp only[hk1,J0B]
       ·show(match hs.find? (fun x=>Nat.beq (σ x.1) m)with|some x=>G1.bk x.1|none=>G.bk m)=G.bk m
        rw[hf]
        simp only[hk2,JM,hm]
      ·rw[hn]at hv;cases hv
      ·rw[hn]at hv;cases hv
     ·rw[←e1,σnew x.1 a1,a2]at hn;cases hn
    |none =>
     have hnl:n ∉ rs++l:=by
      intro hm
      rcases List.mem_append.1 hm with hm|hm
      ·rw[←hrs]at hm
       obtain⟨k,e,K,xs,h1,h2⟩:=J5g.1 hm
       rcases S.hhp k _ h2 n (QQ S.fi.k1 h1)with⟨_,_,_,h3,_⟩|⟨e',K',xs',_,h4⟩|⟨_,_,_,h3,_⟩
       ·cases h3
       ·rw[hn]at h4;cases h4
       ·cases h3
      ·obtain⟨e,K,xs,h3⟩:=S.fo.fr n (hlfr n hm)
       rw[hn]at h3;cases h3
     refine⟨⟨cs.map (PV.mapR (Zi st.h rs l)),?_⟩,?_⟩
     ·rw[h'at,hf];simp only[if_neg hnl,hn];rfl
     ·show(match hs.find? (fun x=>Nat.beq (σ x.1) n)with|some x=>G1.bk x.1|none=>G.bk n)=G.bk n
      rw[hf]
   ·cases hf:hs.find? (fun x=>Nat.beq (σ x.1) n)with
    |some x =>
     obtain⟨e1,hx⟩:=find_some n x hf
     have hk:=UD (Qd hx)
     rcases kinds x.1 hk with⟨m,hm⟩|⟨a1,a2,_⟩
     ·have:m=n:=by rw[←e1,σold x.1 m hm]
      subst this
      obtain⟨o,ho⟩:=J0u (S.fi.k4 x.1 (UD (Qd hm)))
      have ho:=QQ S.fi.k3 ho
      rcases S.hhp x.1 o ho m hm with⟨t',cs1,cs2,rfl,hv⟩|⟨e,K,xs,rfl,hv⟩|⟨ag',V',es',rfl,hv⟩
      ·rw[hn]at hv;cases hv
      ·rw[hn]at hv;cases hv
      ·rw[hn]at hv
       simp only[Option.some.injEq,HObj.mp.injEq]at hv
       obtain⟨rfl,rfl,_⟩:=hv
       obtain⟨⟨es3,hk1⟩,hk2⟩:=F.keepM x.1 _ _ _ ho x.2 hx
       refine⟨⟨es3,?_⟩,?_⟩
       ·rw[h'at,hf];simp only[hk1,J0B]
       ·show(match hs.find? (fun x=>Nat.beq (σ x.1) m)with|some x=>G1.bk x.1|none=>G.bk m)=G.bk m
        rw[hf]
        simp only[hk2,JM,hm]
     ·rw[←e1,σnew x.1 a1,a2]at hn;cases hn
    |none =>
     have hnl:n ∉ rs++l:=by
      intro hm
      rcases List.mem_append.1 hm with hm|hm
      ·rw[←hrs]at hm
       obtain⟨k,e,K,xs,h1,h2⟩:=J5g.1 hm
       rcases S.hhp k _ h2 n (QQ S.fi.k1 h1)with⟨_,_,_,h3,_⟩|⟨e',K',xs',_,h4⟩|⟨_,_,_,h3,_⟩
       ·cases h3
       ·rw[hn]at h4;cases h4
       ·cases h3
      ·obtain⟨e,K,xs,h3⟩:=S.fo.fr n (hlfr n hm)
       rw[hn]at h3;cases h3
     refine⟨⟨es,?_⟩,?_⟩
     ·rw[h'at,hf];simp only[if_neg hnl,hn];rfl
     ·show(match hs.find? (fun x=>Nat.beq (σ x.1) n)with|some x=>G1.bk x.1|none=>G.bk n)=G.bk n
      rw[hf]
   ·by_cases hm1:n∈rs
    ·have:Zi st.h rs l n = .un:=by simp[Zi,UC.2 hm1]
     rw[this]
     exact⟨trivial,fun m hm=>by cases hm⟩
    ·have hi1:QV n rs=false:=by cases hb:QV n rs with|false=>rfl|true=>exact absurd (UC.1 hb) hm1
     by_cases hm2:n∈l
     ·have:Zi st.h rs l n = .v (.sl K) xs:=by simp[Zi,hi1,UC.2 hm2,hn]
      rw[this]
      exact⟨rowD n e K xs hm2 hn,fun m hm=>by cases hm⟩
     ·have hi2:QV n l=false:=by cases hb:QV n l with|false=>rfl|true=>exact absurd (UC.1 hb) hm2
      have hcf:Zi st.h rs l n = .row n:=by simp[Zi,hi1,hi2]
      have hf:hs.find? (fun x=>Nat.beq (σ x.1) n)=none:=by
       cases hf:hs.find? (fun x=>Nat.beq (σ x.1) n)with
       |none=>rfl
       |some x =>
        exfalso
        obtain⟨e1,hx⟩:=find_some n x hf
        have hk:=UD (Qd hx)
        rcases kinds x.1 hk with⟨m,hm⟩|⟨a1,a2,_⟩
        ·have:m=n:=by rw[←e1,σold x.1 m hm]
         subst this
         obtain⟨o,ho⟩:=J0u (S.fi.k4 x.1 (UD (Qd hm)))
         have ho:=QQ S.fi.k3 ho
         rcases S.hhp x.1 o ho m hm with⟨t',cs1,cs2,rfl,hv⟩|⟨e',K',xs',rfl,hv⟩|⟨ag,V,es,rfl,hv⟩
         ·rw[hn]at hv;cases hv
         ·exact hm1 (by rw[←hrs];exact J5g.2 ⟨x.1,e',K',xs',Qd hm,ho⟩)
         ·rw[hn]at hv;cases hv
        ·rw[←e1,σnew x.1 a1,a2]at hn;cases hn
      have hnl:n ∉ rs++l:=by simp[hm1,hm2]
      have hh:h' n=some (.row e K xs):=by rw[h'at,hf];simp only[if_neg hnl,hn];rfl
      have hrv:G2.rv n=G.rv n:=by show(match hs.find? (fun x=>Nat.beq (σ x.1) n)with|some x=>G1.rv x.1|none=>G.rv n)=G.rv n;rw[hf]
      rw[hcf]
      exact⟨⟨hrv.symm,e,K,xs,hh⟩,fun m hm=>by cases hm;exact⟨e,xs,hh,Nat.le_refl _⟩⟩
  have L:Loud st.h G w h' M G2 w':=by
   refine⟨?_,fun n o hn => ?_,fun n m b h1 h2 => ?_,fun b hlt hfree=>keepB b hlt fun m _ hm=>hfree m hm,rfl,fun n b hn => ?_,F.grow,F.os,F.tape,F.out⟩
   ·obtain⟨f,hf,he⟩:=Jt1 st.h rs l
    exact⟨f,hf,by rw[show f=Zi st.h rs l from funext he];exact C⟩
   ·cases hf:hs.find? (fun x=>Nat.beq (σ x.1) n)with
    |some x =>
     obtain⟨e1,hx⟩:=find_some n x hf
     have hk:=UD (Qd hx)
     rw[h'at,hf]at hn
     simp only[Option.some.injEq]at hn
     subst hn
     have hro:=F.obj x.1 x.2 hx
     have hbk:G2.bk n=G1.bk x.1:=by simp only[G2,hf]
     have hrv:G2.rv n=G1.rv x.1:=by simp only[G2,hf]
     have hsx:sl=false->JaU x.2=false:=by
      intro hs0
      have h0:=hsl hs0
      have key:∀(l:List (Nm×HObj)),J5D l=false->∀ y∈l,JaU y.2=false:=by
       intro l
       induction l with
       |nil=>intro _ y hy;cases hy
       |cons a r ih =>
        intro hl y hy
        simp only[J5D,Bool.or_eq_false_iff]at hl
        rcases List.mem_cons.1 hy with rfl|hy
        ·exact hl.1
        ·exact ih hl.2 y hy
      exact key hs h0 (x.1,x.2) (Qd hx)
     cases hx2:x.2 with
     |var t cs =>
      rw[hx2]at hro hsx
      obtain⟨vs,hw,hv⟩:=hro
      refine⟨vs,by rw[hbk];exact hw,RVs.ren R cs (fun hh => ?_) hv⟩
      cases hs2:sl with
      |true=>exact okNew hs2
      |false=>have h3:=hsx hs2;simp only[JaU]at h3;rw[h3]at hh;cases hh
     |row e K xs =>
      rw[hx2]at hro hsx
      obtain⟨vs,hown,hv,hp⟩:=hro
      refine⟨vs,by rw[hrv];exact hown,?_,hp⟩
      cases hs2:sl with
      |true=>exact hv.mono fun b ho _=>⟨okNew hs2 b ho,rfl⟩
      |false=>exact hv.plain (hsx hs2)
     |mp ag V es =>
      rw[hx2]at hro hsx
      obtain⟨ob,hw,hE⟩:=hro
      refine⟨ob,by rw[hbk];exact hw,ObOk.ren R (fun hh => ?_) hE⟩
      cases hs2:sl with
      |true=>exact okNew hs2
      |false=>have h3:=hsx hs2;simp only[JaU]at h3;rw[h3]at hh;cases hh
    |none =>
     rw[h'at,hf]at hn
     simp only at hn
     split at hn
     ·cases hn
     ·next hnl =>
      obtain⟨o',ho',rfl⟩:=Option.map_eq_some_iff.1 hn
      refine RO.carry C ho' (S.obj n o' ho') (fun b hb=>keepB b (olt n b hb) fun m hm hmb => ?_) (by simp only[G2,hf]) (by simp only[G2,hf])
      have:=S.dis.inj m n b hmb hb
      subst this
      exact notOld m (find_none m hf) (fun hm2=>hnl (by simp[hm2])) hm
   ·rcases blkCase n b h1 with⟨k,hk,rfl,hkb⟩|⟨a1,a2,a3⟩<;>rcases blkCase m b h2 with⟨k',hk',rfl,hkb'⟩|⟨b1,b2,b3⟩
    ·rw[F.inj k k' b hkb hkb']
    ·exfalso
     rcases gcNew k b hkb with⟨m',hm',hmb⟩|hlt
     ·have:=S.dis.inj m' m b hmb b3
      subst this
      exact notOld m' b1 (fun hm2=>b2 (by simp[hm2])) hm'
     ·have:=olt m b b3;omega
    ·exfalso
     rcases gcNew k' b hkb' with⟨m',hm',hmb⟩|hlt
     ·have:=S.dis.inj m' n b hmb a3
      subst this
      exact notOld m' a1 (fun hm2=>a2 (by simp[hm2])) hm'
     ·have:=olt n b a3;omega
    ·exact S.dis.inj n m b a3 b3
   ·rcases blkCase n b hn with⟨k,hk,rfl,hkb⟩|⟨_,_,a3⟩
    ·rcases gcNew k b hkb with⟨m',_,hmb⟩|hlt
     ·exact .inl ⟨m',hmb⟩
     ·exact .inr hlt
    ·exact .inl ⟨n,a3⟩
  refine⟨G2,?_,?_,fun p v hp hv => ?_⟩
  ·rw[hst];exact L
  ·rw[hst]
  ·rw[hst]
   refine RV.ren R p (fun hh => ?_) hv
   cases hs2:sl with
   |true=>exact okNew hs2
   |false=>have h3:=hp hs2;rw[h3]at hh;cases hh
end
section
open Go
variable {P:Program}
def Does(P:Program)(f:FuncId)(args:Array Value)(w:World)(Post:Ending->World->Prop): Prop :=
 match(callFunc f args).run P w with
 |.ok (.enter f' args') w'=>Calls P f' args' w' Post
 |.ok (.value v) w'=>Post (.returned v) w'
 |_=>False
theorem Does.mono{f:FuncId}{args:Array Value}{w:World}{R R':Ending->World->Prop}(h:Does P f args w R)(hr:∀ e w',R e w'->R' e w'): Does P f args w R':=by
 unfold Does at *
 split at h
 ·exact Calls.mono h hr
 ·exact hr _ _ h
 ·exact h.elim
def DoesTo(P:Program)(f:FuncId)(args:List PV)(hp:List (Nm×HObj))(O:Out->Prop): Prop :=
 ∀(G:Gh) (w:World) (vals:List Value),RVs (mkH hp) G w args vals->(∀ n o,mkH hp n=some o->RO (mkH hp) G w n o)->Dis (mkH hp) G w ->
  Does P f vals.toArray w fun e w'=>∃ out,O out∧∃ G',J2A G' w' e out∧Fin hp out.hs G w G' w'
def CTab.Ok(P:Program)(C:CTab): Prop :=
 ∀(f:FuncId) (ps:List PV) (hp:List (Nm×HObj)) {R:Type} (K:Out->Option R) (r:R),C.run f ps hp K=some r->DoesTo P f ps hp fun out=>K out=some r
theorem CTab.nil_ok{P:Program}: CTab.nil.Ok P:=fun _ _ _ _ _ _ h=>by cases h
theorem CTab.add_ok {P:Program} {f:FuncId} {s:List LS} {C:CTab} {run:{R:Type}->List PV->List (Nm×HObj)->(Out->Option R)->Option R}
 (h:∀ {ps:List PV} {hp:List (Nm×HObj)} {R:Type} {K:Out->Option R} {r:R},run ps hp K=some r->DoesTo P f ps hp fun out=>K out=some r) (hC:C.Ok P):(CTab.add f s run C).Ok P:=by
 intro g ps hp R K r hr
 unfold CTab.add at hr
 simp only at hr
 cases hb:Nat.beq g f with
 |true=>rw[hb,cond_true]at hr;rw[Nat.eq_of_beq_eq_true hb];exact h hr
 |false=>rw[hb,cond_false]at hr;exact hC _ _ _ _ _ hr
structure Ctx.Ok (P:Program) (cx:Ctx):Prop where
 ty:Qg P cx.ty
 C:cx.C.Ok P
 sh:∀ {T R:Type} (x:T) (f:T->Option R),cx.sh x f=f x
theorem J8J{P:Program}{cx:Ctx}(X:cx.Ok P){R:Type}: ∀(l:List (Nm×Option HObj)) (k:List (Nm×Option HObj)->Option R),shE cx l k=k l
 |[],k=>rfl
 |(n,none)::r,k=>by rw[shE,J8J X r];intro _ _ _ _ h;cases h
 |(n,some (.var t cs))::r,k=>by rw[shE,J8J X r];intro _ _ _ _ h;cases h
 |(n,some (.mp ag V es))::r,k=>by rw[shE,J8J X r];intro _ _ _ _ h;cases h
 |(n,some (.row e K xs))::r,k=>by
  rw[shE]
  cases Nat.ble 2 K.sz with
  |true=>rw[cond_true,X.sh,J8J X r]
  |false=>rw[cond_false,J8J X r]
theorem Jsf{s:Nat}{b:Bool}: ∀ {g:List (Nat×Bool)},J2v s b g=true->(s,b)∈g
 |[],h=>by cases h
 |(s',b')::r,h=>by
  rw[J2v]at h
  cases hb:(Nat.beq s' s&&(b' == b))with
  |true =>
   simp only[Bool.and_eq_true]at hb
   have h1:=Qj.1 hb.1
   have h2:b'=b:=by simpa using hb.2
   subst h1 h2
   exact List.mem_cons_self
  |false=>rw[hb]at h;exact List.mem_cons_of_mem _ (Jsf h)
theorem Jrq{G:List (Nat×Bool)}: ∀ {g:List (Nat×Bool)},JaS G g=true->∀ x∈g,x∈G
 |[],_,x,hx=>by cases hx
 |(s,b)::r,h,x,hx=>by
  simp only[JaS,Bool.and_eq_true]at h
  rcases List.mem_cons.1 hx with rfl|hx
  ·exact Jsf h.1
  ·exact Jrq h.2 x hx
section
variable {h:Je} {G:Gh} {w:World}
theorem JI2{tm:Nat->Value}{Gd:List (Nat×Bool)}(hG:Uj tm Gd){p:PV}{v:Value}(hp:RT h G w tm p v): RV h G w (QG Gd p) v:=by
 cases p with
 |opt g c p =>
  rw[QG]
  cases ht:JaS Gd g with
  |true=>exact(hp.1 fun x hx=>hG x (Jrq ht x hx)).2
  |false=>trivial
 |kb b=>have:v = .bool b:=hp;subst this;exact rfl
 |ng b=>trivial
 |_=>exact hp
end
section
variable {w0:World} {fr:Nat->Prop} {X0:Org} {n:Nat} {ds:List Deferred} {st:St} {G:Gh} {a:Act} {w:World}
theorem Rel.get(R:Rel w0 fr X0 n ds st G a w)(x:Operand): RT st.h G w (JW a) (st.get x) (a.eval x):=by
 cases x with
 |tmp t=>exact R.tm t
 |const v=>exact J1z (JmU (h:=st.h) (G:=G) (w:=w) v)
 |func f=>exact J1z (show RV st.h G w (.clo f []) _ from⟨[],rfl,rfl⟩)
 |global g=>exact J1z (show RV st.h G w .un _ from trivial)
theorem Rel.use(R:Rel w0 fr X0 n ds st G a w){Gd:List (Nat×Bool)}(hG:Uj (JW a) Gd)(x:Operand): RV st.h G w (QG Gd (st.get x)) (a.eval x):=JI2 hG (R.get x)
theorem J3x{tm:Nat->Value}: Uj tm []:=fun x hx=>by cases hx
theorem Rel.toDis(R:Rel w0 fr X0 n ds st G a w)(hf:∀ b,fr b->b<w0.heap.size): Dis st.h G w :=
 ⟨R.dis,fun m b hm hx=>R.apart m b hm (R.xfr b hx),fun b hx=>Nat.lt_of_lt_of_le (hf b (R.xfr b hx)) R.grow⟩
theorem Rel.noLoud(R:Rel w0 fr X0 n ds st G a w)(hf:∀ b,fr b->b<w0.heap.size): Loud st.h G w st.h none G w:=Loud.still R.obj (R.toDis hf) (.refl w)
theorem Rel.putV(R:Rel w0 fr X0 n ds st G a w)(hf:∀ b,fr b->b<w0.heap.size){d:Option Nat}(hd:∀ i,d=some i->i<n){p:PV}{v:Value}(hp:RV st.h G w p v):
 Rel w0 fr X0 n ds (putV st d p) G (a.put d v) w:=by
 cases d with
 |none=>exact R
 |some d=>exact R.loud hf (R.noLoud hf) (hd d rfl) hp
theorem Rel.putE (R:Rel w0 fr X0 n ds st G a w) (hf:∀ b,fr b->b<w0.heap.size) {d:Option Nat} (hd:∀ i,d=some i->i<n) {ev:Ev} {v:Value} {G':Gh} {w':World}
 (L:Loud st.h G w (JO (JU ev.mp st.h) ev.hs) ev.mp G' w') (hp:RV (JO (JU ev.mp st.h) ev.hs) G' w' ev.val v) :
 Rel w0 fr X0 n ds (putE st d ev) G' (a.put d v) w':=by
 cases d with
 |none=>exact R.loud0 hf L
 |some d=>exact R.loud hf L (hd d rfl) hp
theorem JtP{a:Act}{d:Nat}{v:Value}(hd:d<a.tmps.size){g:List (Nat×Bool)}(hg:J2s d g=false): Uj (JW (a.put (some d) v)) g↔Uj (JW a) g:=by
 constructor
 ·intro ht x hx
  have:=ht x hx
  rwa [J5p hd,if_neg (Jaj hg x hx)]at this
 ·intro ht x hx
  rw[J5p hd,if_neg (Jaj hg x hx)]
  exact ht x hx
theorem Rel.putO (R:Rel w0 fr X0 n ds st G a w) (hf:∀ b,fr b->b<w0.heap.size) {d:Option Nat} (hd:∀ i,d=some i->i<n) {g:List (Nat×Bool)} {c:Bool} {p:PV} {v:Value} {w':World} (S:Still w w')
 (h1:Uj (JW a) g->c=true∧RV st.h G w' p v) (h2:¬ Uj (JW a) g->v=undef) {st':St} (he:Pvm.putO st d g c p=some st') :
 Rel w0 fr X0 n ds st' G (a.put d v) w':=by
 have L:=Loud.still R.obj (R.toDis hf) S
 cases d with
 |none=>cases he;exact R.loud0 hf L
 |some d =>
  rw[Pvm.putO]at he
  cases hg:J2s d g with
  |true=>rw[hg]at he;cases he
  |false =>
   rw[hg]at he
   cases he
   have hs:d<a.tmps.size:=by rw[R.size];exact hd d rfl
   have R1:=R.loud hf L (hd d rfl) (p := .un) (v:=v) trivial
   refine⟨fun i => ?_,R1.size,R1.obj,R1.dis,R1.apart,R1.xfr,R1.xeq,R1.org,R1.ext,R1.grow,R1.os,R1.tape,R1.out,R1.defers⟩
   by_cases hi:i=d
   ·subst hi
    have e1:upd st.t i (.opt g c p) i = .opt g c p:=by simp[upd]
    show RT st.h G w' _ (upd st.t i (.opt g c p) i) _
    rw[e1,J5p hs,if_pos rfl]
    exact⟨fun ht=>h1 ((JtP hs hg).1 ht),fun ht=>h2 fun h=>ht ((JtP hs hg).2 h)⟩
   ·have:=R1.tm i
    have hb:Nat.beq i d=false:=by cases hb:Nat.beq i d with|false=>rfl|true=>exact absurd (Qj.1 hb) hi
    have e1:upd st.t d (.opt g c p) i=upd (J2F none st.t) d .un i:=by simp[upd,hb,J2F]
    show RT st.h G w' _ (upd st.t d (.opt g c p) i) _
    rw[e1];exact this
theorem Jl6{s:Nat}{b:Bool}: ∀ {g:List (Nat×Bool)},J2v s b g=true↔(s,b)∈g
 |[]=>by simp[J2v]
 |(s',b')::r=>by
  rw[J2v]
  cases h:(Nat.beq s' s&&(b' == b))with
  |true =>
   simp only[Bool.and_eq_true]at h
   have h1:=Qj.1 h.1
   have h2:b'=b:=by simpa using h.2
   subst h1 h2
   simp
  |false =>
   rw[cond_false,Jl6]
   constructor
   ·exact fun h=>List.mem_cons_of_mem _ h
   ·intro hm
    rcases List.mem_cons.1 hm with e|hm
    ·cases e;simp at h
    ·exact hm
theorem JeJ{s:Nat}{x:Nat×Bool}: ∀ {g:List (Nat×Bool)},x∈J5v s g↔x∈g∧x.1≠s
 |[]=>by simp[J5v]
 |(s',b')::r=>by
  rw[J5v]
  cases h:Nat.beq s' s with
  |true =>
   have:=Qj.1 h
   subst this
   rw[cond_true,JeJ]
   constructor
   ·exact fun h=>⟨List.mem_cons_of_mem _ h.1,h.2⟩
   ·rintro⟨h1,h2⟩
    rcases List.mem_cons.1 h1 with e|h1
    ·subst e;exact absurd rfl h2
    ·exact⟨h1,h2⟩
  |false =>
   have hne:s'≠s:=fun e=>by rw[Qj.2 e]at h;cases h
   rw[cond_false,List.mem_cons,JeJ,List.mem_cons]
   constructor
   ·rintro(e|⟨h1,h2⟩)
    ·subst e;exact⟨.inl rfl,hne⟩
    ·exact⟨.inr h1,h2⟩
   ·rintro⟨e|h1,h2⟩
    ·exact .inl e
    ·exact .inr ⟨h1,h2⟩
theorem JI3{h:Je}{G:Gh}{w:World}{tm:Nat->Value}{s:Nat}{b:Bool}(hs:tm s = .bool b){p:PV}{v:Value}(hp:RT h G w tm p v): RT h G w tm (Jnb s b p) v:=by
 cases p with
 |opt g c p =>
  rw[Jnb]
  cases ht:J2v s (!b) g with
  |true =>
   rw[cond_true]
   have hn:¬ Uj tm g:=fun hh=>by
    have:=hh (s,!b) (Jl6.1 ht)
    simp only[hs]at this
    cases b<;>simp at this
   exact⟨[],hp.2 hn,rfl⟩
  |false =>
   rw[cond_false]
   have key:Uj tm (J5v s g)↔Uj tm g:=by
    constructor
    ·intro hd x hx
     by_cases hxs:x.1=s
     ·obtain⟨x1,x2⟩:=x
      simp only at hxs
      subst hxs
      have:x2=b:=by
       cases hb:(x2 == b)with
       |true=>simpa using hb
       |false =>
        have:x2 = !b:=by cases x2<;>cases b<;>simp_all
        subst this
        rw[Jl6.2 hx]at ht;cases ht
      subst this;exact hs
     ·exact hd x (JeJ.2 ⟨hx,hxs⟩)
    ·exact fun hd x hx=>hd x (JeJ.1 hx).1
   split
   ·next he =>
    have:Uj tm g:=key.1 (by rw[he];exact fun x hx=>by cases hx)
    exact J1z (hp.1 this).2
   ·next x r he =>
    rw[he]at key
    exact⟨fun h=>hp.1 (key.1 h),fun h=>hp.2 fun hg=>h (key.2 hg)⟩
 |_=>exact hp
theorem Rel.know(R:Rel w0 fr X0 n ds st G a w)(hf:∀ b,fr b->b<w0.heap.size){s:Nat}{b:Bool}(hs:JW a s = .bool b): Rel w0 fr X0 n ds ⟨Zj st.t s b,st.h⟩ G a w:=by
 refine⟨fun i => ?_,R.size,R.obj,R.dis,R.apart,R.xfr,R.xeq,R.org,R.ext,R.grow,R.os,R.tape,R.out,R.defers⟩
 show RT st.h G w (JW a) (Zj st.t s b i) (JW a i)
 unfold Zj
 cases hb:Nat.beq i s with
 |true=>rw[Qj.1 hb];exact hs
 |false=>exact JI3 hs (R.tm i)
theorem JGy(σ : Nm->Nm)(ps:List PV): (J5O ps).ren σ = J5O (rens σ ps):=by
 cases ps with
 |nil=>rfl
 |cons p r=>cases r with
  |nil=>rfl
  |cons q r=>rfl
theorem JEz(ps:List PV)(h:hasSls ps=false): (J5O ps).hasSl=false:=by
 cases ps with
 |nil=>rfl
 |cons p r=>cases r with
  |nil=>simpa [J5O,hasSls]using h
  |cons q r=>exact h
theorem Jl7{k m:Nm}: ∀ {l:List (Nm×Option Nm)},(k,some m)∈l->m∈Uf l
 |(k',none)::r,h=>by
  rcases List.mem_cons.1 h with e|h
  ·cases e
  ·exact Jl7 (l:=r) h
 |(k',some m')::r,h=>by
  rw[Uf]
  rcases List.mem_cons.1 h with e|h
  ·cases e;exact List.mem_cons_self
  ·exact List.mem_cons_of_mem _ (Jl7 h)
 |[],h=>by cases h
theorem JHh {cx:Ctx} (X:cx.Ok P) {R0:Type} {K:Option PV->St->Option R0} {r:R0} {g:FuncId} {args:List PV} {d:Nat} (he:JmQ cx g args d st K=some r)
 (R:Rel w0 fr X0 n ds st G a w) (hf:∀ b,fr b->b<w0.heap.size) (hd:d<n) {vals:List Value} (hargs:RVs st.h G w args vals) :
 Does P g vals.toArray w fun e w'=>match e with
  |.returned v=>∃ st' G',K none st'=some r∧Rel w0 fr X0 n ds st' G' (a.put (some d) v) w'∧Kept st.h G w st'.h G' w' (JaX cx g args st)
  |.panicked ch=>∃ p v st' G',ch=[{ v,recovered:=false }]∧K (some p) st'=some r∧Rel w0 fr X0 n ds st' G' a w'∧RV st'.h G' w' p v
  |.outgrown=>False:=by
 unfold JmQ at he
 split at he
 ·next ps na hn =>
  cases hfi:J1M na with
  |false=>rw[hfi]at he;cases he
  |true =>
   rw[hfi,cond_true]at he
   have hc:=X.C _ _ _ _ _ he
   have F0:Found st.h ⟨[],[],[],[]⟩:=⟨fun k o hk=>(by cases hk),fun m hm=>(by cases hm)⟩
   obtain⟨F1,L1⟩:=normPs_found _ _ _ hn F0
   have S:Sub st.h G w na:=⟨Jf3 hfi,F1,R.obj,R.toDis hf⟩
   obtain⟨h1,h2⟩:=Sub.norms S _ _ _ hn (.refl na) F0 hargs
   have hobj:∀ k o,mkH na.hp k=some o->RO (mkH na.hp) (JM G na (Qe st.h G na)) w k o:=fun k o hk=>by
    rcases h2 (k,o) (Qd hk)with h|h
    ·cases h
    ·exact h
   refine(hc _ w vals h1 hobj S.toDis).mono fun e w' hh => ?_
   obtain⟨out,ho,G1,hout,F⟩:=hh
   have hV:VarKept st.h G w w' (JaX cx g args st):=by
    intro m t cs hm hmn
    obtain⟨us,hwm,_⟩:=R.obj m _ hm
    refine F.blk _ (Array.getElem?_eq_some_iff.1 hwm).1 fun k hk => ?_
    obtain⟨m',hk1,hk2⟩:=S.blk k _ hk
    have:=R.dis m m' (G.bk m) (by simp[Jd,hm]) hk2
    subst this
    refine hmn ?_
    unfold JaX
    rw[hn]
    exact Jl7 (Qd hk1)
   cases out with
   |ret rs hs =>
    obtain⟨v,rfl,hv⟩:=hout
    simp only at ho
    split at ho
    ·next st' hb =>
     obtain⟨G2,L,ht,hren⟩:=Jm5 S hb F (fun h=>by simp only[Bool.or_eq_false_iff]at h;exact h.2)
     refine⟨_,G2,ho,?_,L.kept hV⟩
     have hv2:=hren _ _ (fun h=>by simp only[Bool.or_eq_false_iff]at h;exact JEz rs h.1) hv
     rw[JGy]at hv2
     have:=R.loud hf L hd hv2
     rw[ht];exact this
    ·cases ho
   |pan p hs =>
    obtain⟨v,rfl,hv⟩:=hout
    simp only at ho
    split at ho
    ·next st' hb =>
     obtain⟨G2,L,ht,hren⟩:=Jm5 S hb F (fun h=>by simp only[Bool.or_eq_false_iff]at h;exact h.2)
     refine⟨_,v,_,G2,rfl,ho,?_,?_⟩
     ·have:=R.loud0 hf L
      rw[←ht]at this
      exact this
     ·exact hren _ _ (fun h=>by simp only[Bool.or_eq_false_iff]at h;exact h.1) hv
    ·cases ho
 ·cases he
theorem Kept.put(tn:List Nm){d:Option Nat}{p:PV}: Kept st.h G w (Pvm.putV st d p).h G w tn:=by
 cases d<;>exact Kept.refl _ _ _ _
structure Goes {R0:Type} (w0:World) (fr:Nat->Prop) (X0:Org) (n:Nat) (ds:List Deferred) (h:Je) (G:Gh) (w:World) (tn:List Nm) (K:Option PV->St->Option R0) (r:R0) (a:Act) (next:Act->World->Prop) (Q:Exit->Act->World->Prop):Prop where
 on:∀ st' G' a' w',K none st'=some r->Rel w0 fr X0 n ds st' G' a' w'->Kept h G w st'.h G' w' tn->next a' w'
 out:∀ p v st' G' w',K (some p) st'=some r->Rel w0 fr X0 n ds st' G' a w'->RV st'.h G' w' p v->Q (.panic [{ v,recovered:=false }]) a w'
theorem JHi {o:Oper} {next:Act->World->Prop} {Q:Exit->Act->World->Prop} {f:FuncId} {args:Array Value} {w':World} {Post:Ending->World->Prop} {r:Result Next}
 (hr:r=(callFunc f args).run P w') (hd:Does P f args w' Post) (hon:∀ v w'',Post (.returned v) w''->next (a.put o.dst v) w'') (hpan:∀ ch w'',Post (.panicked ch) w''->Q (.panic ch) a w'') (hout:∀ w'',¬ Post .outgrown w'') :
 o.upon P a next Q r:=by
 subst hr
 unfold Does at hd
 split at hd
 ·next f' args' w1 heq =>
  rw[heq,Oper.upon_enter]
  exact Calls.mono hd fun e w'' he=>match e,he with
   |.returned v,he=>hon v w'' he
   |.panicked ch,he=>hpan ch w'' he
   |.outgrown,he=>absurd he (hout w'')
 ·next v w1 heq =>
  rw[heq,Oper.upon_value]
  exact hon v w1 hd
 ·exact hd.elim
theorem RVs.map{h:Je}{G:Gh}{w:World}{u:Operand->PV}{ρ : Operand->Value}(hu:∀ x,RV h G w (u x) (ρ x)): ∀ l:List Operand,RVs h G w (l.map u) (l.map ρ)
 |[]=>rfl
 |x::r=>⟨ρ x,r.map ρ,rfl,hu x,RVs.map hu r⟩
theorem JGz {cx:Ctx} (X:cx.Ok P) {R0:Type} {K:Option PV->St->Option R0} {r:R0} {o:Oper} {Q:Exit->Act->World->Prop} {next:Act->World->Prop}
 (R:Rel w0 fr X0 n ds st G a w) (hf:∀ b,fr b->b<w0.heap.size) (hd:∀ i,o.dst=some i->i<n) (H:Goes w0 fr X0 n ds st.h G w (match Zh cx.ty (fun x=>QG [] (st.get x)) st.h (o.dst.getD 0) o.op with
 |some ev=>JH ev.hs
 |none=>[]) K r a next Q)
 (he:(match Zh cx.ty (fun x=>QG [] (st.get x)) st.h (o.dst.getD 0) o.op with
 |some ev=>Jgi ev.chk (K none (putE st o.dst ev))
 |none=>none)=some r):o.wp P a w next Q:=by
 split at he
 ·next ev hev =>
  rw[hev]at H
  have hc:U5 ev.chk=true∧K none (putE st o.dst ev)=some r:=by
   unfold Jgi at he
   split at he
   ·next hk=>rw[hk];exact⟨rfl,he⟩
   ·next b hk =>
    cases b with
    |true=>rw[hk];exact⟨rfl,he⟩
    |false=>cases he
  obtain⟨nx,v,G',w',e1,e2,e3,e4,e5⟩:=JGw X.ty R.obj (R.toDis hf) (fun x=>R.use J3x x) hev hc.1
  unfold Oper.wp
  rw[e1]
  have:=R.putE hf hd e3 e4
  rcases e2 with rfl|⟨rfl,rfl⟩
  ·exact H.on _ _ _ _ hc.2 this (e3.kept e5)
  ·exact H.on _ _ _ _ hc.2 this (e3.kept e5)
 ·cases he
theorem Jmy {cx:Ctx} (X:cx.Ok P) {R0:Type} {K:Option PV->St->Option R0} {r:R0} {o:Oper} {Q:Exit->Act->World->Prop} {next:Act->World->Prop}
 (R:Rel w0 fr X0 n ds st G a w) (hf:∀ b,fr b->b<w0.heap.size) (hd:∀ i,o.dst=some i->i<n) (H:Goes w0 fr X0 n ds st.h G w (J14 cx o st) K r a next Q) (he:opK cx o st K=some r):o.wp P a w next Q:=by
 have hu:∀ x,RV st.h G w (QG [] (st.get x)) (a.eval x):=fun x=>R.use J3x x
 unfold opK at he
 simp only at he
 split at he
 ·next f args ts hop =>
  split at he
  ·next g cap d hclo hdst =>
   have hfv:=hu f
   rw[hclo]at hfv
   obtain⟨vs,hfe,hvs⟩:=hfv
   have hargs:RVs st.h G w (args.toList.map (fun x=>QG [] (st.get x))++cap) (args.toList.map a.eval++vs):=(RVs.map hu args.toList).append hvs
   have hdoes:=JHh X he R hf (hd d hdst) hargs
   unfold Oper.wp
   refine JHi (f:=g) (args:=(args.toList.map a.eval++vs).toArray) (w':=w) ?_ hdoes ?_ ?_ ?_
   ·have e1:(args.map a.eval++vs.toArray)=(args.toList.map a.eval++vs).toArray:=by
     apply Array.ext';simp
    simp[execOp,hop,resolve,hfe,Deferred.ofValue,invoke,←e1]
   ·rintro v w'' ⟨st',G',h1,h2,h3⟩
    rw[hdst]
    refine H.on _ _ _ _ h1 h2 ?_
    have e:J14 cx o st=JaX cx g (args.toList.map (fun x=>QG [] (st.get x))++cap) st:=by
     unfold J14
     rw[hop]
     simp only[hclo]
    rw[e];exact h3
   ·rintro ch w'' ⟨p,v,st',G',rfl,h1,h2,h3⟩
    exact H.out _ _ _ _ _ h1 h2 h3
   ·intro w'' h;exact h
  ·cases he
 ·next x hop =>
  split at he
  ·next t p hx =>
   have:=hu x
   rw[hx]at this
   have h2:=this
   obtain⟨v,hv,hp⟩:=this
   have hr:(execOp a.eval o).run P w = .halt (.panic (.iface t v)) w:=by
    simp[execOp,hop,hv,Instr.panic,goPanic]
   unfold Oper.wp
   rw[hr,Oper.upon_panic]
   rw[hv]at h2
   exact H.out _ _ _ _ _ he R h2
  ·cases he
 ·next c x y hop =>
  have pick:∀ b:Bool,a.eval c = .bool b->(execOp a.eval o).run P w = .ok (.value (if b then a.eval x else a.eval y)) w:=by
   intro b hb
   simp[execOp,hop,hb,asBool]
  split at he
  ·next b hc =>
   have hcv:a.eval c = .bool b:=by have:=R.get c;rw[hc]at this;exact this
   unfold Oper.wp
   rw[pick b hcv,Oper.upon_value]
   split at he
   ·cases he
   ·cases he
   ·exact H.on _ _ _ _ he (R.putV hf hd (hu x)) (Kept.put _)
   ·exact H.on _ _ _ _ he (R.putV hf hd (hu y)) (Kept.put _)
  ·next b hc =>
   have hcv:a.eval c = .bool b:=by have:=R.get c;rw[hc]at this;simpa [RT,RV,RD]using this
   split at he
   ·next s =>
    split at he
    ·next K1 yv K2 zv h1 h2 =>
     split at he
     ·next z hz =>
      obtain⟨e,hz⟩:=UR hz
      subst e
      subst hz
      unfold Oper.wp
      rw[pick b hcv,Oper.upon_value]
      refine H.on _ _ _ _ he (R.putV hf hd ?_) (Kept.put _)
      cases b with
      |true =>
       have:=R.use (Gd:=[(s,true)]) (fun q hq=>by simp at hq;subst hq;exact hcv) x
       rw[h1]at this
       exact this
      |false =>
       have:=R.use (Gd:=[(s,false)]) (fun q hq=>by simp at hq;subst hq;exact hcv) y
       rw[h2]at this
       exact this
     ·cases he
    ·cases he
   ·cases he
  ·cases he
 ·have he:(match Zh cx.ty (fun x=>QG [] (st.get x)) st.h (o.dst.getD 0) o.op with
   |some ev=>Jgi ev.chk (K none (putE st o.dst ev))
   |none=>none)=some r:=by
   cases hev:Zh cx.ty (fun x=>QG [] (st.get x)) st.h (o.dst.getD 0) o.op with
   |none=>rw[hev]at he;cases he
   |some ev =>
    rw[hev]at he
    simp only at he ⊢
    cases hs:Jur o.op with
    |true=>rw[hs,cond_true,J8J X]at he;exact he
    |false=>rw[hs]at he;exact he
  refine JGz X R hf hd ?_ he
  have e:J14 cx o st=(match Zh cx.ty (fun x=>QG [] (st.get x)) st.h (o.dst.getD 0) o.op with
   |some ev=>JH ev.hs
   |none=>[]):=by
   unfold J14
   split
   ·simp_all
   ·rfl
  rw[←e];exact H
end
end
section
open Go
variable {P:Program}
section
variable {w0:World} {fr:Nat->Prop} {X0:Org} {n:Nat} {ds:List Deferred} {st:St} {G:Gh} {a:Act} {w:World}
theorem JFt{ops:Array Oper}{j s:Nat}(hs:(match ops[j]? with|some oj=>oj.dst|none=>none)=some s): yielded ops a.tmps j=match a.tmps[s]? with|some (.bool b)=>some b|_=>none:=by
 unfold yielded
 have:(ops[j]?).bind (·.dst)=some s:=by
  cases h:ops[j]? with
  |none=>rw[h]at hs;cases hs
  |some o=>rw[h]at hs;simpa using hs
 rw[this]
 rfl
theorem Jl8{ops:Array Oper}{o:Oper}{j s:Nat}{wb:Bool}(hg:o.guard=some (j,wb))(hs:(match ops[j]? with|some oj=>oj.dst|none=>none)=some s):
 Region.wanted o (yielded ops a.tmps)=true↔JW a s = .bool wb:=by
 unfold Region.wanted
 rw[hg]
 simp only[JFt hs,JW,Array.getD_eq_getD_getElem?]
 cases h:a.tmps[s]? with
 |none=>simp[undef]
 |some v=>cases v<;>simp
theorem JI4 {cx:Ctx} (X:cx.Ok P) {R0:Type} {K:Option PV->St->Option R0} {r:R0} {o:Oper} {Gd:List (Nat×Bool)} {c:Bool}
 (R:Rel w0 fr X0 n ds st G a w) (hf:∀ b,fr b->b<w0.heap.size) (he:Jbi cx Gd c o st K=some r) :
 ∃ p st',Pvm.putO st o.dst Gd c p=some st'∧K none st'=some r∧(Uj (JW a) Gd->c=true->∃ v w',(execOp a.eval o).run P w = .ok (.value v) w'∧Still w w'∧RV st.h G w' p v):=by
 unfold Jbi at he
 simp only at he
 split at he
 ·next c' x y hop =>
  split at he
  ·next s =>
   split at he
   ·next b hc =>
    split at he
    ·next K1 yv K2 zv h1 h2 =>
     split at he
     ·next z hz =>
      obtain⟨e,hz⟩:=UR hz
      subst e
      subst hz
      split at he
      ·next st' hp =>
       refine⟨_,st',hp,he,fun hG hct => ?_⟩
       have hcv:a.eval (.tmp s) = .bool b:=by have:=R.use hG (.tmp s);rw[hc]at this;simpa [RV,RD]using this
       refine⟨if b then a.eval x else a.eval y,w,by simp[execOp,hop,hcv,asBool],.refl w,?_⟩
       cases b with
       |true =>
        have:=R.use (Gd:=(s,true)::Gd) (fun q hq=>by rcases List.mem_cons.1 hq with rfl|hq<;>first|exact hcv|exact hG q hq) x
        rw[h1]at this
        exact this
       |false =>
        have:=R.use (Gd:=(s,false)::Gd) (fun q hq=>by rcases List.mem_cons.1 hq with rfl|hq<;>first|exact hcv|exact hG q hq) y
        rw[h2]at this
        exact this
      ·cases he
     ·cases he
    ·cases he
   ·cases he
  ·cases he
 ·split at he
  ·next ev hev =>
   split at he
   ·next hh hm =>
    split at he
    ·next st' hp =>
     have hk:K none st'=some r∧(c=true->U5 ev.chk=true):=by
      split at he
      ·next hk=>rw[hk];exact⟨he,fun _=>rfl⟩
      ·next b hk =>
       rw[hk]
       cases hb:(!c || b)with
       |false=>rw[hb]at he;cases he
       |true =>
        rw[hb]at he
        refine⟨he,fun hc => ?_⟩
        subst hc
        have:b=true:=by simpa using hb
        exact this
     refine⟨ev.val,st',hp,hk.1,fun hG hct => ?_⟩
     exact Jqz X.ty R.obj (R.toDis hf).xlt (fun x=>R.use hG x) hev (hk.2 hct) hh hm
    ·cases he
   ·cases he
  ·cases he
def QI(P:Program)(ops:Array Oper)(o:Oper)(a:Act)(w:World)(next:Act->World->Prop)(Q:Exit->Act->World->Prop): Prop :=
 if Region.wanted o (yielded ops a.tmps)then o.wp P a w next Q else next (a.put o.dst undef) w
theorem Jvh{st st':St}{d:Option Nat}{G:List (Nat×Bool)}{c:Bool}{p:PV}(h:Pvm.putO st d G c p=some st'): st'.h=st.h:=by
 unfold Pvm.putO at h
 split at h
 ·next d =>
  cases hb:J2s d G with
  |true=>rw[hb]at h;cases h
  |false=>rw[hb]at h;cases h;rfl
 ·cases h;rfl
theorem Jt2 {cx:Ctx} (X:cx.Ok P) {R0:Type} {K:Option PV->St->Option R0} {r:R0} {ops:Array Oper} {o:Oper} {Gd:List (Nat×Bool)} {c:Bool} {Q:Exit->Act->World->Prop} {next:Act->World->Prop}
 (R:Rel w0 fr X0 n ds st G a w) (hf:∀ b,fr b->b<w0.heap.size) (hd:∀ i,o.dst=some i->i<n) {tn:List Nm} (H:Goes w0 fr X0 n ds st.h G w tn K r a next Q) (he:Jbi cx Gd c o st K=some r)
 (hw:Region.wanted o (yielded ops a.tmps)=true↔Uj (JW a) Gd) (hc:Uj (JW a) Gd->c=true):QI P ops o a w next Q:=by
 obtain⟨p,st',h1,h2,h3⟩:=JI4 X R hf he
 unfold QI
 split
 ·next h =>
  have hG:=hw.1 h
  obtain⟨v,w',e1,e2,e3⟩:=h3 hG (hc hG)
  unfold Oper.wp
  rw[e1,Oper.upon_value]
  refine H.on _ _ _ _ h2 (R.putO hf hd e2 (fun _=>⟨hc hG,e3⟩) (fun h=>absurd hG h) h1) ?_
  rw[Jvh h1]
  exact(Loud.still R.obj (R.toDis hf) e2).kept (VarKept.ext R.obj e2.blk _)
 ·next h =>
  have hG:¬ Uj (JW a) Gd:=fun hg=>h (hw.2 hg)
  refine H.on _ _ _ _ h2 (R.putO hf hd (.refl w) (fun h=>absurd h hG) (fun _=>rfl) h1) ?_
  rw[Jvh h1]
  exact Kept.refl _ _ _ _
theorem JqD{t:Nat->PV}: ∀ {g:List (Nat×Bool)} {s:Nat} {w b:Bool},JaG t g=some (s,w,b)->(s,w)∈g∧t s = .v .bool b
 |[],s,w,b,h=>by cases h
 |(s',w')::r,s,w,b,h=>by
  rw[JaG]at h
  split at h
  ·next b' hb =>
   cases h
   exact⟨List.mem_cons_self,hb⟩
  ·obtain⟨h1,h2⟩:=JqD h
   exact⟨List.mem_cons_of_mem _ h1,h2⟩
theorem JtQ {cx:Ctx} (X:cx.Ok P) {R0:Type} {K:Option PV->St->Option R0} {r:R0} {ops:Array Oper} {o:Oper} {Q:Exit->Act->World->Prop} {next:Act->World->Prop}
 (R:Rel w0 fr X0 n ds st G a w) (hf:∀ b,fr b->b<w0.heap.size) (hd:∀ i,o.dst=some i->i<n) {again:St->(Option PV->St->Option R0)->Option R0} {tag:St->List Nm}
 (hag:∀ {st':St},Rel w0 fr X0 n ds st' G a w->Goes w0 fr X0 n ds st'.h G w (tag st') K r a next Q->again st' K=some r->QI P ops o a w next Q)
 (H:Goes w0 fr X0 n ds st.h G w (J17 cx ops o tag st) K r a next Q) (he:Jg2 cx ops o again st K=some r):QI P ops o a w next Q:=by
 unfold Jg2 at he
 split at he
 ·next hg =>
  unfold QI
  rw[if_pos (by simp[Region.wanted,hg])]
  have e:J17 cx ops o tag st=J14 cx o st:=by unfold J17;rw[hg]
  rw[e]at H
  exact Jmy X R hf hd H he
 ·next j wb hg =>
  split at he
  ·cases he
  ·next s hs =>
   have hw:=Jl8 (a:=a) hg hs
   have hv:=R.tm s
   split at he
   ·next b hb =>
    rw[hb]at hv
    have hv:JW a s = .bool b:=hv
    split at he
    ·next hbw =>
     have:b=wb:=by simpa using hbw
     subst this
     unfold QI
     rw[if_pos (hw.2 hv)]
     have e:J17 cx ops o tag st=J14 cx o st:=by unfold J17;simp only[hg,hs,hb]
     rw[e]at H
     exact Jmy X R hf hd H he
    ·next hbw =>
     have hne:¬ Region.wanted o (yielded ops a.tmps)=true:=by
      rw[hw,hv]
      intro e
      simp at e
      rw[e]at hbw
      simp at hbw
     unfold QI
     rw[if_neg hne]
     exact H.on _ _ _ _ he (R.putV hf hd (p := .tup []) ⟨[],rfl,rfl⟩) (Kept.put _)
   ·next b hb =>
    rw[hb]at hv
    have hv:JW a s ≠ .bool b:=hv
    split at he
    ·next hbw =>
     have:b=wb:=by simpa using hbw
     subst this
     unfold QI
     rw[if_neg (by rw[hw];exact hv)]
     exact H.on _ _ _ _ he (R.putV hf hd (p := .tup []) ⟨[],rfl,rfl⟩) (Kept.put _)
    ·cases he
   ·next hb =>
    rw[hb]at hv
    obtain⟨vs,hv,hvs⟩:∃ vs:List Value,JW a s = .tuple vs.toArray∧RVs st.h G w [] vs:=hv
    unfold QI
    rw[if_neg (by rw[hw,hv];simp)]
    exact H.on _ _ _ _ he (R.putV hf hd (p := .tup []) ⟨[],rfl,rfl⟩) (Kept.put _)
   ·next b hb =>
    rw[hb]at hv
    have hv:JW a s = .bool b:=by simpa [RT,RV,RD]using hv
    cases hq:(quiet o.op || JfI o.op)with
    |true =>
     rw[hq,cond_true]at he
     refine Jt2 X R hf hd H he ?_ ?_
     ·rw[hw]
      constructor
      ·intro e x hx;simp at hx;subst hx;exact e
      ·intro hG;exact hG (s,wb) (by simp)
     ·intro hG
      have:=hG (s,wb) (by simp)
      simp only[hv]at this
      simpa using this
    |false =>
     rw[hq,cond_false]at he
     cases hbw:(b == wb)with
     |true =>
      have:b=wb:=by simpa using hbw
      subst this
      rw[hbw,cond_true]at he
      unfold QI
      rw[if_pos (hw.2 hv)]
      have e:J17 cx ops o tag st=J14 cx o ⟨Zj st.t s b,st.h⟩:=by unfold J17;simp only[hg,hs,hb]
      rw[e]at H
      exact Jmy X (R.know hf hv) hf hd H he
     |false =>
      rw[hbw,cond_false]at he
      have hne:¬ b=wb:=by simpa using hbw
      have hv2:JW a s = .bool (!wb):=by rw[hv];cases b<;>cases wb<;>simp_all
      unfold QI
      rw[if_neg (by rw[hw,hv];simpa using hne)]
      exact H.on _ _ _ _ he ((R.know hf hv2).putV hf hd (p := .tup []) ⟨[],rfl,rfl⟩) (Kept.put (st:=⟨Zj st.t s (!wb),st.h⟩) _)
   ·next g c b hb =>
    rw[hb]at hv
    cases hq:(quiet o.op || JfI o.op)with
    |false =>
     rw[hq,cond_false]at he
     split at he
     ·next s1 w1 b1 hsp =>
      obtain⟨hm,hb1⟩:=JqD hsp
      have h1:=R.tm s1
      rw[hb1]at h1
      have h1:JW a s1 = .bool b1:=by simpa [RT,RV,RD]using h1
      have hta:J17 cx ops o tag st=tag ⟨Zj st.t s1 w1,st.h⟩:=by unfold J17;simp only[hg,hs,hb,hsp]
      cases hbw:(b1 == w1)with
      |true =>
       have e:b1=w1:=by simpa using hbw
       subst e
       rw[hbw,cond_true]at he
       rw[hta]at H
       exact hag (R.know hf h1) H he
      |false =>
       rw[hbw,cond_false]at he
       have hne:¬ b1=w1:=by simpa using hbw
       have h2:JW a s1 = .bool (!w1):=by rw[h1];cases b1<;>cases w1<;>simp_all
       have hno:¬ Uj (JW a) g:=fun hh=>by
        have:=hh (s1,w1) hm
        simp only[h1]at this
        exact hne (by simpa using this)
       have hu:=hv.2 hno
       unfold QI
       rw[if_neg (by rw[hw,hu];simp[undef])]
       exact H.on _ _ _ _ he ((R.know hf h2).putV hf hd (p := .tup []) ⟨[],rfl,rfl⟩) (Kept.put (st:=⟨Zj st.t s1 (!w1),st.h⟩) _)
     ·cases he
    |true =>
     rw[hq,cond_true]at he
     refine Jt2 X R hf hd H he ?_ ?_
     ·rw[hw]
      constructor
      ·intro e x hx
       have hg:Uj (JW a) g:=by
        refine Classical.byContradiction fun hn => ?_
        have:=hv.2 hn
        rw[e]at this
        simp[undef]at this
       rcases List.mem_cons.1 hx with rfl|hx
       ·exact e
       ·exact hg x hx
      ·intro hG;exact hG (s,wb) (by simp)
     ·intro hG
      have h1:=hG (s,wb) (by simp)
      have h2:=hv.1 fun x hx=>hG x (by simp[hx])
      have h3:JW a s = .bool b:=by simpa [RV,RD]using h2.2
      simp only[h3]at h1
      have:b=wb:=by simpa using h1
      rw[h2.1,this];simp
   ·cases he
theorem JtR {cx:Ctx} (X:cx.Ok P) {R0:Type} {K:Option PV->St->Option R0} {r:R0} {ops:Array Oper} {o:Oper} {Q:Exit->Act->World->Prop} {next:Act->World->Prop}
 (hf:∀ b,fr b->b<w0.heap.size) (hd:∀ i,o.dst=some i->i<n):∀(m:Nat) {st:St},Rel w0 fr X0 n ds st G a w->Goes w0 fr X0 n ds st.h G w (JfK cx ops o m st) K r a next Q->Jg3 cx ops o m st K=some r->QI P ops o a w next Q
 |0,st,R,H,he=>JtQ X R hf hd (again:=fun _ _=>none) (tag:=fun _=>[]) (fun _ _ h=>by cases h) H he
 |m+1,st,R,H,he=>JtQ X R hf hd (again:=Jg3 cx ops o m) (tag:=JfK cx ops o m) (fun R' H' he'=>JtR X hf hd m R' H' he') H he
theorem JaK {cx:Ctx} (X:cx.Ok P) {R0:Type} {K:Option PV->St->Option R0} {r:R0} {ops:Array Oper} {o:Oper} {Q:Exit->Act->World->Prop} {next:Act->World->Prop}
 (R:Rel w0 fr X0 n ds st G a w) (hf:∀ b,fr b->b<w0.heap.size) (hd:∀ i,o.dst=some i->i<n) (H:Goes w0 fr X0 n ds st.h G w (J1y cx ops o st) K r a next Q) (he:J5W cx ops o st K=some r):QI P ops o a w next Q :=
 JtR X hf hd 6 R H he
theorem Jux {cx:Ctx} (X:cx.Ok P) {R0:Type} {K:Option PV->St->Option R0} {r:R0} {ops:Array Oper} {Q:Exit->Act->World->Prop} (hf:∀ b,fr b->b<w0.heap.size)
 (hQ:∀ st' G' a' w',K none st'=some r->Rel w0 fr X0 n ds st' G' a' w'->Q .normal a' w')
 (hp:∀ p v st' G' a' w',K (some p) st'=some r->Rel w0 fr X0 n ds st' G' a' w'->RV st'.h G' w' p v->Q (.panic [{ v,recovered:=false }]) a' w') :
 ∀(l:List Oper) {st:St} {G:Gh} {a:Act} {w:World},Rel w0 fr X0 n ds st G a w->(∀ o∈l,∀ i,o.dst=some i->i<n)->Jgj cx ops l st K=some r->wpList P ops Q l a w
 |[],st,G,a,w,R,hd,he=>hQ _ _ _ _ he R
 |o::rest,st,G,a,w,R,hd,he=>by
  rw[Jgj]at he
  have this:QI P ops o a w (wpList P ops Q rest) Q:=by
   refine JaK X R hf (hd o (by simp)) ?_ he
   exact⟨fun st' G' a' w' h1 h2 _=>Jux X hf hQ hp rest h2 (fun o' ho'=>hd o' (by simp[ho'])) h1,fun p v st' G' w' h1 h2 h3=>hp _ _ _ _ _ _ h1 h2 h3⟩
  unfold QI at this
  unfold wpList
  split
  ·next h=>rw[if_pos h]at this;exact .inl this
  ·next h=>rw[if_neg h]at this;exact this
end
end
section
open Go
def J2I(P:Program){α : Type}(s:Sem α): Prop:=∀ w w1 a,s.run P w ≠ .ok a w1
def JV(P:Program){α : Type}(s:Sem α): Prop:=∀ w w1 a,s.run P w = .ok a w1->∀ w',s.run P w' = .ok a w'
section
variable {P:Program} {α β : Type}
theorem Jt3{s:Sem α}(h:JV P s){w w1:World}{a : α}(hr:s.run P w = .ok a w1): w1=w:=by
 have:=h w w1 a hr w
 rw[hr]at this
 cases this;rfl
theorem J0n{s:Sem α}(h:J2I P s): JV P s:=fun w w1 a hr=>absurd hr (h w w1 a)
theorem Jb8(s:Sem α)(f : α -> Sem β)(w:World): (s >>= f).run P w=match s.run P w with | .ok a w1=>(f a).run P w1 | .halt h w1 => .halt h w1:=by
 rw[Sem.run_bind]
 cases s.run P w<;>rfl
theorem JG{s:Sem α}{f : α -> Sem β}(h:JV P s)(hf:∀ a,JV P (f a)): JV P (s >>= f):=by
 intro w w1 b hr w'
 rw[Jb8]at hr ⊢
 cases hs:s.run P w with
 |ok a w2 =>
  rw[hs]at hr
  rw[h w w2 a hs w']
  exact hf a w2 w1 b hr w'
 |halt x w2=>rw[hs]at hr;cases hr
theorem Jvi{s:Sem α}{f : α -> Sem β}(h:J2I P s): J2I P (s >>= f):=by
 intro w w1 b hr
 rw[Jb8]at hr
 cases hs:s.run P w with
 |ok a w2=>exact h _ _ _ hs
 |halt x w2=>rw[hs]at hr;cases hr
theorem J5h{s:Sem α}{f : α -> Sem β}(hf:∀ a,J2I P (f a)): J2I P (s >>= f):=by
 intro w w1 b hr
 rw[Jb8]at hr
 cases hs:s.run P w with
 |ok a w2=>rw[hs]at hr;exact hf a _ _ _ hr
 |halt x w2=>rw[hs]at hr;cases hr
theorem JS(a : α): JV P (pure a:Sem α):=by intro w w1 b hr w';simp at hr ⊢;exact hr.1
theorem Jf4(h:Halt): J2I P (.halt h:Sem α):=by intro w w1 a hr;rw[Sem.run]at hr;cases hr
theorem Jt4(h:Halt): JV P (.halt h:Sem α):=J0n (Jf4 h)
theorem Qy(s:String): JV P (stuck s:Sem α):=Jt4 _
theorem J8s(s:Unsupported): JV P (unsupported s:Sem α):=Jt4 _
theorem J56(v:Value): J2I P (goPanic v:Sem α):=Jf4 _
theorem JqE:JV P program:=by intro w w1 a hr w';simp[program,Sem.run]at hr ⊢;exact hr.1
theorem Jd6(e:RuntimeError): J2I P (runtimePanic e:Sem α):=by
 unfold runtimePanic
 refine J5h fun p => ?_
 split
 ·exact J56 _
 ·exact J56 _
 ·exact J56 _
 ·exact J56 _
 ·exact J5h fun _=>J5h fun _=>J56 _
 ·exact J5h fun _=>J5h fun _=>J56 _
 ·exact J56 _
theorem J4B(k:IntKind)(x y:Int)(c:BoundsCode): J2I P (boundsPanic k x y c:Sem α):=by
 unfold boundsPanic
 split
 ·exact J5h fun _=>Jd6 _
 ·exact J5h fun _=>Jd6 _
theorem Y6(t:TypeId): JV P (underlying t):=by
 unfold underlying
 refine JG JqE fun p => ?_
 split
 ·exact JS _
 ·exact Qy _
theorem JpR(t:TypeId): JV P (typeInfo t):=by
 unfold typeInfo
 refine JG JqE fun p => ?_
 split
 ·exact JS _
 ·exact Qy _
theorem J00(t:TypeId): JV P (sizeOf t):=JG (JpR t) fun _=>JS _
theorem Jiz(t:TypeId): JV P (zeroValue t):=by
 unfold zeroValue
 refine JG (JpR t) fun i => ?_
 split
 ·exact JS _
 ·exact J8s _
theorem Jsg(t:TypeId): JV P (isAgg t):=by
 unfold isAgg
 refine JG (Y6 t) fun i => ?_
 split<;>exact JS _
theorem Jt5(t:TypeId)(cs:Array Value)(off:Nat): JV P (part t cs off):=by
 unfold part
 refine JG (Jsg t) fun i => ?_
 split
 ·exact JG (J00 t) fun _=>JS _
 ·split
  ·exact JS _
  ·exact Qy _
theorem Jjr(v:Value): JV P (asIntOf v):=by unfold asIntOf;split<;>first|exact JS _|exact Qy _|exact J8s _
theorem JEA(v:Value): JV P (asBool v):=by unfold asBool;split<;>first|exact JS _|exact Qy _
theorem JFu(v:Value): JV P (asAgg v):=by unfold asAgg;split<;>first|exact JS _|exact Qy _
theorem JpS(v:Value): JV P (Instr.sureAddr v):=by unfold Instr.sureAddr;split<;>first|exact JS _|exact Qy _
theorem JFv(t:TypeId)(x:Value)(f:Nat): JV P (Instr.field t x f):=by
 unfold Instr.field
 refine JG (Y6 t) fun d => ?_
 split
 ·split
  ·exact JG (JFu _) fun _=>Jt5 _ _ _
  ·exact Qy _
 ·exact Qy _
theorem JFw(t:TypeId)(x i:Value): JV P (Instr.index t x i):=by
 unfold Instr.index
 refine JG (Jjr i) fun ki => ?_
 refine JG (Y6 t) fun d => ?_
 split
 ·split
  ·exact JG (J00 _) fun _=>Jt5 _ _ _
  ·exact J0n (J4B _ _ _ _)
 ·split
  ·exact JS _
  ·exact J0n (J4B _ _ _ _)
 ·exact Qy _
theorem JDf(t:TypeId)(x i:Value): JV P (Instr.indexAt t x i):=by
 unfold Instr.indexAt
 refine JG (Jjr i) fun ki => ?_
 refine JG (Y6 t) fun d => ?_
 dsimp only
 split
 ·refine JG (JpS _) fun _=>JG (JS _) fun q => ?_
  obtain⟨b,n,e⟩:=q
  refine JG (Y6 t) fun d => ?_
  split
  ·split
   ·exact JG (J00 _) fun _=>JS _
   ·split<;>(split<;>first|exact J8s _|exact J0n (J4B _ _ _ _))
  ·exact J0n (J4B _ _ _ _)
 ·refine JG (JS _) fun q => ?_
  obtain⟨b,n,e⟩:=q
  refine JG (Y6 t) fun d => ?_
  split
  ·split
   ·exact JG (J00 _) fun _=>JS _
   ·split<;>(split<;>first|exact J8s _|exact J0n (J4B _ _ _ _))
  ·exact J0n (J4B _ _ _ _)
 ·exact J0n (Jvi (Jf4 _))
theorem JDg(v:Value)(i:Nat): JV P (Instr.extract v i):=by
 unfold Instr.extract
 split
 ·split
  ·exact JS _
  ·exact Qy _
 ·exact Qy _
theorem JHj(ts:Array TypeId)(r:TypeId)(t:TypeId)(A:Option Addr)(n c:Nat): JV P (Builtin.len_ #[t] r #[.slice A n c]):=by
 unfold Builtin.len_
 simp
 refine JG (Y6 t) fun d => ?_
 split<;>first|exact JS _|exact Qy _|exact JG (Y6 _) fun d=>(by split<;>first|exact JS _|exact Qy _)|(rename_i hq;cases hq)
theorem JEB(ts:Array TypeId)(r:TypeId)(t:TypeId)(s:ByteArray): JV P (Builtin.len_ #[t] r #[.string s]):=by
 unfold Builtin.len_
 simp
 refine JG (Y6 t) fun d => ?_
 split<;>first|exact JS _|exact Qy _|exact JG (Y6 _) fun d=>(by split<;>first|exact JS _|exact Qy _)|(rename_i hq;cases hq)
theorem Jkx(x:Value)(y:Nat)(c:BoundsCode): JV P (Instr.sliceBound x y c):=by
 unfold Instr.sliceBound
 refine JG (Jjr _) fun d => ?_
 obtain⟨k,i⟩:=d
 dsimp only
 split
 ·exact JS _
 ·exact J0n (J4B _ _ _ _)
theorem JFx(op:BinOp)(t:TypeId)(k k':IntKind)(a b:Int): JV P (binOp op t (.int k a) (.int k' b)):=by
 unfold binOp
 cases op<;>simp only[]<;>first
  |(unfold Op.shift;split;exact J0n (Jd6 _);exact JS _)
  |(split
    ·exact Qy _
    ·first
      |exact JS _
      |(unfold Op.intDiv;split;exact J0n (Jd6 _);exact JS _))
theorem JFy(op:BinOp)(t:TypeId)(a b:ByteArray): JV P (binOp op t (.string a) (.string b)):=by
 unfold binOp
 cases op<;>simp only[]<;>unfold Op.stringOp<;>simp only[]<;>first
  |exact JS _
  |exact Qy _
  |(split<;>first|exact JS _|exact J8s _)
theorem JFz(op:BinOp)(t:TypeId)(x y:Operand)(k k':IntKind)(a b:Int): JV P (eqGuard op t x y (.int k a) (.int k' b)):=by
 unfold eqGuard
 split<;>exact JS _
theorem JEC(op:BinOp)(t:TypeId)(x y:Operand)(a b:ByteArray): JV P (eqGuard op t x y (.string a) (.string b)):=by
 unfold eqGuard
 split<;>exact JS _
end
end
section
open Go
section
variable {P:Program} {ty:TypeId->Option TI} {h:Je} {G:Gh} {w:World}
theorem JlC{p:PV}{v:Value}(hp:RV h G w p v)(hi:JmR p=true): ∃ a,v = .pointer (some a):=by
 cases p with
 |ptr n o=>exact⟨_,hp.1⟩
 |elp K xs i o=>obtain⟨ad,rfl,_⟩:=hp;exact⟨_,rfl⟩
 |elq K xs i o=>obtain⟨ad,rfl,_⟩:=hp;exact⟨_,rfl⟩
 |lp K x o=>obtain⟨ad,rfl,_⟩:=hp;exact⟨_,rfl⟩
 |elr n i o=>obtain⟨e,K,xs,g,_,_,_,rfl⟩:=hp;exact⟨_,rfl⟩
 |_=>cases hi
theorem JtS{p:PV}{v:Value}(hp:RV h G w p v)(hi:Jg4 p=true): ∃ k n,v = .int k n:=by
 unfold Jg4 at hi
 split at hi
 ·next k x=>exact⟨k,x,by simpa [RV,RD]using hp⟩
 ·cases hi
theorem JtT{p:PV}{v:Value}(hp:RV h G w p v)(hi:Jg5 p=true): ∃ s,v = .string s:=by
 unfold Jg5 at hi
 split at hi
 ·next x=>exact⟨_,by simpa [RV,RD]using hp⟩
 ·cases hi
theorem JtU(obj:∀ n o,h n=some o->RO h G w n o){p:PV}{v:Value}(hp:RV h G w p v)(hi:Jg6 p=true): (∃ s,v = .string s)∨∃ A n c,v = .slice A n c:=by
 unfold Jg6 at hi
 split at hi
 ·exact .inl ⟨_,by simpa [RV,RD]using hp⟩
 ·obtain⟨A,cap,h1,_⟩:=hp
  simp at h1
  exact .inr ⟨A,_,cap,h1⟩
 ·exact .inr ⟨_,_,_,hp⟩
 ·next n =>
  obtain⟨rfl,e,K,xs,hn⟩:=hp
  obtain⟨A,cap,hrv,_⟩:=J1C (obj _ _ hn)
  exact .inr ⟨A,_,cap,hrv⟩
 ·obtain⟨A,cap,h1,_⟩:=hp
  exact .inr ⟨A,_,cap,h1⟩
 ·cases hi
theorem ZB{s:Sem Value}(h:JV P s): JV P (do pure (Next.value (←s))):=JG h fun _=>JS _
theorem Jt6{α β : Type}(f : α -> Sem β)(hf:∀ a,JV P (f a)): ∀ l:List α,JV P (l.mapM f)
 |[]=>by rw[List.mapM_nil];exact JS _
 |a::r=>by rw[List.mapM_cons];exact JG (hf a) fun _=>JG (Jt6 f hf r) fun _=>JS _
theorem JHk{α β : Type}(f : α -> Sem β)(hf:∀ a,JV P (f a))(l:Array α): JV P (l.mapM f):=by
 rw[Array.mapM_eq_mapM_toList]
 intro w w1 a hr w'
 rw[Sem.run_map]at hr ⊢
 cases hs:(l.toList.mapM f).run P w with
 |ok b w2 =>
  rw[hs]at hr
  rw[Jt6 f hf l.toList w w2 b hs w']
  simp at hr ⊢
  exact hr.1
 |halt x w2=>rw[hs]at hr;simp at hr
theorem JFA(t:TypeId)(ps:Array (Nat×Value)): JV P (Instr.build t ps):=by
 unfold Instr.build
 refine JG (Jiz t) fun z=>JG (Y6 t) fun d => ?_
 split
 ·refine JG (JHk _ (fun f=>JG (J00 _) fun _=>JS _) _) fun pl => ?_
  split
  ·exact JS _
  ·exact Qy _
 ·refine JG (J00 _) fun pl => ?_
  split
  ·exact JS _
  ·exact Qy _
 ·exact Qy _
theorem JI5(op:UnOp)(v:Value): JV P (Op.unary op v):=by
 unfold Op.unary
 split<;>first|exact JS _|exact Qy _|exact J8s _
theorem JGA(t:TypeId)(v:Value): JV P (Instr.makeInterface t v):=by
 unfold Instr.makeInterface
 refine JG (Y6 t) fun d => ?_
 split
 ·exact Qy _
 ·exact JS _
theorem J80(n c:Nat)(lo hi:Option Value)(b:Bool): JV P (Instr.sliceBounds b n c lo hi none):=by
 unfold Instr.sliceBounds
 refine JG (JS _) fun m => ?_
 dsimp only
 have last:∀ hh:Nat,JV P (match lo with
  |some v=>do
   let l ←Instr.sliceBound v hh (if(none:Option Value).isSome=true then BoundsCode.slice3C else BoundsCode.sliceB)
   pure (l,hh,m)
  |none=>do
   let l ←pure 0
   pure (l,hh,m)):=by
  intro hh
  split
  ·exact JG (Jkx _ _ _) fun _=>JS _
  ·exact JS _
 split
 ·exact JG (Jkx _ _ _) fun hh=>last hh
 ·exact JG (Jkx _ _ _) fun hh=>last hh
 ·exact JG (JS _) fun hh=>last hh
 ·exact JG (Qy _) fun hh=>last hh
theorem JDh(t:TypeId)(s:ByteArray)(lo hi:Option Value): JV P (Instr.sliceAt t (.string s) lo hi none):=by
 unfold Instr.sliceAt
 refine JG (Y6 t) fun d => ?_
 split
 ·exact JG (Qy _) fun _=>JG (J80 _ _ _ _ _) fun q=>JG (J00 _) fun _=>JS _
 ·unfold Instr.slice
  refine JG (Y6 t) fun d => ?_
  split
  ·exact JG (J80 _ _ _ _ _) fun q=>JS _
  ·rename_i hq;cases hq
  ·refine JG ?_ fun _ => ?_
   ·unfold asAddr
    exact Qy _
   ·refine JG (Y6 _) fun d => ?_
    split
    ·exact JG (J80 _ _ _ _ _) fun q=>JG (J00 _) fun _=>JS _
    ·exact Qy _
  ·exact Qy _
theorem JED(t:TypeId)(A:Option Addr)(n c:Nat)(lo hi:Option Value): JV P (Instr.sliceAt t (.slice A n c) lo hi none):=by
 unfold Instr.sliceAt
 refine JG (Y6 t) fun d => ?_
 split
 ·exact JG (Qy _) fun _=>JG (J80 _ _ _ _ _) fun q=>JG (J00 _) fun _=>JS _
 ·unfold Instr.slice
  refine JG (Y6 t) fun d => ?_
  split
  ·rename_i hq;cases hq
  ·next hq =>
   cases hq
   exact JG (J80 _ _ _ _ _) fun q=>JG (J00 _) fun _=>JS _
  ·refine JG ?_ fun _ => ?_
   ·unfold asAddr
    exact Qy _
   ·refine JG (Y6 _) fun d => ?_
    split
    ·exact JG (J80 _ _ _ _ _) fun q=>JG (J00 _) fun _=>JS _
    ·exact Qy _
  ·exact Qy _
mutual
theorem Jm6{h':Je}{G':Gh}{w':World}: ∀(p:PV) {v:Value},Un p=true->RV h G w p v->RV h' G' w' p v
 |.v K x,v,hf,hp=>RD.plain (by simpa [Un]using hf) hp
 |.nilsl,v,_,hp=>hp
 |.nilptr,v,_,hp=>hp
 |.nilif,v,_,hp=>hp
 |.agg cs,v,hf,hp=>by
  obtain⟨vs,rfl,hr⟩:=hp
  exact⟨vs,rfl,flats_ok cs (by simpa [Un]using hf) hr⟩
 |.kb _,v,hf,_=>by simp[Un]at hf
 |.ng _,v,hf,_=>by simp[Un]at hf
 |.ptr _ _,v,hf,_=>by simp[Un]at hf
 |.nps _ _,v,hf,_=>by simp[Un]at hf
 |.row _,v,hf,_=>by simp[Un]at hf
 |.elp _ _ _ _,v,hf,_=>by simp[Un]at hf
 |.bv _ _,v,hf,_=>by simp[Un]at hf
 |.elq _ _ _ _,v,hf,_=>by simp[Un]at hf
 |.lp _ _ _,v,hf,_=>by simp[Un]at hf
 |.elr _ _ _,v,hf,_=>by simp[Un]at hf
 |.ifc _ _,v,hf,_=>by simp[Un]at hf
 |.tup _,v,hf,_=>by simp[Un]at hf
 |.clo _ _,v,hf,_=>by simp[Un]at hf
 |.opt _ _ _,v,hf,_=>by simp[Un]at hf
 |.un,v,hf,_=>by simp[Un]at hf
theorem flats_ok{h':Je}{G':Gh}{w':World}: ∀(ps:List PV) {vs:List Value},flats ps=true->RVs h G w ps vs->RVs h' G' w' ps vs
 |[],vs,_,hp=>hp
 |p::r,vs,hf,hp=>by
  simp only[flats,Bool.and_eq_true]at hf
  obtain⟨v,l,rfl,hv,hl⟩:=hp
  exact⟨v,l,rfl,Jm6 p hf.1 hv,flats_ok r hf.2 hl⟩
end
theorem JGB(T:Qg P ty){op:BinOp}{t:TypeId}{x y:Operand}{p q:PV}{v u:Value}(hp:RV h G w p v)(hq:RV h G w q u)(fp:Un p=true)(fq:Un q=true)(he:JmS (Jb6 ty t op (Zg x || Zg y) p q)=true):
 JV P (do eqGuard op t x y v u;binOp op t v u):=by
 unfold JmS at he
 split at he
 ·next b hev =>
  have key:∀ w':World,(do eqGuard op t x y v u;binOp op t v u:Sem Value).run P w' = .ok (.bool b) w':=by
   intro w'
   obtain⟨e1,r,e2,e3,_⟩:=Jly (P:=P) (w:=w') T hev (Jm6 (h':=h) (G':=G) (w':=w') p fp hp) (Jm6 (h':=h) (G':=G) (w':=w') q fq hq) rfl
   have:r = .bool b:=by simpa [RV,RD]using e3
   subst this
   rw[Sem.run_bind,e1]
   exact e2
  intro w1 w2 a hr w'
  rw[key]at hr ⊢
  cases hr;rfl
 ·cases he
theorem JGC(T:Qg P ty)(obj:∀ n o,h n=some o->RO h G w n o){u:Operand->PV}{ρ : Operand->Value}(hu:∀ x,RV h G w (u x) (ρ x)){o:Oper}(hc:Jay ty u o.op=true): JV P (execOp ρ o):=by
 unfold Jay at hc
 split at hc
 ·next ho=>simp only[execOp,ho];exact JS _
 ·next ho=>simp only[execOp,ho];exact JS _
 ·next ho=>simp only[execOp,ho];exact JG (JEA _) fun _=>JS _
 ·next ho=>simp only[execOp,ho];exact ZB (JFv _ _ _)
 ·next ho=>simp only[execOp,ho];exact ZB (JFw _ _ _)
 ·next ho=>simp only[execOp,ho];exact ZB (JDf _ _ _)
 ·next ho=>simp only[execOp,ho];exact ZB (JDg _ _)
 ·next ho=>simp only[execOp,ho];exact ZB (JGA _ _)
 ·next ho=>simp only[execOp,ho];exact ZB (JFA _ _)
 ·next x ho =>
  obtain⟨a,ha⟩:=JlC (hu x) hc
  simp only[execOp,ho,ha];exact JS _
 ·next x y yt ho =>
  simp only[Bool.or_eq_true,Bool.and_eq_true]at hc
  rcases hc with(⟨h1,h2⟩|⟨h1,h2⟩)|⟨⟨h1,h2⟩,h3⟩
  rotate_right
  ·simp only[execOp,ho]
   exact ZB (JGB T (hu x) (hu y) h1 h2 h3)
  ·obtain⟨k,a,ha⟩:=JtS (hu x) h1
   obtain⟨k',b,hb⟩:=JtS (hu y) h2
   simp only[execOp,ho,ha,hb]
   exact ZB (JG (JFz _ _ _ _ _ _ _ _) fun _=>JFx _ _ _ _ _ _)
  ·obtain⟨a,ha⟩:=JtT (hu x) h1
   obtain⟨b,hb⟩:=JtT (hu y) h2
   simp only[execOp,ho,ha,hb]
   exact ZB (JG (JEC _ _ _ _ _ _) fun _=>JFy _ _ _ _)
 ·next ho=>simp only[execOp,ho];exact ZB (JI5 _ _)
 ·next s x f ho =>
  simp only[Bool.and_eq_true]at hc
  obtain⟨a,ha⟩:=JlC (hu x) hc.1
  have h2:=hc.2
  split at h2
  ·next o' fi hf =>
   obtain⟨fs,fl,hd,hfl,rfl,ht⟩:=Jkr T hf
   have hz:fi.size≠0:=fun e=>by rw[e]at h2;cases h2
   simp only[execOp,ho,ha]
   refine ZB ?_
   intro w1 w2 r hr w'
   have key:∀ w,(Instr.fieldAt s (.pointer (some a)) f).run P w = .ok (.pointer (some (a.add fl.offset))) w:=by
    intro w
    simp[Instr.fieldAt,run_underlying hd,hfl,Instr.sureAddr,fieldPlace,ht.size w,hz]
   rw[key]at hr ⊢
   cases hr;rfl
  ·cases h2
 ·next t x lo hi mx ho =>
  simp only[Bool.and_eq_true]at hc
  have hm:mx=none:=by simpa using hc.1
  subst hm
  rcases JtU obj (hu x) hc.2 with⟨a,ha⟩|⟨A,n,c,ha⟩
  ·simp only[execOp,ho,ha,Option.map_none]
   exact ZB (JDh _ _ _ _)
  ·simp only[execOp,ho,ha,Option.map_none]
   exact ZB (JED _ _ _ _ _ _)
 ·next args ts ho =>
  split at hc
  ·next x ha =>
   have e1:args = #[x]:=by apply Array.ext';simpa using ha
   subst e1
   simp only[Bool.and_eq_true]at hc
   have hs:ts.size=1:=by simpa using hc.1
   obtain⟨t,ht⟩:=Array.size_eq_one_iff.1 hs
   subst ht
   have:JV P (Builtin.len_ #[t] o.type #[ρ x]):=by
    rcases JtU obj (hu x) hc.2 with⟨s,hs⟩|⟨A,n,c,hs⟩
    ·rw[hs];exact JEB #[] _ _ _
    ·rw[hs];exact JHj #[] _ _ _ _ _
   have e2:execOp ρ o=(do pure (Next.value (←Builtin.len_ #[t] o.type #[ρ x]))):=by
    simp[execOp,ho,resolve,invoke,builtin]
   rw[e2]
   exact ZB this
  ·cases hc
 ·cases hc
end
end
section
open Go
structure Ext (w w':World):Prop where
 blk:∀ b,b<w.heap.size->w'.heap[b]? = w.heap[b]?
 grow:w.heap.size≤w'.heap.size
theorem Ext.refl(w:World): Ext w w:=⟨fun _ _=>rfl,Nat.le_refl _⟩
theorem Ext.trans{w w1 w2:World}(h:Ext w w1)(h':Ext w1 w2): Ext w w2 :=
 ⟨fun b hb=>(h'.blk b (Nat.lt_of_lt_of_le hb h.grow)).trans (h.blk b hb),Nat.le_trans h.grow h'.grow⟩
structure ExtP (PB:Nat->Prop) (w w':World):Prop where
 blk:∀ b,PB b->b<w.heap.size->w'.heap[b]? = w.heap[b]?
 grow:w.heap.size≤w'.heap.size
theorem ExtP.refl(PB:Nat->Prop)(w:World): ExtP PB w w:=⟨fun _ _ _=>rfl,Nat.le_refl _⟩
theorem ExtP.mono{PB PB':Nat->Prop}{w w':World}(hp:∀ b,PB b->PB' b)(h:ExtP PB' w w'): ExtP PB w w':=⟨fun b hb hl=>h.blk b (hp b hb) hl,h.grow⟩
theorem Still.ext{w w':World}(h:Still w w'): Ext w w':=⟨h.blk,h.grow⟩
section
variable {P:Program} {ops:Array Oper} {Q:Exit->Act->World->Prop} {md:Region.Mode} {S:World->Prop} {ds:List Nat} {PB:Nat->Prop}
def Region.reachB(md:Region.Mode)(ops:Array Oper)(i:Nat): Nat->Nat->Bool
 |0,_=>false
 |fuel+1,d=>match ops[d]? with
  |some o=>o.after.any fun e=>Region.binds md e&&(e.on == i || Region.reachB md ops i fuel e.on)
  |none=>false
def ListedClosed(md:Region.Mode)(ops:Array Oper)(listed:Array Bool): Prop :=
 ∀ j oj,ops[j]? = some oj->listed.getD j false=true->∀ e∈oj.after,Region.binds md e=true->listed.getD e.on false=true
theorem ListedClosed.set{listed:Array Bool}{i:Nat}(h:ListedClosed md ops listed)(hi:i∈Region.ready md ops listed): ListedClosed md ops (listed.setIfInBounds i true):=by
 obtain⟨_,oi,hoi,hall⟩:=mem_ready.1 hi
 intro j oj hj hl e he hb
 by_cases hij:i=j
 ·subst hij
  have:oj=oi:=Option.some.inj (hj.symm.trans hoi)
  subst this
  exact getD_set_true (hall e he hb)
 ·rw[getD_set_ne false hij]at hl
  exact getD_set_true (h j oj hj hl e he hb)
theorem Region.reach_listed{listed:Array Bool}{i:Nat}(hc:ListedClosed md ops listed): ∀(fuel d:Nat),Region.reachB md ops i fuel d=true->listed.getD d false=true->listed.getD i false=true
 |0,_,h,_=>by simp[Region.reachB]at h
 |fuel+1,d,h,hl=>by
  unfold Region.reachB at h
  cases ho:ops[d]? with
  |none=>rw[ho]at h;simp at h
  |some o =>
   rw[ho]at h
   obtain⟨e,he,h1⟩:=Array.any_eq_true'.1 h
   simp only[Bool.and_eq_true,Bool.or_eq_true,beq_iff_eq]at h1
   have hle:=hc d o ho hl e he h1.1
   rcases h1.2 with h2|h2
   ·rw[←h2];exact hle
   ·exact Region.reach_listed hc fuel e.on h2 hle
theorem Region.reach_not_ready{listed:Array Bool}{i d fuel:Nat}(hc:ListedClosed md ops listed)(hr:Region.reachB md ops i fuel d=true)(hun:listed.getD i true=false): d ∉ Region.ready md ops listed:=by
 intro hd
 obtain⟨_,o,ho,hall⟩:=mem_ready.1 hd
 have hi:listed.getD i false=true:=by
  cases fuel with
  |zero=>simp[Region.reachB]at hr
  |succ n =>
   unfold Region.reachB at hr
   rw[ho]at hr
   obtain⟨e,he,h1⟩:=Array.any_eq_true'.1 hr
   simp only[Bool.and_eq_true,Bool.or_eq_true,beq_iff_eq]at h1
   have hle:=hall e he h1.1
   rcases h1.2 with h2|h2
   ·rw[←h2];exact hle
   ·exact Region.reach_listed hc n e.on h2 hle
 rcases Nat.lt_or_ge i listed.size with h'|h'
 ·simp[h']at hun hi
  rw[hun]at hi
  cases hi
 ·simp[Array.getElem?_eq_none h']at hun
def Yb(P:Program)(md:Region.Mode)(ops:Array Oper)(Q:Exit->Act->World->Prop)(ds:List Nat)(PB:Nat->Prop): Nat->Array Bool->Act->World->Prop
 |0,listed,a,w=>Region.ready md ops listed=[]∧Q .normal a w
 |fuel+1,listed,a,w =>
  (Region.ready md ops listed=[]->Q .normal a w) ∧
  ∀ i∈Region.ready md ops listed,wpOp P ops Q i (fun a' w'=>(i ∉ ds->Ext w w')∧ExtP PB w w'∧Yb P md ops Q ds PB fuel (listed.setIfInBounds i true) a' w') a w
theorem Jsh:∀(fuel:Nat) (listed:Array Bool) (a:Act) (w:World),Yb P md ops Q ds PB fuel listed a w->wpAny P md ops Q fuel listed a w
 |0,_,_,_,h=>h
 |fuel+1,_,_,_,h=>⟨h.1,fun i hi=>wpOp_mono (fun a' w' h'=>Jsh fuel _ a' w' h'.2.2) (h.2 i hi)⟩
theorem JDi (hSE:∀ w w',S w->Ext w w'->S w') {i:Nat} {oi:Oper} {v:Value} (hi:ops[i]? = some oi) (hsel:∀(j:Nat) (o:Oper) cs b,ops[j]? = some o->o.op ≠ .select cs b)
 (hQ:∀ c a w,Q (.panic c) (a.put oi.dst v) w->Q (.panic c) a w) (n:Nat) :
 ∀(fuel:Nat) (listed:Array Bool) (a:Act) (w:World),
  (∀ j oj,ops[j]? = some oj->j≠i->listed.getD j true=false->(∀ e∈oj.after,Region.binds md e=true->e.on≠i)->oi.apart ops oj=true) ->
  ListedClosed md ops listed->(∀ d∈ds,listed.getD d true=false->Region.reachB md ops i n d=true) ->
  i∈Region.ready md ops listed->YieldsIf P ops S oi v a->S w ->
  Yb P md ops Q ds PB fuel (listed.setIfInBounds i true) (a.put oi.dst v) w->Yb P md ops Q ds PB (fuel+1) listed a w:=by
 intro fuel
 induction fuel with
 |zero =>
  intro listed a w _ _ _ hr hy hS H
  refine⟨fun h=>(by rw[h]at hr;cases hr),fun j hj => ?_⟩
  by_cases hji:j=i
  ·subst hji;exact hy.wpOp hi hS ⟨fun _=>Ext.refl _,ExtP.refl _ _,H⟩
  ·have:=ready_mono hj hji
   rw[H.1]at this
   cases this
 |succ fuel ih =>
  intro listed a w hfree hc hd hr hy hS H
  refine⟨fun h=>(by rw[h]at hr;cases hr),fun j hj => ?_⟩
  by_cases hji:j=i
  ·subst hji;exact hy.wpOp hi hS ⟨fun _=>Ext.refl _,ExtP.refl _ _,H⟩
  ·have h1:=H.2 j (ready_mono hj hji)
   obtain⟨hjun,oj,hoj,hall⟩:=mem_ready.1 hj
   have hiun:=(mem_ready.1 hr).1
   have hnot:∀ e∈oj.after,Region.binds md e=true->e.on≠i:=fun e he hb heq=>by
    have h1:=hall e he hb
    rw[heq]at h1
    rcases Nat.lt_or_ge i listed.size with h'|h'
    ·simp[h']at hiun h1;rw[hiun]at h1;cases h1
    ·simp[Array.getElem?_eq_none h']at h1
   have hjd:j ∉ ds:=fun hm=>Region.reach_not_ready hc (hd j hm hjun) hiun hj
   have h2:=wpOp_putIf hoj (hfree j oj hoj hji hjun hnot) (fun cs b=>hsel i oi cs b hi) (fun cs b=>hsel j oj cs b hoj) hQ hy h1
   have hfree':∀ k ok,ops[k]? = some ok->k≠i->(listed.setIfInBounds j true).getD k true=false ->
    (∀ e∈ok.after,Region.binds md e=true->e.on≠i)->oi.apart ops ok=true:=fun k ok hk hki hun hno=>by
    refine hfree k ok hk hki ?_ hno
    by_cases hjk:j=k
    ·subst hjk;exact hjun
    ·rw[getD_set_ne true hjk]at hun;exact hun
   have hd':∀ d∈ds,(listed.setIfInBounds j true).getD d true=false->Region.reachB md ops i n d=true:=fun d hm hun=>by
    refine hd d hm ?_
    by_cases hjk:j=d
    ·subst hjk;exact hjun
    ·rw[getD_set_ne true hjk]at hun;exact hun
   refine wpOp_mono (fun a' w' h3=>⟨h3.2.1,h3.2.2.1,ih (listed.setIfInBounds j true) a' w' hfree' (hc.set hj) hd' (ready_mono hr (Ne.symm hji)) h3.1 (hSE _ _ hS (h3.2.1 hjd)) ?_⟩) h2
   rw[Array.setIfInBounds_comm _ _ hji]
   exact h3.2.2.2
theorem JFB {i:Nat} {oi:Oper} {v:Value} (hi:ops[i]? = some oi) (hsel:∀(j:Nat) (o:Oper) cs b,ops[j]? = some o->o.op ≠ .select cs b)
 (hQ:∀ c a w,Q (.panic c) (a.put oi.dst v) w->Q (.panic c) a w) :
 ∀(fuel:Nat) (listed:Array Bool) (a:Act) (w:World),
  (∀ j oj,ops[j]? = some oj->j≠i->listed.getD j true=false->(∀ e∈oj.after,Region.binds md e=true->e.on≠i)->oi.apart ops oj=true) ->
  i∈Region.ready md ops listed->Yields P ops oi v a ->
  Yb P md ops Q ds PB fuel (listed.setIfInBounds i true) (a.put oi.dst v) w->Yb P md ops Q ds PB (fuel+1) listed a w:=by
 intro fuel
 induction fuel with
 |zero =>
  intro listed a w _ hr hy H
  refine⟨fun h=>(by rw[h]at hr;cases hr),fun j hj => ?_⟩
  by_cases hji:j=i
  ·subst hji;exact(hy.yieldsIf (S:=fun _=>True)).wpOp hi trivial ⟨fun _=>Ext.refl _,ExtP.refl _ _,H⟩
  ·have:=ready_mono hj hji
   rw[H.1]at this
   cases this
 |succ fuel ih =>
  intro listed a w hfree hr hy H
  refine⟨fun h=>(by rw[h]at hr;cases hr),fun j hj => ?_⟩
  by_cases hji:j=i
  ·subst hji;exact(hy.yieldsIf (S:=fun _=>True)).wpOp hi trivial ⟨fun _=>Ext.refl _,ExtP.refl _ _,H⟩
  ·have h1:=H.2 j (ready_mono hj hji)
   obtain⟨hjun,oj,hoj,hall⟩:=mem_ready.1 hj
   have hiun:=(mem_ready.1 hr).1
   have hnot:∀ e∈oj.after,Region.binds md e=true->e.on≠i:=fun e he hb heq=>by
    have h1:=hall e he hb
    rw[heq]at h1
    rcases Nat.lt_or_ge i listed.size with h'|h'
    ·simp[h']at hiun h1;rw[hiun]at h1;cases h1
    ·simp[Array.getElem?_eq_none h']at h1
   have h2:=wpOp_put hoj (hfree j oj hoj hji hjun hnot) (fun cs b=>hsel i oi cs b hi) (fun cs b=>hsel j oj cs b hoj) hQ hy h1
   have hfree':∀ k ok,ops[k]? = some ok->k≠i->(listed.setIfInBounds j true).getD k true=false ->
    (∀ e∈ok.after,Region.binds md e=true->e.on≠i)->oi.apart ops ok=true:=fun k ok hk hki hun hno=>by
    refine hfree k ok hk hki ?_ hno
    by_cases hjk:j=k
    ·subst hjk;exact hjun
    ·rw[getD_set_ne true hjk]at hun;exact hun
   refine wpOp_mono (fun a' w' h3=>⟨h3.2.1,h3.2.2.1,ih (listed.setIfInBounds j true) a' w' hfree' (ready_mono hr (Ne.symm hji)) h3.1 ?_⟩) h2
   rw[Array.setIfInBounds_comm _ _ hji]
   exact h3.2.2.2
theorem Jk1{PB':Nat->Prop}(hp:∀ b,PB b->PB' b): ∀(fuel:Nat) (listed:Array Bool) (a:Act) (w:World),Yb P md ops Q ds PB' fuel listed a w->Yb P md ops Q ds PB fuel listed a w
 |0,_,_,_,h=>h
 |fuel+1,_,_,_,h=>⟨h.1,fun i hi=>wpOp_mono (fun a' w' h'=>⟨h'.1,h'.2.1.mono hp,Jk1 hp fuel _ a' w' h'.2.2⟩) (h.2 i hi)⟩
theorem JDj {PB':Nat->Prop} (hp:∀ b,PB b->PB' b) (hSE:∀ w w',S w->ExtP PB' w w'->S w') {i:Nat} {oi:Oper} {v:Value} (hi:ops[i]? = some oi) (hsel:∀(j:Nat) (o:Oper) cs b,ops[j]? = some o->o.op ≠ .select cs b)
 (hQ:∀ c a w,Q (.panic c) (a.put oi.dst v) w->Q (.panic c) a w) :
 ∀(fuel:Nat) (listed:Array Bool) (a:Act) (w:World),
  (∀ j oj,ops[j]? = some oj->j≠i->listed.getD j true=false->(∀ e∈oj.after,Region.binds md e=true->e.on≠i)->oi.apart ops oj=true) ->
  i∈Region.ready md ops listed->YieldsIf P ops S oi v a->S w ->
  Yb P md ops Q ds PB' fuel (listed.setIfInBounds i true) (a.put oi.dst v) w->Yb P md ops Q ds PB (fuel+1) listed a w:=by
 intro fuel
 induction fuel with
 |zero =>
  intro listed a w _ hr hy hS H
  refine⟨fun h=>(by rw[h]at hr;cases hr),fun j hj => ?_⟩
  by_cases hji:j=i
  ·subst hji;exact hy.wpOp hi hS ⟨fun _=>Ext.refl _,ExtP.refl _ _,Jk1 hp _ _ _ _ H⟩
  ·have:=ready_mono hj hji
   rw[H.1]at this
   cases this
 |succ fuel ih =>
  intro listed a w hfree hr hy hS H
  refine⟨fun h=>(by rw[h]at hr;cases hr),fun j hj => ?_⟩
  by_cases hji:j=i
  ·subst hji;exact hy.wpOp hi hS ⟨fun _=>Ext.refl _,ExtP.refl _ _,Jk1 hp _ _ _ _ H⟩
  ·have h1:=H.2 j (ready_mono hj hji)
   obtain⟨hjun,oj,hoj,hall⟩:=mem_ready.1 hj
   have hiun:=(mem_ready.1 hr).1
   have hnot:∀ e∈oj.after,Region.binds md e=true->e.on≠i:=fun e he hb heq=>by
    have h1:=hall e he hb
    rw[heq]at h1
    rcases Nat.lt_or_ge i listed.size with h'|h'
    ·simp[h']at hiun h1;rw[hiun]at h1;cases h1
    ·simp[Array.getElem?_eq_none h']at h1
   have h2:=wpOp_putIf hoj (hfree j oj hoj hji hjun hnot) (fun cs b=>hsel i oi cs b hi) (fun cs b=>hsel j oj cs b hoj) hQ hy h1
   have hfree':∀ k ok,ops[k]? = some ok->k≠i->(listed.setIfInBounds j true).getD k true=false ->
    (∀ e∈ok.after,Region.binds md e=true->e.on≠i)->oi.apart ops ok=true:=fun k ok hk hki hun hno=>by
    refine hfree k ok hk hki ?_ hno
    by_cases hjk:j=k
    ·subst hjk;exact hjun
    ·rw[getD_set_ne true hjk]at hun;exact hun
   refine wpOp_mono (fun a' w' h3=>⟨h3.2.1,h3.2.2.1.mono hp,ih (listed.setIfInBounds j true) a' w' hfree' (ready_mono hr (Ne.symm hji)) h3.1 (hSE _ _ hS h3.2.2.1) ?_⟩) h2
   rw[Array.setIfInBounds_comm _ _ hji]
   exact h3.2.2.2
theorem JEE {id:Nat} {a:Act} {w:World} (hm:P.follows .mixedOrders=true)
 (h:Yb P .any ops Q ds PB ops.size (Array.replicate ops.size false) a { w with drawn:=w.drawn+1 }):(Code.region id ops true).wp P Q a w :=
 wp_region_any hm (Jsh _ _ _ _ h)
end
end
section
open Go
variable {P:Program}
section
variable {ty:TypeId->Option TI} {h:Je} {G:Gh} {w:World} {ev:Ev}
theorem JHl{ti:TI}{t:TypeId}(ht:TiOk P t ti){A:Addr}{off:Nat}{cs:List PV}{vs:List Value}{p:PV}(he:J3v ti off cs=some p)(hr:RVs h G w cs vs):
 ∃ v,RV h G w p v∧∀ w':World,(∀ j u,vs[off+j]? = some u->w'.cell? (A.add j)=some u)->(loadVar t A).run P w' = .ok v w':=by
 unfold J3v at he
 split at he
 ·next hk =>
  cases hb:Nat.ble (off+ti.size) cs.length with
  |false=>rw[hb]at he;cases he
  |true =>
   rw[hb]at he;cases he
   have hb:=Nat.le_of_ble_eq_true hb
   have hl:((vs.drop off).take ti.size).length=ti.size:=by rw[List.length_take,List.length_drop,hr.length];omega
   refine⟨.agg ((vs.drop off).take ti.size).toArray,⟨(vs.drop off).take ti.size,rfl,(hr.drop off).take _⟩,fun w' hc => ?_⟩
   have hag:=ht.agg w'
   simp only[TI.isAg,hk]at hag
   have hrun:=run_loadCells_list (P:=P) w' A ((vs.drop off).take ti.size) (fun j v hj=>by
    rw[List.getElem?_take]at hj
    split at hj
    ·rw[List.getElem?_drop]at hj;exact hc j v hj
    ·cases hj)
   rw[hl]at hrun
   simp only[loadVar,Sem.run_bind,hag,Result.andThen_ok,if_true,ht.size w',Sem.run_pure,hrun]
 ·next hk =>
  have hf:ti.isAg=false:=by unfold TI.isAg;cases hk2:ti.k<;>simp_all
  obtain⟨v,hv,hp⟩:=hr.get off p he
  refine⟨v,hp,fun w' hc => ?_⟩
  have hag:=ht.agg w'
  rw[hf]at hag
  have:=hc 0 v (by simpa using hv)
  rw[Addr.add_zero']at this
  simp[loadVar,hag,load,Sem.run,this]
theorem Jrr(T:Qg P ty){ti:TI}{t:TypeId}(ht:ty t=some ti)(obj:∀ n o,h n=some o->RO h G w n o){p:PV}{v:Value}(he:J8H ti h p=some ev)(hp:RV h G w p v):
 ∃ u A,v = .pointer (some A)∧A.block<w.heap.size∧∀ w':World,w'.heap[A.block]? = w.heap[A.block]? -> (Instr.loadAt t v).run P w' = .ok u w':=by
 unfold J8H at he
 split at he
 ·next cs off hcs =>
  split at he
  ·next q hq =>
   have key:∃ A vs,v = .pointer (some A)∧A.block<w.heap.size∧RVs h G w cs vs∧∀ j u,vs[off+j]? = some u->w.cell? (A.add j)=some u:=by
    unfold JlX at hcs
    split at hcs
    ·next n o =>
     split at hcs
     ·next t' cs' hn =>
      simp only[Option.some.injEq,Prod.mk.injEq]at hcs
      obtain⟨rfl,rfl⟩:=hcs
      obtain⟨rfl,_⟩:=hp
      obtain⟨vs,hw,hr⟩:=obj _ _ hn
      refine⟨_,vs,rfl,(Array.getElem?_eq_some_iff.1 hw).1,hr,fun j u hj => ?_⟩
      rw[Addr.add_lit]
      simp only[World.cell?,hw]
      simpa using hj
     ·cases hcs
    ·next K xs i o =>
     simp only[Option.some.injEq,Prod.mk.injEq]at hcs
     obtain⟨rfl,rfl⟩:=hcs
     obtain⟨ad,rfl,hi,hb,hlt,hr⟩:=hp
     obtain⟨c,hc,hu⟩:=hr i (xs.getD i K.zero) (by simp[List.getD,hi])
     refine⟨_,c,rfl,by rw[J0s];exact hlt,J02 hc,fun j u hj => ?_⟩
     rw[Addr.add_add,Nat.add_assoc]
     exact hu _ _ hj
    ·next K xs i o =>
     simp only[Option.some.injEq,Prod.mk.injEq]at hcs
     obtain⟨rfl,rfl⟩:=hcs
     obtain⟨ad,rfl,hi,hb,hlt,hr⟩:=hp
     obtain⟨c,hc,hu⟩:=hr i (xs.getD i K.zero) (by simp[List.getD,hi])
     refine⟨_,c,rfl,by rw[J0s];exact hlt,J02 hc,fun j u hj => ?_⟩
     rw[Addr.add_add,Nat.add_assoc]
     exact hu _ _ hj
    ·next K x o =>
     simp only[Option.some.injEq,Prod.mk.injEq]at hcs
     obtain⟨rfl,rfl⟩:=hcs
     obtain⟨ad,rfl,hb,hlt,hr⟩:=hp
     obtain⟨c,hc,hu⟩:=hr 0 x rfl
     refine⟨_,c,rfl,by rw[J0s];exact hlt,J02 hc,fun j u hj => ?_⟩
     rw[Addr.add_add]
     have:=hu _ _ hj
     rwa [Nat.zero_mul,Nat.zero_add]at this
    ·next n i o =>
     split at hcs
     ·next e K xs hn =>
      simp only[Option.some.injEq,Prod.mk.injEq]at hcs
      obtain⟨rfl,rfl⟩:=hcs
      obtain⟨e',K',xs',g,hn',hi,hg,rfl⟩:=hp
      rw[hn]at hn'
      simp only[Option.some.injEq,HObj.row.injEq]at hn'
      obtain⟨rfl,rfl,hx⟩:=hn'
      have hx:=eq_of_heq hx
      subst hx
      have hlt:g<w.heap.size:=RO.lt hn (obj _ _ hn) (by simp[Jd,hn,hg])
      obtain⟨vs,hown,hr,_⟩:=obj _ _ hn
      obtain⟨c,hc,hu⟩:=hr.get i (xs.getD i K.zero) (by simp[List.getD,hi])
      refine⟨_,c,rfl,hlt,J02 hc,fun j u hj => ?_⟩
      have:=hown.cells hg _ _ (hu _ _ hj)
      rw[Addr.add_lit]at this ⊢
      rw[←this]
      congr 2
      omega
     ·cases hcs
    ·cases hcs
   obtain⟨A,vs,rfl,hlt,hr,hc⟩:=key
   obtain⟨u,_,hu⟩:=JHl (A:=A) (T _ _ ht) hq hr
   refine⟨u,A,rfl,hlt,fun w' hw' => ?_⟩
   have:=hu w' fun j x hj=>by
    rw[World.cell?_of_block (w:=w) (by rw[J0s];exact hw')]
    exact hc j x hj
   simp[Instr.loadAt,Instr.sureAddr,this]
  ·cases he
 ·cases he
end
def J05(P:Program){α : Type}(s:Sem α): Prop:=∀ w w1 a,s.run P w = .ok a w1->Ext w w1
section
variable {α β : Type}
theorem J0S{s:Sem α}(h:JV P s): J05 P s:=fun w w1 a hr=>by rw[Jt3 h hr];exact .refl w
theorem Yn{s:Sem α}{f : α -> Sem β}(h:J05 P s)(hf:∀ a,J05 P (f a)): J05 P (s >>= f):=by
 intro w w1 b hr
 rw[Jb8]at hr
 cases hs:s.run P w with
 |ok a w2=>rw[hs]at hr;exact(h _ _ _ hs).trans (hf a _ _ _ hr)
 |halt x w2=>rw[hs]at hr;cases hr
theorem J11(a : α): J05 P (pure a:Sem α):=J0S (JS a)
theorem Jpg(t:TypeId)(c:Array Value): J05 P (newRow t c):=by
 intro w w1 a hr
 simp[newRow,newObj,Sem.run]at hr
 obtain⟨_,rfl⟩:=hr
 refine⟨fun b hb => ?_,by simp⟩
 show(w.heap.push _)[b]? = _
 rw[Array.getElem?_push_lt hb]
 exact(Array.getElem?_eq_getElem hb).symm
theorem Jph(t:TypeId)(v:Value): J05 P (newVar t v):=Jpg _ _
end
theorem JDk{ρ : Operand->Value}{o:Oper}(hg:J2t o.op=true): J05 P (execOp ρ o):=by
 unfold J2t at hg
 split at hg
 ·next t ho =>
  simp only[execOp,ho]
  refine Yn ?_ fun _=>J11 _
  unfold Instr.alloc
  refine Yn (J0S (Jiz t)) fun z => ?_
  exact Yn (Jph _ _) fun _=>J11 _
 ·next t x ho =>
  simp only[execOp,ho]
  refine Yn ?_ fun _=>J11 _
  exact Yn (Jph _ _) fun _=>J11 _
 ·next t n ps ho =>
  simp only[execOp,ho]
  refine Yn ?_ fun _=>J11 _
  unfold Instr.buildSlice
  refine Yn (J0S (Y6 t)) fun d => ?_
  split
  ·next elem =>
   refine Yn (J0S (J00 _)) fun z => ?_
   have last:∀ zero:Array Value,J05 P (do
    let some cells:=Instr.fill (fun i=>some (i*z,z)) ((Array.range (n*z)).map (zero[· % zero.size]!)) ((ps.map fun(i,x)=>(i,ρ x)).toList)
     |stuck "buildSlice: a part of the wrong size"
    pure (Value.slice (some (←newRow elem cells)) n n)):=by
    intro zero
    split
    ·exact Yn (Jpg _ _) fun _=>J11 _
    ·exact J0S (Qy _)
   dsimp only
   split
   ·exact J0S (J0n (Jvi (Jf4 _)))
   ·split
    ·exact Yn (J11 _) fun zero=>last zero
    ·exact Yn (J0S (Jiz _)) fun zz=>Yn (J11 _) fun zero=>last zero
  ·exact J0S (Qy _)
 ·cases hg
def J5F(P:Program)(s:Sem Next): Prop:=∀ w nx w',s.run P w = .ok nx w'->∃ v,nx = .value v
theorem JaA(v:Value): J5F P (pure (.value v)):=by intro w nx w' hr;simp at hr;exact⟨v,hr.1.symm⟩
theorem JtV{α : Type}{s:Sem α}{f : α -> Sem Next}(hf:∀ a,J5F P (f a)): J5F P (s >>= f):=by
 intro w nx w' hr
 rw[Jb8]at hr
 cases hs:s.run P w with
 |ok a w2=>rw[hs]at hr;exact hf a _ _ _ hr
 |halt x w2=>rw[hs]at hr;cases hr
theorem YV(s:Sem Value): J5F P (do pure (Next.value (←s))):=JtV fun _=>JaA _
theorem Jk2{ty:TypeId->Option TI}{u:Operand->PV}{ρ : Operand->Value}{o:Oper}{h:Je}{G:Gh}{w:World}(hu:∀ x,RV h G w (u x) (ρ x))(hc:Jay ty u o.op=true∨Yo o.op=true): J5F P (execOp ρ o):=by
 rcases hc with hc|hc
 ·unfold Jay at hc
  split at hc
  ·next ho=>simp only[execOp,ho];exact JaA _
  ·next ho=>simp only[execOp,ho];exact JaA _
  ·next ho=>simp only[execOp,ho];exact JtV fun _=>JaA _
  ·next ho=>simp only[execOp,ho];exact YV _
  ·next ho=>simp only[execOp,ho];exact YV _
  ·next ho=>simp only[execOp,ho];exact YV _
  ·next ho=>simp only[execOp,ho];exact YV _
  ·next ho=>simp only[execOp,ho];exact YV _
  ·next ho=>simp only[execOp,ho];exact YV _
  ·next x ho =>
   obtain⟨a,ha⟩:=JlC (hu x) hc
   simp only[execOp,ho,ha];exact JaA _
  ·next ho=>simp only[execOp,ho];exact YV _
  ·next ho=>simp only[execOp,ho];exact YV _
  ·next ho=>simp only[execOp,ho];exact YV _
  ·next ho=>simp only[execOp,ho];exact YV _
  ·next args ts ho =>
   have e2:execOp ρ o=(do pure (Next.value (←Builtin.len_ ts o.type (args.map ρ)))):=by
    simp[execOp,ho,resolve,invoke,builtin]
   rw[e2];exact YV _
  ·cases hc
 ·unfold Yo at hc
  split at hc
  ·next ho=>simp only[execOp,ho];exact YV _
  ·cases hc
end
section
open Go
variable {P:Program}
theorem Jmz(m i:Nat): bit m i=m.testBit i:=by
 unfold bit Nat.testBit
 show Nat.beq ((m >>> i) &&& 1) 1=(1 &&& (m >>> i) != 0)
 rw[Nat.and_comm 1]
 have:(m >>> i) &&& 1=(m >>> i) % 2:=Nat.and_one_is_mod _
 rw[this]
 rcases Nat.mod_two_eq_zero_or_one (m >>> i)with h|h<;>rw[h]<;>rfl
theorem JaL(m i j:Nat): bit (J1N m i) j=(decide (j=i) || bit m j):=by
 rw[Jmz,Jmz]
 unfold J1N
 show(m ||| (1 <<< i)).testBit j=_
 rw[Nat.testBit_or,Nat.one_shiftLeft,Nat.testBit_two_pow]
 by_cases h:j=i
 ·subst h;simp
 ·simp[h,Ne.symm h]
theorem J8t(i:Nat): bit 0 i=false:=by rw[Jmz];simp
def Tells(n mask:Nat)(listed:Array Bool): Prop:=listed.size=n∧(∀ j,j<n->listed[j]? = some (bit mask j))∧∀ j,bit mask j=true->j<n
theorem Tells.getD{n mask:Nat}{listed:Array Bool}(h:Tells n mask listed){j:Nat}(hj:j<n)(d:Bool): listed.getD j d=bit mask j:=by
 rw[Array.getD_eq_getD_getElem?,h.2.1 j hj];rfl
theorem Tells.set{n mask:Nat}{listed:Array Bool}(h:Tells n mask listed){i:Nat}(hi:i<n): Tells n (J1N mask i) (listed.setIfInBounds i true):=by
 refine⟨by simp[h.1],fun j hj => ?_,fun j hj => ?_⟩
 ·rw[Array.getElem?_setIfInBounds,JaL]
  by_cases hij:i=j
  ·subst hij;simp[h.1,hj]
  ·rw[if_neg hij,h.2.1 j hj];simp[Ne.symm hij]
 ·rw[JaL,Bool.or_eq_true]at hj
  rcases hj with hj|hj
  ·have:j=i:=by simpa using hj
   omega
  ·exact h.2.2 j hj
theorem Tells.start(n:Nat): Tells n 0 (Array.replicate n false):=by
 refine⟨by simp,fun j hj => ?_,fun j hj=>by rw[J8t]at hj;cases hj⟩
 rw[J8t];simp[hj]
theorem Jjs{m:Nat}: ∀ {l:List Edge},J3u m l=true->∀ e∈l,Region.binds .any e=true->bit m e.on=true
 |[],_,e,he=>by cases he
 |a::r,h,e,he=>by
  simp only[J3u,Bool.and_eq_true,Bool.or_eq_true,Bool.not_eq_true']at h
  rcases List.mem_cons.1 he with rfl|he
  ·intro hb
   rcases h.1 with h1|h1
   ·rw[h1]at hb;cases hb
   ·exact h1
  ·exact Jjs h.2 e he
theorem Jrs{m:Nat}: ∀ {l:List Edge},J3u m l=false->∃ e∈l,Region.binds .any e=true∧bit m e.on=false
 |[],h=>by cases h
 |a::r,h=>by
  simp only[J3u,Bool.and_eq_false_iff,Bool.or_eq_false_iff,Bool.not_eq_false']at h
  rcases h with h|h
  ·exact⟨a,by simp,h.1,h.2⟩
  ·obtain⟨e,he,h1⟩:=Jrs h
   exact⟨e,by simp[he],h1⟩
theorem Jjt{i:Nat}: ∀ {l:List Edge},J8z i l=true->∃ e∈l,Region.binds .any e=true∧e.on=i
 |[],h=>by cases h
 |a::r,h=>by
  simp only[J8z,Bool.or_eq_true,Bool.and_eq_true]at h
  rcases h with h|h
  ·exact⟨a,by simp,h.1,Qj.1 h.2⟩
  ·obtain⟨e,he,h1⟩:=Jjt h
   exact⟨e,by simp[he],h1⟩
theorem JpT{m:Nat}: ∀ {l:List Edge},Jaz m l=true->∃ e∈l,Region.binds .any e=true∧bit m e.on=true
 |[],h=>by cases h
 |a::r,h=>by
  simp only[Jaz,Bool.or_eq_true,Bool.and_eq_true]at h
  rcases h with h|h
  ·exact⟨a,by simp,h.1,h.2⟩
  ·obtain⟨e,he,h1⟩:=JpT h
   exact⟨e,by simp[he],h1⟩
theorem JGD{ops:Array Oper}{j:Nat}{o:Oper}{r:List Oper}(h:ops.toList.drop j=o::r): ops[j]? = some o∧ops.toList.drop (j+1)=r:=by
 constructor
 ·have:(ops.toList.drop j)[0]? = some o:=by rw[h];rfl
  rw[List.getElem?_drop]at this
  simpa using this
 ·rw[←List.drop_drop,h];rfl
theorem Jsi{ops:Array Oper}{mask i:Nat}{oi:Oper}: ∀ {l:List Oper} {j:Nat},J5P ops mask i oi j l=true->∀ k oj,l[k]? = some oj->j+k≠i->bit mask (j+k)=false->(∀ e∈oj.after,Region.binds .any e=true->e.on≠i)->oi.apart ops oj=true
 |[],j,_,k,oj,h=>by simp at h
 |o::r,j,h,0,oj,hk=>by
  simp at hk;subst hk
  intro hne hun hno
  simp only[J5P,Bool.and_eq_true,Bool.or_eq_true]at h
  rcases h.1 with((h1|h1)|h1)|h1
  ·exact absurd (Qj.1 h1) hne
  ·rw[Nat.add_zero]at hun;rw[hun]at h1;cases h1
  ·obtain⟨e,he,h2,h3⟩:=Jjt h1
   exact absurd h3 (hno e (by simpa using he) h2)
  ·exact h1
 |o::r,j,h,k+1,oj,hk=>by
  simp only[J5P,Bool.and_eq_true]at h
  have:=Jsi (l:=r) (j:=j+1) h.2 k oj (by simpa using hk)
  rw[show j+(k+1)=j+1+k by omega]
  exact this
theorem Jrt{mask cov i:Nat}: ∀ {l:List Oper} {j:Nat},J8I mask cov i j l=true->∀ k oj,l[k]? = some oj->j+k≠i->bit mask (j+k)=false->bit cov (j+k)=false->∃ e∈oj.after,Region.binds .any e=true∧bit mask e.on=false
 |[],j,_,k,oj,h=>by simp at h
 |o::r,j,h,0,oj,hk=>by
  simp at hk;subst hk
  intro hne hun hcv
  simp only[J8I,Bool.and_eq_true,Bool.or_eq_true,Bool.not_eq_true']at h
  rcases h.1 with((h1|h1)|h1)|h1
  ·exact absurd (Qj.1 h1) hne
  ·rw[Nat.add_zero]at hun;rw[hun]at h1;cases h1
  ·rw[Nat.add_zero]at hcv;rw[hcv]at h1;cases h1
  ·obtain⟨e,he,h2⟩:=Jrs h1
   exact⟨e,by simpa using he,h2⟩
 |o::r,j,h,k+1,oj,hk=>by
  simp only[J8I,Bool.and_eq_true]at h
  have:=Jrt (l:=r) (j:=j+1) h.2 k oj (by simpa using hk)
  rw[show j+(k+1)=j+1+k by omega]
  exact this
theorem Jsj{mask W:Nat}: ∀ {l:List Oper} {j:Nat},J8P mask W j l=true->∀ k oj,l[k]? = some oj->wOp oj.op=true->bit mask (j+k)=false->bit W (j+k)=true
 |[],j,_,k,oj,h=>by simp at h
 |o::r,j,h,0,oj,hk=>by
  simp at hk;subst hk
  intro hw hun
  simp only[J8P,Bool.and_eq_true,Bool.or_eq_true,Bool.not_eq_true']at h
  rcases h.1 with(h1|h1)|h1
  ·rw[hw]at h1;cases h1
  ·rw[Nat.add_zero]at hun;rw[hun]at h1;cases h1
  ·exact h1
 |o::r,j,h,k+1,oj,hk=>by
  simp only[J8P,Bool.and_eq_true]at h
  have:=Jsj (l:=r) (j:=j+1) h.2 k oj (by simpa using hk)
  rw[show j+(k+1)=j+1+k by omega]
  exact this
theorem Jsk{mask:Nat}: ∀ {l:List Oper} {j:Nat},Jb7 mask j l=true->∀ k oj,l[k]? = some oj->bit mask (j+k)=true
 |[],j,_,k,oj,h=>by simp at h
 |o::r,j,h,0,oj,hk=>by
  simp only[Jb7,Bool.and_eq_true]at h
  exact h.1
 |o::r,j,h,k+1,oj,hk=>by
  simp only[Jb7,Bool.and_eq_true]at h
  have:=Jsk (l:=r) (j:=j+1) h.2 k oj (by simpa using hk)
  rw[show j+(k+1)=j+1+k by omega]
  exact this
theorem Jky{ops:Array Oper}{i:Nat}: ∀ {f g d:Nat},f≤g->Region.reachB .any ops i f d=true->Region.reachB .any ops i g d=true
 |0,g,d,_,h=>by simp[Region.reachB]at h
 |f+1,0,d,hl,h=>by omega
 |f+1,g+1,d,hl,h=>by
  rw[Region.reachB]at h ⊢
  split at h
  ·next o ho =>
   rw[Array.any_eq_true']at h ⊢
   obtain⟨e,he,h1⟩:=h
   simp only[Bool.and_eq_true,Bool.or_eq_true]at h1
   refine⟨e,he,?_⟩
   simp only[Bool.and_eq_true,Bool.or_eq_true]
   refine⟨h1.1,h1.2.imp id (Jky (by omega))⟩
  ·cases h
theorem Jru{ops:Array Oper}{i:Nat}: ∀(l:List Oper) (j W:Nat),ops.toList.drop j=l->(∀ d,bit W d=true->d<j∧Region.reachB .any ops i (d+1) d=true) ->
 ∀ d,bit (JaW i j l W) d=true->d<ops.size∧Region.reachB .any ops i (d+1) d=true
 |[],j,W,hl,hW,d,hd=>by
  obtain⟨h1,h2⟩:=hW d hd
  have hr:=h2
  rw[Region.reachB]at hr
  split at hr
  ·next o ho=>exact⟨(Array.getElem?_eq_some_iff.1 ho).1,h2⟩
  ·cases hr
 |o::r,j,W,hl,hW,d,hd=>by
  obtain⟨ho,hl'⟩:=JGD hl
  rw[JaW]at hd
  refine Jru r (j+1) _ hl' (fun d hd => ?_) d hd
  cases hc:(J8z i o.after.toList || Jaz W o.after.toList)with
  |false =>
   rw[hc]at hd
   obtain⟨h1,h2⟩:=hW d hd
   exact⟨by omega,h2⟩
  |true =>
   rw[hc,cond_true,JaL,Bool.or_eq_true]at hd
   rcases hd with hd|hd
   ·have hd:d=j:=by simpa using hd
    subst hd
    refine⟨by omega,?_⟩
    rw[Region.reachB,ho]
    rw[Bool.or_eq_true]at hc
    simp only[Array.any_eq_true',Bool.and_eq_true,Bool.or_eq_true,beq_iff_eq]
    rcases hc with hc|hc
    ·obtain⟨e,he,h1,h2⟩:=Jjt hc
     exact⟨e,by simpa using he,h1,.inl h2⟩
    ·obtain⟨e,he,h1,h2⟩:=JpT hc
     obtain⟨h3,h4⟩:=hW _ h2
     exact⟨e,by simpa using he,h1,.inr (Jky (by omega) h4)⟩
   ·obtain⟨h1,h2⟩:=hW d hd
    exact⟨by omega,h2⟩
theorem Jkz{ops:Array Oper}(h:Jg7 ops=true)(j:Nat)(o:Oper)(cs:Array SelectCase)(b:Bool)(ho:ops[j]? = some o): o.op ≠ .select cs b:=by
 intro he
 have h1:o∈ops.toList:=by simpa using Array.mem_of_getElem? ho
 have:=List.all_eq_true.1 h o h1
 rw[he]at this
 cases this
theorem JlD{ops:Array Oper}{i:Nat}{o:Oper}(ho:ops[i]? = some o): i∈ZJ ops↔wOp o.op=true:=by
 unfold ZJ
 rw[List.mem_filter,List.mem_range]
 simp only[ho]
 have:=(Array.getElem?_eq_some_iff.1 ho).1
 constructor
 ·exact fun h=>h.2
 ·exact fun h=>⟨this,h⟩
section
variable {w0:World} {fr:Nat->Prop} {X0:Org} {n:Nat} {ds:List Deferred} {st:St} {G:Gh} {a:Act} {w:World}
theorem Jrv(R:Rel w0 fr X0 n ds st G a w){ops:Array Oper}{o:Oper}(hw:Region.wanted o (yielded ops a.tmps)=true): Uj (JW a) (J5E ops o st):=by
 unfold J5E
 split
 ·exact J3x
 ·next j wb hg =>
  split
  ·exact J3x
  ·next s hs =>
   have hv:=(Jl8 (a:=a) hg hs).1 hw
   split
   ·intro x hx;simp at hx;subst hx;exact hv
   ·next g c p hp =>
    have ht:=R.tm s
    rw[hp]at ht
    have hg:Uj (JW a) g:=by
     refine Classical.byContradiction fun hn => ?_
     have:=ht.2 hn
     rw[hv]at this
     simp[undef]at this
    intro x hx
    rcases List.mem_cons.1 hx with rfl|hx
    ·exact hv
    ·exact hg x hx
   ·exact J3x
theorem Jm7(R:Rel w0 fr X0 n ds st G a w){ops:Array Oper}{o:Oper}(h:J3r ops o st=true): Region.wanted o (yielded ops a.tmps)=false:=by
 unfold J3r at h
 split at h
 ·cases h
 ·next j wb hg =>
  split at h
  ·cases h
  ·next s hs =>
   have ht:=R.tm s
   have hw:=Jl8 (a:=a) hg hs
   cases hx:Region.wanted o (yielded ops a.tmps)with
   |false=>rfl
   |true =>
    exfalso
    have hv:=hw.1 hx
    split at h
    ·next b hb =>
     rw[hb]at ht
     have ht:JW a s = .bool b:=ht
     rw[hv]at ht
     simp at ht
     subst ht
     simp at h
    ·next b hb =>
     rw[hb]at ht
     have ht:JW a s ≠ .bool b:=ht
     have hb:b=wb:=by simpa using h
     subst hb
     exact ht hv
    ·next hb =>
     rw[hb]at ht
     obtain⟨vs,ht,_⟩:∃ vs:List Value,JW a s = .tuple vs.toArray∧RVs st.h G w [] vs:=ht
     rw[hv]at ht
     cases ht
    ·cases h
theorem JkA{ops:Array Oper}{o:Oper}{N:Act->World->Prop}(hval:J5F P (execOp a.eval o))(hw:Region.wanted o (yielded ops a.tmps)=true)(hs:QI P ops o a w N (fun _ _ _=>False)):
 ∃ v w',(execOp a.eval o).run P w = .ok (.value v) w'∧N (a.put o.dst v) w':=by
 unfold QI at hs
 rw[if_pos hw]at hs
 unfold Oper.wp at hs
 cases hr:(execOp a.eval o).run P w with
 |ok nx w' =>
  obtain⟨v,rfl⟩:=hval _ _ _ hr
  rw[hr,Oper.upon_value]at hs
  exact⟨v,w',rfl,hs⟩
 |halt x w' =>
  rw[hr]at hs
  cases x<;>exact hs.elim
theorem JI6{l r:List Nat}: YF l r=true->∀ n∈l,n ∉ r:=by
 induction l with
 |nil=>intro _ n hn;cases hn
 |cons m l ih =>
  intro h n hn hr
  simp only[YF,Bool.and_eq_true,Bool.not_eq_true']at h
  rcases List.mem_cons.1 hn with rfl|hn
  ·rw[UC.2 hr]at h;cases h.1
  ·exact ih h.2 n hn hr
def Prot(PB:Nat->Prop)(h:Je)(G:Gh)(w:World)(pr:List Nm): Prop:=∀ b,PB b->b<w.heap.size∧(J3C h G b∨∃ n t cs,h n=some (.var t cs)∧G.bk n=b∧n∈pr)
theorem Prot.kept{PB:Nat->Prop}{h h':Je}{G G':Gh}{w w':World}{pr tn:List Nm}(Pr:Prot PB h G w pr)(Kp:Kept h G w h' G' w' tn)(hd:YF tn pr=true): Prot PB h' G' w' pr∧ExtP PB w w':=by
 refine⟨fun b hb => ?_,fun b hb hl => ?_,Kp.grow⟩
 ·obtain⟨h1,h2⟩:=Pr b hb
  refine⟨Nat.lt_of_lt_of_le h1 Kp.grow,?_⟩
  rcases h2 with h2|⟨n,t,cs,h3,h4,h5⟩
  ·refine .inl fun n hn => ?_
   rcases Kp.new n b hn with⟨m,hm⟩|hlt
   ·exact h2 m hm
   ·omega
  ·obtain⟨⟨cs',h6⟩,h7⟩:=Kp.vars n t cs h3
   exact .inr ⟨n,t,cs',h6,by rw[h7,h4],h5⟩
 ·obtain⟨h1,h2⟩:=Pr b hb
  rcases h2 with h2|⟨n,t,cs,h3,rfl,h5⟩
  ·exact Kp.blk b hl h2
  ·exact Kp.var n t cs h3 fun hn=>JI6 hd n hn h5
theorem Prot.weaken{PB:Nat->Prop}{h:Je}{G:Gh}{w:World}{pr pr':List Nm}(Pr:Prot PB h G w pr)(hs:∀ n∈pr,n∈pr'): Prot PB h G w pr':=fun b hb=>by
 obtain⟨h1,h2⟩:=Pr b hb
 rcases h2 with h2|⟨n,t,cs,h3,h4,h5⟩
 ·exact⟨h1,.inl h2⟩
 ·exact⟨h1,.inr ⟨n,t,cs,h3,h4,hs n h5⟩⟩
theorem Prot.or{PB PB':Nat->Prop}{h:Je}{G:Gh}{w:World}{pr:List Nm}(Pr:Prot PB h G w pr)(Pr':Prot PB' h G w pr): Prot (fun b=>PB b∨PB' b) h G w pr:=fun b hb=>by
 rcases hb with hb|hb
 ·exact Pr b hb
 ·exact Pr' b hb
theorem JFC{h:Je}{G:Gh}{w:World}{p:PV}{A:Addr}{ns:List Nm}(he:Jm3 p=some ns)(hp:RV h G w p (.pointer (some A)))(hl:A.block<w.heap.size): Prot (fun b=>b=A.block) h G w ns:=by
 intro b hb
 subst hb
 refine⟨hl,?_⟩
 unfold Jm3 at he
 split at he
 ·next K xs i off =>
  obtain⟨ad,e,_,hr⟩:=hp
  simp only[Value.pointer.injEq,Option.some.injEq]at e
  subst e
  rw[J0s]
  exact .inl hr.1.1
 ·next n off =>
  obtain⟨e,t,cs,hn⟩:=hp
  simp only[Value.pointer.injEq,Option.some.injEq]at e
  subst e
  cases he
  exact .inr ⟨n,t,cs,hn,rfl,by simp⟩
 ·cases he
theorem JHm{cx:Ctx}(X:cx.Ok P){ops:Array Oper}{o:Oper}{N:Act->World->Prop}(R:Rel w0 fr X0 n ds st G a w)(hs:QI P ops o a w N (fun _ _ _=>False))(hf:J2l cx ops o st=true):
 ∃ v,N (a.put o.dst v) w∧if Yo o.op then ∃ S:World->Prop,S w∧(∀ w w',S w->Ext w w'->S w')∧YieldsIf P ops S o v a else Yields P ops o v a:=by
 cases hw:Region.wanted o (yielded ops a.tmps)with
 |false =>
  have hN:N (a.put o.dst undef) w:=by unfold QI at hs;rw[hw]at hs;exact hs
  refine⟨undef,hN,?_⟩
  split
  ·exact⟨fun _=>True,trivial,fun _ _ _ _=>trivial,.inr ⟨hw,rfl⟩⟩
  ·exact .inr ⟨hw,rfl⟩
 |true =>
  have ht:=Jrv R hw
  have hu:∀ x,RV st.h G w (QG (J5E ops o st) (st.get x)) (a.eval x):=fun x=>R.use ht x
  unfold J2l at hf
  rw[Bool.or_eq_true]at hf
  rcases hf with hf|hf
  ·rw[Jm7 R hf]at hw;cases hw
  ·have hns:J3r ops o st=false:=by
    cases hs2:J3r ops o st with
    |false=>rfl
    |true=>rw[Jm7 R hs2]at hw;cases hw
   cases hl:Yo o.op with
   |true =>
    rw[hl,cond_true]at hf
    obtain⟨v,w',hr,hN⟩:=JkA (Jk2 (ty:=cx.ty) hu (.inr hl)) hw hs
    have key:∃ s x,o.op = .load s x:=by unfold Yo at hl;split at hl;exact⟨_,_,by assumption⟩;cases hl
    obtain⟨s,x,ho⟩:=key
    obtain⟨ev,hev⟩:=Option.isSome_iff_exists.1 hf
    rw[ho]at hev
    unfold Zh at hev
    simp only at hev
    split at hev
    ·next ti hti =>
     obtain⟨u,A,hA,hb,hall⟩:=Jrr (P:=P) X.ty hti R.obj hev (hu x)
     have hrun:∀ w':World,w'.heap[A.block]? = w.heap[A.block]? -> (execOp a.eval o).run P w' = .ok (.value u) w':=by
      intro w' hw'
      simp only[execOp,ho,Sem.run_bind,hall w' hw'];rfl
     have h1:=hrun w rfl
     rw[hr]at h1
     cases h1
     refine⟨v,hN,?_⟩
     rw[if_pos rfl]
     refine⟨fun w'=>A.block<w'.heap.size∧w'.heap[A.block]? = w.heap[A.block]?,⟨hb,rfl⟩,fun w1 w2 h1 h2=>⟨Nat.lt_of_lt_of_le h1.1 h2.grow,(h2.blk _ h1.1).trans h1.2⟩,.inl ⟨hw,fun w' h=>hrun w' h.2⟩⟩
    ·cases hev
   |false =>
    rw[hl,cond_false]at hf
    obtain⟨v,w',hr,hN⟩:=JkA (Jk2 hu (.inl hf)) hw hs
    have hc:=JGC X.ty R.obj hu hf
    have hsame:=Jt3 hc hr
    subst hsame
    refine⟨v,hN,?_⟩
    rw[if_neg (by simp)]
    exact .inl ⟨hw,fun w''=>hc _ _ _ hr w''⟩
theorem JEF{cx:Ctx}(X:cx.Ok P){ops:Array Oper}{o:Oper}(R:Rel w0 fr X0 n ds st G a w)(hl:Yo o.op=true)(hf:J2l cx ops o st=true){ns:List Nm}(hns:Jft ops o st=some ns):
 ∃ PB,Prot PB st.h G w ns∧∀ N:Act->World->Prop,QI P ops o a w N (fun _ _ _=>False)->∃ v,N (a.put o.dst v) w∧∃ S:World->Prop,S w∧(∀ w1 w2,S w1->ExtP PB w1 w2->S w2)∧YieldsIf P ops S o v a:=by
 cases hw:Region.wanted o (yielded ops a.tmps)with
 |false =>
  refine⟨fun _=>False,fun b hb=>hb.elim,fun N hs => ?_⟩
  have hN:N (a.put o.dst undef) w:=by unfold QI at hs;rw[hw]at hs;exact hs
  exact⟨undef,hN,fun _=>True,trivial,fun _ _ _ _=>trivial,.inr ⟨hw,rfl⟩⟩
 |true =>
  have ht:=Jrv R hw
  have hu:∀ x,RV st.h G w (QG (J5E ops o st) (st.get x)) (a.eval x):=fun x=>R.use ht x
  have hsk:J3r ops o st=false:=by
   cases hs2:J3r ops o st with
   |false=>rfl
   |true=>rw[Jm7 R hs2]at hw;cases hw
  unfold J2l at hf
  rw[hsk,Bool.false_or,hl,cond_true]at hf
  have key:∃ s x,o.op = .load s x:=by unfold Yo at hl;split at hl;exact⟨_,_,by assumption⟩;cases hl
  obtain⟨s,x,ho⟩:=key
  obtain⟨ev,hev⟩:=Option.isSome_iff_exists.1 hf
  rw[ho]at hev
  unfold Zh at hev
  simp only at hev
  split at hev
  ·next ti hti =>
   obtain⟨u,A,hA,hb,hall⟩:=Jrr (P:=P) X.ty hti R.obj hev (hu x)
   have hrun:∀ w':World,w'.heap[A.block]? = w.heap[A.block]? -> (execOp a.eval o).run P w' = .ok (.value u) w':=by
    intro w' hw'
    simp only[execOp,ho,Sem.run_bind,hall w' hw'];rfl
   unfold Jft at hns
   rw[hsk,cond_false,ho]at hns
   simp only at hns
   have hux:=hu x
   rw[hA]at hux
   refine⟨fun b=>b=A.block,JFC hns hux hb,fun N hs => ?_⟩
   obtain⟨v,w',hr,hN⟩:=JkA (Jk2 (ty:=cx.ty) hu (.inr hl)) hw hs
   have h1:=hrun w rfl
   rw[hr]at h1
   cases h1
   exact⟨_,hN,fun w'=>A.block<w'.heap.size∧w'.heap[A.block]? = w.heap[A.block]?,⟨hb,rfl⟩,fun w1 w2 h1 h2=>⟨Nat.lt_of_lt_of_le h1.1 h2.grow,(h2.blk _ rfl h1.1).trans h1.2⟩,.inl ⟨hw,fun w' h=>hrun w' h.2⟩⟩
  ·cases hev
theorem JqF{ops:Array Oper}{i:Nat}{o:Oper}{N:Act->World->Prop}{Q:Exit->Act->World->Prop}(ho:ops[i]? = some o)(hs:QI P ops o a w N Q): wpOp P ops Q i N a w:=by
 unfold wpOp
 simp only[ho]
 unfold QI at hs
 split
 ·next h=>rw[if_pos h]at hs;exact .inl hs
 ·next h=>rw[if_neg h]at hs;exact hs
theorem JqG(a:Addr): J05 P (load a):=fun w w1 v hr=>by
 unfold load at hr
 simp only[Sem.run]at hr
 have:w1=w:=by
  split at hr
  ·cases hr;rfl
  ·split at hr
   ·cases hr;rfl
   ·cases hr
 subst this
 exact .refl _
theorem JpU(a:Addr): ∀(n i:Nat) (acc:Array Value),J05 P (loadCellsFrom a i n acc)
 |0,_,_=>J11 _
 |n+1,i,acc=>by unfold loadCellsFrom;exact Yn (JqG _) fun v=>JpU a n (i+1) _
theorem JBu(t:TypeId)(v:Value): J05 P (Instr.loadAt t v):=by
 unfold Instr.loadAt
 refine Yn (J0S (JpS _)) fun a => ?_
 unfold loadVar
 refine Yn (J0S (Jsg _)) fun b => ?_
 cases b with
 |true=>exact Yn (J0S (J00 _)) fun n=>Yn (JpU _ _ _ _) fun _=>J11 _
 |false=>exact JqG _
theorem Jt7{ops:Array Oper}{i:Nat}{o:Oper}{N:Act->World->Prop}{Q:Exit->Act->World->Prop}(ho:ops[i]? = some o)(hg:(J2t o.op || Yo o.op)=true)(hs:QI P ops o a w N Q): wpOp P ops Q i (fun a' w'=>Ext w w'∧N a' w') a w:=by
 unfold wpOp
 simp only[ho]
 unfold QI at hs
 split
 ·next h =>
  rw[if_pos h]at hs
  refine .inl ?_
  unfold Oper.wp at hs ⊢
  have hgr:J05 P (execOp a.eval o):=by
   cases h1:J2t o.op with
   |true=>exact JDk h1
   |false =>
    rw[h1,Bool.false_or]at hg
    unfold Yo at hg
    split at hg
    ·next ho'=>simp only[execOp,ho'];exact Yn (JBu _ _) fun _=>J11 _
    ·cases hg
  have hval:J5F P (execOp a.eval o):=by
   cases h1:J2t o.op with
   |true =>
    unfold J2t at h1
    split at h1
    ·next ho'=>simp only[execOp,ho'];exact YV _
    ·next ho'=>simp only[execOp,ho'];exact YV _
    ·next ho'=>simp only[execOp,ho'];exact YV _
    ·cases h1
   |false =>
    rw[h1,Bool.false_or]at hg
    unfold Yo at hg
    split at hg
    ·next ho'=>simp only[execOp,ho'];exact YV _
    ·cases hg
  cases hr:(execOp a.eval o).run P w with
  |ok nx w' =>
   obtain⟨v,rfl⟩:=hval _ _ _ hr
   rw[hr]at hs
   exact⟨hgr _ _ _ hr,hs⟩
  |halt x w'=>rw[hr]at hs;cases x<;>exact hs
 ·next h=>rw[if_neg h]at hs;exact⟨.refl w,hs⟩
theorem JGE{R:Type}{a b:Option R}{r:R}(h:J1L a b=some r): a=some r∧b=some r:=by
 unfold J1L at h
 split at h
 ·next he=>exact⟨h,he ▸ h⟩
 ·cases h
theorem Jfv{R:Type}: ∀(s:Shp) (x:Option R),J90 s x=x
 |.o,x=>rfl
 |.b s t,x=>by
  rw[J90,Jfv s,Jfv t,J1L]
  exact if_pos rfl
theorem JI7(m i:Nat): J1N m i≠0:=fun h=>by
 have h1:bit (J1N m i) i=true:=by rw[JaL];simp
 rw[h,J8t]at h1;cases h1
theorem JGF{ops:Array Oper}{mask cov i:Nat}{listed:Array Bool}(htl:Tells ops.size mask listed)(hal:J8I mask cov i 0 ops.toList=true){j:Nat}(hj:j∈Region.ready .any ops listed)(hcv:bit cov j=false): j=i:=by
 refine Classical.byContradiction fun hne => ?_
 obtain⟨h1,oj,hoj,hall⟩:=mem_ready.1 hj
 have hjl:=(Array.getElem?_eq_some_iff.1 hoj).1
 rw[htl.getD hjl]at h1
 obtain⟨e,he1,he2,he3⟩:=Jrt hal j oj (by simpa using hoj) (by omega) (by rw[Nat.zero_add];exact h1) (by rw[Nat.zero_add];exact hcv)
 have h4:=hall e he1 he2
 by_cases hel:e.on<ops.size
 ·rw[htl.getD hel,he3]at h4;cases h4
 ·have:listed.getD e.on false=false:=by
   rw[Array.getD_eq_getD_getElem?,Array.getElem?_eq_none (by rw[htl.1];omega)];rfl
  rw[this]at h4;cases h4
theorem J8u {cx:Ctx} (X:cx.Ok P) {R0:Type} {K:Option PV->St->Option R0} {r:R0} {ops:Array Oper} {Q:Exit->Act->World->Prop} (hf:∀ b,fr b->b<w0.heap.size) (hsel:Jg7 ops=true)
 (hdst:∀ o∈ops,∀ i,o.dst=some i->i<n)
 (hQ:∀ st' G' a' w',K none st'=some r->Rel w0 fr X0 n ds st' G' a' w'->Q .normal a' w')
 (hp:∀ p v st' G' a' w',K (some p) st'=some r->Rel w0 fr X0 n ds st' G' a' w'->RV st'.h G' w' p v->Q (.panic [{ v,recovered:=false }]) a' w')
 (hk:∀ d v c a w,(∀ i,d=some i->i ∉ cx.keep)->Q (.panic c) (a.put d v) w->Q (.panic c) a w) :
 ∀(l:Plan) (fuel cov:Nat) (pr:List Nm) (PB:Nat->Prop) (mask:Nat) (listed:Array Bool) {st:St} {G:Gh} {a:Act} {w:World},J16 cx.keep ops l fuel mask cov=true->Tells ops.size mask listed->ListedClosed .any ops listed->J1b cx ops l pr st K=some r->Rel w0 fr X0 n ds st G a w->Prot PB st.h G w pr ->
  (cov=0->Yb P .any ops Q (ZJ ops) PB fuel listed a w)∧(cov≠0->∃ m,fuel=m+1∧∀ j∈Region.ready .any ops listed,bit cov j=false->wpOp P ops Q j (fun a' w'=>(j ∉ ZJ ops->Ext w w')∧ExtP PB w w'∧Yb P .any ops Q (ZJ ops) PB m (listed.setIfInBounds j true) a' w') a w)
 |.done,fuel,cov,pr,PB,mask,listed,st,G,a,w,hpl,htl,hcl,he,R,hPr=>by
  rw[J1b]at he
  rw[J16]at hpl
  simp only[Bool.and_eq_true]at hpl
  obtain⟨⟨hfu,hcv⟩,hall⟩:=hpl
  have hfu:=Qj.1 hfu
  have hcv:=Qj.1 hcv
  subst hfu
  refine⟨fun _=>⟨?_,hQ _ _ _ _ he R⟩,fun h=>absurd hcv h⟩
  cases hr:Region.ready .any ops listed with
  |nil=>rfl
  |cons j r =>
   exfalso
   have hj:j∈Region.ready .any ops listed:=by rw[hr];exact List.mem_cons_self
   obtain⟨h1,o,ho,_⟩:=mem_ready.1 hj
   have hlt:=(Array.getElem?_eq_some_iff.1 ho).1
   have:=Jsk hall j o (by simpa using ho)
   rw[htl.getD hlt,Nat.zero_add]at *
   rw[this]at h1;cases h1
 |.op i f l,0,cov,pr,PB,mask,listed,st,G,a,w,hpl,htl,hcl,he,R,hPr=>by
  simp[J16]at hpl
 |.alt i p q,0,cov,pr,PB,mask,listed,st,G,a,w,hpl,htl,hcl,he,R,hPr=>by
  simp[J16]at hpl
 |.alt i p q,m+1,cov,pr,PB,mask,listed,st,G,a,w,hpl,htl,hcl,he,R,hPr=>by
  rw[J16]at hpl
  rw[J1b]at he
  split at hpl
  ·cases hpl
  ·next o ho =>
   have hom:o∈ops:=Array.mem_of_getElem? ho
   have hlt:=(Array.getElem?_eq_some_iff.1 ho).1
   simp only[ho]at he
   obtain⟨he1,he2⟩:=JGE he
   simp only[Bool.and_eq_true,Bool.not_eq_true']at hpl
   obtain⟨⟨⟨⟨hun,hed⟩,hwg⟩,hp1⟩,hp2⟩:=hpl
   rw[Bool.or_eq_true]at hwg
   have hready:i∈Region.ready .any ops listed:=by
    refine mem_ready.2 ⟨by rw[htl.getD hlt];exact hun,o,ho,fun e he hb => ?_⟩
    have hb2:=Jjs hed e (by simpa using he) hb
    rw[htl.getD (htl.2.2 _ hb2)];exact hb2
   have hcl':=hcl.set hready
   have htl':=htl.set hlt
   have H:∀ j∈Region.ready .any ops listed,bit cov j=false->wpOp P ops Q j (fun a' w'=>(j ∉ ZJ ops->Ext w w')∧ExtP PB w w'∧Yb P .any ops Q (ZJ ops) PB m (listed.setIfInBounds j true) a' w') a w:=by
    intro j hj hcj
    by_cases hji:j=i
    ·subst hji
     cases hdj:YF (J1y cx ops o st) pr with
     |false=>rw[hdj]at he1;cases he1
     |true =>
      rw[hdj,cond_true]at he1
      have hstep:QI P ops o a w (fun a' w'=>ExtP PB w w'∧Yb P .any ops Q (ZJ ops) PB m (listed.setIfInBounds j true) a' w') Q:=by
       refine JaK X R hf (hdst o hom) ?_ he1
       refine⟨fun st' G' a' w' h1 h2 h3 => ?_,fun p v st' G' w' h1 h2 h3=>hp _ _ _ _ _ _ h1 h2 h3⟩
       obtain⟨h4,h5⟩:=hPr.kept h3 hdj
       exact⟨h5,(J8u X hf hsel hdst hQ hp hk p m 0 pr PB _ _ hp1 htl' hcl' h1 h2 h4).1 rfl⟩
      rcases hwg with hw|hg
      ·exact wpOp_mono (fun a' w' h=>⟨fun hn=>absurd ((JlD ho).2 hw) hn,h⟩) (JqF ho hstep)
      ·exact wpOp_mono (fun a' w' h=>⟨fun _=>h.1,h.2⟩) (Jt7 ho hg hstep)
    ·obtain⟨m',hm',H⟩:=(J8u X hf hsel hdst hQ hp hk q (m+1) (J1N cov i) pr PB _ _ hp2 htl hcl he2 R hPr).2 (JI7 cov i)
     cases hm'
     exact H j hj (by rw[JaL,hcj];simpa using hji)
   refine⟨fun hc=>⟨fun h0 => ?_,fun j hj=>H j hj (by rw[hc,J8t])⟩,fun _=>⟨m,rfl,H⟩⟩
   rw[h0]at hready;cases hready
 |.op i f l,m+1,cov,pr,PB,mask,listed,st,G,a,w,hpl,htl,hcl,he,R,hPr=>by
  rw[J16]at hpl
  split at hpl
  ·cases hpl
  ·next o ho =>
   have hom:o∈ops:=Array.mem_of_getElem? ho
   have hlt:=(Array.getElem?_eq_some_iff.1 ho).1
   simp only[Bool.and_eq_true,Bool.not_eq_true']at hpl
   obtain⟨⟨⟨hun,hed⟩,hf1⟩,hrest⟩:=hpl
   have hready:i∈Region.ready .any ops listed:=by
    refine mem_ready.2 ⟨by rw[htl.getD hlt];exact hun,o,ho,fun e he hb => ?_⟩
    have hb2:=Jjs hed e (by simpa using he) hb
    rw[htl.getD (htl.2.2 _ hb2)];exact hb2
   have hcl':=hcl.set hready
   have htl':=htl.set hlt
   have keepL:JfJ cx.keep o=false->∀ v c a w,Q (.panic c) (a.put o.dst v) w->Q (.panic c) a w:=by
    intro hkept v c a w
    refine hk o.dst v c a w fun j hj hm => ?_
    unfold JfJ at hkept
    rw[hj]at hkept
    simp only[UC.2 hm]at hkept
    cases hkept
   have freeL:J5P ops mask i o 0 ops.toList=true->∀ j oj,ops[j]? = some oj->j≠i->listed.getD j true=false->(∀ e∈oj.after,Region.binds .any e=true->e.on≠i)->o.apart ops oj=true:=by
    intro hfree j oj hj hne hl hno
    have hjl:=(Array.getElem?_eq_some_iff.1 hj).1
    rw[htl.getD hjl]at hl
    exact Jsi hfree j oj (by simpa using hj) (by omega) (by rw[Nat.zero_add];exact hl) hno
   rw[J1b]at he
   simp only[ho]at he
   split at hf1
   ·-- alone
    simp only at he
    cases hdj:YF (J1y cx ops o st) pr with
    |false=>rw[hdj]at he;cases he
    |true =>
     rw[hdj,cond_true]at he
     rw[Bool.and_eq_true,Bool.or_eq_true]at hf1
     have hstep:QI P ops o a w (fun a' w'=>ExtP PB w w'∧Yb P .any ops Q (ZJ ops) PB m (listed.setIfInBounds i true) a' w') Q:=by
      refine JaK X R hf (hdst o hom) ?_ he
      refine⟨fun st' G' a' w' h1 h2 h3 => ?_,fun p v st' G' w' h1 h2 h3=>hp _ _ _ _ _ _ h1 h2 h3⟩
      obtain⟨h4,h5⟩:=hPr.kept h3 hdj
      exact⟨h5,(J8u X hf hsel hdst hQ hp hk l m 0 pr PB _ _ hrest htl' hcl' h1 h2 h4).1 rfl⟩
     have H:∀ j∈Region.ready .any ops listed,bit cov j=false->wpOp P ops Q j (fun a' w'=>(j ∉ ZJ ops->Ext w w')∧ExtP PB w w'∧Yb P .any ops Q (ZJ ops) PB m (listed.setIfInBounds j true) a' w') a w:=by
      intro j hj hcj
      have:=JGF htl hf1.1 hj hcj
      subst this
      rcases hf1.2 with hw|hg
      ·exact wpOp_mono (fun a' w' h=>⟨fun hn=>absurd ((JlD ho).2 hw) hn,h⟩) (JqF ho hstep)
      ·exact wpOp_mono (fun a' w' h=>⟨fun _=>h.1,h.2⟩) (Jt7 ho hg hstep)
     refine⟨fun hc=>⟨fun h0 => ?_,fun j hj=>H j hj (by rw[hc,J8t])⟩,fun _=>⟨m,rfl,H⟩⟩
     rw[h0]at hready;cases hready
   ·-- first
    simp only at he
    cases hfh:(J2l cx ops o st&&YF (J1y cx ops o st) pr)with
    |false=>rw[hfh]at he;cases he
    |true =>
     rw[hfh,cond_true]at he
     simp only[Bool.and_eq_true]at hfh
     obtain⟨hfh,hdj⟩:=hfh
     simp only[Bool.and_eq_true,Bool.not_eq_true']at hf1
     obtain⟨hcv,⟨hkept,hfree⟩,hkind⟩:=hf1
     refine⟨fun _ => ?_,fun h=>absurd (Qj.1 hcv) h⟩
     have hstep:QI P ops o a w (Yb P .any ops Q (ZJ ops) PB m (listed.setIfInBounds i true)) (fun _ _ _=>False):=by
      refine JaK X R hf (hdst o hom) ?_ he
      exact⟨fun st' G' a' w' h1 h2 h3=>(J8u X hf hsel hdst hQ hp hk l m 0 pr PB _ _ hrest htl' hcl' h1 h2 (hPr.kept h3 hdj).1).1 rfl,fun p v st' G' w' h1 _ _=>by cases h1⟩
     obtain⟨v,hN,hy⟩:=JHm X R hstep hfh
     cases hld:Yo o.op with
     |false =>
      rw[hld]at hy
      exact JFB ho (Jkz hsel) (keepL hkept v) m listed a w (freeL hfree) hready hy hN
     |true =>
      rw[hld,if_pos rfl]at hy
      obtain⟨S,hS,hSE,hy⟩:=hy
      have hlast:J8P mask (JaW i 0 ops.toList 0) 0 ops.toList=true:=by
       have:Jlv o.op=false:=by
        unfold Yo at hld
        split at hld
        ·next ho'=>rw[ho'];rfl
        ·cases hld
       rw[this,hld]at hkind
       simpa using hkind
      refine JDi hSE ho (Jkz hsel) (keepL hkept v) ops.size m listed a w (freeL hfree) hcl (fun d hd hl => ?_) hready hy hS hN
      have hdl:d<ops.size:=by
       unfold ZJ at hd
       exact List.mem_range.1 (List.mem_filter.1 hd).1
      obtain⟨od,hod⟩:∃ od,ops[d]? = some od:=⟨_,Array.getElem?_eq_getElem hdl⟩
      rw[htl.getD hdl]at hl
      have:=Jsj hlast d od (by simpa using hod) ((JlD hod).1 hd) (by rw[Nat.zero_add];exact hl)
      rw[Nat.zero_add]at this
      obtain⟨h1,h2⟩:=Jru (ops:=ops) ops.toList 0 0 (by simp) (fun d hd=>by rw[J8t]at hd;cases hd) d this
      exact Jky (by omega) h2
   ·-- a load of what nothing writes
    next f hf0 hf2 =>
    have he:(match Jft ops o st with
     |none=>none
     |some ns=>bif J2l cx ops o st&&YF (J1y cx ops o st) (ns++pr)then J5W cx ops o st fun e st'=>match e with
      |none=>J1b cx ops l (ns++pr) st' K
      |some _=>none
      else none)=some r:=by
     split at he
     ·exact absurd rfl hf0
     ·exact absurd rfl hf2
     ·exact he
    split at he
    ·cases he
    ·next ns hns =>
     cases hfh:(J2l cx ops o st&&YF (J1y cx ops o st) (ns++pr))with
     |false=>rw[hfh]at he;cases he
     |true =>
      rw[hfh,cond_true]at he
      simp only[Bool.and_eq_true]at hfh
      obtain⟨hfh,hdj⟩:=hfh
      simp only[Bool.and_eq_true,Bool.not_eq_true']at hf1
      obtain⟨hcv,⟨hkept,hfree⟩,hld⟩:=hf1
      refine⟨fun _ => ?_,fun h=>absurd (Qj.1 hcv) h⟩
      obtain⟨PB1,hP1,hE⟩:=JEF X R hld hfh hns
      have hP2:Prot (fun b=>PB b∨PB1 b) st.h G w (ns++pr):=(hPr.weaken fun n hn=>List.mem_append_right _ hn).or (hP1.weaken fun n hn=>List.mem_append_left _ hn)
      have hstep:QI P ops o a w (Yb P .any ops Q (ZJ ops) (fun b=>PB b∨PB1 b) m (listed.setIfInBounds i true)) (fun _ _ _=>False):=by
       refine JaK X R hf (hdst o hom) ?_ he
       exact⟨fun st' G' a' w' h1 h2 h3=>(J8u X hf hsel hdst hQ hp hk l m 0 _ _ _ _ hrest htl' hcl' h1 h2 (hP2.kept h3 hdj).1).1 rfl,fun p v st' G' w' h1 _ _=>by cases h1⟩
      obtain⟨v,hN,S,hS,hSP,hy⟩:=hE _ hstep
      exact JDj (fun b hb => .inl hb) (fun w1 w2 h1 h2=>hSP w1 w2 h1 (h2.mono fun b hb => .inr hb)) ho (Jkz hsel) (keepL hkept v) m listed a w (freeL hfree) hready hy hS hN
end
end
end Go.Proofs.YtabkhphoacmcdaaGreatDoor.Pvm
end
