/- The Go function ConfigParses returns true for every slice of bytes. -/
import Derived.Lib.TrimU
import Derived.Test.YtabkhphoacmcdaaGreatDoorConfigParsesM0
import Derived.Test.YtabkhphoacmcdaaGreatDoorConfigParsesM1
import Derived.Test.YtabkhphoacmcdaaGreatDoorConfigParsesM2
import Derived.Test.YtabkhphoacmcdaaGreatDoorConfigParsesM3
import Derived.Test.YtabkhphoacmcdaaGreatDoorConfigParsesM4
set_option linter.unusedVariables false
set_option linter.unusedSimpArgs false
set_option linter.unusedSectionVars false
noncomputable section
namespace Go.Proofs.YtabkhphoacmcdaaGreatDoor.Pvm
open Go
def U2(l:List UInt8): List UInt8:=l.dropWhile (· == 32)
theorem Ju5(l:List UInt8): (U2 l).length≤l.length:=(List.dropWhile_suffix _).length_le
theorem JGe(k:Nat){R:Type}(K:List UInt8->Option R): ∀(n:Nat) (l:List UInt8),l.length<n->J6d k n l 32 K=K (U2 l):=by
 intro n
 induction n with
 |zero=>intro l h;omega
 |succ n ih =>
  intro l hn
  rw[J6d]
  unfold JgM
  cases l with
  |nil=>rfl
  |cons x r =>
   have h1:decide (((x::r).length:Int)>0)=true:=J1 (by simp<;>omega)
   have h2:inb 0 ((x::r).length:Int)=true:=Ja (by omega) (by simp<;>omega)
   have h3:bnd 1 ((x::r).length:Int) ((x::r).length:Int)=true:=Jg (by omega) (by simp<;>omega) (by omega)
   have h4:(x::r).getD (Int.toNat 0) 0=x:=rfl
   have h5:cut (x::r) 1 ((x::r).length:Int)=r:=by simp[cut]
   simp only[h1,h2,h3,h4,h5,Jbc,Bool.or_true,cond_true]
   rw[ih r (by simp at hn;omega),U2,U2,List.dropWhile_cons]
   cases x == 32<;>rfl
theorem JHB(k:Nat){R:Type}(l:List UInt8)(hk:l.length<k)(K:List UInt8->Option R): J9u k l 32 K=K (U2 l):=by
 unfold J9u Jok Jc7 JgX
 cases l with
 |nil=>rfl
 |cons x r =>
  have e2:(((([32]:List UInt8).getD (Int.toNat 0) 0).toNat:Nat):Int)=32:=rfl
  simp only[e2,show((x::r) == ([]:List UInt8))=false from rfl,show(([32]:List UInt8) == [])=false from rfl,show((([32]:List UInt8).length:Int) == 1)=true from rfl,show decide ((32:Int)<128)=true from rfl,cond_false,cond_true]
  exact JGe k K k _ hk
abbrev Row:=Int×(Int×List UInt8)
def J1i(k:Nat)(no:Nat)(p:List UInt8)(e:Nat): List Row :=
 bif rt ((U2 p).take e) == []then[]else[((no:Int),(((p.length:Int)-((U2 p).length:Int)),rt ((U2 p).take e)))]
def Qv(k:Nat): List (List UInt8)->Nat->List Row->List Row×Int×Int
 |[],no,acc=>(acc,0,0)
 |p::ps,no,acc=>bif p.any bad then([],2,(no:Int))else match stS (U2 p) k 0 with
  |none=>([],3,(no:Int))
  |some e=>Qv k ps (no+1) (acc++J1i k no p e)
theorem JlK(k no:Nat)(p:List UInt8)(e:Nat): (J1i k no p e).length≤1:=by
 unfold J1i
 cases rt ((U2 p).take e) == []<;>simp
theorem JBp(k:Nat){R:Type}(K:List Row->Int->Int->Option R)(a0 a1:Int)(ps:List (List UInt8))(hp:∀ p∈ps,p.length≤20000∧p.length<k)(hps:ps.length≤20000):
 ∀(n:Nat) (r:List (List UInt8)) (i:Nat) (acc:List Row),ps.drop i=r->i≤ps.length->r.length<n->acc.length≤i ->
 J76 k n a0 a1 acc (ps.map Js) (ps.length:Int) (i:Int) K=(Qv k r (i+1) acc |> fun z=>K z.1 z.2.1 z.2.2):=by
 intro n
 induction n with
 |zero=>intro r i acc _ _ h;omega
 |succ n ih =>
  intro r i acc hr hi hn ha
  rw[J76]
  unfold Ji5
  cases r with
  |nil =>
   have:=JE hr
   simp(disch:=omega)only[J1,J2,Jl,Jh,Jm,Jn,Ja,Jg,J8,Ji,cond_true,cond_false,Bool.not_true,Bool.not_false,Bool.true_or,Bool.or_true,Bool.false_or,Bool.or_false,Bool.true_and,Bool.and_true,Bool.false_and,Bool.and_false,Jk,Jj,Jb]
   rfl
  |cons p r =>
   obtain⟨h1,h2,h3⟩:=Jz hr
   have hml:((ps.map Js).length:Int)=(ps.length:Int):=by simp
   have hg:(ps.map Js).getD i (Kd.int IntKind.u8).sl.zero=Js p:=by
    have:=h2 []
    simp only[List.getD,List.getElem?_map]at this ⊢
    have hx:ps[i]? = some p:=by
     rw[List.getElem?_eq_getElem h1]at this ⊢
     simpa using this
    rw[hx];rfl
   have hmem:p∈ps:=by
    have:p∈ps.drop i:=by rw[hr];exact List.mem_cons_self
    exact List.mem_of_mem_drop this
   obtain⟨hp1,hp2⟩:=hp p hmem
   have hl:=Ju5 p
   simp(disch:=omega)only[J1,J2,Jl,Jh,Jm,Jn,Ja,Jg,J8,Ji,cond_true,cond_false,Bool.not_true,Bool.not_false,Bool.true_or,Bool.or_true,Bool.false_or,Bool.or_false,Bool.true_and,Bool.and_true,Bool.false_and,Bool.and_false,Jk,Jj,Jb,hml,hg,J28]
   have hI:∀ K':Int->Option R,Jhj k p K'=K' (JfO p):=fun _=>rfl
   rw[hI,JGc,JHB k p hp2,Jqt k _ (by omega) (by omega)]
   rw[Qv]
   have c1:((i:Int)+1)=((i+1:Nat):Int):=by omega
   cases hb:p.any bad with
   |true=>simp only[cond_true,c1]
   |false =>
    simp only[cond_false]
    cases hs:stS (U2 p) k 0 with
    |none=>simp only[stK,Bool.not_false,cond_true,c1]
    |some e =>
     simp only[stK,Bool.not_true,cond_false]
     have w1:IntKind.i64.wrap ((p.length:Int)-((U2 p).length:Int))=(p.length:Int)-((U2 p).length:Int):=J8 (by omega) (by omega)
     have hf:∀ z:Row,Ju acc.length [z].length 32=true:=fun z=>Yc (by simp;omega) (by simp;omega)
     rw[w1,hf,cond_true,c1,ih r (i+1) _ h3 (by omega) (by simp at hn;omega) (by simp;omega),ih r (i+1) _ h3 (by omega) (by simp at hn;omega) (by omega)]
     unfold J1i
     cases rt ((U2 p).take e) == []<;>simp
theorem Jfz:∀ s:List UInt8,(spl s).length≤s.length+1
 |[]=>by simp[spl]
 |x::r=>by
  have:=Jfz r
  rw[spl]
  cases x == 10 with
  |true=>simp;omega
  |false =>
   cases h:spl r with
   |nil=>simp
   |cons p ps=>rw[h]at this;simp at this ⊢;omega
theorem Jmg:∀(s:List UInt8) (p:List UInt8),p∈spl s->p.length≤s.length
 |[],p,h=>by simp[spl]at h;simp[h]
 |x::r,p,h=>by
  rw[spl]at h
  cases hx:x == 10 with
  |true =>
   rw[hx,cond_true]at h
   rcases List.mem_cons.1 h with rfl|h
   ·simp
   ·have:=Jmg r p h;simp;omega
  |false =>
   rw[hx,cond_false]at h
   cases hs:spl r with
   |nil=>rw[hs]at h;simp at h;simp[h]
   |cons q qs =>
    rw[hs]at h
    have hq:=Jmg r
    rw[hs]at hq
    rcases List.mem_cons.1 h with rfl|h
    ·have:=hq q (by simp);simp;omega
    ·have:=hq p (by simp[h]);simp;omega
theorem JD4(k:Nat){R:Type}(s:List UInt8)(hk:20000<k)(K:List Row->Int->Int->Option R):
 Ja7 k (Js s) K=bif decide (s.length>16384)then K [] 1 1 else(Qv k (spl s) 1 [] |> fun z=>K z.1 z.2.1 z.2.2):=by
 unfold Ja7 JjK
 rw[Y8]
 by_cases h:s.length>16384
 ·rw[J1 h]
  have:decide ((s.length:Int)>16384)=true:=J1 (by omega)
  rw[this];rfl
 ·rw[J2 h]
  have:decide ((s.length:Int)>16384)=false:=J2 (by omega)
  have hl:=Jfz s
  rw[this,cond_false,cond_false,JHA k s (by omega) (by omega)]
  have hml:(((spl s).map Js).length:Int)=((spl s).length:Int):=by simp
  rw[hml]
  exact JBp k K 0 0 (spl s) (fun p hp=>by have:=Jmg s p hp;omega) (by omega) k _ 0 [] rfl (by omega) (by omega) (by simp)
theorem JlL(s:List UInt8): ∀(n m i:Nat),s.length<i+n->s.length<i+m->i≤s.length->stS s n i=stS s m i
 |0,_,i,h,_,hi=>by omega
 |_+1,0,i,_,h,hi=>by omega
 |n+1,m+1,i,h1,h2,hi=>by
  rw[stS,stS]
  by_cases h:i<s.length
  ·rw[Jn1 h,cond_false,cond_false,JlL s n m (i+1) (by omega) (by omega) (by omega)]
   cases hq:qAt s i with
   |none=>rfl
   |some j =>
    have:=Jlk hq
    dsimp only
    rw[JlL s n m (j+1) (by omega) (by omega) (by omega)]
  ·rw[Jn2 (by omega)];rfl
theorem JJE(c:UInt8): ((c.toNat:Int) != 10) = !(c == 10):=J5H c 10 (by omega)
theorem Jwq(t:List UInt8)(n:Nat)(d:Int)(h:n<t.length): (Js t).getD n d=((t.getD n 0).toNat:Int):=by
 simp[Js,List.getD,h]
theorem JJ0(b:Bool)(c:UInt8): (bif (bif b then true else decide ((c.toNat:Int)<32))then true else(c.toNat:Int) == 127)=(b || bad c):=by
 have h1:decide ((c.toNat:Int)≥0)=true:=J1 (by omega)
 unfold bad J1h
 rw[h1,cond_true]
 cases b<;>cases decide ((c.toNat:Int)<32)<;>cases((c.toNat:Int) == 127)<;>rfl
theorem JGY(k:Nat){R:Type}(J:List Int->Int->Int->List Row->Int->Int->Option R)(K:List Row->Int->Int->Option R)(t:List UInt8)(ht:t.length≤20000)(acc:List Row)(at' no:Int):
 ∀(n:Nat) (q:List UInt8) (e:Nat) (b:Bool),t.drop e=q->e≤t.length->q.length<n ->
 J4m k J n (Js t) 0 0 acc at' no (e:Int) b K=bif b || (q.take (Jp 10 q)).any bad then K [] 2 no else J34 k J k (Js t) 0 0 acc at' no ((e+Jp 10 q:Nat):Int) 0 K:=by
 intro n
 induction n with
 |zero=>intro q e b _ _ h;omega
 |succ n ih =>
  intro q e b hq he hn
  rw[J4m]
  unfold Jd0
  rw[Y8]
  cases q with
  |nil =>
   have:=JE hq
   simp(disch:=omega)only[J1,J2,Jl,Jh,Jm,Jn,Ja,Jg,J8,Ji,cond_true,cond_false,Bool.not_true,Bool.not_false,Bool.true_or,Bool.or_true,Bool.false_or,Bool.or_false,Bool.true_and,Bool.and_true,Bool.false_and,Bool.and_false,Jk,Jj,Jb]
   simp[Jp]
  |cons x q =>
   obtain⟨h1,h2,h3⟩:=Jz hq
   have hg:(Js t).getD e (Kd.int IntKind.u8).zero=(x.toNat:Int):=by rw[Jwq t e _ h1,h2]
   simp(disch:=omega)only[J1,J2,Jl,Jh,Jm,Jn,Ja,Jg,J8,Ji,cond_true,cond_false,Bool.not_true,Bool.not_false,Bool.true_or,Bool.or_true,Bool.false_or,Bool.or_false,Bool.true_and,Bool.and_true,Bool.false_and,Bool.and_false,Jk,Jj,Jb,hg,JJE,JJ0]
   rw[Q4,ih q (e+1) _ h3 (by omega) (by simp at hn;omega),Jp]
   cases hx:x == 10 with
   |true=>simp
   |false =>
    simp only[Bool.not_false,cond_true,cond_false,List.take_succ_cons,List.any_cons]
    rw[show e+1+Jp 10 q=e+(Jp 10 q+1) by omega,Bool.or_assoc]
def Jbl(k:Nat){R:Type}(J:List Row->Option R)(K:List Row->Int->Int->Option R)(acc:List Row)(no:Nat)(p:List UInt8): Option R :=
 match stS (U2 p) k 0 with
 |none=>K [] 3 (no:Int)
 |some e=>J (acc++J1i k no p e)
theorem JGf (k:Nat) {R:Type} (J:List Int->Int->Int->List Row->Int->Int->Option R) (K:List Row->Int->Int->Option R) (t:List UInt8) (ht:t.length≤20000) (hk:20000<k) (acc:List Row) (ha:acc.length≤20000) (at' no u:Nat)
 (hno:no≤30000) (hat:at'+u≤t.length) (p:List UInt8) (hp:(t.drop at').take u=p) :
 ∀(n m:Nat) (q:List UInt8),p.drop m=q->m≤p.length->q.length<n->U2 p=U2 q ->
 J34 k J n (Js t) 0 0 acc (at':Int) (no:Int) ((at'+u:Nat):Int) (m:Int) K=Jbl k (fun a=>J (Js t) 0 0 a ((at'+u+1:Nat):Int) ((no+1:Nat):Int)) K acc no p:=by
 have hpl:p.length=u:=by rw[←hp,List.length_take,List.length_drop];omega
 intro n
 induction n with
 |zero=>intro m q _ _ h;omega
 |succ n ih =>
  intro m q hq hm hn hlt
  rw[J34]
  unfold JhN
  have w1:IntKind.i64.wrap ((at':Int)+(m:Int))=((at'+m:Nat):Int):=by rw[J8 (by omega) (by omega)];omega
  have hcut:cut (Js t) ((at'+m:Nat):Int) ((at'+u:Nat):Int)=Js q:=by
   rw[←hq,←hp]
   simp only[cut,Js,Int.toNat_natCast,List.map_drop,List.map_take]
   rw[List.drop_take,List.drop_take,List.drop_drop,show at'+u-(at'+m)=u-m by omega]
  have hend:(U2 q=q)->(J51 k (Q5 (cut (Js t) ((at'+m:Nat):Int) ((at'+u:Nat):Int))) fun y14 y15 =>
   bif !y15 then K [] 3 (no:Int)
   else
    bif !(y14 == [])then
     bif Ju acc.length [((no:Int),((m:Int),y14))].length 32 then
      J (Js t) 0 0 (acc++[((no:Int),((m:Int),y14))]) (((at'+u:Nat):Int)+1) ((no:Int)+1)
     else none
    else J (Js t) 0 0 acc (((at'+u:Nat):Int)+1) ((no:Int)+1))=Jbl k (fun a=>J (Js t) 0 0 a ((at'+u+1:Nat):Int) ((no+1:Nat):Int)) K acc no p:=by
   intro hlq
   have hql:q.length=p.length-m:=by rw[←hq,List.length_drop]
   rw[hcut,J28,JpK k q (by omega) (by omega)]
   have w2:((at'+u:Nat):Int)+1=((at'+u+1:Nat):Int):=by omega
   have w3:(no:Int)+1=((no+1:Nat):Int):=by omega
   have hf:∀ z:Row,Ju acc.length [z].length 32=true:=fun z=>Yc (by simp;omega) (by simp;omega)
   rw[Jbl,hlt,hlq]
   cases hs:stS q k 0 with
   |none=>simp[stK]
   |some e =>
    have hd:(p.length:Int)-(q.length:Int)=(m:Int):=by omega
    simp only[stK,Bool.not_true,cond_false,w2,w3,hf,cond_true]
    unfold J1i
    rw[hlt,hlq,hd]
    cases rt (q.take e) == []<;>simp
  rw[w1,Y8]
  by_cases hmu:m<u
  ·obtain⟨x,q',rfl⟩:∃ x q',q=x::q':=by
    cases q with
    |nil=>have:=JE hq;omega
    |cons x q'=>exact⟨x,q',rfl⟩
   obtain⟨h1,h2,h3⟩:=Jz hq
   have hx:t.getD (at'+m) 0=x:=by
    have:=h2 0
    rw[←hp]at this
    simpa [List.getD,List.getElem?_take,List.getElem?_drop,hmu]using this
   have hg:(Js t).getD (at'+m) (Kd.int IntKind.u8).zero=(x.toNat:Int):=by rw[Jwq t _ _ (by omega),hx]
   simp(disch:=omega)only[J1,J2,Jl,Jh,Jm,Jn,Ja,Jg,J8,Ji,cond_true,cond_false,Bool.not_true,Bool.not_false,Bool.true_or,Bool.or_true,Bool.false_or,Bool.or_false,Bool.true_and,Bool.and_true,Bool.false_and,Bool.and_false,Jk,Jj,Jb,hg,Jbc]
   cases hb:x == 32 with
   |true =>
    rw[cond_true,Q4]
    refine ih (m+1) q' h3 (by omega) (by simp at hn;omega) ?_
    rw[hlt,U2,List.dropWhile_cons,hb];rfl
   |false =>
    rw[cond_false]
    exact hend (by rw[U2,List.dropWhile_cons,hb];rfl)
  ·have:q=[]:=by rw[←hq,List.drop_eq_nil_of_le (by omega)]
   subst this
   simp(disch:=omega)only[J1,J2,Jl,Jh,Jm,Jn,Ja,Jg,J8,Ji,cond_true,cond_false,Bool.not_true,Bool.not_false,Bool.true_or,Bool.or_true,Bool.false_or,Bool.or_false,Bool.true_and,Bool.and_true,Bool.false_and,Bool.and_false,Jk,Jj,Jb]
   exact hend rfl
theorem JsG(k no:Nat)(acc:List Row)(hk:0<k): Qv k [[]] no acc=(acc,0,0):=by
 obtain⟨m,rfl⟩:∃ m,k=m+1:=⟨k-1,by omega⟩
 rw[Qv]
 have h1:stS (U2 []) (m+1) 0=some 0:=rfl
 have h2:([]:List UInt8).any bad=false:=rfl
 rw[h1,h2]
 show Qv (m+1) [] (no+1) (acc++[])=_
 rw[Qv,List.append_nil]
theorem JAV(k:Nat){R:Type}(K:List Row->Int->Int->Option R)(t:List UInt8)(ht:t.length≤16384)(hk:20000<k):
 ∀(n:Nat) (r:List UInt8) (at' no:Nat) (acc:List Row),t.drop at'=r->r.length<n->no≤at'+1->acc.length≤at'->at'≤t.length+1 ->
 J4n k n (Js t) 0 0 acc (at':Int) (no:Int) K=(Qv k (spl r) no acc |> fun z=>K z.1 z.2.1 z.2.2):=by
 intro n
 induction n with
 |zero=>intro r at' no acc _ h;omega
 |succ n ih =>
  intro r at' no acc hr hn hno ha hat
  rw[J4n]
  unfold JcZ
  rw[Y8]
  by_cases hl:at'<t.length
  ·rw[J1 (by omega:(at':Int)<(t.length:Int)),cond_true]
   dsimp only
   have hrl:r.length=t.length-at':=by rw[←hr,List.length_drop]
   have hu:=Jfy 10 r
   rw[JGY k _ K t (by omega) acc at' no k r at' false hr (by omega) (by omega),Bool.false_or,Jfh]
   have hp:(t.drop at').take (Jp 10 r)=r.take (Jp 10 r):=by rw[hr]
   have hnext:=ih (r.drop (Jp 10 r+1)) (at'+Jp 10 r+1) (no+1)
   have hdrop:t.drop (at'+Jp 10 r+1)=r.drop (Jp 10 r+1):=by rw[←hr,List.drop_drop,Nat.add_assoc]
   have hbl:=JGf k (fun s0 s1 s2 s3 s4 s5=>J4n k n s0 s1 s2 s3 s4 s5 K) K t (by omega) hk acc (by omega) at' no (Jp 10 r) (by omega) (by omega) _ hp k 0 _ rfl (by omega) (by rw[List.length_drop,List.length_take];omega) rfl
   have hz:((0:Nat):Int)=0:=rfl
   rw[hz]at hbl
   rw[hbl]
   by_cases hlt:Jp 10 r<r.length
   ·rw[if_pos hlt,Qv]
    cases hb:(r.take (Jp 10 r)).any bad with
    |true=>rfl
    |false =>
     rw[cond_false,cond_false,Jbl]
     cases hs:stS (U2 (r.take (Jp 10 r))) k 0 with
     |none=>rfl
     |some e =>
      dsimp only
      have:=JlK k no (r.take (Jp 10 r)) e
      exact hnext _ hdrop (by rw[List.length_drop];omega) (by omega) (by rw[List.length_append];omega) (by omega)
   ·have hfull:r.take (Jp 10 r)=r:=List.take_of_length_le (by omega)
    rw[if_neg hlt,Qv,hfull]
    cases hb:r.any bad with
    |true=>rfl
    |false =>
     rw[cond_false,cond_false,Jbl]
     cases hs:stS (U2 r) k 0 with
     |none=>rfl
     |some e =>
      dsimp only
      have:=JlK k no r e
      have h2:=hnext (acc++J1i k no r e) hdrop (by rw[List.length_drop];omega) (by omega) (by rw[List.length_append];omega) (by omega)
      rw[List.drop_eq_nil_of_le (by omega)]at h2
      rw[h2]
      have:spl []=[[]]:=rfl
      rw[this,JsG k _ _ (by omega),Qv]
  ·have:r=[]:=by rw[←hr,List.drop_eq_nil_of_le (by omega)]
   subst this
   rw[J2 (by omega:¬ (at':Int)<(t.length:Int)),cond_false]
   have:spl []=[[]]:=rfl
   rw[this,JsG k _ _ (by omega)]
theorem JC0(k:Nat){R:Type}(s:List UInt8)(hk:20000<k)(K:List Row->Int->Int->Option R):
 J9S k (Js s) K=bif decide (s.length>16384)then K [] 1 1 else(Qv k (spl s) 1 [] |> fun z=>K z.1 z.2.1 z.2.2):=by
 unfold J9S Jjh
 rw[Y8]
 by_cases h:s.length>16384
 ·rw[J1 h]
  have:decide ((s.length:Int)>16384)=true:=J1 (by omega)
  rw[this];rfl
 ·rw[J2 h]
  have:decide ((s.length:Int)>16384)=false:=J2 (by omega)
  rw[this,cond_false,cond_false]
  exact JAV k K s (by omega) hk k s 0 1 [] rfl (by omega) (by omega) (by simp) (by omega)
theorem JkS(k:Nat): ∀(ps:List (List UInt8)) (no:Nat) (acc:List Row),(Qv k ps no acc).1.length≤acc.length+ps.length
 |[],no,acc=>by simp[Qv]
 |p::ps,no,acc=>by
  rw[Qv]
  cases p.any bad with
  |true=>simp
  |false =>
   cases stS (U2 p) k 0 with
   |none=>simp
   |some e =>
    have:=JkS k ps (no+1) (acc++J1i k no p e)
    have h2:=JlK k no p e
    simp only[cond_false,List.length_append,List.length_cons]at this ⊢
    omega
theorem JlM:∀(ls:List Ln) (out:List Pc),(QX ls out).1.length≤out.length+QC ls
 |[],out=>by simp[QX,QC]
 |l::r,out=>by
  rw[QX,QC]
  have h:=JlH l.1 l.2.1 l.2.2
  cases(U7 l.1 l.2.1 l.2.2).2.1 != 0 with
  |true=>simp
  |false =>
   simp only[cond_false]
   have:=JlM r (out++(U7 l.1 l.2.1 l.2.2).1)
   rw[List.length_append]at this
   omega
def J2K(ps:List (List UInt8)): Nat:=(ps.map List.length).sum
theorem Jmh:∀ s:List UInt8,J2K (spl s)≤s.length
 |[]=>by simp[spl,J2K]
 |x::r=>by
  have:=Jmh r
  rw[spl]
  cases x == 10 with
  |true=>simp[J2K]at this ⊢;omega
  |false =>
   cases h:spl r with
   |nil=>simp[J2K]
   |cons p ps=>rw[h]at this;simp[J2K]at this ⊢;omega
theorem JJ1(l:List UInt8): (rt l).length≤l.length:=by
 unfold rt
 rw[List.length_reverse]
 have:=(List.dropWhile_suffix (p:=(· == (32:UInt8))) (l:=l.reverse)).length_le
 simpa using this
theorem Jto:∀ a b:List Ln,QC (a++b)=QC a+QC b
 |[],b=>by simp[QC]
 |x::a,b=>by rw[List.cons_append,QC,QC,Jto a b];omega
theorem JjX(k:Nat): ∀(ps:List (List UInt8)) (no:Nat) (acc:List Row),QC (Qv k ps no acc).1≤QC acc+J2K ps
 |[],no,acc=>by simp[Qv]
 |p::ps,no,acc=>by
  rw[Qv]
  have hs:J2K (p::ps)=p.length+J2K ps:=by simp[J2K]
  cases p.any bad with
  |true=>simp[QC]
  |false =>
   cases stS (U2 p) k 0 with
   |none=>simp[QC]
   |some e =>
    simp only[cond_false]
    have:=JjX k ps (no+1) (acc++J1i k no p e)
    rw[Jto]at this
    have h2:QC (J1i k no p e)≤p.length:=by
     unfold J1i
     cases rt ((U2 p).take e) == []with
     |true=>simp[QC]
     |false =>
      have h3:=JJ1 ((U2 p).take e)
      have h4:=Ju5 p
      rw[List.length_take]at h3
      simp only[cond_false,QC]
      omega
    omega
def ZL(z:List Row×Int×Int): RsO :=
 bif z.2.1 != 0 then .inl (z.2.1,z.2.2)else bif (QX z.1 []).2.1 != 0 then .inl ((QX z.1 []).2.1,(QX z.1 []).2.2)else ofS (QX z.1 []).1
theorem JEk(k:Nat){R:Type}(s:List UInt8)(hs:s.length≤16384)(hk:200000<k)(K:List Nd->Int->Int->Option R): Jag k (Js s) K=J95 K (ZL (Qv k (spl s) 1 [])):=by
 unfold Jag JrN
 have h1:=Jfz s
 have h2:=JkS k (spl s) 1 []
 have h3:=JjX k (spl s) 1 []
 have h4:=Jmh s
 have h5:=JlM (Qv k (spl s) 1 []).1 []
 simp only[List.length_nil,QC]at h2 h3 h5
 rw[JD4 k s (by omega),J2 (by omega),cond_false,ZL]
 dsimp only
 cases hz:(Qv k (spl s) 1 []).2.1 != 0 with
 |true=>rfl
 |false =>
  simp only[cond_false]
  rw[JGb k _ _ (by omega) (by omega) (by omega) (by omega)]
  cases hy:(QX (Qv k (spl s) 1 []).1 []).2.1 != 0 with
  |true=>rfl
  |false =>
   simp only[cond_false]
   exact JGW k _ (by omega) (by omega) K
def fW:Nat:=9223372036854775808
def fI:Nat:=9218868437227405312
theorem J3y:Ieee.double.infRung=fI:=by decide +kernel
theorem Jbd:Ieee.double.signWeight=fW:=by decide +kernel
theorem J8L:Ieee.double.binade=4503599627370496:=by decide +kernel
theorem JIg(f:Ieee.Format)(m:Nat)(e:Int): f.nearest false m e≤f.infRung:=by
 unfold Ieee.Format.nearest
 dsimp only
 split
 ·simp[Ieee.Format.word]
 ·simp only[Ieee.Format.word,Bool.false_eq_true,if_false]
  exact Nat.min_le_right _ _
theorem JsH(m:Nat)(e:Int): Ieee.double.nearest false m e≤fI:=by
 have:=JIg Ieee.double m e
 rw[J3y]at this
 exact this
theorem Jfj(n:Nat): Jo (n:Int)≤fI:=by
 unfold Jo FloatKind.nearest FloatKind.encode
 have:decide ((n:Int)<0)=false:=J2 (by omega)
 rw[this]
 exact JsH _ _
theorem Jfk{r:Nat}(h:r≤fI): (∃ m e,Ieee.double.read r = .number false m e∧(m=0↔r=0))∨(Ieee.double.read r = .infinity false∧r=fI):=by
 have hI:fI=9218868437227405312:=rfl
 have hW:fW=9223372036854775808:=rfl
 have e1:(r / fW % 2 == 1)=false:=by rw[Nat.div_eq_of_lt (by omega)];rfl
 have e2:r % fW=r:=Nat.mod_eq_of_lt (by omega)
 unfold Ieee.Format.read
 rw[Jbd,J3y,J8L,e1,e2]
 dsimp only
 by_cases h1:r<4503599627370496
 ·rw[if_pos h1];exact .inl ⟨_,_,rfl,Iff.rfl⟩
 ·rw[if_neg h1]
  by_cases h2:r<fI
  ·rw[if_pos h2];exact .inl ⟨_,_,rfl,by omega⟩
  ·rw[if_neg h2,if_pos (by omega)];exact .inr ⟨rfl,by omega⟩
theorem Ju6{r:Nat}(h:r≤fI): (∃ m e,Ieee.double.read (r+fW) = .number true m e∧(m=0↔r=0))∨(Ieee.double.read (r+fW) = .infinity true∧r=fI):=by
 have hI:fI=9218868437227405312:=rfl
 have hW:fW=9223372036854775808:=rfl
 have e1:((r+fW) / fW % 2 == 1)=true:=by
  have:(r+fW) / fW=1:=by rw[hW];omega
  rw[this];rfl
 have e2:(r+fW) % fW=r:=by rw[hW];omega
 unfold Ieee.Format.read
 rw[Jbd,J3y,J8L,e1,e2]
 dsimp only
 by_cases h1:r<4503599627370496
 ·rw[if_pos h1];exact .inl ⟨_,_,rfl,Iff.rfl⟩
 ·rw[if_neg h1]
  by_cases h2:r<fI
  ·rw[if_pos h2];exact .inl ⟨_,_,rfl,by omega⟩
  ·rw[if_neg h2,if_pos (by omega)];exact .inr ⟨rfl,by omega⟩
theorem JGZ(m:Nat)(e:Int): Ieee.double.write (.number false m e)≤fI:=JsH m e
theorem Jvr{x y:Nat}(hx:x≤fI)(hy:y≤fI)(h0:y≠0)(h1:y≠fI): ∃ f,Jq .quo x y=some f∧f≤fI:=by
 show ∃ f,Ieee.double.div x y=some f∧f≤fI
 unfold Ieee.Format.div
 rcases Jfk hy with⟨n,j,ey,hn⟩|⟨_,e⟩
 ·have hn0:n≠0:=fun e=>h0 (hn.1 e)
  rw[ey]
  rcases Jfk hx with⟨m,i,ex,_⟩|⟨ex,_⟩
  ·rw[ex]
   unfold Ieee.Datum.quotient
   dsimp only
   rw[if_neg hn0]
   exact⟨_,rfl,JGZ _ _⟩
  ·rw[ex]
   refine⟨_,rfl,?_⟩
   show Ieee.double.word false Ieee.double.infRung≤fI
   rw[J3y];exact Nat.le_refl _
 ·exact absurd e h1
theorem Jvs:∀ k,k<7->Jo ((10 ^ k:Nat):Int)≠0∧Jo ((10 ^ k:Nat):Int)≠fI:=by decide +kernel
theorem J2q(x y:Int): compare x y=if x<y then .lt else if x=y then .eq else .gt:=rfl
theorem J0v(a b:Nat): QW a b=(Ieee.double.read a).order (Ieee.double.read b):=rfl
theorem JuK{d:Ieee.Datum}(h:∀ s t,d ≠ .nan s t): d.order d=some .eq:=by
 cases d with
 |nan s t=>exact absurd rfl (h s t)
 |infinity s=>show some (compare s.toNat s.toNat)=_;cases s<;>rfl
 |number s m i =>
  show some (compare (Ieee.signed s m _) (Ieee.signed s m _))=_
  rw[J2q,if_neg (by omega),if_pos rfl]
theorem JHC{f:Nat}(h:f≤fI): QW f f=some .eq:=by
 rw[J0v]
 refine JuK fun s t e => ?_
 rcases Jfk h with⟨m,i,e',_⟩|⟨e',_⟩<;>rw[e']at e<;>cases e
theorem JHD{f:Nat}(h:f≤fI): QW (f+fW) (f+fW)=some .eq:=by
 rw[J0v]
 refine JuK fun s t e => ?_
 rcases Ju6 h with⟨m,i,e',_⟩|⟨e',_⟩<;>rw[e']at e<;>cases e
theorem Jvt:∃ i,Ieee.double.read 0 = .number false 0 i:=⟨-1074,by decide +kernel⟩
theorem Jw8{f:Nat}(h:f≤fI): QW f 0=some (if f=0 then .eq else .gt):=by
 obtain⟨i0,e0⟩:=Jvt
 rw[J0v,e0]
 rcases Jfk h with⟨m,i,e,hm⟩|⟨e,hf⟩
 ·rw[e]
  show some (compare (Ieee.signed false m _) (Ieee.signed false 0 _))=_
  unfold Ieee.signed
  rw[if_neg (by simp),if_neg (by simp),Nat.zero_shiftLeft,Nat.shiftLeft_eq,J2q,if_neg (by omega)]
  by_cases h0:f=0
  ·rw[if_pos h0,hm.2 h0,Nat.zero_mul,if_pos rfl]
  ·have hm0:m≠0:=fun e=>h0 (hm.1 e)
   have hp:0<m*2 ^ (i-min i i0).toNat:=Nat.mul_pos (Nat.pos_of_ne_zero hm0) (Nat.two_pow_pos _)
   rw[if_neg h0,if_neg (by omega)]
 ·rw[e,if_neg (by rw[hf];decide)];rfl
theorem Jw9{f:Nat}(h:f≤fI)(h0:f≠0): QW (f+fW) 0=some .lt:=by
 obtain⟨i0,e0⟩:=Jvt
 rw[J0v,e0]
 rcases Ju6 h with⟨m,i,e,hm⟩|⟨e,hf⟩
 ·rw[e]
  show some (compare (Ieee.signed true m _) (Ieee.signed false 0 _))=_
  unfold Ieee.signed
  have hm0:m≠0:=fun e=>h0 (hm.1 e)
  have hp:0<m*2 ^ (i-min i i0).toNat:=Nat.mul_pos (Nat.pos_of_ne_zero hm0) (Nat.two_pow_pos _)
  rw[if_pos rfl,if_neg (by simp),Nat.zero_shiftLeft,Nat.shiftLeft_eq,J2q,if_pos (by omega)]
 ·rw[e];rfl
def Qw:Nat:=4607182418800017408
theorem Jtp{x:Int}(h1:0≤x)(h2:x<18446744073709551616): IntKind.u64.wrap x=x:=by
 simp only[IntKind.wrap,IntKind.bits,IntKind.signed]
 simp
 omega
theorem Jwa(n:Nat): BitVec.ofInt 64 (n:Int)=BitVec.ofNat 64 n:=BitVec.ofInt_natCast 64 n
theorem Ju7(x:Nat)(h:x<18446744073709551616): ZD .andNot .u64 (x:Int) 9223372036854775808=((x % fW:Nat):Int):=by
 have hW:fW=2 ^ 63:=by decide
 have e1:(BitVec.ofNat 64 x &&& ~~~ BitVec.ofInt 64 9223372036854775808).toNat=x % fW:=by
  rw[BitVec.toNat_and]
  have e2:(~~~ BitVec.ofInt 64 9223372036854775808).toNat=2 ^ 63-1:=by decide +kernel
  rw[e2,BitVec.toNat_ofNat,Nat.mod_eq_of_lt (by omega),Nat.and_two_pow_sub_one_eq_mod,hW]
 have hlt:x % fW<9223372036854775808:=Nat.mod_lt _ (by decide)
 show IntKind.u64.wrap (((BitVec.ofInt 64 (x:Int) &&& ~~~ BitVec.ofInt 64 9223372036854775808).toNat:Nat):Int)=_
 rw[Jwa,e1,Jtp (by omega) (by omega)]
theorem JJR(x:Nat)(h:x<fW): ZD .or .u64 (x:Int) 9223372036854775808=((x+fW:Nat):Int):=by
 have hW:fW=2 ^ 63:=by decide
 have hW':fW=9223372036854775808:=rfl
 have e1:(BitVec.ofNat 64 x ||| BitVec.ofInt 64 9223372036854775808).toNat=x+fW:=by
  rw[BitVec.toNat_or]
  have e2:(BitVec.ofInt 64 9223372036854775808).toNat=2 ^ 63:=by decide +kernel
  rw[e2,BitVec.toNat_ofNat,Nat.mod_eq_of_lt (by omega),Nat.or_comm]
  have:=Nat.two_pow_add_eq_or_of_lt (i:=63) (b:=x) (by omega) 1
  rw[Nat.mul_one]at this
  rw[←this,hW,Nat.add_comm]
 show IntKind.u64.wrap (((BitVec.ofInt 64 (x:Int) ||| BitVec.ofInt 64 9223372036854775808).toNat:Nat):Int)=_
 rw[Jwa,e1,Jtp (by omega) (by omega)]
theorem Jaq{x:Nat}(h:x<fW): Ul x=x+fW:=by
 have hW:fW=2 ^ 63:=by decide
 show x ^^^ 2 ^ (11+52)=x+fW
 have h2:=Nat.two_pow_add_eq_or_of_lt (i:=63) (b:=x) (by omega) 1
 rw[Nat.mul_one]at h2
 rw[hW,Nat.add_comm x,h2]
 apply Nat.eq_of_testBit_eq
 intro i
 rw[Nat.testBit_xor,Nat.testBit_or,Nat.testBit_two_pow]
 by_cases hi:63=i
 ·subst hi
  rw[Nat.testBit_lt_two_pow (by omega)];simp
 ·have:decide (11+52=i)=false:=J2 (by omega)
  rw[this]
  simp[hi]
theorem Jb1(k:Nat){R:Type}(x:Nat)(h:x<18446744073709551616)(K:Nat->Option R): Ub k x K=K (x % fW):=by
 unfold Ub Jsn J1r J2W
 dsimp only
 rw[Ju7 x h,Jb]
theorem JFh(k:Nat){R:Type}(x:Nat)(h:x≤fI)(K:Nat->Option R): J4O k x 13830554455654793216 K=K (Ul x):=by
 have hI:fI=9218868437227405312:=rfl
 have hW':fW=9223372036854775808:=rfl
 unfold J4O JoV J1r J2W
 have e1:ZD .and .u64 ((13830554455654793216:Nat):Int) 9223372036854775808=9223372036854775808:=by decide +kernel
 dsimp only
 rw[Ju7 x (by omega),e1,Nat.mod_eq_of_lt (by omega),JJR x (by omega),Jb,Jaq (by omega)]
theorem JFi(k:Nat){R:Type}(x:Nat)(h:x≤fI)(K:Bool->Option R): U9 k x K=K false:=by
 have hI:fI=9218868437227405312:=rfl
 unfold U9 Je6 J1r
 dsimp only
 rw[J8 (by omega) (by omega),J2 (by omega)]
def Jbm:Nat:=9221120237041090561
def fNI:Nat:=18442240474082181120
def bB:Nat:=4503599627370496
theorem Jn3:bB=2 ^ 52:=by decide +kernel
def mgF(x:Nat): Nat:=if x<bB then x else bB+x % bB
def exF(x:Nat): Nat:=x / bB-1
def svF(x:Nat): Nat:=mgF x*2 ^ exF x
theorem J13{x:Nat}(h:x<fI): Ieee.double.read x = .number false (mgF x) (-1074+(exF x:Int)):=by
 have hI:fI=9218868437227405312:=rfl
 have hW:Ieee.double.signWeight=9223372036854775808:=Jbd
 have hB:Ieee.double.binade=bB:=J8L
 have hR:Ieee.double.infRung=9218868437227405312:=J3y
 have hL:Ieee.double.leastPlace = -1074:=by decide +kernel
 unfold Ieee.Format.read
 rw[hW,hB,hR,hL]
 have e1:x / 9223372036854775808 % 2=0:=by omega
 have e2:x % 9223372036854775808=x:=by omega
 dsimp only
 rw[e1,e2]
 unfold mgF exF
 by_cases hx:x<bB
 ·have:x / bB-1=0:=by rw[Nat.div_eq_of_lt hx]
  rw[if_pos hx,if_pos hx,this];rfl
 ·rw[if_neg hx,if_neg hx,if_pos (by omega)];rfl
theorem JIh(x:Nat): svF (x+1)=svF x+2 ^ exF x:=by
 unfold svF mgF exF
 have hB:bB=4503599627370496:=rfl
 by_cases h1:x<bB
 ·by_cases h2:x+1<bB
  ·have e1:(x+1) / bB-1=0:=by rw[Nat.div_eq_of_lt h2]
   have e2:x / bB-1=0:=by rw[Nat.div_eq_of_lt h1]
   rw[if_pos h1,if_pos h2,e1,e2];simp
  ·have e:x+1=bB:=by omega
   have e2:x / bB-1=0:=by rw[Nat.div_eq_of_lt h1]
   rw[if_pos h1,if_neg h2,e2,e]
   have:bB / bB-1=0:=by decide
   rw[this,Nat.mod_self];simp;omega
 ·rw[if_neg h1,if_neg (show ¬ x+1<bB by omega)]
  have hm:=Nat.div_add_mod x bB
  have hlt:x % bB<bB:=Nat.mod_lt _ (by decide)
  have hd:1≤x / bB:=(Nat.one_le_div_iff (by decide)).2 (by omega)
  by_cases h3:x % bB+1<bB
  ·have e1:(x+1) / bB=x / bB:=by
    have:x+1=bB*(x / bB)+(x % bB+1):=by omega
    rw[this,Nat.mul_add_div (by decide),Nat.div_eq_of_lt h3];simp
   have e2:(x+1) % bB=x % bB+1:=by
    have:x+1=bB*(x / bB)+(x % bB+1):=by omega
    rw[this,Nat.mul_add_mod,Nat.mod_eq_of_lt h3]
   rw[e1,e2,←Nat.add_assoc,Nat.add_mul,Nat.one_mul]
  ·have e3:x % bB+1=bB:=by omega
   have e0:x+1=bB*(x / bB+1):=by rw[Nat.mul_add];omega
   have e1:(x+1) / bB=x / bB+1:=by rw[e0,Nat.mul_div_cancel_left _ (by decide)]
   have e2:(x+1) % bB=0:=by rw[e0,Nat.mul_mod_right]
   rw[e1,e2]
   have e4:x / bB+1-1=(x / bB-1)+1:=by omega
   rw[e4,Nat.pow_succ]
   have e5:bB+x % bB+1=2*bB:=by omega
   have e6:(bB+x % bB)*2 ^ (x / bB-1)+2 ^ (x / bB-1)=(bB+x % bB+1)*2 ^ (x / bB-1):=by rw[Nat.add_mul (bB+x % bB) 1,Nat.one_mul]
   rw[e6,e5,Nat.add_zero,Nat.mul_comm (2 ^ _) 2,←Nat.mul_assoc,Nat.mul_comm bB 2]
theorem J2C{x y:Nat}(h:x<y): svF x<svF y:=by
 induction y with
 |zero=>omega
 |succ y ih =>
  rw[JIh]
  have hp:0<2 ^ exF y:=Nat.pow_pos (by decide)
  rcases Nat.lt_or_ge x y with h1|h1
  ·have:=ih h1;omega
  ·have:x=y:=by omega
   subst this;omega
theorem Jga{x y:Nat}(h:x≤y): svF x≤svF y:=by
 rcases Nat.lt_or_ge x y with h1|h1
 ·exact Nat.le_of_lt (J2C h1)
 ·have:x=y:=by omega
  rw[this];exact Nat.le_refl _
theorem Jn4(x:Nat): mgF x<2*bB:=by
 unfold mgF
 have:x % bB<bB:=Nat.mod_lt _ (by decide)
 split<;>omega
theorem Jgb{t q:Nat}(h1:q≤2*bB)(h2:t=0∨bB≤q): svF (t*bB+q)=q*2 ^ t:=by
 have hB:bB=4503599627370496:=rfl
 have hp:0<bB:=by decide
 unfold svF mgF exF
 by_cases hq:q<bB
 ·have ht:t=0:=by omega
  subst ht
  rw[Nat.zero_mul,Nat.zero_add,if_pos hq,Nat.div_eq_of_lt hq]
 ·have hx:¬ t*bB+q<bB:=by have:0≤t*bB:=Nat.zero_le _;omega
  rw[if_neg hx]
  by_cases h3:q<2*bB
  ·have e0:t*bB+q=bB*(t+1)+(q-bB):=by rw[Nat.mul_add,Nat.mul_comm bB t];omega
   have e1:(t*bB+q) / bB=t+1:=by rw[e0,Nat.mul_add_div hp,Nat.div_eq_of_lt (by omega)]
   have e2:(t*bB+q) % bB=q-bB:=by rw[e0,Nat.mul_add_mod,Nat.mod_eq_of_lt (by omega)]
   rw[e1,e2,Nat.add_sub_cancel,show bB+(q-bB)=q by omega]
  ·have e:q=2*bB:=by omega
   have e0:t*bB+q=bB*(t+2):=by rw[Nat.mul_add,Nat.mul_comm bB t];omega
   have e1:(t*bB+q) / bB=t+2:=by rw[e0,Nat.mul_div_cancel_left _ hp]
   have e2:(t*bB+q) % bB=0:=by rw[e0,Nat.mul_mod_right]
   rw[e1,e2,e,show t+2-1=t+1 by omega,Nat.pow_succ,Nat.add_zero,Nat.mul_comm 2 bB,Nat.mul_assoc,Nat.mul_comm 2 (2 ^ t)]
theorem Jb2(n:Nat): n<2 ^ (n.log2+1):=Nat.lt_log2_self
theorem JfT{n:Nat}(h:n≠0): 2 ^ n.log2≤n:=Nat.log2_self_le h
theorem JHE(s:Bool)(n drop:Nat): Ieee.Toward.even.cut s n drop*2 ^ drop<n+2 ^ drop∧n<(Ieee.Toward.even.cut s n drop+1)*2 ^ drop∧n / 2 ^ drop≤Ieee.Toward.even.cut s n drop:=by
 have hd:0<2 ^ drop:=Nat.pow_pos (by decide)
 unfold Ieee.Toward.cut
 dsimp only
 by_cases h:drop≤n.log2+2
 ·rw[Nat.min_eq_left h,Nat.one_shiftLeft]
  have hm:=Nat.div_add_mod n (2 ^ drop)
  have hlt:=Nat.mod_lt n hd
  generalize n / 2 ^ drop=lo at *
  generalize n % 2 ^ drop=re at *
  generalize 2 ^ drop=g at *
  cases hb:(decide (g<2*re) || (g == 2*re&&lo % 2 == 1))with
  |false =>
   have e:(lo+(false).toNat)*g=g*lo:=by rw[Bool.toNat_false,Nat.add_zero,Nat.mul_comm]
   refine⟨by rw[e];omega,?_,by simp⟩
   rw[Nat.add_mul,e];omega
  |true =>
   have hr:0<re:=by
    simp only[Bool.or_eq_true,decide_eq_true_eq,Bool.and_eq_true,beq_iff_eq]at hb
    omega
   have e:(lo+(true).toNat)*g=g*lo+g:=by rw[Bool.toNat_true,Nat.add_mul,Nat.one_mul,Nat.mul_comm]
   refine⟨by rw[e];omega,?_,by simp⟩
   rw[Nat.add_mul,e];omega
 ·have hg:min drop (n.log2+2)=n.log2+2:=by omega
  rw[hg,Nat.one_shiftLeft]
  have h1:=Jb2 n
  have h2:2 ^ (n.log2+2)=2*2 ^ (n.log2+1):=by rw[Nat.pow_succ 2 (n.log2+1)];omega
  have h3:n<2 ^ (n.log2+2):=by omega
  have h4:2 ^ (n.log2+2)≤2 ^ drop:=Nat.pow_le_pow_right (by decide) (by omega)
  rw[Nat.div_eq_of_lt h3,Nat.mod_eq_of_lt h3]
  have hb:(decide (2 ^ (n.log2+2)<2*n) || (2 ^ (n.log2+2) == 2*n&&0 % 2 == 1))=false:=by
   simp;omega
  rw[hb,Nat.div_eq_of_lt (Nat.lt_of_lt_of_le h3 h4)]
  simp;omega
def pw(n:Nat): Nat:=2 ^ n
theorem JfU(n:Nat): 0<pw n:=Nat.pow_pos (by decide)
theorem JJ2(r:Nat): Ieee.double.word false r=r:=by unfold Ieee.Format.word;rw[if_neg (by decide)]
theorem JkT{s:Nat}(hs:s=1926){m:Nat}(hm:m≠0){e:Int}(he : -3000≤e): ∃ t q T:Nat,Ieee.double.nearest false m e=min (t*bB+q) fI∧q≤2*bB∧(t=0∨bB≤q)∧T=2 ^ t*2 ^ s∧q*T<m*2 ^ (e+3000).toNat+T∧m*2 ^ (e+3000).toNat<(q+1)*T∧(t=0∨bB*T≤m*2 ^ (e+3000).toNat):=by
 have hB:bB=4503599627370496:=rfl
 have hB2:bB=2 ^ 52:=Jn3
 have hR:Ieee.double.infRung=fI:=J3y
 have hBi:Ieee.double.binade=bB:=J8L
 have hL:Ieee.double.leastPlace = -1074:=by decide +kernel
 have hF:((Ieee.double.fractionBits:Nat):Int)=52:=rfl
 obtain⟨la,hla⟩:∃ la:Int,la=max (e+(m.log2:Int)-52) (-1074):=⟨_,rfl⟩
 obtain⟨n,hn⟩:∃ n:Nat,n=m <<< (e-la).toNat:=⟨_,rfl⟩
 obtain⟨dr,hdr⟩:∃ dr:Nat,dr=(la-e).toNat:=⟨_,rfl⟩
 obtain⟨q,hq⟩:∃ q:Nat,q=Ieee.Toward.even.cut false n dr:=⟨_,rfl⟩
 obtain⟨t,ht⟩:∃ t:Nat,t=(la+1074).toNat:=⟨_,rfl⟩
 have h1:Ieee.double.nearest false m e=min (t*bB+q) fI:=by
  unfold Ieee.Format.nearest
  rw[if_neg hm,hL,hF,hBi,hR]
  dsimp only
  rw[←hla,←hn,←hdr,←hq]
  have:(la - -1074).toNat=t:=by omega
  rw[this,JJ2]
 obtain⟨c1,c2,c3⟩:=JHE false n dr
 rw[←hq]at c1 c2 c3
 have hml:=JfT hm
 have hmu:=Jb2 m
 obtain⟨u,hu⟩:∃ u:Nat,u=(min e la+3000).toNat:=⟨_,rfl⟩
 have hY:m*2 ^ (e+3000).toNat=n*2 ^ u:=by
  rw[hn,Nat.shiftLeft_eq,Nat.mul_assoc,←Nat.pow_add]
  exact congrArg (fun j:Nat=>m*pw j) (by omega)
 have hT:2 ^ t*2 ^ s=2 ^ dr*2 ^ u:=by
  rw[←Nat.pow_add,←Nat.pow_add]
  exact congrArg pw (by omega)
 have hup:0<2 ^ u:=Nat.pow_pos (by decide)
 have k1:q*(2 ^ t*2 ^ s)<m*2 ^ (e+3000).toNat+2 ^ t*2 ^ s:=by
  rw[hY,hT,←Nat.mul_assoc,←Nat.add_mul]
  exact Nat.mul_lt_mul_of_pos_right c1 hup
 have k2:m*2 ^ (e+3000).toNat<(q+1)*(2 ^ t*2 ^ s):=by
  rw[hY,hT,←Nat.mul_assoc]
  exact Nat.mul_lt_mul_of_pos_right c2 hup
 have hbig:t=0∨(la=e+(m.log2:Int)-52∧t=(e+(m.log2:Int)+1022).toNat):=by omega
 have k3:t=0∨bB*(2 ^ t*2 ^ s)≤m*2 ^ (e+3000).toNat:=by
  rcases hbig with h|⟨h2,h3⟩
  ·exact .inl h
  ·right
   have e1:bB*(2 ^ t*2 ^ s)=2 ^ m.log2*2 ^ (e+3000).toNat:=by
    rw[hB2,←Nat.pow_add,←Nat.pow_add,←Nat.pow_add]
    exact congrArg pw (by omega)
   rw[e1]
   exact Nat.mul_le_mul_right _ hml
 have k4:t=0∨bB≤q:=by
  rcases k3 with h|h
  ·exact .inl h
  ·right
   have hp:0<2 ^ t*2 ^ s:=Nat.mul_pos (Nat.pow_pos (by decide)) (Nat.pow_pos (by decide))
   have:=Nat.lt_of_mul_lt_mul_right (Nat.lt_of_le_of_lt h k2)
   omega
 have k5:q≤2*bB:=by
  have hp:0<2 ^ t*2 ^ s:=Nat.mul_pos (Nat.pow_pos (by decide)) (Nat.pow_pos (by decide))
  have e1:m*2 ^ (e+3000).toNat≤2*bB*(2 ^ t*2 ^ s):=by
   refine Nat.le_of_lt (Nat.lt_of_lt_of_le (Nat.mul_lt_mul_of_pos_right hmu (Nat.pow_pos (by decide))) ?_)
   have e2:2*bB*(2 ^ t*2 ^ s)=2 ^ (53+(t+s)):=by
    rw[Nat.pow_add 2 53,Nat.pow_add 2 t,hB2]
   rw[e2,←Nat.pow_add]
   exact Nat.pow_le_pow_right (by decide) (by omega)
  have e3:q*(2 ^ t*2 ^ s)<(2*bB+1)*(2 ^ t*2 ^ s):=by
   rw[Nat.add_mul,Nat.one_mul];omega
  have:=Nat.lt_of_mul_lt_mul_right e3
  omega
 exact⟨t,q,_,h1,k5,k4,rfl,k1,k2,k3⟩
theorem JkU{s:Nat}(hs:s=1926){m:Nat}{e:Int}(he : -3000≤e){r:Nat}(hr:r<fI)(h:m*2 ^ (e+3000).toNat≤svF r*2 ^ s): Ieee.double.nearest false m e≤r:=by
 by_cases hm:m=0
 ·subst hm
  have:Ieee.double.nearest false 0 e=0:=by unfold Ieee.Format.nearest;rw[if_pos rfl];rfl
  rw[this];exact Nat.zero_le _
 ·obtain⟨t,q,T,h1,h2,h3,h4,h5,h6,h7⟩:=JkT hs hm he
  rw[h1]
  refine Nat.le_trans (Nat.min_le_left _ _) ?_
  rcases Nat.lt_or_ge r (t*bB+q)with hlt|hge
  ·exfalso
   have hv:=J2C hlt
   rw[Jgb h2 h3]at hv
   have hY0:0<m*2 ^ (e+3000).toNat:=Nat.mul_pos (by omega) (Nat.pow_pos (by decide))
   generalize hY:m*2 ^ (e+3000).toNat=Y at *
   have hP:0<2 ^ s:=(Nat.pow_pos (by decide))
   have hs2:svF r*2 ^ s<q*T:=by
    rw[h4,←Nat.mul_assoc];exact Nat.mul_lt_mul_of_pos_right hv hP
   have hq1:(q-1)*T<svF r*2 ^ s:=by
    rw[Nat.sub_mul,Nat.one_mul];omega
   have hTp:0<T:=by rw[h4];exact Nat.mul_pos (Nat.pow_pos (by decide)) hP
   rcases Nat.lt_or_ge (exF r) t with hx|hx
   ·rcases h7 with h7|h7
    ·omega
    ·have e1:svF r*2 ^ s<bB*T:=by
      have:svF r<bB*2 ^ t:=by
       unfold svF
       have a1:=Jn4 r
       have a2:2 ^ t=2 ^ (exF r+1)*2 ^ (t-(exF r+1)):=by rw[←Nat.pow_add];congr 1;omega
       have a3:0<2 ^ (t-(exF r+1)):=Nat.pow_pos (by decide)
       have a4:mgF r*2 ^ exF r<2*bB*2 ^ exF r:=Nat.mul_lt_mul_of_pos_right a1 (Nat.pow_pos (by decide))
       have a5:2*bB*2 ^ exF r=bB*2 ^ (exF r+1):=by rw[Nat.pow_succ,Nat.mul_comm 2 bB,Nat.mul_assoc,Nat.mul_comm 2]
       rw[a2,←Nat.mul_assoc,←a5]
       exact Nat.lt_of_lt_of_le a4 (Nat.le_mul_of_pos_right _ a3)
      rw[h4,←Nat.mul_assoc];exact Nat.mul_lt_mul_of_pos_right this hP
     omega
   ·have e1:svF r*2 ^ s=mgF r*2 ^ (exF r-t)*T:=by
     unfold svF
     have:2 ^ exF r=2 ^ (exF r-t)*2 ^ t:=by rw[←Nat.pow_add];congr 1;omega
     rw[h4,this]
     simp only[Nat.mul_assoc]
    rw[e1]at hs2 hq1
    have b1:=Nat.lt_of_mul_lt_mul_right hs2
    have b2:=Nat.lt_of_mul_lt_mul_right hq1
    omega
  ·exact hge
theorem JsI{s:Nat}(hs:s=1926){m:Nat}{e:Int}(he : -3000≤e){r:Nat}(hr:r<fI)(h:svF r*2 ^ s≤m*2 ^ (e+3000).toNat): r≤Ieee.double.nearest false m e:=by
 by_cases hm:m=0
 ·subst hm
  have hP:0<2 ^ s:=(Nat.pow_pos (by decide))
  rw[Nat.zero_mul]at h
  have h0:svF r=0:=by
   rcases Nat.eq_zero_or_pos (svF r)with h1|h1
   ·exact h1
   ·have:=Nat.mul_pos h1 hP;omega
  rcases Nat.eq_zero_or_pos r with h1|h1
  ·omega
  ·have:=J2C h1;omega
 ·obtain⟨t,q,T,h1,h2,h3,h4,h5,h6,h7⟩:=JkT hs hm he
  rw[h1]
  refine Nat.le_min.2 ⟨?_,by omega⟩
  rcases Nat.lt_or_ge (t*bB+q) r with hlt|hge
  ·exfalso
   have hv:=J2C hlt
   rw[Jgb h2 h3]at hv
   generalize hY:m*2 ^ (e+3000).toNat=Y at *
   have hP:0<2 ^ s:=(Nat.pow_pos (by decide))
   have hs2:q*T<svF r*2 ^ s:=by
    rw[h4,←Nat.mul_assoc];exact Nat.mul_lt_mul_of_pos_right hv hP
   have hq1:svF r*2 ^ s<(q+1)*T:=by omega
   rcases Nat.lt_or_ge (exF r) t with hx|hx
   ·rcases h3 with h3|h3
    ·omega
    ·have e1:svF r*2 ^ s<q*T:=by
      have:svF r<q*2 ^ t:=by
       unfold svF
       have a1:=Jn4 r
       have a2:2 ^ t=2 ^ (exF r+1)*2 ^ (t-(exF r+1)):=by rw[←Nat.pow_add];congr 1;omega
       have a3:0<2 ^ (t-(exF r+1)):=Nat.pow_pos (by decide)
       have a4:mgF r*2 ^ exF r<2*bB*2 ^ exF r:=Nat.mul_lt_mul_of_pos_right a1 (Nat.pow_pos (by decide))
       have a5:2*bB*2 ^ exF r=bB*2 ^ (exF r+1):=by rw[Nat.pow_succ,Nat.mul_comm 2 bB,Nat.mul_assoc,Nat.mul_comm 2]
       have a6:bB*2 ^ (exF r+1)≤q*2 ^ (exF r+1):=Nat.mul_le_mul_right _ h3
       rw[a2,←Nat.mul_assoc]
       exact Nat.lt_of_lt_of_le (Nat.lt_of_lt_of_le a4 (by omega)) (Nat.le_mul_of_pos_right _ a3)
      rw[h4,←Nat.mul_assoc];exact Nat.mul_lt_mul_of_pos_right this hP
     omega
   ·have e1:svF r*2 ^ s=mgF r*2 ^ (exF r-t)*T:=by
     unfold svF
     have:2 ^ exF r=2 ^ (exF r-t)*2 ^ t:=by rw[←Nat.pow_add];congr 1;omega
     rw[h4,this]
     simp only[Nat.mul_assoc]
    rw[e1]at hs2 hq1
    have b1:=Nat.lt_of_mul_lt_mul_right hs2
    have b2:=Nat.lt_of_mul_lt_mul_right hq1
    omega
  ·exact hge
theorem J2D(m u:Nat): Ieee.signed false m u=((m*2 ^ u:Nat):Int):=by unfold Ieee.signed;rw[if_neg (by decide),Nat.shiftLeft_eq]
theorem Jmi{x y:Nat}(hx:x<fI)(hy:y<fI): QW x y=some (compare x y):=by
 rw[J0v,J13 hx,J13 hy]
 unfold Ieee.Datum.order
 dsimp only
 rw[J2D,J2D]
 generalize ha:(-1074+(exF x:Int)-min (-1074+(exF x:Int)) (-1074+(exF y:Int))).toNat=a
 generalize hb:(-1074+(exF y:Int)-min (-1074+(exF x:Int)) (-1074+(exF y:Int))).toNat=b
 obtain⟨c,hc⟩:∃ c,c=min (exF x) (exF y):=⟨_,rfl⟩
 have e1:svF x=mgF x*2 ^ a*2 ^ c:=by
  unfold svF
  rw[Nat.mul_assoc,←Nat.pow_add]
  exact congrArg (fun j:Nat=>mgF x*pw j) (by omega)
 have e2:svF y=mgF y*2 ^ b*2 ^ c:=by
  unfold svF
  rw[Nat.mul_assoc,←Nat.pow_add]
  exact congrArg (fun j:Nat=>mgF y*pw j) (by omega)
 have hp:0<2 ^ c:=Nat.pow_pos (by decide)
 generalize mgF x*2 ^ a=p at *
 generalize mgF y*2 ^ b=q at *
 rw[J2q]
 have key:((p:Int)<(q:Int)↔x<y)∧((p:Int)=(q:Int)↔x=y):=by
  rcases Nat.lt_trichotomy x y with h|h|h
  ·have:=J2C h
   rw[e1,e2]at this
   have:=Nat.lt_of_mul_lt_mul_right this
   omega
  ·subst h
   have:p=q:=by
    have h3:p*2 ^ c=q*2 ^ c:=by rw[←e1,←e2]
    exact Nat.eq_of_mul_eq_mul_right hp h3
   omega
  ·have:=J2C h
   rw[e1,e2]at this
   have:=Nat.lt_of_mul_lt_mul_right this
   omega
 congr 1
 show _=compareOfLessAndEq x y
 unfold compareOfLessAndEq
 by_cases h1:x<y
 ·rw[if_pos (key.1.2 h1),if_pos h1]
 ·rw[if_neg (fun h=>h1 (key.1.1 h)),if_neg h1]
  by_cases h2:x=y
  ·rw[if_pos (key.2.2 h2),if_pos h2]
  ·rw[if_neg (fun h=>h2 (key.2.1 h)),if_neg h2]
theorem Jmj(x y:Nat): compare x y=if x<y then .lt else if x=y then .eq else .gt:=rfl
theorem JuL{x y:Nat}(hx:x<fI)(hy:y<fI): Jr .geq x y=decide (y≤x):=by
 unfold Jr
 simp only[Jmi hx hy,Jmj]
 by_cases h1:x<y
 ·rw[if_pos h1,J2 (by omega)];rfl
 ·rw[if_neg h1,J1 (show y≤x by omega)]
  by_cases h2:x=y
  ·rw[if_pos h2];rfl
  ·rw[if_neg h2];rfl
def wlF(x:Nat): Nat:=svF x / pw 1074
theorem JH0{x:Nat}(hx:x<fI): JX x=some ((wlF x:Nat):Int):=by
 have e0:JX x=(Ieee.double.read x).toInt .zero:=rfl
 rw[e0,J13 hx]
 unfold Ieee.Datum.toInt Ieee.Datum.integral
 dsimp only
 rw[J2D]
 obtain⟨s,hs⟩:∃ s:Nat,s=1074:=⟨_,rfl⟩
 have ew:wlF x=mgF x*2 ^ exF x / 2 ^ s:=by rw[hs];rfl
 congr 1
 congr 1
 rw[ew,Nat.pow_zero,Nat.mul_one]
 unfold Ieee.Toward.cut
 dsimp only
 rw[Bool.toNat_false,Nat.add_zero]
 rcases Nat.lt_or_ge (exF x) 1074 with h|h
 ·have a1:(-1074+(exF x:Int)).toNat=0:=by omega
  have a2:(-(-1074+(exF x:Int))).toNat=s-exF x:=by omega
  rw[a1,a2,Nat.shiftLeft_zero,Nat.one_shiftLeft]
  have e1:2 ^ s=2 ^ (s-exF x)*2 ^ exF x:=by rw[←Nat.pow_add];exact congrArg pw (by omega)
  rw[e1,Nat.mul_div_mul_right _ _ (Nat.pow_pos (by decide))]
  by_cases h2:s-exF x≤(mgF x).log2+2
  ·rw[Nat.min_eq_left h2]
  ·rw[Nat.min_eq_right (by omega)]
   have b1:=Jb2 (mgF x)
   have b2:2 ^ ((mgF x).log2+1)≤2 ^ ((mgF x).log2+2):=Nat.pow_le_pow_right (by decide) (by omega)
   have b3:2 ^ ((mgF x).log2+2)≤2 ^ (s-exF x):=Nat.pow_le_pow_right (by decide) (by omega)
   rw[Nat.div_eq_of_lt (Nat.lt_of_lt_of_le b1 b2),Nat.div_eq_of_lt (Nat.lt_of_lt_of_le b1 (Nat.le_trans b2 b3))]
 ·have a1:(-1074+(exF x:Int)).toNat=exF x-s:=by omega
  have a2:(-(-1074+(exF x:Int))).toNat=0:=by omega
  rw[a1,a2,Nat.shiftLeft_eq,Nat.zero_min,Nat.one_shiftLeft,Nat.pow_zero,Nat.div_one]
  have e1:2 ^ exF x=2 ^ (exF x-s)*2 ^ s:=by rw[←Nat.pow_add];exact congrArg pw (by omega)
  rw[e1,←Nat.mul_assoc,Nat.mul_div_cancel _ (Nat.pow_pos (by decide))]
theorem Jbe{x y:Nat}(h:x≤y): wlF x≤wlF y:=Nat.div_le_div_right (Jga h)
theorem JuM{x y:Nat}(hx:x<fI)(hy:y<fI): Jq .mul x y=some (Ieee.double.nearest false (mgF x*mgF y) (-2148+(exF x:Int)+(exF y:Int))):=by
 have e0:Jq .mul x y=((Ieee.double.read x).product (Ieee.double.read y)).map Ieee.double.write:=rfl
 rw[e0,J13 hx,J13 hy]
 unfold Ieee.Datum.product
 dsimp only
 rw[Option.map_some]
 unfold Ieee.Format.write
 dsimp only
 have:(-1074+(exF x:Int)+(-1074+(exF y:Int))) = -2148+(exF x:Int)+(exF y:Int):=by omega
 rw[this];rfl
theorem JuN{s:Nat}(hs:s=1926)(x y:Nat): mgF x*mgF y*2 ^ (-2148+(exF x:Int)+(exF y:Int)+3000).toNat*2 ^ 1074=svF x*svF y*2 ^ s:=by
 unfold svF
 obtain⟨u,hu⟩:∃ u:Nat,u=1074:=⟨_,rfl⟩
 rw[←hu]
 have e1:mgF x*mgF y*2 ^ (-2148+(exF x:Int)+(exF y:Int)+3000).toNat*2 ^ u=mgF x*mgF y*2 ^ ((-2148+(exF x:Int)+(exF y:Int)+3000).toNat+u):=by rw[Nat.pow_add,←Nat.mul_assoc]
 have e2:mgF x*2 ^ exF x*(mgF y*2 ^ exF y)*2 ^ s=mgF x*mgF y*2 ^ (exF x+exF y+s):=by
  rw[Nat.pow_add,Nat.pow_add]
  simp only[Nat.mul_assoc,Nat.mul_comm,Nat.mul_left_comm]
 rw[e1,e2]
 exact congrArg (fun j:Nat=>mgF x*mgF y*pw j) (by omega)
theorem JmF{x y r:Nat}(hx:x<fI)(hy:y<fI)(hr:r<fI)(h:svF x*svF y≤svF r*pw 1074): ∃ p,Jq .mul x y=some p∧p≤r:=by
 refine⟨_,JuM hx hy,?_⟩
 obtain⟨s,hs⟩:∃ s:Nat,s=1926:=⟨_,rfl⟩
 obtain⟨u,hu⟩:∃ u:Nat,u=1074:=⟨_,rfl⟩
 refine JkU hs (by omega) hr ?_
 have e:=JuN hs x y
 rw[←hu]at e h
 unfold pw at h
 have hp:0<2 ^ u:=Nat.pow_pos (by decide)
 refine Nat.le_of_mul_le_mul_right ?_ hp
 rw[e,Nat.mul_assoc (svF r),Nat.mul_comm (2 ^ s),←Nat.mul_assoc (svF r)]
 exact Nat.mul_le_mul_right _ h
theorem JJ3{x y r:Nat}(hx:x<fI)(hy:y<fI)(hr:r<fI)(h:svF r*pw 1074≤svF x*svF y): ∃ p,Jq .mul x y=some p∧r≤p:=by
 refine⟨_,JuM hx hy,?_⟩
 obtain⟨s,hs⟩:∃ s:Nat,s=1926:=⟨_,rfl⟩
 obtain⟨u,hu⟩:∃ u:Nat,u=1074:=⟨_,rfl⟩
 refine JsI hs (by omega) hr ?_
 have e:=JuN hs x y
 rw[←hu]at e h
 unfold pw at h
 have hp:0<2 ^ u:=Nat.pow_pos (by decide)
 refine Nat.le_of_mul_le_mul_right ?_ hp
 rw[e,Nat.mul_assoc,Nat.mul_comm (2 ^ s),←Nat.mul_assoc]
 exact Nat.mul_le_mul_right _ h
theorem J3E{n:Nat}(hn:n≤2*bB): Jo (n:Int)<fI∧svF (Jo (n:Int))=n*pw 1074:=by
 have hI:fI=9218868437227405312:=rfl
 have hB:bB=4503599627370496:=rfl
 have e0:Jo (n:Int)=Ieee.double.nearest false n 0:=rfl
 rw[e0]
 obtain⟨s,hs⟩:∃ s:Nat,s=1926:=⟨_,rfl⟩
 obtain⟨u,hu⟩:∃ u:Nat,u=1074:=⟨_,rfl⟩
 have eu:pw 1074=2 ^ u:=by rw[hu];rfl
 rw[eu]
 by_cases h0:n=0
 ·subst h0
  have:Ieee.double.nearest false 0 0=0:=by unfold Ieee.Format.nearest;rw[if_pos rfl];rfl
  rw[this,Nat.zero_mul]
  exact⟨by omega,rfl⟩
 ·-- the rung
  have h1:=JfT h0
  have h2:=Jb2 n
  have hl:n.log2≤53:=by
   rcases Nat.lt_or_ge 53 n.log2 with h|h
   ·have:2 ^ 54≤2 ^ n.log2:=Nat.pow_le_pow_right (by decide) h
    have:(2:Nat) ^ 54=18014398509481984:=by decide
    omega
   ·exact h
  obtain⟨r,t,q,hr,hq1,hq2,hv⟩:∃ r t q:Nat,r=t*bB+q∧bB≤q∧q≤2*bB∧q*2 ^ t=n*2 ^ u∧t≤1100:=by
   by_cases h53:n.log2=53
   ·have hn':n=2*bB:=by
     rw[h53]at h1
     have:(2:Nat) ^ 53=9007199254740992:=by decide
     omega
    refine⟨_,u,n,rfl,by omega,by omega,rfl,by omega⟩
   ·refine⟨_,u-(52-n.log2),n*2 ^ (52-n.log2),rfl,?_,?_,?_,by omega⟩
    ·have:bB=2 ^ n.log2*2 ^ (52-n.log2):=by rw[←Nat.pow_add,Jn3];exact congrArg pw (by omega)
     rw[this];exact Nat.mul_le_mul_right _ h1
    ·have:2*bB=2 ^ (n.log2+1)*2 ^ (52-n.log2):=by
      rw[←Nat.pow_add,Jn3,←Nat.pow_succ'];exact congrArg pw (by omega)
     rw[this];exact Nat.mul_le_mul_right _ (Nat.le_of_lt h2)
    ·rw[Nat.mul_assoc,←Nat.pow_add];exact congrArg (fun j:Nat=>n*pw j) (by omega)
  have hrf:r<fI:=by
   rw[hr]
   have:t*bB≤1100*bB:=Nat.mul_le_mul_right _ hv.2
   omega
  have hsv:svF r=n*2 ^ u:=by rw[hr,Jgb hq2 (.inr hq1),hv.1]
  have e3:n*2 ^ ((0:Int)+3000).toNat=svF r*2 ^ s:=by
   rw[hsv,Nat.mul_assoc,←Nat.pow_add];exact congrArg (fun j:Nat=>n*pw j) (by omega)
  have a:=JkU hs (m:=n) (e:=0) (by omega) hrf (by rw[e3];exact Nat.le_refl _)
  have b:=JsI hs (m:=n) (e:=0) (by omega) hrf (by rw[e3];exact Nat.le_refl _)
  have:Ieee.double.nearest false n 0=r:=by omega
  rw[this]
  exact⟨hrf,hsv⟩
def ctl(c:UInt8): Bool:=decide (c.toNat<32) || c == 127
def J2E(s:List UInt8): Bool:=s.all fun c => !ctl c
def Jb3(s:List UInt8): Bool :=
 match stS s (s.length+1) 0 with
 |some e=>rt (s.take e) == s
 |none=>false
def Jnl(s:List UInt8): List Pc->Bool
 |[p]=>(p.1 == 3)&&((p.2.2.2.1 == s) && !p.2.2.2.2)
 |_=>false
def Jbn(s:List UInt8): Bool:=((U7 0 0 s).2.1 == 0)&&Jnl s (U7 0 0 s).1
def JfV(s:List UInt8): Bool:=J2E s&&(!(s == [])&&(Jb3 s&&Jbn s))
def Jbo(t:List UInt8): Bool:=(t.all sgn && !(t == []))&&decide (t.length≤64)
def J3F:List (List UInt8)->List (List UInt8)->Bool
 |_,[]=>true
 |l,t::r=>Jbo t&&(!Qt t l&&J3F (l++[t]) r)
def J0F(x:Nd): Bool :=
 bif x.1 == 1 then(x.2.2.2.2.1 == [])&&((x.2.2.2.2.2 == [])&&(decide (x.2.2.1.length≤200)&&(x.2.2.2.1 || JfV x.2.2.1)))
 else bif x.1 == 2 then(x.2.2.2.2.1 == [])&&(!(x.2.2.2.2.2 == [])&&((x.2.2.1 == []) && !x.2.2.2.1))
 else bif x.1 == 3 then decide (x.2.2.2.2.1.length=x.2.2.2.2.2.length)&&(!(x.2.2.2.2.2 == [])&&((x.2.2.1 == [])&&(!x.2.2.2.1&&J3F [] x.2.2.2.2.1)))
 else false
def Yr(w:Nat->Option Nat): List Int->Nat->Option Nat
 |[],next=>some next
 |k::r,next=>bif k == (next:Int)then match w next with
  |none=>none
  |some m=>Yr w r m
  else none
def U4:Nat->List Nd->Nat->Option Nat
 |0,_,_=>none
 |f+1,nd,n=>match nd[n]? with
  |none=>none
  |some x=>bif J0F x then Yr (U4 f nd) x.2.2.2.2.2 (n+1)else none
def UF(nd:List Nd): Bool:=decide (1≤nd.length)&&(decide (nd.length≤2000)&&(U4 24 nd 0 == some nd.length))
theorem JsJ{w:Nat->Option Nat}(hw:∀ n m,w n=some m->n<m): ∀(l:List Int) (n m:Nat),Yr w l n=some m->n+l.length≤m
 |[],n,m,h=>by rw[Yr]at h;cases h;simp
 |k::r,n,m,h=>by
  rw[Yr]at h
  cases h1:k == (n:Int)with
  |false=>rw[h1]at h;cases h
  |true =>
   rw[h1,cond_true]at h
   cases h2:w n with
   |none=>rw[h2]at h;cases h
   |some j =>
    rw[h2]at h
    have:=hw n j h2
    have:=JsJ hw r j m h
    rw[List.length_cons];omega
theorem Jfl{f:Nat}{nd:List Nd}{n m:Nat}(h:U4 (f+1) nd n=some m): ∃ x,nd[n]? = some x∧J0F x=true∧Yr (U4 f nd) x.2.2.2.2.2 (n+1)=some m:=by
 rw[U4]at h
 cases hx:nd[n]? with
 |none=>rw[hx]at h;cases h
 |some x =>
  rw[hx]at h
  dsimp only at h
  cases hf:J0F x with
  |false=>rw[hf]at h;cases h
  |true=>rw[hf,cond_true]at h;exact⟨x,rfl,hf,h⟩
theorem Ju8:∀(f:Nat) (nd:List Nd) (n m:Nat),U4 f nd n=some m->n<m
 |0,nd,n,m,h=>by rw[U4]at h;cases h
 |f+1,nd,n,m,h=>by
  obtain⟨x,_,_,h⟩:=Jfl h
  have:=JsJ (fun a b=>Ju8 f nd a b) _ _ _ h
  omega
theorem Ju9{w:Nat->Option Nat}{L:Nat}(hw:∀ n m,w n=some m->m≤L): ∀(l:List Int) (n m:Nat),n≤L->Yr w l n=some m->m≤L
 |[],n,m,hn,h=>by rw[Yr]at h;cases h;exact hn
 |k::r,n,m,hn,h=>by
  rw[Yr]at h
  cases h1:k == (n:Int)with
  |false=>rw[h1]at h;cases h
  |true =>
   rw[h1,cond_true]at h
   cases h2:w n with
   |none=>rw[h2]at h;cases h
   |some j =>
    rw[h2]at h
    exact Ju9 hw r j m (hw n j h2) h
theorem Jfm:∀(f:Nat) (nd:List Nd) (n m:Nat),U4 f nd n=some m->m≤nd.length
 |0,nd,n,m,h=>by rw[U4]at h;cases h
 |f+1,nd,n,m,h=>by
  obtain⟨x,hx,_,h⟩:=Jfl h
  have:=(List.getElem?_eq_some_iff.1 hx).1
  exact Ju9 (fun a b=>Jfm f nd a b) _ _ _ (by omega) h
def isD(c:UInt8): Bool:=decide (48≤c.toNat)&&decide (c.toNat≤57)
def dgt(c:UInt8): Nat:=c.toNat-48
def J97(f:Nat->Nat->Nat): Nat->List UInt8->Nat
 |a,[]=>a
 |a,c::r=>J97 f (f a (dgt c)) r
def Jwr(x y:Nat): Nat:=10*x+y
def JB(a:Nat)(s:List UInt8): Nat:=J97 Jwr a s
theorem Jvu(f:Nat->Nat->Nat)(a:Nat)(c:UInt8)(r:List UInt8): J97 f a (c::r)=J97 f (f a (dgt c)) r:=by rw[J97]
theorem Yd(a:Nat)(c:UInt8)(r:List UInt8): JB a (c::r)=JB (10*a+dgt c) r:=Jvu Jwr a c r
theorem J0w(a:Nat): JB a []=a:=rfl
theorem J19{c:UInt8}(h:isD c=true): 48≤c.toNat∧c.toNat≤57:=by
 simpa [isD]using h
theorem J1a{c:UInt8}(h:isD c=true): dgt c≤9:=by have:=J19 h;unfold dgt;omega
theorem JaP:∀(s:List UInt8) (a:Nat),a≤JB a s
 |[],a=>Nat.le_refl _
 |c::r,a=>by
  have:=JaP r (10*a+dgt c)
  rw[Yd];omega
theorem J5n:∀(s:List UInt8) (a:Nat) (c:UInt8),JB a (s++[c])=10*JB a s+dgt c
 |[],a,c=>by rw[List.nil_append,Yd,J0w,J0w]
 |x::r,a,c=>by rw[List.cons_append,Yd,Yd,J5n r _ c]
theorem JlN:∀(s:List UInt8) (a:Nat),a*10 ^ s.length≤JB a s
 |[],a=>by rw[J0w];simp
 |c::r,a=>by
  have:=JlN r (10*a+dgt c)
  rw[Yd,List.length_cons,Nat.pow_succ]
  refine Nat.le_trans ?_ this
  rw[Nat.add_mul]
  have e:10*a*10 ^ r.length=a*(10 ^ r.length*10):=by rw[Nat.mul_comm 10 a,Nat.mul_assoc,Nat.mul_comm 10]
  omega
def J0c:List UInt8->Bool
 |c::_::_=>c == 48
 |_=>false
def Ys(s:List UInt8): Bool:=s.all isD&&(!(s == []) && !J0c s)
def JD:Nat:=4611686018427387904
def J1R(s:List UInt8): Option Nat:=bif Ys s&&decide (JB 0 s≤JD)then some (JB 0 s)else none
def J5Y{R:Type}(K:Int->Bool->Option R): Option Nat->Option R
 |some v=>K (v:Int) true
 |none=>K 0 false
theorem Jjp(k:Nat){R:Type}(c:UInt8)(K:Bool->Option R): J59 k (c.toNat:Int) K=K (isD c):=by
 unfold J59 Jra isD
 have h1:decide ((c.toNat:Int)≥48)=decide (48≤c.toNat):=by rw[Bool.eq_iff_iff];simp;omega
 have h2:decide ((c.toNat:Int)≤57)=decide (c.toNat≤57):=by rw[Bool.eq_iff_iff];simp;omega
 rw[h1,h2]
 cases decide (48≤c.toNat)<;>rfl
theorem Jvv{c:UInt8}(h:isD c=true): IntKind.i64.wrap (IntKind.u8.wrap ((c.toNat:Int)-48))=(dgt c:Int):=by
 have:=J19 h
 have e:(c.toNat:Int)-48=(dgt c:Int):=by unfold dgt;omega
 have:=J1a h
 rw[e,Ji (by omega) (by omega),J8 (by omega) (by omega)]
theorem Jp9(k:Nat){R:Type}(s:List UInt8)(hs:s.length≤19)(K:Int->Bool->Option R): ∀(t:List UInt8) (i m n:Nat),s.drop i=t->t.length<m->i≤s.length->n≤JD ->
 J4A k m s (n:Int) (i:Int) K=bif t.all isD&&decide (JB n t≤JD)then K (JB n t:Int) true else K 0 false
 |t,i,0,n,_,h,_,_=>by omega
 |[],i,m+1,n,hd,h,hi,hn=>by
  have:=JE hd
  rw[J4A,Jdu]
  simp(disch:=omega)only[J1,J2,Jl,Jh,Jm,Jn,Ja,Jg,J8,Ji,cond_true,cond_false,Bool.not_true,Bool.not_false,Bool.true_or,Bool.or_true,Bool.false_or,Bool.or_false,Bool.true_and,Bool.and_true,Bool.false_and,Bool.and_false,Jk,Jj,Jb]
  have e:(([]:List UInt8).all isD&&decide (JB n []≤JD))=true:=by rw[J0w,J1 hn];rfl
  rw[e,J0w];rfl
 |c::r,i,m+1,n,hd,h,hi,hn=>by
  obtain⟨hlt,hc,hr⟩:=Jz hd
  rw[J4A,Jdu]
  simp(disch:=omega)only[J1,J2,Jl,Jh,Jm,Jn,Ja,Jg,J8,Ji,cond_true,cond_false,Bool.not_true,Bool.not_false,Bool.true_or,Bool.or_true,Bool.false_or,Bool.or_false,Bool.true_and,Bool.and_true,Bool.false_and,Bool.and_false,Jk,Jj,Jb,hc,Q4]
  rw[Jjp,List.all_cons]
  cases hD:isD c with
  |false=>rfl
  |true =>
   have h9:=J1a hD
   have hM:JD=4611686018427387904:=rfl
   simp only[Bool.not_true,cond_false,Bool.true_and,Jvv hD]
   have e1:IntKind.i64.wrap (4611686018427387904-(dgt c:Int))=((JD-dgt c:Nat):Int):=by rw[J8 (by omega) (by omega)];omega
   have e2:(((JD-dgt c:Nat):Int).tdiv 10)=(((JD-dgt c) / 10:Nat):Int):=rfl
   rw[e1,e2,J8 (x:=(((JD-dgt c) / 10:Nat):Int)) (by omega) (by omega),Yd]
   by_cases hb:n>(JD-dgt c) / 10
   ·have h1:¬ (10*n+dgt c≤JD):=by omega
    have h2:=JaP r (10*n+dgt c)
    rw[J1 (show(n:Int)>(((JD-dgt c) / 10:Nat):Int) by omega),cond_true,J2 (show ¬ JB (10*n+dgt c) r≤JD by omega),Bool.and_false]
    rfl
   ·have h1:10*n+dgt c≤JD:=by omega
    rw[J2 (show ¬ (n:Int)>(((JD-dgt c) / 10:Nat):Int) by omega),cond_false]
    have e3:IntKind.i64.wrap (IntKind.i64.wrap ((n:Int)*10)+(dgt c:Int))=((10*n+dgt c:Nat):Int):=by
     rw[J8 (x:=(n:Int)*10) (by omega) (by omega),J8 (by omega) (by omega)];omega
    rw[e3]
    exact Jp9 k s hs K r (i+1) m (10*n+dgt c) hr (by simp at h;omega) (by omega) h1
theorem Jtq{s:List UInt8}(h:Ys s=true)(hl:19<s.length): JD<JB 0 s:=by
 unfold Ys at h
 simp only[Bool.and_eq_true,Bool.not_eq_true']at h
 obtain⟨h1,_,h3⟩:=h
 match s,h1,h3,hl with
 |c::d::r,h1,h3,hl =>
  rw[List.all_cons,Bool.and_eq_true]at h1
  have hc:=J19 h1.1
  have hne:c.toNat≠48:=by
   intro e
   have:c=48:=by
    have:=congrArg UInt8.ofNat e
    simpa using this
   rw[this]at h3
   cases h3
  have hp:=JlN (d::r) (10*0+dgt c)
  have hge:1≤10*0+dgt c:=by unfold dgt;omega
  have h19:10 ^ 19≤10 ^ (d::r).length:=Nat.pow_le_pow_right (by omega) (by simp at hl ⊢;omega)
  have h10:JD<10 ^ 19:=by decide
  have hmul:1*10 ^ (d::r).length≤(10*0+dgt c)*10 ^ (d::r).length:=Nat.mul_le_mul_right _ hge
  rw[Yd]
  omega
 |[c],_,_,hl=>simp at hl
theorem Jmk(c:UInt8)(r:List UInt8): (bif decide (((c::r).length:Int)>1)then(c.toNat:Int) == 48 else false)=J0c (c::r):=by
 cases r with
 |nil=>rfl
 |cons d r =>
  have e:((c.toNat:Int) == 48)=(c == 48):=QA c 48 (by omega)
  rw[J1 (by simp;omega),cond_true,e]
  rfl
theorem JD5(k:Nat){R:Type}(s:List UInt8)(hk:30<k)(K:Int->Bool->Option R): Jac k s K=J5Y K (J1R s):=by
 unfold Jac JjS J1R
 cases s with
 |nil=>rfl
 |cons c r =>
  have h0:decide (((c::r).length:Int)<1)=false:=J2 (by simp;omega)
  have h2:inb 0 ((c::r).length:Int)=true:=Ja (by omega) (by simp<;>omega)
  have h3:∀ z,(c::r).getD (Int.toNat 0) z=c:=fun _=>rfl
  rw[h0,cond_false]
  simp only[h2,h3,Bool.or_true,cond_true,Jmk]
  by_cases hl:(c::r).length>19
  ·rw[J1 (show((c::r).length:Int)>19 by omega),cond_true]
   cases hc:Ys (c::r)with
   |false=>rfl
   |true =>
    have:=Jtq hc hl
    rw[J2 (show ¬ JB 0 (c::r)≤JD by omega)];rfl
  ·rw[J2 (show ¬ ((c::r).length:Int)>19 by omega),cond_false]
   unfold Ys
   have h4:((c::r) == [])=false:=rfl
   rw[h4]
   cases hld:J0c (c::r)with
   |true=>simp only[cond_true,Bool.not_true,Bool.and_false,Bool.false_and,cond_false,J5Y]
   |false =>
    simp only[cond_false,Bool.not_false,Bool.and_true,Bool.true_and]
    refine Eq.trans (Jp9 k (c::r) (by omega) K (c::r) 0 k 0 rfl (by omega) (by omega) (Nat.zero_le _)) ?_
    cases(c::r).all isD&&decide (JB 0 (c::r)≤JD)<;>rfl
theorem JaQ(k:Nat){R:Type}(n:Nat)(hn:n≤JD)(K:Int->Option R): J1x k (n:Int) K=K (n:Int):=by
 unfold J1x Jso
 have hM:JD=4611686018427387904:=rfl
 simp only[cond_true,cond_false]
 congr 1
 split<;>split<;>omega
theorem JJ4(k:Nat){R:Type}(n:Nat)(hn:n≤JD)(K:Int->Option R): Jat k (n:Int) 10 K=K ((min (10*n) JD:Nat):Int):=by
 have hM:JD=4611686018427387904:=rfl
 unfold Jat Jtf
 have h10:=JaQ k (R:=R) 10 (by omega)
 have h10':∀ K:Int->Option R,J1x k 10 K=K 10:=h10
 rw[JaQ k n hn,h10']
 have e1:decide ((10:Int)>0)=true:=rfl
 have e2:((10:Int) != 0)=true:=rfl
 have e3:IntKind.i64.wrap (Int.tdiv 4611686018427387904 10)=461168601842738790:=by decide +kernel
 simp only[e1,e2,e3,Bool.or_true,cond_true]
 by_cases h:n>461168601842738790
 ·rw[J1 (by omega),cond_true]
  congr 1
  omega
 ·rw[J2 (by omega),cond_false,J8 (by omega) (by omega)]
  congr 1
  omega
theorem JJ5(k:Nat){R:Type}(a b:Nat)(ha:a≤JD)(hb:b≤JD)(K:Int->Option R): Jas k (a:Int) (b:Int) K=K ((min (a+b) JD:Nat):Int):=by
 have hM:JD=4611686018427387904:=rfl
 unfold Jas Jte
 rw[JaQ k a ha,JaQ k b hb,J8 (by omega) (by omega)]
 by_cases h:(a:Int)>4611686018427387904-(b:Int)
 ·rw[J1 h,cond_true]
  congr 1
  omega
 ·rw[J2 h,cond_false,J8 (by omega) (by omega)]
  congr 1
  omega
def J2L:Nat->Nat->List UInt8->List UInt8
 |0,_,acc=>acc
 |f+1,a,acc=>if a=0 then acc else J2L f (a / 10) (UInt8.ofNat (48+a % 10)::acc)
def Qq(n:Nat): List UInt8:=J2L 25 (n / 10) [UInt8.ofNat (48+n % 10)]
theorem Jua(a:Nat): IntKind.u8.wrap (IntKind.i64.wrap (48+((a:Int).tmod 10)))=((UInt8.ofNat (48+a % 10)).toNat:Int):=by
 have e:(a:Int).tmod 10=((a % 10:Nat):Int):=rfl
 rw[e,J8 (by omega) (by omega),Ji (by omega) (by omega)]
 have:(UInt8.ofNat (48+a % 10)).toNat=48+a % 10:=by simp;omega
 rw[this];omega
theorem Js0(k:Nat){R:Type}(K:List UInt8->Option R): ∀(f a m:Nat) (acc:List UInt8),a<10 ^ f->f<m->acc.length+f≤100->a≤JD->J4s k m (a:Int) (Js acc) K=K (J2L f a acc)
 |f,a,0,acc,_,h,_,_=>by omega
 |0,a,m+1,acc,ha,h,hl,hM=>by
  have:a=0:=by simpa using ha
  subst this
  rw[J4s,Jd9,J2L]
  have e:decide (((0:Nat):Int)>0)=false:=rfl
  rw[e,cond_false,J28]
 |f+1,a,m+1,acc,ha,h,hl,hM=>by
  have hM':JD=4611686018427387904:=rfl
  rw[J4s,Jd9,J2L]
  by_cases h0:a=0
  ·subst h0
   have e:decide (((0:Nat):Int)>0)=false:=rfl
   rw[e,cond_false,J28,if_pos rfl]
  ·rw[J1 (by omega),cond_true,if_neg h0,Jua]
   have e1:([((UInt8.ofNat (48+a % 10)).toNat:Int)]:List Int)=Js [UInt8.ofNat (48+a % 10)]:=rfl
   have e2:(a:Int).tdiv 10=((a / 10:Nat):Int):=rfl
   have e3:Js [UInt8.ofNat (48+a % 10)]++Js acc=Js (UInt8.ofNat (48+a % 10)::acc):=rfl
   rw[e1,e2,J8 (by omega) (by omega),Yc (by rw[Y8,Y8];simp;omega) (by rw[Y8,Y8];simp;omega),cond_true,e3]
   exact Js0 k K f (a / 10) m _ (by rw[Nat.pow_succ]at ha;omega) (by omega) (by simp;omega) (by omega)
theorem Jaw(k:Nat){R:Type}(n:Nat)(hn:n≤JD)(hk:30<k)(K:List UInt8->Option R): Yz k (n:Int) K=K (Qq n):=by
 have hM:JD=4611686018427387904:=rfl
 unfold Yz Jjy
 rw[JaQ k n hn,Jua]
 have e1:([((UInt8.ofNat (48+n % 10)).toNat:Int)]:List Int)=Js [UInt8.ofNat (48+n % 10)]:=rfl
 have e2:(n:Int).tdiv 10=((n / 10:Nat):Int):=rfl
 rw[e1,e2,J8 (by omega) (by omega)]
 exact Js0 k K 25 (n / 10) k _ (by have h25:(10:Nat) ^ 25=10000000000000000000000000:=(by decide);omega) (by omega) (by simp) (by omega)
theorem Jvw(a:Nat): isD (UInt8.ofNat (48+a % 10))=true∧dgt (UInt8.ofNat (48+a % 10))=a % 10:=by
 have:(UInt8.ofNat (48+a % 10)).toNat=48+a % 10:=by simp;omega
 unfold isD dgt
 rw[this]
 exact⟨by simp;omega,by omega⟩
theorem Jtr:∀(f a:Nat) (acc:List UInt8),a<10 ^ f->∃ p,J2L f a acc=p++acc∧JB 0 p=a∧p.all isD=true∧(∀ c r,p=c::r->c≠48)∧(p=[]↔a=0)
 |0,a,acc,h=>by
  have:a=0:=by simpa using h
  subst this
  exact⟨[],rfl,rfl,rfl,(fun c r h=>by cases h),by simp⟩
 |f+1,a,acc,h=>by
  rw[J2L]
  by_cases h0:a=0
  ·rw[if_pos h0]
   subst h0
   exact⟨[],rfl,rfl,rfl,(fun c r h=>by cases h),by simp⟩
  ·rw[if_neg h0]
   obtain⟨p,e1,e2,e3,e4,e5⟩:=Jtr f (a / 10) (UInt8.ofNat (48+a % 10)::acc) (by rw[Nat.pow_succ]at h;omega)
   obtain⟨d1,d2⟩:=Jvw a
   refine⟨p++[UInt8.ofNat (48+a % 10)],by rw[e1];simp,by rw[J5n,e2,d2];omega,by rw[List.all_append,e3,List.all_cons,d1];rfl,fun c r hp => ?_,by simp;omega⟩
   cases p with
   |nil =>
    have ha:a / 10=0:=e5.1 rfl
    rw[List.nil_append]at hp
    injection hp with hc _
    intro hc2
    rw[←hc]at hc2
    have:=congrArg UInt8.toNat hc2
    have e:(UInt8.ofNat (48+a % 10)).toNat=48+a % 10:=by simp;omega
    rw[e]at this
    have:48+a % 10=48:=this
    omega
   |cons x p=>injection hp with hc _;exact fun e=>e4 x p rfl (hc.trans e)
theorem J5o(n:Nat)(hn:n≤JD): Ys (Qq n)=true∧JB 0 (Qq n)=n:=by
 have hM:JD=4611686018427387904:=rfl
 have h25:(10:Nat) ^ 25=10000000000000000000000000:=by decide
 obtain⟨p,e1,e2,e3,e4,e5⟩:=Jtr 25 (n / 10) [UInt8.ofNat (48+n % 10)] (by omega)
 obtain⟨d1,d2⟩:=Jvw n
 unfold Qq
 rw[e1]
 refine⟨?_,by rw[J5n,e2,d2];omega⟩
 unfold Ys
 rw[List.all_append,e3,List.all_cons,d1]
 cases p with
 |nil=>rfl
 |cons x p =>
  have hx:=e4 x p rfl
  have:J0c (x::p++[UInt8.ofNat (48+n % 10)])=false:=by
   cases p<;>simpa [J0c]using hx
  rw[this];rfl
theorem JH1:∀(p:List UInt8) (f:Nat) (acc:List UInt8),p.all isD=true->(∀ c r,p=c::r->c≠48)->p.length≤f->J2L f (JB 0 p) acc=p++acc:=by
 intro p
 induction hn:p.length generalizing p with
 |zero =>
  intro f acc _ _ _
  have:p=[]:=List.eq_nil_of_length_eq_zero hn
  subst this
  cases f with
  |zero=>rfl
  |succ f=>rfl
 |succ n ih =>
  intro f acc h1 h2 h3
  have hne:p≠[]:=fun e=>by rw[e]at hn;cases hn
  obtain⟨q,c,rfl⟩:∃ q c,p=q++[c]:=⟨p.dropLast,p.getLast hne,(List.dropLast_concat_getLast hne).symm⟩
  rw[List.all_append,Bool.and_eq_true]at h1
  have hc:isD c=true:=by simpa using h1.2
  have h9:=J1a hc
  have hq:q.length=n:=by simpa using hn
  obtain⟨g,rfl⟩:∃ g,f=g+1:=⟨f-1,by omega⟩
  have hv:JB 0 (q++[c])≠0:=by
   cases q with
   |nil =>
    have:=h2 c [] rfl
    have hc':=J19 hc
    rw[List.nil_append,Yd,J0w]
    unfold dgt
    have:c.toNat≠48:=fun e=>this (by have:=congrArg UInt8.ofNat e;simpa using this)
    omega
   |cons x q =>
    have:=h2 x (q++[c]) rfl
    rw[List.all_cons,Bool.and_eq_true]at h1
    have hx':=J19 h1.1.1
    have hne:x.toNat≠48:=fun e=>this (by have:=congrArg UInt8.ofNat e;simpa using this)
    have:=JaP (q++[c]) (10*0+dgt x)
    rw[List.cons_append,Yd]
    unfold dgt at this ⊢
    omega
  rw[J2L,if_neg hv,J5n]
  have e1:(10*JB 0 q+dgt c) / 10=JB 0 q:=by omega
  have e2:UInt8.ofNat (48+(10*JB 0 q+dgt c) % 10)=c:=by
   have:48+(10*JB 0 q+dgt c) % 10=c.toNat:=by have:=J19 hc;unfold dgt at h9 ⊢;omega
   rw[this];simp
  rw[e1,e2,ih q hq g (c::acc) h1.1 (fun x r hx=>h2 x (r++[c]) (by rw[hx];rfl)) (by omega)]
  simp
theorem JH2{s:List UInt8}(h:Ys s=true)(hl:s.length≤20): Qq (JB 0 s)=s:=by
 unfold Ys at h
 simp only[Bool.and_eq_true,Bool.not_eq_true',beq_eq_false_iff_ne]at h
 obtain⟨h1,h2,h3⟩:=h
 obtain⟨q,c,rfl⟩:∃ q c,s=q++[c]:=⟨s.dropLast,s.getLast h2,(List.dropLast_concat_getLast h2).symm⟩
 rw[List.all_append,Bool.and_eq_true]at h1
 have hc:isD c=true:=by simpa using h1.2
 have h9:=J1a hc
 unfold Qq
 rw[J5n]
 have e1:(10*JB 0 q+dgt c) / 10=JB 0 q:=by omega
 have e2:UInt8.ofNat (48+(10*JB 0 q+dgt c) % 10)=c:=by
  have:48+(10*JB 0 q+dgt c) % 10=c.toNat:=by have:=J19 hc;unfold dgt at h9 ⊢;omega
  rw[this];simp
 rw[e1,e2]
 refine JH1 q 25 [c] h1.1 (fun x r hx => ?_) (by simp at hl;omega)
 intro e
 subst hx e
 cases r<;>simp[J0c]at h3
def Jws(x y:Nat): Nat:=min (10*x+y) JD
def J98(a:Nat)(s:List UInt8): Nat:=J97 Jws a s
theorem Jvx(a:Nat)(c:UInt8)(r:List UInt8): J98 a (c::r)=J98 (min (10*a+dgt c) JD) r:=Jvu Jws a c r
theorem JJ6(a:Nat): J98 a []=a:=rfl
theorem JuO:∀(s:List UInt8) (a:Nat),a≤JD->J98 a s=min (JB a s) JD
 |[],a,h=>by rw[JJ6,J0w];omega
 |c::r,a,h=>by
  rw[Jvx,Yd,JuO r _ (Nat.min_le_right _ _)]
  by_cases hx:10*a+dgt c≤JD
  ·rw[Nat.min_eq_left hx]
  ·have h1:=JaP r (10*a+dgt c)
   have h2:=JaP r (min (10*a+dgt c) JD)
   omega
theorem JIi{s:List UInt8}{p:Nat}(hp:p<s.length)(h:(s.getD p 0).toNat<128): YE s (p:Int)=((s.getD p 0).toNat:Int)∧Z3 s (p:Int)=((p+1:Nat):Int):=by
 have hg:=JfS s p hp
 have hd:=JsF (⟨s.toArray⟩:ByteArray) p (by rw[hg];exact h)
 unfold YE Z3 J8Y
 rw[Jb,hd,hg]
 refine⟨rfl,?_⟩
 rw[J1 (by omega),cond_true]
 omega
theorem JHF{s:List UInt8}{p:Nat}(hp:p<s.length)(h:128≤(s.getD p 0).toNat): 128≤YE s (p:Int):=by
 have hg:=JfS s p hp
 have hd:=JrZ (⟨s.toArray⟩:ByteArray) p (by rw[hg];exact h)
 unfold YE
 rw[Jb]
 have:=hd.1
 omega
theorem JkV{s:List UInt8}{p:Nat}{c:UInt8}{r:List UInt8}(hd:s.drop p=c::r): (bif decide (YE s (p:Int)<48)then true else decide (YE s (p:Int)>57)) = !isD c∧(isD c=true->YE s (p:Int)=(c.toNat:Int)∧Z3 s (p:Int)=((p+1:Nat):Int)):=by
 obtain⟨hlt,hc,hr⟩:=Jz hd
 have hc0:=hc 0
 by_cases h:c.toNat<128
 ·obtain⟨h1,h2⟩:=JIi hlt (by rw[hc0];exact h)
  rw[hc0]at h1
  refine⟨?_,fun _=>⟨h1,h2⟩⟩
  rw[h1,Bool.eq_iff_iff]
  unfold isD
  cases hx:decide ((c.toNat:Int)<48)with
  |true =>
   have:=of_decide_eq_true hx
   have:decide (48≤c.toNat)=false:=J2 (by omega)
   simp[this]
  |false =>
   have:=of_decide_eq_false hx
   have e1:decide (48≤c.toNat)=true:=J1 (by omega)
   rw[cond_false,e1]
   simp
   omega
 ·have h1:=JHF hlt (by rw[hc0];omega)
  refine⟨?_,fun hD=>by have:=J19 hD;omega⟩
  rw[J2 (by omega),cond_false,J1 (by omega)]
  unfold isD
  have:decide (c.toNat≤57)=false:=J2 (by omega)
  rw[this,Bool.and_false];rfl
theorem Jub{c:UInt8}(h:isD c=true): IntKind.i64.wrap (IntKind.i32.wrap ((c.toNat:Int)-48))=(dgt c:Int):=by
 have:=J19 h
 have e:(c.toNat:Int)-48=(dgt c:Int):=by unfold dgt;omega
 have h9:=J1a h
 have e2:IntKind.i32.wrap (dgt c:Int)=(dgt c:Int):=by
  have:dgt c<10:=by omega
  generalize dgt c=n at this
  match n,this with
  |0,_|1,_|2,_|3,_|4,_|5,_|6,_|7,_|8,_|9,_=>rfl
 rw[e,e2,J8 (by omega) (by omega)]
theorem JpL(k:Nat){R:Type}(s:List UInt8)(hk:30<k)(K:Int->Bool->Option R): ∀(t:List UInt8) (p m n:Nat),s.drop p=t->t.length<m->p≤s.length->n≤JD ->
 J4E k m s (n:Int) s (p:Int) K=bif t.all isD then(bif !(Qq (J98 n t) == s)then K 0 false else K (J98 n t:Int) true)else K 0 false
 |t,p,0,n,_,h,_,_=>by omega
 |[],p,m+1,n,hd,h,hp,hn=>by
  have:=JE hd
  rw[J4E,JdB,J2 (by omega),cond_false,Jaw k n hn hk]
  rfl
 |c::r,p,m+1,n,hd,h,hp,hn=>by
  obtain⟨hlt,_,hr⟩:=Jz hd
  obtain⟨h1,h2⟩:=JkV hd
  rw[J4E,JdB,J1 (by omega),cond_true,cond_true,h1,List.all_cons]
  cases hD:isD c with
  |false=>rfl
  |true =>
   obtain⟨h3,h4⟩:=h2 hD
   have h9:=J1a hD
   have hM:JD=4611686018427387904:=rfl
   simp only[Bool.not_true,cond_false,Bool.true_and]
   rw[h3,h4,Jub hD,JJ4 k n hn,JJ5 k _ _ (Nat.min_le_right _ _) (by omega),Jvx]
   have e:min (min (10*n) JD+dgt c) JD=min (10*n+dgt c) JD:=by omega
   rw[e]
   exact JpL k s hk K r (p+1) m _ hr (by simp at h;omega) (by omega) (Nat.min_le_right _ _)
theorem JEl(k:Nat){R:Type}(s:List UInt8)(hk:30<k)(hk2:s.length<k)(K:Int->Bool->Option R): Jad k s K=J5Y K (J1R s):=by
 unfold Jad Jkc
 have:=JpL k s hk K s 0 k 0 rfl hk2 (Nat.zero_le _) (Nat.zero_le _)
 refine Eq.trans this ?_
 rw[JuO s 0 (Nat.zero_le _)]
 have hM:JD=4611686018427387904:=rfl
 obtain⟨c1,c2⟩:=J5o (min (JB 0 s) JD) (Nat.min_le_right _ _)
 unfold J1R
 cases ha:s.all isD with
 |false =>
  have:Ys s=false:=by unfold Ys;rw[ha,Bool.false_and]
  rw[this];rfl
 |true =>
  rw[cond_true]
  cases hcn:Ys s with
  |false =>
   have:(Qq (min (JB 0 s) JD) == s)=false:=by
    rw[beq_eq_false_iff_ne]
    intro e
    rw[e,hcn]at c1;cases c1
   rw[this];rfl
  |true =>
   by_cases hv:JB 0 s≤JD
   ·have hl:s.length≤20:=by
     by_cases h19:19<s.length
     ·have:=Jtq hcn h19;omega
     ·omega
    rw[J1 hv,Nat.min_eq_left hv,JH2 hcn hl]
    simp[J5Y]
   ·have:(Qq (min (JB 0 s) JD) == s)=false:=by
     rw[beq_eq_false_iff_ne]
     intro e
     rw[e]at c2
     omega
    rw[this,J2 hv];rfl
def JQ(s:List UInt8): List UInt8:=s.takeWhile isD
def Ya(w:List UInt8): Bool:=decide (1≤w.length)&&(decide (w.length≤9) && !J0c w)
def J07(p:List UInt8): Bool:=p.all isD&&(decide (1≤p.length)&&decide (p.length≤6))
def UJ(s:List UInt8): Option (List UInt8×List UInt8) :=
 bif Ya (JQ s)then match s.drop (JQ s).length with
  |[]=>some (JQ s,[])
  |c::p=>bif c == 46&&J07 p then some (JQ s,p)else none
 else none
def Z4(w p:List UInt8): Nat:=(Jq .quo (Jo (JB 0 (w++p):Int)) (Jo ((10 ^ p.length:Nat):Int))).getD 0
def sT(s:List UInt8): List UInt8:=bif s.head? == some 45 then s.tail else s
def sM(s:List UInt8): Bool:=s.head? == some 45
def rdS(s:List UInt8): Option Nat :=
 bif s == [110,97,110]then some Jbm else bif s == [105,110,102]then some fI else bif s == [45,105,110,102]then some fNI else
  match UJ (sT s)with
  |none=>none
  |some (w,p)=>some (bif sM s then Ul (Z4 w p)else Z4 w p)
def rdK{R:Type}(K:Nat->Bool->Option R): Option Nat->Option R
 |some v=>K v true
 |none=>K 0 false
theorem JfA{w p:List UInt8}(h:p.length≤6): Jq .quo (Jo (JB 0 (w++p):Int)) (Jo ((10 ^ p.length:Nat):Int))=some (Z4 w p)∧Z4 w p≤fI:=by
 obtain⟨t1,t2⟩:=Jvs p.length (by omega)
 obtain⟨f,e,hf⟩:=Jvr (Jfj (JB 0 (w++p))) (Jfj (10 ^ p.length)) t1 t2
 have:Z4 w p=f:=by unfold Z4;rw[e];rfl
 rw[this]
 exact⟨e,hf⟩
theorem JmG:∀ {s:List UInt8},s.all isD=true->JQ s=s
 |[],_=>rfl
 |c::r,h=>by
  rw[List.all_cons,Bool.and_eq_true]at h
  have:=JmG h.2
  unfold JQ at this ⊢
  rw[List.takeWhile_cons,h.1,if_pos rfl,this]
theorem Jll(k:Nat){R:Type}(s:List UInt8)(most:Nat)(hk:s.length<k)(K:Bool->Option R): J29 k s (most:Int) K=K (s.all isD&&(decide (1≤s.length)&&decide (s.length≤most))):=by
 unfold J29 JiB
 have loop:∀(t:List UInt8) (p m:Nat),s.drop p=t->t.length<m->p≤s.length->J4c k m s (most:Int) s (p:Int) K=K (t.all isD&&(decide (1≤s.length)&&decide (s.length≤most))):=by
  intro t
  induction t with
  |nil =>
   intro p m hd hm hp
   have:=JE hd
   obtain⟨m,rfl⟩:∃ j,m=j+1:=⟨m-1,by simp at hm;omega⟩
   rw[J4c,Jcx,J2 (by omega),cond_false]
   congr 1
   have h1:decide ((s.length:Int)≥1)=decide (1≤s.length):=by rw[Bool.eq_iff_iff];simp;omega
   have h2:decide ((s.length:Int)≤(most:Int))=decide (s.length≤most):=by rw[Bool.eq_iff_iff];simp
   rw[h1,h2]
   cases decide (1≤s.length)<;>rfl
  |cons c r ih =>
   intro p m hd hm hp
   obtain⟨hlt,_,hr⟩:=Jz hd
   obtain⟨h1,h2⟩:=JkV hd
   obtain⟨m,rfl⟩:∃ j,m=j+1:=⟨m-1,by simp at hm;omega⟩
   rw[J4c,Jcx,J1 (by omega),cond_true,cond_true,h1,List.all_cons]
   cases hD:isD c with
   |false=>rfl
   |true =>
    simp only[Bool.not_true,cond_false,Bool.true_and]
    rw[(h2 hD).2]
    exact ih (p+1) m hr (by simp at hm;omega) (by omega)
 exact loop s 0 k rfl hk (Nat.zero_le _)
theorem JHG(k:Nat){R:Type}(s:List UInt8)(h:s.all isD=true)(hl:s.length≤16)(hk:s.length<k)(K:Int->Option R): J50 k s K=K (JB 0 s:Int):=by
 unfold J50 Jj1
 have h16:(10:Nat) ^ 16=10000000000000000:=by decide
 have loop:∀(t:List UInt8) (p m n:Nat),s.drop p=t->t.all isD=true->t.length<m->p≤s.length->n<10 ^ p->J4h k m (n:Int) s (p:Int) K=K (JB n t:Int):=by
  intro t
  induction t with
  |nil =>
   intro p m n hd _ hm hp hn
   have:=JE hd
   obtain⟨m,rfl⟩:∃ j,m=j+1:=⟨m-1,by simp at hm;omega⟩
   rw[J4h,JcP,J2 (by omega),cond_false,J0w]
  |cons c r ih =>
   intro p m n hd ht hm hp hn
   obtain⟨hlt,_,hr⟩:=Jz hd
   rw[List.all_cons,Bool.and_eq_true]at ht
   obtain⟨h1,h2⟩:=JkV hd
   obtain⟨h3,h4⟩:=h2 ht.1
   have h9:=J1a ht.1
   have hpw:10 ^ p≤10 ^ 16:=Nat.pow_le_pow_right (by omega) (by omega)
   obtain⟨m,rfl⟩:∃ j,m=j+1:=⟨m-1,by simp at hm;omega⟩
   rw[J4h,JcP,J1 (by omega),cond_true,cond_true,h3,h4,Jub ht.1,Yd]
   have e3:IntKind.i64.wrap (IntKind.i64.wrap (10*(n:Int))+(dgt c:Int))=((10*n+dgt c:Nat):Int):=by
    rw[J8 (x:=10*(n:Int)) (by omega) (by omega),J8 (by omega) (by omega)];omega
   rw[e3]
   exact ih (p+1) m (10*n+dgt c) hr ht.2 (by simp at hm;omega) (by omega) (by rw[Nat.pow_succ];omega)
 exact loop s 0 k 0 rfl h hk (Nat.zero_le _) (by decide)
theorem Jb4(k:Nat){R:Type}(n:Nat)(hn:n≤15)(hk:n<k)(K:Int->Option R): YS k (n:Int) K=K ((10 ^ n:Nat):Int):=by
 unfold YS Jk7
 have h16:(10:Nat) ^ 15=1000000000000000:=by decide
 have loop:∀(j i m:Nat),i+j=n->j<m->J4D k m ((10 ^ i:Nat):Int) (n:Int) (i:Int) K=K ((10 ^ n:Nat):Int):=by
  intro j
  induction j with
  |zero =>
   intro i m h hm
   obtain⟨m,rfl⟩:∃ j,m=j+1:=⟨m-1,by omega⟩
   rw[J4D,Jdy,J2 (by omega),cond_false,show i=n by omega]
  |succ j ih =>
   intro i m h hm
   have hpw:10 ^ i≤10 ^ 15:=Nat.pow_le_pow_right (by omega) (by omega)
   obtain⟨m,rfl⟩:∃ j,m=j+1:=⟨m-1,by omega⟩
   rw[J4D,Jdy,J1 (by omega),cond_true]
   have e1:∀ q:Nat,q≤1000000000000000->IntKind.i64.wrap ((q:Int)*10)=((q*10:Nat):Int):=fun q hq=>by
    rw[J8 (by omega) (by omega)];omega
   rw[e1 _ (by omega),←Nat.pow_succ,J8 (by omega) (by omega),Q4]
   exact ih (i+1) m (by omega) (by omega)
 exact loop n 0 k (by omega) (by omega)
theorem JEm(k:Nat){R:Type}(s:List UInt8)(K:List UInt8->Bool->Option R): J6E k s 45 K=K (sT s) (sM s):=by
 unfold J6E Jo6 Jda Joq J70 JhS sT sM
 cases s with
 |nil=>rfl
 |cons c r =>
  have h1:decide (((c::r).length:Int)≥(([45]:List UInt8).length:Int))=true:=J1 (by simp<;>omega)
  have h2:bnd 0 ((([45]:List UInt8).length:Nat):Int) ((c::r).length:Int)=true:=Jg (by omega) (by simp) (by simp<;>omega)
  have h3:cut (c::r) 0 ((([45]:List UInt8).length:Nat):Int)=[c]:=by simp[cut]
  have h4:bnd ((([45]:List UInt8).length:Nat):Int) ((c::r).length:Int) ((c::r).length:Int)=true:=Jg (by simp) (by simp<;>omega) (by omega)
  have h5:cut (c::r) ((([45]:List UInt8).length:Nat):Int) ((c::r).length:Int)=r:=by simp[cut]
  simp only[h1,h2,h3,h4,h5,Bool.or_true,cond_true]
  have h6:((c::r).head? == some 45)=(c == 45):=rfl
  have h7:([c] == [(45:UInt8)])=(c == 45):=by
   rw[Bool.eq_iff_iff];simp
  rw[h6,h7]
  cases c == 45<;>rfl
theorem Jml{s:List UInt8}(h:s.drop (JQ s).length=[]∨∃ p,s.drop (JQ s).length=46::p): Jp 46 s=(JQ s).length:=by
 have h46:isD 46=false:=by decide
 induction s with
 |nil=>rfl
 |cons c r ih =>
  cases hc:isD c with
  |true =>
   have e:JQ (c::r)=c::JQ r:=by unfold JQ;rw[List.takeWhile_cons,hc];rfl
   rw[e,List.length_cons,List.drop_succ_cons]at h
   have hne:(c == 46)=false:=by
    cases hh:c == 46 with
    |false=>rfl
    |true=>have:c=46:=by simpa using hh
           rw[this,h46]at hc;cases hc
   rw[e,List.length_cons,←ih h]
   rw[Jp,hne];rfl
  |false =>
   have e:JQ (c::r)=[]:=by unfold JQ;rw[List.takeWhile_cons,hc];rfl
   rw[e,List.length_nil,List.drop_zero]at h
   rcases h with h|⟨p,h⟩
   ·cases h
   ·injection h with h1 h2
    subst h1
    rw[e];rfl
theorem JIj(s:List UInt8)(h:(s.take (Jp 46 s)).all isD=true): JQ s=s.take (Jp 46 s):=by
 have h46:isD 46=false:=by decide
 induction s with
 |nil=>rfl
 |cons c r ih =>
  cases hc:c == 46 with
  |true =>
   have:c=46:=by simpa using hc
   subst this
   rfl
  |false =>
   have e:Jp 46 (c::r)=Jp 46 r+1:=by rw[Jp,hc];rfl
   rw[e,List.take_succ_cons,List.all_cons,Bool.and_eq_true]at h
   rw[e,List.take_succ_cons,←ih h.2]
   unfold JQ
   rw[List.takeWhile_cons,h.1];rfl
theorem JIk{s:List UInt8}(h:Jp 46 s<s.length): s.drop (Jp 46 s)=46::s.drop (Jp 46 s+1):=by
 have h1:=J8E 46 s h
 rw[List.drop_eq_getElem_cons h]
 congr 1
 rw[List.getD,List.getElem?_eq_getElem h]at h1
 simpa using h1
theorem JiW(k:Nat){R:Type}(s:List UInt8)(hs:s.length≤4000)(hk:5000<k)(K:Nat->Bool->Option R): Ui k s K=rdK K (rdS s):=by
 unfold Ui Jj3 rdS
 cases s == [110,97,110]with
 |true=>rfl
 |false =>
  simp only[cond_false]
  cases s == [105,110,102]with
  |true=>rfl
  |false =>
   simp only[cond_false]
   cases s == [45,105,110,102]with
   |true=>rfl
   |false =>
    simp only[cond_false]
    have hT:(sT s).length≤4000:=by
     unfold sT
     cases(s.head? == some 45)with
     |false=>exact hs
     |true=>simp only[cond_true,List.length_tail];omega
    rw[JEm,Jvo k _ 46 _ (by omega)]
    generalize hmm:sM s=b
    generalize sT s=t at hT ⊢
    have fin:∀(w p:List UInt8) (hw:w.all isD=true) (hwl:w.length≤9) (hp:p.all isD=true) (hpl:p.length≤6),
     (bif Ye w p then J50 k (w++p) fun y11=>YS k (p.length:Int) fun y12 =>
      bif (Jq BinOp.quo (Jo y11) (Jo y12)).isSome then
       bif b then J4O k ((Jq BinOp.quo (Jo y11) (Jo y12)).getD 0) 13830554455654793216 fun y13=>K y13 true
       else K ((Jq BinOp.quo (Jo y11) (Jo y12)).getD 0) true
      else none else none)=K (bif b then Ul (Z4 w p)else Z4 w p) true:=by
     intro w p hw hwl hp hpl
     obtain⟨q1,q2⟩:=JfA (w:=w) hpl
     have hj:Ye w p=true:=J1 (by simp only[J1f];omega)
     rw[hj,cond_true,JHG k (w++p) (by rw[List.all_append,hw,hp];rfl) (by simp;omega) (by simp;omega),Jb4 k p.length (by omega) (by omega),q1]
     simp only[Option.isSome_some,cond_true,Option.getD_some]
     cases b with
     |true=>simp only[cond_true];rw[JFh k _ q2]
     |false=>rfl
    have ld:∀ w:List UInt8,(decide (1≤w.length)=true->inb 0 (w.length:Int)=true∧(bif decide ((w.length:Int)>1)then((w.getD (Int.toNat 0) 0).toNat:Int) == 48 else false)=J0c w):=by
     intro w hw
     cases w with
     |nil=>cases hw
     |cons c r=>exact⟨Ja (by omega) (by simp<;>omega),Jmk c r⟩
    by_cases hu:Jp 46 t<t.length
    ·rw[if_pos hu]
     have hdr:=JIk hu
     have hwl:(t.take (Jp 46 t)).length=Jp 46 t:=by rw[List.length_take];omega
     have h9:J29 k (t.take (Jp 46 t)) 9=(fun(K:Bool->Option R)=>K ((t.take (Jp 46 t)).all isD&&(decide (1≤(t.take (Jp 46 t)).length)&&decide ((t.take (Jp 46 t)).length≤9)))):=by
      funext K';exact Jll k _ 9 (by rw[hwl];omega) K'
     rw[h9]
     dsimp only
     cases ha:(t.take (Jp 46 t)).all isD with
     |false =>
      have hno:UJ t=none:=by
       unfold UJ
       cases hwo:Ya (JQ t)with
       |false=>rfl
       |true =>
        rw[cond_true]
        cases hd:t.drop (JQ t).length with
        |nil =>
         have:=Jml (.inl hd)
         rw[this]at ha
         have e:t.take (JQ t).length=JQ t:=(List.prefix_iff_eq_take.1 (List.takeWhile_prefix isD)).symm
         rw[e]at ha
         have:(JQ t).all isD=true:=by unfold JQ;exact List.all_takeWhile
         rw[this]at ha;cases ha
        |cons c p =>
         dsimp only
         cases hc:c == 46 with
         |false=>rfl
         |true =>
          have:c=46:=by simpa using hc
          subst this
          have:=Jml (.inr ⟨p,hd⟩)
          rw[this]at ha
          have e:t.take (JQ t).length=JQ t:=(List.prefix_iff_eq_take.1 (List.takeWhile_prefix isD)).symm
          rw[e]at ha
          have:(JQ t).all isD=true:=by unfold JQ;exact List.all_takeWhile
          rw[this]at ha;cases ha
      rw[hno];simp[rdK]
     |true =>
      have hw:=JIj t ha
      have hr:UJ t=bif Ya (t.take (Jp 46 t))&&J07 (t.drop (Jp 46 t+1))then some (t.take (Jp 46 t),t.drop (Jp 46 t+1))else none:=by
       unfold UJ
       rw[hw,hwl,hdr]
       have:((46:UInt8) == 46)=true:=rfl
       dsimp only
       rw[this,Bool.true_and]
       cases Ya (t.take (Jp 46 t))<;>rfl
      rw[hr]
      unfold Ya
      cases h1:decide (1≤(t.take (Jp 46 t)).length)with
      |false=>simp[rdK]
      |true =>
       obtain⟨i1,i2⟩:=ld _ h1
       cases h2:decide ((t.take (Jp 46 t)).length≤9)with
       |false=>simp[rdK]
       |true =>
        simp only[Bool.and_self,Bool.not_true,i1,i2,Bool.or_true,cond_true,cond_false,Bool.true_and]
        cases hld:J0c (t.take (Jp 46 t))with
        |true=>rfl
        |false =>
         have h6:J29 k (t.drop (Jp 46 t+1)) 6=(fun(K:Bool->Option R)=>K ((t.drop (Jp 46 t+1)).all isD&&(decide (1≤(t.drop (Jp 46 t+1)).length)&&decide ((t.drop (Jp 46 t+1)).length≤6)))):=by
          funext K';exact Jll k _ 6 (by rw[List.length_drop];omega) K'
         simp only[beq_self_eq_true,cond_true,Bool.not_false,Bool.true_and]
         rw[h6]
         dsimp only
         have hpo:J07 (t.drop (Jp 46 t+1))=((t.drop (Jp 46 t+1)).all isD&&(decide (1≤(t.drop (Jp 46 t+1)).length)&&decide ((t.drop (Jp 46 t+1)).length≤6))):=rfl
         rw[←hpo]
         cases hp:J07 (t.drop (Jp 46 t+1))with
         |false=>rfl
         |true =>
          rw[hpo]at hp
          simp only[Bool.and_eq_true,decide_eq_true_eq]at hp
          simp only[Bool.not_true,cond_false,cond_true]
          exact fin _ _ ha (of_decide_eq_true h2) hp.1 hp.2.2
    ·rw[if_neg hu]
     have h9:J29 k t 9=(fun(K:Bool->Option R)=>K (t.all isD&&(decide (1≤t.length)&&decide (t.length≤9)))):=by
      funext K';exact Jll k _ 9 (by omega) K'
     rw[h9]
     dsimp only
     have hut:Jp 46 t=t.length:=by have:=Jfy 46 t;omega
     cases ha:t.all isD with
     |false =>
      have hno:UJ t=none:=by
       unfold UJ
       cases hwo:Ya (JQ t)with
       |false=>rfl
       |true =>
        rw[cond_true]
        cases hd:t.drop (JQ t).length with
        |nil =>
         have hle:t.length≤(JQ t).length:=JE hd
         have e:JQ t=t.take (JQ t).length:=List.prefix_iff_eq_take.1 (List.takeWhile_prefix isD)
         rw[List.take_of_length_le hle]at e
         have:(JQ t).all isD=true:=by unfold JQ;exact List.all_takeWhile
         rw[e,ha]at this;cases this
        |cons c p =>
         dsimp only
         cases hc:c == 46 with
         |false=>rfl
         |true =>
          have:c=46:=by simpa using hc
          subst this
          have h1:=Jml (.inr ⟨p,hd⟩)
          obtain⟨h2,_,_⟩:=Jz hd
          omega
      rw[hno];simp[rdK]
     |true =>
      have hw:=JmG ha
      have hr:UJ t=bif Ya t then some (t,[])else none:=by
       unfold UJ
       rw[hw,List.drop_length]
      rw[hr]
      unfold Ya
      cases h1:decide (1≤t.length)with
      |false=>simp[rdK]
      |true =>
       obtain⟨i1,i2⟩:=ld _ h1
       cases h2:decide (t.length≤9)with
       |false=>simp[rdK]
       |true =>
        simp only[Bool.and_self,Bool.not_true,i1,i2,Bool.or_true,cond_true,cond_false,Bool.true_and]
        cases hld:J0c t with
        |true=>rfl
        |false =>
         have e0:(false == true)=false:=rfl
         simp only[beq_self_eq_true,cond_true,Bool.not_false,Bool.true_and,e0,cond_false]
         exact fin _ [] ha (of_decide_eq_true h2) rfl (by simp)
theorem JFj(k:Nat){R:Type}(n:Nat)(hn:n≤15)(hk:n<k)(K:Int->Option R): J10 k (n:Int) K=K ((10 ^ n:Nat):Int):=by
 unfold J10 JkQ
 have h16:(10:Nat) ^ 15=1000000000000000:=by decide
 have loop:∀(j i m:Nat),i+j=n->j<m->J4Q k m (n:Int) ((10 ^ i:Nat):Int) (i:Int) K=K ((10 ^ n:Nat):Int):=by
  intro j
  induction j with
  |zero =>
   intro i m h hm
   obtain⟨m,rfl⟩:∃ j,m=j+1:=⟨m-1,by omega⟩
   rw[J4Q,Je3,J2 (by omega),cond_false,show i=n by omega]
  |succ j ih =>
   intro i m h hm
   have hpw:10 ^ i≤10 ^ 15:=Nat.pow_le_pow_right (by omega) (by omega)
   obtain⟨m,rfl⟩:∃ j,m=j+1:=⟨m-1,by omega⟩
   rw[J4Q,Je3,J1 (by omega),cond_true]
   have e1:∀ q:Nat,q≤1000000000000000->IntKind.i64.wrap ((q:Int)*10)=((q*10:Nat):Int):=fun q hq=>by
    rw[J8 (by omega) (by omega)];omega
   rw[e1 _ (by omega),←Nat.pow_succ,J8 (by omega) (by omega),Q4]
   exact ih (i+1) m (by omega) (by omega)
 exact loop n 0 k (by omega) (by omega)
def quN(n kk:Nat): Nat:=(Jq .quo (Jo (n:Int)) (Jo ((10 ^ kk:Nat):Int))).getD 0
def J2M{R:Type}(f:Nat)(K:Nat->Bool->Option R)(n kk:Nat): Option R:=bif (f:Int) == 1 then K (Ul (quN n kk)) true else K (quN n kk) true
theorem Jvy(k:Nat){R:Type}(f n kk:Nat)(h:kk≤6)(hk:20<k)(K:Nat->Bool->Option R):
 (J10 k (kk:Int) fun y=>bif (Jq BinOp.quo (Jo (n:Int)) (Jo y)).isSome then
  bif (f:Int) == 1 then K (Ul ((Jq BinOp.quo (Jo (n:Int)) (Jo y)).getD 0)) true else K ((Jq BinOp.quo (Jo (n:Int)) (Jo y)).getD 0) true else none)=J2M f K n kk:=by
 rw[JFj k kk (by omega) (by omega)]
 obtain⟨t1,t2⟩:=Jvs kk (by omega)
 obtain⟨q,e,_⟩:=Jvr (Jfj n) (Jfj (10 ^ kk)) t1 t2
 unfold J2M quN
 rw[e];rfl
theorem Juc{n d:Nat}(h:n<10 ^ 17){c:UInt8}(hc:isD c=true): IntKind.i64.wrap (IntKind.i64.wrap ((n:Int)*10)+IntKind.i64.wrap (IntKind.u8.wrap ((c.toNat:Int)-48)))=((10*n+dgt c:Nat):Int):=by
 have h17:(10:Nat) ^ 17=100000000000000000:=by decide
 have:=J1a hc
 rw[Jvv hc,J8 (x:=(n:Int)*10) (by omega) (by omega),J8 (by omega) (by omega)];omega
theorem Jwb(k:Nat){R:Type}(s:List UInt8)(hs:s.length≤4000)(hk:5000<k)(f:Nat)(K:Nat->Bool->Option R): ∀(p:List UInt8) (i m n kk:Nat),s.drop i=p->p.length<m->i≤s.length->kk≤6->n<10 ^ (9+kk) ->
 J1u k m s (i:Int) (n:Int) (kk:Int) (f:Int) K=bif p.all isD&&(decide (1≤kk+p.length)&&decide (kk+p.length≤6))then J2M f K (JB n p) (kk+p.length)else K 0 false
 |p,i,0,n,kk,_,h,_,_,_=>by omega
 |[],i,m+1,n,kk,hd,h,hi,hkk,hn=>by
  have:=JE hd
  rw[J1u,JdR]
  rw[Jvy k f n kk hkk (by omega)]
  simp(disch:=omega)only[J1,J2,Jl,Jh,Jm,Jn,Ja,Jg,J8,Ji,cond_true,cond_false,Bool.not_true,Bool.not_false,Bool.true_or,Bool.or_true,Bool.false_or,Bool.or_false,Bool.true_and,Bool.and_true,Bool.false_and,Bool.and_false,Jk,Jj,Jb]
  by_cases h0:kk=0
  ·subst h0;rfl
  ·have e1:((kk:Int) == 0)=false:=by rw[beq_eq_false_iff_ne];omega
   have e2:decide (1≤kk+([]:List UInt8).length)=true:=J1 (by simp;omega)
   have e3:decide (kk+([]:List UInt8).length≤6)=true:=J1 (by simpa using hkk)
   rw[e1,e2,J0w];rfl
 |c::r,i,m+1,n,kk,hd,h,hi,hkk,hn=>by
  obtain⟨hlt,hc,hr⟩:=Jz hd
  have hlen:i+(r.length+1)=s.length:=by have:=congrArg List.length hd;simp at this;omega
  rw[J1u,JdR]
  simp(disch:=omega)only[J1,J2,Jl,Jh,Jm,Jn,Ja,Jg,J8,Ji,cond_true,cond_false,Bool.not_true,Bool.not_false,Bool.true_or,Bool.or_true,Bool.false_or,Bool.or_false,Bool.true_and,Bool.and_true,Bool.false_and,Bool.and_false,Jk,Jj,Jb,hc,Q4]
  rw[Jjp,List.all_cons]
  have hno:∀ X:Option R,(bif (kk:Int) == 0 then K 0 false else K 0 false)=K 0 false:=fun _=>by cases(kk:Int) == 0<;>rfl
  cases hD:isD c with
  |false=>simp only[cond_false,Bool.false_and];exact hno none
  |true =>
   simp only[cond_true,Bool.true_and]
   by_cases h6:kk<6
   ·have hp:10 ^ (9+kk)≤10 ^ 17:=Nat.pow_le_pow_right (by omega) (by omega)
    have h9:=J1a hD
    rw[J1 (show(kk:Int)<6 by omega),cond_true,Juc (d:=0) (by omega) hD]
    refine(Jwb k s hs hk f K r (i+1) m (10*n+dgt c) (kk+1) hr (by simp at h;omega) (by omega) (by omega) (by rw[show 9+(kk+1)=9+kk+1 by omega,Nat.pow_succ];omega)).trans ?_
    rw[Yd,List.length_cons]
    have e:kk+1+r.length=kk+(r.length+1):=by omega
    rw[e]
   ·rw[J2 (show ¬ (kk:Int)<6 by omega),cond_false]
    have e3:decide (kk+(c::r).length≤6)=false:=J2 (by simp;omega)
    rw[e3,Bool.and_false,Bool.and_false,cond_false]
    exact hno none
theorem JJ7(w:List UInt8)(h:1≤w.length)(z:UInt8): (bif decide ((w.length:Int)>1)then((w.getD 0 z).toNat:Int) == 48 else false)=J0c w:=by
 cases w with
 |nil=>cases h
 |cons c r=>exact Jmk c r
def Jbp{R:Type}(f:Nat)(K:Nat->Bool->Option R): Option (List UInt8×List UInt8)->Option R
 |some (w,p)=>J2M f K (JB 0 (w++p)) p.length
 |none=>K 0 false
theorem JfW:∀(w t:List UInt8),w.all isD=true->JQ (w++t)=w++JQ t
 |[],t,_=>rfl
 |c::r,t,h=>by
  rw[List.all_cons,Bool.and_eq_true]at h
  have:=JfW r t h.2
  unfold JQ at this ⊢
  rw[List.cons_append,List.takeWhile_cons,h.1,if_pos rfl,this];rfl
def Jbq{R:Type}(f:Nat)(K:Nat->Bool->Option R)(w t:List UInt8): Option R :=
 bif Ya w then match t with
  |[]=>J2M f K (JB 0 w) 0
  |c::p=>bif c == 46&&J07 p then J2M f K (JB (JB 0 w) p) p.length else K 0 false
 else K 0 false
theorem JlO:∀(w p:List UInt8) (a:Nat),JB a (w++p)=JB (JB a w) p
 |[],p,a=>rfl
 |c::r,p,a=>by rw[List.cons_append,Yd,Yd,JlO r p]
theorem Jvz{R:Type}(f:Nat)(K:Nat->Bool->Option R)(w t:List UInt8)(hw:w.all isD=true)(ht:JQ t=[]): Jbq f K w t=Jbp f K (UJ (w++t)):=by
 unfold Jbq UJ
 rw[JfW w t hw,ht,List.append_nil,List.drop_left]
 cases Ya w with
 |false=>rfl
 |true =>
  simp only[cond_true]
  cases t with
  |nil=>simp[Jbp]
  |cons c p =>
   dsimp only
   cases c == 46&&J07 p with
   |false=>rfl
   |true=>simp only[cond_true,Jbp,JlO]
theorem JH3(k:Nat){R:Type}(s:List UInt8)(hs:s.length≤4000)(hk:5000<k)(f:Nat)(K:Nat->Bool->Option R)(w t:List UInt8)(hd:s.drop f=w++t)(hf:f≤s.length)(hw:w.all isD=true)(h9:w.length≤9)(hn:JB 0 w<10 ^ 9):
 (bif !((((f+w.length:Nat):Int) == (f:Int)) == false&&decide (IntKind.i64.wrap (((f+w.length:Nat):Int)-(f:Int))>1) == true) || inb (f:Int) (s.length:Int)then
  bif bif ((f+w.length:Nat):Int) == (f:Int)then true else bif decide (IntKind.i64.wrap (((f+w.length:Nat):Int)-(f:Int))>1)then((s.getD (f:Int).toNat 0).toNat:Int) == 48 else false then K 0 false
  else
   bif decide (((f+w.length:Nat):Int)<(s.length:Int))then
    bif inb ((f+w.length:Nat):Int) (s.length:Int)then
     bif ((s.getD ((f+w.length:Nat):Int).toNat 0).toNat:Int) != 46 then K 0 false
     else J1u k k s (IntKind.i64.wrap (((f+w.length:Nat):Int)+1)) (JB 0 w:Int) 0 (f:Int) K
    else none
   else
    bif decide (((f+w.length:Nat):Int)<(s.length:Int))then K 0 false
    else J10 k 0 fun y=>bif (Jq BinOp.quo (Jo (JB 0 w:Int)) (Jo y)).isSome then
     bif (f:Int) == 1 then K (Ul ((Jq BinOp.quo (Jo (JB 0 w:Int)) (Jo y)).getD 0)) true else K ((Jq BinOp.quo (Jo (JB 0 w:Int)) (Jo y)).getD 0) true else none
  else none)=Jbq f K w t:=by
 have hlen:f+(w.length+t.length)=s.length:=by have:=congrArg List.length hd;simp at this;omega
 have hfin:=Jvy k f (JB 0 w) 0 (by omega) (by omega) K
 have hfin:(J10 k 0 fun y=>bif (Jq BinOp.quo (Jo (JB 0 w:Int)) (Jo y)).isSome then
  bif (f:Int) == 1 then K (Ul ((Jq BinOp.quo (Jo (JB 0 w:Int)) (Jo y)).getD 0)) true else K ((Jq BinOp.quo (Jo (JB 0 w:Int)) (Jo y)).getD 0) true else none)=J2M f K (JB 0 w) 0:=hfin
 rw[hfin]
 unfold Jbq Ya
 by_cases h0:w=[]
 ·subst h0
  have e:(((f+([]:List UInt8).length:Nat):Int) == (f:Int))=true:=by simp
  rw[e];rfl
 ·have hw1:1≤w.length:=by cases w with
   |nil=>exact absurd rfl h0
   |cons _ _=>simp
  have e1:(((f+w.length:Nat):Int) == (f:Int))=false:=by rw[beq_eq_false_iff_ne];omega
  have e2:IntKind.i64.wrap (((f+w.length:Nat):Int)-(f:Int))=(w.length:Int):=by rw[J8 (by omega) (by omega)];omega
  have e3:s.getD (f:Int).toNat 0=w.getD 0 0:=by
   rw[Jb]
   have h1:(s.drop f).getD 0 0=s.getD f 0:=by simp[List.getD]
   rw[←h1,hd]
   cases w with
   |nil=>exact absurd rfl h0
   |cons _ _=>rfl
  rw[e1,e2,e3,Ja (i:=(f:Int)) (by omega) (by omega),Bool.or_true,cond_true,cond_false,JJ7 w hw1,J1 hw1,J1 h9,Bool.true_and,Bool.true_and]
  cases hl:J0c w with
  |true=>rfl
  |false =>
   simp only[Bool.not_false,cond_true,cond_false]
   cases t with
   |nil =>
    have:¬ (((f+w.length:Nat):Int)<(s.length:Int)):=by simp at hlen;omega
    rw[J2 this];rfl
   |cons c p =>
    have hlt:f+w.length<s.length:=by simp at hlen;omega
    have hd2:s.drop (f+w.length)=c::p:=by rw[←List.drop_drop,hd,List.drop_left]
    obtain⟨_,hc,hr⟩:=Jz hd2
    have e4:s.getD ((f+w.length:Nat):Int).toNat 0=c:=by rw[Jb];exact hc 0
    have e5:(((c.toNat:Nat):Int) != 46) = !(c == 46):=by
     have:((c.toNat:Int) == 46)=(c == 46):=QA c 46 (by omega)
     rw[bne,this]
    have e6:IntKind.i64.wrap (((f+w.length:Nat):Int)+1)=((f+w.length+1:Nat):Int):=by rw[J8 (by omega) (by omega)];omega
    rw[J1 (by omega),Ja (by omega) (by omega),cond_true,cond_true,e4,e5,e6]
    have r2:=Jwb k s hs hk f K p (f+w.length+1) k (JB 0 w) 0 hr (by have:=congrArg List.length hr;simp at this;omega) (by omega) (by omega) (by simpa using hn)
    have r2:J1u k k s ((f+w.length+1:Nat):Int) (JB 0 w:Int) 0 (f:Int) K=_:=r2
    rw[r2]
    dsimp only
    unfold J07
    rw[Nat.zero_add]
    cases c == 46<;>cases p.all isD<;>simp
theorem Jgc(k:Nat){R:Type}(s:List UInt8)(hs:s.length≤4000)(hk:5000<k)(f:Nat)(hf:f≤s.length)(K:Nat->Bool->Option R): ∀(t w:List UInt8) (m:Nat),s.drop f=w++t->t.length<m->w.all isD=true->w.length≤9->JB 0 w<10 ^ w.length ->
 J7l k m s ((f+w.length:Nat):Int) (JB 0 w:Int) 0 (f:Int) K=Jbp f K (UJ (w++t))
 |t,w,0,_,h,_,_,_=>by omega
 |t,w,m+1,hd,h,hw,h9,hn=>by
  have hlen:f+(w.length+t.length)=s.length:=by have:=congrArg List.length hd;simp at this;omega
  have hp:10 ^ w.length≤10 ^ 9:=Nat.pow_le_pow_right (by omega) h9
  have E:=JH3 k s hs hk f K w t hd hf hw h9 (by omega)
  rw[J7l,JdQ]
  rw[E]
  cases t with
  |nil =>
   have hlt:¬ (((f+w.length:Nat):Int)<(s.length:Int)):=by simp at hlen;omega
   rw[J2 hlt]
   exact Jvz f K w [] hw rfl
  |cons c r =>
   have hlt:f+w.length<s.length:=by simp at hlen;omega
   have hd2:s.drop (f+w.length)=c::r:=by rw[←List.drop_drop,hd,List.drop_left]
   obtain⟨_,hc,hr⟩:=Jz hd2
   have e4:s.getD ((f+w.length:Nat):Int).toNat 0=c:=by rw[Jb];exact hc 0
   have e2:IntKind.i64.wrap (((f+w.length:Nat):Int)-(f:Int))=(w.length:Int):=by rw[J8 (by omega) (by omega)];omega
   have e6:IntKind.i64.wrap (((f+w.length:Nat):Int)+1)=((f+w.length+1:Nat):Int):=by rw[J8 (by omega) (by omega)];omega
   rw[J1 (by omega),Ja (i:=((f+w.length:Nat):Int)) (by omega) (by omega),e4,e2,e6,Jjp]
   simp only[Bool.or_true,cond_true,beq_self_eq_true]
   cases hD:isD c with
   |false =>
    simp only[cond_false]
    exact Jvz f K w (c::r) hw (by unfold JQ;rw[List.takeWhile_cons,hD];rfl)
   |true =>
    by_cases h6:w.length<9
    ·have h10:=J1a hD
     rw[cond_true,J1 (show(w.length:Int)<9 by omega),cond_true,Juc (d:=0) (by omega) hD]
     have hl2:f+w.length+1=f+(w++[c]).length:=by simp;omega
     rw[hl2,←J5n,show w++c::r=(w++[c])++r by simp]
     exact Jgc k s hs hk f hf K r (w++[c]) m (by rw[hd];simp) (by simp at h;omega) (by rw[List.all_append,hw];simp[hD]) (by simp;omega) (by rw[J5n,List.length_append,List.length_singleton,Nat.pow_succ];omega)
    ·rw[cond_true,J2 (show ¬ (w.length:Int)<9 by omega),cond_false]
     have hno:UJ (w++c::r)=none:=by
      unfold UJ
      rw[JfW w _ hw]
      have:Ya (w++JQ (c::r))=false:=by
       have e:JQ (c::r)=c::JQ r:=by unfold JQ;rw[List.takeWhile_cons,hD];rfl
       unfold Ya
       rw[e,J2 (show ¬ (w++c::JQ r).length≤9 by simp;omega)]
       simp
      rw[this];rfl
     rw[hno]
     unfold Jbq
     have h46:(c == 46)=false:=by
      cases hh:c == 46 with
      |false=>rfl
      |true=>have:c=46:=by simpa using hh
             rw[this]at hD;exact absurd hD (by decide)
     dsimp only
     rw[h46]
     cases Ya w<;>rfl
theorem Jrj(k:Nat){R:Type}(s:List UInt8)(hs:s.length≤4000)(hk:5000<k)(K:Nat->Bool->Option R): ZA k s K=rdK K (rdS s):=by
 unfold ZA Jkn rdS
 cases s == [110,97,110]with
 |true=>rfl
 |false =>
  simp only[cond_false]
  cases s == [105,110,102]with
  |true=>rfl
  |false =>
   simp only[cond_false]
   cases s == [45,105,110,102]with
   |true=>rfl
   |false =>
    simp only[cond_false]
    have fin:∀(f:Nat) (o:Option (List UInt8×List UInt8)),Jbp f K o=rdK K (match o with|none=>none|some (w,p)=>some (bif (f:Int) == 1 then Ul (Z4 w p)else Z4 w p)):=by
     intro f o
     cases o with
     |none=>rfl
     |some q =>
      obtain⟨w,p⟩:=q
      show J2M f K (JB 0 (w++p)) p.length=K _ true
      unfold J2M
      have:quN (JB 0 (w++p)) p.length=Z4 w p:=rfl
      rw[this]
      cases(f:Int) == 1<;>rfl
    cases s with
    |nil =>
     have h:=Jgc k [] hs hk 0 (Nat.le_refl _) K [] [] k rfl (by simp;omega) rfl (by simp) (by decide)
     rw[fin]at h
     exact h
    |cons c r =>
     have h1:decide (((c::r).length:Int)>0)=true:=J1 (by simp<;>omega)
     have h2:inb 0 ((c::r).length:Int)=true:=Ja (by omega) (by simp<;>omega)
     have h3:∀ z,(c::r).getD (Int.toNat 0) z=c:=fun _=>rfl
     have h4:((c.toNat:Int) == 45)=(c == 45):=QA c 45 (by omega)
     have h5:sM (c::r)=(c == 45):=rfl
     rw[h1,h2,h3,h4,h5]
     simp only[Bool.or_true,cond_true]
     unfold sT
     have h6:((c::r).head? == some 45)=(c == 45):=rfl
     rw[h6]
     cases c == 45 with
     |true =>
      have h:=Jgc k (c::r) hs hk 1 (by simp) K r [] k rfl (by simp at hs;omega) rfl (by simp) (by decide)
      rw[fin]at h
      exact h
     |false =>
      have h:=Jgc k (c::r) hs hk 0 (by simp) K (c::r) [] k rfl (by omega) rfl (by simp) (by decide)
      rw[fin]at h
      exact h
theorem Jmm:∀(s:List UInt8) (a:Nat),s.all isD=true->JB a s<(a+1)*10 ^ s.length
 |[],a,_=>by rw[J0w];simp
 |c::r,a,h=>by
  rw[List.all_cons,Bool.and_eq_true]at h
  have h1:=Jmm r (10*a+dgt c) h.2
  have h2:=J1a h.1
  rw[Yd,List.length_cons,Nat.pow_succ]
  refine Nat.lt_of_lt_of_le h1 ?_
  have e:(a+1)*(10 ^ r.length*10)=(10*a+10)*10 ^ r.length:=by
   rw[Nat.mul_comm (10 ^ r.length) 10,←Nat.mul_assoc]
   congr 1
   omega
  rw[e]
  exact Nat.mul_le_mul_right _ (by omega)
theorem JHH{s:List UInt8}(h:Ys s=true)(hl:2≤s.length): 10 ^ (s.length-1)≤JB 0 s:=by
 unfold Ys at h
 simp only[Bool.and_eq_true,Bool.not_eq_true']at h
 obtain⟨h1,_,h3⟩:=h
 match s,h1,h3,hl with
 |c::d::r,h1,h3,hl =>
  rw[List.all_cons,Bool.and_eq_true]at h1
  have hc:=J19 h1.1
  have hne:c.toNat≠48:=by
   intro e
   have:c=48:=by
    have:=congrArg UInt8.ofNat e
    simpa using this
   rw[this]at h3
   cases h3
  have hp:=JlN (d::r) (10*0+dgt c)
  have hge:1≤10*0+dgt c:=by unfold dgt;omega
  have hmul:1*10 ^ (d::r).length≤(10*0+dgt c)*10 ^ (d::r).length:=Nat.mul_le_mul_right _ hge
  rw[Yd]
  have e:(c::d::r).length-1=(d::r).length:=by simp
  rw[e]
  omega
theorem Jlm{s:List UInt8}(h:Ys s=true){w:Nat}(hw:1≤w): s.length≤w↔JB 0 s<10 ^ w:=by
 constructor
 ·intro hl
  unfold Ys at h
  simp only[Bool.and_eq_true]at h
  have:=Jmm s 0 h.1
  rw[Nat.zero_add,Nat.one_mul]at this
  exact Nat.lt_of_lt_of_le this (Nat.pow_le_pow_right (by decide) hl)
 ·intro hv
  rcases Nat.lt_or_ge w s.length with hl|hl
  ·have:=JHH h (by omega)
   have h2:10 ^ w≤10 ^ (s.length-1):=Nat.pow_le_pow_right (by decide) (by omega)
   omega
  ·exact hl
def Yi(n w:Nat): List UInt8:=List.replicate (w-(Qq n).length) 48++Qq n
theorem JfB{s:List UInt8}(h:Ys s=true): s.all isD=true∧1≤s.length∧J0c s=false:=by
 unfold Ys at h
 simp only[Bool.and_eq_true,Bool.not_eq_true']at h
 refine⟨h.1,?_,h.2.2⟩
 cases s with
 |nil=>cases h.2.1
 |cons c r=>simp
theorem JuP:∀(m:Nat) (s:List UInt8),JB 0 (List.replicate m 48++s)=JB 0 s
 |0,s=>rfl
 |m+1,s=>by
  rw[List.replicate_succ,List.cons_append,Yd]
  exact JuP m s
theorem JIl(m:Nat): (List.replicate m (48:UInt8)).all isD=true:=by
 rw[List.all_eq_true]
 intro x hx
 rw[(List.mem_replicate.1 hx).2];rfl
theorem J8x{n w:Nat}(hw:1≤w)(hn:n<10 ^ w)(hb:n≤JD): (Yi n w).length=w∧(Yi n w).all isD=true∧JB 0 (Yi n w)=n:=by
 obtain⟨c,v⟩:=J5o n hb
 obtain⟨d1,d2,d3⟩:=JfB c
 have hl:=(Jlm c hw).2 (by rw[v];exact hn)
 unfold Yi
 refine⟨by rw[List.length_append,List.length_replicate];omega,?_,by rw[JuP,v]⟩
 rw[List.all_append,JIl,d1];rfl
def Zs(n kk:Nat): List UInt8:=Qq (n / 10 ^ kk)++bif decide (0<kk)then 46::Yi (n % 10 ^ kk) kk else[]
theorem JaR(n kk:Nat): n % 10 ^ kk<10 ^ kk:=Nat.mod_lt _ (Nat.pow_pos (by decide))
theorem JIm{n kk:Nat}(hk:kk≤6)(hn:n≤JD): UJ (Zs n kk)=bif decide (n / 10 ^ kk≤999999999)then some (Qq (n / 10 ^ kk),bif decide (0<kk)then Yi (n % 10 ^ kk) kk else[])else none:=by
 have ha:n / 10 ^ kk≤JD:=Nat.le_trans (Nat.div_le_self _ _) hn
 obtain⟨c,v⟩:=J5o _ ha
 obtain⟨d1,d2,d3⟩:=JfB c
 have hl:=Jlm c (w:=9) (by decide)
 rw[v]at hl
 have hok:Ya (Qq (n / 10 ^ kk))=decide (n / 10 ^ kk≤999999999):=by
  unfold Ya
  rw[d3,J1 d2,Bool.true_and,Bool.not_false,Bool.and_true,Bool.eq_iff_iff,decide_eq_true_iff,decide_eq_true_iff,hl]
  have:(10:Nat) ^ 9=1000000000:=by decide
  omega
 unfold Zs UJ
 by_cases h0:0<kk
 ·obtain⟨f1,f2,f3⟩:=J8x h0 (JaR n kk) (Nat.le_trans (Nat.mod_le _ _) hn)
  have hw:JQ (Qq (n / 10 ^ kk)++46::Yi (n % 10 ^ kk) kk)=Qq (n / 10 ^ kk):=by
   rw[JfW _ _ d1]
   have:JQ (46::Yi (n % 10 ^ kk) kk)=[]:=rfl
   rw[this,List.append_nil]
  have hp:J07 (Yi (n % 10 ^ kk) kk)=true:=by
   unfold J07
   rw[f2,f1,J1 (show 1≤kk by omega),J1 hk];rfl
  rw[J1 h0,cond_true,cond_true,hw,hok,List.drop_left]
  dsimp only
  rw[hp]
  cases decide (n / 10 ^ kk≤999999999)<;>rfl
 ·have hk0:kk=0:=by omega
  rw[J2 h0,cond_false,cond_false,List.append_nil,JmG d1,hok,List.drop_length]
theorem JuQ{n kk:Nat}(hk:kk≤6)(hn:n≤JD): Z4 (Qq (n / 10 ^ kk)) (bif decide (0<kk)then Yi (n % 10 ^ kk) kk else[])=quN n kk:=by
 have ha:n / 10 ^ kk≤JD:=Nat.le_trans (Nat.div_le_self _ _) hn
 obtain⟨c,v⟩:=J5o _ ha
 unfold Z4 quN
 by_cases h0:0<kk
 ·obtain⟨f1,f2,f3⟩:=J8x h0 (JaR n kk) (Nat.le_trans (Nat.mod_le _ _) hn)
  rw[J1 h0,cond_true,f1]
  have e:JB 0 (Qq (n / 10 ^ kk)++Yi (n % 10 ^ kk) kk)=n:=by
   rw[JlO,v]
   have key:∀(s:List UInt8) (a:Nat),JB a s=a*10 ^ s.length+JB 0 s:=by
    intro s
    induction s with
    |nil=>intro a;rw[J0w,J0w];simp
    |cons c r ih =>
     intro a
     rw[Yd,Yd,ih (10*a+dgt c),ih (10*0+dgt c),List.length_cons,Nat.pow_succ]
     have:a*(10 ^ r.length*10)=10*a*10 ^ r.length:=by rw[Nat.mul_comm 10 a,Nat.mul_assoc,Nat.mul_comm 10]
     rw[this,Nat.add_mul,Nat.mul_zero,Nat.zero_add]
     omega
   rw[key,f1,f3]
   have:=Nat.div_add_mod n (10 ^ kk)
   rw[Nat.mul_comm];exact this
  rw[e]
 ·have hk0:kk=0:=by omega
  subst hk0
  rw[J2 h0,cond_false,List.append_nil,v,Nat.pow_zero,Nat.div_one];rfl
theorem JJ8(n kk:Nat)(hn:n≤JD): ∃ c r,Zs n kk=c::r∧isD c=true:=by
 obtain⟨c,v⟩:=J5o (n / 10 ^ kk) (Nat.le_trans (Nat.div_le_self _ _) hn)
 obtain⟨d1,d2,d3⟩:=JfB c
 unfold Zs
 cases hd:Qq (n / 10 ^ kk)with
 |nil=>rw[hd]at d2;simp at d2
 |cons a r =>
  rw[hd,List.all_cons,Bool.and_eq_true]at d1
  exact⟨a,_,rfl,d1.1⟩
theorem JJ9{n kk:Nat}(hk:kk≤6)(hn:n≤JD)(mi:Bool): rdS ((bif mi then[45]else[])++Zs n kk)=bif decide (n / 10 ^ kk≤999999999)then some (bif mi then Ul (quN n kk)else quN n kk)else none:=by
 obtain⟨c,r,e,hc⟩:=JJ8 n kk hn
 have hd:=J19 hc
 have hr:=JIm hk hn
 have hq:=JuQ hk hn
 have n1:(c == 110)=false:=by rw[beq_eq_false_iff_ne];intro h;subst h;revert hc;decide
 have n2:(c == 105)=false:=by rw[beq_eq_false_iff_ne];intro h;subst h;revert hc;decide
 have n3:(c == 45)=false:=by rw[beq_eq_false_iff_ne];intro h;subst h;revert hc;decide
 have c1:∀(a:UInt8) (l:List UInt8),(c == a)=false->((c::r) == (a::l))=false:=fun a l h=>by
  rw[beq_eq_false_iff_ne]at h ⊢
  intro h2;injection h2 with h3;exact h h3
 unfold rdS
 cases mi with
 |false =>
  have hT:sT (c::r)=c::r:=by
   unfold sT
   have:((c::r).head? == some 45)=false:=by
    rw[List.head?_cons,beq_eq_false_iff_ne];intro h;injection h with h;subst h;cases n3
   rw[this];rfl
  have hM:sM (c::r)=false:=by
   unfold sM
   rw[List.head?_cons,beq_eq_false_iff_ne];intro h;injection h with h;subst h;cases n3
  rw[cond_false,List.nil_append,e,c1 _ _ n1,c1 _ _ n2,c1 _ _ n3,hT,hM,cond_false,cond_false,cond_false,←e,hr]
  cases decide (n / 10 ^ kk≤999999999)with
  |false=>rfl
  |true=>simp only[cond_true,cond_false,hq]
 |true =>
  have hT:sT (45::c::r)=c::r:=rfl
  have hM:sM (45::c::r)=true:=rfl
  have c2:((45::c::r) == [45,105,110,102])=false:=by
   rw[beq_eq_false_iff_ne];intro h;injection h with _ h;injection h with h;subst h;cases n2
  have c3:((45::c::r) == [110,97,110])=false:=rfl
  have c4:((45::c::r) == [105,110,102])=false:=rfl
  have ec:(bif true then[45]else([]:List UInt8))++Zs n kk=45::c::r:=by rw[e];rfl
  rw[ec,c3,c4,c2,hT,hM,cond_false,cond_false,cond_false,←e,hr]
  cases decide (n / 10 ^ kk≤999999999)with
  |false=>rfl
  |true=>simp only[cond_true,hq]
end Go.Proofs.YtabkhphoacmcdaaGreatDoor.Pvm
set_option maxRecDepth 1000000
namespace Go.Proofs.YtabkhphoacmcdaaGreatDoor.Pvm
open Go Go.Proofs
end Go.Proofs.YtabkhphoacmcdaaGreatDoor.Pvm
set_option maxHeartbeats 0
namespace Go.Proofs.YtabkhphoacmcdaaGreatDoor.Pvm
open Go Go.Proofs
section
open Go
def JK(mi:Bool)(x:Nat): Nat:=bif mi then x+fW else x
theorem J3s{x:Nat}(h:x<fI)(mi:Bool): Ieee.double.read (JK mi x) = .number mi (mgF x) (-1074+(exF x:Int)):=by
 cases mi with
 |false=>exact J13 h
 |true =>
  have hI:fI=9218868437227405312:=rfl
  have hF:fW=9223372036854775808:=rfl
  have hW:Ieee.double.signWeight=9223372036854775808:=Jbd
  have hB:Ieee.double.binade=bB:=J8L
  have hR:Ieee.double.infRung=9218868437227405312:=J3y
  have hL:Ieee.double.leastPlace = -1074:=by decide +kernel
  show Ieee.double.read (x+fW)=_
  unfold Ieee.Format.read
  rw[hW,hB,hR,hL]
  have e1:(x+fW) / 9223372036854775808 % 2=1:=by omega
  have e2:(x+fW) % 9223372036854775808=x:=by omega
  dsimp only
  rw[e1,e2]
  unfold mgF exF
  by_cases hx:x<bB
  ·have:x / bB-1=0:=by rw[Nat.div_eq_of_lt hx]
   rw[if_pos hx,if_pos hx,this];rfl
  ·rw[if_neg hx,if_neg hx,if_pos (by omega)];rfl
theorem J5r(mi:Bool): Ieee.double.read (JK mi fI) = .infinity mi:=by cases mi<;>decide +kernel
theorem J8V(m u:Nat): Ieee.signed true m u = -((m*2 ^ u:Nat):Int):=by unfold Ieee.signed;rw[if_pos rfl,Nat.shiftLeft_eq]
theorem JuR{x y:Nat}(hx:x<fI)(hy:y≤fI)(mi:Bool): QW (JK mi x) (JK mi y)=some (if x=y then .eq else if decide (x<y) != mi then .lt else .gt):=by
 rw[J0v,J3s hx]
 rcases Nat.lt_or_ge y fI with hy1|hy1
 ·rw[J3s hy1]
  unfold Ieee.Datum.order
  dsimp only
  generalize ha:(-1074+(exF x:Int)-min (-1074+(exF x:Int)) (-1074+(exF y:Int))).toNat=a
  generalize hb:(-1074+(exF y:Int)-min (-1074+(exF x:Int)) (-1074+(exF y:Int))).toNat=b
  obtain⟨c,hc⟩:∃ c,c=min (exF x) (exF y):=⟨_,rfl⟩
  have e1:svF x=mgF x*2 ^ a*2 ^ c:=by
   unfold svF
   rw[Nat.mul_assoc,←Nat.pow_add]
   exact congrArg (fun j:Nat=>mgF x*pw j) (by omega)
  have e2:svF y=mgF y*2 ^ b*2 ^ c:=by
   unfold svF
   rw[Nat.mul_assoc,←Nat.pow_add]
   exact congrArg (fun j:Nat=>mgF y*pw j) (by omega)
  have hp:0<2 ^ c:=Nat.pow_pos (by decide)
  have key:(mgF x*2 ^ a<mgF y*2 ^ b↔x<y)∧(mgF x*2 ^ a=mgF y*2 ^ b↔x=y):=by
   generalize mgF x*2 ^ a=p at *
   generalize mgF y*2 ^ b=q at *
   rcases Nat.lt_trichotomy x y with h|h|h
   ·have:=J2C h
    rw[e1,e2]at this
    have:=Nat.lt_of_mul_lt_mul_right this
    omega
   ·subst h
    have:p=q:=by
     have h3:p*2 ^ c=q*2 ^ c:=by rw[←e1,←e2]
     exact Nat.eq_of_mul_eq_mul_right hp h3
    omega
   ·have:=J2C h
    rw[e1,e2]at this
    have:=Nat.lt_of_mul_lt_mul_right this
    omega
  congr 1
  cases mi with
  |false =>
   rw[J2D,J2D,J2q]
   generalize mgF x*2 ^ a=p at *
   generalize mgF y*2 ^ b=q at *
   by_cases h2:x=y
   ·rw[if_neg (by omega),if_pos (by omega),if_pos h2]
   ·by_cases h1:x<y
    ·rw[if_pos (by omega),if_neg h2,J1 h1];rfl
    ·rw[if_neg (by omega),if_neg (by omega),if_neg h2,J2 h1];rfl
  |true =>
   rw[J8V,J8V,J2q]
   generalize mgF x*2 ^ a=p at *
   generalize mgF y*2 ^ b=q at *
   by_cases h2:x=y
   ·rw[if_neg (by omega),if_pos (by omega),if_pos h2]
   ·by_cases h1:x<y
    ·rw[if_neg (by omega),if_neg (by omega),if_neg h2,J1 h1];rfl
    ·rw[if_pos (by omega),if_neg h2,J2 h1];rfl
 ·have:y=fI:=by omega
  subst this
  rw[J5r,if_neg (by omega),J1 hx]
  cases mi<;>rfl
theorem JHI{x:Nat}(h:x≤fI)(mi:Bool): QW (JK mi x) (JK mi x)=some .eq:=by
 cases mi with
 |false=>exact JHC h
 |true=>exact JHD h
theorem J2r{x:Nat}(h:x≤fI)(mi:Bool): Jr .neq (JK mi x) (JK mi x)=false:=by
 unfold Jr;simp only[JHI h];rfl
theorem Jud{x:Nat}(h:x≤fI)(mi:Bool): QW (JK mi x) 0=some (if x=0 then .eq else if mi then .lt else .gt):=by
 cases mi with
 |false =>
  show QW x 0=_
  rw[Jw8 h];rfl
 |true =>
  show QW (x+fW) 0=_
  by_cases h0:x=0
  ·subst h0
   rw[if_pos rfl]
   decide +kernel
  ·rw[Jw9 h h0,if_neg h0];rfl
def plc(mi:Bool)(x:Nat): Int:=if x=0 then 0 else bif mi then -1 else 1
theorem J8o(k:Nat){R:Type}{x:Nat}(h:x≤fI)(mi:Bool)(K:Int->Option R): J3c k (JK mi x) K=K (plc mi x):=by
 unfold J3c Jj0 QO J1v
 rw[J2r h]
 unfold J1W Jc9 J4b Jcv
 rw[J2r h,show Jr .neq 0 0=false from by decide +kernel]
 simp only[cond_false]
 unfold plc
 have e1:Jr .lss (JK mi x) 0=(!decide (x=0)&&mi):=by
  unfold Jr
  simp only[Jud h]
  by_cases h0:x=0
  ·rw[if_pos h0,J1 h0];rfl
  ·rw[if_neg h0,J2 h0];cases mi<;>rfl
 have e2:Jr .gtr (JK mi x) 0=(!decide (x=0) && !mi):=by
  unfold Jr
  simp only[Jud h]
  by_cases h0:x=0
  ·rw[if_pos h0,J1 h0];rfl
  ·rw[if_neg h0,J2 h0];cases mi<;>rfl
 rw[e1,e2]
 by_cases h0:x=0
 ·rw[if_pos h0,J1 h0];rfl
 ·rw[if_neg h0,J2 h0];cases mi<;>rfl
theorem J5s(k:Nat){R:Type}{x:Nat}(h:x≤fI)(mi:Bool)(K:Bool->Option R): U9 k (JK mi x) K=K mi:=by
 have hI:fI=9218868437227405312:=rfl
 have hF:fW=9223372036854775808:=rfl
 cases mi with
 |false=>exact JFi k x h K
 |true =>
  show U9 k (x+fW) K=_
  unfold U9 Je6 J1r
  dsimp only
  have:IntKind.i64.wrap ((x+fW:Nat):Int)=((x+fW:Nat):Int)-18446744073709551616:=by
   simp[IntKind.wrap,IntKind.bits,IntKind.signed];omega
  rw[this,J1 (by omega)]
theorem JHJ(k:Nat){R:Type}{x y:Nat}(hx:x<fI)(hy:y≤fI)(mi:Bool)(K:Bool->Option R): Y7 k (JK mi x) (JK mi y) K=K (decide (x=y)):=by
 unfold Y7 Jjw Yy J7x
 rw[J8o k (by omega),J8o k hy]
 by_cases h:plc mi x=plc mi y
 ·rw[h,show(plc mi y != plc mi y)=false from by simp,cond_false]
  have h2:(plc mi y == 2)=false:=by unfold plc;split<;>cases mi<;>rfl
  rw[h2,cond_false]
  by_cases h0:y=0
  ·have e0:plc mi y=0:=by unfold plc;rw[if_pos h0]
   have hx0:x=0:=by
    rw[e0]at h
    unfold plc at h
    by_cases hx0:x=0
    ·exact hx0
    ·rw[if_neg hx0]at h;cases mi<;>cases h
   rw[e0,show((0:Int) != 0)=false from rfl,cond_false,J5s k (by omega),J5s k hy]
   rw[show(mi == mi)=true from by simp,cond_true,J1 (by omega)];rfl
  ·have e0:(plc mi y != 0)=true:=by unfold plc;rw[if_neg h0];cases mi<;>rfl
   rw[e0,cond_true]
   unfold J1W Jc9 J4b Jcv
   rw[J2r (x:=x) (by omega) mi,J2r hy]
   simp only[cond_false]
   have hc:=JuR hx hy mi
   by_cases he:x=y
   ·rw[if_pos he]at hc
    have e1:Jr .lss (JK mi x) (JK mi y)=false:=by unfold Jr;simp only[hc];rfl
    have e2:Jr .gtr (JK mi x) (JK mi y)=false:=by unfold Jr;simp only[hc];rfl
    rw[e1,e2,J1 he];rfl
   ·rw[if_neg he]at hc
    rw[J2 he]
    cases hd:(decide (x<y) != mi)with
    |true =>
     rw[hd,if_pos rfl]at hc
     have e1:Jr .lss (JK mi x) (JK mi y)=true:=by unfold Jr;simp only[hc];rfl
     rw[e1];rfl
    |false =>
     rw[hd,if_neg (by decide)]at hc
     have e1:Jr .lss (JK mi x) (JK mi y)=false:=by unfold Jr;simp only[hc];rfl
     have e2:Jr .gtr (JK mi x) (JK mi y)=true:=by unfold Jr;simp only[hc];rfl
     rw[e1,e2];rfl
 ·have hn:(plc mi x != plc mi y)=true:=by simpa using h
  have he:x≠y:=fun e=>h (by rw[e])
  rw[hn,cond_true,J2 he]
  unfold J35 Jd7 J4N JdU
  have hs:∀ a:Int,(a != a)=false:=fun a=>by simp
  simp only[hs,cond_false]
  rcases Int.lt_or_gt_of_ne h with h1|h1
  ·rw[J1 h1];rfl
  ·rw[J2 (show ¬ plc mi x<plc mi y by omega),J1 (show plc mi x>plc mi y by omega)];rfl
theorem JvA:∀ n:Nat,Jbk [48] n=List.replicate n 48
 |0=>rfl
 |n+1=>by
  have:Jbk [48] (n+1)=[48]++Jbk [48] n:=rfl
  rw[this,JvA n];rfl
theorem J5A{a b:List UInt8}(h:a.length+b.length≤100000000): Ye a b=true:=J1 (by simp only[J1f];omega)
theorem Jfn(n:Nat)(hn:n≤JD): (Qq n).length≤19:=by
 obtain⟨c,v⟩:=J5o n hn
 refine(Jlm c (by decide)).2 ?_
 rw[v]
 have hM:JD=4611686018427387904:=rfl
 have:(10:Nat) ^ 19=10000000000000000000:=by decide
 omega
theorem JuS(k:Nat){R:Type}(n w:Nat)(hn:n≤JD)(hk:30<k)(hw:w≤100)(K:List UInt8->Option R): Zc k (n:Int) (w:Int) K=K (Yi n w):=by
 have hl:=Jfn n hn
 unfold Zc JqJ
 rw[Jaw k n hn hk]
 have e:(cond true (@ite (@Kd.T kI) ((0:Int)>IntKind.i64.wrap ((w:Int)-((Qq n).length:Int))) (Int.decLt (IntKind.i64.wrap ((w:Int)-((Qq n).length:Int))) (0:Int)) (0:Int) (IntKind.i64.wrap ((w:Int)-((Qq n).length:Int)))) (@ite (@Kd.T kI) ((0:Int)<IntKind.i64.wrap ((w:Int)-((Qq n).length:Int))) (Int.decLt (0:Int) (IntKind.i64.wrap ((w:Int)-((Qq n).length:Int)))) (0:Int) (IntKind.i64.wrap ((w:Int)-((Qq n).length:Int)))))=((w-(Qq n).length:Nat):Int):=by
  rw[cond_true,J8 (by omega) (by omega)]
  show(if(0:Int)>(w:Int)-((Qq n).length:Int)then(0:Int)else(w:Int)-((Qq n).length:Int))=_
  split<;>omega
 rw[e]
 unfold Jdz Yi
 rw[J1 (by omega),J1 (by omega),J1 (show([48]:List UInt8).length≤1000000 by decide),Jb,JvA]
 simp only[Bool.and_self,cond_true]
 rw[J5A (by rw[List.length_replicate];omega),cond_true]
end
section
open Go
theorem JJa{y r:Nat}(hy:y<fI)(hr:r<fI)(h0:r≠0): QW (y+fW) r=some .lt:=by
 have e:=J3s hy true
 have e':Ieee.double.read (y+fW) = .number true (mgF y) (-1074+(exF y:Int)):=e
 rw[J0v,e',J13 hr]
 unfold Ieee.Datum.order
 dsimp only
 rw[J8V,J2D,J2q,if_pos]
 have:0<mgF r:=by
  unfold mgF
  split
  ·omega
  ·have:0<bB:=by decide
   omega
 have h1:0<mgF r*2 ^ (-1074+(exF r:Int)-min (-1074+(exF y:Int)) (-1074+(exF r:Int))).toNat:=Nat.mul_pos this (Nat.pow_pos (by decide))
 omega
theorem JIn{x y:Nat}(hx:x<fI)(hy:y<fI): Jr .gtr x y=decide (y<x):=by
 unfold Jr
 simp only[Jmi hx hy,Jmj]
 by_cases h1:x<y
 ·rw[if_pos h1,J2 (by omega)];rfl
 ·rw[if_neg h1]
  by_cases h2:x=y
  ·rw[if_pos h2,J2 (by omega)];rfl
  ·rw[if_neg h2,J1 (show y<x by omega)];rfl
theorem JIo{y r:Nat}(hy:y<fI)(hr:r<fI)(h0:r≠0): Jr .gtr (y+fW) r=false:=by
 unfold Jr
 simp only[JJa hy hr h0];rfl
theorem JIp{y:Nat}(h:y<fW): Ul (y+fW)=y:=by
 have hF:fW=9223372036854775808:=rfl
 unfold Ul Op.negFloat
 show(y+fW) ^^^ (1 <<< 63)=y
 have e:(1:Nat) <<< 63=2 ^ 63:=by decide
 rw[e]
 apply Nat.eq_of_testBit_eq
 intro i
 rw[Nat.testBit_xor,Nat.testBit_two_pow]
 have hs:y+fW=2 ^ 63*1+y:=by rw[hF];omega
 rw[hs,Nat.testBit_two_pow_mul_add _ (by omega:y<2 ^ 63)]
 by_cases hi:i<63
 ·rw[if_pos hi]
  have:decide (63=i)=false:=J2 (by omega)
  rw[this,Bool.xor_false]
 ·rw[if_neg hi]
  have hy:y.testBit i=false:=Nat.testBit_lt_two_pow (Nat.lt_of_lt_of_le (by omega:y<2 ^ 63) (Nat.pow_le_pow_right (by decide) (by omega)))
  rw[hy]
  by_cases h2:i=63
  ·subst h2;decide
  ·have:decide (63=i)=false:=J2 (by omega)
   rw[this,Bool.xor_false]
   have:i-63≠0:=by omega
   cases hq:i-63 with
   |zero=>omega
   |succ m=>simp[Nat.testBit_succ]
def r53:Nat:=4845873199050653696
def r1k:Nat:=4652007308841189376
def rmx:Nat:=9218868437227405311
theorem JJb:wlF r53=9007199254740992:=by decide +kernel
theorem JvB:wlF r1k=1000∧svF r1k=1000*pw 1074:=by decide +kernel
theorem JvC:svF Qw=pw 1074:=by decide +kernel
theorem Jax(k:Nat){R:Type}{y:Nat}(h:y<fI)(mi:Bool)(K:Bool->Option R): J0W k (JK mi y) 1 K=K false∧J0W k (JK mi y) (-1) K=K false∧J0W k (JK mi y) 0 K=K false:=by
 have hI:fI=9218868437227405312:=rfl
 have hF:fW=9223372036854775808:=rfl
 have hm:rmx<fI:=by decide
 have hmx:rmx=9218868437227405311:=rfl
 have e1:Jr .gtr y rmx=false:=by rw[JIn h hm];exact J2 (by omega)
 have e2:Jr .gtr (y+fW) rmx=false:=JIo h hm (by decide)
 have e3:∀ K:Nat->Option R,Ub k (JK mi y) K=K y:=by
  intro K
  cases mi with
  |false =>
   show Ub k y K=_
   rw[Jb1 k y (by omega),Nat.mod_eq_of_lt (by omega)]
  |true =>
   show Ub k (y+fW) K=_
   rw[Jb1 k (y+fW) (by omega),Nat.add_mod_right,Nat.mod_eq_of_lt (by omega)]
 have hr1:∀ z,Jr .gtr z 9218868437227405311=Jr .gtr z rmx:=fun _=>rfl
 refine⟨?_,?_,?_⟩
 ·unfold J0W Ja0
  rw[show((1:Int) == 0)=false from rfl,cond_false,show decide ((1:Int)<0)=false from rfl,cond_false,hr1]
  cases mi with
  |false=>show K (Jr .gtr y rmx)=_;rw[e1]
  |true=>show K (Jr .gtr (y+fW) rmx)=_;rw[e2]
 ·unfold J0W Ja0
  rw[show((-1:Int) == 0)=false from rfl,cond_false,show decide ((-1:Int)<0)=true from rfl,cond_true,hr1]
  cases mi with
  |false=>show K (Jr .gtr (Ul y) rmx)=_;rw[Jaq (by omega),e2]
  |true=>show K (Jr .gtr (Ul (y+fW)) rmx)=_;rw[JIp (by omega),e1]
 ·unfold J0W Ja0
  rw[show((0:Int) == 0)=true from rfl,cond_true,e3,hr1,e1]
theorem Jmn(k:Nat){R:Type}{y:Nat}(h:y≤fI)(mi:Bool)(K:Nat->Option R): Ub k (JK mi y) K=K y:=by
 have hI:fI=9218868437227405312:=rfl
 have hF:fW=9223372036854775808:=rfl
 cases mi with
 |false =>
  show Ub k y K=_
  rw[Jb1 k y (by omega),Nat.mod_eq_of_lt (by omega)]
 |true =>
  show Ub k (y+fW) K=_
  rw[Jb1 k (y+fW) (by omega),Nat.add_mod_right,Nat.mod_eq_of_lt (by omega)]
theorem JlP{x:Nat}(h:x<fI)(h2:wlF x≤9007199254740992): J2x .i64 x=true∧(JX x).getD 0=((wlF x:Nat):Int):=by
 unfold J2x
 rw[JH0 h]
 refine⟨?_,rfl⟩
 dsimp only
 rw[J1 (show IntKind.i64.min≤((wlF x:Nat):Int) by have:IntKind.i64.min = -9223372036854775808:=(by decide);omega),J1 (show((wlF x:Nat):Int)≤IntKind.i64.max by have:IntKind.i64.max=9223372036854775807:=(by decide);omega)];rfl
theorem JIq{y:Nat}(hy:y<fI)(hw:wlF y≤9007199254740992): ∃ d,Jq .sub y (Jo ((wlF y:Nat):Int))=some d∧d≤Qw:=by
 have hB:bB=4503599627370496:=rfl
 obtain⟨hz,sz⟩:=J3E (n:=wlF y) (by omega)
 generalize Jo ((wlF y:Nat):Int)=z at *
 have e0:Jq .sub y z=((Ieee.double.read y).sum (Ieee.double.read z).opposite).map Ieee.double.write:=rfl
 rw[e0,J13 hy,J13 hz]
 unfold Ieee.Datum.opposite Ieee.Datum.sum
 dsimp only
 rw[show(!false)=true from rfl,J2D,J8V,Option.map_some]
 obtain⟨s,hs⟩:∃ s:Nat,s=1926:=⟨_,rfl⟩
 obtain⟨u,hu⟩:∃ u:Nat,u=1074:=⟨_,rfl⟩
 obtain⟨c,hc⟩:∃ c,c=min (exF y) (exF z):=⟨_,rfl⟩
 have hbase:min (-1074+(exF y:Int)) (-1074+(exF z:Int)) = -1074+(c:Int):=by omega
 rw[hbase]
 generalize ha:(-1074+(exF y:Int)-(-1074+(c:Int))).toNat=a
 generalize hb:(-1074+(exF z:Int)-(-1074+(c:Int))).toNat=b
 have e1:svF y=mgF y*2 ^ a*2 ^ c:=by
  unfold svF
  rw[Nat.mul_assoc,←Nat.pow_add]
  exact congrArg (fun j:Nat=>mgF y*pw j) (by omega)
 have e2:svF z=mgF z*2 ^ b*2 ^ c:=by
  unfold svF
  rw[Nat.mul_assoc,←Nat.pow_add]
  exact congrArg (fun j:Nat=>mgF z*pw j) (by omega)
 have hp:0<2 ^ c:=Nat.pow_pos (by decide)
 have hpu:0<pw 1074:=JfU 1074
 have hdm:=Nat.div_add_mod (svF y) (pw 1074)
 have hml:=Nat.mod_lt (svF y) hpu
 have hwd:wlF y=svF y / pw 1074:=rfl
 rw[←hwd,Nat.mul_comm,←sz]at hdm
 have hle:svF z≤svF y:=by omega
 have hdf:svF y-svF z<pw 1074:=by omega
 rw[e1,e2]at hle hdf
 have hle2:=Nat.le_of_mul_le_mul_right hle hp
 generalize mgF y*2 ^ a=p at *
 generalize mgF z*2 ^ b=q at *
 have ht:((p:Int) + -(q:Int))=((p-q:Nat):Int):=by omega
 rw[ht]
 have hfl:(if((p-q:Nat):Int)=0 then false&&true else decide (((p-q:Nat):Int)<0))=false:=by
  split
  ·rfl
  ·exact J2 (by omega)
 rw[hfl]
 refine⟨_,rfl,?_⟩
 show Ieee.double.nearest false ((p-q:Nat):Int).natAbs (-1074+(c:Int))≤Qw
 rw[Int.natAbs_natCast]
 refine JkU hs (by omega) (by decide) ?_
 rw[JvC]
 have e3:(p-q)*2 ^ (-1074+(c:Int)+3000).toNat=(p*2 ^ c-q*2 ^ c)*2 ^ s:=by
  rw[←Nat.sub_mul,Nat.mul_assoc,←Nat.pow_add]
  exact congrArg (fun j:Nat=>(p-q)*pw j) (by omega)
 rw[e3]
 exact Nat.mul_le_mul_right _ (Nat.le_of_lt hdf)
def JmH(s:List UInt8): Prop:=(s == [(110:UInt8),97,110])=false∧(s == [(105:UInt8),110,102])=false∧(s == [(45:UInt8),105,110,102])=false
theorem JIr{c:UInt8}(hc:isD c=true)(r:List UInt8)(mi:Bool): JmH ((bif mi then[45]else[])++c::r):=by
 have n1:c≠110:=by intro h;subst h;revert hc;decide
 have n2:c≠105:=by intro h;subst h;revert hc;decide
 have n3:c≠45:=by intro h;subst h;revert hc;decide
 cases mi with
 |false =>
  refine⟨?_,?_,?_⟩<;>(rw[beq_eq_false_iff_ne];intro h;injection h with h _)
  ·exact n1 h
  ·exact n2 h
  ·exact n3 h
 |true =>
  refine⟨rfl,rfl,?_⟩
  rw[beq_eq_false_iff_ne];intro h;injection h with _ h;injection h with h _
  exact n2 h
theorem JJF(v:Nat): (@ite (@Kd.T kI) ((999:Int)<((v:Nat):Int)) (Int.decLt (999:Int) ((v:Nat):Int)) (999:Int) ((v:Nat):Int))=((min 999 v:Nat):Int):=by
 show(if(999:Int)<((v:Nat):Int)then(999:Int)else((v:Nat):Int))=_
 split<;>omega
theorem JHK(k:Nat){R:Type}(hk:40<k){y:Nat}(h:y<fI)(mi:Bool): ∃ s,JmH s∧∀ K:List UInt8->Option R,Zz k (JK mi y) K=K s:=by
 have hI:fI=9218868437227405312:=rfl
 have h53:r53<fI:=by decide
 have hr53:r53=4845873199050653696:=rfl
 have hb0:∀ b:List UInt8,b=[98,105,103]->JmH ((bif mi then[45]else[])++b):=by
  intro b hb;subst hb;cases mi<;>exact⟨rfl,rfl,rfl⟩
 have hge:Jr .geq y 4845873199050653696=decide (r53≤y):=JuL h h53
 by_cases hbig:r53≤y
 ·refine⟨(bif mi then[45]else[])++[98,105,103],hb0 _ rfl,fun K => ?_⟩
  obtain⟨i1,i2,_⟩:=Jax k (R:=R) h mi (fun b=>K [])
  unfold Zz J7O QO J1v
  dsimp only
  rw[J2r (by omega),cond_false,(Jax k h mi _).1,cond_false,(Jax k h mi _).2.1,cond_false,J5s k (by omega)]
  simp only[Jmn k (Nat.le_of_lt h),hge,J1 hbig,cond_true]
  cases mi<;>rfl
 ·have hw:wlF y≤9007199254740992:=by
   have:=Jbe (show y≤r53 by omega)
   rw[JJb]at this;exact this
  obtain⟨d,ed,hd⟩:=JIq h hw
  have hfo:Qw=4607182418800017408:=rfl
  have hd1:d<fI:=by omega
  have h1k:r1k<fI:=by decide
  obtain⟨p,ep,hp⟩:=JmF (x:=d) (y:=r1k) (r:=r1k) hd1 h1k h1k (by
   rw[JvB.2]
   have:=Jga hd
   rw[JvC]at this
   rw[Nat.mul_comm]
   exact Nat.mul_le_mul_left _ this)
  have hr1k:r1k=4652007308841189376:=rfl
  have hpw:wlF p≤1000:=by have:=Jbe hp;rw[JvB.1]at this;exact this
  have hM:JD=4611686018427387904:=rfl
  obtain⟨f1,f2⟩:=JlP h hw
  obtain⟨g1,g2⟩:=JlP (x:=p) (by omega) (by omega)
  have hl:=Jfn (wlF y) (by omega)
  have h10:(10:Nat) ^ 3=1000:=by decide
  have hfl:(Yi (min 999 (wlF p)) 3).length=3:=(J8x (n:=min 999 (wlF p)) (w:=3) (by decide) (by omega) (by omega)).1
  obtain⟨c,v⟩:=J5o (wlF y) (by omega)
  obtain⟨d1,d2,_⟩:=JfB c
  obtain⟨a,r,ea⟩:∃ a r,Qq (wlF y)=a::r:=by
   cases hq:Qq (wlF y)with
   |nil=>rw[hq]at d2;simp at d2
   |cons a r=>exact⟨a,r,rfl⟩
  have hda:isD a=true:=by rw[ea,List.all_cons,Bool.and_eq_true]at d1;exact d1.1
  refine⟨((bif mi then[45]else[])++Qq (wlF y))++[46]++Yi (min 999 (wlF p)) 3,?_,fun K => ?_⟩
  ·have:=JIr hda (r++[46]++Yi (min 999 (wlF p)) 3) mi
   rw[ea]
   simpa [List.append_assoc]using this
  ·unfold Zz J7O QO J1v
   dsimp only
   rw[J2r (by omega),cond_false,(Jax k h mi _).1,cond_false,(Jax k h mi _).2.1,cond_false,J5s k (by omega)]
   have ed':Jq .sub y (Jo ((wlF y:Nat):Int))=some d:=ed
   have ep':Jq .mul d 4652007308841189376=some p:=ep
   simp only[Jmn k (Nat.le_of_lt h),hge,J2 hbig,cond_false,f1,f2,cond_true,ed',Option.isSome_some,Option.getD_some,ep',g1,g2]
   rw[Jaw k _ (by omega) (by omega),Jaw k _ (by omega) (by omega)]
   have hmn:=JJF (wlF p)
   have fe:∀ K:List UInt8->Option R,Zc k ((min 999 (wlF p):Nat):Int) 3 K=K (Yi (min 999 (wlF p)) 3):=fun K=>JuS k _ 3 (by omega) (by omega) (by omega) K
   have j1:∀ q:List UInt8,q.length≤1->Ye q (Qq (wlF y))=true:=fun q hq=>J5A (by omega)
   have j2:∀ q:List UInt8,q.length≤1->Ye (q++Qq (wlF y)) [46]=true:=fun q hq=>J5A (by simp;omega)
   have j3:∀ q:List UInt8,q.length≤1->Ye ((q++Qq (wlF y))++[46]) (Yi (min 999 (wlF p)) 3)=true:=fun q hq=>J5A (by simp;omega)
   cases mi with
   |true =>
    rw[cond_true,j1 _ (by simp),cond_true,j2 _ (by simp),cond_true,hmn,fe,j3 _ (by simp),cond_true];rfl
   |false =>
    rw[cond_false,j1 _ (by simp),cond_true,j2 _ (by simp),cond_true,hmn,fe,j3 _ (by simp),cond_true];rfl
end
section
open Go
def r9:Nat:=4741671816366391296
theorem Jgd:r9<fI∧svF r9=1000000000*pw 1074:=by decide +kernel
def J3Q(y kk:Nat): Nat:=(Jq .mul y (Jo ((10 ^ kk:Nat):Int))).getD 0
def Zm(y kk:Nat): Nat:=wlF (J3Q y kk)
theorem JIs{y kk:Nat}(hy:y<r9)(hk:kk≤6): Jq .mul y (Jo ((10 ^ kk:Nat):Int))=some (J3Q y kk)∧J3Q y kk<fI∧Zm y kk≤1000000000000000:=by
 have hB:bB=4503599627370496:=rfl
 have h6:10 ^ kk≤10 ^ 6:=Nat.pow_le_pow_right (by decide) hk
 have h6':(10:Nat) ^ 6=1000000:=by decide
 obtain⟨t1,t2⟩:=J3E (n:=10 ^ kk) (by omega)
 obtain⟨q1,q2⟩:=J3E (n:=1000000000000000) (by omega)
 have hs:=J2C hy
 rw[Jgd.2]at hs
 have hp:0<pw 1074:=JfU 1074
 have hm:svF y*svF (Jo ((10 ^ kk:Nat):Int))≤svF (Jo ((1000000000000000:Nat):Int))*pw 1074:=by
  rw[t2,q2]
  generalize pw 1074=P at *
  rw[←Nat.mul_assoc]
  refine Nat.mul_le_mul_right _ ?_
  have a:svF y*10 ^ kk≤(1000000000*P)*1000000:=Nat.mul_le_mul (by omega) (by omega)
  omega
 obtain⟨p,ep,hpr⟩:=JmF (by have:=Jgd.1;omega) t1 q1 hm
 have e:J3Q y kk=p:=by unfold J3Q;rw[ep];rfl
 refine⟨by rw[e];exact ep,by rw[e];omega,?_⟩
 unfold Zm
 rw[e]
 have:=Jbe hpr
 have e2:wlF (Jo ((1000000000000000:Nat):Int))=1000000000000000:=by
  unfold wlF
  rw[q2,Nat.mul_div_cancel _ hp]
 omega
def J2N(y kk n:Nat): Bool:=decide (n / 10 ^ kk≤999999999)&&decide (y=quN n kk)
def J5I(y kk:Nat): Nat->Nat->Option Nat
 |0,_=>none
 |c+1,n=>bif J2N y kk n then some n else J5I y kk c (n+1)
def J5Z(y kk:Nat): Option Nat:=J5I y kk (Zm y kk+2-(Zm y kk-1)) (Zm y kk-1)
def wrL(y:Nat): Nat->Nat->Option (Nat×Nat)
 |0,_=>none
 |c+1,kk=>match J5Z y kk with
  |some n=>some (kk,n)
  |none=>wrL y c (kk+1)
def wrK{R:Type}(s:List UInt8)(K:List UInt8->Bool->Option R): Option (Nat×Nat)->Option R
 |some (kk,n)=>K (s++Zs n kk) true
 |none=>K [] false
def wrS(y:Nat): Option (Nat×Nat):=bif decide (r9≤y)then none else wrL y 7 0
def sgT(mi:Bool): List UInt8:=bif mi then[45]else[]
theorem JJc{n kk:Nat}(hk:kk≤6)(hn:n≤JD): quN n kk≤fI:=by
 rw[←JuQ hk hn]
 refine(JfA ?_).2
 by_cases h0:0<kk
 ·rw[J1 h0,cond_true,(J8x h0 (JaR n kk) (Nat.le_trans (Nat.mod_le _ _) hn)).1];exact hk
 ·rw[J2 h0,cond_false];simp
theorem JIt{n kk:Nat}(hk:kk≤6)(hn:n≤JD): (Zs n kk).length≤30:=by
 have h1:=Jfn (n / 10 ^ kk) (Nat.le_trans (Nat.div_le_self _ _) hn)
 unfold Zs
 by_cases h0:0<kk
 ·rw[J1 h0,cond_true,List.length_append,List.length_cons,(J8x h0 (JaR n kk) (Nat.le_trans (Nat.mod_le _ _) hn)).1];omega
 ·rw[J2 h0,cond_false,List.length_append,List.length_nil];omega
section
variable {R:Type} (k:Nat) (hk:5000<k)
include hk
omit hk in
theorem JHL{n:Nat}(h:n≤JD): IntKind.i64.wrap (n:Int)=(n:Int):=by
 have hM:JD=4611686018427387904:=rfl
 exact J8 (by omega) (by omega)
theorem JuT{y:Nat}(hy:y<fI)(mi:Bool){n kk:Nat}(hkk:kk≤6)(hn:n≤JD)(s:List UInt8)(hs:s=sgT mi++Zs n kk)(K:Option R)(E:Option R):
 Ui k s (fun v ok=>bif ok == true then Y7 k (JK mi y) v (fun b=>bif b then K else E)else E)=bif J2N y kk n then K else E:=by
 subst hs
 have hl:=JIt hkk hn
 have hq:=JJc hkk hn
 have hF:fW=9223372036854775808:=rfl
 have hI:fI=9218868437227405312:=rfl
 have hsl:(sgT mi).length≤1:=by cases mi<;>decide
 rw[JiW k _ (by rw[List.length_append];omega) hk]
 have hr:=JJ9 hkk hn mi
 have e0:sgT mi=bif mi then[45]else[]:=rfl
 rw[e0,hr]
 unfold J2N
 cases decide (n / 10 ^ kk≤999999999)with
 |false=>rfl
 |true =>
  rw[cond_true,Bool.true_and]
  have ev:(bif mi then Ul (quN n kk)else quN n kk)=JK mi (quN n kk):=by
   cases mi with
   |false=>rfl
   |true=>exact Jaq (by omega)
  rw[ev]
  simp only[rdK,beq_self_eq_true,cond_true]
  rw[JHJ k hy hq]
omit hk in
theorem JJd{kk:Nat}: (((10 ^ kk:Nat):Int) != 0)=true:=by
 have:0<10 ^ kk:=Nat.pow_pos (by decide)
 have:((10 ^ kk:Nat):Int)≠0:=by omega
 simpa using this
theorem JsK{y:Nat}(hy:y<fI)(mi:Bool){kk:Nat}(hkk:kk≤6)(a:Nat)(ha:a≤1000000000000000)(J:Nat->List UInt8->Nat->Int->Option R)(K:List UInt8->Bool->Option R): ∀(c n m:Nat),n+c=a+2->c<m ->
 J30 k (@Ui k) (@YS k) (@Y7 k) (@U9 k) (@Ub k) (@Zz k) (@Yz k) (@Zc k) J m (JK mi y) (sgT mi) y (kk:Int) (a:Int) (n:Int) K =
  match J5I y kk c n with|some n'=>K (sgT mi++Zs n' kk) true|none=>J (JK mi y) (sgT mi) y ((kk+1:Nat):Int)
 |c,n,0,_,h=>by omega
 |0,n,m+1,hc,hm=>by
  rw[J30,JcQ,J8 (by omega) (by omega),J2 (by omega),cond_false,J8 (by omega) (by omega),show(kk:Int)+1=((kk+1:Nat):Int) by omega];rfl
 |c+1,n,m+1,hc,hm=>by
  have hM:JD=4611686018427387904:=rfl
  have hn:n≤JD:=by omega
  have ih:=JsK hy mi hkk a ha J K c (n+1) m (by omega) (by omega)
  have hne:=@JJd kk
  have d1:Int.tdiv (n:Int) ((10 ^ kk:Nat):Int)=((n / 10 ^ kk:Nat):Int):=rfl
  have d2:Int.tmod (n:Int) ((10 ^ kk:Nat):Int)=((n % 10 ^ kk:Nat):Int):=rfl
  have hdl:n / 10 ^ kk≤n:=Nat.div_le_self _ _
  have hml:n % 10 ^ kk≤n:=Nat.mod_le _ _
  have hq1:n / 10 ^ kk≤JD:=Nat.le_trans hdl hn
  have hq2:n % 10 ^ kk≤JD:=Nat.le_trans hml hn
  have hl1:=Jfn (n / 10 ^ kk) hq1
  have hsl:(sgT mi).length≤1:=by cases mi<;>decide
  have en:IntKind.i64.wrap ((n:Int)+1)=((n+1:Nat):Int):=by rw[J8 (by omega) (by omega)];omega
  rw[J30,JcQ,J8 (x:=(a:Int)+1) (by omega) (by omega),J1 (by omega),cond_true,Jb4 k kk (by omega) (by omega),hne,cond_true,d1,JHL hq1,Jaw k _ hq1 (by omega),J5A (by omega),cond_true,en,J5I]
  by_cases h0:0<kk
  ·have hfl:=(J8x h0 (JaR n kk) hq2).1
   have ec:(sgT mi++Qq (n / 10 ^ kk))++([46]++Yi (n % 10 ^ kk) kk)=sgT mi++Zs n kk:=by
    unfold Zs;rw[J1 h0,cond_true,List.append_assoc];rfl
   rw[J1 (show(kk:Int)>0 by omega),cond_true,Jb4 k kk (by omega) (by omega),hne,cond_true,d2,JuS k _ kk hq2 (by omega) (by omega),J5A (by simp;omega),cond_true,J5A (by simp;omega),cond_true]
   rw[JuT k hk hy mi hkk hn _ ec,ec]
   cases J2N y kk n with
   |true=>rfl
   |false=>exact ih
  ·have hk0:kk=0:=by omega
   have ec:sgT mi++Qq (n / 10 ^ kk)=sgT mi++Zs n kk:=by
    unfold Zs;rw[J2 h0,cond_false,List.append_nil]
   rw[J2 (show ¬ (kk:Int)>0 by omega),cond_false,JuT k hk hy mi hkk hn _ ec,ec]
   cases J2N y kk n with
   |true=>rfl
   |false=>exact ih
omit hk in
theorem JJS(a:Nat)(ha:a≤1000000000000000): (@ite (@Kd.T kI) ((0:Int)>IntKind.i64.wrap ((a:Int)-1)) (Int.decLt (IntKind.i64.wrap ((a:Int)-1)) (0:Int)) (0:Int) (IntKind.i64.wrap ((a:Int)-1)))=((a-1:Nat):Int):=by
 rw[J8 (by omega) (by omega)]
 show(if(0:Int)>(a:Int)-1 then(0:Int)else(a:Int)-1)=_
 split<;>omega
theorem JsL{y:Nat}(hy:y<r9)(mi:Bool)(K:List UInt8->Bool->Option R): ∀(c kk m:Nat),kk+c=7->c<m ->
 J4i k (@Ui k) (@YS k) (@Y7 k) (@U9 k) (@Ub k) (@Zz k) (@Yz k) (@Zc k) m (JK mi y) (sgT mi) y (kk:Int) K=wrK (sgT mi) K (wrL y c kk)
 |c,kk,0,_,h=>by omega
 |0,kk,m+1,hc,hm=>by
  rw[J4i,J9t,J2 (by omega),cond_false];rfl
 |c+1,kk,m+1,hc,hm=>by
  obtain⟨e1,e2,e3⟩:=JIs hy (show kk≤6 by omega)
  have hr9:=Jgd.1
  have hnr:wlF (J3Q y kk)=Zm y kk:=rfl
  obtain⟨f1,f2⟩:=JlP e2 (by rw[hnr];omega)
  rw[hnr]at f2
  rw[J4i,J9t,J1 (by omega),cond_true,Jb4 k kk (by omega) (by omega)]
  simp only[e1,Option.isSome_some,Option.getD_some,f1,f2,cond_true,JJS _ e3]
  rw[JsK k hk (by omega) mi (by omega) (Zm y kk) e3 _ K (Zm y kk+2-(Zm y kk-1)) (Zm y kk-1) k (by omega) (by omega),wrL]
  have ht:J5Z y kk=J5I y kk (Zm y kk+2-(Zm y kk-1)) (Zm y kk-1):=rfl
  rw[←ht]
  cases J5Z y kk with
  |some n=>rfl
  |none=>exact JsL hy mi K c (kk+1) m (by omega) (by omega)
theorem JH4{y:Nat}(h:y<fI)(mi:Bool)(K:List UInt8->Bool->Option R): J3e k (JK mi y) K=wrK (sgT mi) K (wrS y):=by
 obtain⟨s,⟨p1,p2,p3⟩,hs⟩:=JHK (R:=R) k (by omega) h mi
 have hr9:=Jgd.1
 have h9:Jo ((10 ^ 9:Nat):Int)=r9:=by decide +kernel
 have hg:Jr .geq y r9=decide (r9≤y):=JuL h hr9
 have t9:∀ K:Int->Option R,YS k 9 K=K ((10 ^ 9:Nat):Int):=fun K=>Jb4 k 9 (by omega) (by omega) K
 unfold J3e J7B
 rw[hs,p1,p2,p3]
 simp only[cond_false]
 rw[J5s k (by omega)]
 simp only[Jmn k (Nat.le_of_lt h),t9,h9,hg]
 unfold wrS
 by_cases hb:r9≤y
 ·simp only[J1 hb,cond_true]
  cases mi<;>rfl
 ·simp only[J2 hb,cond_false]
  have e:=JsL k hk (show y<r9 by omega) mi K 7 0 k rfl (by omega)
  cases mi with
  |false=>exact e
  |true=>exact e
end
end
section
open Go
section
variable {R:Type} (k:Nat) (hk:5000<k)
include hk
end
end
section
open Go
def UW(x:Nat): Bool:=decide (fI<x % fW)
theorem J8F{x:Nat}(h:x<2 ^ 64): UW x=true∨∃ mi y,x=JK mi y∧y≤fI∧UW x=false:=by
 have hI:fI=9218868437227405312:=rfl
 have hF:fW=9223372036854775808:=rfl
 have h64:(2:Nat) ^ 64=18446744073709551616:=by decide
 unfold UW
 by_cases hn:fI<x % fW
 ·exact .inl (J1 hn)
 ·right
  by_cases hx:x<fW
  ·exact⟨false,x,rfl,by rw[Nat.mod_eq_of_lt hx]at hn;omega,J2 hn⟩
  ·have he:x % fW=x-fW:=by rw[Nat.mod_eq_sub_mod (by omega),Nat.mod_eq_of_lt (by omega)]
   refine⟨true,x-fW,?_,by omega,J2 hn⟩
   show x=(x-fW)+fW
   omega
theorem JIu{x:Nat}(h:UW x=true)(hx:x<2 ^ 64)(y:Nat): QW x y=none∧QW y x=none:=by
 have hI:fI=9218868437227405312:=rfl
 have hF:fW=9223372036854775808:=rfl
 have hW:Ieee.double.signWeight=9223372036854775808:=Jbd
 have hB:Ieee.double.binade=bB:=J8L
 have hR:Ieee.double.infRung=9218868437227405312:=J3y
 have hbB:bB=4503599627370496:=rfl
 have h:=of_decide_eq_true h
 have hr:∃ s t,Ieee.double.read x = .nan s t:=by
  unfold Ieee.Format.read
  rw[hW,hB,hR]
  dsimp only
  rw[hF]at h
  rw[if_neg (by omega),if_neg (by omega),if_neg (by omega)]
  exact⟨_,_,rfl⟩
 obtain⟨s,t,hr⟩:=hr
 refine⟨by rw[J0v,hr];rfl,?_⟩
 rw[J0v,hr]
 cases Ieee.double.read y<;>rfl
theorem JuU{x:Nat}(h:UW x=true)(hx:x<2 ^ 64): Jr .neq x x=true:=by
 unfold Jr;simp only[(JIu h hx x).1];rfl
theorem JuV{m1 m2:Bool}{a b:Nat}(ha:a≤fI)(hb:b≤fI)(h:JK m1 a=JK m2 b): m1=m2∧a=b:=by
 have hI:fI=9218868437227405312:=rfl
 have hF:fW=9223372036854775808:=rfl
 cases m1<;>cases m2
 ·exact⟨rfl,h⟩
 ·have h:a=b+fW:=h
  omega
 ·have h:a+fW=b:=h
  omega
 ·have h:a+fW=b+fW:=h
  exact⟨rfl,by omega⟩
theorem JIv{m1 m2:Bool}{a b:Nat}(ha:a≤fI)(hb:b≤fI): QW (JK m1 a) (JK m2 b)=some (if m1=m2 then(if a=b then .eq else if decide (a<b) != m1 then .lt else .gt)else(if a=0∧b=0 then .eq else if m1 then .lt else .gt)):=by
 by_cases hm:m1=m2
 ·subst hm
  rw[if_pos rfl]
  rcases Nat.lt_or_ge a fI with h1|h1
  ·exact JuR h1 hb m1
  ·have:a=fI:=by omega
   subst this
   rcases Nat.lt_or_ge b fI with h2|h2
   ·rw[J0v,J5r,J3s h2,if_neg (by omega),J2 (by omega)]
    cases m1<;>rfl
   ·have:b=fI:=by omega
    subst this
    rw[J0v,J5r,if_pos rfl]
    cases m1<;>rfl
 ·rw[if_neg hm,J0v]
  have mgp:∀ {z:Nat},z≠0->0<mgF z:=by
   intro z hz
   unfold mgF
   split
   ·omega
   ·have:0<bB:=by decide
    omega
  have mg0:mgF 0=0:=rfl
  rcases Nat.lt_or_ge a fI with h1|h1
  ·rcases Nat.lt_or_ge b fI with h2|h2
   ·rw[J3s h1,J3s h2]
    unfold Ieee.Datum.order
    dsimp only
    generalize (-1074+(exF a:Int)-min (-1074+(exF a:Int)) (-1074+(exF b:Int))).toNat=u
    generalize (-1074+(exF b:Int)-min (-1074+(exF a:Int)) (-1074+(exF b:Int))).toNat=v
    have pa:a=0∨0<mgF a*2 ^ u:=by
     by_cases h0:a=0
     ·exact .inl h0
     ·exact .inr (Nat.mul_pos (mgp h0) (Nat.pow_pos (by decide)))
    have pb:b=0∨0<mgF b*2 ^ v:=by
     by_cases h0:b=0
     ·exact .inl h0
     ·exact .inr (Nat.mul_pos (mgp h0) (Nat.pow_pos (by decide)))
    have za:a=0->mgF a*2 ^ u=0:=fun h=>by rw[h,mg0,Nat.zero_mul]
    have zb:b=0->mgF b*2 ^ v=0:=fun h=>by rw[h,mg0,Nat.zero_mul]
    cases m1<;>cases m2
    ·exact absurd rfl hm
    ·rw[J2D,J8V,J2q]
     generalize mgF a*2 ^ u=p at *
     generalize mgF b*2 ^ v=q at *
     congr 1
     by_cases hz:a=0∧b=0
     ·have:=za hz.1;have:=zb hz.2
      rw[if_pos hz,if_neg (by omega),if_pos (by omega)]
     ·rw[if_neg hz,if_neg (by omega),if_neg (by omega)];rfl
    ·rw[J8V,J2D,J2q]
     generalize mgF a*2 ^ u=p at *
     generalize mgF b*2 ^ v=q at *
     congr 1
     by_cases hz:a=0∧b=0
     ·have:=za hz.1;have:=zb hz.2
      rw[if_pos hz,if_neg (by omega),if_pos (by omega)]
     ·rw[if_neg hz,if_pos (by omega)];rfl
    ·exact absurd rfl hm
   ·have:b=fI:=by omega
    subst this
    rw[J3s h1,J5r,if_neg (show ¬ (a=0∧fI=0)from fun q=>absurd q.2 (by decide))]
    cases m1<;>cases m2<;>first|rfl|exact absurd rfl hm
  ·have:a=fI:=by omega
   subst this
   have hI:fI=9218868437227405312:=rfl
   rcases Nat.lt_or_ge b fI with h2|h2
   ·rw[J5r,J3s h2,if_neg (by omega)]
    cases m1<;>cases m2<;>first|rfl|exact absurd rfl hm
   ·have:b=fI:=by omega
    subst this
    rw[J5r,J5r,if_neg (by omega)]
    cases m1<;>cases m2<;>first|rfl|exact absurd rfl hm
def J99(m1 m2:Bool)(a b:Nat): Int:=if m1=m2 then(if a=b then 0 else bif decide (a<b) != m1 then -1 else 1)else bif m1 then -1 else 1
theorem JH5(k:Nat){R:Type}{m1 m2:Bool}{a b:Nat}(ha:a≤fI)(hb:b≤fI)(K:Int->Option R): Yy k (JK m1 a) (JK m2 b) K=K (J99 m1 m2 a b):=by
 unfold Yy J7x
 rw[J8o k ha,J8o k hb]
 have hc:=JIv (m1:=m1) (m2:=m2) ha hb
 have hs:∀ a:Int,(a != a)=false:=fun a=>by simp
 unfold J99
 by_cases h:plc m1 a=plc m2 b
 ·rw[h,hs,cond_false]
  have h2:(plc m2 b == 2)=false:=by unfold plc;split<;>cases m2<;>rfl
  rw[h2,cond_false]
  by_cases h0:b=0
  ·have e0:plc m2 b=0:=by unfold plc;rw[if_pos h0]
   have ha0:a=0:=by
    rw[e0]at h
    unfold plc at h
    by_cases hx0:a=0
    ·exact hx0
    ·rw[if_neg hx0]at h;cases m1<;>cases h
   rw[e0,show((0:Int) != 0)=false from rfl,cond_false,J5s k ha,J5s k hb]
   by_cases hm:m1=m2
   ·subst hm
    rw[show(m1 == m1)=true from by simp,cond_true,if_pos rfl,if_pos (by omega)]
   ·have:(m1 == m2)=false:=by simpa using hm
    rw[this,cond_false,if_neg hm]
    cases m1<;>rfl
  ·have e0:(plc m2 b != 0)=true:=by unfold plc;rw[if_neg h0];cases m2<;>rfl
   have hm:m1=m2:=by
    unfold plc at h
    rw[if_neg h0]at h
    by_cases hx0:a=0
    ·rw[if_pos hx0]at h;cases m2<;>cases h
    ·rw[if_neg hx0]at h
     cases m1<;>cases m2<;>first|rfl|cases h
   subst hm
   rw[e0,cond_true]
   unfold J1W Jc9 J4b Jcv
   rw[J2r ha,J2r hb]
   simp only[cond_false]
   have e1:Jr .lss (JK m1 a) (JK m1 b)=(QW (JK m1 a) (JK m1 b) == some .lt):=rfl
   have e2:Jr .gtr (JK m1 a) (JK m1 b)=(QW (JK m1 a) (JK m1 b) == some .gt):=rfl
   rw[e1,e2,hc]
   simp only[eq_self,if_true]
   by_cases hab:a=b
   ·simp only[if_pos hab];rfl
   ·simp only[if_neg hab]
    cases decide (a<b) != m1<;>rfl
 ·have hn:(plc m1 a != plc m2 b)=true:=by simpa using h
  rw[hn,cond_true]
  unfold J35 Jd7 J4N JdU
  simp only[hs,cond_false]
  unfold plc at h ⊢
  by_cases ha0:a=0<;>by_cases hb0:b=0<;>simp only[ha0,hb0,if_true,if_false]at h ⊢
  ·exact absurd trivial h
  ·cases m1<;>cases m2<;>simp[hb0,Ne.symm hb0,Nat.pos_of_ne_zero hb0]
  ·cases m1<;>cases m2<;>simp[ha0]
  ·cases m1<;>cases m2<;>first|exact absurd rfl h|rfl
theorem Jln(k:Nat){R:Type}{x:Nat}(h:UW x=true)(hx:x<2 ^ 64)(K:Int->Option R): J3c k x K=K 2:=by
 unfold J3c Jj0 QO J1v
 rw[JuU h hx];rfl
theorem JuW(k:Nat){R:Type}(a b:Int)(K:Int->Option R): J35 k a b K=bif decide (a<b)then K (-1)else bif decide (a>b)then K 1 else K 0:=by
 unfold J35 Jd7 J4N JdU
 have hs:∀ a:Int,(a != a)=false:=fun a=>by simp
 simp only[hs,cond_false]
theorem JvD(mi:Bool)(x:Nat): plc mi x≤1∧plc mi x≠2:=by unfold plc;split<;>cases mi<;>decide
theorem JH6(k:Nat){R:Type}{x y:Nat}(h:UW x=true)(hx:x<2 ^ 64)(hy:y<2 ^ 64)(K:Int->Option R): Yy k x y K=K (bif UW y then 0 else 1):=by
 unfold Yy J7x
 rw[Jln k h hx]
 rcases J8F hy with hn|⟨mi,z,rfl,hz,hn⟩
 ·rw[Jln k hn hy,hn];rfl
 ·rw[J8o k hz,hn]
  obtain⟨p1,p2⟩:=JvD mi z
  have:((2:Int) != plc mi z)=true:=by simpa using (Ne.symm p2)
  rw[this,cond_true,JuW,J2 (by omega),J1 (by omega)];rfl
theorem JGg(k:Nat){R:Type}{x y:Nat}(h:UW x=false)(hx:x<2 ^ 64)(hn:UW y=true)(hy:y<2 ^ 64)(K:Int->Option R): Yy k x y K=K (-1):=by
 unfold Yy J7x
 rcases J8F hx with hn'|⟨mi,z,rfl,hz,_⟩
 ·rw[hn']at h;cases h
 ·rw[J8o k hz,Jln k hn hy]
  obtain⟨p1,p2⟩:=JvD mi z
  have:(plc mi z != 2)=true:=by simpa using p2
  rw[this,cond_true,JuW,J1 (by omega)];rfl
def UK(x y:Nat): Int:=bif UW x then(bif UW y then 0 else 1)else bif UW y then -1 else J99 (decide (fW≤x)) (decide (fW≤y)) (x % fW) (y % fW)
theorem J5J{mi:Bool}{y:Nat}(h:y≤fI): decide (fW≤JK mi y)=mi∧JK mi y % fW=y:=by
 have hI:fI=9218868437227405312:=rfl
 have hF:fW=9223372036854775808:=rfl
 cases mi with
 |false=>exact⟨(J2 (show ¬ fW≤y by omega):decide (fW≤y)=false),(Nat.mod_eq_of_lt (by omega):y % fW=y)⟩
 |true=>exact⟨(J1 (show fW≤y+fW by omega):decide (fW≤y+fW)=true),by show(y+fW) % fW=y;rw[Nat.add_mod_right,Nat.mod_eq_of_lt (by omega)]⟩
theorem JlQ(k:Nat){R:Type}{x y:Nat}(hx:x<2 ^ 64)(hy:y<2 ^ 64)(K:Int->Option R): Yy k x y K=K (UK x y):=by
 unfold UK
 rcases J8F hx with h1|⟨m1,a,rfl,ha,h1⟩
 ·rw[JH6 k h1 hx hy,h1,cond_true]
 ·rcases J8F hy with h2|⟨m2,b,rfl,hb,h2⟩
  ·rw[JGg k h1 hx h2 hy,h1,h2];rfl
  ·rw[JH5 k ha hb,h1,h2,(J5J ha).1,(J5J ha).2,(J5J hb).1,(J5J hb).2];rfl
theorem Jue(k:Nat){R:Type}{x y:Nat}(hx:x<2 ^ 64)(hy:y<2 ^ 64)(K:Bool->Option R): Y7 k x y K=K (UK x y == 0):=by
 unfold Y7 Jjw
 rw[JlQ k hx hy]
theorem JH7(k:Nat)(hk:5000<k){R:Type}{x:Nat}(hx:x<2 ^ 64): ∃ ok:Bool,(∀ mi y,x=JK mi y->y<fI->ok=(wrS y).isSome)∧∀ K:List UInt8->Bool->Option R,∃ s,J3e k x K=K s ok:=by
 have hI:fI=9218868437227405312:=rfl
 have hF:fW=9223372036854775808:=rfl
 rcases J8F hx with h1|⟨mi,y,rfl,hy,h1⟩
 ·refine⟨true,fun mi y e hy => ?_,fun K=>⟨[110,97,110],?_⟩⟩
  ·exfalso
   rw[e]at h1
   unfold UW at h1
   have:=of_decide_eq_true h1
   rw[(J5J (Nat.le_of_lt hy)).2]at this
   omega
  ·unfold J3e J7B Zz J7O QO J1v
   simp only[JuU h1 hx,cond_true];rfl
 ·rcases Nat.lt_or_ge y fI with hf|hf
  ·refine⟨(wrS y).isSome,fun m2 z e hz => ?_,fun K => ?_⟩
   ·rw[(JuV hy (Nat.le_of_lt hz) e).2]
   ·rw[JH4 k hk hf mi]
    cases wrS y with
    |none=>exact⟨[],rfl⟩
    |some p=>exact⟨_,rfl⟩
  ·have:y=fI:=by omega
   subst this
   refine⟨true,fun m2 z e hz => ?_,fun K=>⟨bif mi then[45,105,110,102]else[105,110,102],?_⟩⟩
   ·have:=(JuV (Nat.le_refl _) (Nat.le_of_lt hz) e).2
    omega
   ·have g1:Jr .gtr (JK false fI) 9218868437227405311=true:=by decide +kernel
    have g2:Jr .gtr (JK true fI) 9218868437227405311=false:=by decide +kernel
    have g3:Jr .gtr (Ul (JK true fI)) 9218868437227405311=true:=by decide +kernel
    unfold J3e J7B Zz J7O QO J1v J0W Ja0
    simp only[J2r (Nat.le_refl fI),cond_false]
    rw[show((1:Int) == 0)=false from rfl,show decide ((1:Int)<0)=false from rfl,show((-1:Int) == 0)=false from rfl,show decide ((-1:Int)<0)=true from rfl]
    cases mi with
    |false=>simp only[cond_false,g1,cond_true];rfl
    |true=>simp only[cond_false,g2,g3,cond_true];rfl
def Yf(x:Nat): Bool:=(wrS x).isSome&&(decide (UK x 0≥0)&&decide (UK x Qw≤0))
theorem JJe{x:Nat}(hx:x<2 ^ 64)(h0:UK x 0≥0)(h1:UK x Qw≤0): x<fI:=by
 have hI:fI=9218868437227405312:=rfl
 have hF:fW=9223372036854775808:=rfl
 have hO:Qw=4607182418800017408:=rfl
 have n0:UW 0=false:=by decide
 have n1:UW Qw=false:=by decide
 unfold UK at h0 h1
 rw[n0]at h0
 rw[n1]at h1
 rcases J8F hx with h|⟨mi,y,rfl,hy,h⟩
 ·rw[h]at h1;simp only[cond_true,cond_false]at h1;exact absurd h1 (by decide)
 ·rw[h,(J5J hy).1,(J5J hy).2]at h0 h1
  have e0:decide (fW≤0)=false:=by decide
  have e1:decide (fW≤Qw)=false:=by decide
  have e2:Qw % fW=Qw:=by decide
  simp only[cond_false,e0,e1,e2]at h0 h1
  unfold J99 at h0 h1
  cases mi with
  |true=>rw[if_neg (by decide)]at h0;simp only[cond_true]at h0;exact absurd h0 (by decide)
  |false =>
   show y<fI
   rw[if_pos rfl]at h1
   by_cases hb:y=Qw
   ·omega
   ·rw[if_neg hb]at h1
    by_cases hc:y<Qw
    ·omega
    ·rw[J2 hc]at h1;exact absurd h1 (by decide)
theorem JIw(k:Nat)(hk:5000<k){R:Type}{x:Nat}(hx:x<2 ^ 64)(K:Bool->Option R): J81 k x K=K (Yf x):=by
 have hO:Qw=4607182418800017408:=rfl
 obtain⟨ok,h1,h2⟩:=JH7 k hk (R:=R) hx
 obtain⟨s,e⟩:=h2 (fun y4 y5=>bif y5 == true then Yy k x 0 (fun y6=>bif decide (y6≥0) == true then Yy k x 4607182418800017408 (fun y7=>K (decide (y7≤0)))else K false)else K false)
 unfold J81 JrB Yf
 refine Eq.trans e ?_
 have o1:∀ K:Int->Option R,Yy k x 0 K=K (UK x 0):=fun K=>JlQ k hx (by decide) K
 have o2:∀ K:Int->Option R,Yy k x 4607182418800017408 K=K (UK x Qw):=fun K=>JlQ k hx (by decide) K
 simp only[o1,o2]
 by_cases a:UK x 0≥0
 ·rw[J1 a]
  by_cases b:UK x Qw≤0
  ·have hf:=JJe hx a b
   rw[h1 false x rfl hf,J1 b]
   cases(wrS x).isSome<;>rfl
  ·rw[J2 b]
   cases ok<;>cases(wrS x).isSome<;>rfl
 ·rw[J2 a]
  cases ok<;>cases(wrS x).isSome<;>rfl
end
section
open Go
theorem JvE(c:UInt8): (bif decide ((c.toNat:Int)<32)then true else(c.toNat:Int) == 127)=ctl c:=by
 have e5:((c.toNat:Int) == 127)=(c == 127):=QA c 127 (by omega)
 have e6:decide ((c.toNat:Int)<32)=decide (c.toNat<32):=by rw[Bool.eq_iff_iff];simp;omega
 rw[e5,e6,Bool.cond_true_left];rfl
theorem Jts{R:Type}(k:Nat)(s:List UInt8)(hs:s.length≤200)(hk:300<k)(K:List UInt8->Bool->Option R): stK s K (stS s k 0)=stK s K (stS s (s.length+1) 0):=by
 rw[JlL s k (s.length+1) 0 (by omega) (by omega) (by omega)]
theorem Jpa(k:Nat){R:Type}(s:List UInt8)(hs:s.length≤200)(hk:300<k)(K:Bool->Option R): ∀(t:List UInt8) (n m:Nat),s.drop n=t->t.length<m->n≤s.length ->
 J4u k m s (s.length:Int) (n:Int) K=K (J2E t&&(!(s == [])&&(Jb3 s&&Jbn s)))
 |t,n,0,_,hm,_=>by omega
 |[],n,m+1,hd,hm,hn=>by
  have:=JE hd
  rw[J4u,Jdl,Jqt k s (by omega) (by omega),Jts k s hs hk]
  simp(disch:=omega)only[J1,J2,Jl,Jh,Jm,Jn,Ja,Jg,J8,Ji,cond_true,cond_false,Bool.not_true,Bool.not_false,Bool.true_or,Bool.or_true,Bool.false_or,Bool.or_false,Bool.true_and,Bool.and_true,Bool.false_and,Bool.and_false,Jk,Jj,Jb]
  have e0:J2E []=true:=rfl
  rw[e0,Bool.true_and]
  unfold Jb3
  cases hst:stS s (s.length+1) 0 with
  |none=>simp only[stK];cases s == []<;>rfl
  |some e =>
   simp only[stK]
   cases h1:s == []with
   |true=>rfl
   |false =>
    cases h2:rt (s.take e) == s with
    |false=>rfl
    |true =>
     simp only[Bool.not_true,Bool.not_false,cond_true,cond_false,Bool.true_and]
     rw[JsD k 0 0 s _ (by omega) (by omega)]
     unfold Jbn
     obtain⟨l,a,b⟩:=U7 0 0 s
     dsimp only
     cases h3:a == 0 with
     |false=>rfl
     |true =>
      match l with
      |[]=>rfl
      |[p] =>
       have e1:((([p]:List Pc).length:Int) == 1)=true:=rfl
       have e2:inb 0 (([p]:List Pc).length:Int)=true:=rfl
       have e3:∀ z,([p]:List Pc).getD (Int.toNat 0) z=p:=fun _=>rfl
       simp only[e1,e2,e3,cond_true,Bool.or_true,Jnl,Bool.true_and]
       cases p.1 == 3<;>cases p.2.2.2.1 == s<;>rfl
      |p::q::r =>
       have e1:(((p::q::r:List Pc).length:Int) == 1)=false:=Jh (by simp;omega)
       simp only[e1,cond_true,cond_false]
       rfl
 |c::r,n,m+1,hd,hm,hn=>by
  obtain⟨hlt,hc,hr⟩:=Jz hd
  rw[J4u,Jdl]
  simp(disch:=omega)only[J1,J2,Jl,Jh,Jm,Jn,Ja,Jg,J8,Ji,cond_true,cond_false,Bool.not_true,Bool.not_false,Bool.true_or,Bool.or_true,Bool.false_or,Bool.or_false,Bool.true_and,Bool.and_true,Bool.false_and,Bool.and_false,Jk,Jj,Jb,hc,JvE,Q4]
  have e0:J2E (c::r)=(!ctl c&&J2E r):=rfl
  rw[e0]
  cases ctl c with
  |true=>rfl
  |false =>
   simp only[cond_false,Bool.not_false,Bool.true_and]
   exact Jpa k s hs hk K r (n+1) m hr (by simp at hm;omega) (by omega)
theorem JD6(k:Nat){R:Type}(s:List UInt8)(hs:s.length≤200)(hk:300<k)(K:Bool->Option R): Ja4 k s K=K (JfV s):=by
 unfold Ja4 JjI
 exact Jpa k s hs hk K s 0 k rfl (by omega) (by omega)
theorem JoT(k:Nat){R:Type}(s:List UInt8)(hs:s.length≤200)(hk:300<k)(K:Bool->Option R): ∀(t:List UInt8) (n m:Nat),s.drop n=t->t.length<m->n≤s.length ->
 J4p k m s (n:Int) K=K (J2E t&&(Jb3 s&&Jbn s))
 |t,n,0,_,hm,_=>by omega
 |[],n,m+1,hd,hm,hn=>by
  have:=JE hd
  rw[J4p,Jd5,JpK k s (by omega) (by omega),Jts k s hs hk]
  simp(disch:=omega)only[J1,J2,Jl,Jh,Jm,Jn,Ja,Jg,J8,Ji,cond_true,cond_false,Bool.not_true,Bool.not_false,Bool.true_or,Bool.or_true,Bool.false_or,Bool.or_false,Bool.true_and,Bool.and_true,Bool.false_and,Bool.and_false,Jk,Jj,Jb]
  have e0:J2E []=true:=rfl
  rw[e0,Bool.true_and]
  unfold Jb3
  cases hst:stS s (s.length+1) 0 with
  |none=>simp only[stK];rw[JjW k 0 0 s _ (by omega) (by omega)];rfl
  |some e =>
   simp only[stK]
   rw[JjW k 0 0 s _ (by omega) (by omega)]
   cases h2:rt (s.take e) == s with
   |false=>rfl
   |true =>
    unfold Jbn
    obtain⟨l,a,b⟩:=U7 0 0 s
    dsimp only
    cases h3:a == 0 with
    |false=>rfl
    |true =>
     match l with
     |[]=>rfl
     |[p] =>
      have e1:((([p]:List Pc).length:Int) == 1)=true:=rfl
      have e2:inb 0 (([p]:List Pc).length:Int)=true:=rfl
      have e3:∀ z,([p]:List Pc).getD (Int.toNat 0) z=p:=fun _=>rfl
      simp only[e1,e2,e3,cond_true,Bool.or_true,Jnl,Bool.true_and]
      cases p.1 == 3<;>cases p.2.2.2.1 == s<;>rfl
     |p::q::r =>
      have e1:(((p::q::r:List Pc).length:Int) == 1)=false:=Jh (by simp;omega)
      simp only[e1,cond_true,cond_false]
      rfl
 |c::r,n,m+1,hd,hm,hn=>by
  obtain⟨hlt,hc,hr⟩:=Jz hd
  rw[J4p,Jd5]
  simp(disch:=omega)only[J1,J2,Jl,Jh,Jm,Jn,Ja,Jg,J8,Ji,cond_true,cond_false,Bool.not_true,Bool.not_false,Bool.true_or,Bool.or_true,Bool.false_or,Bool.or_false,Bool.true_and,Bool.and_true,Bool.false_and,Bool.and_false,Jk,Jj,Jb,hc,JvE,Q4]
  have e0:J2E (c::r)=(!ctl c&&J2E r):=rfl
  rw[e0]
  cases ctl c with
  |true=>rfl
  |false =>
   simp only[cond_false,Bool.not_false,Bool.true_and]
   exact JoT k s hs hk K r (n+1) m hr (by simp at hm;omega) (by omega)
theorem JC1(k:Nat){R:Type}(s:List UInt8)(hs:s.length≤200)(hk:300<k)(K:Bool->Option R): J9U k s K=K (JfV s):=by
 unfold J9U Jjl JfV
 have h0:decide ((s.length:Int)>200)=false:=J2 (by omega)
 rw[h0]
 cases h1:s == []with
 |true=>simp only[cond_true,Bool.not_true,Bool.false_and,Bool.and_false]
 |false =>
  simp only[cond_false,Bool.not_false,Bool.true_and]
  exact JoT k s hs hk K s 0 k rfl (by omega) (by omega)
theorem Jtt(t q:List UInt8): ∀ l:List (List UInt8),Qt t (l++[q])=(Qt t l || (t == q))
 |[]=>by simp[Qt]
 |x::l=>by rw[List.cons_append,Qt,Qt,Jtt t q l,Bool.or_assoc]
theorem Jlo(key t:List UInt8): ∀ es:List (List UInt8×Bool),Yv .bool t (Z2 .bool key true es)=(Yv .bool t es || (t == key))
 |[]=>by
  rw[Z2,Yv,Yv]
  cases t == key<;>rfl
 |(k,x)::r=>by
  rw[Z2]
  cases h1:key == k with
  |true =>
   have:key=k:=by simpa using h1
   subst this
   rw[cond_true,Yv,Yv]
   cases t == key<;>simp
  |false =>
   rw[cond_false,Yv,Yv,Jlo key t r]
   cases h2:t == k with
   |false=>rfl
   |true =>
    have:t=k:=by simpa using h2
    subst this
    have:(t == key)=false:=by
     rw[beq_eq_false_iff_ne]at h1 ⊢
     exact fun e=>h1 e.symm
    rw[this];simp
theorem Jpb(k:Nat){R:Type}(keys:List (List UInt8))(hk:keys.length≤4000)(hq:∀ q∈keys,q.length≤4000)(hk2:5000<k)(K:Bool->Option R): ∀(t:List (List UInt8)) (n m:Nat) (es:List (List UInt8×Bool)) (l:List (List UInt8)),
 keys.drop n=t->t.length<m->n≤keys.length->(∀ q,Yv .bool q es=Qt q l)->J4t k m es keys (keys.length:Int) (n:Int) K=K (J3F l t)
 |t,n,0,es,l,_,hm,_,_=>by omega
 |[],n,m+1,es,l,hd,hm,hn,he=>by
  have:=JE hd
  rw[J4t,Jdf]
  simp(disch:=omega)only[J1,J2,Jl,Jh,Jm,Jn,Ja,Jg,J8,Ji,cond_true,cond_false,Bool.not_true,Bool.not_false,Bool.true_or,Bool.or_true,Bool.false_or,Bool.or_false,Bool.true_and,Bool.and_true,Bool.false_and,Bool.and_false,Jk,Jj,Jb]
  rfl
 |c::r,n,m+1,es,l,hd,hm,hn,he=>by
  obtain⟨hlt,hc,hr⟩:=Jz hd
  have hcl:=hq c (List.mem_of_mem_drop (by rw[hd];simp))
  rw[J4t,Jdf]
  simp(disch:=omega)only[J1,J2,Jl,Jh,Jm,Jn,Ja,Jg,J8,Ji,cond_true,cond_false,Bool.not_true,Bool.not_false,Bool.true_or,Bool.or_true,Bool.false_or,Bool.or_false,Bool.true_and,Bool.and_true,Bool.false_and,Bool.and_false,Jk,Jj,Jb,hc,Q4]
  rw[JjV k c _ (by omega) (by omega),J3F,Jbo]
  cases h1:(c.all sgn && !(c == []))with
  |false=>rfl
  |true =>
   by_cases h2:(c.length:Int)>64
   ·have h3:decide (c.length≤64)=false:=J2 (by omega)
    rw[J1 h2,h3];rfl
   ·have h3:decide (c.length≤64)=true:=J1 (by omega)
    rw[J2 h2,h3]
    simp only[Bool.not_true,cond_false,Jj,Bool.not_false,cond_true,Bool.true_and,he]
    cases h4:Qt c l with
    |true=>rfl
    |false =>
     simp only[cond_false,Bool.not_false,Bool.true_and]
     exact Jpb k keys hk hq hk2 K r (n+1) m _ (l++[c]) hr (by simp at hm;omega) (by omega) (fun q=>by rw[Jlo,he,Jtt])
theorem JD7(k:Nat){R:Type}(keys:List (List UInt8))(hk:keys.length≤4000)(hq:∀ q∈keys,q.length≤4000)(hk2:5000<k)(K:Bool->Option R): Ja3 k keys K=K (J3F [] keys):=by
 unfold Ja3 JjF
 exact Jpb k keys hk hq hk2 K keys 0 k [] [] rfl (by omega) (by omega) (fun _=>rfl)
theorem JpM(k:Nat){R:Type}(s:List UInt8)(hs:s.length≤200)(K:Bool->Option R): ∀(t:List UInt8) (n m:Nat),s.drop n=t->t.length<m->n≤s.length->J4J k m s (n:Int) K=K (t.all sgn)
 |t,n,0,_,hm,_=>by omega
 |[],n,m+1,hd,hm,hn=>by
  have:=JE hd
  rw[J4J,JdP]
  simp(disch:=omega)only[J1,J2,Jl,Jh,Jm,Jn,Ja,Jg,J8,Ji,cond_true,cond_false,Bool.not_true,Bool.not_false,Bool.true_or,Bool.or_true,Bool.false_or,Bool.or_false,Bool.true_and,Bool.and_true,Bool.false_and,Bool.and_false,Jk,Jj,Jb]
  rfl
 |c::r,n,m+1,hd,hm,hn=>by
  obtain⟨hlt,hc,hr⟩:=Jz hd
  rw[J4J,JdP]
  simp(disch:=omega)only[J1,J2,Jl,Jh,Jm,Jn,Ja,Jg,J8,Ji,cond_true,cond_false,Bool.not_true,Bool.not_false,Bool.true_or,Bool.or_true,Bool.false_or,Bool.or_false,Bool.true_and,Bool.and_true,Bool.false_and,Bool.and_false,Jk,Jj,Jb,hc,Q4,Jqr]
  have e:J3N (c.toNat:Int)=sgn c:=rfl
  rw[e,List.all_cons]
  cases sgn c with
  |false=>rfl
  |true =>
   simp only[Bool.not_true,cond_false,Bool.true_and]
   exact JpM k s hs K r (n+1) m hr (by simp at hm;omega) (by omega)
theorem JEn(k:Nat){R:Type}(s:List UInt8)(hk:300<k)(K:Bool->Option R): Jah k s K=K (Jbo s):=by
 unfold Jah Jkm Jbo
 cases h1:s == []with
 |true=>simp only[cond_true,Bool.not_true,Bool.and_false,Bool.false_and]
 |false =>
  by_cases h:s.length>64
  ·have h3:decide (s.length≤64)=false:=J2 (by omega)
   have h4:decide ((s.length:Int)>64)=true:=J1 (by omega)
   rw[h3,h4]
   simp only[cond_false,cond_true,Bool.and_false]
  ·have h3:decide (s.length≤64)=true:=J1 (by omega)
   have h4:decide ((s.length:Int)>64)=false:=J2 (by omega)
   rw[h3,h4]
   simp only[cond_false,Bool.not_false,Bool.and_true]
   exact JpM k s (by omega) K s 0 k rfl (by omega) (by omega)
theorem Jqu(k:Nat){R:Type}(keys:List (List UInt8))(hk:keys.length≤4000)(J:List (List UInt8)->Int->Option R)(K:Bool->Option R)(i:Nat)(c:List UInt8)(hi:i<keys.length)(hc:∀ d,keys.getD i d=c): ∀(t:List (List UInt8)) (n m:Nat),
 (keys.take i).drop n=t->t.length<m->n≤i->J38 k J m keys (i:Int) (n:Int) K=bif Qt c t then K false else J keys (((i:Nat)+1:Nat):Int)
 |t,n,0,_,hm,_=>by omega
 |[],n,m+1,hd,hm,hn=>by
  have h0:=JE hd
  rw[List.length_take]at h0
  rw[J38,Jdr]
  simp(disch:=omega)only[J1,J2,Jl,Jh,Jm,Jn,Ja,Jg,J8,Ji,cond_true,cond_false,Bool.not_true,Bool.not_false,Bool.true_or,Bool.or_true,Bool.false_or,Bool.or_false,Bool.true_and,Bool.and_true,Bool.false_and,Bool.and_false,Jk,Jj,Jb,Q4]
  rfl
 |q::r,n,m+1,hd,hm,hn=>by
  obtain⟨hlt,hq,hr⟩:=Jz hd
  rw[List.length_take]at hlt
  have hq':∀ d,keys.getD n d=q:=by
   intro d
   have:=hq d
   rw[List.getD,List.getElem?_take,if_pos (by omega)]at this
   exact this
  rw[J38,Jdr]
  simp(disch:=omega)only[J1,J2,Jl,Jh,Jm,Jn,Ja,Jg,J8,Ji,cond_true,cond_false,Bool.not_true,Bool.not_false,Bool.true_or,Bool.or_true,Bool.false_or,Bool.or_false,Bool.true_and,Bool.and_true,Bool.false_and,Bool.and_false,Jk,Jj,Jb,Q4,hq',hc]
  rw[Qt]
  have e:(q == c)=(c == q):=by rw[Bool.eq_iff_iff];simp;exact eq_comm
  rw[e]
  cases c == q with
  |true=>rfl
  |false =>
   simp only[cond_false,Bool.false_or]
   exact Jqu k keys hk J K i c hi hc r (n+1) m hr (by simp at hm;omega) (by omega)
theorem Jpc(k:Nat){R:Type}(keys:List (List UInt8))(hk:keys.length≤4000)(hk2:5000<k)(K:Bool->Option R): ∀(t:List (List UInt8)) (n m:Nat),
 keys.drop n=t->t.length<m->n≤keys.length->J39 k m keys (n:Int) K=K (J3F (keys.take n) t)
 |t,n,0,_,hm,_=>by omega
 |[],n,m+1,hd,hm,hn=>by
  have:=JE hd
  rw[J39,J9C]
  simp(disch:=omega)only[J1,J2,Jl,Jh,Jm,Jn,Ja,Jg,J8,Ji,cond_true,cond_false,Bool.not_true,Bool.not_false,Bool.true_or,Bool.or_true,Bool.false_or,Bool.or_false,Bool.true_and,Bool.and_true,Bool.false_and,Bool.and_false,Jk,Jj,Jb]
  rfl
 |c::r,n,m+1,hd,hm,hn=>by
  obtain⟨hlt,hc,hr⟩:=Jz hd
  rw[J39,J9C]
  simp(disch:=omega)only[J1,J2,Jl,Jh,Jm,Jn,Ja,Jg,J8,Ji,cond_true,cond_false,Bool.not_true,Bool.not_false,Bool.true_or,Bool.or_true,Bool.false_or,Bool.or_false,Bool.true_and,Bool.and_true,Bool.false_and,Bool.and_false,Jk,Jj,Jb,hc,Q4]
  rw[JEn k c (by omega),J3F]
  cases h1:Jbo c with
  |false=>rfl
  |true =>
   simp only[Bool.not_true,cond_false,Bool.true_and]
   have:=Jqu k keys hk (fun s0 s1=>J39 k m s0 s1 K) K n c hlt hc (keys.take n) 0 k rfl (by simp;omega) (by omega)
   refine Eq.trans this ?_
   cases h4:Qt c (keys.take n)with
   |true=>rfl
   |false =>
    simp only[cond_false,Bool.not_false,Bool.true_and]
    have e:keys.take n++[c]=keys.take (n+1):=by
     have hg:keys[n]? = some c:=by
      have:=hc []
      rw[List.getD,List.getElem?_eq_getElem hlt]at this
      rw[List.getElem?_eq_getElem hlt]
      exact congrArg some this
     rw[List.take_add_one,hg];rfl
    rw[e]
    exact Jpc k keys hk hk2 K r (n+1) m hr (by simp at hm;omega) (by omega)
theorem JD8(k:Nat){R:Type}(keys:List (List UInt8))(hk:keys.length≤4000)(hk2:5000<k)(K:Bool->Option R): Ja9 k keys K=K (J3F [] keys):=by
 unfold Ja9 JjP
 exact Jpc k keys hk hk2 K keys 0 k rfl (by omega) (by omega)
def okD(x:Nd): Prop:=x.2.2.1.length≤4000∧x.2.2.2.2.1.length≤4000∧x.2.2.2.2.2.length≤4000∧∀ q∈x.2.2.2.2.1,q.length≤4000
theorem Jgq{α : Type}(l:List α)[BEq α]: ((l.length:Int) == 0)=(l == []):=by
 cases l with
 |nil=>rfl
 |cons x r=>exact Jh (by simp<;>omega)
theorem Jwt{α : Type}(l:List α)[BEq α]: decide ((l.length:Int)>0) = !(l == []):=by
 cases l with
 |nil=>rfl
 |cons x r=>exact J1 (by simp<;>omega)
theorem Jwu{a b:Nat}: ((a:Int) == (b:Int))=decide (a=b):=by
 rw[Bool.eq_iff_iff];simp;omega
theorem JFk(k:Nat){R:Type}(x:Nd)(hx:okD x)(hk:5000<k)(K:Bool->Option R): Jam k x.1 x.2.1 x.2.2.1 x.2.2.2.1 x.2.2.2.2.1 x.2.2.2.2.2 K=K (J0F x):=by
 obtain⟨a,ln,t,q,ks,kd⟩:=x
 obtain⟨h1,h2,h3,h4⟩:=hx
 dsimp only at h1 h2 h3 h4
 unfold Jam Jsv J0F
 dsimp only
 rw[Jgq,Jgq,Jwt,Jwu]
 cases a == 1 with
 |true =>
  simp only[cond_true]
  cases ks == []with
  |false=>rfl
  |true =>
   cases kd == []with
   |false=>rfl
   |true =>
    by_cases hl:t.length≤200
    ·rw[J1 hl,J1 (show((t.length:Nat):Int)≤200 by omega)]
     cases q with
     |true=>rfl
     |false =>
      simp only[cond_true,Bool.true_and,Bool.false_or,beq_self_eq_true]
      exact JD6 k t hl (by omega) K
    ·rw[J2 hl,J2 (show ¬ ((t.length:Nat):Int)≤200 by omega)]
     rfl
 |false =>
  simp only[cond_false]
  cases a == 2 with
  |true=>cases ks == []<;>cases kd == []<;>cases t == []<;>cases q<;>rfl
  |false =>
   simp only[cond_false]
   cases a == 3 with
   |false=>rfl
   |true =>
    rw[JD7 k ks h2 h4 hk]
    cases decide (ks.length=kd.length)<;>cases kd == []<;>cases t == []<;>cases q<;>rfl
theorem JD9(k:Nat){R:Type}(x:Nd)(hx:okD x)(hk:5000<k)(K:Bool->Option R): Jaa k x.1 x.2.1 x.2.2.1 x.2.2.2.1 x.2.2.2.2.1 x.2.2.2.2.2 K=K (J0F x):=by
 obtain⟨a,ln,t,q,ks,kd⟩:=x
 obtain⟨h1,h2,h3,h4⟩:=hx
 dsimp only at h1 h2 h3 h4
 unfold Jaa Jr9 J0F
 dsimp only
 rw[Jgq,Jgq,Jwt,Jwu]
 cases a == 1 with
 |true =>
  simp only[cond_true]
  cases ks == []with
  |false=>rfl
  |true =>
   cases kd == []with
   |false=>rfl
   |true =>
    by_cases hl:t.length≤200
    ·rw[J1 hl,J1 (show((t.length:Nat):Int)≤200 by omega)]
     cases q with
     |true=>rfl
     |false =>
      simp only[cond_true,Bool.true_and,Bool.false_or,beq_self_eq_true]
      exact JC1 k t hl (by omega) K
    ·rw[J2 hl,J2 (show ¬ ((t.length:Nat):Int)≤200 by omega)]
     rfl
 |false =>
  simp only[cond_false]
  cases a == 2 with
  |true=>cases ks == []<;>cases kd == []<;>cases t == []<;>cases q<;>rfl
  |false =>
   simp only[cond_false]
   cases a == 3 with
   |false=>rfl
   |true =>
    rw[JD8 k ks h2 hk]
    cases decide (ks.length=kd.length)<;>cases kd == []<;>cases t == []<;>cases q<;>rfl
def Zt:Option Nat->Int
 |none => -1
 |some m=>(m:Int)
theorem Jge{nd:List Nd}{n:Nat}(h:n<nd.length): ∃ x,nd[n]? = some x∧(∀ z,nd.getD n z=x)∧x∈nd:=⟨nd[n],List.getElem?_eq_getElem h,fun z=>by rw[List.getD,List.getElem?_eq_getElem h];rfl,List.getElem_mem _⟩
theorem JpN(k:Nat){R:Type}(X)(nd:List Nd)(hn:nd.length≤4000)(K:Int->Option R)(d:Nat)(hd:d≤100)(w:Nat->Option Nat)(hw:∀(n:Nat) (K:Int->Option R),n≤4001->X R nd (n:Int) ((d+1:Nat):Int) K=K (Zt (w n)))(hm:∀ n m,w n=some m->m≤nd.length)(kids:List Int)(hl:kids.length≤4000):
 ∀(q:List Int) (i n m:Nat),kids.drop i=q->q.length<m->i≤kids.length->n≤4001->J4G k X m (d:Int) nd (n:Int) kids (kids.length:Int) (i:Int) K=K (Zt (Yr w q n))
 |q,i,n,0,_,h,_,_=>by omega
 |[],i,n,m+1,hq,h,hi,hn'=>by
  have:=JE hq
  rw[J4G,JdH]
  simp(disch:=omega)only[J1,J2,Jl,Jh,Jm,Jn,Ja,Jg,J8,Ji,cond_true,cond_false,Bool.not_true,Bool.not_false,Bool.true_or,Bool.or_true,Bool.false_or,Bool.or_false,Bool.true_and,Bool.and_true,Bool.false_and,Bool.and_false,Jk,Jj,Jb]
  rfl
 |c::q,i,n,m+1,hq,h,hi,hn'=>by
  obtain⟨hlt,hc,hr⟩:=Jz hq
  rw[J4G,JdH]
  simp(disch:=omega)only[J1,J2,Jl,Jh,Jm,Jn,Ja,Jg,J8,Ji,cond_true,cond_false,Bool.not_true,Bool.not_false,Bool.true_or,Bool.or_true,Bool.false_or,Bool.or_false,Bool.true_and,Bool.and_true,Bool.false_and,Bool.and_false,Jk,Jj,Jb,hc,Q4]
  rw[Yr]
  have e:(c != (n:Int)) = !(c == (n:Int)):=rfl
  rw[e]
  cases h1:c == (n:Int)with
  |false=>rfl
  |true =>
   have h1:c=(n:Int):=by simpa using h1
   subst h1
   simp only[Bool.not_true,cond_false,cond_true]
   rw[hw n _ hn']
   cases h2:w n with
   |none=>rfl
   |some j =>
    have:=hm n j h2
    have e2:decide (Zt (some j)<0)=false:=J2 (by simp[Zt])
    rw[e2,cond_false]
    exact JpN k X nd hn K d hd w hw hm kids hl q (i+1) j m hr (by simp at h;omega) (by omega) (by omega)
theorem Jrk{R:Type}(nd:List Nd)(hn:nd.length≤4000)(ho:∀ x∈nd,okD x): ∀(f k d n:Nat) (K:Int->Option R),5000+f<k->d+f=25->n≤4001->J0X k R nd (n:Int) (d:Int) K=K (Zt (U4 f nd n))
 |f,0,d,n,K,hk,hd,hn'=>by omega
 |0,k+1,d,n,K,hk,hd,hn'=>by
  rw[J0X]
  unfold Jae
  have e:decide ((d:Int)>24)=true:=J1 (by omega)
  have e2:(bif decide ((n:Int)≥(nd.length:Int))then true else true)=true:=by cases decide ((n:Int)≥(nd.length:Int))<;>rfl
  rw[e,e2]
  rfl
 |f+1,k+1,d,n,K,hk,hd,hn'=>by
  rw[J0X]
  unfold Jae
  have e:decide ((d:Int)>24)=false:=J2 (by omega)
  rw[e,U4]
  by_cases h:n<nd.length
  ·obtain⟨x,hx,hg,hm⟩:=Jge h
   have e3:decide ((n:Int)≥(nd.length:Int))=false:=J2 (by omega)
   have e4:inb (n:Int) (nd.length:Int)=true:=Ja (by omega) (by omega)
   rw[e3,hx]
   simp(disch:=omega)only[J1,J2,Jl,Jh,Jm,Jn,Ja,Jg,J8,Ji,cond_true,cond_false,Bool.not_true,Bool.not_false,Bool.true_or,Bool.or_true,Bool.false_or,Bool.or_false,Bool.true_and,Bool.and_true,Bool.false_and,Bool.and_false,Jk,Jj,Jb,e4,hg]
   rw[JFk k x (ho x hm) (by omega)]
   cases J0F x with
   |false=>rfl
   |true =>
    simp(disch:=omega)only[J1,J2,Jl,Jh,Jm,Jn,Ja,Jg,J8,Ji,cond_true,cond_false,Bool.not_true,Bool.not_false,Bool.true_or,Bool.or_true,Bool.false_or,Bool.or_false,Bool.true_and,Bool.and_true,Bool.false_and,Bool.and_false,Jk,Jj,Jb,Q4]
    obtain⟨_,_,h3,_⟩:=ho x hm
    exact JpN k _ nd hn K d (by omega) (U4 f nd) (fun a K ha=>Jrk nd hn ho f k (d+1) a K (by omega) (by omega) ha) (fun a b hab=>Jfm f nd a b hab) x.2.2.2.2.2 h3 x.2.2.2.2.2 0 (n+1) k rfl (by omega) (by omega) (by omega)
  ·have e3:decide ((n:Int)≥(nd.length:Int))=true:=J1 (by omega)
   rw[e3,List.getElem?_eq_none (by omega)]
   rfl
theorem Jpd(k:Nat){R:Type}(X)(nd:List Nd)(hn:nd.length≤4000)(K:Int->Option R)(d:Nat)(hd:d≤100)(w:Nat->Option Nat)(hw:∀(n:Nat) (K:Int->Option R),n≤4001->X R nd (n:Int) ((d+1:Nat):Int) K=K (Zt (w n)))(hm:∀ n m,w n=some m->m≤nd.length)(j0:Nat)(hj:j0<nd.length)(x:Nd)(hx:∀ z,nd.getD j0 z=x)(hl:x.2.2.2.2.2.length≤4000):
 ∀(q:List Int) (i n m:Nat),x.2.2.2.2.2.drop i=q->q.length<m->i≤x.2.2.2.2.2.length->n≤4001->J4z k X m (j0:Int) (d:Int) nd (n:Int) (i:Int) K=K (Zt (Yr w q n))
 |q,i,n,0,_,h,_,_=>by omega
 |[],i,n,m+1,hq,h,hi,hn'=>by
  have:=JE hq
  rw[J4z,Jds]
  simp(disch:=omega)only[J1,J2,Jl,Jh,Jm,Jn,Ja,Jg,J8,Ji,cond_true,cond_false,Bool.not_true,Bool.not_false,Bool.true_or,Bool.or_true,Bool.false_or,Bool.or_false,Bool.true_and,Bool.and_true,Bool.false_and,Bool.and_false,Jk,Jj,Jb,hx]
  rfl
 |c::q,i,n,m+1,hq,h,hi,hn'=>by
  obtain⟨hlt,hc,hr⟩:=Jz hq
  rw[J4z,Jds]
  simp(disch:=omega)only[J1,J2,Jl,Jh,Jm,Jn,Ja,Jg,J8,Ji,cond_true,cond_false,Bool.not_true,Bool.not_false,Bool.true_or,Bool.or_true,Bool.false_or,Bool.or_false,Bool.true_and,Bool.and_true,Bool.false_and,Bool.and_false,Jk,Jj,Jb,hx,hc,Q4]
  rw[Yr]
  have e:(c != (n:Int)) = !(c == (n:Int)):=rfl
  rw[e]
  cases h1:c == (n:Int)with
  |false=>rfl
  |true =>
   simp only[Bool.not_true,cond_false,cond_true]
   rw[hw n _ hn']
   cases h2:w n with
   |none=>rfl
   |some j =>
    have:=hm n j h2
    have e2:decide (Zt (some j)<0)=false:=J2 (by simp[Zt])
    rw[e2,cond_false]
    exact Jpd k X nd hn K d hd w hw hm j0 hj x hx hl q (i+1) j m hr (by simp at h;omega) (by omega) (by omega)
theorem Jqv{R:Type}(nd:List Nd)(hn:nd.length≤4000)(ho:∀ x∈nd,okD x): ∀(f k d n:Nat) (K:Int->Option R),5000+f<k->d+f=25->n≤4001->J0V k R nd (n:Int) (d:Int) K=K (Zt (U4 f nd n))
 |f,0,d,n,K,hk,hd,hn'=>by omega
 |0,k+1,d,n,K,hk,hd,hn'=>by
  rw[J0V]
  unfold Jab
  have e:decide ((d:Int)>24)=true:=J1 (by omega)
  have e2:(bif decide ((n:Int)≥(nd.length:Int))then true else true)=true:=by cases decide ((n:Int)≥(nd.length:Int))<;>rfl
  rw[e,e2]
  rfl
 |f+1,k+1,d,n,K,hk,hd,hn'=>by
  rw[J0V]
  unfold Jab
  have e:decide ((d:Int)>24)=false:=J2 (by omega)
  rw[e,U4]
  by_cases h:n<nd.length
  ·obtain⟨x,hx,hg,hm⟩:=Jge h
   have e3:decide ((n:Int)≥(nd.length:Int))=false:=J2 (by omega)
   have e4:inb (n:Int) (nd.length:Int)=true:=Ja (by omega) (by omega)
   rw[e3,hx]
   simp(disch:=omega)only[J1,J2,Jl,Jh,Jm,Jn,Ja,Jg,J8,Ji,cond_true,cond_false,Bool.not_true,Bool.not_false,Bool.true_or,Bool.or_true,Bool.false_or,Bool.or_false,Bool.true_and,Bool.and_true,Bool.false_and,Bool.and_false,Jk,Jj,Jb,e4,hg]
   rw[JD9 k x (ho x hm) (by omega)]
   cases J0F x with
   |false=>rfl
   |true =>
    simp(disch:=omega)only[J1,J2,Jl,Jh,Jm,Jn,Ja,Jg,J8,Ji,cond_true,cond_false,Bool.not_true,Bool.not_false,Bool.true_or,Bool.or_true,Bool.false_or,Bool.or_false,Bool.true_and,Bool.and_true,Bool.false_and,Bool.and_false,Jk,Jj,Jb,Q4]
    obtain⟨_,_,h3,_⟩:=ho x hm
    exact Jpd k _ nd hn K d (by omega) (U4 f nd) (fun a K ha=>Jqv nd hn ho f k (d+1) a K (by omega) (by omega) ha) (fun a b hab=>Jfm f nd a b hab) n h x hg h3 x.2.2.2.2.2 0 (n+1) k rfl (by omega) (by omega) (by omega)
  ·have e3:decide ((n:Int)≥(nd.length:Int))=true:=J1 (by omega)
   rw[e3,List.getElem?_eq_none (by omega)]
   rfl
theorem JuX(o:Option Nat)(n:Nat): (Zt o == (n:Int))=(o == some n):=by
 cases o with
 |none=>exact Jh (by simp only[Zt];omega)
 |some m=>rw[Bool.eq_iff_iff];simp[Zt];omega
theorem JDa(k:Nat){R:Type}(nd:List Nd)(hn:nd.length≤4000)(ho:∀ x∈nd,okD x)(hk:5100<k)(K:Int->Option R): Ja5 k nd K=K (bif UF nd then 0 else 1):=by
 unfold Ja5 JqU JeP UF
 by_cases h1:nd.length<1
 ·rw[J1 (show((nd.length:Nat):Int)<1 by omega),J2 (show ¬ 1≤nd.length by omega)];rfl
 ·rw[J2 (show ¬ ((nd.length:Nat):Int)<1 by omega),J1 (show 1≤nd.length by omega)]
  by_cases h2:nd.length>2000
  ·rw[J1 (show((nd.length:Nat):Int)>2000 by omega),J2 (show ¬ nd.length≤2000 by omega)];rfl
  ·rw[J2 (show ¬ ((nd.length:Nat):Int)>2000 by omega),J1 (show nd.length≤2000 by omega)]
   simp only[cond_false,Jj,Bool.not_false,cond_true,Bool.true_and]
   refine Eq.trans (Jrk nd hn ho 24 k 1 0 _ (by omega) (by omega) (by omega)) ?_
   have e:(Zt (U4 24 nd 0) != (nd.length:Int)) = !(Zt (U4 24 nd 0) == (nd.length:Int)):=rfl
   rw[e,JuX]
   cases U4 24 nd 0 == some nd.length<;>rfl
theorem JC2(k:Nat){R:Type}(nd:List Nd)(hn:nd.length≤4000)(ho:∀ x∈nd,okD x)(hk:5100<k)(K:Bool->Option R): J9V k nd K=K (UF nd):=by
 unfold J9V Jqp JeC UF
 by_cases h1:nd.length<1
 ·rw[J2 (show ¬ ((nd.length:Nat):Int)≥1 by omega),J2 (show ¬ 1≤nd.length by omega)];rfl
 ·rw[J1 (show((nd.length:Nat):Int)≥1 by omega),J1 (show 1≤nd.length by omega)]
  by_cases h2:nd.length>2000
  ·rw[J2 (show ¬ ((nd.length:Nat):Int)≤2000 by omega),J2 (show ¬ nd.length≤2000 by omega)];rfl
  ·rw[J1 (show((nd.length:Nat):Int)≤2000 by omega),J1 (show nd.length≤2000 by omega)]
   simp only[cond_true,Jk,Bool.true_and]
   refine Eq.trans (Jqv nd hn ho 24 k 1 0 _ (by omega) (by omega) (by omega)) ?_
   rw[JuX]
end
section
open Go
theorem JuY{nd:List Nd}{f:Nat}: ∀(l:List Int) (n m i:Nat),Yr (U4 f nd) l n=some m->n≤i->i<m->∃ a b,U4 f nd a=some b∧a≤i∧i<b
 |[],n,m,i,h,h1,h2=>by rw[Yr]at h;cases h;omega
 |k::r,n,m,i,h,h1,h2=>by
  rw[Yr]at h
  cases hk:k == (n:Int)with
  |false=>rw[hk]at h;cases h
  |true =>
   rw[hk,cond_true]at h
   cases hw:U4 f nd n with
   |none=>rw[hw]at h;cases h
   |some j =>
    rw[hw]at h
    by_cases hi:j≤i
    ·exact JuY r j m i h hi h2
    ·exact⟨n,j,hw,h1,by omega⟩
theorem JuZ:∀(f:Nat) (nd:List Nd) (n m i:Nat),U4 f nd n=some m->n≤i->i<m->∃ f' m',U4 (f'+1) nd i=some m'
 |0,nd,n,m,i,h,_,_=>by rw[U4]at h;cases h
 |f+1,nd,n,m,i,h,h1,h2=>by
  by_cases hi:i=n
  ·subst hi;exact⟨f,m,h⟩
  ·obtain⟨x,hx,hf,h⟩:=Jfl h
   obtain⟨a,b,e1,e2,e3⟩:=JuY _ _ _ _ h (by omega) h2
   exact JuZ f nd a b i e1 e2 e3
theorem Jv0{nd:List Nd}{f:Nat}: ∀(l:List Int) (n m:Nat),Yr (U4 f nd) l n=some m->∀ y∈l,0≤y∧y<(nd.length:Int)
 |[],n,m,h,y,hy=>by cases hy
 |k::r,n,m,h,y,hy=>by
  rw[Yr]at h
  cases hk:k == (n:Int)with
  |false=>rw[hk]at h;cases h
  |true =>
   rw[hk,cond_true]at h
   cases hw:U4 f nd n with
   |none=>rw[hw]at h;cases h
   |some j =>
    rw[hw]at h
    have h1:=Ju8 f nd n j hw
    have h2:=Jfm f nd n j hw
    have h3:k=(n:Int):=by simpa using hk
    rcases List.mem_cons.1 hy with rfl|hy
    ·omega
    ·exact Jv0 r j m h y hy
def inR(nd:List Nd)(i:Int): Bool:=bif decide (i≥0)then decide (i<(nd.length:Int))else false
def YH(nd:List Nd)(i:Int): Option Nd:=bif inR nd i&&UF nd then nd[i.toNat]? else none
structure At (nd:List Nd) (n:Nat) (x:Nd):Prop where
 lt:n<nd.length
 le:nd.length≤4000
 get:∀ z,nd.getD n z=x
 fit:J0F x=true
 ok:okD x
 kids:∀ y∈x.2.2.2.2.2,0≤y∧y<(nd.length:Int)
theorem Jwv(nd:List Nd)(hn:nd.length≤4000)(ho:∀ x∈nd,okD x)(i:Int): (YH nd i=none∧(inR nd i&&UF nd)=false)∨(inR nd i&&UF nd)=true∧∃ n x,i=((n:Nat):Int)∧YH nd i=some x∧At nd n x:=by
 unfold YH
 cases h:inR nd i&&UF nd with
 |false=>exact .inl ⟨rfl,rfl⟩
 |true =>
  refine .inr ⟨rfl,?_⟩
  rw[Bool.and_eq_true]at h
  obtain⟨h1,h2⟩:=h
  unfold inR at h1
  by_cases h0:i≥0
  ·rw[J1 h0,cond_true]at h1
   have h1:=of_decide_eq_true h1
   have hlt:i.toNat<nd.length:=by omega
   obtain⟨x,e1,e2,e3⟩:=Jge hlt
   unfold UF at h2
   simp only[Bool.and_eq_true,decide_eq_true_eq,beq_iff_eq]at h2
   obtain⟨f',m',hw⟩:=JuZ _ _ _ _ i.toNat h2.2.2 (Nat.zero_le _) hlt
   obtain⟨y,hy,hf,hk⟩:=Jfl hw
   rw[e1]at hy
   injection hy with hy
   subst hy
   exact⟨i.toNat,x,by omega,e1,⟨hlt,hn,e2,hf,ho x e3,Jv0 _ _ _ hk⟩⟩
  ·rw[J2 h0,cond_false]at h1;cases h1
theorem At.inb{nd:List Nd}{n:Nat}{x:Nd}(h:At nd n x): Pvm.inb (n:Int) (nd.length:Int)=true:=Ja (by omega) (by have:=h.lt;omega)
theorem At.fault{R:Type}{k:Nat}{nd:List Nd}{n:Nat}{x:Nd}(h:At nd n x)(kd:Int)(K:Int->Int->Option R): Z7 k nd (n:Int) kd K=K kd x.2.1:=by
 unfold Z7 Jhu
 rw[h.inb,cond_true,Jb,h.get]
theorem At.at{R:Type}{k:Nat}{nd:List Nd}{n:Nat}{x:Nd}(h:At nd n x)(kd:Int)(K:Int->Int->Option R): Y9 k nd (n:Int) kd K=K kd x.2.1:=by
 unfold Y9 JkP
 rw[h.inb,cond_true,Jb,h.get]
theorem At.need{R:Type}{k:Nat}{nd:List Nd}{n:Nat}{x:Nd}(h:At nd n x)(kd:Int)(K:Int->Int->Option R): Uw k nd (n:Int) kd K=bif x.1 != kd then K 11 x.2.1 else K 0 0:=by
 unfold Uw Jot
 rw[h.inb,cond_true,Jb,h.get,h.fault]
theorem At.bare{R:Type}{k:Nat}{nd:List Nd}{n:Nat}{x:Nd}(h:At nd n x)(kd:Int)(K:List UInt8->Int->Int->Option R): J21 k nd (n:Int) kd K=bif x.1 != 1 then K [] 11 x.2.1 else bif x.2.2.2.1 then K [] kd x.2.1 else K x.2.2.1 0 0:=by
 unfold J21 Jou
 rw[h.need,h.inb]
 simp only[cond_true,Jb,h.get,h.fault]
 cases x.1 != 1<;>rfl
def J3G(o:Option Nd)(kd:Int): Int×Int :=
 match o with
 |none=>(11,0)
 |some x=>bif x.1 != kd then(11,x.2.1)else(0,0)
theorem At.rneed{R:Type}{k:Nat}{nd:List Nd}{n:Nat}{x:Nd}(h:At nd n x)(hk:5100<k)(kd:Int)(K:Int->Int->Option R): UA k nd (n:Int) kd K=K (J3G (some x) kd).1 (J3G (some x) kd).2:=by
 unfold UA Jpy J3G
 rw[h.inb,cond_true,Jb,h.get,h.at]
 dsimp only
 cases x.1 != kd<;>rfl
def Yx(t:List UInt8): List (List UInt8)->Nat->Option Nat
 |[],_=>none
 |q::r,i=>bif t == q then some i else Yx t r (i+1)
def J9a:Option Nat->Int
 |some n=>n
 |none => -1
theorem JlR(k:Nat){R:Type}(l:List (List UInt8))(hl:l.length≤4000)(hk:5000<k)(t:List UInt8)(K:Int->Option R): J2R k l t K=K (J9a (Yx t l 0)):=by
 unfold J2R JbH
 have loop:∀(q:List (List UInt8)) (i m:Nat),l.drop i=q->i≤l.length->q.length<m->J1U k m l t (l.length:Int) (i:Int) K=K (J9a (Yx t q i)):=by
  intro q
  induction q with
  |nil =>
   intro i m hd hi hm
   have:=JE hd
   obtain⟨m,rfl⟩:∃ j,m=j+1:=⟨m-1,by simp at hm;omega⟩
   rw[J1U,J9d,J2 (by omega)];rfl
  |cons c r ih =>
   intro i m hd hi hm
   obtain⟨hlt,hc,hr⟩:=Jz hd
   obtain⟨m,rfl⟩:∃ j,m=j+1:=⟨m-1,by simp at hm;omega⟩
   rw[J1U,J9d,Yx]
   simp(disch:=omega)only[J1,J2,Jl,Jh,Jm,Jn,Ja,Jg,J8,Ji,cond_true,cond_false,Bool.not_true,Bool.not_false,Bool.true_or,Bool.or_true,Bool.false_or,Bool.or_false,Bool.true_and,Bool.and_true,Bool.false_and,Bool.and_false,Jk,Jj,Jb,hc,Q4]
   cases t == c with
   |true=>rfl
   |false=>exact ih (i+1) m hr (by omega) (by simp at hm;omega)
 exact loop l 0 k rfl (Nat.zero_le _) (by omega)
theorem Jv1(t:List UInt8): ∀(l:List (List UInt8)) (i:Nat),decide (J9a (Yx t l i)≥0)=Qt t l
 |[],i=>rfl
 |q::r,i=>by
  rw[Yx,Qt]
  cases t == q with
  |true=>simp[J9a]
  |false=>simpa using Jv1 t r (i+1)
theorem JJf(k:Nat){R:Type}(l:List (List UInt8))(hl:l.length≤4000)(hk:5000<k)(t:List UInt8)(K:Bool->Option R): J2Q k l t K=K (Qt t l):=by
 unfold J2Q JgF
 rw[JlR k l hl hk,Jv1]
theorem JmI(t:List UInt8): ∀(l:List (List UInt8)) (i j:Nat),Yx t l i=some j->i≤j∧j<i+l.length
 |[],i,j,h=>by rw[Yx]at h;cases h
 |q::r,i,j,h=>by
  rw[Yx]at h
  cases hq:t == q with
  |true=>rw[hq]at h;cases h;simp
  |false =>
   rw[hq]at h
   have:=JmI t r (i+1) j h
   rw[List.length_cons];omega
def Zn(o:Option Nd)(key:List UInt8): Int×Bool :=
 match o with
 |none=>(0,false)
 |some x=>bif x.1 != 3 then(0,false)else match Yx key x.2.2.2.2.1 0 with
  |none=>(0,false)
  |some j=>(x.2.2.2.2.2.getD j 0,true)
theorem At.keys{nd:List Nd}{n:Nat}{x:Nd}(h:At nd n x): (x.1 != 3)=false->x.2.2.2.2.1.length=x.2.2.2.2.2.length:=by
 intro h3
 have h3:x.1=3:=by simpa using h3
 have hf:=h.fit
 unfold J0F at hf
 rw[h3]at hf
 have e1:((3:Int) == 1)=false:=rfl
 have e2:((3:Int) == 2)=false:=rfl
 have e3:((3:Int) == 3)=true:=rfl
 rw[e1,e2,e3]at hf
 simp only[cond_true,cond_false,Bool.and_eq_true,decide_eq_true_eq]at hf
 exact hf.1
theorem At.sfind{R:Type}{k:Nat}{nd:List Nd}{n:Nat}{x:Nd}(h:At nd n x)(hk:5100<k)(key:List UInt8)(K:Int->Bool->Option R): QZ k nd (n:Int) key K=K (Zn (some x) key).1 (Zn (some x) key).2:=by
 unfold QZ Jox Zn
 rw[h.inb,cond_true,Jb,h.get,JlR k _ h.ok.2.1 (by omega)]
 dsimp only
 cases h3:x.1 != 3 with
 |true=>rfl
 |false =>
  simp only[cond_false]
  cases hi:Yx key x.2.2.2.2.1 0 with
  |none=>rfl
  |some j =>
   have hj:=JmI _ _ _ _ hi
   rw[h.keys h3]at hj
   have e:J9a (some j)=(j:Int):=rfl
   rw[e,J2 (show ¬ (j:Int)<0 by omega),Ja (by omega) (by omega),Jb]
   rfl
theorem Jtu{R:Type}(k:Nat)(hk:5100<k)(key:List UInt8)(x:Nd)(hx:x.2.2.2.2.1.length=x.2.2.2.2.2.length)(hl:x.2.2.2.2.1.length≤4000)(K:Int->Bool->Option R): ∀(q:List (List UInt8)) (i m:Nat),x.2.2.2.2.1.drop i=q->i≤x.2.2.2.2.1.length->q.length<m ->
 J4f k m key x.1 x.2.1 x.2.2.1 x.2.2.2.1 x.2.2.2.2.1 x.2.2.2.2.2 (i:Int) K=match Yx key q i with|none=>K 0 false|some j=>K (x.2.2.2.2.2.getD j 0) true
 |q,i,0,_,_,h=>by omega
 |[],i,m+1,hd,hi,hm=>by
  have:=JE hd
  rw[J4f,JcI,J2 (by omega)];rfl
 |c::r,i,m+1,hd,hi,hm=>by
  obtain⟨hlt,hc,hr⟩:=Jz hd
  rw[J4f,JcI,Yx]
  simp(disch:=omega)only[J1,J2,Jl,Jh,Jm,Jn,Ja,Jg,J8,Ji,cond_true,cond_false,Bool.not_true,Bool.not_false,Bool.true_or,Bool.or_true,Bool.false_or,Bool.or_false,Bool.true_and,Bool.and_true,Bool.false_and,Bool.and_false,Jk,Jj,Jb,hc,Q4]
  have e:(c == key)=(key == c):=by rw[Bool.eq_iff_iff];simp;exact eq_comm
  rw[e]
  cases key == c with
  |true=>rfl
  |false =>
   simp only[cond_false]
   exact Jtu k hk key x hx hl K r (i+1) m hr (by omega) (by simp at hm;omega)
theorem At.rfind{R:Type}{k:Nat}{nd:List Nd}{n:Nat}{x:Nd}(h:At nd n x)(hk:5100<k)(key:List UInt8)(K:Int->Bool->Option R): Q6 k nd (n:Int) key K=K (Zn (some x) key).1 (Zn (some x) key).2:=by
 unfold Q6 JiQ Zn
 rw[h.inb,cond_true,Jb,h.get]
 dsimp only
 cases h3:x.1 != 3 with
 |true=>rfl
 |false =>
  have:=Jtu k hk key x (h.keys h3) h.ok.2.1 K x.2.2.2.2.1 0 k rfl (Nat.zero_le _) (by have:=h.ok.2.1;omega)
  simp only[cond_false]
  refine Eq.trans this ?_
  cases Yx key x.2.2.2.2.1 0<;>rfl
def QT(nd:List Nd)(y:Int): Int :=
 match nd[y.toNat]? with
 |some x=>x.2.1
 |none=>0
def J0d(nd:List Nd)(l:List (List UInt8)): List (List UInt8)->List Int->Int×Int
 |q::r,y::s=>bif Qt q l then J0d nd l r s else(5,QT nd y)
 |_,_=>(0,0)
def J1E(nd:List Nd)(o:Option Nd)(l:List (List UInt8)): Int×Int :=
 match o with
 |none=>(11,0)
 |some x=>bif x.1 != 3 then(11,x.2.1)else J0d nd l x.2.2.2.2.1 x.2.2.2.2.2
theorem Jmo{nd:List Nd}{y:Int}(h:0≤y∧y<(nd.length:Int)): inb y (nd.length:Int)=true∧∀ z,(nd.getD y.toNat z).2.1=QT nd y:=by
 refine⟨Ja h.1 h.2,fun z => ?_⟩
 obtain⟨x,e1,e2,_⟩:=Jge (nd:=nd) (n:=y.toNat) (by omega)
 unfold QT
 rw[e1,e2]
theorem JsM{R:Type}(k:Nat)(nd:List Nd)(hk:5100<k)(l:List (List UInt8))(hll:l.length≤20)(x:Nd)(hx:x.2.2.2.2.1.length=x.2.2.2.2.2.length)(hl:x.2.2.2.2.1.length≤4000)(hy:∀ y∈x.2.2.2.2.2,0≤y∧y<(nd.length:Int))(K:Int->Int->Option R): ∀(q:List (List UInt8)) (s:List Int) (i m:Nat),x.2.2.2.2.1.drop i=q->x.2.2.2.2.2.drop i=s->i≤x.2.2.2.2.1.length->q.length<m ->
 J42 k m l nd 0 0 x.1 x.2.1 x.2.2.1 x.2.2.2.1 x.2.2.2.2.1 x.2.2.2.2.2 x.2.2.2.2.1 (x.2.2.2.2.1.length:Int) (i:Int) K=K (J0d nd l q s).1 (J0d nd l q s).2
 |q,s,i,0,_,_,_,h=>by omega
 |[],s,i,m+1,hd,hs,hi,hm=>by
  have:=JE hd
  rw[J42,JbW,J2 (by omega),J0d]
  ·rfl
  ·intro _ _ _ _ h _;cases h
 |c::r,[],i,m+1,hd,hs,hi,hm=>by
  obtain⟨hlt,hc,hr⟩:=Jz hd
  have:=JE hs
  omega
 |c::r,y::s,i,m+1,hd,hs,hi,hm=>by
  obtain⟨hlt,hc,hr⟩:=Jz hd
  obtain⟨hlt2,hc2,hr2⟩:=Jz hs
  have hyk:=hy y (by
   have:=hc2 0
   rw[List.getD,List.getElem?_eq_getElem hlt2]at this
   rw[←this];exact List.getElem_mem _)
  obtain⟨l1,l2⟩:=Jmo hyk
  rw[J42,JbW,J0d]
  simp(disch:=omega)only[J1,J2,Jl,Jh,Jm,Jn,Ja,Jg,J8,Ji,cond_true,cond_false,Bool.not_true,Bool.not_false,Bool.true_or,Bool.or_true,Bool.false_or,Bool.or_false,Bool.true_and,Bool.and_true,Bool.false_and,Bool.and_false,Jk,Jj,Jb,hc,hc2,Q4]
  rw[JJf k l (by omega) (by omega)]
  cases Qt c l with
  |true =>
   simp only[Bool.not_true,cond_false,cond_true]
   exact JsM k nd hk l hll x hx hl hy K r s (i+1) m hr hr2 (by omega) (by simp at hm;omega)
  |false =>
   simp only[Bool.not_false,cond_true,cond_false]
   unfold Z7 Jhu
   rw[l1,cond_true,l2]
theorem At.sknown{R:Type}{k:Nat}{nd:List Nd}{n:Nat}{x:Nd}(h:At nd n x)(hk:5100<k)(l:List (List UInt8))(hll:l.length≤20)(K:Int->Int->Option R): QM k nd (n:Int) l K=K (J1E nd (some x) l).1 (J1E nd (some x) l).2:=by
 unfold QM Jhx J1E
 rw[h.need,h.inb,Jb,h.get]
 dsimp only
 cases h3:x.1 != 3 with
 |true=>rfl
 |false=>exact JsM k nd hk l hll x (h.keys h3) h.ok.2.1 h.kids K _ _ 0 k rfl rfl (Nat.zero_le _) (by have:=h.ok.2.1;omega)
theorem Juf {R:Type} (k:Nat) (nd:List Nd) (hk:5100<k) (l:List (List UInt8)) (hll:l.length≤20) (x:Nd) (i:Nat) (hi:i<x.2.2.2.2.1.length) (hl:x.2.2.2.2.1.length≤4000) (c:List UInt8) (hc:∀ d,x.2.2.2.2.1.getD i d=c) (y:Int) (hx:i<x.2.2.2.2.2.length) (hc2:∀ d,x.2.2.2.2.2.getD i d=y) (hyk:0≤y∧y<(nd.length:Int))
 (J) (K:Int->Int->Option R):∀(q:List (List UInt8)) (j m:Nat) (b:Bool),l.drop j=q->j≤l.length->q.length<m ->
 J2Y k J m l nd 0 0 x.1 x.2.1 x.2.2.1 x.2.2.2.1 x.2.2.2.2.1 x.2.2.2.2.2 (i:Int) b (j:Int) K=bif b || Qt c q then J l nd 0 0 x.1 x.2.1 x.2.2.1 x.2.2.2.1 x.2.2.2.2.1 x.2.2.2.2.2 ((i+1:Nat):Int)else K 5 (QT nd y)
 |q,j,0,b,_,_,h=>by omega
 |[],j,m+1,b,hd,hj,hm=>by
  have:=JE hd
  obtain⟨l1,l2⟩:=Jmo hyk
  rw[J2Y,Jct]
  simp(disch:=omega)only[J1,J2,Jl,Jh,Jm,Jn,Ja,Jg,J8,Ji,cond_true,cond_false,Bool.not_true,Bool.not_false,Bool.true_or,Bool.or_true,Bool.false_or,Bool.or_false,Bool.true_and,Bool.and_true,Bool.false_and,Bool.and_false,Jk,Jj,Jb,hc,hc2,Q4,Qt]
  unfold Y9 JkP
  rw[l1,cond_true,l2]
  cases b<;>rfl
 |p::r,j,m+1,b,hd,hj,hm=>by
  obtain⟨hlt,hp,hr⟩:=Jz hd
  rw[J2Y,Jct]
  simp(disch:=omega)only[J1,J2,Jl,Jh,Jm,Jn,Ja,Jg,J8,Ji,cond_true,cond_false,Bool.not_true,Bool.not_false,Bool.true_or,Bool.or_true,Bool.false_or,Bool.or_false,Bool.true_and,Bool.and_true,Bool.false_and,Bool.and_false,Jk,Jj,Jb,hc,hc2,hp,Q4,Qt]
  rw[Juf k nd hk l hll x i hi hl c hc y hx hc2 hyk J K r (j+1) m _ hr (by omega) (by simp at hm;omega)]
  have e:(p == c)=(c == p):=by rw[Bool.eq_iff_iff];simp;exact eq_comm
  rw[e]
  cases b<;>cases c == p<;>rfl
theorem Jtv{R:Type}(k:Nat)(nd:List Nd)(hk:5100<k)(l:List (List UInt8))(hll:l.length≤20)(x:Nd)(hx:x.2.2.2.2.1.length=x.2.2.2.2.2.length)(hl:x.2.2.2.2.1.length≤4000)(hy:∀ y∈x.2.2.2.2.2,0≤y∧y<(nd.length:Int))(K:Int->Int->Option R): ∀(q:List (List UInt8)) (s:List Int) (i m:Nat),x.2.2.2.2.1.drop i=q->x.2.2.2.2.2.drop i=s->i≤x.2.2.2.2.1.length->q.length<m ->
 J49 k m l nd 0 0 x.1 x.2.1 x.2.2.1 x.2.2.2.1 x.2.2.2.2.1 x.2.2.2.2.2 (i:Int) K=K (J0d nd l q s).1 (J0d nd l q s).2
 |q,s,i,0,_,_,_,h=>by omega
 |[],s,i,m+1,hd,hs,hi,hm=>by
  have:=JE hd
  rw[J49,J9q,J2 (by omega),J0d]
  ·rfl
  ·intro _ _ _ _ h _;cases h
 |c::r,[],i,m+1,hd,hs,hi,hm=>by
  obtain⟨hlt,hc,hr⟩:=Jz hd
  have:=JE hs
  omega
 |c::r,y::s,i,m+1,hd,hs,hi,hm=>by
  obtain⟨hlt,hc,hr⟩:=Jz hd
  obtain⟨hlt2,hc2,hr2⟩:=Jz hs
  have hyk:=hy y (by
   have:=hc2 0
   rw[List.getD,List.getElem?_eq_getElem hlt2]at this
   rw[←this];exact List.getElem_mem _)
  rw[J49,J9q,J0d,J1 (by omega),cond_true]
  refine(Juf k nd hk l hll x i hlt hl c hc y hlt2 hc2 hyk _ K l 0 k false rfl (Nat.zero_le _) (by omega)).trans ?_
  rw[Bool.false_or]
  cases Qt c l with
  |true=>exact Jtv k nd hk l hll x hx hl hy K r s (i+1) m hr hr2 (by omega) (by simp at hm;omega)
  |false=>rfl
theorem At.rknown{R:Type}{k:Nat}{nd:List Nd}{n:Nat}{x:Nd}(h:At nd n x)(hk:5100<k)(l:List (List UInt8))(hll:l.length≤20)(K:Int->Int->Option R): QH k nd (n:Int) l K=K (J1E nd (some x) l).1 (J1E nd (some x) l).2:=by
 unfold QH Jir J1E
 rw[h.inb,cond_true,Jb,h.get,h.at]
 dsimp only
 cases h3:x.1 != 3 with
 |true=>rfl
 |false=>exact Jtv k nd hk l hll x (h.keys h3) h.ok.2.1 h.kids K _ _ 0 k rfl rfl (Nat.zero_le _) (by have:=h.ok.2.1;omega)
end
section
open Go
def o3{R T:Type}(K:T->Int->Int->Option R)(p:T×Int×Int): Option R:=K p.1 p.2.1 p.2.2
def tvS{T:Type}(z:T)(o:Option Nd)(g:Nd->T×Int×Int): T×Int×Int :=
 match o with
 |none=>(z,11,0)
 |some x=>bif x.1 != 1 then(z,11,x.2.1)else g x
def J3R(least most:Int)(x:Nd): Int×Int×Int :=
 bif x.2.2.2.1 then(0,13,x.2.1)else match J1R x.2.2.1 with
  |none=>(0,13,x.2.1)
  |some v=>bif decide ((v:Int)<least) || decide ((v:Int)>most)then(0,13,x.2.1)else((v:Int),0,0)
def J8W(x:Nd): Bool×Int×Int :=
 bif x.2.2.2.1 then(false,14,x.2.1)else bif !(x.2.2.1 == [116,114,117,101]) && !(x.2.2.1 == [102,97,108,115,101])then(false,14,x.2.1)else(x.2.2.1 == [116,114,117,101],0,0)
def YI(v:Nat): Bool:=bif (bif Jr .neq v v then true else Jr .lss v 0)then true else Jr .gtr v 4607182418800017408
def J3S(x:Nd): Nat×Int×Int :=
 bif x.2.2.2.1 then(0,15,x.2.1)else match rdS x.2.2.1 with
  |none=>(0,15,x.2.1)
  |some v=>bif YI v then(0,15,x.2.1)else(v % fW,0,0)
def nmB(s:List UInt8): Bool:=(s.all fun c => !(decide (c.toNat<33) || decide (c.toNat>126)))&&(decide (1≤s.length)&&decide (s.length≤64))
def J5T(x:Nd): List UInt8×Int×Int:=bif nmB x.2.2.1 then(x.2.2.1,0,0)else([],12,x.2.1)
def J5U(x:Nd): List UInt8×Int×Int:=bif decide (x.2.2.1.length≤128)then(x.2.2.1,0,0)else([],12,x.2.1)
theorem JvF{s:List UInt8}{v:Nat}(h:rdS s=some v): v=Jbm∨v=fI∨v=fI+fW∨v≤fI∨∃ q,q≤fI∧v=q+fW:=by
 unfold rdS at h
 cases h1:s == [110,97,110]with
 |true=>rw[h1]at h;cases h;exact .inl rfl
 |false =>
  rw[h1,cond_false]at h
  cases h2:s == [105,110,102]with
  |true=>rw[h2]at h;cases h;exact .inr (.inl rfl)
  |false =>
   rw[h2,cond_false]at h
   cases h3:s == [45,105,110,102]with
   |true=>rw[h3]at h;cases h;exact .inr (.inr (.inl rfl))
   |false =>
    rw[h3,cond_false]at h
    cases hr:UJ (sT s)with
    |none=>rw[hr]at h;cases h
    |some q =>
     obtain⟨w,p⟩:=q
     rw[hr]at h
     have hp:p.length≤6:=by
      unfold UJ at hr
      cases hw:Ya (JQ (sT s))with
      |false=>rw[hw]at hr;cases hr
      |true =>
       rw[hw,cond_true]at hr
       cases hd:(sT s).drop (JQ (sT s)).length with
       |nil=>rw[hd]at hr;cases hr;simp
       |cons c p' =>
        rw[hd]at hr
        dsimp only at hr
        cases hc:c == 46&&J07 p' with
        |false=>rw[hc]at hr;cases hr
        |true =>
         rw[hc]at hr
         cases hr
         unfold J07 at hc
         simp only[Bool.and_eq_true,decide_eq_true_eq]at hc
         exact hc.2.2.2
     obtain⟨_,q2⟩:=JfA (w:=w) hp
     cases hm:sM s with
     |false=>rw[hm]at h;cases h;exact .inr (.inr (.inr (.inl q2)))
     |true =>
      rw[hm]at h
      cases h
      have:fI<fW:=by decide
      exact .inr (.inr (.inr (.inr ⟨Z4 w p,q2,Jaq (by omega)⟩)))
theorem JJG{s:List UInt8}{v:Nat}(h:rdS s=some v): v<18446744073709551616:=by
 have e1:Jbm<18446744073709551616:=by decide
 have e2:fI+fW<18446744073709551616:=by decide
 rcases JvF h with h|h|h|h|⟨q,hq,h⟩<;>omega
theorem Jn5{q:Nat}(h:q≤fI)(h0:q≠0): YI (q+fW)=true:=by
 have:=Jw9 h h0
 unfold YI Jr
 simp only[this]
 cases QW (q+fW) (q+fW) != some .eq<;>rfl
theorem JJH{s:List UInt8}{v:Nat}(h:rdS s=some v)(ho:YI v=false): v % fW≤fI∧(bif Jr .eql v 0 then 0 else v)=v % fW:=by
 have hI:fI<fW:=by decide
 have pos:∀ v,v≤fI->v % fW≤fI∧(bif Jr .eql v 0 then 0 else v)=v % fW:=fun v hv=>by
  have e:Jr .eql v 0=decide (v=0):=by
   unfold Jr
   simp only[Jw8 hv]
   by_cases h0:v=0
   ·rw[if_pos h0,J1 h0];rfl
   ·rw[if_neg h0,J2 h0];rfl
  rw[e,Nat.mod_eq_of_lt (by omega)]
  refine⟨hv,?_⟩
  by_cases h0:v=0
  ·rw[h0];rfl
  ·rw[J2 h0];rfl
 rcases JvF h with rfl|rfl|rfl|h|⟨q,hq,rfl⟩
 ·have:YI Jbm=true:=by decide +kernel
  rw[this]at ho;cases ho
 ·exact pos _ (Nat.le_refl _)
 ·rw[Jn5 (Nat.le_refl _) (by decide)]at ho;cases ho
 ·exact pos v h
 ·by_cases h0:q=0
  ·subst h0
   have e:Jr .eql (0+fW) 0=true:=by decide +kernel
   rw[e]
   have:(0+fW) % fW=0:=by decide +kernel
   rw[this]
   exact⟨Nat.zero_le _,rfl⟩
  ·rw[Jn5 hq h0]at ho;cases ho
theorem JeF(k:Nat){R:Type}(s:List UInt8)(hs:s.length≤4000)(hk:5000<k)(K:Bool->Option R): J1w k s K=K (nmB s):=by
 unfold J1w Jk3
 have loop:∀(t:List UInt8) (i m:Nat),s.drop i=t->t.length<m->i≤s.length->J4C k m s (s.length:Int) (i:Int) K=K ((t.all fun c => !(decide (c.toNat<33) || decide (c.toNat>126)))&&(decide (1≤s.length)&&decide (s.length≤64))):=by
  intro t
  induction t with
  |nil =>
   intro i m hd hm hi
   have:=JE hd
   obtain⟨m,rfl⟩:∃ j,m=j+1:=⟨m-1,by simp at hm;omega⟩
   rw[J4C,Jdw,J2 (by omega),cond_false]
   have h1:decide ((s.length:Int)≥1)=decide (1≤s.length):=by rw[Bool.eq_iff_iff];simp;omega
   have h2:decide ((s.length:Int)≤64)=decide (s.length≤64):=by rw[Bool.eq_iff_iff];simp;omega
   rw[h1,h2]
   cases decide (1≤s.length)<;>rfl
  |cons c r ih =>
   intro i m hd hm hi
   obtain⟨hlt,hc,hr⟩:=Jz hd
   obtain⟨m,rfl⟩:∃ j,m=j+1:=⟨m-1,by simp at hm;omega⟩
   rw[J4C,Jdw]
   simp(disch:=omega)only[J1,J2,Jl,Jh,Jm,Jn,Ja,Jg,J8,Ji,cond_true,cond_false,Bool.not_true,Bool.not_false,Bool.true_or,Bool.or_true,Bool.false_or,Bool.or_false,Bool.true_and,Bool.and_true,Bool.false_and,Bool.and_false,Jk,Jj,Jb,hc,Q4]
   have h1:decide ((c.toNat:Int)<33)=decide (c.toNat<33):=by rw[Bool.eq_iff_iff];simp;omega
   have h2:decide ((c.toNat:Int)>126)=decide (c.toNat>126):=by rw[Bool.eq_iff_iff];simp;omega
   rw[h1,h2,List.all_cons,ih (i+1) m hr (by simp at hm;omega) (by omega),J1 (show 1≤s.length by omega),Bool.true_and]
   cases decide (c.toNat<33)<;>cases decide (c.toNat>126)<;>simp
 exact loop s 0 k rfl (by omega) (Nat.zero_le _)
theorem JEo(k:Nat){R:Type}(s:List UInt8)(hs:s.length≤4000)(hk:5000<k)(K:Bool->Option R): Jai k s K=K (nmB s):=by
 unfold Jai Jko nmB
 have loop:∀(t:List UInt8) (i m:Nat),s.drop i=t->t.length<m->i≤s.length->J4L k m s (i:Int) K=K (t.all fun c => !(decide (c.toNat<33) || decide (c.toNat>126))):=by
  intro t
  induction t with
  |nil =>
   intro i m hd hm hi
   have:=JE hd
   obtain⟨m,rfl⟩:∃ j,m=j+1:=⟨m-1,by simp at hm;omega⟩
   rw[J4L,JdT,J2 (by omega)];rfl
  |cons c r ih =>
   intro i m hd hm hi
   obtain⟨hlt,hc,hr⟩:=Jz hd
   obtain⟨m,rfl⟩:∃ j,m=j+1:=⟨m-1,by simp at hm;omega⟩
   rw[J4L,JdT]
   simp(disch:=omega)only[J1,J2,Jl,Jh,Jm,Jn,Ja,Jg,J8,Ji,cond_true,cond_false,Bool.not_true,Bool.not_false,Bool.true_or,Bool.or_true,Bool.false_or,Bool.or_false,Bool.true_and,Bool.and_true,Bool.false_and,Bool.and_false,Jk,Jj,Jb,hc,Q4]
   have h1:decide ((c.toNat:Int)<33)=decide (c.toNat<33):=by rw[Bool.eq_iff_iff];simp;omega
   have h2:decide ((c.toNat:Int)>126)=decide (c.toNat>126):=by rw[Bool.eq_iff_iff];simp;omega
   rw[h1,h2,List.all_cons,ih (i+1) m hr (by simp at hm;omega) (by omega)]
   cases decide (c.toNat<33)<;>cases decide (c.toNat>126)<;>simp
 by_cases h1:s.length<1
 ·rw[J1 (show(s.length:Int)<1 by omega),J2 (show ¬ 1≤s.length by omega)];simp
 ·rw[J2 (show ¬ (s.length:Int)<1 by omega),J1 (show 1≤s.length by omega),cond_false]
  by_cases h2:s.length>64
  ·rw[J1 (show(s.length:Int)>64 by omega),J2 (show ¬ s.length≤64 by omega)];simp
  ·rw[J2 (show ¬ (s.length:Int)>64 by omega),J1 (show s.length≤64 by omega),cond_false,Bool.and_true,Bool.and_true]
   exact loop s 0 k rfl (by omega) (Nat.zero_le _)
theorem At.snum{R:Type}{k:Nat}{nd:List Nd}{n:Nat}{x:Nd}(h:At nd n x)(hk:5100<k)(least most:Int)(K:Int->Int->Int->Option R): Z6 k nd (n:Int) least most K=o3 K (tvS 0 (some x) (J3R least most)):=by
 unfold Z6 Jo7 tvS J3R
 rw[h.bare]
 dsimp only
 cases x.1 != 1 with
 |true=>rfl
 |false =>
  cases x.2.2.2.1 with
  |true=>rfl
  |false =>
   have e:((0:Int) != 0)=false:=rfl
   simp only[cond_false,e]
   rw[JEl k _ (by omega) (by have:=h.ok.1;omega)]
   cases J1R x.2.2.1 with
   |none=>simp only[J5Y,Bool.not_false,cond_true,h.fault,o3]
   |some v =>
    simp only[J5Y,Bool.not_true,cond_false,h.fault,o3]
    cases decide ((v:Int)<least)<;>cases decide ((v:Int)>most)<;>rfl
theorem At.rnum{R:Type}{k:Nat}{nd:List Nd}{n:Nat}{x:Nd}(h:At nd n x)(hk:5100<k)(least most:Int)(K:Int->Int->Int->Option R): J25 k nd (n:Int) least most K=o3 K (tvS 0 (some x) (J3R least most)):=by
 unfold J25 JoR tvS J3R
 rw[h.inb,cond_true,Jb,h.get]
 simp only[h.at]
 cases x.1 != 1 with
 |true=>rfl
 |false =>
  simp only[cond_false]
  rw[JD5 k _ (by omega)]
  cases x.2.2.2.1 with
  |true=>cases J1R x.2.2.1<;>rfl
  |false =>
   simp only[cond_false]
   cases J1R x.2.2.1 with
   |none=>rfl
   |some v =>
    simp only[J5Y,Bool.not_true,cond_false,o3]
    cases decide ((v:Int)<least)<;>cases decide ((v:Int)>most)<;>rfl
theorem At.sbool{R:Type}{k:Nat}{nd:List Nd}{n:Nat}{x:Nd}(h:At nd n x)(hk:5100<k)(K:Bool->Int->Int->Option R): J72 k nd (n:Int) K=o3 K (tvS false (some x) J8W):=by
 unfold J72 Jow tvS J8W
 rw[h.bare]
 simp only[h.fault]
 cases x.1 != 1 with
 |true=>rfl
 |false =>
  cases x.2.2.2.1 with
  |true=>rfl
  |false =>
   have e:((0:Int) != 0)=false:=rfl
   simp only[cond_false,e]
   cases x.2.2.1 == [116,114,117,101]<;>cases x.2.2.1 == [102,97,108,115,101]<;>rfl
theorem At.rbool{R:Type}{k:Nat}{nd:List Nd}{n:Nat}{x:Nd}(h:At nd n x)(hk:5100<k)(K:Bool->Int->Int->Option R): Za k nd (n:Int) K=o3 K (tvS false (some x) J8W):=by
 unfold Za JpA tvS J8W
 rw[h.inb,cond_true,Jb,h.get]
 simp only[h.at]
 cases x.1 != 1 with
 |true=>rfl
 |false =>
  cases x.2.2.2.1 with
  |true=>rfl
  |false=>cases x.2.2.1 == [116,114,117,101]<;>cases x.2.2.1 == [102,97,108,115,101]<;>rfl
theorem At.srat{R:Type}{k:Nat}{nd:List Nd}{n:Nat}{x:Nd}(h:At nd n x)(hk:5100<k)(K:Nat->Int->Int->Option R): J6O k nd (n:Int) K=o3 K (tvS 0 (some x) J3S):=by
 unfold J6O Jhw tvS J3S
 rw[h.bare]
 simp only[h.fault]
 cases x.1 != 1 with
 |true=>rfl
 |false =>
  cases x.2.2.2.1 with
  |true=>rfl
  |false =>
   have e:((0:Int) != 0)=false:=rfl
   simp only[cond_false,e]
   rw[JiW k _ h.ok.1 (by omega)]
   cases hr:rdS x.2.2.1 with
   |none=>rfl
   |some v =>
    simp only[rdK,Bool.not_true,beq_self_eq_true,cond_true]
    unfold QO J1v
    have eo:(bif bif Jr BinOp.neq v v then true else Jr BinOp.lss v 0 then true else Jr BinOp.gtr v 4607182418800017408)=YI v:=rfl
    dsimp only
    rw[eo]
    cases YI v with
    |true=>rfl
    |false=>simp only[cond_false];rw[Jb1 k v (JJG hr)];rfl
theorem At.rrat{R:Type}{k:Nat}{nd:List Nd}{n:Nat}{x:Nd}(h:At nd n x)(hk:5100<k)(K:Nat->Int->Int->Option R): Yl k nd (n:Int) K=o3 K (tvS 0 (some x) J3S):=by
 unfold Yl Jp6 tvS J3S
 rw[h.inb,cond_true,Jb,h.get]
 simp only[h.at]
 cases x.1 != 1 with
 |true=>rfl
 |false =>
  simp only[cond_false]
  rw[Jrj k _ h.ok.1 (by omega)]
  cases x.2.2.2.1 with
  |true=>cases rdS x.2.2.1<;>rfl
  |false =>
   cases hr:rdS x.2.2.1 with
   |none=>rfl
   |some v =>
    simp only[rdK,Bool.not_true,beq_self_eq_true,cond_true,cond_false]
    unfold QO J1v
    have eo:(bif bif Jr BinOp.neq v v then true else Jr BinOp.lss v 0 then true else Jr BinOp.gtr v 4607182418800017408)=YI v:=rfl
    dsimp only
    rw[eo]
    cases ho:YI v with
    |true=>rfl
    |false =>
     obtain⟨_,r2⟩:=JJH hr ho
     rw[←r2]
     cases Jr BinOp.eql v 0<;>rfl
theorem At.sname{R:Type}{k:Nat}{nd:List Nd}{n:Nat}{x:Nd}(h:At nd n x)(hk:5100<k)(K:List UInt8->Int->Int->Option R): J74 k nd (n:Int) K=o3 K (tvS [] (some x) J5T):=by
 unfold J74 Joy tvS J5T
 rw[h.need,h.inb]
 simp only[h.fault,Jb,h.get]
 cases x.1 != 1 with
 |true=>rfl
 |false =>
  have e:((0:Int) != 0)=false:=rfl
  simp only[cond_false,e,cond_true]
  rw[JeF k _ h.ok.1 (by omega)]
  cases nmB x.2.2.1<;>rfl
theorem At.rname{R:Type}{k:Nat}{nd:List Nd}{n:Nat}{x:Nd}(h:At nd n x)(hk:5100<k)(K:List UInt8->Int->Int->Option R): U0 k nd (n:Int) K=o3 K (tvS [] (some x) J5T):=by
 unfold U0 Jpz tvS J5T
 rw[h.inb,cond_true,Jb,h.get]
 simp only[h.at]
 cases x.1 != 1 with
 |true=>rfl
 |false =>
  simp only[cond_false]
  rw[JEo k _ h.ok.1 (by omega)]
  cases nmB x.2.2.1<;>rfl
theorem At.sword{R:Type}{k:Nat}{nd:List Nd}{n:Nat}{x:Nd}(h:At nd n x)(hk:5100<k)(K:List UInt8->Int->Int->Option R): J36 k nd (n:Int) K=o3 K (tvS [] (some x) J5U):=by
 unfold J36 Joz tvS J5U
 rw[h.need,h.inb]
 simp only[h.fault,Jb,h.get]
 cases x.1 != 1 with
 |true=>rfl
 |false =>
  have e:((0:Int) != 0)=false:=rfl
  simp only[cond_false,e,cond_true]
  have e2:decide ((x.2.2.1.length:Int)≤128)=decide (x.2.2.1.length≤128):=by rw[Bool.eq_iff_iff];simp;omega
  rw[e2]
  cases decide (x.2.2.1.length≤128)<;>rfl
theorem At.rword{R:Type}{k:Nat}{nd:List Nd}{n:Nat}{x:Nd}(h:At nd n x)(hk:5100<k)(K:List UInt8->Int->Int->Option R): J0T k nd (n:Int) K=o3 K (tvS [] (some x) J5U):=by
 unfold J0T JpC tvS J5U
 rw[h.inb,cond_true,Jb,h.get]
 simp only[h.at]
 cases x.1 != 1 with
 |true=>rfl
 |false =>
  simp only[cond_false]
  have e2:decide ((x.2.2.1.length:Int)>128) = !decide (x.2.2.1.length≤128):=by
   by_cases h:x.2.2.1.length≤128
   ·rw[J1 h,J2 (by omega)];rfl
   ·rw[J2 h,J1 (by omega)];rfl
  rw[e2]
  cases decide (x.2.2.1.length≤128)<;>rfl
end
section
open Go
inductive Rz (T:Type) where
 |ok (x:T)
 |er (f:Int×Int)
def Rz.bind{A B:Type}: Rz A->(A->Rz B)->Rz B
 |.ok x,g=>g x
 |.er f,_ => .er f
def Rz.run{T R:Type}: Rz T->(T->Option R)->(Int->Int->Option R)->Option R
 |.ok x,K,_=>K x
 |.er f,_,E=>E f.1 f.2
theorem run_bind{A B R:Type}(r:Rz A)(g:A->Rz B)(K:B->Option R)(E:Int->Int->Option R): (r.bind g).run K E=r.run (fun x=>(g x).run K E) E:=by cases r<;>rfl
def Rz.out{T R:Type}(z:T): Rz T->(T->Int->Int->Option R)->Option R
 |.ok x,K=>K x 0 0
 |.er f,K=>K z f.1 f.2
def tvR{T:Type}(p:T×Int×Int): Rz T:=bif p.2.1 != 0 then .er p.2 else .ok p.1
def Gd{T:Type}(z:T)(p:T×Int×Int): Prop:=(p.2.1=0->p.2.2=0)∧(p.2.1≠0->p.1=z)
theorem J1F{T R:Type}{z:T}{p:T×Int×Int}(h:Gd z p)(K:T->Int->Int->Option R): o3 K p=(tvR p).out z K:=by
 obtain⟨a,b,c⟩:=p
 unfold tvR o3
 by_cases hb:b=0
 ·have:c=0:=h.1 hb
  subst hb this;rfl
 ·have:a=z:=h.2 hb
  subst this
  have e:(b != 0)=true:=by simpa using hb
  dsimp only
  rw[e];rfl
theorem J2O{T:Type}{z:T}{c:Bool}{p q:T×Int×Int}(h1:Gd z p)(h2:Gd z q): Gd z (bif c then p else q):=by cases c<;>assumption
theorem J0z{T:Type}(z:T){a c:Int}(h:a≠0): Gd z (z,a,c):=⟨fun e=>absurd e h,fun _=>rfl⟩
theorem Jbf{T:Type}(z x:T): Gd z (x,0,0):=⟨fun _=>rfl,fun e=>absurd rfl e⟩
theorem J1G{T:Type}{z:T}{g:Nd->T×Int×Int}(h:∀ x,Gd z (g x))(o:Option Nd): Gd z (tvS z o g):=by
 unfold tvS
 cases o with
 |none=>exact J0z z (by decide)
 |some x=>exact J2O (J0z z (by decide)) (h x)
theorem Jv2(x:Nd): Gd false (J8W x):=J2O (J0z _ (by decide)) (J2O (J0z _ (by decide)) (Jbf _ _))
theorem JvG(l m:Int)(x:Nd): Gd 0 (J3R l m x):=by
 unfold J3R
 refine J2O (J0z _ (by decide)) ?_
 cases J1R x.2.2.1 with
 |none=>exact J0z _ (by decide)
 |some v=>exact J2O (J0z _ (by decide)) (Jbf _ _)
theorem JvH(x:Nd): Gd 0 (J3S x):=by
 unfold J3S
 refine J2O (J0z _ (by decide)) ?_
 cases rdS x.2.2.1 with
 |none=>exact J0z _ (by decide)
 |some v=>exact J2O (J0z _ (by decide)) (Jbf _ _)
theorem Jv3(x:Nd): Gd [] (J5T x):=J2O (Jbf _ _) (J0z _ (by decide))
theorem Jv4(x:Nd): Gd [] (J5U x):=J2O (Jbf _ _) (J0z _ (by decide))
def Nz{T:Type}: Rz T->Prop
 |.ok _=>True
 |.er f=>f.1≠0
theorem Ug{T:Type}(p:T×Int×Int): Nz (tvR p):=by
 unfold tvR
 cases h:p.2.1 != 0 with
 |false=>trivial
 |true=>simpa [Nz]using h
theorem Qz{A B:Type}{r:Rz A}{g:A->Rz B}(h:Nz r)(hg:∀ x,Nz (g x)): Nz (r.bind g):=by
 cases r with
 |ok x=>exact hg x
 |er f=>exact h
theorem J3T{T:Type}{c:Bool}{p q:Rz T}(h1:Nz p)(h2:Nz q): Nz (bif c then p else q):=by cases c<;>assumption
def Jw(nd:List Nd)(n:Int)(key:List UInt8): Option Int:=bif (Zn (YH nd n) key).2 then some (Zn (YH nd n) key).1 else none
def Zo(nd:List Nd)(j:Int): Rz Bool:=tvR (tvS false (YH nd j) J8W)
def J1j(nd:List Nd)(j:Int): Rz Int:=tvR (tvS 0 (YH nd j) (J3R 0 4294967295))
def ZM(nd:List Nd)(j:Int): Rz Nat:=tvR (tvS 0 (YH nd j) J3S)
def Zp(nd:List Nd)(j:Int): Rz (List UInt8):=tvR (tvS [] (YH nd j) J5T)
def J1H(nd:List Nd)(j:Int): Rz (List UInt8):=tvR (tvS [] (YH nd j) J5U)
def unR(p:Int×Int): Rz Unit:=bif p.1 != 0 then .er p else .ok ()
def Z0(nd:List Nd)(j kd:Int): Rz Unit:=unR (J3G (YH nd j) kd)
def YB(nd:List Nd)(j:Int)(l:List (List UInt8)): Rz Unit:=unR (J1E nd (YH nd j) l)
def Zq(nd:List Nd)(j:Int): List UInt8:=match YH nd j with|some x=>x.2.2.1|none=>[]
def Um(nd:List Nd)(j:Int): List Int:=match YH nd j with|some x=>x.2.2.2.2.2|none=>[]
def Uq(nd:List Nd)(n:Int)(key:List UInt8): Rz Int:=match Jw nd n key with|some j => .ok j|none => .er (10,QT nd n)
def Qx{T:Type}(o:Option Int)(z:T)(f:Int->Rz T): Rz T:=match o with|some j=>f j|none => .ok z
theorem YC(p:Int×Int): Nz (unR p):=by
 unfold unR
 cases h:p.1 != 0 with
 |false=>trivial
 |true=>simpa [Nz]using h
theorem J8G(nd:List Nd)(n:Int)(key:List UInt8): Nz (Uq nd n key):=by
 unfold Uq
 cases Jw nd n key with
 |none=>show(10:Int)≠0;decide
 |some j=>trivial
theorem J2u{T:Type}{o:Option Int}{z:T}{f:Int->Rz T}(h:∀ j,Nz (f j)): Nz (Qx o z f):=by
 cases o with
 |none=>trivial
 |some j=>exact h j
structure Dk (k:Nat) (nd:List Nd):Prop where
 hk:6000<k
 hn:nd.length≤4000
 ho:∀ x∈nd,okD x
 hc:UF nd=true
def InD(nd:List Nd)(i:Int): Prop:=0≤i∧i<(nd.length:Int)
theorem Dk.at{k:Nat}{nd:List Nd}(D:Dk k nd){i:Int}(h:InD nd i): ∃ n x,i=((n:Nat):Int)∧YH nd i=some x∧At nd n x:=by
 rcases Jwv nd D.hn D.ho i with⟨_,h2⟩|⟨_,n,x,e,h1,h⟩
 ·rw[D.hc,Bool.and_true]at h2
  unfold inR at h2
  rw[J1 (show i≥0 from h.1),cond_true,J1 h.2]at h2
  cases h2
 ·exact⟨n,x,e,h1,h⟩
theorem Dk.kids{k:Nat}{nd:List Nd}(D:Dk k nd){i:Int}(h:InD nd i): ∀ j∈Um nd i,InD nd j:=by
 obtain⟨n,x,rfl,h1,a⟩:=D.at h
 unfold Um
 rw[h1]
 exact a.kids
theorem JH8{x:Nd}{key:List UInt8}{i:Nat}(hl:(x.1 != 3)=false->x.2.2.2.2.1.length=x.2.2.2.2.2.length)(h:(Zn (some x) key).2=true): (Zn (some x) key).1∈x.2.2.2.2.2:=by
 unfold Zn at h ⊢
 dsimp only at h ⊢
 cases h3:x.1 != 3 with
 |true=>rw[h3]at h;cases h
 |false =>
  simp only[h3,cond_false]at h ⊢
  cases hi:Yx key x.2.2.2.2.1 0 with
  |none=>rw[hi]at h;cases h
  |some j =>
   have:=JmI _ _ _ _ hi
   rw[hl h3]at this
   dsimp only
   rw[List.getD,List.getElem?_eq_getElem (show j<x.2.2.2.2.2.length by omega)]
   exact List.getElem_mem _
theorem Dk.find{k:Nat}{nd:List Nd}(D:Dk k nd){i j:Int}{key:List UInt8}(h:InD nd i)(hf:Jw nd i key=some j): InD nd j:=by
 obtain⟨n,x,rfl,h1,a⟩:=D.at h
 unfold Jw at hf
 rw[h1]at hf
 cases hb:(Zn (some x) key).2 with
 |false=>rw[hb]at hf;cases hf
 |true =>
  rw[hb,cond_true]at hf
  injection hf with hf
  rw[←hf]
  exact a.kids _ (JH8 (i:=0) a.keys hb)
theorem Dk.line{k:Nat}{nd:List Nd}(D:Dk k nd){i:Int}(h:InD nd i): inb i (nd.length:Int)=true∧∀ z,(nd.getD i.toNat z).2.1=QT nd i:=Jmo h
section
variable {R:Type} {k:Nat} {nd:List Nd} (D:Dk k nd) {i:Int} (h:InD nd i)
include D h
theorem Dk.sfind(key:List UInt8)(K:Int->Bool->Option R): QZ k nd i key K=match Jw nd i key with|some j=>K j true|none=>K 0 false:=by
 obtain⟨n,x,rfl,h1,a⟩:=D.at h
 have:=D.hk
 rw[a.sfind (by omega)]
 unfold Jw
 rw[h1]
 cases hb:(Zn (some x) key).2 with
 |true=>rfl
 |false =>
  have:(Zn (some x) key).1=0:=by
   unfold Zn at hb ⊢
   dsimp only at hb ⊢
   cases h3:x.1 != 3 with
   |true=>rfl
   |false =>
    simp only[h3,cond_false]at hb ⊢
    cases hi:Yx key x.2.2.2.2.1 0 with
    |none=>rfl
    |some j=>rw[hi]at hb;cases hb
  rw[this];rfl
theorem Dk.rfind(key:List UInt8)(K:Int->Bool->Option R): Q6 k nd i key K=match Jw nd i key with|some j=>K j true|none=>K 0 false:=by
 have:=D.hk
 rw[←D.sfind h key K]
 obtain⟨n,x,rfl,h1,a⟩:=D.at h
 rw[a.sfind (by omega),a.rfind (by omega)]
theorem Dk.sbool(K:Bool->Int->Int->Option R): J72 k nd i K=(Zo nd i).out false K:=by
 have:=D.hk;obtain⟨n,x,rfl,h1,a⟩:=D.at h
 unfold Zo;rw[a.sbool (by omega),h1,J1F (J1G Jv2 _)]
theorem Dk.rbool(K:Bool->Int->Int->Option R): Za k nd i K=(Zo nd i).out false K:=by
 have:=D.hk;obtain⟨n,x,rfl,h1,a⟩:=D.at h
 unfold Zo;rw[a.rbool (by omega),h1,J1F (J1G Jv2 _)]
theorem Dk.snum(K:Int->Int->Int->Option R): Z6 k nd i 0 4294967295 K=(J1j nd i).out 0 K:=by
 have:=D.hk;obtain⟨n,x,rfl,h1,a⟩:=D.at h
 unfold J1j;rw[a.snum (by omega),h1,J1F (J1G (JvG _ _) _)]
theorem Dk.rnum(K:Int->Int->Int->Option R): J25 k nd i 0 4294967295 K=(J1j nd i).out 0 K:=by
 have:=D.hk;obtain⟨n,x,rfl,h1,a⟩:=D.at h
 unfold J1j;rw[a.rnum (by omega),h1,J1F (J1G (JvG _ _) _)]
theorem Dk.srat(K:Nat->Int->Int->Option R): J6O k nd i K=(ZM nd i).out 0 K:=by
 have:=D.hk;obtain⟨n,x,rfl,h1,a⟩:=D.at h
 unfold ZM;rw[a.srat (by omega),h1,J1F (J1G JvH _)]
theorem Dk.rrat(K:Nat->Int->Int->Option R): Yl k nd i K=(ZM nd i).out 0 K:=by
 have:=D.hk;obtain⟨n,x,rfl,h1,a⟩:=D.at h
 unfold ZM;rw[a.rrat (by omega),h1,J1F (J1G JvH _)]
theorem Dk.sname(K:List UInt8->Int->Int->Option R): J74 k nd i K=(Zp nd i).out [] K:=by
 have:=D.hk;obtain⟨n,x,rfl,h1,a⟩:=D.at h
 unfold Zp;rw[a.sname (by omega),h1,J1F (J1G Jv3 _)]
theorem Dk.rname(K:List UInt8->Int->Int->Option R): U0 k nd i K=(Zp nd i).out [] K:=by
 have:=D.hk;obtain⟨n,x,rfl,h1,a⟩:=D.at h
 unfold Zp;rw[a.rname (by omega),h1,J1F (J1G Jv3 _)]
theorem Dk.sword(K:List UInt8->Int->Int->Option R): J36 k nd i K=(J1H nd i).out [] K:=by
 have:=D.hk;obtain⟨n,x,rfl,h1,a⟩:=D.at h
 unfold J1H;rw[a.sword (by omega),h1,J1F (J1G Jv4 _)]
theorem Dk.rword(K:List UInt8->Int->Int->Option R): J0T k nd i K=(J1H nd i).out [] K:=by
 have:=D.hk;obtain⟨n,x,rfl,h1,a⟩:=D.at h
 unfold J1H;rw[a.rword (by omega),h1,J1F (J1G Jv4 _)]
omit D h in
theorem JvI{p:Int×Int}(h0:p.1=0->p.2=0)(K:Int->Int->Option R): K p.1 p.2=(unR p).out () (fun _=>K):=by
 unfold unR
 cases hb:p.1 != 0 with
 |true=>rfl
 |false =>
  have e:p.1=0:=by simpa using hb
  rw[e,h0 e];rfl
theorem Dk.sneed(kd:Int)(K:Int->Int->Option R): Uw k nd i kd K=(Z0 nd i kd).out () (fun _=>K):=by
 have:=D.hk;obtain⟨n,x,rfl,h1,a⟩:=D.at h
 unfold Z0;rw[a.need,h1]
 unfold J3G
 dsimp only
 cases x.1 != kd<;>rfl
theorem Dk.rneed(kd:Int)(K:Int->Int->Option R): UA k nd i kd K=(Z0 nd i kd).out () (fun _=>K):=by
 have:=D.hk
 rw[←D.sneed h kd K]
 obtain⟨n,x,rfl,h1,a⟩:=D.at h
 rw[a.rneed (by omega),a.need]
 unfold J3G
 dsimp only
 cases x.1 != kd<;>rfl
omit D h in
theorem Jwc(nd:List Nd)(l:List (List UInt8)): ∀(q:List (List UInt8)) (s:List Int),(J0d nd l q s).1=0->(J0d nd l q s).2=0
 |[],_,_=>rfl
 |_::_,[],_=>rfl
 |q::r,y::s,e=>by
  rw[J0d]at e ⊢
  cases ha:Qt q l with
  |true=>rw[ha]at e;exact Jwc nd l r s e
  |false=>rw[ha]at e;cases e
omit D h in
theorem Jv5(nd:List Nd)(l:List (List UInt8))(o:Option Nd)(e:(J1E nd o l).1=0): (J1E nd o l).2=0:=by
 unfold J1E at e ⊢
 cases o with
 |none=>rfl
 |some x =>
  dsimp only at e ⊢
  cases hx:x.1 != 3 with
  |true=>rw[hx]at e;cases e
  |false=>rw[hx]at e;exact Jwc nd l _ _ e
theorem Dk.sknown(l:List (List UInt8))(hl:l.length≤20)(K:Int->Int->Option R): QM k nd i l K=(YB nd i l).out () (fun _=>K):=by
 have:=D.hk;obtain⟨n,x,rfl,h1,a⟩:=D.at h
 unfold YB;rw[a.sknown (by omega) l hl,h1];exact JvI (Jv5 nd l _) K
theorem Dk.rknown(l:List (List UInt8))(hl:l.length≤20)(K:Int->Int->Option R): QH k nd i l K=(YB nd i l).out () (fun _=>K):=by
 have:=D.hk;obtain⟨n,x,rfl,h1,a⟩:=D.at h
 unfold YB;rw[a.rknown (by omega) l hl,h1];exact JvI (Jv5 nd l _) K
omit D h in
theorem J3p{T:Type}{r:Rz T}(hr:Nz r)(z:T)(K:T->Option R)(E:Int->Int->Option R): r.out z (fun x a b=>Qh k a b (fun _=>K x) E)=r.run K E:=by
 unfold Qh JiF
 cases r with
 |ok x=>rfl
 |er f =>
  have e:(f.1 != 0)=true:=by simpa [Nz]using hr
  simp only[Rz.out,Rz.run,e,cond_true]
theorem Dk.sfault(kd:Int)(hkd:kd≠0)(E:Int->Int->Option R): QB k nd i kd E=E kd (QT nd i):=by
 obtain⟨l1,l2⟩:=D.line h
 unfold QB JnU Jci JnZ Qh JiF
 have e:(kd != 0)=true:=by simpa using hkd
 rw[l1,cond_true,l2]
 dsimp only
 rw[e,cond_true]
theorem Dk.smust(key:List UInt8)(K:Int->Option R)(E:Int->Int->Option R): QY k nd i key K E=(Uq nd i key).run K E:=by
 unfold QY Jo2 Uq
 rw[D.sfind h]
 cases Jw nd i key with
 |some j=>rfl
 |none=>exact D.sfault h 10 (by decide) E
theorem Dk.sratio(key:List UInt8)(z:Nat)(K:Nat->Option R)(E:Int->Int->Option R): Us k nd i key z K E=(Qx (Jw nd i key) z (ZM nd)).run K E:=by
 unfold Us JnX
 rw[D.sfind h]
 cases hf:Jw nd i key with
 |none=>rfl
 |some j =>
  simp only[Bool.not_true,cond_false,Qx]
  rw[D.srat (D.find h hf)]
  exact J3p (r:=ZM nd j) (Ug _) 0 K E
theorem Dk.sboolk(key:List UInt8)(K:Bool->Option R)(E:Int->Int->Option R): Y0 k nd i key K E=(Qx (Jw nd i key) false (Zo nd)).run K E:=by
 unfold Y0 Jo0
 rw[D.sfind h]
 cases hf:Jw nd i key with
 |none=>rfl
 |some j =>
  simp only[Bool.not_true,cond_false,Qx]
  rw[D.sbool (D.find h hf)]
  exact J3p (r:=Zo nd j) (Ug _) false K E
theorem Dk.snamek(K:List UInt8->Option R)(E:Int->Int->Option R): UO k nd i K E=(Zp nd i).run K E:=by
 unfold UO Jo3
 rw[D.sname h]
 exact J3p (r:=Zp nd i) (Ug _) [] K E
theorem Dk.sknownk(l:List (List UInt8))(hl:l.length≤20)(K:Option R)(E:Int->Int->Option R): QM k nd i l (fun a b=>Qh k a b (fun _=>K) E)=(YB nd i l).run (fun _=>K) E:=by
 rw[D.sknown h l hl]
 exact J3p (r:=YB nd i l) (YC _) () (fun _=>K) E
theorem Dk.sneedk(kd:Int)(K:Option R)(E:Int->Int->Option R): Uw k nd i kd (fun a b=>Qh k a b (fun _=>K) E)=(Z0 nd i kd).run (fun _=>K) E:=by
 rw[D.sneed h kd]
 exact J3p (r:=Z0 nd i kd) (YC _) () (fun _=>K) E
theorem Dk.snumk(K:Int->Option R)(E:Int->Int->Option R): Z6 k nd i 0 4294967295 (fun x a b=>Qh k a b (fun _=>K x) E)=(J1j nd i).run K E:=by
 rw[D.snum h]
 exact J3p (r:=J1j nd i) (Ug _) 0 K E
theorem Dk.swordk(K:List UInt8->Option R)(E:Int->Int->Option R): J36 k nd i (fun x a b=>Qh k a b (fun _=>K x) E)=(J1H nd i).run K E:=by
 rw[D.sword h]
 exact J3p (r:=J1H nd i) (Ug _) [] K E
theorem Dk.text:∀ z,(((nd.getD i.toNat z).2).2).1=Zq nd i:=by
 obtain⟨n,x,rfl,h1,a⟩:=D.at h
 intro z
 unfold Zq
 rw[h1,Jb,a.get]
theorem Dk.kidsAt:∀ z,(((((nd.getD i.toNat z).2).2).2).2).2=Um nd i:=by
 obtain⟨n,x,rfl,h1,a⟩:=D.at h
 intro z
 unfold Um
 rw[h1,Jb,a.get]
def YY(nd:List Nd)(n:Int)(key:List UInt8): Rz (List Int):=Qx (Jw nd n key) [] fun j=>(Z0 nd j 2).bind fun _ => .ok (Um nd j)
theorem Dk.sitems(key:List UInt8)(K:List Int->Option R)(E:Int->Int->Option R): ZP k nd i key K E=(YY nd i key).run K E:=by
 unfold ZP JnV YY
 rw[D.sfind h]
 cases hf:Jw nd i key with
 |none=>rfl
 |some j =>
  have hj:=D.find h hf
  simp only[Bool.not_true,cond_false,Qx]
  rw[D.sneed hj,run_bind]
  have e:=J3p (k:=k) (YC (J3G (YH nd j) 2)) () (fun _=>cond (inb j (nd.length:Int)) (K (Um nd j)) none) E
  simp only[(D.line hj).1,cond_true,D.kidsAt hj]at e ⊢
  exact e
end
def UU(s:List UInt8): Int:=bif s == [115,101,99,111,110,100]then 1 else bif s == [109,105,110,117,116,101]then 2 else bif s == [104,111,117,114]then 3 else bif s == [100,97,121]then 4 else 0
theorem JBq{R:Type}(k:Nat)(hk:100<k)(s:List UInt8)(K:Int->Option R): J3b k s K=K (UU s):=by
 unfold J3b JiU UU
 obtain⟨m,rfl⟩:∃ m,k=m+6:=⟨k-6,by omega⟩
 have hc:∀ a b:List UInt8,(a == b)=(b == a):=fun a b=>by rw[Bool.eq_iff_iff];simp;exact eq_comm
 have w:∀ a:Int,0≤a->a<10->IntKind.i64.wrap (a+1)=a+1:=fun a h1 h2=>J8 (by omega) (by omega)
 have U:∀(n:Int) (K:List UInt8->Option R),JeD (m+6) n K=JjU (m+6) n K:=fun _ _=>rfl
 generalize hz:m+6=z
 have hz':z=(((((m+1)+1)+1)+1)+1)+1:=by omega
 rw[hz]at U
 have L:∀ q n,J0h z (q+1) s n K=J9r z (fun s0 s1=>J0h z q s0 s1 K) s n K:=fun q n=>by rw[J0h]
 have st:∀(q:Nat) (n:Int) (t:List UInt8),0≤n->n≤4->(∀ K:List UInt8->Option R,JjU z n K=K t)->J0h z (q+1) s n K=bif s == t then K n else J0h z q s (n+1) K:=by
  intro q n t h0 h1 ht
  rw[L,J9r,J1 h1,cond_true,U,ht,hc t s,w n h0 (by omega)]
 have e:J0h z z s 1 K=J0h z ((((((m+1)+1)+1)+1)+1)+1) s 1 K:=by rw[←hz']
 show J0h z z s 1 K=_
 rw[e,st _ 1 [115,101,99,111,110,100] (by decide) (by decide) (fun _=>rfl)]
 cases s == [115,101,99,111,110,100]with
 |true=>rfl
 |false =>
  rw[cond_false,cond_false,show(1:Int)+1=2 from rfl,st _ 2 [109,105,110,117,116,101] (by decide) (by decide) (fun _=>rfl)]
  cases s == [109,105,110,117,116,101]with
  |true=>rfl
  |false =>
   rw[cond_false,cond_false,show(2:Int)+1=3 from rfl,st _ 3 [104,111,117,114] (by decide) (by decide) (fun _=>rfl)]
   cases s == [104,111,117,114]with
   |true=>rfl
   |false =>
    rw[cond_false,cond_false,show(3:Int)+1=4 from rfl,st _ 4 [100,97,121] (by decide) (by decide) (fun _=>rfl)]
    cases s == [100,97,121]with
    |true=>rfl
    |false =>
     rw[cond_false,cond_false,L,J9r,J2 (by decide),cond_false]
end
section
open Go
theorem JGh{R:Type}(k:Nat)(hk:5100<k)(s:List UInt8)(K:Int->Option R): J03 k s K=K (UU s):=by
 unfold J03 Jtg Jev JqO
 dsimp only
 rw[JlR k _ (by decide) (by omega)]
 generalize hy:J9a (Yx s [[],[115,101,99,111,110,100],[109,105,110,117,116,101],[104,111,117,114],[100,97,121]] 0)=y
 unfold UU
 simp only[Yx]at hy
 cases s with
 |nil=>subst hy;rfl
 |cons c r =>
  have e:((c::r) == [])=false:=rfl
  rw[e,cond_false]at hy
  cases h1:(c::r) == [115,101,99,111,110,100]with
  |true=>rw[h1]at hy;subst hy;rfl
  |false =>
   cases h2:(c::r) == [109,105,110,117,116,101]with
   |true=>rw[h1,h2]at hy;subst hy;rfl
   |false =>
    cases h3:(c::r) == [104,111,117,114]with
    |true=>rw[h1,h2,h3]at hy;subst hy;rfl
    |false=>cases h4:(c::r) == [100,97,121]<;>rw[h1,h2,h3,h4]at hy<;>subst hy<;>rfl
abbrev Rl:=List UInt8×Int×Int×Nat×Bool×Bool
abbrev Jgf:List UInt8:=[117,110,108,105,109,105,116,101,100]
abbrev YZ:List UInt8:=[117,110,105,116]
abbrev UI:List UInt8:=[114,101,113,117,101,115,116,115,95,112,101,114,95,117,110,105,116]
abbrev QJ:List UInt8:=[110,101,97,114]
abbrev J08:List UInt8:=[110,97,109,101]
def has(nd:List Nd)(n:Int)(key:List UInt8): Bool:=(Jw nd n key).isSome
def J0a(nd:List Nd)(n u l:Int)(w:Nat)(b:Bool): Rz Rl:=(Qx (Jw nd n J08) [] (Zp nd)).bind fun s => .ok (s,u,l,w,false,b)
def J1c(nd:List Nd)(z:Nat)(n:Int): Rz Rl :=
 (YB nd n [Jgf,YZ,UI,QJ,J08]).bind fun _=>(Qx (Jw nd n Jgf) false (Zo nd)).bind fun b =>
  bif b then bif has nd n YZ || (has nd n UI || has nd n QJ)then .er (17,QT nd n)else J0a nd n 0 0 0 true
  else(Uq nd n YZ).bind fun u=>(Z0 nd u 1).bind fun _=>bif UU (Zq nd u) == 0 then .er (16,QT nd u)
   else(Uq nd n UI).bind fun q=>(J1j nd q).bind fun l=>(Qx (Jw nd n QJ) z (ZM nd)).bind fun w=>J0a nd n (UU (Zq nd u)) l w false
theorem Jv6(nd:List Nd)(z:Nat)(n:Int): Nz (J1c nd z n):=by
 have hN:∀ u l w b,Nz (J0a nd n u l w b):=fun u l w b=>Qz (J2u fun j=>Ug _) fun s=>trivial
 refine Qz (YC _) fun _=>Qz (J2u fun j=>Ug _) fun b=>J3T (J3T (show(17:Int)≠0 by decide) (hN _ _ _ _)) ?_
 exact Qz (J8G _ _ _) fun u=>Qz (YC _) fun _=>J3T (show(16:Int)≠0 by decide) (Qz (J8G _ _ _) fun q=>Qz (Ug _) fun l=>Qz (J2u fun j=>Ug _) fun w=>hN _ _ _ _)
theorem JfC{k:Nat}{nd:List Nd}(D:Dk k nd){n:Int}(h:InD nd n){key:List UInt8}{j:Int}(e:Uq nd n key = .ok j): InD nd j:=by
 unfold Uq at e
 cases hf:Jw nd n key with
 |none=>rw[hf]at e;cases e
 |some i=>rw[hf]at e;injection e with e;rw[←e];exact D.find h hf
theorem J5K{T R:Type}{r:Rz T}{K K':T->Option R}{E:Int->Int->Option R}(h:∀ x,r = .ok x->K x=K' x): r.run K E=r.run K' E:=by
 cases r with
 |ok x=>exact h x rfl
 |er f=>rfl
section
variable {R:Type} {k:Nat} {nd:List Nd} (D:Dk k nd) {n:Int} (h:InD nd n)
include D h
theorem Dk.snameo (d:List (List UInt8×List Int)) (b:List (List UInt8×(List UInt8×(Bool×(Int×(Int×(Bool×((List UInt8×(Int×(Int×(Nat×(Bool×Bool)))))×List Int)))))))) (z:Nat) (u l:Int) (w:Nat) (c:Bool)
 (K:List UInt8->Int->Int->Nat->Bool->Bool->Option R) (E:Int->Int->Option R) :
 QZ k nd n J08 (fun y19 y20=>bif y20 then UO k nd y19 (fun y21=>K y21 u l w false c) E else K [] u l w false c)=(J0a nd n u l w c).run (fun r=>K r.1 r.2.1 r.2.2.1 r.2.2.2.1 r.2.2.2.2.1 r.2.2.2.2.2) E:=by
 unfold J0a
 rw[D.sfind h,run_bind]
 cases hf:Jw nd n J08 with
 |none=>rfl
 |some j =>
  simp only[cond_true,Qx]
  rw[D.snamek (D.find h hf)]
  rfl
theorem Dk.srule (d:List (List UInt8×List Int)) (b:List (List UInt8×(List UInt8×(Bool×(Int×(Int×(Bool×((List UInt8×(Int×(Int×(Nat×(Bool×Bool)))))×List Int)))))))) (z:Nat)
 (K:List Nd->List (List UInt8×List Int)->List (List UInt8×(List UInt8×(Bool×(Int×(Int×(Bool×((List UInt8×(Int×(Int×(Nat×(Bool×Bool)))))×List Int)))))))->Nat->List UInt8->Int->Int->Nat->Bool->Bool->Option R)
 (E:List Nd->List (List UInt8×List Int)->List (List UInt8×(List UInt8×(Bool×(Int×(Int×(Bool×((List UInt8×(Int×(Int×(Nat×(Bool×Bool)))))×List Int)))))))->Nat->Int->Int->Option R) :
 J47 k nd d b z n K E=(J1c nd z n).run (fun r=>K nd d b z r.1 r.2.1 r.2.2.1 r.2.2.2.1 r.2.2.2.2.1 r.2.2.2.2.2) (E nd d b z):=by
 have hk:=D.hk
 unfold J47 J9n J1c
 rw[D.sknownk h _ (by decide),run_bind]
 refine J5K fun _ _ => ?_
 rw[D.sboolk h,run_bind]
 refine J5K fun c _ => ?_
 cases c with
 |true =>
  simp only[cond_true]
  obtain⟨m,rfl⟩:∃ m,k=m+4:=⟨k-4,by omega⟩
  generalize hz:m+4=q at D hk ⊢
  have hz':q=(((m+1)+1)+1)+1:=by omega
  have e0:∀ a1 a2 a3 a4 a5 a6 a7 a8,J0H q (@Qh q) (@QM q) (@Us q) (@QY q) (@QB q) (@Uw q) (@QZ q) (@UO q) (@Y0 q) (@J03 q) (@Z6 q) q nd d b z n a1 a2 a3 a4 a5 a6 a7 a8 0 K E =
   J0H q (@Qh q) (@QM q) (@Us q) (@QY q) (@QB q) (@Uw q) (@QZ q) (@UO q) (@Y0 q) (@J03 q) (@Z6 q) ((((m+1)+1)+1)+1) nd d b z n a1 a2 a3 a4 a5 a6 a7 a8 0 K E:=by
   intros;rw[←hz']
  rw[e0]
  have st:∀(j:Nat) (i:Nat) (key:List UInt8),i<3->(∀ z,([YZ,UI,QJ]:List (List UInt8)).getD i z=key) ->
   J0H q (@Qh q) (@QM q) (@Us q) (@QY q) (@QB q) (@Uw q) (@QZ q) (@UO q) (@Y0 q) (@J03 q) (@Z6 q) (j+1) nd d b z n [] 0 0 0 false true [YZ,UI,QJ] 3 (i:Int) K E =
   bif has nd n key then E nd d b z 17 (QT nd n)else J0H q (@Qh q) (@QM q) (@Us q) (@QY q) (@QB q) (@Uw q) (@QZ q) (@UO q) (@Y0 q) (@J03 q) (@Z6 q) j nd d b z n [] 0 0 0 false true [YZ,UI,QJ] 3 ((i+1:Nat):Int) K E:=by
   intro j i key hi hg
   have e3:((([YZ,UI,QJ]:List (List UInt8)).length:Nat):Int)=3:=rfl
   rw[J0H,JbP,J1 (by omega),cond_true,e3,Ja (by omega) (by omega),cond_true,Jb,hg,J8 (by omega) (by omega),show(i:Int)+1=((i+1:Nat):Int) by omega,D.sfind h]
   unfold has
   cases Jw nd n key with
   |none=>rfl
   |some y=>exact D.sfault h 17 (by decide) _
  have e3:((@List.length (@Kd.T Kd.str) [[(117:UInt8),110,105,116],[(114:UInt8),101,113,117,101,115,116,115,95,112,101,114,95,117,110,105,116],[(110:UInt8),101,97,114]]:Nat):Int)=3:=rfl
  rw[e3]
  have s0:=st (((m+1)+1)+1) 0 YZ (by decide) fun _=>rfl
  have s1:=st ((m+1)+1) 1 UI (by decide) fun _=>rfl
  have s2:=st (m+1) 2 QJ (by decide) fun _=>rfl
  refine Eq.trans s0 ?_
  cases has nd n YZ with
  |true=>rfl
  |false =>
   rw[cond_false,Bool.false_or]
   refine Eq.trans s1 ?_
   cases has nd n UI with
   |true=>rfl
   |false =>
    rw[cond_false,Bool.false_or]
    refine Eq.trans s2 ?_
    cases has nd n QJ with
    |true=>rfl
    |false =>
     rw[cond_false,cond_false,J0H,JbP,J2 (by decide),cond_false]
     exact D.snameo h d b z 0 0 0 true (K nd d b z) (E nd d b z)
 |false =>
  simp only[cond_false]
  rw[D.smust h,run_bind]
  refine J5K fun u hu => ?_
  have hu:=JfC D h hu
  obtain⟨l1,_⟩:=D.line hu
  rw[D.sneedk hu,run_bind]
  refine J5K fun _ _ => ?_
  rw[l1,cond_true,D.text hu,JGh k (by omega)]
  cases UU (Zq nd u) == 0 with
  |true=>exact D.sfault hu 16 (by decide) _
  |false =>
   simp only[cond_false]
   rw[D.smust h,run_bind]
   refine J5K fun q hq => ?_
   have hq:=JfC D h hq
   rw[D.snumk hq,run_bind]
   refine J5K fun l _ => ?_
   rw[D.sratio h,run_bind]
   refine J5K fun w _ => ?_
   exact D.snameo h d b z _ l w false (K nd d b z) (E nd d b z)
end
end
end Go.Proofs.YtabkhphoacmcdaaGreatDoor.Pvm
end
