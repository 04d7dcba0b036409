/- For every document d the Go function ConfigDocs of turncocklaw17 returns true. -/
import Derived.Lib.TrimU
import Derived.KernelRfl
import Derived.Test.YtabkhphoacmcdaaGreatDoorCards
import Derived.Test.YtabkhphoacmcdaaGreatDoorTie
import Derived.LaidMore
import Derived.Lay
import Derived.SevenTiedAt
import Derived.Stop.Joined
import Derived.Test.YtabkhphoacmcdaaGreatDoorRows
import Derived.Test.YtabkhphoacmcdaaGreatDoorConfigDocsM0
import Derived.Test.YtabkhphoacmcdaaGreatDoorConfigDocsM1
import Derived.Test.YtabkhphoacmcdaaGreatDoorConfigDocsM2
import Derived.Test.YtabkhphoacmcdaaGreatDoorConfigDocsM3
import Derived.Test.YtabkhphoacmcdaaGreatDoorConfigDocsM4
set_option linter.unusedVariables false
set_option linter.unusedSimpArgs false
set_option linter.unusedSectionVars false
noncomputable section
namespace Go.Proofs.YtabkhphoacmcdaaGreatDoor.Pvm
open Go
def isD(c:UInt8): Bool:=decide (48≤c.toNat)&&decide (c.toNat≤57)
def dgt(c:UInt8): Nat:=c.toNat-48
def valF(f:Nat→Nat→Nat): Nat→List UInt8→Nat
 |a,[]=>a
 |a,c::r=>valF f (f a (dgt c)) r
def stpN(x y:Nat): Nat:=10*x+y
def valN(a:Nat)(s:List UInt8): Nat:=valF stpN a s
theorem valF_c(f:Nat→Nat→Nat)(a:Nat)(c:UInt8)(r:List UInt8): valF f a (c::r)=valF f (f a (dgt c)) r:=by rw[valF]
theorem valN_c(a:Nat)(c:UInt8)(r:List UInt8): valN a (c::r)=valN (10*a+dgt c) r:=valF_c stpN a c r
theorem valN_n(a:Nat): valN a []=a:=rfl
theorem isD_at{c:UInt8}(h:isD c=true): 48≤c.toNat∧c.toNat≤57:=by
 simpa [isD]using h
theorem dgt_le{c:UInt8}(h:isD c=true): dgt c≤9:=by have:=isD_at h;unfold dgt;omega
theorem wq183:∀(s:List UInt8) (a:Nat),a≤valN a s
 |[],a=>Nat.le_refl _
 |c::r,a=>by
  have:=wq183 r (10*a+dgt c)
  rw[valN_c];omega
theorem wqlz:∀(s:List UInt8) (a:Nat) (c:UInt8),valN a (s++[c])=10*valN a s+dgt c
 |[],a,c=>by rw[List.nil_append,valN_c,valN_n,valN_n]
 |x::r,a,c=>by rw[List.cons_append,valN_c,valN_c,wqlz r _ c]
theorem wq1h6:∀(s:List UInt8) (a:Nat),a*10 ^ s.length≤valN a s
 |[],a=>by rw[valN_n];simp
 |c::r,a=>by
  have:=wq1h6 r (10*a+dgt c)
  rw[valN_c,List.length_cons,Nat.pow_succ]
  refine Nat.le_trans ?_ this
  rw[Nat.add_mul]
  have e:10*a*10 ^ r.length=a*(10 ^ r.length*10):=by rw[Nat.mul_comm 10 a,Nat.mul_assoc,Nat.mul_comm 10]
  omega
def lead:List UInt8→Bool
 |c::_::_=>c == 48
 |_=>false
def canon(s:List UInt8): Bool:=s.all isD&&(!(s == []) && !lead s)
def bigM:Nat:=4611686018427387904
def numS(s:List UInt8): Option Nat:=bif canon s&&decide (valN 0 s≤bigM)then some (valN 0 s)else none
def numK{R:Type}(K:Int→Bool→Option R): Option Nat→Option R
 |some v=>K (v:Int) true
 |none=>K 0 false
theorem wqod(k:Nat){R:Type}(c:UInt8)(K:Bool→Option R): wqdj k (c.toNat:Int) K=K (isD c):=by
 unfold wqdj wq10o isD
 have h1:decide ((c.toNat:Int)≥48)=decide (48≤c.toNat):=by rw[Bool.eq_iff_iff];simp;omega
 have h2:decide ((c.toNat:Int)≤57)=decide (c.toNat≤57):=by rw[Bool.eq_iff_iff];simp;omega
 rw[h1,h2]
 cases decide (48≤c.toNat)<;>rfl
theorem dig_at{c:UInt8}(h:isD c=true): IntKind.i64.wrap (IntKind.u8.wrap ((c.toNat:Int)-48))=(dgt c:Int):=by
 have:=isD_at h
 have e:(c.toNat:Int)-48=(dgt c:Int):=by unfold dgt;omega
 have:=dgt_le h
 rw[e,wqn (by omega) (by omega),wqm (by omega) (by omega)]
theorem wqq5(k:Nat){R:Type}(s:List UInt8)(hs:s.length≤19)(K:Int→Bool→Option R): ∀(t:List UInt8) (i m n:Nat),s.drop i=t→t.length<m→i≤s.length→n≤bigM →
 wq7d k m s (n:Int) (i:Int) K=bif t.all isD&&decide (valN n t≤bigM)then K (valN n t:Int) true else K 0 false
 |t,i,0,n,_,h,_,_=>by omega
 |[],i,m+1,n,hd,h,hi,hn=>by
  have:=wq2t hd
  rw[wq7d,wqd5]
  simp(disch:=omega)only[dec_t,dec_f,ieq_t,ieq_f,ine_t,ine_f,inb_t,bnd_t,wqm,wqn,cond_true,cond_false,Bool.not_true,Bool.not_false,Bool.true_or,Bool.or_true,Bool.false_or,Bool.or_false,Bool.true_and,Bool.and_true,Bool.false_and,Bool.and_false,wq2,wq0,wq1]
  have e:(([]:List UInt8).all isD&&decide (valN n []≤bigM))=true:=by rw[valN_n,dec_t hn];rfl
  rw[e,valN_n];rfl
 |c::r,i,m+1,n,hd,h,hi,hn=>by
  obtain⟨hlt,hc,hr⟩:=wq10 hd
  rw[wq7d,wqd5]
  simp(disch:=omega)only[dec_t,dec_f,ieq_t,ieq_f,ine_t,ine_f,inb_t,bnd_t,wqm,wqn,cond_true,cond_false,Bool.not_true,Bool.not_false,Bool.true_or,Bool.or_true,Bool.false_or,Bool.or_false,Bool.true_and,Bool.and_true,Bool.false_and,Bool.and_false,wq2,wq0,wq1,hc,wq33]
  rw[wqod,List.all_cons]
  cases hD:isD c with
  |false=>rfl
  |true =>
   have h9:=dgt_le hD
   have hM:bigM=4611686018427387904:=rfl
   simp only[Bool.not_true,cond_false,Bool.true_and,dig_at hD]
   have e1:IntKind.i64.wrap (4611686018427387904-(dgt c:Int))=((bigM-dgt c:Nat):Int):=by rw[wqm (by omega) (by omega)];omega
   have e2:(((bigM-dgt c:Nat):Int).tdiv 10)=(((bigM-dgt c) / 10:Nat):Int):=rfl
   rw[e1,e2,wqm (x:=(((bigM-dgt c) / 10:Nat):Int)) (by omega) (by omega),valN_c]
   by_cases hb:n>(bigM-dgt c) / 10
   ·have h1:¬ (10*n+dgt c≤bigM):=by omega
    have h2:=wq183 r (10*n+dgt c)
    rw[dec_t (show(n:Int)>(((bigM-dgt c) / 10:Nat):Int) by omega),cond_true,dec_f (show ¬ valN (10*n+dgt c) r≤bigM by omega),Bool.and_false]
    rfl
   ·have h1:10*n+dgt c≤bigM:=by omega
    rw[dec_f (show ¬ (n:Int)>(((bigM-dgt c) / 10:Nat):Int) by omega),cond_false]
    have e3:IntKind.i64.wrap (IntKind.i64.wrap ((n:Int)*10)+(dgt c:Int))=((10*n+dgt c:Nat):Int):=by
     rw[wqm (x:=(n:Int)*10) (by omega) (by omega),wqm (by omega) (by omega)];omega
    rw[e3]
    exact wqq5 k s hs K r (i+1) m (10*n+dgt c) hr (by simp at h;omega) (by omega) h1
theorem wq1cj{s:List UInt8}(h:canon s=true)(hl:19<s.length): bigM<valN 0 s:=by
 unfold canon at h
 simp only[Bool.and_eq_true,Bool.not_eq_true']at h
 obtain⟨h1,_,h3⟩:=h
 match s,h1,h3,hl with
 |c::d::r,h1,h3,hl =>
  rw[List.all_cons,Bool.and_eq_true]at h1
  have hc:=isD_at h1.1
  have hne:c.toNat≠48:=by
   intro e
   have:c=48:=by
    have:=congrArg UInt8.ofNat e
    simpa using this
   rw[this]at h3
   cases h3
  have hp:=wq1h6 (d::r) (10*0+dgt c)
  have hge:1≤10*0+dgt c:=by unfold dgt;omega
  have h19:10 ^ 19≤10 ^ (d::r).length:=Nat.pow_le_pow_right (by omega) (by simp at hl ⊢;omega)
  have h10:bigM<10 ^ 19:=by decide
  have hmul:1*10 ^ (d::r).length≤(10*0+dgt c)*10 ^ (d::r).length:=Nat.mul_le_mul_right _ hge
  rw[valN_c]
  omega
 |[c],_,_,hl=>simp at hl
theorem wq1h7(c:UInt8)(r:List UInt8): (bif decide (((c::r).length:Int)>1)then(c.toNat:Int) == 48 else false)=lead (c::r):=by
 cases r with
 |nil=>rfl
 |cons d r =>
  have e:((c.toNat:Int) == 48)=(c == 48):=u8_beq c 48 (by omega)
  rw[dec_t (by simp;omega),cond_true,e]
  rfl
theorem wq184(k:Nat){R:Type}(s:List UInt8)(hk:30<k)(K:Int→Bool→Option R): wqio k s K=numK K (numS s):=by
 unfold wqio wqri numS
 cases s with
 |nil=>rfl
 |cons c r =>
  have h0:decide (((c::r).length:Int)<1)=false:=dec_f (by simp;omega)
  have h2:inb 0 ((c::r).length:Int)=true:=inb_t (by omega) (by simp<;>omega)
  have h3:∀ z,(c::r).getD (Int.toNat 0) z=c:=fun _=>rfl
  rw[h0,cond_false]
  simp only[h2,h3,Bool.or_true,cond_true,wq1h7]
  by_cases hl:(c::r).length>19
  ·rw[dec_t (show((c::r).length:Int)>19 by omega),cond_true]
   cases hc:canon (c::r)with
   |false=>rfl
   |true =>
    have:=wq1cj hc hl
    rw[dec_f (show ¬ valN 0 (c::r)≤bigM by omega)];rfl
  ·rw[dec_f (show ¬ ((c::r).length:Int)>19 by omega),cond_false]
   unfold canon
   have h4:((c::r) == [])=false:=rfl
   rw[h4]
   cases hld:lead (c::r)with
   |true=>simp only[cond_true,Bool.not_true,Bool.and_false,Bool.false_and,cond_false,numK]
   |false =>
    simp only[cond_false,Bool.not_false,Bool.and_true,Bool.true_and]
    refine Eq.trans (wqq5 k (c::r) (by omega) K (c::r) 0 k 0 rfl (by omega) (by omega) (Nat.zero_le _)) ?_
    cases(c::r).all isD&&decide (valN 0 (c::r)≤bigM)<;>rfl
theorem wq185(k:Nat){R:Type}(n:Nat)(hn:n≤bigM)(K:Int→Option R): wqcm k (n:Int) K=K (n:Int):=by
 unfold wqcm wq168
 have hM:bigM=4611686018427387904:=rfl
 simp only[cond_true,cond_false]
 congr 1
 split<;>split<;>omega
theorem mul_eq(k:Nat){R:Type}(n:Nat)(hn:n≤bigM)(K:Int→Option R): wqs3 k (n:Int) 10 K=K ((min (10*n) bigM:Nat):Int):=by
 have hM:bigM=4611686018427387904:=rfl
 unfold wqs3 wq1c9
 have h10:=wq185 k (R:=R) 10 (by omega)
 have h10':∀ K:Int→Option R,wqcm k 10 K=K 10:=h10
 rw[wq185 k n hn,h10']
 have e1:decide ((10:Int)>0)=true:=rfl
 have e2:((10:Int) != 0)=true:=rfl
 have e3:IntKind.i64.wrap (Int.tdiv 4611686018427387904 10)=461168601842738790:=by decide +kernel
 simp only[e1,e2,e3,Bool.or_true,cond_true]
 by_cases h:n>461168601842738790
 ·rw[dec_t (by omega),cond_true]
  congr 1
  omega
 ·rw[dec_f (by omega),cond_false,wqm (by omega) (by omega)]
  congr 1
  omega
theorem add_eq(k:Nat){R:Type}(a b:Nat)(ha:a≤bigM)(hb:b≤bigM)(K:Int→Option R): wqs2 k (a:Int) (b:Int) K=K ((min (a+b) bigM:Nat):Int):=by
 have hM:bigM=4611686018427387904:=rfl
 unfold wqs2 wq1c8
 rw[wq185 k a ha,wq185 k b hb,wqm (by omega) (by omega)]
 by_cases h:(a:Int)>4611686018427387904-(b:Int)
 ·rw[dec_t h,cond_true]
  congr 1
  omega
 ·rw[dec_f h,cond_false,wqm (by omega) (by omega)]
  congr 1
  omega
def decL:Nat→Nat→List UInt8→List UInt8
 |0,_,acc=>acc
 |f+1,a,acc=>if a=0 then acc else decL f (a / 10) (UInt8.ofNat (48+a % 10)::acc)
def decS(n:Nat): List UInt8:=decL 25 (n / 10) [UInt8.ofNat (48+n % 10)]
theorem wq1h8(a:Nat): IntKind.u8.wrap (IntKind.i64.wrap (48+((a:Int).tmod 10)))=((UInt8.ofNat (48+a % 10)).toNat:Int):=by
 have e:(a:Int).tmod 10=((a % 10:Nat):Int):=rfl
 rw[e,wqm (by omega) (by omega),wqn (by omega) (by omega)]
 have:(UInt8.ofNat (48+a % 10)).toNat=48+a % 10:=by simp;omega
 rw[this];omega
theorem wq131(k:Nat){R:Type}(K:List UInt8→Option R): ∀(f a m:Nat) (acc:List UInt8),a<10 ^ f→f<m→acc.length+f≤100→a≤bigM→wq77 k m (a:Int) (wq5d acc) K=K (decL f a acc)
 |f,a,0,acc,_,h,_,_=>by omega
 |0,a,m+1,acc,ha,h,hl,hM=>by
  have:a=0:=by simpa using ha
  subst this
  rw[wq77,wqcu,decL]
  have e:decide (((0:Nat):Int)>0)=false:=rfl
  rw[e,cond_false,wqco]
 |f+1,a,m+1,acc,ha,h,hl,hM=>by
  have hM':bigM=4611686018427387904:=rfl
  rw[wq77,wqcu,decL]
  by_cases h0:a=0
  ·subst h0
   have e:decide (((0:Nat):Int)>0)=false:=rfl
   rw[e,cond_false,wqco,if_pos rfl]
  ·rw[dec_t (by omega),cond_true,if_neg h0,wq1h8]
   have e1:([((UInt8.ofNat (48+a % 10)).toNat:Int)]:List Int)=wq5d [UInt8.ofNat (48+a % 10)]:=rfl
   have e2:(a:Int).tdiv 10=((a / 10:Nat):Int):=rfl
   have e3:wq5d [UInt8.ofNat (48+a % 10)]++wq5d acc=wq5d (UInt8.ofNat (48+a % 10)::acc):=rfl
   rw[e1,e2,wqm (by omega) (by omega),fits_t (by rw[wqb3,wqb3];simp;omega) (by rw[wqb3,wqb3];simp;omega),cond_true,e3]
   exact wq131 k K f (a / 10) m _ (by rw[Nat.pow_succ]at ha;omega) (by omega) (by simp;omega) (by omega)
theorem wq1it(k:Nat){R:Type}(n:Nat)(hn:n≤bigM)(hk:30<k)(K:List UInt8→Option R): wq4w k (n:Int) K=K (decS n):=by
 have hM:bigM=4611686018427387904:=rfl
 unfold wq4w wqqo
 rw[wq185 k n hn,wq1h8]
 have e1:([((UInt8.ofNat (48+n % 10)).toNat:Int)]:List Int)=wq5d [UInt8.ofNat (48+n % 10)]:=rfl
 have e2:(n:Int).tdiv 10=((n / 10:Nat):Int):=rfl
 rw[e1,e2,wqm (by omega) (by omega)]
 exact wq131 k K 25 (n / 10) k _ (by have h25:(10:Nat) ^ 25=10000000000000000000000000:=(by decide);omega) (by omega) (by simp) (by omega)
theorem dig_is(a:Nat): isD (UInt8.ofNat (48+a % 10))=true∧dgt (UInt8.ofNat (48+a % 10))=a % 10:=by
 have:(UInt8.ofNat (48+a % 10)).toNat=48+a % 10:=by simp;omega
 unfold isD dgt
 rw[this]
 exact⟨by simp;omega,by omega⟩
theorem wq1ck:∀(f a:Nat) (acc:List UInt8),a<10 ^ f→∃ p,decL f a acc=p++acc∧valN 0 p=a∧p.all isD=true∧(∀ c r,p=c::r→c≠48)∧(p=[]↔a=0)
 |0,a,acc,h=>by
  have:a=0:=by simpa using h
  subst this
  exact⟨[],rfl,rfl,rfl,(fun c r h=>by cases h),by simp⟩
 |f+1,a,acc,h=>by
  rw[decL]
  by_cases h0:a=0
  ·rw[if_pos h0]
   subst h0
   exact⟨[],rfl,rfl,rfl,(fun c r h=>by cases h),by simp⟩
  ·rw[if_neg h0]
   obtain⟨p,e1,e2,e3,e4,e5⟩:=wq1ck f (a / 10) (UInt8.ofNat (48+a % 10)::acc) (by rw[Nat.pow_succ]at h;omega)
   obtain⟨d1,d2⟩:=dig_is a
   refine⟨p++[UInt8.ofNat (48+a % 10)],by rw[e1];simp,by rw[wqlz,e2,d2];omega,by rw[List.all_append,e3,List.all_cons,d1];rfl,fun c r hp => ?_,by simp;omega⟩
   cases p with
   |nil =>
    have ha:a / 10=0:=e5.1 rfl
    rw[List.nil_append]at hp
    injection hp with hc _
    intro hc2
    rw[←hc]at hc2
    have:=congrArg UInt8.toNat hc2
    have e:(UInt8.ofNat (48+a % 10)).toNat=48+a % 10:=by simp;omega
    rw[e]at this
    have:48+a % 10=48:=this
    omega
   |cons x p=>injection hp with hc _;exact fun e=>e4 x p rfl (hc.trans e)
theorem wq1iu(n:Nat)(hn:n≤bigM): canon (decS n)=true∧valN 0 (decS n)=n:=by
 have hM:bigM=4611686018427387904:=rfl
 have h25:(10:Nat) ^ 25=10000000000000000000000000:=by decide
 obtain⟨p,e1,e2,e3,e4,e5⟩:=wq1ck 25 (n / 10) [UInt8.ofNat (48+n % 10)] (by omega)
 obtain⟨d1,d2⟩:=dig_is n
 unfold decS
 rw[e1]
 refine⟨?_,by rw[wqlz,e2,d2];omega⟩
 unfold canon
 rw[List.all_append,e3,List.all_cons,d1]
 cases p with
 |nil=>rfl
 |cons x p =>
  have hx:=e4 x p rfl
  have:lead (x::p++[UInt8.ofNat (48+n % 10)])=false:=by
   cases p<;>simpa [lead]using hx
  rw[this];rfl
theorem wq1iv:∀(p:List UInt8) (f:Nat) (acc:List UInt8),p.all isD=true→(∀ c r,p=c::r→c≠48)→p.length≤f→decL f (valN 0 p) acc=p++acc:=by
 intro p
 induction hn:p.length generalizing p with
 |zero =>
  intro f acc _ _ _
  have:p=[]:=List.eq_nil_of_length_eq_zero hn
  subst this
  cases f with
  |zero=>rfl
  |succ f=>rfl
 |succ n ih =>
  intro f acc h1 h2 h3
  have hne:p≠[]:=fun e=>by rw[e]at hn;cases hn
  obtain⟨q,c,rfl⟩:∃ q c,p=q++[c]:=⟨p.dropLast,p.getLast hne,(List.dropLast_concat_getLast hne).symm⟩
  rw[List.all_append,Bool.and_eq_true]at h1
  have hc:isD c=true:=by simpa using h1.2
  have h9:=dgt_le hc
  have hq:q.length=n:=by simpa using hn
  obtain⟨g,rfl⟩:∃ g,f=g+1:=⟨f-1,by omega⟩
  have hv:valN 0 (q++[c])≠0:=by
   cases q with
   |nil =>
    have:=h2 c [] rfl
    have hc':=isD_at hc
    rw[List.nil_append,valN_c,valN_n]
    unfold dgt
    have:c.toNat≠48:=fun e=>this (by have:=congrArg UInt8.ofNat e;simpa using this)
    omega
   |cons x q =>
    have:=h2 x (q++[c]) rfl
    rw[List.all_cons,Bool.and_eq_true]at h1
    have hx':=isD_at h1.1.1
    have hne:x.toNat≠48:=fun e=>this (by have:=congrArg UInt8.ofNat e;simpa using this)
    have:=wq183 (q++[c]) (10*0+dgt x)
    rw[List.cons_append,valN_c]
    unfold dgt at this ⊢
    omega
  rw[decL,if_neg hv,wqlz]
  have e1:(10*valN 0 q+dgt c) / 10=valN 0 q:=by omega
  have e2:UInt8.ofNat (48+(10*valN 0 q+dgt c) % 10)=c:=by
   have:48+(10*valN 0 q+dgt c) % 10=c.toNat:=by have:=isD_at hc;unfold dgt at h9 ⊢;omega
   rw[this];simp
  rw[e1,e2,ih q hq g (c::acc) h1.1 (fun x r hx=>h2 x (r++[c]) (by rw[hx];rfl)) (by omega)]
  simp
theorem wq1iw{s:List UInt8}(h:canon s=true)(hl:s.length≤20): decS (valN 0 s)=s:=by
 unfold canon at h
 simp only[Bool.and_eq_true,Bool.not_eq_true',beq_eq_false_iff_ne]at h
 obtain⟨h1,h2,h3⟩:=h
 obtain⟨q,c,rfl⟩:∃ q c,s=q++[c]:=⟨s.dropLast,s.getLast h2,(List.dropLast_concat_getLast h2).symm⟩
 rw[List.all_append,Bool.and_eq_true]at h1
 have hc:isD c=true:=by simpa using h1.2
 have h9:=dgt_le hc
 unfold decS
 rw[wqlz]
 have e1:(10*valN 0 q+dgt c) / 10=valN 0 q:=by omega
 have e2:UInt8.ofNat (48+(10*valN 0 q+dgt c) % 10)=c:=by
  have:48+(10*valN 0 q+dgt c) % 10=c.toNat:=by have:=isD_at hc;unfold dgt at h9 ⊢;omega
  rw[this];simp
 rw[e1,e2]
 refine wq1iv q 25 [c] h1.1 (fun x r hx => ?_) (by simp at hl;omega)
 intro e
 subst hx e
 cases r<;>simp[lead]at h3
def stpM(x y:Nat): Nat:=min (10*x+y) bigM
def satN(a:Nat)(s:List UInt8): Nat:=valF stpM a s
theorem satN_c(a:Nat)(c:UInt8)(r:List UInt8): satN a (c::r)=satN (min (10*a+dgt c) bigM) r:=valF_c stpM a c r
theorem satN_n(a:Nat): satN a []=a:=rfl
theorem wq1jl:∀(s:List UInt8) (a:Nat),a≤bigM→satN a s=min (valN a s) bigM
 |[],a,h=>by rw[satN_n,valN_n];omega
 |c::r,a,h=>by
  rw[satN_c,valN_c,wq1jl r _ (Nat.min_le_right _ _)]
  by_cases hx:10*a+dgt c≤bigM
  ·rw[Nat.min_eq_left hx]
  ·have h1:=wq183 r (10*a+dgt c)
   have h2:=wq183 r (min (10*a+dgt c) bigM)
   omega
theorem wq1lc{s:List UInt8}{p:Nat}(hp:p<s.length)(h:(s.getD p 0).toNat<128): nxtC s (p:Int)=((s.getD p 0).toNat:Int)∧nxtP s (p:Int)=((p+1:Nat):Int):=by
 have hg:=get_of s p hp
 have hd:=wq1h5 (⟨s.toArray⟩:ByteArray) p (by rw[hg];exact h)
 unfold nxtC nxtP nxtW
 rw[wq1,hd,hg]
 refine⟨rfl,?_⟩
 rw[dec_t (by omega),cond_true]
 omega
theorem wq1kq{s:List UInt8}{p:Nat}(hp:p<s.length)(h:128≤(s.getD p 0).toNat): 128≤nxtC s (p:Int):=by
 have hg:=get_of s p hp
 have hd:=wq1el (⟨s.toArray⟩:ByteArray) p (by rw[hg];exact h)
 unfold nxtC
 rw[wq1]
 have:=hd.1
 omega
theorem wq111{s:List UInt8}{p:Nat}{c:UInt8}{r:List UInt8}(hd:s.drop p=c::r): (bif decide (nxtC s (p:Int)<48)then true else decide (nxtC s (p:Int)>57)) = !isD c∧(isD c=true→nxtC s (p:Int)=(c.toNat:Int)∧nxtP s (p:Int)=((p+1:Nat):Int)):=by
 obtain⟨hlt,hc,hr⟩:=wq10 hd
 have hc0:=hc 0
 by_cases h:c.toNat<128
 ·obtain⟨h1,h2⟩:=wq1lc hlt (by rw[hc0];exact h)
  rw[hc0]at h1
  refine⟨?_,fun _=>⟨h1,h2⟩⟩
  rw[h1,Bool.eq_iff_iff]
  unfold isD
  cases hx:decide ((c.toNat:Int)<48)with
  |true =>
   have:=of_decide_eq_true hx
   have:decide (48≤c.toNat)=false:=dec_f (by omega)
   simp[this]
  |false =>
   have:=of_decide_eq_false hx
   have e1:decide (48≤c.toNat)=true:=dec_t (by omega)
   rw[cond_false,e1]
   simp
   omega
 ·have h1:=wq1kq hlt (by rw[hc0];omega)
  refine⟨?_,fun hD=>by have:=isD_at hD;omega⟩
  rw[dec_f (by omega),cond_false,dec_t (by omega)]
  unfold isD
  have:decide (c.toNat≤57)=false:=dec_f (by omega)
  rw[this,Bool.and_false];rfl
theorem wq1h9{c:UInt8}(h:isD c=true): IntKind.i64.wrap (IntKind.i32.wrap ((c.toNat:Int)-48))=(dgt c:Int):=by
 have:=isD_at h
 have e:(c.toNat:Int)-48=(dgt c:Int):=by unfold dgt;omega
 have h9:=dgt_le h
 have e2:IntKind.i32.wrap (dgt c:Int)=(dgt c:Int):=by
  have:dgt c<10:=by omega
  generalize dgt c=n at this
  match n,this with
  |0,_|1,_|2,_|3,_|4,_|5,_|6,_|7,_|8,_|9,_=>rfl
 rw[e,e2,wqm (by omega) (by omega)]
theorem wqts(k:Nat){R:Type}(s:List UInt8)(hk:30<k)(K:Int→Bool→Option R): ∀(t:List UInt8) (p m n:Nat),s.drop p=t→t.length<m→p≤s.length→n≤bigM →
 wq82 k m s (n:Int) s (p:Int) K=bif t.all isD then(bif !(decS (satN n t) == s)then K 0 false else K (satN n t:Int) true)else K 0 false
 |t,p,0,n,_,h,_,_=>by omega
 |[],p,m+1,n,hd,h,hp,hn=>by
  have:=wq2t hd
  rw[wq82,wqe3,dec_f (by omega),cond_false,wq1it k n hn hk]
  rfl
 |c::r,p,m+1,n,hd,h,hp,hn=>by
  obtain⟨hlt,_,hr⟩:=wq10 hd
  obtain⟨h1,h2⟩:=wq111 hd
  rw[wq82,wqe3,dec_t (by omega),cond_true,cond_true,h1,List.all_cons]
  cases hD:isD c with
  |false=>rfl
  |true =>
   obtain⟨h3,h4⟩:=h2 hD
   have h9:=dgt_le hD
   have hM:bigM=4611686018427387904:=rfl
   simp only[Bool.not_true,cond_false,Bool.true_and]
   rw[h3,h4,wq1h9 hD,mul_eq k n hn,add_eq k _ _ (Nat.min_le_right _ _) (by omega),satN_c]
   have e:min (min (10*n) bigM+dgt c) bigM=min (10*n+dgt c) bigM:=by omega
   rw[e]
   exact wqts k s hk K r (p+1) m _ hr (by simp at h;omega) (by omega) (Nat.min_le_right _ _)
theorem wq1b4(k:Nat){R:Type}(s:List UInt8)(hk:30<k)(hk2:s.length<k)(K:Int→Bool→Option R): wqk4 k s K=numK K (numS s):=by
 unfold wqk4 wqup
 have:=wqts k s hk K s 0 k 0 rfl hk2 (Nat.zero_le _) (Nat.zero_le _)
 refine Eq.trans this ?_
 rw[wq1jl s 0 (Nat.zero_le _)]
 have hM:bigM=4611686018427387904:=rfl
 obtain⟨c1,c2⟩:=wq1iu (min (valN 0 s) bigM) (Nat.min_le_right _ _)
 unfold numS
 cases ha:s.all isD with
 |false =>
  have:canon s=false:=by unfold canon;rw[ha,Bool.false_and]
  rw[this];rfl
 |true =>
  rw[cond_true]
  cases hcn:canon s with
  |false =>
   have:(decS (min (valN 0 s) bigM) == s)=false:=by
    rw[beq_eq_false_iff_ne]
    intro e
    rw[e,hcn]at c1;cases c1
   rw[this];rfl
  |true =>
   by_cases hv:valN 0 s≤bigM
   ·have hl:s.length≤20:=by
     by_cases h19:19<s.length
     ·have:=wq1cj hcn h19;omega
     ·omega
    rw[dec_t hv,Nat.min_eq_left hv,wq1iw hcn hl]
    simp[numK]
   ·have:(decS (min (valN 0 s) bigM) == s)=false:=by
     rw[beq_eq_false_iff_ne]
     intro e
     rw[e]at c2
     omega
    rw[this,dec_f hv];rfl
def fW:Nat:=9223372036854775808
def fI:Nat:=9218868437227405312
theorem inf_is:Ieee.double.infRung=fI:=by decide +kernel
theorem sw_is:Ieee.double.signWeight=fW:=by decide +kernel
theorem bin_is:Ieee.double.binade=4503599627370496:=by decide +kernel
theorem wq1ld(f:Ieee.Format)(m:Nat)(e:Int): f.nearest false m e≤f.infRung:=by
 unfold Ieee.Format.nearest
 dsimp only
 split
 ·simp[Ieee.Format.word]
 ·simp only[Ieee.Format.word,Bool.false_eq_true,if_false]
  exact Nat.min_le_right _ _
theorem wq186(m:Nat)(e:Int): Ieee.double.nearest false m e≤fI:=by
 have:=wq1ld Ieee.double m e
 rw[inf_is]at this
 exact this
theorem wq151(n:Nat): fltOf (n:Int)≤fI:=by
 unfold fltOf FloatKind.nearest FloatKind.encode
 have:decide ((n:Int)<0)=false:=dec_f (by omega)
 rw[this]
 exact wq186 _ _
theorem wq1b5{r:Nat}(h:r≤fI): (∃ m e,Ieee.double.read r = .number false m e∧(m=0↔r=0))∨(Ieee.double.read r = .infinity false∧r=fI):=by
 have hI:fI=9218868437227405312:=rfl
 have hW:fW=9223372036854775808:=rfl
 have e1:(r / fW % 2 == 1)=false:=by rw[Nat.div_eq_of_lt (by omega)];rfl
 have e2:r % fW=r:=Nat.mod_eq_of_lt (by omega)
 unfold Ieee.Format.read
 rw[sw_is,inf_is,bin_is,e1,e2]
 dsimp only
 by_cases h1:r<4503599627370496
 ·rw[if_pos h1];exact .inl ⟨_,_,rfl,Iff.rfl⟩
 ·rw[if_neg h1]
  by_cases h2:r<fI
  ·rw[if_pos h2];exact .inl ⟨_,_,rfl,by omega⟩
  ·rw[if_neg h2,if_pos (by omega)];exact .inr ⟨rfl,by omega⟩
theorem wq1kr{r:Nat}(h:r≤fI): (∃ m e,Ieee.double.read (r+fW) = .number true m e∧(m=0↔r=0))∨(Ieee.double.read (r+fW) = .infinity true∧r=fI):=by
 have hI:fI=9218868437227405312:=rfl
 have hW:fW=9223372036854775808:=rfl
 have e1:((r+fW) / fW % 2 == 1)=true:=by
  have:(r+fW) / fW=1:=by rw[hW];omega
  rw[this];rfl
 have e2:(r+fW) % fW=r:=by rw[hW];omega
 unfold Ieee.Format.read
 rw[sw_is,inf_is,bin_is,e1,e2]
 dsimp only
 by_cases h1:r<4503599627370496
 ·rw[if_pos h1];exact .inl ⟨_,_,rfl,Iff.rfl⟩
 ·rw[if_neg h1]
  by_cases h2:r<fI
  ·rw[if_pos h2];exact .inl ⟨_,_,rfl,by omega⟩
  ·rw[if_neg h2,if_pos (by omega)];exact .inr ⟨rfl,by omega⟩
theorem wq1ix(m:Nat)(e:Int): Ieee.double.write (.number false m e)≤fI:=wq186 m e
theorem quo_ok{x y:Nat}(hx:x≤fI)(hy:y≤fI)(h0:y≠0)(h1:y≠fI): ∃ f,fltAr .quo x y=some f∧f≤fI:=by
 show ∃ f,Ieee.double.div x y=some f∧f≤fI
 unfold Ieee.Format.div
 rcases wq1b5 hy with⟨n,j,ey,hn⟩|⟨_,e⟩
 ·have hn0:n≠0:=fun e=>h0 (hn.1 e)
  rw[ey]
  rcases wq1b5 hx with⟨m,i,ex,_⟩|⟨ex,_⟩
  ·rw[ex]
   unfold Ieee.Datum.quotient
   dsimp only
   rw[if_neg hn0]
   exact⟨_,rfl,wq1ix _ _⟩
  ·rw[ex]
   refine⟨_,rfl,?_⟩
   show Ieee.double.word false Ieee.double.infRung≤fI
   rw[inf_is];exact Nat.le_refl _
 ·exact absurd e h1
theorem ten_ok:∀ k,k<7→fltOf ((10 ^ k:Nat):Int)≠0∧fltOf ((10 ^ k:Nat):Int)≠fI:=by decide +kernel
theorem wq1jm(x y:Int): compare x y=if x<y then .lt else if x=y then .eq else .gt:=rfl
theorem wq1jn(a b:Nat): fltC a b=(Ieee.double.read a).order (Ieee.double.read b):=rfl
theorem read_0:∃ i,Ieee.double.read 0 = .number false 0 i:=⟨-1074,by decide +kernel⟩
theorem pos_0{f:Nat}(h:f≤fI): fltC f 0=some (if f=0 then .eq else .gt):=by
 obtain⟨i0,e0⟩:=read_0
 rw[wq1jn,e0]
 rcases wq1b5 h with⟨m,i,e,hm⟩|⟨e,hf⟩
 ·rw[e]
  show some (compare (Ieee.signed false m _) (Ieee.signed false 0 _))=_
  unfold Ieee.signed
  rw[if_neg (by simp),if_neg (by simp),Nat.zero_shiftLeft,Nat.shiftLeft_eq,wq1jm,if_neg (by omega)]
  by_cases h0:f=0
  ·rw[if_pos h0,hm.2 h0,Nat.zero_mul,if_pos rfl]
  ·have hm0:m≠0:=fun e=>h0 (hm.1 e)
   have hp:0<m*2 ^ (i-min i i0).toNat:=Nat.mul_pos (Nat.pos_of_ne_zero hm0) (Nat.two_pow_pos _)
   rw[if_neg h0,if_neg (by omega)]
 ·rw[e,if_neg (by rw[hf];decide)];rfl
theorem neg_0{f:Nat}(h:f≤fI)(h0:f≠0): fltC (f+fW) 0=some .lt:=by
 obtain⟨i0,e0⟩:=read_0
 rw[wq1jn,e0]
 rcases wq1kr h with⟨m,i,e,hm⟩|⟨e,hf⟩
 ·rw[e]
  show some (compare (Ieee.signed true m _) (Ieee.signed false 0 _))=_
  unfold Ieee.signed
  have hm0:m≠0:=fun e=>h0 (hm.1 e)
  have hp:0<m*2 ^ (i-min i i0).toNat:=Nat.mul_pos (Nat.pos_of_ne_zero hm0) (Nat.two_pow_pos _)
  rw[if_pos rfl,if_neg (by simp),Nat.zero_shiftLeft,Nat.shiftLeft_eq,wq1jm,if_pos (by omega)]
 ·rw[e];rfl
theorem wq1cl{x:Int}(h1:0≤x)(h2:x<18446744073709551616): IntKind.u64.wrap x=x:=by
 simp only[IntKind.wrap,IntKind.bits,IntKind.signed]
 simp
 omega
theorem bv_of(n:Nat): BitVec.ofInt 64 (n:Int)=BitVec.ofNat 64 n:=BitVec.ofInt_natCast 64 n
theorem wq1ha(x:Nat)(h:x<18446744073709551616): ibits .andNot .u64 (x:Int) 9223372036854775808=((x % fW:Nat):Int):=by
 have hW:fW=2 ^ 63:=by decide
 have e1:(BitVec.ofNat 64 x &&& ~~~ BitVec.ofInt 64 9223372036854775808).toNat=x % fW:=by
  rw[BitVec.toNat_and]
  have e2:(~~~ BitVec.ofInt 64 9223372036854775808).toNat=2 ^ 63-1:=by decide +kernel
  rw[e2,BitVec.toNat_ofNat,Nat.mod_eq_of_lt (by omega),Nat.and_two_pow_sub_one_eq_mod,hW]
 have hlt:x % fW<9223372036854775808:=Nat.mod_lt _ (by decide)
 show IntKind.u64.wrap (((BitVec.ofInt 64 (x:Int) &&& ~~~ BitVec.ofInt 64 9223372036854775808).toNat:Nat):Int)=_
 rw[bv_of,e1,wq1cl (by omega) (by omega)]
theorem or_W(x:Nat)(h:x<fW): ibits .or .u64 (x:Int) 9223372036854775808=((x+fW:Nat):Int):=by
 have hW:fW=2 ^ 63:=by decide
 have hW':fW=9223372036854775808:=rfl
 have e1:(BitVec.ofNat 64 x ||| BitVec.ofInt 64 9223372036854775808).toNat=x+fW:=by
  rw[BitVec.toNat_or]
  have e2:(BitVec.ofInt 64 9223372036854775808).toNat=2 ^ 63:=by decide +kernel
  rw[e2,BitVec.toNat_ofNat,Nat.mod_eq_of_lt (by omega),Nat.or_comm]
  have:=Nat.two_pow_add_eq_or_of_lt (i:=63) (b:=x) (by omega) 1
  rw[Nat.mul_one]at this
  rw[←this,hW,Nat.add_comm]
 show IntKind.u64.wrap (((BitVec.ofInt 64 (x:Int) ||| BitVec.ofInt 64 9223372036854775808).toNat:Nat):Int)=_
 rw[bv_of,e1,wq1cl (by omega) (by omega)]
theorem wq187{x:Nat}(h:x<fW): fltNeg x=x+fW:=by
 have hW:fW=2 ^ 63:=by decide
 show x ^^^ 2 ^ (11+52)=x+fW
 have h2:=Nat.two_pow_add_eq_or_of_lt (i:=63) (b:=x) (by omega) 1
 rw[Nat.mul_one]at h2
 rw[hW,Nat.add_comm x,h2]
 apply Nat.eq_of_testBit_eq
 intro i
 rw[Nat.testBit_xor,Nat.testBit_or,Nat.testBit_two_pow]
 by_cases hi:63=i
 ·subst hi
  rw[Nat.testBit_lt_two_pow (by omega)];simp
 ·have:decide (11+52=i)=false:=dec_f (by omega)
  rw[this]
  simp[hi]
theorem Abs_eq(k:Nat){R:Type}(x:Nat)(h:x<18446744073709551616)(K:Nat→Option R): wq6o k x K=K (x % fW):=by
 unfold wq6o wq15y wq56 wq42
 dsimp only
 rw[wq1ha x h,wq1]
theorem wq1em(k:Nat){R:Type}(x:Nat)(h:x≤fI)(K:Nat→Option R): wq9h k x 13830554455654793216 K=K (fltNeg x):=by
 have hI:fI=9218868437227405312:=rfl
 have hW':fW=9223372036854775808:=rfl
 unfold wq9h wqpx wq56 wq42
 have e1:ibits .and .u64 ((13830554455654793216:Nat):Int) 9223372036854775808=9223372036854775808:=by decide +kernel
 dsimp only
 rw[wq1ha x (by omega),e1,Nat.mod_eq_of_lt (by omega),or_W x (by omega),wq1,wq187 (by omega)]
def fNaN:Nat:=9221120237041090561
def fNI:Nat:=18442240474082181120
def wholeP(s:List UInt8): List UInt8:=s.takeWhile isD
def wqip(w:List UInt8): Bool:=decide (1≤w.length)&&(decide (w.length≤9) && !lead w)
def partOk(p:List UInt8): Bool:=p.all isD&&(decide (1≤p.length)&&decide (p.length≤6))
def ratS(s:List UInt8): Option (List UInt8×List UInt8) :=
 bif wqip (wholeP s)then match s.drop (wholeP s).length with
  |[]=>some (wholeP s,[])
  |c::p=>bif c == 46&&partOk p then some (wholeP s,p)else none
 else none
def quoF(w p:List UInt8): Nat:=(fltAr .quo (fltOf (valN 0 (w++p):Int)) (fltOf ((10 ^ p.length:Nat):Int))).getD 0
def sT(s:List UInt8): List UInt8:=bif s.head? == some 45 then s.tail else s
def sM(s:List UInt8): Bool:=s.head? == some 45
def rdS(s:List UInt8): Option Nat :=
 bif s == [110,97,110]then some fNaN else bif s == [105,110,102]then some fI else bif s == [45,105,110,102]then some fNI else
  match ratS (sT s)with
  |none=>none
  |some (w,p)=>some (bif sM s then fltNeg (quoF w p)else quoF w p)
def rdK{R:Type}(K:Nat→Bool→Option R): Option Nat→Option R
 |some v=>K v true
 |none=>K 0 false
theorem wq1jo{w p:List UInt8}(h:p.length≤6): fltAr .quo (fltOf (valN 0 (w++p):Int)) (fltOf ((10 ^ p.length:Nat):Int))=some (quoF w p)∧quoF w p≤fI:=by
 obtain⟨t1,t2⟩:=ten_ok p.length (by omega)
 obtain⟨f,e,hf⟩:=quo_ok (wq151 (valN 0 (w++p))) (wq151 (10 ^ p.length)) t1 t2
 have:quoF w p=f:=by unfold quoF;rw[e];rfl
 rw[this]
 exact⟨e,hf⟩
theorem tw_all:∀ {s:List UInt8},s.all isD=true→wholeP s=s
 |[],_=>rfl
 |c::r,h=>by
  rw[List.all_cons,Bool.and_eq_true]at h
  have:=tw_all h.2
  unfold wholeP at this ⊢
  rw[List.takeWhile_cons,h.1,if_pos rfl,this]
theorem wq152(k:Nat){R:Type}(s:List UInt8)(most:Nat)(hk:s.length<k)(K:Bool→Option R): wq7k k s (most:Int) K=K (s.all isD&&(decide (1≤s.length)&&decide (s.length≤most))):=by
 unfold wq7k wqkv
 have loop:∀(t:List UInt8) (p m:Nat),s.drop p=t→t.length<m→p≤s.length→wq5f k m s (most:Int) s (p:Int) K=K (t.all isD&&(decide (1≤s.length)&&decide (s.length≤most))):=by
  intro t
  induction t with
  |nil =>
   intro p m hd hm hp
   have:=wq2t hd
   obtain⟨m,rfl⟩:∃ j,m=j+1:=⟨m-1,by simp at hm;omega⟩
   rw[wq5f,wqb6,dec_f (by omega),cond_false]
   congr 1
   have h1:decide ((s.length:Int)≥1)=decide (1≤s.length):=by rw[Bool.eq_iff_iff];simp;omega
   have h2:decide ((s.length:Int)≤(most:Int))=decide (s.length≤most):=by rw[Bool.eq_iff_iff];simp
   rw[h1,h2]
   cases decide (1≤s.length)<;>rfl
  |cons c r ih =>
   intro p m hd hm hp
   obtain⟨hlt,_,hr⟩:=wq10 hd
   obtain⟨h1,h2⟩:=wq111 hd
   obtain⟨m,rfl⟩:∃ j,m=j+1:=⟨m-1,by simp at hm;omega⟩
   rw[wq5f,wqb6,dec_t (by omega),cond_true,cond_true,h1,List.all_cons]
   cases hD:isD c with
   |false=>rfl
   |true =>
    simp only[Bool.not_true,cond_false,Bool.true_and]
    rw[(h2 hD).2]
    exact ih (p+1) m hr (by simp at hm;omega) (by omega)
 exact loop s 0 k rfl hk (Nat.zero_le _)
theorem wq1ks(k:Nat){R:Type}(s:List UInt8)(h:s.all isD=true)(hl:s.length≤16)(hk:s.length<k)(K:Int→Option R): wqbi k s K=K (valN 0 s:Int):=by
 unfold wqbi wqn5
 have h16:(10:Nat) ^ 16=10000000000000000:=by decide
 have loop:∀(t:List UInt8) (p m n:Nat),s.drop p=t→t.all isD=true→t.length<m→p≤s.length→n<10 ^ p→wq65 k m (n:Int) s (p:Int) K=K (valN n t:Int):=by
  intro t
  induction t with
  |nil =>
   intro p m n hd _ hm hp hn
   have:=wq2t hd
   obtain⟨m,rfl⟩:∃ j,m=j+1:=⟨m-1,by simp at hm;omega⟩
   rw[wq65,wqbx,dec_f (by omega),cond_false,valN_n]
  |cons c r ih =>
   intro p m n hd ht hm hp hn
   obtain⟨hlt,_,hr⟩:=wq10 hd
   rw[List.all_cons,Bool.and_eq_true]at ht
   obtain⟨h1,h2⟩:=wq111 hd
   obtain⟨h3,h4⟩:=h2 ht.1
   have h9:=dgt_le ht.1
   have hpw:10 ^ p≤10 ^ 16:=Nat.pow_le_pow_right (by omega) (by omega)
   obtain⟨m,rfl⟩:∃ j,m=j+1:=⟨m-1,by simp at hm;omega⟩
   rw[wq65,wqbx,dec_t (by omega),cond_true,cond_true,h3,h4,wq1h9 ht.1,valN_c]
   have e3:IntKind.i64.wrap (IntKind.i64.wrap (10*(n:Int))+(dgt c:Int))=((10*n+dgt c:Nat):Int):=by
    rw[wqm (x:=10*(n:Int)) (by omega) (by omega),wqm (by omega) (by omega)];omega
   rw[e3]
   exact ih (p+1) m (10*n+dgt c) hr ht.2 (by simp at hm;omega) (by omega) (by rw[Nat.pow_succ];omega)
 exact loop s 0 k 0 rfl h hk (Nat.zero_le _) (by decide)
theorem ten_fn(k:Nat){R:Type}(n:Nat)(hn:n≤15)(hk:n<k)(K:Int→Option R): wq7p k (n:Int) K=K ((10 ^ n:Nat):Int):=by
 unfold wq7p wqul
 have h16:(10:Nat) ^ 15=1000000000000000:=by decide
 have loop:∀(j i m:Nat),i+j=n→j<m→wq81 k m ((10 ^ i:Nat):Int) (n:Int) (i:Int) K=K ((10 ^ n:Nat):Int):=by
  intro j
  induction j with
  |zero =>
   intro i m h hm
   obtain⟨m,rfl⟩:∃ j,m=j+1:=⟨m-1,by omega⟩
   rw[wq81,wqe2,dec_f (by omega),cond_false,show i=n by omega]
  |succ j ih =>
   intro i m h hm
   have hpw:10 ^ i≤10 ^ 15:=Nat.pow_le_pow_right (by omega) (by omega)
   obtain⟨m,rfl⟩:∃ j,m=j+1:=⟨m-1,by omega⟩
   rw[wq81,wqe2,dec_t (by omega),cond_true]
   have e1:∀ q:Nat,q≤1000000000000000→IntKind.i64.wrap ((q:Int)*10)=((q*10:Nat):Int):=fun q hq=>by
    rw[wqm (by omega) (by omega)];omega
   rw[e1 _ (by omega),←Nat.pow_succ,wqm (by omega) (by omega),wq33]
   exact ih (i+1) m (by omega) (by omega)
 exact loop n 0 k (by omega) (by omega)
theorem wq1b6(k:Nat){R:Type}(s:List UInt8)(K:List UInt8→Bool→Option R): wq6s k s 45 K=K (sT s) (sM s):=by
 unfold wq6s wqiv wqct wqmd wq8x wqgn sT sM
 cases s with
 |nil=>rfl
 |cons c r =>
  have h1:decide (((c::r).length:Int)≥(([45]:List UInt8).length:Int))=true:=dec_t (by simp<;>omega)
  have h2:bnd 0 ((([45]:List UInt8).length:Nat):Int) ((c::r).length:Int)=true:=bnd_t (by omega) (by simp) (by simp<;>omega)
  have h3:cut (c::r) 0 ((([45]:List UInt8).length:Nat):Int)=[c]:=by simp[cut]
  have h4:bnd ((([45]:List UInt8).length:Nat):Int) ((c::r).length:Int) ((c::r).length:Int)=true:=bnd_t (by simp) (by simp<;>omega) (by omega)
  have h5:cut (c::r) ((([45]:List UInt8).length:Nat):Int) ((c::r).length:Int)=r:=by simp[cut]
  simp only[h1,h2,h3,h4,h5,Bool.or_true,cond_true]
  have h6:((c::r).head? == some 45)=(c == 45):=rfl
  have h7:([c] == [(45:UInt8)])=(c == 45):=by
   rw[Bool.eq_iff_iff];simp
  rw[h6,h7]
  cases c == 45<;>rfl
theorem wq1hb{s:List UInt8}(h:s.drop (wholeP s).length=[]∨∃ p,s.drop (wholeP s).length=46::p): upto 46 s=(wholeP s).length:=by
 have h46:isD 46=false:=by decide
 induction s with
 |nil=>rfl
 |cons c r ih =>
  cases hc:isD c with
  |true =>
   have e:wholeP (c::r)=c::wholeP r:=by unfold wholeP;rw[List.takeWhile_cons,hc];rfl
   rw[e,List.length_cons,List.drop_succ_cons]at h
   have hne:(c == 46)=false:=by
    cases hh:c == 46 with
    |false=>rfl
    |true=>have:c=46:=by simpa using hh
           rw[this,h46]at hc;cases hc
   rw[e,List.length_cons,←ih h]
   rw[upto,hne];rfl
  |false =>
   have e:wholeP (c::r)=[]:=by unfold wholeP;rw[List.takeWhile_cons,hc];rfl
   rw[e,List.length_nil,List.drop_zero]at h
   rcases h with h|⟨p,h⟩
   ·cases h
   ·injection h with h1 h2
    subst h1
    rw[e];rfl
theorem wq1le(s:List UInt8)(h:(s.take (upto 46 s)).all isD=true): wholeP s=s.take (upto 46 s):=by
 have h46:isD 46=false:=by decide
 induction s with
 |nil=>rfl
 |cons c r ih =>
  cases hc:c == 46 with
  |true =>
   have:c=46:=by simpa using hc
   subst this
   rfl
  |false =>
   have e:upto 46 (c::r)=upto 46 r+1:=by rw[upto,hc];rfl
   rw[e,List.take_succ_cons,List.all_cons,Bool.and_eq_true]at h
   rw[e,List.take_succ_cons,←ih h.2]
   unfold wholeP
   rw[List.takeWhile_cons,h.1];rfl
theorem wq1lf{s:List UInt8}(h:upto 46 s<s.length): s.drop (upto 46 s)=46::s.drop (upto 46 s+1):=by
 have h1:=wq12z 46 s h
 rw[List.drop_eq_getElem_cons h]
 congr 1
 rw[List.getD,List.getElem?_eq_getElem h]at h1
 simpa using h1
theorem wqtt(k:Nat){R:Type}(s:List UInt8)(hs:s.length≤4000)(hk:5000<k)(K:Nat→Bool→Option R): wq3i k s K=rdK K (rdS s):=by
 unfold wq3i wqn7 rdS
 cases s == [110,97,110]with
 |true=>rfl
 |false =>
  simp only[cond_false]
  cases s == [105,110,102]with
  |true=>rfl
  |false =>
   simp only[cond_false]
   cases s == [45,105,110,102]with
   |true=>rfl
   |false =>
    simp only[cond_false]
    have hT:(sT s).length≤4000:=by
     unfold sT
     cases(s.head? == some 45)with
     |false=>exact hs
     |true=>simp only[cond_true,List.length_tail];omega
    rw[wq1b6,Cut_eq k _ 46 _ (by omega)]
    generalize hmm:sM s=b
    generalize sT s=t at hT ⊢
    have fin:∀(w p:List UInt8) (hw:w.all isD=true) (hwl:w.length≤9) (hp:p.all isD=true) (hpl:p.length≤6),
     (bif joins w p then wqbi k (w++p) fun y11=>wq7p k (p.length:Int) fun y12 =>
      bif (fltAr BinOp.quo (fltOf y11) (fltOf y12)).isSome then
       bif b then wq9h k ((fltAr BinOp.quo (fltOf y11) (fltOf y12)).getD 0) 13830554455654793216 fun y13=>K y13 true
       else K ((fltAr BinOp.quo (fltOf y11) (fltOf y12)).getD 0) true
      else none else none)=K (bif b then fltNeg (quoF w p)else quoF w p) true:=by
     intro w p hw hwl hp hpl
     obtain⟨q1,q2⟩:=wq1jo (w:=w) hpl
     have hj:joins w p=true:=dec_t (by simp only[maxN];omega)
     rw[hj,cond_true,wq1ks k (w++p) (by rw[List.all_append,hw,hp];rfl) (by simp;omega) (by simp;omega),ten_fn k p.length (by omega) (by omega),q1]
     simp only[Option.isSome_some,cond_true,Option.getD_some]
     cases b with
     |true=>simp only[cond_true];rw[wq1em k _ q2]
     |false=>rfl
    have ld:∀ w:List UInt8,(decide (1≤w.length)=true→inb 0 (w.length:Int)=true∧(bif decide ((w.length:Int)>1)then((w.getD (Int.toNat 0) 0).toNat:Int) == 48 else false)=lead w):=by
     intro w hw
     cases w with
     |nil=>cases hw
     |cons c r=>exact⟨inb_t (by omega) (by simp<;>omega),wq1h7 c r⟩
    by_cases hu:upto 46 t<t.length
    ·rw[if_pos hu]
     have hdr:=wq1lf hu
     have hwl:(t.take (upto 46 t)).length=upto 46 t:=by rw[List.length_take];omega
     have h9:wq7k k (t.take (upto 46 t)) 9=(fun(K:Bool→Option R)=>K ((t.take (upto 46 t)).all isD&&(decide (1≤(t.take (upto 46 t)).length)&&decide ((t.take (upto 46 t)).length≤9)))):=by
      funext K';exact wq152 k _ 9 (by rw[hwl];omega) K'
     rw[h9]
     dsimp only
     cases ha:(t.take (upto 46 t)).all isD with
     |false =>
      have hno:ratS t=none:=by
       unfold ratS
       cases hwo:wqip (wholeP t)with
       |false=>rfl
       |true =>
        rw[cond_true]
        cases hd:t.drop (wholeP t).length with
        |nil =>
         have:=wq1hb (.inl hd)
         rw[this]at ha
         have e:t.take (wholeP t).length=wholeP t:=(List.prefix_iff_eq_take.1 (List.takeWhile_prefix isD)).symm
         rw[e]at ha
         have:(wholeP t).all isD=true:=by unfold wholeP;exact List.all_takeWhile
         rw[this]at ha;cases ha
        |cons c p =>
         dsimp only
         cases hc:c == 46 with
         |false=>rfl
         |true =>
          have:c=46:=by simpa using hc
          subst this
          have:=wq1hb (.inr ⟨p,hd⟩)
          rw[this]at ha
          have e:t.take (wholeP t).length=wholeP t:=(List.prefix_iff_eq_take.1 (List.takeWhile_prefix isD)).symm
          rw[e]at ha
          have:(wholeP t).all isD=true:=by unfold wholeP;exact List.all_takeWhile
          rw[this]at ha;cases ha
      rw[hno];simp[rdK]
     |true =>
      have hw:=wq1le t ha
      have hr:ratS t=bif wqip (t.take (upto 46 t))&&partOk (t.drop (upto 46 t+1))then some (t.take (upto 46 t),t.drop (upto 46 t+1))else none:=by
       unfold ratS
       rw[hw,hwl,hdr]
       have:((46:UInt8) == 46)=true:=rfl
       dsimp only
       rw[this,Bool.true_and]
       cases wqip (t.take (upto 46 t))<;>rfl
      rw[hr]
      unfold wqip
      cases h1:decide (1≤(t.take (upto 46 t)).length)with
      |false=>simp[rdK]
      |true =>
       obtain⟨i1,i2⟩:=ld _ h1
       cases h2:decide ((t.take (upto 46 t)).length≤9)with
       |false=>simp[rdK]
       |true =>
        simp only[Bool.and_self,Bool.not_true,i1,i2,Bool.or_true,cond_true,cond_false,Bool.true_and]
        cases hld:lead (t.take (upto 46 t))with
        |true=>rfl
        |false =>
         have h6:wq7k k (t.drop (upto 46 t+1)) 6=(fun(K:Bool→Option R)=>K ((t.drop (upto 46 t+1)).all isD&&(decide (1≤(t.drop (upto 46 t+1)).length)&&decide ((t.drop (upto 46 t+1)).length≤6)))):=by
          funext K';exact wq152 k _ 6 (by rw[List.length_drop];omega) K'
         simp only[beq_self_eq_true,cond_true,Bool.not_false,Bool.true_and]
         rw[h6]
         dsimp only
         have hpo:partOk (t.drop (upto 46 t+1))=((t.drop (upto 46 t+1)).all isD&&(decide (1≤(t.drop (upto 46 t+1)).length)&&decide ((t.drop (upto 46 t+1)).length≤6))):=rfl
         rw[←hpo]
         cases hp:partOk (t.drop (upto 46 t+1))with
         |false=>rfl
         |true =>
          rw[hpo]at hp
          simp only[Bool.and_eq_true,decide_eq_true_eq]at hp
          simp only[Bool.not_true,cond_false,cond_true]
          exact fin _ _ ha (of_decide_eq_true h2) hp.1 hp.2.2
    ·rw[if_neg hu]
     have h9:wq7k k t 9=(fun(K:Bool→Option R)=>K (t.all isD&&(decide (1≤t.length)&&decide (t.length≤9)))):=by
      funext K';exact wq152 k _ 9 (by omega) K'
     rw[h9]
     dsimp only
     have hut:upto 46 t=t.length:=by have:=wq1gz 46 t;omega
     cases ha:t.all isD with
     |false =>
      have hno:ratS t=none:=by
       unfold ratS
       cases hwo:wqip (wholeP t)with
       |false=>rfl
       |true =>
        rw[cond_true]
        cases hd:t.drop (wholeP t).length with
        |nil =>
         have hle:t.length≤(wholeP t).length:=wq2t hd
         have e:wholeP t=t.take (wholeP t).length:=List.prefix_iff_eq_take.1 (List.takeWhile_prefix isD)
         rw[List.take_of_length_le hle]at e
         have:(wholeP t).all isD=true:=by unfold wholeP;exact List.all_takeWhile
         rw[e,ha]at this;cases this
        |cons c p =>
         dsimp only
         cases hc:c == 46 with
         |false=>rfl
         |true =>
          have:c=46:=by simpa using hc
          subst this
          have h1:=wq1hb (.inr ⟨p,hd⟩)
          obtain⟨h2,_,_⟩:=wq10 hd
          omega
      rw[hno];simp[rdK]
     |true =>
      have hw:=tw_all ha
      have hr:ratS t=bif wqip t then some (t,[])else none:=by
       unfold ratS
       rw[hw,List.drop_length]
      rw[hr]
      unfold wqip
      cases h1:decide (1≤t.length)with
      |false=>simp[rdK]
      |true =>
       obtain⟨i1,i2⟩:=ld _ h1
       cases h2:decide (t.length≤9)with
       |false=>simp[rdK]
       |true =>
        simp only[Bool.and_self,Bool.not_true,i1,i2,Bool.or_true,cond_true,cond_false,Bool.true_and]
        cases hld:lead t with
        |true=>rfl
        |false =>
         have e0:(false == true)=false:=rfl
         simp only[beq_self_eq_true,cond_true,Bool.not_false,Bool.true_and,e0,cond_false]
         exact fin _ [] ha (of_decide_eq_true h2) rfl (by simp)
theorem wq1en(k:Nat){R:Type}(n:Nat)(hn:n≤15)(hk:n<k)(K:Int→Option R): wqbo k (n:Int) K=K ((10 ^ n:Nat):Int):=by
 unfold wqbo wq10r
 have h16:(10:Nat) ^ 15=1000000000000000:=by decide
 have loop:∀(j i m:Nat),i+j=n→j<m→wq9j k m (n:Int) ((10 ^ i:Nat):Int) (i:Int) K=K ((10 ^ n:Nat):Int):=by
  intro j
  induction j with
  |zero =>
   intro i m h hm
   obtain⟨m,rfl⟩:∃ j,m=j+1:=⟨m-1,by omega⟩
   rw[wq9j,wqg2,dec_f (by omega),cond_false,show i=n by omega]
  |succ j ih =>
   intro i m h hm
   have hpw:10 ^ i≤10 ^ 15:=Nat.pow_le_pow_right (by omega) (by omega)
   obtain⟨m,rfl⟩:∃ j,m=j+1:=⟨m-1,by omega⟩
   rw[wq9j,wqg2,dec_t (by omega),cond_true]
   have e1:∀ q:Nat,q≤1000000000000000→IntKind.i64.wrap ((q:Int)*10)=((q*10:Nat):Int):=fun q hq=>by
    rw[wqm (by omega) (by omega)];omega
   rw[e1 _ (by omega),←Nat.pow_succ,wqm (by omega) (by omega),wq33]
   exact ih (i+1) m (by omega) (by omega)
 exact loop n 0 k (by omega) (by omega)
def quN(n kk:Nat): Nat:=(fltAr .quo (fltOf (n:Int)) (fltOf ((10 ^ kk:Nat):Int))).getD 0
def rfin{R:Type}(f:Nat)(K:Nat→Bool→Option R)(n kk:Nat): Option R:=bif (f:Int) == 1 then K (fltNeg (quN n kk)) true else K (quN n kk) true
theorem fin_fn(k:Nat){R:Type}(f n kk:Nat)(h:kk≤6)(hk:20<k)(K:Nat→Bool→Option R):
 (wqbo k (kk:Int) fun y=>bif (fltAr BinOp.quo (fltOf (n:Int)) (fltOf y)).isSome then
  bif (f:Int) == 1 then K (fltNeg ((fltAr BinOp.quo (fltOf (n:Int)) (fltOf y)).getD 0)) true else K ((fltAr BinOp.quo (fltOf (n:Int)) (fltOf y)).getD 0) true else none)=rfin f K n kk:=by
 rw[wq1en k kk (by omega) (by omega)]
 obtain⟨t1,t2⟩:=ten_ok kk (by omega)
 obtain⟨q,e,_⟩:=quo_ok (wq151 n) (wq151 (10 ^ kk)) t1 t2
 unfold rfin quN
 rw[e];rfl
theorem wq1hc{n d:Nat}(h:n<10 ^ 17){c:UInt8}(hc:isD c=true): IntKind.i64.wrap (IntKind.i64.wrap ((n:Int)*10)+IntKind.i64.wrap (IntKind.u8.wrap ((c.toNat:Int)-48)))=((10*n+dgt c:Nat):Int):=by
 have h17:(10:Nat) ^ 17=100000000000000000:=by decide
 have:=dgt_le hc
 rw[dig_at hc,wqm (x:=(n:Int)*10) (by omega) (by omega),wqm (by omega) (by omega)];omega
theorem read2(k:Nat){R:Type}(s:List UInt8)(hs:s.length≤4000)(hk:5000<k)(f:Nat)(K:Nat→Bool→Option R): ∀(p:List UInt8) (i m n kk:Nat),s.drop i=p→p.length<m→i≤s.length→kk≤6→n<10 ^ (9+kk) →
 wq4s k m s (i:Int) (n:Int) (kk:Int) (f:Int) K=bif p.all isD&&(decide (1≤kk+p.length)&&decide (kk+p.length≤6))then rfin f K (valN n p) (kk+p.length)else K 0 false
 |p,i,0,n,kk,_,h,_,_,_=>by omega
 |[],i,m+1,n,kk,hd,h,hi,hkk,hn=>by
  have:=wq2t hd
  rw[wq4s,wqeo]
  rw[fin_fn k f n kk hkk (by omega)]
  simp(disch:=omega)only[dec_t,dec_f,ieq_t,ieq_f,ine_t,ine_f,inb_t,bnd_t,wqm,wqn,cond_true,cond_false,Bool.not_true,Bool.not_false,Bool.true_or,Bool.or_true,Bool.false_or,Bool.or_false,Bool.true_and,Bool.and_true,Bool.false_and,Bool.and_false,wq2,wq0,wq1]
  by_cases h0:kk=0
  ·subst h0;rfl
  ·have e1:((kk:Int) == 0)=false:=by rw[beq_eq_false_iff_ne];omega
   have e2:decide (1≤kk+([]:List UInt8).length)=true:=dec_t (by simp;omega)
   have e3:decide (kk+([]:List UInt8).length≤6)=true:=dec_t (by simpa using hkk)
   rw[e1,e2,valN_n];rfl
 |c::r,i,m+1,n,kk,hd,h,hi,hkk,hn=>by
  obtain⟨hlt,hc,hr⟩:=wq10 hd
  have hlen:i+(r.length+1)=s.length:=by have:=congrArg List.length hd;simp at this;omega
  rw[wq4s,wqeo]
  simp(disch:=omega)only[dec_t,dec_f,ieq_t,ieq_f,ine_t,ine_f,inb_t,bnd_t,wqm,wqn,cond_true,cond_false,Bool.not_true,Bool.not_false,Bool.true_or,Bool.or_true,Bool.false_or,Bool.or_false,Bool.true_and,Bool.and_true,Bool.false_and,Bool.and_false,wq2,wq0,wq1,hc,wq33]
  rw[wqod,List.all_cons]
  have hno:∀ X:Option R,(bif (kk:Int) == 0 then K 0 false else K 0 false)=K 0 false:=fun _=>by cases(kk:Int) == 0<;>rfl
  cases hD:isD c with
  |false=>simp only[cond_false,Bool.false_and];exact hno none
  |true =>
   simp only[cond_true,Bool.true_and]
   by_cases h6:kk<6
   ·have hp:10 ^ (9+kk)≤10 ^ 17:=Nat.pow_le_pow_right (by omega) (by omega)
    have h9:=dgt_le hD
    rw[dec_t (show(kk:Int)<6 by omega),cond_true,wq1hc (d:=0) (by omega) hD]
    refine(read2 k s hs hk f K r (i+1) m (10*n+dgt c) (kk+1) hr (by simp at h;omega) (by omega) (by omega) (by rw[show 9+(kk+1)=9+kk+1 by omega,Nat.pow_succ];omega)).trans ?_
    rw[valN_c,List.length_cons]
    have e:kk+1+r.length=kk+(r.length+1):=by omega
    rw[e]
   ·rw[dec_f (show ¬ (kk:Int)<6 by omega),cond_false]
    have e3:decide (kk+(c::r).length≤6)=false:=dec_f (by simp;omega)
    rw[e3,Bool.and_false,Bool.and_false,cond_false]
    exact hno none
theorem lead_i(w:List UInt8)(h:1≤w.length)(z:UInt8): (bif decide ((w.length:Int)>1)then((w.getD 0 z).toNat:Int) == 48 else false)=lead w:=by
 cases w with
 |nil=>cases h
 |cons c r=>exact wq1h7 c r
def ratK{R:Type}(f:Nat)(K:Nat→Bool→Option R): Option (List UInt8×List UInt8)→Option R
 |some (w,p)=>rfin f K (valN 0 (w++p)) p.length
 |none=>K 0 false
theorem tw_app:∀(w t:List UInt8),w.all isD=true→wholeP (w++t)=w++wholeP t
 |[],t,_=>rfl
 |c::r,t,h=>by
  rw[List.all_cons,Bool.and_eq_true]at h
  have:=tw_app r t h.2
  unfold wholeP at this ⊢
  rw[List.cons_append,List.takeWhile_cons,h.1,if_pos rfl,this];rfl
def endR{R:Type}(f:Nat)(K:Nat→Bool→Option R)(w t:List UInt8): Option R :=
 bif wqip w then match t with
  |[]=>rfin f K (valN 0 w) 0
  |c::p=>bif c == 46&&partOk p then rfin f K (valN (valN 0 w) p) p.length else K 0 false
 else K 0 false
theorem wq1hd:∀(w p:List UInt8) (a:Nat),valN a (w++p)=valN (valN a w) p
 |[],p,a=>rfl
 |c::r,p,a=>by rw[List.cons_append,valN_c,valN_c,wq1hd r p]
theorem end_is{R:Type}(f:Nat)(K:Nat→Bool→Option R)(w t:List UInt8)(hw:w.all isD=true)(ht:wholeP t=[]): endR f K w t=ratK f K (ratS (w++t)):=by
 unfold endR ratS
 rw[tw_app w t hw,ht,List.append_nil,List.drop_left]
 cases wqip w with
 |false=>rfl
 |true =>
  simp only[cond_true]
  cases t with
  |nil=>simp[ratK]
  |cons c p =>
   dsimp only
   cases c == 46&&partOk p with
   |false=>rfl
   |true=>simp only[cond_true,ratK,wq1hd]
theorem wq1iy(k:Nat){R:Type}(s:List UInt8)(hs:s.length≤4000)(hk:5000<k)(f:Nat)(K:Nat→Bool→Option R)(w t:List UInt8)(hd:s.drop f=w++t)(hf:f≤s.length)(hw:w.all isD=true)(h9:w.length≤9)(hn:valN 0 w<10 ^ 9):
 (bif !((((f+w.length:Nat):Int) == (f:Int)) == false&&decide (IntKind.i64.wrap (((f+w.length:Nat):Int)-(f:Int))>1) == true) || inb (f:Int) (s.length:Int)then
  bif bif ((f+w.length:Nat):Int) == (f:Int)then true else bif decide (IntKind.i64.wrap (((f+w.length:Nat):Int)-(f:Int))>1)then((s.getD (f:Int).toNat 0).toNat:Int) == 48 else false then K 0 false
  else
   bif decide (((f+w.length:Nat):Int)<(s.length:Int))then
    bif inb ((f+w.length:Nat):Int) (s.length:Int)then
     bif ((s.getD ((f+w.length:Nat):Int).toNat 0).toNat:Int) != 46 then K 0 false
     else wq4s k k s (IntKind.i64.wrap (((f+w.length:Nat):Int)+1)) (valN 0 w:Int) 0 (f:Int) K
    else none
   else
    bif decide (((f+w.length:Nat):Int)<(s.length:Int))then K 0 false
    else wqbo k 0 fun y=>bif (fltAr BinOp.quo (fltOf (valN 0 w:Int)) (fltOf y)).isSome then
     bif (f:Int) == 1 then K (fltNeg ((fltAr BinOp.quo (fltOf (valN 0 w:Int)) (fltOf y)).getD 0)) true else K ((fltAr BinOp.quo (fltOf (valN 0 w:Int)) (fltOf y)).getD 0) true else none
  else none)=endR f K w t:=by
 have hlen:f+(w.length+t.length)=s.length:=by have:=congrArg List.length hd;simp at this;omega
 have hfin:=fin_fn k f (valN 0 w) 0 (by omega) (by omega) K
 have hfin:(wqbo k 0 fun y=>bif (fltAr BinOp.quo (fltOf (valN 0 w:Int)) (fltOf y)).isSome then
  bif (f:Int) == 1 then K (fltNeg ((fltAr BinOp.quo (fltOf (valN 0 w:Int)) (fltOf y)).getD 0)) true else K ((fltAr BinOp.quo (fltOf (valN 0 w:Int)) (fltOf y)).getD 0) true else none)=rfin f K (valN 0 w) 0:=hfin
 rw[hfin]
 unfold endR wqip
 by_cases h0:w=[]
 ·subst h0
  have e:(((f+([]:List UInt8).length:Nat):Int) == (f:Int))=true:=by simp
  rw[e];rfl
 ·have hw1:1≤w.length:=by cases w with
   |nil=>exact absurd rfl h0
   |cons _ _=>simp
  have e1:(((f+w.length:Nat):Int) == (f:Int))=false:=by rw[beq_eq_false_iff_ne];omega
  have e2:IntKind.i64.wrap (((f+w.length:Nat):Int)-(f:Int))=(w.length:Int):=by rw[wqm (by omega) (by omega)];omega
  have e3:s.getD (f:Int).toNat 0=w.getD 0 0:=by
   rw[wq1]
   have h1:(s.drop f).getD 0 0=s.getD f 0:=by simp[List.getD]
   rw[←h1,hd]
   cases w with
   |nil=>exact absurd rfl h0
   |cons _ _=>rfl
  rw[e1,e2,e3,inb_t (i:=(f:Int)) (by omega) (by omega),Bool.or_true,cond_true,cond_false,lead_i w hw1,dec_t hw1,dec_t h9,Bool.true_and,Bool.true_and]
  cases hl:lead w with
  |true=>rfl
  |false =>
   simp only[Bool.not_false,cond_true,cond_false]
   cases t with
   |nil =>
    have:¬ (((f+w.length:Nat):Int)<(s.length:Int)):=by simp at hlen;omega
    rw[dec_f this];rfl
   |cons c p =>
    have hlt:f+w.length<s.length:=by simp at hlen;omega
    have hd2:s.drop (f+w.length)=c::p:=by rw[←List.drop_drop,hd,List.drop_left]
    obtain⟨_,hc,hr⟩:=wq10 hd2
    have e4:s.getD ((f+w.length:Nat):Int).toNat 0=c:=by rw[wq1];exact hc 0
    have e5:(((c.toNat:Nat):Int) != 46) = !(c == 46):=by
     have:((c.toNat:Int) == 46)=(c == 46):=u8_beq c 46 (by omega)
     rw[bne,this]
    have e6:IntKind.i64.wrap (((f+w.length:Nat):Int)+1)=((f+w.length+1:Nat):Int):=by rw[wqm (by omega) (by omega)];omega
    rw[dec_t (by omega),inb_t (by omega) (by omega),cond_true,cond_true,e4,e5,e6]
    have r2:=read2 k s hs hk f K p (f+w.length+1) k (valN 0 w) 0 hr (by have:=congrArg List.length hr;simp at this;omega) (by omega) (by omega) (by simpa using hn)
    have r2:wq4s k k s ((f+w.length+1:Nat):Int) (valN 0 w:Int) 0 (f:Int) K=_:=r2
    rw[r2]
    dsimp only
    unfold partOk
    rw[Nat.zero_add]
    cases c == 46<;>cases p.all isD<;>simp
theorem read1(k:Nat){R:Type}(s:List UInt8)(hs:s.length≤4000)(hk:5000<k)(f:Nat)(hf:f≤s.length)(K:Nat→Bool→Option R): ∀(t w:List UInt8) (m:Nat),s.drop f=w++t→t.length<m→w.all isD=true→w.length≤9→valN 0 w<10 ^ w.length →
 wqa1 k m s ((f+w.length:Nat):Int) (valN 0 w:Int) 0 (f:Int) K=ratK f K (ratS (w++t))
 |t,w,0,_,h,_,_,_=>by omega
 |t,w,m+1,hd,h,hw,h9,hn=>by
  have hlen:f+(w.length+t.length)=s.length:=by have:=congrArg List.length hd;simp at this;omega
  have hp:10 ^ w.length≤10 ^ 9:=Nat.pow_le_pow_right (by omega) h9
  have E:=wq1iy k s hs hk f K w t hd hf hw h9 (by omega)
  rw[wqa1,wqen]
  rw[E]
  cases t with
  |nil =>
   have hlt:¬ (((f+w.length:Nat):Int)<(s.length:Int)):=by simp at hlen;omega
   rw[dec_f hlt]
   exact end_is f K w [] hw rfl
  |cons c r =>
   have hlt:f+w.length<s.length:=by simp at hlen;omega
   have hd2:s.drop (f+w.length)=c::r:=by rw[←List.drop_drop,hd,List.drop_left]
   obtain⟨_,hc,hr⟩:=wq10 hd2
   have e4:s.getD ((f+w.length:Nat):Int).toNat 0=c:=by rw[wq1];exact hc 0
   have e2:IntKind.i64.wrap (((f+w.length:Nat):Int)-(f:Int))=(w.length:Int):=by rw[wqm (by omega) (by omega)];omega
   have e6:IntKind.i64.wrap (((f+w.length:Nat):Int)+1)=((f+w.length+1:Nat):Int):=by rw[wqm (by omega) (by omega)];omega
   rw[dec_t (by omega),inb_t (i:=((f+w.length:Nat):Int)) (by omega) (by omega),e4,e2,e6,wqod]
   simp only[Bool.or_true,cond_true,beq_self_eq_true]
   cases hD:isD c with
   |false =>
    simp only[cond_false]
    exact end_is f K w (c::r) hw (by unfold wholeP;rw[List.takeWhile_cons,hD];rfl)
   |true =>
    by_cases h6:w.length<9
    ·have h10:=dgt_le hD
     rw[cond_true,dec_t (show(w.length:Int)<9 by omega),cond_true,wq1hc (d:=0) (by omega) hD]
     have hl2:f+w.length+1=f+(w++[c]).length:=by simp;omega
     rw[hl2,←wqlz,show w++c::r=(w++[c])++r by simp]
     exact read1 k s hs hk f hf K r (w++[c]) m (by rw[hd];simp) (by simp at h;omega) (by rw[List.all_append,hw];simp[hD]) (by simp;omega) (by rw[wqlz,List.length_append,List.length_singleton,Nat.pow_succ];omega)
    ·rw[cond_true,dec_f (show ¬ (w.length:Int)<9 by omega),cond_false]
     have hno:ratS (w++c::r)=none:=by
      unfold ratS
      rw[tw_app w _ hw]
      have:wqip (w++wholeP (c::r))=false:=by
       have e:wholeP (c::r)=c::wholeP r:=by unfold wholeP;rw[List.takeWhile_cons,hD];rfl
       unfold wqip
       rw[e,dec_f (show ¬ (w++c::wholeP r).length≤9 by simp;omega)]
       simp
      rw[this];rfl
     rw[hno]
     unfold endR
     have h46:(c == 46)=false:=by
      cases hh:c == 46 with
      |false=>rfl
      |true=>have:c=46:=by simpa using hh
             rw[this]at hD;exact absurd hD (by decide)
     dsimp only
     rw[h46]
     cases wqip w<;>rfl
theorem wq112(k:Nat){R:Type}(s:List UInt8)(hs:s.length≤4000)(hk:5000<k)(K:Nat→Bool→Option R): wq6y k s K=rdK K (rdS s):=by
 unfold wq6y wqve rdS
 cases s == [110,97,110]with
 |true=>rfl
 |false =>
  simp only[cond_false]
  cases s == [105,110,102]with
  |true=>rfl
  |false =>
   simp only[cond_false]
   cases s == [45,105,110,102]with
   |true=>rfl
   |false =>
    simp only[cond_false]
    have fin:∀(f:Nat) (o:Option (List UInt8×List UInt8)),ratK f K o=rdK K (match o with|none=>none|some (w,p)=>some (bif (f:Int) == 1 then fltNeg (quoF w p)else quoF w p)):=by
     intro f o
     cases o with
     |none=>rfl
     |some q =>
      obtain⟨w,p⟩:=q
      show rfin f K (valN 0 (w++p)) p.length=K _ true
      unfold rfin
      have:quN (valN 0 (w++p)) p.length=quoF w p:=rfl
      rw[this]
      cases(f:Int) == 1<;>rfl
    cases s with
    |nil =>
     have h:=read1 k [] hs hk 0 (Nat.le_refl _) K [] [] k rfl (by simp;omega) rfl (by simp) (by decide)
     rw[fin]at h
     exact h
    |cons c r =>
     have h1:decide (((c::r).length:Int)>0)=true:=dec_t (by simp<;>omega)
     have h2:inb 0 ((c::r).length:Int)=true:=inb_t (by omega) (by simp<;>omega)
     have h3:∀ z,(c::r).getD (Int.toNat 0) z=c:=fun _=>rfl
     have h4:((c.toNat:Int) == 45)=(c == 45):=u8_beq c 45 (by omega)
     have h5:sM (c::r)=(c == 45):=rfl
     rw[h1,h2,h3,h4,h5]
     simp only[Bool.or_true,cond_true]
     unfold sT
     have h6:((c::r).head? == some 45)=(c == 45):=rfl
     rw[h6]
     cases c == 45 with
     |true =>
      have h:=read1 k (c::r) hs hk 1 (by simp) K r [] k rfl (by simp at hs;omega) rfl (by simp) (by decide)
      rw[fin]at h
      exact h
     |false =>
      have h:=read1 k (c::r) hs hk 0 (by simp) K (c::r) [] k rfl (by omega) rfl (by simp) (by decide)
      rw[fin]at h
      exact h
theorem ctl_at(c:UInt8): (bif decide ((c.toNat:Int)<32)then true else(c.toNat:Int) == 127)=ctl c:=by
 have e5:((c.toNat:Int) == 127)=(c == 127):=u8_beq c 127 (by omega)
 have e6:decide ((c.toNat:Int)<32)=decide (c.toNat<32):=by rw[Bool.eq_iff_iff];simp;omega
 rw[e5,e6,Bool.cond_true_left];rfl
theorem wq1cm{R:Type}(k:Nat)(s:List UInt8)(hs:s.length≤200)(hk:300<k)(K:List UInt8→Bool→Option R): stK s K (stS s k 0)=stK s K (stS s (s.length+1) 0):=by
 rw[wq1b3 s k (s.length+1) 0 (by omega) (by omega) (by omega)]
theorem wqq6(k:Nat){R:Type}(s:List UInt8)(hs:s.length≤200)(hk:300<k)(K:Bool→Option R): ∀(t:List UInt8) (n m:Nat),s.drop n=t→t.length<m→n≤s.length →
 wq79 k m s (s.length:Int) (n:Int) K=K (noCtl t&&(!(s == [])&&(stripB s&&rowB s)))
 |t,n,0,_,hm,_=>by omega
 |[],n,m+1,hd,hm,hn=>by
  have:=wq2t hd
  rw[wq79,wqcx,wq180 k s (by omega) (by omega),wq1cm k s hs hk]
  simp(disch:=omega)only[dec_t,dec_f,ieq_t,ieq_f,ine_t,ine_f,inb_t,bnd_t,wqm,wqn,cond_true,cond_false,Bool.not_true,Bool.not_false,Bool.true_or,Bool.or_true,Bool.false_or,Bool.or_false,Bool.true_and,Bool.and_true,Bool.false_and,Bool.and_false,wq2,wq0,wq1]
  have e0:noCtl []=true:=rfl
  rw[e0,Bool.true_and]
  unfold stripB
  cases hst:stS s (s.length+1) 0 with
  |none=>simp only[stK];cases s == []<;>rfl
  |some e =>
   simp only[stK]
   cases h1:s == []with
   |true=>rfl
   |false =>
    cases h2:rt (s.take e) == s with
    |false=>rfl
    |true =>
     simp only[Bool.not_true,Bool.not_false,cond_true,cond_false,Bool.true_and]
     rw[wq1h1 k 0 0 s _ (by omega) (by omega)]
     unfold rowB
     obtain⟨l,a,b⟩:=rowR 0 0 s
     dsimp only
     cases h3:a == 0 with
     |false=>rfl
     |true =>
      match l with
      |[]=>rfl
      |[p] =>
       have e1:((([p]:List Pc).length:Int) == 1)=true:=rfl
       have e2:inb 0 (([p]:List Pc).length:Int)=true:=rfl
       have e3:∀ z,([p]:List Pc).getD (Int.toNat 0) z=p:=fun _=>rfl
       simp only[e1,e2,e3,cond_true,Bool.or_true,oneP,Bool.true_and]
       cases p.1 == 3<;>cases p.2.2.2.1 == s<;>rfl
      |p::q::r =>
       have e1:(((p::q::r:List Pc).length:Int) == 1)=false:=ieq_f (by simp;omega)
       simp only[e1,cond_true,cond_false]
       rfl
 |c::r,n,m+1,hd,hm,hn=>by
  obtain⟨hlt,hc,hr⟩:=wq10 hd
  rw[wq79,wqcx]
  simp(disch:=omega)only[dec_t,dec_f,ieq_t,ieq_f,ine_t,ine_f,inb_t,bnd_t,wqm,wqn,cond_true,cond_false,Bool.not_true,Bool.not_false,Bool.true_or,Bool.or_true,Bool.false_or,Bool.or_false,Bool.true_and,Bool.and_true,Bool.false_and,Bool.and_false,wq2,wq0,wq1,hc,ctl_at,wq33]
  have e0:noCtl (c::r)=(!ctl c&&noCtl r):=rfl
  rw[e0]
  cases ctl c with
  |true=>rfl
  |false =>
   simp only[cond_false,Bool.not_false,Bool.true_and]
   exact wqq6 k s hs hk K r (n+1) m hr (by simp at hm;omega) (by omega)
theorem wq188(k:Nat){R:Type}(s:List UInt8)(hs:s.length≤200)(hk:300<k)(K:Bool→Option R): wqic k s K=K (plainS s):=by
 unfold wqic wqr1
 exact wqq6 k s hs hk K s 0 k rfl (by omega) (by omega)
theorem wqoe(k:Nat){R:Type}(s:List UInt8)(hs:s.length≤200)(hk:300<k)(K:Bool→Option R): ∀(t:List UInt8) (n m:Nat),s.drop n=t→t.length<m→n≤s.length →
 wq69 k m s (n:Int) K=K (noCtl t&&(stripB s&&rowB s))
 |t,n,0,_,hm,_=>by omega
 |[],n,m+1,hd,hm,hn=>by
  have:=wq2t hd
  rw[wq69,wqc6,wq14y k s (by omega) (by omega),wq1cm k s hs hk]
  simp(disch:=omega)only[dec_t,dec_f,ieq_t,ieq_f,ine_t,ine_f,inb_t,bnd_t,wqm,wqn,cond_true,cond_false,Bool.not_true,Bool.not_false,Bool.true_or,Bool.or_true,Bool.false_or,Bool.or_false,Bool.true_and,Bool.and_true,Bool.false_and,Bool.and_false,wq2,wq0,wq1]
  have e0:noCtl []=true:=rfl
  rw[e0,Bool.true_and]
  unfold stripB
  cases hst:stS s (s.length+1) 0 with
  |none=>simp only[stK];rw[wq10y k 0 0 s _ (by omega) (by omega)];rfl
  |some e =>
   simp only[stK]
   rw[wq10y k 0 0 s _ (by omega) (by omega)]
   cases h2:rt (s.take e) == s with
   |false=>rfl
   |true =>
    unfold rowB
    obtain⟨l,a,b⟩:=rowR 0 0 s
    dsimp only
    cases h3:a == 0 with
    |false=>rfl
    |true =>
     match l with
     |[]=>rfl
     |[p] =>
      have e1:((([p]:List Pc).length:Int) == 1)=true:=rfl
      have e2:inb 0 (([p]:List Pc).length:Int)=true:=rfl
      have e3:∀ z,([p]:List Pc).getD (Int.toNat 0) z=p:=fun _=>rfl
      simp only[e1,e2,e3,cond_true,Bool.or_true,oneP,Bool.true_and]
      cases p.1 == 3<;>cases p.2.2.2.1 == s<;>rfl
     |p::q::r =>
      have e1:(((p::q::r:List Pc).length:Int) == 1)=false:=ieq_f (by simp;omega)
      simp only[e1,cond_true,cond_false]
      rfl
 |c::r,n,m+1,hd,hm,hn=>by
  obtain⟨hlt,hc,hr⟩:=wq10 hd
  rw[wq69,wqc6]
  simp(disch:=omega)only[dec_t,dec_f,ieq_t,ieq_f,ine_t,ine_f,inb_t,bnd_t,wqm,wqn,cond_true,cond_false,Bool.not_true,Bool.not_false,Bool.true_or,Bool.or_true,Bool.false_or,Bool.or_false,Bool.true_and,Bool.and_true,Bool.false_and,Bool.and_false,wq2,wq0,wq1,hc,ctl_at,wq33]
  have e0:noCtl (c::r)=(!ctl c&&noCtl r):=rfl
  rw[e0]
  cases ctl c with
  |true=>rfl
  |false =>
   simp only[cond_false,Bool.not_false,Bool.true_and]
   exact wqoe k s hs hk K r (n+1) m hr (by simp at hm;omega) (by omega)
theorem wq153(k:Nat){R:Type}(s:List UInt8)(hs:s.length≤200)(hk:300<k)(K:Bool→Option R): wqgi k s K=K (plainS s):=by
 unfold wqgi wqo8 plainS
 have h0:decide ((s.length:Int)>200)=false:=dec_f (by omega)
 rw[h0]
 cases h1:s == []with
 |true=>simp only[cond_true,Bool.not_true,Bool.false_and,Bool.and_false]
 |false =>
  simp only[cond_false,Bool.not_false,Bool.true_and]
  exact wqoe k s hs hk K s 0 k rfl (by omega) (by omega)
theorem wq1cn(t q:List UInt8): ∀ l:List (List UInt8),anyK t (l++[q])=(anyK t l || (t == q))
 |[]=>by simp[anyK]
 |x::l=>by rw[List.cons_append,anyK,anyK,wq1cn t q l,Bool.or_assoc]
theorem wq1co(key t:List UInt8): ∀ es:List (List UInt8×Bool),mget .bool t (mset .bool key true es)=(mget .bool t es || (t == key))
 |[]=>by
  rw[mset,mget,mget]
  cases t == key<;>rfl
 |(k,x)::r=>by
  rw[mset]
  cases h1:key == k with
  |true =>
   have:key=k:=by simpa using h1
   subst this
   rw[cond_true,mget,mget]
   cases t == key<;>simp
  |false =>
   rw[cond_false,mget,mget,wq1co key t r]
   cases h2:t == k with
   |false=>rfl
   |true =>
    have:t=k:=by simpa using h2
    subst this
    have:(t == key)=false:=by
     rw[beq_eq_false_iff_ne]at h1 ⊢
     exact fun e=>h1 e.symm
    rw[this];simp
theorem wqq7(k:Nat){R:Type}(keys:List (List UInt8))(hk:keys.length≤4000)(hq:∀ q∈keys,q.length≤4000)(hk2:5000<k)(K:Bool→Option R): ∀(t:List (List UInt8)) (n m:Nat) (es:List (List UInt8×Bool)) (l:List (List UInt8)),
 keys.drop n=t→t.length<m→n≤keys.length→(∀ q,mget .bool q es=anyK q l)→wq78 k m es keys (keys.length:Int) (n:Int) K=K (keysB l t)
 |t,n,0,es,l,_,hm,_,_=>by omega
 |[],n,m+1,es,l,hd,hm,hn,he=>by
  have:=wq2t hd
  rw[wq78,wqcv]
  simp(disch:=omega)only[dec_t,dec_f,ieq_t,ieq_f,ine_t,ine_f,inb_t,bnd_t,wqm,wqn,cond_true,cond_false,Bool.not_true,Bool.not_false,Bool.true_or,Bool.or_true,Bool.false_or,Bool.or_false,Bool.true_and,Bool.and_true,Bool.false_and,Bool.and_false,wq2,wq0,wq1]
  rfl
 |c::r,n,m+1,es,l,hd,hm,hn,he=>by
  obtain⟨hlt,hc,hr⟩:=wq10 hd
  have hcl:=hq c (List.mem_of_mem_drop (by rw[hd];simp))
  rw[wq78,wqcv]
  simp(disch:=omega)only[dec_t,dec_f,ieq_t,ieq_f,ine_t,ine_f,inb_t,bnd_t,wqm,wqn,cond_true,cond_false,Bool.not_true,Bool.not_false,Bool.true_or,Bool.or_true,Bool.false_or,Bool.or_false,Bool.true_and,Bool.and_true,Bool.false_and,Bool.and_false,wq2,wq0,wq1,hc,wq33]
  rw[wqrl k c _ (by omega) (by omega),keysB,keyB]
  cases h1:(c.all sgn && !(c == []))with
  |false=>rfl
  |true =>
   by_cases h2:(c.length:Int)>64
   ·have h3:decide (c.length≤64)=false:=dec_f (by omega)
    rw[dec_t h2,h3];rfl
   ·have h3:decide (c.length≤64)=true:=dec_t (by omega)
    rw[dec_f h2,h3]
    simp only[Bool.not_true,cond_false,wq0,Bool.not_false,cond_true,Bool.true_and,he]
    cases h4:anyK c l with
    |true=>rfl
    |false =>
     simp only[cond_false,Bool.not_false,Bool.true_and]
     exact wqq7 k keys hk hq hk2 K r (n+1) m _ (l++[c]) hr (by simp at hm;omega) (by omega) (fun q=>by rw[wq1co,he,wq1cn])
theorem wq189(k:Nat){R:Type}(keys:List (List UInt8))(hk:keys.length≤4000)(hq:∀ q∈keys,q.length≤4000)(hk2:5000<k)(K:Bool→Option R): wqi7 k keys K=K (keysB [] keys):=by
 unfold wqi7 wqqw
 exact wqq7 k keys hk hq hk2 K keys 0 k [] [] rfl (by omega) (by omega) (fun _=>rfl)
theorem wqtu(k:Nat){R:Type}(s:List UInt8)(hs:s.length≤200)(K:Bool→Option R): ∀(t:List UInt8) (n m:Nat),s.drop n=t→t.length<m→n≤s.length→wq8c k m s (n:Int) K=K (t.all sgn)
 |t,n,0,_,hm,_=>by omega
 |[],n,m+1,hd,hm,hn=>by
  have:=wq2t hd
  rw[wq8c,wqej]
  simp(disch:=omega)only[dec_t,dec_f,ieq_t,ieq_f,ine_t,ine_f,inb_t,bnd_t,wqm,wqn,cond_true,cond_false,Bool.not_true,Bool.not_false,Bool.true_or,Bool.or_true,Bool.false_or,Bool.or_false,Bool.true_and,Bool.and_true,Bool.false_and,Bool.and_false,wq2,wq0,wq1]
  rfl
 |c::r,n,m+1,hd,hm,hn=>by
  obtain⟨hlt,hc,hr⟩:=wq10 hd
  rw[wq8c,wqej]
  simp(disch:=omega)only[dec_t,dec_f,ieq_t,ieq_f,ine_t,ine_f,inb_t,bnd_t,wqm,wqn,cond_true,cond_false,Bool.not_true,Bool.not_false,Bool.true_or,Bool.or_true,Bool.false_or,Bool.or_false,Bool.true_and,Bool.and_true,Bool.false_and,Bool.and_false,wq2,wq0,wq1,hc,wq33,wqwl]
  have e:sgnI (c.toNat:Int)=sgn c:=rfl
  rw[e,List.all_cons]
  cases sgn c with
  |false=>rfl
  |true =>
   simp only[Bool.not_true,cond_false,Bool.true_and]
   exact wqtu k s hs K r (n+1) m hr (by simp at hm;omega) (by omega)
theorem wq1b7(k:Nat){R:Type}(s:List UInt8)(hk:300<k)(K:Bool→Option R): wqkf k s K=K (keyB s):=by
 unfold wqkf wqva keyB
 cases h1:s == []with
 |true=>simp only[cond_true,Bool.not_true,Bool.and_false,Bool.false_and]
 |false =>
  by_cases h:s.length>64
  ·have h3:decide (s.length≤64)=false:=dec_f (by omega)
   have h4:decide ((s.length:Int)>64)=true:=dec_t (by omega)
   rw[h3,h4]
   simp only[cond_false,cond_true,Bool.and_false]
  ·have h3:decide (s.length≤64)=true:=dec_t (by omega)
   have h4:decide ((s.length:Int)>64)=false:=dec_f (by omega)
   rw[h3,h4]
   simp only[cond_false,Bool.not_false,Bool.and_true]
   exact wqtu k s (by omega) K s 0 k rfl (by omega) (by omega)
theorem wqwn(k:Nat){R:Type}(keys:List (List UInt8))(hk:keys.length≤4000)(J:List (List UInt8)→Int→Option R)(K:Bool→Option R)(i:Nat)(c:List UInt8)(hi:i<keys.length)(hc:∀ d,keys.getD i d=c): ∀(t:List (List UInt8)) (n m:Nat),
 (keys.take i).drop n=t→t.length<m→n≤i→wq5y k J m keys (i:Int) (n:Int) K=bif anyK c t then K false else J keys (((i:Nat)+1:Nat):Int)
 |t,n,0,_,hm,_=>by omega
 |[],n,m+1,hd,hm,hn=>by
  have h0:=wq2t hd
  rw[List.length_take]at h0
  rw[wq5y,wqd3]
  simp(disch:=omega)only[dec_t,dec_f,ieq_t,ieq_f,ine_t,ine_f,inb_t,bnd_t,wqm,wqn,cond_true,cond_false,Bool.not_true,Bool.not_false,Bool.true_or,Bool.or_true,Bool.false_or,Bool.or_false,Bool.true_and,Bool.and_true,Bool.false_and,Bool.and_false,wq2,wq0,wq1,wq33]
  rfl
 |q::r,n,m+1,hd,hm,hn=>by
  obtain⟨hlt,hq,hr⟩:=wq10 hd
  rw[List.length_take]at hlt
  have hq':∀ d,keys.getD n d=q:=by
   intro d
   have:=hq d
   rw[List.getD,List.getElem?_take,if_pos (by omega)]at this
   exact this
  rw[wq5y,wqd3]
  simp(disch:=omega)only[dec_t,dec_f,ieq_t,ieq_f,ine_t,ine_f,inb_t,bnd_t,wqm,wqn,cond_true,cond_false,Bool.not_true,Bool.not_false,Bool.true_or,Bool.or_true,Bool.false_or,Bool.or_false,Bool.true_and,Bool.and_true,Bool.false_and,Bool.and_false,wq2,wq0,wq1,wq33,hq',hc]
  rw[anyK]
  have e:(q == c)=(c == q):=by rw[Bool.eq_iff_iff];simp;exact eq_comm
  rw[e]
  cases c == q with
  |true=>rfl
  |false =>
   simp only[cond_false,Bool.false_or]
   exact wqwn k keys hk J K i c hi hc r (n+1) m hr (by simp at hm;omega) (by omega)
theorem wqq8(k:Nat){R:Type}(keys:List (List UInt8))(hk:keys.length≤4000)(hk2:5000<k)(K:Bool→Option R): ∀(t:List (List UInt8)) (n m:Nat),
 keys.drop n=t→t.length<m→n≤keys.length→wq5z k m keys (n:Int) K=K (keysB (keys.take n) t)
 |t,n,0,_,hm,_=>by omega
 |[],n,m+1,hd,hm,hn=>by
  have:=wq2t hd
  rw[wq5z,wqax]
  simp(disch:=omega)only[dec_t,dec_f,ieq_t,ieq_f,ine_t,ine_f,inb_t,bnd_t,wqm,wqn,cond_true,cond_false,Bool.not_true,Bool.not_false,Bool.true_or,Bool.or_true,Bool.false_or,Bool.or_false,Bool.true_and,Bool.and_true,Bool.false_and,Bool.and_false,wq2,wq0,wq1]
  rfl
 |c::r,n,m+1,hd,hm,hn=>by
  obtain⟨hlt,hc,hr⟩:=wq10 hd
  rw[wq5z,wqax]
  simp(disch:=omega)only[dec_t,dec_f,ieq_t,ieq_f,ine_t,ine_f,inb_t,bnd_t,wqm,wqn,cond_true,cond_false,Bool.not_true,Bool.not_false,Bool.true_or,Bool.or_true,Bool.false_or,Bool.or_false,Bool.true_and,Bool.and_true,Bool.false_and,Bool.and_false,wq2,wq0,wq1,hc,wq33]
  rw[wq1b7 k c (by omega),keysB]
  cases h1:keyB c with
  |false=>rfl
  |true =>
   simp only[Bool.not_true,cond_false,Bool.true_and]
   have:=wqwn k keys hk (fun s0 s1=>wq5z k m s0 s1 K) K n c hlt hc (keys.take n) 0 k rfl (by simp;omega) (by omega)
   refine Eq.trans this ?_
   cases h4:anyK c (keys.take n)with
   |true=>rfl
   |false =>
    simp only[cond_false,Bool.not_false,Bool.true_and]
    have e:keys.take n++[c]=keys.take (n+1):=by
     have hg:keys[n]? = some c:=by
      have:=hc []
      rw[List.getD,List.getElem?_eq_getElem hlt]at this
      rw[List.getElem?_eq_getElem hlt]
      exact congrArg some this
     rw[List.take_add_one,hg];rfl
    rw[e]
    exact wqq8 k keys hk hk2 K r (n+1) m hr (by simp at hm;omega) (by omega)
theorem wq18a(k:Nat){R:Type}(keys:List (List UInt8))(hk:keys.length≤4000)(hk2:5000<k)(K:Bool→Option R): wqii k keys K=K (keysB [] keys):=by
 unfold wqii wqre
 exact wqq8 k keys hk hk2 K keys 0 k rfl (by omega) (by omega)
def okD(x:Nd): Prop:=x.2.2.1.length≤4000∧x.2.2.2.2.1.length≤4000∧x.2.2.2.2.2.length≤4000∧∀ q∈x.2.2.2.2.1,q.length≤4000
theorem len0{α : Type}(l:List α)[BEq α]: ((l.length:Int) == 0)=(l == []):=by
 cases l with
 |nil=>rfl
 |cons x r=>exact ieq_f (by simp<;>omega)
theorem lenP{α : Type}(l:List α)[BEq α]: decide ((l.length:Int)>0) = !(l == []):=by
 cases l with
 |nil=>rfl
 |cons x r=>exact dec_t (by simp<;>omega)
theorem lenE{a b:Nat}: ((a:Int) == (b:Int))=decide (a=b):=by
 rw[Bool.eq_iff_iff];simp;omega
theorem wq1eo(k:Nat){R:Type}(x:Nd)(hx:okD x)(hk:5000<k)(K:Bool→Option R): wqnk k x.1 x.2.1 x.2.2.1 x.2.2.2.1 x.2.2.2.2.1 x.2.2.2.2.2 K=K (fitN x):=by
 obtain⟨a,ln,t,q,ks,kd⟩:=x
 obtain⟨h1,h2,h3,h4⟩:=hx
 dsimp only at h1 h2 h3 h4
 unfold wqnk wq16j fitN
 dsimp only
 rw[len0,len0,lenP,lenE]
 cases a == 1 with
 |true =>
  simp only[cond_true]
  cases ks == []with
  |false=>rfl
  |true =>
   cases kd == []with
   |false=>rfl
   |true =>
    by_cases hl:t.length≤200
    ·rw[dec_t hl,dec_t (show((t.length:Nat):Int)≤200 by omega)]
     cases q with
     |true=>rfl
     |false =>
      simp only[cond_true,Bool.true_and,Bool.false_or,beq_self_eq_true]
      exact wq188 k t hl (by omega) K
    ·rw[dec_f hl,dec_f (show ¬ ((t.length:Nat):Int)≤200 by omega)]
     rfl
 |false =>
  simp only[cond_false]
  cases a == 2 with
  |true=>cases ks == []<;>cases kd == []<;>cases t == []<;>cases q<;>rfl
  |false =>
   simp only[cond_false]
   cases a == 3 with
   |false=>rfl
   |true =>
    rw[wq189 k ks h2 h4 hk]
    cases decide (ks.length=kd.length)<;>cases kd == []<;>cases t == []<;>cases q<;>rfl
theorem wq18b(k:Nat){R:Type}(x:Nd)(hx:okD x)(hk:5000<k)(K:Bool→Option R): wqik k x.1 x.2.1 x.2.2.1 x.2.2.2.1 x.2.2.2.2.1 x.2.2.2.2.2 K=K (fitN x):=by
 obtain⟨a,ln,t,q,ks,kd⟩:=x
 obtain⟨h1,h2,h3,h4⟩:=hx
 dsimp only at h1 h2 h3 h4
 unfold wqik wq10m fitN
 dsimp only
 rw[len0,len0,lenP,lenE]
 cases a == 1 with
 |true =>
  simp only[cond_true]
  cases ks == []with
  |false=>rfl
  |true =>
   cases kd == []with
   |false=>rfl
   |true =>
    by_cases hl:t.length≤200
    ·rw[dec_t hl,dec_t (show((t.length:Nat):Int)≤200 by omega)]
     cases q with
     |true=>rfl
     |false =>
      simp only[cond_true,Bool.true_and,Bool.false_or,beq_self_eq_true]
      exact wq153 k t hl (by omega) K
    ·rw[dec_f hl,dec_f (show ¬ ((t.length:Nat):Int)≤200 by omega)]
     rfl
 |false =>
  simp only[cond_false]
  cases a == 2 with
  |true=>cases ks == []<;>cases kd == []<;>cases t == []<;>cases q<;>rfl
  |false =>
   simp only[cond_false]
   cases a == 3 with
   |false=>rfl
   |true =>
    rw[wq18a k ks h2 hk]
    cases decide (ks.length=kd.length)<;>cases kd == []<;>cases t == []<;>cases q<;>rfl
def numI:Option Nat→Int
 |none => -1
 |some m=>(m:Int)
theorem nd_at{nd:List Nd}{n:Nat}(h:n<nd.length): ∃ x,nd[n]? = some x∧(∀ z,nd.getD n z=x)∧x∈nd:=⟨nd[n],List.getElem?_eq_getElem h,fun z=>by rw[List.getD,List.getElem?_eq_getElem h];rfl,List.getElem_mem _⟩
theorem wqtv(k:Nat){R:Type}(X)(nd:List Nd)(hn:nd.length≤4000)(K:Int→Option R)(d:Nat)(hd:d≤100)(w:Nat→Option Nat)(hw:∀(n:Nat) (K:Int→Option R),n≤4001→X R nd (n:Int) ((d+1:Nat):Int) K=K (numI (w n)))(hm:∀ n m,w n=some m→m≤nd.length)(kids:List Int)(hl:kids.length≤4000):
 ∀(q:List Int) (i n m:Nat),kids.drop i=q→q.length<m→i≤kids.length→n≤4001→wq89 k X m (d:Int) nd (n:Int) kids (kids.length:Int) (i:Int) K=K (numI (kidsW w q n))
 |q,i,n,0,_,h,_,_=>by omega
 |[],i,n,m+1,hq,h,hi,hn'=>by
  have:=wq2t hq
  rw[wq89,wqed]
  simp(disch:=omega)only[dec_t,dec_f,ieq_t,ieq_f,ine_t,ine_f,inb_t,bnd_t,wqm,wqn,cond_true,cond_false,Bool.not_true,Bool.not_false,Bool.true_or,Bool.or_true,Bool.false_or,Bool.or_false,Bool.true_and,Bool.and_true,Bool.false_and,Bool.and_false,wq2,wq0,wq1]
  rfl
 |c::q,i,n,m+1,hq,h,hi,hn'=>by
  obtain⟨hlt,hc,hr⟩:=wq10 hq
  rw[wq89,wqed]
  simp(disch:=omega)only[dec_t,dec_f,ieq_t,ieq_f,ine_t,ine_f,inb_t,bnd_t,wqm,wqn,cond_true,cond_false,Bool.not_true,Bool.not_false,Bool.true_or,Bool.or_true,Bool.false_or,Bool.or_false,Bool.true_and,Bool.and_true,Bool.false_and,Bool.and_false,wq2,wq0,wq1,hc,wq33]
  rw[kidsW]
  have e:(c != (n:Int)) = !(c == (n:Int)):=rfl
  rw[e]
  cases h1:c == (n:Int)with
  |false=>rfl
  |true =>
   have h1:c=(n:Int):=by simpa using h1
   subst h1
   simp only[Bool.not_true,cond_false,cond_true]
   rw[hw n _ hn']
   cases h2:w n with
   |none=>rfl
   |some j =>
    have:=hm n j h2
    have e2:decide (numI (some j)<0)=false:=dec_f (by simp[numI])
    rw[e2,cond_false]
    exact wqtv k X nd hn K d hd w hw hm kids hl q (i+1) j m hr (by simp at h;omega) (by omega) (by omega)
theorem wq113{R:Type}(nd:List Nd)(hn:nd.length≤4000)(ho:∀ x∈nd,okD x): ∀(f k d n:Nat) (K:Int→Option R),5000+f<k→d+f=25→n≤4001→wq8a k R nd (n:Int) (d:Int) K=K (numI (walkS f nd n))
 |f,0,d,n,K,hk,hd,hn'=>by omega
 |0,k+1,d,n,K,hk,hd,hn'=>by
  rw[wq8a]
  unfold wqk7
  have e:decide ((d:Int)>24)=true:=dec_t (by omega)
  have e2:(bif decide ((n:Int)≥(nd.length:Int))then true else true)=true:=by cases decide ((n:Int)≥(nd.length:Int))<;>rfl
  rw[e,e2]
  rfl
 |f+1,k+1,d,n,K,hk,hd,hn'=>by
  rw[wq8a]
  unfold wqk7
  have e:decide ((d:Int)>24)=false:=dec_f (by omega)
  rw[e,walkS]
  by_cases h:n<nd.length
  ·obtain⟨x,hx,hg,hm⟩:=nd_at h
   have e3:decide ((n:Int)≥(nd.length:Int))=false:=dec_f (by omega)
   have e4:inb (n:Int) (nd.length:Int)=true:=inb_t (by omega) (by omega)
   rw[e3,hx]
   simp(disch:=omega)only[dec_t,dec_f,ieq_t,ieq_f,ine_t,ine_f,inb_t,bnd_t,wqm,wqn,cond_true,cond_false,Bool.not_true,Bool.not_false,Bool.true_or,Bool.or_true,Bool.false_or,Bool.or_false,Bool.true_and,Bool.and_true,Bool.false_and,Bool.and_false,wq2,wq0,wq1,e4,hg]
   rw[wq1eo k x (ho x hm) (by omega)]
   cases fitN x with
   |false=>rfl
   |true =>
    simp(disch:=omega)only[dec_t,dec_f,ieq_t,ieq_f,ine_t,ine_f,inb_t,bnd_t,wqm,wqn,cond_true,cond_false,Bool.not_true,Bool.not_false,Bool.true_or,Bool.or_true,Bool.false_or,Bool.or_false,Bool.true_and,Bool.and_true,Bool.false_and,Bool.and_false,wq2,wq0,wq1,wq33]
    obtain⟨_,_,h3,_⟩:=ho x hm
    exact wqtv k _ nd hn K d (by omega) (walkS f nd) (fun a K ha=>wq113 nd hn ho f k (d+1) a K (by omega) (by omega) ha) (fun a b hab=>wq150 f nd a b hab) x.2.2.2.2.2 h3 x.2.2.2.2.2 0 (n+1) k rfl (by omega) (by omega) (by omega)
  ·have e3:decide ((n:Int)≥(nd.length:Int))=true:=dec_t (by omega)
   rw[e3,List.getElem?_eq_none (by omega)]
   rfl
theorem wqq9(k:Nat){R:Type}(X)(nd:List Nd)(hn:nd.length≤4000)(K:Int→Option R)(d:Nat)(hd:d≤100)(w:Nat→Option Nat)(hw:∀(n:Nat) (K:Int→Option R),n≤4001→X R nd (n:Int) ((d+1:Nat):Int) K=K (numI (w n)))(hm:∀ n m,w n=some m→m≤nd.length)(j0:Nat)(hj:j0<nd.length)(x:Nd)(hx:∀ z,nd.getD j0 z=x)(hl:x.2.2.2.2.2.length≤4000):
 ∀(q:List Int) (i n m:Nat),x.2.2.2.2.2.drop i=q→q.length<m→i≤x.2.2.2.2.2.length→n≤4001→wq7c k X m (j0:Int) (d:Int) nd (n:Int) (i:Int) K=K (numI (kidsW w q n))
 |q,i,n,0,_,h,_,_=>by omega
 |[],i,n,m+1,hq,h,hi,hn'=>by
  have:=wq2t hq
  rw[wq7c,wqd4]
  simp(disch:=omega)only[dec_t,dec_f,ieq_t,ieq_f,ine_t,ine_f,inb_t,bnd_t,wqm,wqn,cond_true,cond_false,Bool.not_true,Bool.not_false,Bool.true_or,Bool.or_true,Bool.false_or,Bool.or_false,Bool.true_and,Bool.and_true,Bool.false_and,Bool.and_false,wq2,wq0,wq1,hx]
  rfl
 |c::q,i,n,m+1,hq,h,hi,hn'=>by
  obtain⟨hlt,hc,hr⟩:=wq10 hq
  rw[wq7c,wqd4]
  simp(disch:=omega)only[dec_t,dec_f,ieq_t,ieq_f,ine_t,ine_f,inb_t,bnd_t,wqm,wqn,cond_true,cond_false,Bool.not_true,Bool.not_false,Bool.true_or,Bool.or_true,Bool.false_or,Bool.or_false,Bool.true_and,Bool.and_true,Bool.false_and,Bool.and_false,wq2,wq0,wq1,hx,hc,wq33]
  rw[kidsW]
  have e:(c != (n:Int)) = !(c == (n:Int)):=rfl
  rw[e]
  cases h1:c == (n:Int)with
  |false=>rfl
  |true =>
   simp only[Bool.not_true,cond_false,cond_true]
   rw[hw n _ hn']
   cases h2:w n with
   |none=>rfl
   |some j =>
    have:=hm n j h2
    have e2:decide (numI (some j)<0)=false:=dec_f (by simp[numI])
    rw[e2,cond_false]
    exact wqq9 k X nd hn K d hd w hw hm j0 hj x hx hl q (i+1) j m hr (by simp at h;omega) (by omega) (by omega)
theorem wqwo{R:Type}(nd:List Nd)(hn:nd.length≤4000)(ho:∀ x∈nd,okD x): ∀(f k d n:Nat) (K:Int→Option R),5000+f<k→d+f=25→n≤4001→wq6q k R nd (n:Int) (d:Int) K=K (numI (walkS f nd n))
 |f,0,d,n,K,hk,hd,hn'=>by omega
 |0,k+1,d,n,K,hk,hd,hn'=>by
  rw[wq6q]
  unfold wqil
  have e:decide ((d:Int)>24)=true:=dec_t (by omega)
  have e2:(bif decide ((n:Int)≥(nd.length:Int))then true else true)=true:=by cases decide ((n:Int)≥(nd.length:Int))<;>rfl
  rw[e,e2]
  rfl
 |f+1,k+1,d,n,K,hk,hd,hn'=>by
  rw[wq6q]
  unfold wqil
  have e:decide ((d:Int)>24)=false:=dec_f (by omega)
  rw[e,walkS]
  by_cases h:n<nd.length
  ·obtain⟨x,hx,hg,hm⟩:=nd_at h
   have e3:decide ((n:Int)≥(nd.length:Int))=false:=dec_f (by omega)
   have e4:inb (n:Int) (nd.length:Int)=true:=inb_t (by omega) (by omega)
   rw[e3,hx]
   simp(disch:=omega)only[dec_t,dec_f,ieq_t,ieq_f,ine_t,ine_f,inb_t,bnd_t,wqm,wqn,cond_true,cond_false,Bool.not_true,Bool.not_false,Bool.true_or,Bool.or_true,Bool.false_or,Bool.or_false,Bool.true_and,Bool.and_true,Bool.false_and,Bool.and_false,wq2,wq0,wq1,e4,hg]
   rw[wq18b k x (ho x hm) (by omega)]
   cases fitN x with
   |false=>rfl
   |true =>
    simp(disch:=omega)only[dec_t,dec_f,ieq_t,ieq_f,ine_t,ine_f,inb_t,bnd_t,wqm,wqn,cond_true,cond_false,Bool.not_true,Bool.not_false,Bool.true_or,Bool.or_true,Bool.false_or,Bool.or_false,Bool.true_and,Bool.and_true,Bool.false_and,Bool.and_false,wq2,wq0,wq1,wq33]
    obtain⟨_,_,h3,_⟩:=ho x hm
    exact wqq9 k _ nd hn K d (by omega) (walkS f nd) (fun a K ha=>wqwo nd hn ho f k (d+1) a K (by omega) (by omega) ha) (fun a b hab=>wq150 f nd a b hab) n h x hg h3 x.2.2.2.2.2 0 (n+1) k rfl (by omega) (by omega) (by omega)
  ·have e3:decide ((n:Int)≥(nd.length:Int))=true:=dec_t (by omega)
   rw[e3,List.getElem?_eq_none (by omega)]
   rfl
theorem wq1jp(o:Option Nat)(n:Nat): (numI o == (n:Int))=(o == some n):=by
 cases o with
 |none=>exact ieq_f (by simp only[numI];omega)
 |some m=>rw[Bool.eq_iff_iff];simp[numI];omega
theorem wq18c(k:Nat){R:Type}(nd:List Nd)(hn:nd.length≤4000)(ho:∀ x∈nd,okD x)(hk:5100<k)(K:Int→Option R): wqid k nd K=K (bif checkS nd then 0 else 1):=by
 unfold wqid wqzr wqos checkS
 by_cases h1:nd.length<1
 ·rw[dec_t (show((nd.length:Nat):Int)<1 by omega),dec_f (show ¬ 1≤nd.length by omega)];rfl
 ·rw[dec_f (show ¬ ((nd.length:Nat):Int)<1 by omega),dec_t (show 1≤nd.length by omega)]
  by_cases h2:nd.length>2000
  ·rw[dec_t (show((nd.length:Nat):Int)>2000 by omega),dec_f (show ¬ nd.length≤2000 by omega)];rfl
  ·rw[dec_f (show ¬ ((nd.length:Nat):Int)>2000 by omega),dec_t (show nd.length≤2000 by omega)]
   simp only[cond_false,wq0,Bool.not_false,cond_true,Bool.true_and]
   refine Eq.trans (wq113 nd hn ho 24 k 1 0 _ (by omega) (by omega) (by omega)) ?_
   have e:(numI (walkS 24 nd 0) != (nd.length:Int)) = !(numI (walkS 24 nd 0) == (nd.length:Int)):=rfl
   rw[e,wq1jp]
   cases walkS 24 nd 0 == some nd.length<;>rfl
theorem wq154(k:Nat){R:Type}(nd:List Nd)(hn:nd.length≤4000)(ho:∀ x∈nd,okD x)(hk:5100<k)(K:Bool→Option R): wqgj k nd K=K (checkS nd):=by
 unfold wqgj wqwk wqlr checkS
 by_cases h1:nd.length<1
 ·rw[dec_f (show ¬ ((nd.length:Nat):Int)≥1 by omega),dec_f (show ¬ 1≤nd.length by omega)];rfl
 ·rw[dec_t (show((nd.length:Nat):Int)≥1 by omega),dec_t (show 1≤nd.length by omega)]
  by_cases h2:nd.length>2000
  ·rw[dec_f (show ¬ ((nd.length:Nat):Int)≤2000 by omega),dec_f (show ¬ nd.length≤2000 by omega)];rfl
  ·rw[dec_t (show((nd.length:Nat):Int)≤2000 by omega),dec_t (show nd.length≤2000 by omega)]
   simp only[cond_true,wq2,Bool.true_and]
   refine Eq.trans (wqwo nd hn ho 24 k 1 0 _ (by omega) (by omega) (by omega)) ?_
   rw[wq1jp]
theorem wq1jq{nd:List Nd}{f:Nat}: ∀(l:List Int) (n m i:Nat),kidsW (walkS f nd) l n=some m→n≤i→i<m→∃ a b,walkS f nd a=some b∧a≤i∧i<b
 |[],n,m,i,h,h1,h2=>by rw[kidsW]at h;cases h;omega
 |k::r,n,m,i,h,h1,h2=>by
  rw[kidsW]at h
  cases hk:k == (n:Int)with
  |false=>rw[hk]at h;cases h
  |true =>
   rw[hk,cond_true]at h
   cases hw:walkS f nd n with
   |none=>rw[hw]at h;cases h
   |some j =>
    rw[hw]at h
    by_cases hi:j≤i
    ·exact wq1jq r j m i h hi h2
    ·exact⟨n,j,hw,h1,by omega⟩
theorem wq1jr:∀(f:Nat) (nd:List Nd) (n m i:Nat),walkS f nd n=some m→n≤i→i<m→∃ f' m',walkS (f'+1) nd i=some m'
 |0,nd,n,m,i,h,_,_=>by rw[walkS]at h;cases h
 |f+1,nd,n,m,i,h,h1,h2=>by
  by_cases hi:i=n
  ·subst hi;exact⟨f,m,h⟩
  ·obtain⟨x,hx,hf,h⟩:=wq14z h
   obtain⟨a,b,e1,e2,e3⟩:=wq1jq _ _ _ _ h (by omega) h2
   exact wq1jr f nd a b i e1 e2 e3
theorem wq1js{nd:List Nd}{f:Nat}: ∀(l:List Int) (n m:Nat),kidsW (walkS f nd) l n=some m→∀ y∈l,0≤y∧y<(nd.length:Int)
 |[],n,m,h,y,hy=>by cases hy
 |k::r,n,m,h,y,hy=>by
  rw[kidsW]at h
  cases hk:k == (n:Int)with
  |false=>rw[hk]at h;cases h
  |true =>
   rw[hk,cond_true]at h
   cases hw:walkS f nd n with
   |none=>rw[hw]at h;cases h
   |some j =>
    rw[hw]at h
    have h1:=wq1h3 f nd n j hw
    have h2:=wq150 f nd n j hw
    have h3:k=(n:Int):=by simpa using hk
    rcases List.mem_cons.1 hy with rfl|hy
    ·omega
    ·exact wq1js r j m h y hy
def inR(nd:List Nd)(i:Int): Bool:=bif decide (i≥0)then decide (i<(nd.length:Int))else false
def ndAt(nd:List Nd)(i:Int): Option Nd:=bif inR nd i&&checkS nd then nd[i.toNat]? else none
structure At (nd:List Nd) (n:Nat) (x:Nd):Prop where
 lt:n<nd.length
 le:nd.length≤4000
 get:∀ z,nd.getD n z=x
 fit:fitN x=true
 ok:okD x
 kids:∀ y∈x.2.2.2.2.2,0≤y∧y<(nd.length:Int)
theorem node(nd:List Nd)(hn:nd.length≤4000)(ho:∀ x∈nd,okD x)(i:Int): (ndAt nd i=none∧(inR nd i&&checkS nd)=false)∨(inR nd i&&checkS nd)=true∧∃ n x,i=((n:Nat):Int)∧ndAt nd i=some x∧At nd n x:=by
 unfold ndAt
 cases h:inR nd i&&checkS nd with
 |false=>exact .inl ⟨rfl,rfl⟩
 |true =>
  refine .inr ⟨rfl,?_⟩
  rw[Bool.and_eq_true]at h
  obtain⟨h1,h2⟩:=h
  unfold inR at h1
  by_cases h0:i≥0
  ·rw[dec_t h0,cond_true]at h1
   have h1:=of_decide_eq_true h1
   have hlt:i.toNat<nd.length:=by omega
   obtain⟨x,e1,e2,e3⟩:=nd_at hlt
   unfold checkS at h2
   simp only[Bool.and_eq_true,decide_eq_true_eq,beq_iff_eq]at h2
   obtain⟨f',m',hw⟩:=wq1jr _ _ _ _ i.toNat h2.2.2 (Nat.zero_le _) hlt
   obtain⟨y,hy,hf,hk⟩:=wq14z hw
   rw[e1]at hy
   injection hy with hy
   subst hy
   exact⟨i.toNat,x,by omega,e1,⟨hlt,hn,e2,hf,ho x e3,wq1js _ _ _ hk⟩⟩
  ·rw[dec_f h0,cond_false]at h1;cases h1
theorem At.inb{nd:List Nd}{n:Nat}{x:Nd}(h:At nd n x): Pvm.inb (n:Int) (nd.length:Int)=true:=inb_t (by omega) (by have:=h.lt;omega)
theorem At.fault{R:Type}{k:Nat}{nd:List Nd}{n:Nat}{x:Nd}(h:At nd n x)(kd:Int)(K:Int→Int→Option R): wq2w k nd (n:Int) kd K=K kd x.2.1:=by
 unfold wq2w wqf1
 rw[h.inb,cond_true,wq1,h.get]
theorem At.at{R:Type}{k:Nat}{nd:List Nd}{n:Nat}{x:Nd}(h:At nd n x)(kd:Int)(K:Int→Int→Option R): wq5k k nd (n:Int) kd K=K kd x.2.1:=by
 unfold wq5k wq10n
 rw[h.inb,cond_true,wq1,h.get]
theorem At.need{R:Type}{k:Nat}{nd:List Nd}{n:Nat}{x:Nd}(h:At nd n x)(kd:Int)(K:Int→Int→Option R): wq21 k nd (n:Int) kd K=bif x.1 != kd then K 11 x.2.1 else K 0 0:=by
 unfold wq21 wqm2
 rw[h.inb,cond_true,wq1,h.get,h.fault]
theorem At.bare{R:Type}{k:Nat}{nd:List Nd}{n:Nat}{x:Nd}(h:At nd n x)(kd:Int)(K:List UInt8→Int→Int→Option R): wq4t k nd (n:Int) kd K=bif x.1 != 1 then K [] 11 x.2.1 else bif x.2.2.2.1 then K [] kd x.2.1 else K x.2.2.1 0 0:=by
 unfold wq4t wqm3
 rw[h.need,h.inb]
 simp only[cond_true,wq1,h.get,h.fault]
 cases x.1 != 1<;>rfl
def needS(o:Option Nd)(kd:Int): Int×Int :=
 match o with
 |none=>(11,0)
 |some x=>bif x.1 != kd then(11,x.2.1)else(0,0)
theorem At.rneed{R:Type}{k:Nat}{nd:List Nd}{n:Nat}{x:Nd}(h:At nd n x)(hk:5100<k)(kd:Int)(K:Int→Int→Option R): wq2z k nd (n:Int) kd K=K (needS (some x) kd).1 (needS (some x) kd).2:=by
 unfold wq2z wqt4 needS
 rw[h.inb,cond_true,wq1,h.get,h.at]
 dsimp only
 cases x.1 != kd<;>rfl
def idxS(t:List UInt8): List (List UInt8)→Nat→Option Nat
 |[],_=>none
 |q::r,i=>bif t == q then some i else idxS t r (i+1)
def idxI:Option Nat→Int
 |some n=>n
 |none => -1
theorem wq1b8(k:Nat){R:Type}(l:List (List UInt8))(hl:l.length≤4000)(hk:5000<k)(t:List UInt8)(K:Int→Option R): wq36 k l t K=K (idxI (idxS t l 0)):=by
 unfold wq36 wq73
 have loop:∀(q:List (List UInt8)) (i m:Nat),l.drop i=q→i≤l.length→q.length<m→wq2l k m l t (l.length:Int) (i:Int) K=K (idxI (idxS t q i)):=by
  intro q
  induction q with
  |nil =>
   intro i m hd hi hm
   have:=wq2t hd
   obtain⟨m,rfl⟩:∃ j,m=j+1:=⟨m-1,by simp at hm;omega⟩
   rw[wq2l,wq45,dec_f (by omega)];rfl
  |cons c r ih =>
   intro i m hd hi hm
   obtain⟨hlt,hc,hr⟩:=wq10 hd
   obtain⟨m,rfl⟩:∃ j,m=j+1:=⟨m-1,by simp at hm;omega⟩
   rw[wq2l,wq45,idxS]
   simp(disch:=omega)only[dec_t,dec_f,ieq_t,ieq_f,ine_t,ine_f,inb_t,bnd_t,wqm,wqn,cond_true,cond_false,Bool.not_true,Bool.not_false,Bool.true_or,Bool.or_true,Bool.false_or,Bool.or_false,Bool.true_and,Bool.and_true,Bool.false_and,Bool.and_false,wq2,wq0,wq1,hc,wq33]
   cases t == c with
   |true=>rfl
   |false=>exact ih (i+1) m hr (by omega) (by simp at hm;omega)
 exact loop l 0 k rfl (Nat.zero_le _) (by omega)
theorem wq1jt(t:List UInt8): ∀(l:List (List UInt8)) (i:Nat),decide (idxI (idxS t l i)≥0)=anyK t l
 |[],i=>rfl
 |q::r,i=>by
  rw[idxS,anyK]
  cases t == q with
  |true=>simp[idxI]
  |false=>simpa using wq1jt t r (i+1)
theorem Has_fn(k:Nat){R:Type}(l:List (List UInt8))(hl:l.length≤4000)(hk:5000<k)(t:List UInt8)(K:Bool→Option R): wq39 k l t K=K (anyK t l):=by
 unfold wq39 wq9l
 rw[wq1b8 k l hl hk,wq1jt]
theorem idx_lt(t:List UInt8): ∀(l:List (List UInt8)) (i j:Nat),idxS t l i=some j→i≤j∧j<i+l.length
 |[],i,j,h=>by rw[idxS]at h;cases h
 |q::r,i,j,h=>by
  rw[idxS]at h
  cases hq:t == q with
  |true=>rw[hq]at h;cases h;simp
  |false =>
   rw[hq]at h
   have:=idx_lt t r (i+1) j h
   rw[List.length_cons];omega
def findS(o:Option Nd)(key:List UInt8): Int×Bool :=
 match o with
 |none=>(0,false)
 |some x=>bif x.1 != 3 then(0,false)else match idxS key x.2.2.2.2.1 0 with
  |none=>(0,false)
  |some j=>(x.2.2.2.2.2.getD j 0,true)
theorem At.keys{nd:List Nd}{n:Nat}{x:Nd}(h:At nd n x): (x.1 != 3)=false→x.2.2.2.2.1.length=x.2.2.2.2.2.length:=by
 intro h3
 have h3:x.1=3:=by simpa using h3
 have hf:=h.fit
 unfold fitN at hf
 rw[h3]at hf
 have e1:((3:Int) == 1)=false:=rfl
 have e2:((3:Int) == 2)=false:=rfl
 have e3:((3:Int) == 3)=true:=rfl
 rw[e1,e2,e3]at hf
 simp only[cond_true,cond_false,Bool.and_eq_true,decide_eq_true_eq]at hf
 exact hf.1
theorem At.sfind{R:Type}{k:Nat}{nd:List Nd}{n:Nat}{x:Nd}(h:At nd n x)(hk:5100<k)(key:List UInt8)(K:Int→Bool→Option R): wq18 k nd (n:Int) key K=K (findS (some x) key).1 (findS (some x) key).2:=by
 unfold wq18 wqm6 findS
 rw[h.inb,cond_true,wq1,h.get,wq1b8 k _ h.ok.2.1 (by omega)]
 dsimp only
 cases h3:x.1 != 3 with
 |true=>rfl
 |false =>
  simp only[cond_false]
  cases hi:idxS key x.2.2.2.2.1 0 with
  |none=>rfl
  |some j =>
   have hj:=idx_lt _ _ _ _ hi
   rw[h.keys h3]at hj
   have e:idxI (some j)=(j:Int):=rfl
   rw[e,dec_f (show ¬ (j:Int)<0 by omega),inb_t (by omega) (by omega),wq1]
   rfl
theorem wq1cp{R:Type}(k:Nat)(hk:5100<k)(key:List UInt8)(x:Nd)(hx:x.2.2.2.2.1.length=x.2.2.2.2.2.length)(hl:x.2.2.2.2.1.length≤4000)(K:Int→Bool→Option R): ∀(q:List (List UInt8)) (i m:Nat),x.2.2.2.2.1.drop i=q→i≤x.2.2.2.2.1.length→q.length<m →
 wq5j k m key x.1 x.2.1 x.2.2.1 x.2.2.2.1 x.2.2.2.2.1 x.2.2.2.2.2 (i:Int) K=match idxS key q i with|none=>K 0 false|some j=>K (x.2.2.2.2.2.getD j 0) true
 |q,i,0,_,_,h=>by omega
 |[],i,m+1,hd,hi,hm=>by
  have:=wq2t hd
  rw[wq5j,wqbc,dec_f (by omega)];rfl
 |c::r,i,m+1,hd,hi,hm=>by
  obtain⟨hlt,hc,hr⟩:=wq10 hd
  rw[wq5j,wqbc,idxS]
  simp(disch:=omega)only[dec_t,dec_f,ieq_t,ieq_f,ine_t,ine_f,inb_t,bnd_t,wqm,wqn,cond_true,cond_false,Bool.not_true,Bool.not_false,Bool.true_or,Bool.or_true,Bool.false_or,Bool.or_false,Bool.true_and,Bool.and_true,Bool.false_and,Bool.and_false,wq2,wq0,wq1,hc,wq33]
  have e:(c == key)=(key == c):=by rw[Bool.eq_iff_iff];simp;exact eq_comm
  rw[e]
  cases key == c with
  |true=>rfl
  |false =>
   simp only[cond_false]
   exact wq1cp k hk key x hx hl K r (i+1) m hr (by omega) (by simp at hm;omega)
theorem At.rfind{R:Type}{k:Nat}{nd:List Nd}{n:Nat}{x:Nd}(h:At nd n x)(hk:5100<k)(key:List UInt8)(K:Int→Bool→Option R): wqx k nd (n:Int) key K=K (findS (some x) key).1 (findS (some x) key).2:=by
 unfold wqx wqls findS
 rw[h.inb,cond_true,wq1,h.get]
 dsimp only
 cases h3:x.1 != 3 with
 |true=>rfl
 |false =>
  have:=wq1cp k hk key x (h.keys h3) h.ok.2.1 K x.2.2.2.2.1 0 k rfl (Nat.zero_le _) (by have:=h.ok.2.1;omega)
  simp only[cond_false]
  refine Eq.trans this ?_
  cases idxS key x.2.2.2.2.1 0<;>rfl
def lineS(nd:List Nd)(y:Int): Int :=
 match nd[y.toNat]? with
 |some x=>x.2.1
 |none=>0
def unkS(nd:List Nd)(l:List (List UInt8)): List (List UInt8)→List Int→Int×Int
 |q::r,y::s=>bif anyK q l then unkS nd l r s else(5,lineS nd y)
 |_,_=>(0,0)
def knownS(nd:List Nd)(o:Option Nd)(l:List (List UInt8)): Int×Int :=
 match o with
 |none=>(11,0)
 |some x=>bif x.1 != 3 then(11,x.2.1)else unkS nd l x.2.2.2.2.1 x.2.2.2.2.2
theorem wq1he{nd:List Nd}{y:Int}(h:0≤y∧y<(nd.length:Int)): inb y (nd.length:Int)=true∧∀ z,(nd.getD y.toNat z).2.1=lineS nd y:=by
 refine⟨inb_t h.1 h.2,fun z => ?_⟩
 obtain⟨x,e1,e2,_⟩:=nd_at (nd:=nd) (n:=y.toNat) (by omega)
 unfold lineS
 rw[e1,e2]
theorem wq18d{R:Type}(k:Nat)(nd:List Nd)(hk:5100<k)(l:List (List UInt8))(hll:l.length≤20)(x:Nd)(hx:x.2.2.2.2.1.length=x.2.2.2.2.2.length)(hl:x.2.2.2.2.1.length≤4000)(hy:∀ y∈x.2.2.2.2.2,0≤y∧y<(nd.length:Int))(K:Int→Int→Option R): ∀(q:List (List UInt8)) (s:List Int) (i m:Nat),x.2.2.2.2.1.drop i=q→x.2.2.2.2.2.drop i=s→i≤x.2.2.2.2.1.length→q.length<m →
 wq49 k m l nd 0 0 x.1 x.2.1 x.2.2.1 x.2.2.2.1 x.2.2.2.2.1 x.2.2.2.2.2 x.2.2.2.2.1 (x.2.2.2.2.1.length:Int) (i:Int) K=K (unkS nd l q s).1 (unkS nd l q s).2
 |q,s,i,0,_,_,_,h=>by omega
 |[],s,i,m+1,hd,hs,hi,hm=>by
  have:=wq2t hd
  rw[wq49,wq8j,dec_f (by omega),unkS]
  ·rfl
  ·intro _ _ _ _ h _;cases h
 |c::r,[],i,m+1,hd,hs,hi,hm=>by
  obtain⟨hlt,hc,hr⟩:=wq10 hd
  have:=wq2t hs
  omega
 |c::r,y::s,i,m+1,hd,hs,hi,hm=>by
  obtain⟨hlt,hc,hr⟩:=wq10 hd
  obtain⟨hlt2,hc2,hr2⟩:=wq10 hs
  have hyk:=hy y (by
   have:=hc2 0
   rw[List.getD,List.getElem?_eq_getElem hlt2]at this
   rw[←this];exact List.getElem_mem _)
  obtain⟨l1,l2⟩:=wq1he hyk
  rw[wq49,wq8j,unkS]
  simp(disch:=omega)only[dec_t,dec_f,ieq_t,ieq_f,ine_t,ine_f,inb_t,bnd_t,wqm,wqn,cond_true,cond_false,Bool.not_true,Bool.not_false,Bool.true_or,Bool.or_true,Bool.false_or,Bool.or_false,Bool.true_and,Bool.and_true,Bool.false_and,Bool.and_false,wq2,wq0,wq1,hc,hc2,wq33]
  rw[Has_fn k l (by omega) (by omega)]
  cases anyK c l with
  |true =>
   simp only[Bool.not_true,cond_false,cond_true]
   exact wq18d k nd hk l hll x hx hl hy K r s (i+1) m hr hr2 (by omega) (by simp at hm;omega)
  |false =>
   simp only[Bool.not_false,cond_true,cond_false]
   unfold wq2w wqf1
   rw[l1,cond_true,l2]
theorem At.sknown{R:Type}{k:Nat}{nd:List Nd}{n:Nat}{x:Nd}(h:At nd n x)(hk:5100<k)(l:List (List UInt8))(hll:l.length≤20)(K:Int→Int→Option R): wqy k nd (n:Int) l K=K (knownS nd (some x) l).1 (knownS nd (some x) l).2:=by
 unfold wqy wqf5 knownS
 rw[h.need,h.inb,wq1,h.get]
 dsimp only
 cases h3:x.1 != 3 with
 |true=>rfl
 |false=>exact wq18d k nd hk l hll x (h.keys h3) h.ok.2.1 h.kids K _ _ 0 k rfl rfl (Nat.zero_le _) (by have:=h.ok.2.1;omega)
theorem wq1hf {R:Type} (k:Nat) (nd:List Nd) (hk:5100<k) (l:List (List UInt8)) (hll:l.length≤20) (x:Nd) (i:Nat) (hi:i<x.2.2.2.2.1.length) (hl:x.2.2.2.2.1.length≤4000) (c:List UInt8) (hc:∀ d,x.2.2.2.2.1.getD i d=c) (y:Int) (hx:i<x.2.2.2.2.2.length) (hc2:∀ d,x.2.2.2.2.2.getD i d=y) (hyk:0≤y∧y<(nd.length:Int))
 (J) (K:Int→Int→Option R):∀(q:List (List UInt8)) (j m:Nat) (b:Bool),l.drop j=q→j≤l.length→q.length<m →
 wq4e k J m l nd 0 0 x.1 x.2.1 x.2.2.1 x.2.2.2.1 x.2.2.2.2.1 x.2.2.2.2.2 (i:Int) b (j:Int) K=bif b || anyK c q then J l nd 0 0 x.1 x.2.1 x.2.2.1 x.2.2.2.1 x.2.2.2.2.1 x.2.2.2.2.2 ((i+1:Nat):Int)else K 5 (lineS nd y)
 |q,j,0,b,_,_,h=>by omega
 |[],j,m+1,b,hd,hj,hm=>by
  have:=wq2t hd
  obtain⟨l1,l2⟩:=wq1he hyk
  rw[wq4e,wqal]
  simp(disch:=omega)only[dec_t,dec_f,ieq_t,ieq_f,ine_t,ine_f,inb_t,bnd_t,wqm,wqn,cond_true,cond_false,Bool.not_true,Bool.not_false,Bool.true_or,Bool.or_true,Bool.false_or,Bool.or_false,Bool.true_and,Bool.and_true,Bool.false_and,Bool.and_false,wq2,wq0,wq1,hc,hc2,wq33,anyK]
  unfold wq5k wq10n
  rw[l1,cond_true,l2]
  cases b<;>rfl
 |p::r,j,m+1,b,hd,hj,hm=>by
  obtain⟨hlt,hp,hr⟩:=wq10 hd
  rw[wq4e,wqal]
  simp(disch:=omega)only[dec_t,dec_f,ieq_t,ieq_f,ine_t,ine_f,inb_t,bnd_t,wqm,wqn,cond_true,cond_false,Bool.not_true,Bool.not_false,Bool.true_or,Bool.or_true,Bool.false_or,Bool.or_false,Bool.true_and,Bool.and_true,Bool.false_and,Bool.and_false,wq2,wq0,wq1,hc,hc2,hp,wq33,anyK]
  rw[wq1hf k nd hk l hll x i hi hl c hc y hx hc2 hyk J K r (j+1) m _ hr (by omega) (by simp at hm;omega)]
  have e:(p == c)=(c == p):=by rw[Bool.eq_iff_iff];simp;exact eq_comm
  rw[e]
  cases b<;>cases c == p<;>rfl
theorem wq1cq{R:Type}(k:Nat)(nd:List Nd)(hk:5100<k)(l:List (List UInt8))(hll:l.length≤20)(x:Nd)(hx:x.2.2.2.2.1.length=x.2.2.2.2.2.length)(hl:x.2.2.2.2.1.length≤4000)(hy:∀ y∈x.2.2.2.2.2,0≤y∧y<(nd.length:Int))(K:Int→Int→Option R): ∀(q:List (List UInt8)) (s:List Int) (i m:Nat),x.2.2.2.2.1.drop i=q→x.2.2.2.2.2.drop i=s→i≤x.2.2.2.2.1.length→q.length<m →
 wq51 k m l nd 0 0 x.1 x.2.1 x.2.2.1 x.2.2.2.1 x.2.2.2.2.1 x.2.2.2.2.2 (i:Int) K=K (unkS nd l q s).1 (unkS nd l q s).2
 |q,s,i,0,_,_,_,h=>by omega
 |[],s,i,m+1,hd,hs,hi,hm=>by
  have:=wq2t hd
  rw[wq51,wq8e,dec_f (by omega),unkS]
  ·rfl
  ·intro _ _ _ _ h _;cases h
 |c::r,[],i,m+1,hd,hs,hi,hm=>by
  obtain⟨hlt,hc,hr⟩:=wq10 hd
  have:=wq2t hs
  omega
 |c::r,y::s,i,m+1,hd,hs,hi,hm=>by
  obtain⟨hlt,hc,hr⟩:=wq10 hd
  obtain⟨hlt2,hc2,hr2⟩:=wq10 hs
  have hyk:=hy y (by
   have:=hc2 0
   rw[List.getD,List.getElem?_eq_getElem hlt2]at this
   rw[←this];exact List.getElem_mem _)
  rw[wq51,wq8e,unkS,dec_t (by omega),cond_true]
  refine(wq1hf k nd hk l hll x i hlt hl c hc y hlt2 hc2 hyk _ K l 0 k false rfl (Nat.zero_le _) (by omega)).trans ?_
  rw[Bool.false_or]
  cases anyK c l with
  |true=>exact wq1cq k nd hk l hll x hx hl hy K r s (i+1) m hr hr2 (by omega) (by simp at hm;omega)
  |false=>rfl
theorem At.rknown{R:Type}{k:Nat}{nd:List Nd}{n:Nat}{x:Nd}(h:At nd n x)(hk:5100<k)(l:List (List UInt8))(hll:l.length≤20)(K:Int→Int→Option R): wq1e k nd (n:Int) l K=K (knownS nd (some x) l).1 (knownS nd (some x) l).2:=by
 unfold wq1e wqjs knownS
 rw[h.inb,cond_true,wq1,h.get,h.at]
 dsimp only
 cases h3:x.1 != 3 with
 |true=>rfl
 |false=>exact wq1cq k nd hk l hll x (h.keys h3) h.ok.2.1 h.kids K _ _ 0 k rfl rfl (Nat.zero_le _) (by have:=h.ok.2.1;omega)
def o3{R T:Type}(K:T→Int→Int→Option R)(p:T×Int×Int): Option R:=K p.1 p.2.1 p.2.2
def tvS{T:Type}(z:T)(o:Option Nd)(g:Nd→T×Int×Int): T×Int×Int :=
 match o with
 |none=>(z,11,0)
 |some x=>bif x.1 != 1 then(z,11,x.2.1)else g x
def numV(least most:Int)(x:Nd): Int×Int×Int :=
 bif x.2.2.2.1 then(0,13,x.2.1)else match numS x.2.2.1 with
  |none=>(0,13,x.2.1)
  |some v=>bif decide ((v:Int)<least) || decide ((v:Int)>most)then(0,13,x.2.1)else((v:Int),0,0)
def boolV(x:Nd): Bool×Int×Int :=
 bif x.2.2.2.1 then(false,14,x.2.1)else bif !(x.2.2.1 == [116,114,117,101]) && !(x.2.2.1 == [102,97,108,115,101])then(false,14,x.2.1)else(x.2.2.1 == [116,114,117,101],0,0)
def outR(v:Nat): Bool:=bif (bif fltIs .neq v v then true else fltIs .lss v 0)then true else fltIs .gtr v 4607182418800017408
def ratV(x:Nd): Nat×Int×Int :=
 bif x.2.2.2.1 then(0,15,x.2.1)else match rdS x.2.2.1 with
  |none=>(0,15,x.2.1)
  |some v=>bif outR v then(0,15,x.2.1)else(v % fW,0,0)
def nmB(s:List UInt8): Bool:=(s.all fun c => !(decide (c.toNat<33) || decide (c.toNat>126)))&&(decide (1≤s.length)&&decide (s.length≤64))
def nameV(x:Nd): List UInt8×Int×Int:=bif nmB x.2.2.1 then(x.2.2.1,0,0)else([],12,x.2.1)
def wordV(x:Nd): List UInt8×Int×Int:=bif decide (x.2.2.1.length≤128)then(x.2.2.1,0,0)else([],12,x.2.1)
theorem rd_may{s:List UInt8}{v:Nat}(h:rdS s=some v): v=fNaN∨v=fI∨v=fI+fW∨v≤fI∨∃ q,q≤fI∧v=q+fW:=by
 unfold rdS at h
 cases h1:s == [110,97,110]with
 |true=>rw[h1]at h;cases h;exact .inl rfl
 |false =>
  rw[h1,cond_false]at h
  cases h2:s == [105,110,102]with
  |true=>rw[h2]at h;cases h;exact .inr (.inl rfl)
  |false =>
   rw[h2,cond_false]at h
   cases h3:s == [45,105,110,102]with
   |true=>rw[h3]at h;cases h;exact .inr (.inr (.inl rfl))
   |false =>
    rw[h3,cond_false]at h
    cases hr:ratS (sT s)with
    |none=>rw[hr]at h;cases h
    |some q =>
     obtain⟨w,p⟩:=q
     rw[hr]at h
     have hp:p.length≤6:=by
      unfold ratS at hr
      cases hw:wqip (wholeP (sT s))with
      |false=>rw[hw]at hr;cases hr
      |true =>
       rw[hw,cond_true]at hr
       cases hd:(sT s).drop (wholeP (sT s)).length with
       |nil=>rw[hd]at hr;cases hr;simp
       |cons c p' =>
        rw[hd]at hr
        dsimp only at hr
        cases hc:c == 46&&partOk p' with
        |false=>rw[hc]at hr;cases hr
        |true =>
         rw[hc]at hr
         cases hr
         unfold partOk at hc
         simp only[Bool.and_eq_true,decide_eq_true_eq]at hc
         exact hc.2.2.2
     obtain⟨_,q2⟩:=wq1jo (w:=w) hp
     cases hm:sM s with
     |false=>rw[hm]at h;cases h;exact .inr (.inr (.inr (.inl q2)))
     |true =>
      rw[hm]at h
      cases h
      have:fI<fW:=by decide
      exact .inr (.inr (.inr (.inr ⟨quoF w p,q2,wq187 (by omega)⟩)))
theorem rd_lt{s:List UInt8}{v:Nat}(h:rdS s=some v): v<18446744073709551616:=by
 have e1:fNaN<18446744073709551616:=by decide
 have e2:fI+fW<18446744073709551616:=by decide
 rcases rd_may h with h|h|h|h|⟨q,hq,h⟩<;>omega
theorem lss_0{q:Nat}(h:q≤fI)(h0:q≠0): outR (q+fW)=true:=by
 have:=neg_0 h h0
 unfold outR fltIs
 simp only[this]
 cases fltC (q+fW) (q+fW) != some .eq<;>rfl
theorem rd_in{s:List UInt8}{v:Nat}(h:rdS s=some v)(ho:outR v=false): v % fW≤fI∧(bif fltIs .eql v 0 then 0 else v)=v % fW:=by
 have hI:fI<fW:=by decide
 have pos:∀ v,v≤fI→v % fW≤fI∧(bif fltIs .eql v 0 then 0 else v)=v % fW:=fun v hv=>by
  have e:fltIs .eql v 0=decide (v=0):=by
   unfold fltIs
   simp only[pos_0 hv]
   by_cases h0:v=0
   ·rw[if_pos h0,dec_t h0];rfl
   ·rw[if_neg h0,dec_f h0];rfl
  rw[e,Nat.mod_eq_of_lt (by omega)]
  refine⟨hv,?_⟩
  by_cases h0:v=0
  ·rw[h0];rfl
  ·rw[dec_f h0];rfl
 rcases rd_may h with rfl|rfl|rfl|h|⟨q,hq,rfl⟩
 ·have:outR fNaN=true:=by decide +kernel
  rw[this]at ho;cases ho
 ·exact pos _ (Nat.le_refl _)
 ·rw[lss_0 (Nat.le_refl _) (by decide)]at ho;cases ho
 ·exact pos v h
 ·by_cases h0:q=0
  ·subst h0
   have e:fltIs .eql (0+fW) 0=true:=by decide +kernel
   rw[e]
   have:(0+fW) % fW=0:=by decide +kernel
   rw[this]
   exact⟨Nat.zero_le _,rfl⟩
  ·rw[lss_0 hq h0]at ho;cases ho
theorem wq1b9(k:Nat){R:Type}(s:List UInt8)(hs:s.length≤4000)(hk:5000<k)(K:Bool→Option R): wqaz k s K=K (nmB s):=by
 unfold wqaz wquh
 have loop:∀(t:List UInt8) (i m:Nat),s.drop i=t→t.length<m→i≤s.length→wq7z k m s (s.length:Int) (i:Int) K=K ((t.all fun c => !(decide (c.toNat<33) || decide (c.toNat>126)))&&(decide (1≤s.length)&&decide (s.length≤64))):=by
  intro t
  induction t with
  |nil =>
   intro i m hd hm hi
   have:=wq2t hd
   obtain⟨m,rfl⟩:∃ j,m=j+1:=⟨m-1,by simp at hm;omega⟩
   rw[wq7z,wqe1,dec_f (by omega),cond_false]
   have h1:decide ((s.length:Int)≥1)=decide (1≤s.length):=by rw[Bool.eq_iff_iff];simp;omega
   have h2:decide ((s.length:Int)≤64)=decide (s.length≤64):=by rw[Bool.eq_iff_iff];simp;omega
   rw[h1,h2]
   cases decide (1≤s.length)<;>rfl
  |cons c r ih =>
   intro i m hd hm hi
   obtain⟨hlt,hc,hr⟩:=wq10 hd
   obtain⟨m,rfl⟩:∃ j,m=j+1:=⟨m-1,by simp at hm;omega⟩
   rw[wq7z,wqe1]
   simp(disch:=omega)only[dec_t,dec_f,ieq_t,ieq_f,ine_t,ine_f,inb_t,bnd_t,wqm,wqn,cond_true,cond_false,Bool.not_true,Bool.not_false,Bool.true_or,Bool.or_true,Bool.false_or,Bool.or_false,Bool.true_and,Bool.and_true,Bool.false_and,Bool.and_false,wq2,wq0,wq1,hc,wq33]
   have h1:decide ((c.toNat:Int)<33)=decide (c.toNat<33):=by rw[Bool.eq_iff_iff];simp;omega
   have h2:decide ((c.toNat:Int)>126)=decide (c.toNat>126):=by rw[Bool.eq_iff_iff];simp;omega
   rw[h1,h2,List.all_cons,ih (i+1) m hr (by simp at hm;omega) (by omega),dec_t (show 1≤s.length by omega),Bool.true_and]
   cases decide (c.toNat<33)<;>cases decide (c.toNat>126)<;>simp
 exact loop s 0 k rfl (by omega) (Nat.zero_le _)
theorem wq1ba(k:Nat){R:Type}(s:List UInt8)(hs:s.length≤4000)(hk:5000<k)(K:Bool→Option R): wqkh k s K=K (nmB s):=by
 unfold wqkh wqvf nmB
 have loop:∀(t:List UInt8) (i m:Nat),s.drop i=t→t.length<m→i≤s.length→wq8f k m s (i:Int) K=K (t.all fun c => !(decide (c.toNat<33) || decide (c.toNat>126))):=by
  intro t
  induction t with
  |nil =>
   intro i m hd hm hi
   have:=wq2t hd
   obtain⟨m,rfl⟩:∃ j,m=j+1:=⟨m-1,by simp at hm;omega⟩
   rw[wq8f,wqep,dec_f (by omega)];rfl
  |cons c r ih =>
   intro i m hd hm hi
   obtain⟨hlt,hc,hr⟩:=wq10 hd
   obtain⟨m,rfl⟩:∃ j,m=j+1:=⟨m-1,by simp at hm;omega⟩
   rw[wq8f,wqep]
   simp(disch:=omega)only[dec_t,dec_f,ieq_t,ieq_f,ine_t,ine_f,inb_t,bnd_t,wqm,wqn,cond_true,cond_false,Bool.not_true,Bool.not_false,Bool.true_or,Bool.or_true,Bool.false_or,Bool.or_false,Bool.true_and,Bool.and_true,Bool.false_and,Bool.and_false,wq2,wq0,wq1,hc,wq33]
   have h1:decide ((c.toNat:Int)<33)=decide (c.toNat<33):=by rw[Bool.eq_iff_iff];simp;omega
   have h2:decide ((c.toNat:Int)>126)=decide (c.toNat>126):=by rw[Bool.eq_iff_iff];simp;omega
   rw[h1,h2,List.all_cons,ih (i+1) m hr (by simp at hm;omega) (by omega)]
   cases decide (c.toNat<33)<;>cases decide (c.toNat>126)<;>simp
 by_cases h1:s.length<1
 ·rw[dec_t (show(s.length:Int)<1 by omega),dec_f (show ¬ 1≤s.length by omega)];simp
 ·rw[dec_f (show ¬ (s.length:Int)<1 by omega),dec_t (show 1≤s.length by omega),cond_false]
  by_cases h2:s.length>64
  ·rw[dec_t (show(s.length:Int)>64 by omega),dec_f (show ¬ s.length≤64 by omega)];simp
  ·rw[dec_f (show ¬ (s.length:Int)>64 by omega),dec_t (show s.length≤64 by omega),cond_false,Bool.and_true,Bool.and_true]
   exact loop s 0 k rfl (by omega) (Nat.zero_le _)
theorem At.snum{R:Type}{k:Nat}{nd:List Nd}{n:Nat}{x:Nd}(h:At nd n x)(hk:5100<k)(least most:Int)(K:Int→Int→Int→Option R): wq2n k nd (n:Int) least most K=o3 K (tvS 0 (some x) (numV least most)):=by
 unfold wq2n wqiw tvS numV
 rw[h.bare]
 dsimp only
 cases x.1 != 1 with
 |true=>rfl
 |false =>
  cases x.2.2.2.1 with
  |true=>rfl
  |false =>
   have e:((0:Int) != 0)=false:=rfl
   simp only[cond_false,e]
   rw[wq1b4 k _ (by omega) (by have:=h.ok.1;omega)]
   cases numS x.2.2.1 with
   |none=>simp only[numK,Bool.not_false,cond_true,h.fault,o3]
   |some v =>
    simp only[numK,Bool.not_true,cond_false,h.fault,o3]
    cases decide ((v:Int)<least)<;>cases decide ((v:Int)>most)<;>rfl
theorem At.rnum{R:Type}{k:Nat}{nd:List Nd}{n:Nat}{x:Nd}(h:At nd n x)(hk:5100<k)(least most:Int)(K:Int→Int→Int→Option R): wq5n k nd (n:Int) least most K=o3 K (tvS 0 (some x) (numV least most)):=by
 unfold wq5n wqoa tvS numV
 rw[h.inb,cond_true,wq1,h.get]
 simp only[h.at]
 cases x.1 != 1 with
 |true=>rfl
 |false =>
  simp only[cond_false]
  rw[wq184 k _ (by omega)]
  cases x.2.2.2.1 with
  |true=>cases numS x.2.2.1<;>rfl
  |false =>
   simp only[cond_false]
   cases numS x.2.2.1 with
   |none=>rfl
   |some v =>
    simp only[numK,Bool.not_true,cond_false,o3]
    cases decide ((v:Int)<least)<;>cases decide ((v:Int)>most)<;>rfl
theorem At.sbool{R:Type}{k:Nat}{nd:List Nd}{n:Nat}{x:Nd}(h:At nd n x)(hk:5100<k)(K:Bool→Int→Int→Option R): wq8u k nd (n:Int) K=o3 K (tvS false (some x) boolV):=by
 unfold wq8u wqm5 tvS boolV
 rw[h.bare]
 simp only[h.fault]
 cases x.1 != 1 with
 |true=>rfl
 |false =>
  cases x.2.2.2.1 with
  |true=>rfl
  |false =>
   have e:((0:Int) != 0)=false:=rfl
   simp only[cond_false,e]
   cases x.2.2.1 == [116,114,117,101]<;>cases x.2.2.1 == [102,97,108,115,101]<;>rfl
theorem At.rbool{R:Type}{k:Nat}{nd:List Nd}{n:Nat}{x:Nd}(h:At nd n x)(hk:5100<k)(K:Bool→Int→Int→Option R): wq43 k nd (n:Int) K=o3 K (tvS false (some x) boolV):=by
 unfold wq43 wqt9 tvS boolV
 rw[h.inb,cond_true,wq1,h.get]
 simp only[h.at]
 cases x.1 != 1 with
 |true=>rfl
 |false =>
  cases x.2.2.2.1 with
  |true=>rfl
  |false=>cases x.2.2.1 == [116,114,117,101]<;>cases x.2.2.1 == [102,97,108,115,101]<;>rfl
theorem At.srat{R:Type}{k:Nat}{nd:List Nd}{n:Nat}{x:Nd}(h:At nd n x)(hk:5100<k)(K:Nat→Int→Int→Option R): wq7q k nd (n:Int) K=o3 K (tvS 0 (some x) ratV):=by
 unfold wq7q wqf4 tvS ratV
 rw[h.bare]
 simp only[h.fault]
 cases x.1 != 1 with
 |true=>rfl
 |false =>
  cases x.2.2.2.1 with
  |true=>rfl
  |false =>
   have e:((0:Int) != 0)=false:=rfl
   simp only[cond_false,e]
   rw[wqtt k _ h.ok.1 (by omega)]
   cases hr:rdS x.2.2.1 with
   |none=>rfl
   |some v =>
    simp only[rdK,Bool.not_true,beq_self_eq_true,cond_true]
    unfold wq3f wqku
    have eo:(bif bif fltIs BinOp.neq v v then true else fltIs BinOp.lss v 0 then true else fltIs BinOp.gtr v 4607182418800017408)=outR v:=rfl
    dsimp only
    rw[eo]
    cases outR v with
    |true=>rfl
    |false=>simp only[cond_false];rw[Abs_eq k v (rd_lt hr)];rfl
theorem At.rrat{R:Type}{k:Nat}{nd:List Nd}{n:Nat}{x:Nd}(h:At nd n x)(hk:5100<k)(K:Nat→Int→Int→Option R): wq35 k nd (n:Int) K=o3 K (tvS 0 (some x) ratV):=by
 unfold wq35 wqq2 tvS ratV
 rw[h.inb,cond_true,wq1,h.get]
 simp only[h.at]
 cases x.1 != 1 with
 |true=>rfl
 |false =>
  simp only[cond_false]
  rw[wq112 k _ h.ok.1 (by omega)]
  cases x.2.2.2.1 with
  |true=>cases rdS x.2.2.1<;>rfl
  |false =>
   cases hr:rdS x.2.2.1 with
   |none=>rfl
   |some v =>
    simp only[rdK,Bool.not_true,beq_self_eq_true,cond_true,cond_false]
    unfold wq3f wqku
    have eo:(bif bif fltIs BinOp.neq v v then true else fltIs BinOp.lss v 0 then true else fltIs BinOp.gtr v 4607182418800017408)=outR v:=rfl
    dsimp only
    rw[eo]
    cases ho:outR v with
    |true=>rfl
    |false =>
     obtain⟨_,r2⟩:=rd_in hr ho
     rw[←r2]
     cases fltIs BinOp.eql v 0<;>rfl
theorem At.sname{R:Type}{k:Nat}{nd:List Nd}{n:Nat}{x:Nd}(h:At nd n x)(hk:5100<k)(K:List UInt8→Int→Int→Option R): wq8w k nd (n:Int) K=o3 K (tvS [] (some x) nameV):=by
 unfold wq8w wqm7 tvS nameV
 rw[h.need,h.inb]
 simp only[h.fault,wq1,h.get]
 cases x.1 != 1 with
 |true=>rfl
 |false =>
  have e:((0:Int) != 0)=false:=rfl
  simp only[cond_false,e,cond_true]
  rw[wq1b9 k _ h.ok.1 (by omega)]
  cases nmB x.2.2.1<;>rfl
theorem At.rname{R:Type}{k:Nat}{nd:List Nd}{n:Nat}{x:Nd}(h:At nd n x)(hk:5100<k)(K:List UInt8→Int→Int→Option R): wq24 k nd (n:Int) K=o3 K (tvS [] (some x) nameV):=by
 unfold wq24 wqt8 tvS nameV
 rw[h.inb,cond_true,wq1,h.get]
 simp only[h.at]
 cases x.1 != 1 with
 |true=>rfl
 |false =>
  simp only[cond_false]
  rw[wq1ba k _ h.ok.1 (by omega)]
  cases nmB x.2.2.1<;>rfl
theorem At.sword{R:Type}{k:Nat}{nd:List Nd}{n:Nat}{x:Nd}(h:At nd n x)(hk:5100<k)(K:List UInt8→Int→Int→Option R): wq5u k nd (n:Int) K=o3 K (tvS [] (some x) wordV):=by
 unfold wq5u wqme tvS wordV
 rw[h.need,h.inb]
 simp only[h.fault,wq1,h.get]
 cases x.1 != 1 with
 |true=>rfl
 |false =>
  have e:((0:Int) != 0)=false:=rfl
  simp only[cond_false,e,cond_true]
  have e2:decide ((x.2.2.1.length:Int)≤128)=decide (x.2.2.1.length≤128):=by rw[Bool.eq_iff_iff];simp;omega
  rw[e2]
  cases decide (x.2.2.1.length≤128)<;>rfl
theorem At.rword{R:Type}{k:Nat}{nd:List Nd}{n:Nat}{x:Nd}(h:At nd n x)(hk:5100<k)(K:List UInt8→Int→Int→Option R): wq5m k nd (n:Int) K=o3 K (tvS [] (some x) wordV):=by
 unfold wq5m wqtb tvS wordV
 rw[h.inb,cond_true,wq1,h.get]
 simp only[h.at]
 cases x.1 != 1 with
 |true=>rfl
 |false =>
  simp only[cond_false]
  have e2:decide ((x.2.2.1.length:Int)>128) = !decide (x.2.2.1.length≤128):=by
   by_cases h:x.2.2.1.length≤128
   ·rw[dec_t h,dec_f (by omega)];rfl
   ·rw[dec_f h,dec_t (by omega)];rfl
  rw[e2]
  cases decide (x.2.2.1.length≤128)<;>rfl
inductive Rz (T:Type) where
 |ok (x:T)
 |er (f:Int×Int)
def Rz.bind{A B:Type}: Rz A→(A→Rz B)→Rz B
 |.ok x,g=>g x
 |.er f,_ => .er f
def Rz.run{T R:Type}: Rz T→(T→Option R)→(Int→Int→Option R)→Option R
 |.ok x,K,_=>K x
 |.er f,_,E=>E f.1 f.2
theorem run_bind{A B R:Type}(r:Rz A)(g:A→Rz B)(K:B→Option R)(E:Int→Int→Option R): (r.bind g).run K E=r.run (fun x=>(g x).run K E) E:=by cases r<;>rfl
def Rz.out{T R:Type}(z:T): Rz T→(T→Int→Int→Option R)→Option R
 |.ok x,K=>K x 0 0
 |.er f,K=>K z f.1 f.2
def tvR{T:Type}(p:T×Int×Int): Rz T:=bif p.2.1 != 0 then .er p.2 else .ok p.1
def Gd{T:Type}(z:T)(p:T×Int×Int): Prop:=(p.2.1=0→p.2.2=0)∧(p.2.1≠0→p.1=z)
theorem tv_out{T R:Type}{z:T}{p:T×Int×Int}(h:Gd z p)(K:T→Int→Int→Option R): o3 K p=(tvR p).out z K:=by
 obtain⟨a,b,c⟩:=p
 unfold tvR o3
 by_cases hb:b=0
 ·have:c=0:=h.1 hb
  subst hb this;rfl
 ·have:a=z:=h.2 hb
  subst this
  have e:(b != 0)=true:=by simpa using hb
  dsimp only
  rw[e];rfl
theorem gd_c{T:Type}{z:T}{c:Bool}{p q:T×Int×Int}(h1:Gd z p)(h2:Gd z q): Gd z (bif c then p else q):=by cases c<;>assumption
theorem gd_er{T:Type}(z:T){a c:Int}(h:a≠0): Gd z (z,a,c):=⟨fun e=>absurd e h,fun _=>rfl⟩
theorem gd_ok{T:Type}(z x:T): Gd z (x,0,0):=⟨fun _=>rfl,fun e=>absurd rfl e⟩
theorem gd_tv{T:Type}{z:T}{g:Nd→T×Int×Int}(h:∀ x,Gd z (g x))(o:Option Nd): Gd z (tvS z o g):=by
 unfold tvS
 cases o with
 |none=>exact gd_er z (by decide)
 |some x=>exact gd_c (gd_er z (by decide)) (h x)
theorem wq1ju(x:Nd): Gd false (boolV x):=gd_c (gd_er _ (by decide)) (gd_c (gd_er _ (by decide)) (gd_ok _ _))
theorem gd_num(l m:Int)(x:Nd): Gd 0 (numV l m x):=by
 unfold numV
 refine gd_c (gd_er _ (by decide)) ?_
 cases numS x.2.2.1 with
 |none=>exact gd_er _ (by decide)
 |some v=>exact gd_c (gd_er _ (by decide)) (gd_ok _ _)
theorem gd_rat(x:Nd): Gd 0 (ratV x):=by
 unfold ratV
 refine gd_c (gd_er _ (by decide)) ?_
 cases rdS x.2.2.1 with
 |none=>exact gd_er _ (by decide)
 |some v=>exact gd_c (gd_er _ (by decide)) (gd_ok _ _)
theorem wq1jv(x:Nd): Gd [] (nameV x):=gd_c (gd_ok _ _) (gd_er _ (by decide))
theorem wq1jw(x:Nd): Gd [] (wordV x):=gd_c (gd_ok _ _) (gd_er _ (by decide))
def Nz{T:Type}: Rz T→Prop
 |.ok _=>True
 |.er f=>f.1≠0
theorem nz_tv{T:Type}(p:T×Int×Int): Nz (tvR p):=by
 unfold tvR
 cases h:p.2.1 != 0 with
 |false=>trivial
 |true=>simpa [Nz]using h
theorem wq8r{A B:Type}{r:Rz A}{g:A→Rz B}(h:Nz r)(hg:∀ x,Nz (g x)): Nz (r.bind g):=by
 cases r with
 |ok x=>exact hg x
 |er f=>exact h
theorem nz_c{T:Type}{c:Bool}{p q:Rz T}(h1:Nz p)(h2:Nz q): Nz (bif c then p else q):=by cases c<;>assumption
def findR(nd:List Nd)(n:Int)(key:List UInt8): Option Int:=bif (findS (ndAt nd n) key).2 then some (findS (ndAt nd n) key).1 else none
def boolR(nd:List Nd)(j:Int): Rz Bool:=tvR (tvS false (ndAt nd j) boolV)
def numR(nd:List Nd)(j:Int): Rz Int:=tvR (tvS 0 (ndAt nd j) (numV 0 4294967295))
def ratR(nd:List Nd)(j:Int): Rz Nat:=tvR (tvS 0 (ndAt nd j) ratV)
def nameR(nd:List Nd)(j:Int): Rz (List UInt8):=tvR (tvS [] (ndAt nd j) nameV)
def wordR(nd:List Nd)(j:Int): Rz (List UInt8):=tvR (tvS [] (ndAt nd j) wordV)
def unR(p:Int×Int): Rz Unit:=bif p.1 != 0 then .er p else .ok ()
def needR(nd:List Nd)(j kd:Int): Rz Unit:=unR (needS (ndAt nd j) kd)
def knownR(nd:List Nd)(j:Int)(l:List (List UInt8)): Rz Unit:=unR (knownS nd (ndAt nd j) l)
def textR(nd:List Nd)(j:Int): List UInt8:=match ndAt nd j with|some x=>x.2.2.1|none=>[]
def kidsR(nd:List Nd)(j:Int): List Int:=match ndAt nd j with|some x=>x.2.2.2.2.2|none=>[]
def mustR(nd:List Nd)(n:Int)(key:List UInt8): Rz Int:=match findR nd n key with|some j => .ok j|none => .er (10,lineS nd n)
def optR{T:Type}(o:Option Int)(z:T)(f:Int→Rz T): Rz T:=match o with|some j=>f j|none => .ok z
theorem un_nz(p:Int×Int): Nz (unR p):=by
 unfold unR
 cases h:p.1 != 0 with
 |false=>trivial
 |true=>simpa [Nz]using h
theorem wq18e(nd:List Nd)(n:Int)(key:List UInt8): Nz (mustR nd n key):=by
 unfold mustR
 cases findR nd n key with
 |none=>show(10:Int)≠0;decide
 |some j=>trivial
theorem opt_nz{T:Type}{o:Option Int}{z:T}{f:Int→Rz T}(h:∀ j,Nz (f j)): Nz (optR o z f):=by
 cases o with
 |none=>trivial
 |some j=>exact h j
structure Dk (k:Nat) (nd:List Nd):Prop where
 hk:6000<k
 hn:nd.length≤4000
 ho:∀ x∈nd,okD x
 hc:checkS nd=true
def InD(nd:List Nd)(i:Int): Prop:=0≤i∧i<(nd.length:Int)
theorem Dk.at{k:Nat}{nd:List Nd}(D:Dk k nd){i:Int}(h:InD nd i): ∃ n x,i=((n:Nat):Int)∧ndAt nd i=some x∧At nd n x:=by
 rcases node nd D.hn D.ho i with⟨_,h2⟩|⟨_,n,x,e,h1,h⟩
 ·rw[D.hc,Bool.and_true]at h2
  unfold inR at h2
  rw[dec_t (show i≥0 from h.1),cond_true,dec_t h.2]at h2
  cases h2
 ·exact⟨n,x,e,h1,h⟩
theorem Dk.kids{k:Nat}{nd:List Nd}(D:Dk k nd){i:Int}(h:InD nd i): ∀ j∈kidsR nd i,InD nd j:=by
 obtain⟨n,x,rfl,h1,a⟩:=D.at h
 unfold kidsR
 rw[h1]
 exact a.kids
theorem wq1iz{x:Nd}{key:List UInt8}{i:Nat}(hl:(x.1 != 3)=false→x.2.2.2.2.1.length=x.2.2.2.2.2.length)(h:(findS (some x) key).2=true): (findS (some x) key).1∈x.2.2.2.2.2:=by
 unfold findS at h ⊢
 dsimp only at h ⊢
 cases h3:x.1 != 3 with
 |true=>rw[h3]at h;cases h
 |false =>
  simp only[h3,cond_false]at h ⊢
  cases hi:idxS key x.2.2.2.2.1 0 with
  |none=>rw[hi]at h;cases h
  |some j =>
   have:=idx_lt _ _ _ _ hi
   rw[hl h3]at this
   dsimp only
   rw[List.getD,List.getElem?_eq_getElem (show j<x.2.2.2.2.2.length by omega)]
   exact List.getElem_mem _
theorem Dk.find{k:Nat}{nd:List Nd}(D:Dk k nd){i j:Int}{key:List UInt8}(h:InD nd i)(hf:findR nd i key=some j): InD nd j:=by
 obtain⟨n,x,rfl,h1,a⟩:=D.at h
 unfold findR at hf
 rw[h1]at hf
 cases hb:(findS (some x) key).2 with
 |false=>rw[hb]at hf;cases hf
 |true =>
  rw[hb,cond_true]at hf
  injection hf with hf
  rw[←hf]
  exact a.kids _ (wq1iz (i:=0) a.keys hb)
theorem Dk.line{k:Nat}{nd:List Nd}(D:Dk k nd){i:Int}(h:InD nd i): inb i (nd.length:Int)=true∧∀ z,(nd.getD i.toNat z).2.1=lineS nd i:=wq1he h
section
variable {R:Type} {k:Nat} {nd:List Nd} (D:Dk k nd) {i:Int} (h:InD nd i)
include D h
theorem Dk.sfind(key:List UInt8)(K:Int→Bool→Option R): wq18 k nd i key K=match findR nd i key with|some j=>K j true|none=>K 0 false:=by
 obtain⟨n,x,rfl,h1,a⟩:=D.at h
 have:=D.hk
 rw[a.sfind (by omega)]
 unfold findR
 rw[h1]
 cases hb:(findS (some x) key).2 with
 |true=>rfl
 |false =>
  have:(findS (some x) key).1=0:=by
   unfold findS at hb ⊢
   dsimp only at hb ⊢
   cases h3:x.1 != 3 with
   |true=>rfl
   |false =>
    simp only[h3,cond_false]at hb ⊢
    cases hi:idxS key x.2.2.2.2.1 0 with
    |none=>rfl
    |some j=>rw[hi]at hb;cases hb
  rw[this];rfl
theorem Dk.rfind(key:List UInt8)(K:Int→Bool→Option R): wqx k nd i key K=match findR nd i key with|some j=>K j true|none=>K 0 false:=by
 have:=D.hk
 rw[←D.sfind h key K]
 obtain⟨n,x,rfl,h1,a⟩:=D.at h
 rw[a.sfind (by omega),a.rfind (by omega)]
theorem Dk.sbool(K:Bool→Int→Int→Option R): wq8u k nd i K=(boolR nd i).out false K:=by
 have:=D.hk;obtain⟨n,x,rfl,h1,a⟩:=D.at h
 unfold boolR;rw[a.sbool (by omega),h1,tv_out (gd_tv wq1ju _)]
theorem Dk.rbool(K:Bool→Int→Int→Option R): wq43 k nd i K=(boolR nd i).out false K:=by
 have:=D.hk;obtain⟨n,x,rfl,h1,a⟩:=D.at h
 unfold boolR;rw[a.rbool (by omega),h1,tv_out (gd_tv wq1ju _)]
theorem Dk.snum(K:Int→Int→Int→Option R): wq2n k nd i 0 4294967295 K=(numR nd i).out 0 K:=by
 have:=D.hk;obtain⟨n,x,rfl,h1,a⟩:=D.at h
 unfold numR;rw[a.snum (by omega),h1,tv_out (gd_tv (gd_num _ _) _)]
theorem Dk.rnum(K:Int→Int→Int→Option R): wq5n k nd i 0 4294967295 K=(numR nd i).out 0 K:=by
 have:=D.hk;obtain⟨n,x,rfl,h1,a⟩:=D.at h
 unfold numR;rw[a.rnum (by omega),h1,tv_out (gd_tv (gd_num _ _) _)]
theorem Dk.srat(K:Nat→Int→Int→Option R): wq7q k nd i K=(ratR nd i).out 0 K:=by
 have:=D.hk;obtain⟨n,x,rfl,h1,a⟩:=D.at h
 unfold ratR;rw[a.srat (by omega),h1,tv_out (gd_tv gd_rat _)]
theorem Dk.rrat(K:Nat→Int→Int→Option R): wq35 k nd i K=(ratR nd i).out 0 K:=by
 have:=D.hk;obtain⟨n,x,rfl,h1,a⟩:=D.at h
 unfold ratR;rw[a.rrat (by omega),h1,tv_out (gd_tv gd_rat _)]
theorem Dk.sname(K:List UInt8→Int→Int→Option R): wq8w k nd i K=(nameR nd i).out [] K:=by
 have:=D.hk;obtain⟨n,x,rfl,h1,a⟩:=D.at h
 unfold nameR;rw[a.sname (by omega),h1,tv_out (gd_tv wq1jv _)]
theorem Dk.rname(K:List UInt8→Int→Int→Option R): wq24 k nd i K=(nameR nd i).out [] K:=by
 have:=D.hk;obtain⟨n,x,rfl,h1,a⟩:=D.at h
 unfold nameR;rw[a.rname (by omega),h1,tv_out (gd_tv wq1jv _)]
theorem Dk.sword(K:List UInt8→Int→Int→Option R): wq5u k nd i K=(wordR nd i).out [] K:=by
 have:=D.hk;obtain⟨n,x,rfl,h1,a⟩:=D.at h
 unfold wordR;rw[a.sword (by omega),h1,tv_out (gd_tv wq1jw _)]
theorem Dk.rword(K:List UInt8→Int→Int→Option R): wq5m k nd i K=(wordR nd i).out [] K:=by
 have:=D.hk;obtain⟨n,x,rfl,h1,a⟩:=D.at h
 unfold wordR;rw[a.rword (by omega),h1,tv_out (gd_tv wq1jw _)]
omit D h in
theorem un_out{p:Int×Int}(h0:p.1=0→p.2=0)(K:Int→Int→Option R): K p.1 p.2=(unR p).out () (fun _=>K):=by
 unfold unR
 cases hb:p.1 != 0 with
 |true=>rfl
 |false =>
  have e:p.1=0:=by simpa using hb
  rw[e,h0 e];rfl
theorem Dk.sneed(kd:Int)(K:Int→Int→Option R): wq21 k nd i kd K=(needR nd i kd).out () (fun _=>K):=by
 have:=D.hk;obtain⟨n,x,rfl,h1,a⟩:=D.at h
 unfold needR;rw[a.need,h1]
 unfold needS
 dsimp only
 cases x.1 != kd<;>rfl
theorem Dk.rneed(kd:Int)(K:Int→Int→Option R): wq2z k nd i kd K=(needR nd i kd).out () (fun _=>K):=by
 have:=D.hk
 rw[←D.sneed h kd K]
 obtain⟨n,x,rfl,h1,a⟩:=D.at h
 rw[a.rneed (by omega),a.need]
 unfold needS
 dsimp only
 cases x.1 != kd<;>rfl
omit D h in
theorem unk_0(nd:List Nd)(l:List (List UInt8)): ∀(q:List (List UInt8)) (s:List Int),(unkS nd l q s).1=0→(unkS nd l q s).2=0
 |[],_,_=>rfl
 |_::_,[],_=>rfl
 |q::r,y::s,e=>by
  rw[unkS]at e ⊢
  cases ha:anyK q l with
  |true=>rw[ha]at e;exact unk_0 nd l r s e
  |false=>rw[ha]at e;cases e
omit D h in
theorem wq1jx(nd:List Nd)(l:List (List UInt8))(o:Option Nd)(e:(knownS nd o l).1=0): (knownS nd o l).2=0:=by
 unfold knownS at e ⊢
 cases o with
 |none=>rfl
 |some x =>
  dsimp only at e ⊢
  cases hx:x.1 != 3 with
  |true=>rw[hx]at e;cases e
  |false=>rw[hx]at e;exact unk_0 nd l _ _ e
theorem Dk.sknown(l:List (List UInt8))(hl:l.length≤20)(K:Int→Int→Option R): wqy k nd i l K=(knownR nd i l).out () (fun _=>K):=by
 have:=D.hk;obtain⟨n,x,rfl,h1,a⟩:=D.at h
 unfold knownR;rw[a.sknown (by omega) l hl,h1];exact un_out (wq1jx nd l _) K
theorem Dk.rknown(l:List (List UInt8))(hl:l.length≤20)(K:Int→Int→Option R): wq1e k nd i l K=(knownR nd i l).out () (fun _=>K):=by
 have:=D.hk;obtain⟨n,x,rfl,h1,a⟩:=D.at h
 unfold knownR;rw[a.rknown (by omega) l hl,h1];exact un_out (wq1jx nd l _) K
omit D h in
theorem wqjb{T:Type}{r:Rz T}(hr:Nz r)(z:T)(K:T→Option R)(E:Int→Int→Option R): r.out z (fun x a b=>wq14 k a b (fun _=>K x) E)=r.run K E:=by
 unfold wq14 wqkt
 cases r with
 |ok x=>rfl
 |er f =>
  have e:(f.1 != 0)=true:=by simpa [Nz]using hr
  simp only[Rz.out,Rz.run,e,cond_true]
theorem Dk.sfault(kd:Int)(hkd:kd≠0)(E:Int→Int→Option R): wqi k nd i kd E=E kd (lineS nd i):=by
 obtain⟨l1,l2⟩:=D.line h
 unfold wqi wqgu wqa7 wqhv wq14 wqkt
 have e:(kd != 0)=true:=by simpa using hkd
 rw[l1,cond_true,l2]
 dsimp only
 rw[e,cond_true]
theorem Dk.smust(key:List UInt8)(K:Int→Option R)(E:Int→Int→Option R): wqu k nd i key K E=(mustR nd i key).run K E:=by
 unfold wqu wqhy mustR
 rw[D.sfind h]
 cases findR nd i key with
 |some j=>rfl
 |none=>exact D.sfault h 10 (by decide) E
theorem Dk.sratio(key:List UInt8)(z:Nat)(K:Nat→Option R)(E:Int→Int→Option R): wq17 k nd i key z K E=(optR (findR nd i key) z (ratR nd)).run K E:=by
 unfold wq17 wqgx
 rw[D.sfind h]
 cases hf:findR nd i key with
 |none=>rfl
 |some j =>
  simp only[Bool.not_true,cond_false,optR]
  rw[D.srat (D.find h hf)]
  exact wqjb (r:=ratR nd j) (nz_tv _) 0 K E
theorem Dk.sboolk(key:List UInt8)(K:Bool→Option R)(E:Int→Int→Option R): wq1l k nd i key K E=(optR (findR nd i key) false (boolR nd)).run K E:=by
 unfold wq1l wqhw
 rw[D.sfind h]
 cases hf:findR nd i key with
 |none=>rfl
 |some j =>
  simp only[Bool.not_true,cond_false,optR]
  rw[D.sbool (D.find h hf)]
  exact wqjb (r:=boolR nd j) (nz_tv _) false K E
theorem Dk.snamek(K:List UInt8→Option R)(E:Int→Int→Option R): wq1f k nd i K E=(nameR nd i).run K E:=by
 unfold wq1f wqhz
 rw[D.sname h]
 exact wqjb (r:=nameR nd i) (nz_tv _) [] K E
theorem Dk.sknownk(l:List (List UInt8))(hl:l.length≤20)(K:Option R)(E:Int→Int→Option R): wqy k nd i l (fun a b=>wq14 k a b (fun _=>K) E)=(knownR nd i l).run (fun _=>K) E:=by
 rw[D.sknown h l hl]
 exact wqjb (r:=knownR nd i l) (un_nz _) () (fun _=>K) E
theorem Dk.sneedk(kd:Int)(K:Option R)(E:Int→Int→Option R): wq21 k nd i kd (fun a b=>wq14 k a b (fun _=>K) E)=(needR nd i kd).run (fun _=>K) E:=by
 rw[D.sneed h kd]
 exact wqjb (r:=needR nd i kd) (un_nz _) () (fun _=>K) E
theorem Dk.snumk(K:Int→Option R)(E:Int→Int→Option R): wq2n k nd i 0 4294967295 (fun x a b=>wq14 k a b (fun _=>K x) E)=(numR nd i).run K E:=by
 rw[D.snum h]
 exact wqjb (r:=numR nd i) (nz_tv _) 0 K E
theorem Dk.swordk(K:List UInt8→Option R)(E:Int→Int→Option R): wq5u k nd i (fun x a b=>wq14 k a b (fun _=>K x) E)=(wordR nd i).run K E:=by
 rw[D.sword h]
 exact wqjb (r:=wordR nd i) (nz_tv _) [] K E
theorem Dk.text:∀ z,(((nd.getD i.toNat z).2).2).1=textR nd i:=by
 obtain⟨n,x,rfl,h1,a⟩:=D.at h
 intro z
 unfold textR
 rw[h1,wq1,a.get]
theorem Dk.kidsAt:∀ z,(((((nd.getD i.toNat z).2).2).2).2).2=kidsR nd i:=by
 obtain⟨n,x,rfl,h1,a⟩:=D.at h
 intro z
 unfold kidsR
 rw[h1,wq1,a.get]
def itemsR(nd:List Nd)(n:Int)(key:List UInt8): Rz (List Int):=optR (findR nd n key) [] fun j=>(needR nd j 2).bind fun _ => .ok (kidsR nd j)
theorem Dk.sitems(key:List UInt8)(K:List Int→Option R)(E:Int→Int→Option R): wq2q k nd i key K E=(itemsR nd i key).run K E:=by
 unfold wq2q wqgv itemsR
 rw[D.sfind h]
 cases hf:findR nd i key with
 |none=>rfl
 |some j =>
  have hj:=D.find h hf
  simp only[Bool.not_true,cond_false,optR]
  rw[D.sneed hj,run_bind]
  have e:=wqjb (k:=k) (un_nz (needS (ndAt nd j) 2)) () (fun _=>cond (inb j (nd.length:Int)) (K (kidsR nd j)) none) E
  simp only[(D.line hj).1,cond_true,D.kidsAt hj]at e ⊢
  exact e
end
def unitS(s:List UInt8): Int:=bif s == [115,101,99,111,110,100]then 1 else bif s == [109,105,110,117,116,101]then 2 else bif s == [104,111,117,114]then 3 else bif s == [100,97,121]then 4 else 0
theorem wq11y{R:Type}(k:Nat)(hk:100<k)(s:List UInt8)(K:Int→Option R): wq9d k s K=K (unitS s):=by
 unfold wq9d wqlw unitS
 obtain⟨m,rfl⟩:∃ m,k=m+6:=⟨k-6,by omega⟩
 have hc:∀ a b:List UInt8,(a == b)=(b == a):=fun a b=>by rw[Bool.eq_iff_iff];simp;exact eq_comm
 have w:∀ a:Int,0≤a→a<10→IntKind.i64.wrap (a+1)=a+1:=fun a h1 h2=>wqm (by omega) (by omega)
 have U:∀(n:Int) (K:List UInt8→Option R),wqlv (m+6) n K=wqrk (m+6) n K:=fun _ _=>rfl
 generalize hz:m+6=z
 have hz':z=(((((m+1)+1)+1)+1)+1)+1:=by omega
 rw[hz]at U
 have L:∀ q n,wq3e z (q+1) s n K=wq9c z (fun s0 s1=>wq3e z q s0 s1 K) s n K:=fun q n=>by rw[wq3e]
 have st:∀(q:Nat) (n:Int) (t:List UInt8),0≤n→n≤4→(∀ K:List UInt8→Option R,wqrk z n K=K t)→wq3e z (q+1) s n K=bif s == t then K n else wq3e z q s (n+1) K:=by
  intro q n t h0 h1 ht
  rw[L,wq9c,dec_t h1,cond_true,U,ht,hc t s,w n h0 (by omega)]
 have e:wq3e z z s 1 K=wq3e z ((((((m+1)+1)+1)+1)+1)+1) s 1 K:=by rw[←hz']
 show wq3e z z s 1 K=_
 rw[e,st _ 1 [115,101,99,111,110,100] (by decide) (by decide) (fun _=>rfl)]
 cases s == [115,101,99,111,110,100]with
 |true=>rfl
 |false =>
  rw[cond_false,cond_false,show(1:Int)+1=2 from rfl,st _ 2 [109,105,110,117,116,101] (by decide) (by decide) (fun _=>rfl)]
  cases s == [109,105,110,117,116,101]with
  |true=>rfl
  |false =>
   rw[cond_false,cond_false,show(2:Int)+1=3 from rfl,st _ 3 [104,111,117,114] (by decide) (by decide) (fun _=>rfl)]
   cases s == [104,111,117,114]with
   |true=>rfl
   |false =>
    rw[cond_false,cond_false,show(3:Int)+1=4 from rfl,st _ 4 [100,97,121] (by decide) (by decide) (fun _=>rfl)]
    cases s == [100,97,121]with
    |true=>rfl
    |false =>
     rw[cond_false,cond_false,L,wq9c,dec_f (by decide),cond_false]
end Go.Proofs.YtabkhphoacmcdaaGreatDoor.Pvm
namespace Go.Proofs.YtabkhphoacmcdaaGreatDoor.Pvm
open Go
theorem wq1hg{R:Type}(k:Nat)(hk:5100<k)(s:List UInt8)(K:Int→Option R): wqbz k s K=K (unitS s):=by
 unfold wqbz wq1ca wql0 wqz6
 dsimp only
 rw[wq1b8 k _ (by decide) (by omega)]
 generalize hy:idxI (idxS s [[],[115,101,99,111,110,100],[109,105,110,117,116,101],[104,111,117,114],[100,97,121]] 0)=y
 unfold unitS
 simp only[idxS]at hy
 cases s with
 |nil=>subst hy;rfl
 |cons c r =>
  have e:((c::r) == [])=false:=rfl
  rw[e,cond_false]at hy
  cases h1:(c::r) == [115,101,99,111,110,100]with
  |true=>rw[h1]at hy;subst hy;rfl
  |false =>
   cases h2:(c::r) == [109,105,110,117,116,101]with
   |true=>rw[h1,h2]at hy;subst hy;rfl
   |false =>
    cases h3:(c::r) == [104,111,117,114]with
    |true=>rw[h1,h2,h3]at hy;subst hy;rfl
    |false=>cases h4:(c::r) == [100,97,121]<;>rw[h1,h2,h3,h4]at hy<;>subst hy<;>rfl
abbrev Rl:=List UInt8×Int×Int×Nat×Bool×Bool
abbrev kwUnl:List UInt8:=[117,110,108,105,109,105,116,101,100]
abbrev kwUnit:List UInt8:=[117,110,105,116]
abbrev kwReq:List UInt8:=[114,101,113,117,101,115,116,115,95,112,101,114,95,117,110,105,116]
abbrev kwNear:List UInt8:=[110,101,97,114]
abbrev kwName:List UInt8:=[110,97,109,101]
def has(nd:List Nd)(n:Int)(key:List UInt8): Bool:=(findR nd n key).isSome
def ruleN(nd:List Nd)(n u l:Int)(w:Nat)(b:Bool): Rz Rl:=(optR (findR nd n kwName) [] (nameR nd)).bind fun s => .ok (s,u,l,w,false,b)
def ruleR(nd:List Nd)(z:Nat)(n:Int): Rz Rl :=
 (knownR nd n [kwUnl,kwUnit,kwReq,kwNear,kwName]).bind fun _=>(optR (findR nd n kwUnl) false (boolR nd)).bind fun b =>
  bif b then bif has nd n kwUnit || (has nd n kwReq || has nd n kwNear)then .er (17,lineS nd n)else ruleN nd n 0 0 0 true
  else(mustR nd n kwUnit).bind fun u=>(needR nd u 1).bind fun _=>bif unitS (textR nd u) == 0 then .er (16,lineS nd u)
   else(mustR nd n kwReq).bind fun q=>(numR nd q).bind fun l=>(optR (findR nd n kwNear) z (ratR nd)).bind fun w=>ruleN nd n (unitS (textR nd u)) l w false
theorem wq1jy(nd:List Nd)(z:Nat)(n:Int): Nz (ruleR nd z n):=by
 have hN:∀ u l w b,Nz (ruleN nd n u l w b):=fun u l w b=>wq8r (opt_nz fun j=>nz_tv _) fun s=>trivial
 refine wq8r (un_nz _) fun _=>wq8r (opt_nz fun j=>nz_tv _) fun b=>nz_c (nz_c (show(17:Int)≠0 by decide) (hN _ _ _ _)) ?_
 exact wq8r (wq18e _ _ _) fun u=>wq8r (un_nz _) fun _=>nz_c (show(16:Int)≠0 by decide) (wq8r (wq18e _ _ _) fun q=>wq8r (nz_tv _) fun l=>wq8r (opt_nz fun j=>nz_tv _) fun w=>hN _ _ _ _)
theorem wq1cr{k:Nat}{nd:List Nd}(D:Dk k nd){n:Int}(h:InD nd n){key:List UInt8}{j:Int}(e:mustR nd n key = .ok j): InD nd j:=by
 unfold mustR at e
 cases hf:findR nd n key with
 |none=>rw[hf]at e;cases e
 |some i=>rw[hf]at e;injection e with e;rw[←e];exact D.find h hf
theorem run_eq{T R:Type}{r:Rz T}{K K':T→Option R}{E:Int→Int→Option R}(h:∀ x,r = .ok x→K x=K' x): r.run K E=r.run K' E:=by
 cases r with
 |ok x=>exact h x rfl
 |er f=>rfl
section
variable {R:Type} {k:Nat} {nd:List Nd} (D:Dk k nd) {n:Int} (h:InD nd n)
include D h
theorem Dk.snameo (d:List (List UInt8×List Int)) (b:List (List UInt8×(List UInt8×(Bool×(Int×(Int×(Bool×((List UInt8×(Int×(Int×(Nat×(Bool×Bool)))))×List Int)))))))) (z:Nat) (u l:Int) (w:Nat) (c:Bool)
 (K:List UInt8→Int→Int→Nat→Bool→Bool→Option R) (E:Int→Int→Option R) :
 wq18 k nd n kwName (fun y19 y20=>bif y20 then wq1f k nd y19 (fun y21=>K y21 u l w false c) E else K [] u l w false c)=(ruleN nd n u l w c).run (fun r=>K r.1 r.2.1 r.2.2.1 r.2.2.2.1 r.2.2.2.2.1 r.2.2.2.2.2) E:=by
 unfold ruleN
 rw[D.sfind h,run_bind]
 cases hf:findR nd n kwName with
 |none=>rfl
 |some j =>
  simp only[cond_true,optR]
  rw[D.snamek (D.find h hf)]
  rfl
theorem Dk.srule (d:List (List UInt8×List Int)) (b:List (List UInt8×(List UInt8×(Bool×(Int×(Int×(Bool×((List UInt8×(Int×(Int×(Nat×(Bool×Bool)))))×List Int)))))))) (z:Nat)
 (K:List Nd→List (List UInt8×List Int)→List (List UInt8×(List UInt8×(Bool×(Int×(Int×(Bool×((List UInt8×(Int×(Int×(Nat×(Bool×Bool)))))×List Int)))))))→Nat→List UInt8→Int→Int→Nat→Bool→Bool→Option R)
 (E:List Nd→List (List UInt8×List Int)→List (List UInt8×(List UInt8×(Bool×(Int×(Int×(Bool×((List UInt8×(Int×(Int×(Nat×(Bool×Bool)))))×List Int)))))))→Nat→Int→Int→Option R) :
 wq4x k nd d b z n K E=(ruleR nd z n).run (fun r=>K nd d b z r.1 r.2.1 r.2.2.1 r.2.2.2.1 r.2.2.2.2.1 r.2.2.2.2.2) (E nd d b z):=by
 have hk:=D.hk
 unfold wq4x wq83 ruleR
 rw[D.sknownk h _ (by decide),run_bind]
 refine run_eq fun _ _ => ?_
 rw[D.sboolk h,run_bind]
 refine run_eq fun c _ => ?_
 cases c with
 |true =>
  simp only[cond_true]
  obtain⟨m,rfl⟩:∃ m,k=m+4:=⟨k-4,by omega⟩
  generalize hz:m+4=q at D hk ⊢
  have hz':q=(((m+1)+1)+1)+1:=by omega
  have e0:∀ a1 a2 a3 a4 a5 a6 a7 a8,wq2f q (@wq14 q) (@wqy q) (@wq17 q) (@wqu q) (@wqi q) (@wq21 q) (@wq18 q) (@wq1f q) (@wq1l q) (@wqbz q) (@wq2n q) q nd d b z n a1 a2 a3 a4 a5 a6 a7 a8 0 K E =
   wq2f q (@wq14 q) (@wqy q) (@wq17 q) (@wqu q) (@wqi q) (@wq21 q) (@wq18 q) (@wq1f q) (@wq1l q) (@wqbz q) (@wq2n q) ((((m+1)+1)+1)+1) nd d b z n a1 a2 a3 a4 a5 a6 a7 a8 0 K E:=by
   intros;rw[←hz']
  rw[e0]
  have st:∀(j:Nat) (i:Nat) (key:List UInt8),i<3→(∀ z,([kwUnit,kwReq,kwNear]:List (List UInt8)).getD i z=key) →
   wq2f q (@wq14 q) (@wqy q) (@wq17 q) (@wqu q) (@wqi q) (@wq21 q) (@wq18 q) (@wq1f q) (@wq1l q) (@wqbz q) (@wq2n q) (j+1) nd d b z n [] 0 0 0 false true [kwUnit,kwReq,kwNear] 3 (i:Int) K E =
   bif has nd n key then E nd d b z 17 (lineS nd n)else wq2f q (@wq14 q) (@wqy q) (@wq17 q) (@wqu q) (@wqi q) (@wq21 q) (@wq18 q) (@wq1f q) (@wq1l q) (@wqbz q) (@wq2n q) j nd d b z n [] 0 0 0 false true [kwUnit,kwReq,kwNear] 3 ((i+1:Nat):Int) K E:=by
   intro j i key hi hg
   have e3:((([kwUnit,kwReq,kwNear]:List (List UInt8)).length:Nat):Int)=3:=rfl
   rw[wq2f,wq6t,dec_t (by omega),cond_true,e3,inb_t (by omega) (by omega),cond_true,wq1,hg,wqm (by omega) (by omega),show(i:Int)+1=((i+1:Nat):Int) by omega,D.sfind h]
   unfold has
   cases findR nd n key with
   |none=>rfl
   |some y=>exact D.sfault h 17 (by decide) _
  have e3:((@List.length (@Kd.T Kd.str) [[(117:UInt8),110,105,116],[(114:UInt8),101,113,117,101,115,116,115,95,112,101,114,95,117,110,105,116],[(110:UInt8),101,97,114]]:Nat):Int)=3:=rfl
  rw[e3]
  have s0:=st (((m+1)+1)+1) 0 kwUnit (by decide) fun _=>rfl
  have s1:=st ((m+1)+1) 1 kwReq (by decide) fun _=>rfl
  have s2:=st (m+1) 2 kwNear (by decide) fun _=>rfl
  refine Eq.trans s0 ?_
  cases has nd n kwUnit with
  |true=>rfl
  |false =>
   rw[cond_false,Bool.false_or]
   refine Eq.trans s1 ?_
   cases has nd n kwReq with
   |true=>rfl
   |false =>
    rw[cond_false,Bool.false_or]
    refine Eq.trans s2 ?_
    cases has nd n kwNear with
    |true=>rfl
    |false =>
     rw[cond_false,cond_false,wq2f,wq6t,dec_f (by decide),cond_false]
     exact D.snameo h d b z 0 0 0 true (K nd d b z) (E nd d b z)
 |false =>
  simp only[cond_false]
  rw[D.smust h,run_bind]
  refine run_eq fun u hu => ?_
  have hu:=wq1cr D h hu
  obtain⟨l1,_⟩:=D.line hu
  rw[D.sneedk hu,run_bind]
  refine run_eq fun _ _ => ?_
  rw[l1,cond_true,D.text hu,wq1hg k (by omega)]
  cases unitS (textR nd u) == 0 with
  |true=>exact D.sfault hu 16 (by decide) _
  |false =>
   simp only[cond_false]
   rw[D.smust h,run_bind]
   refine run_eq fun q hq => ?_
   have hq:=wq1cr D h hq
   rw[D.snumk hq,run_bind]
   refine run_eq fun l _ => ?_
   rw[D.sratio h,run_bind]
   refine run_eq fun w _ => ?_
   exact D.snameo h d b z _ l w false (K nd d b z) (E nd d b z)
end
end Go.Proofs.YtabkhphoacmcdaaGreatDoor.Pvm
namespace Go.Proofs.YtabkhphoacmcdaaGreatDoor.Pvm
open Go
abbrev Dm:=List (List UInt8×List Int)
abbrev Br:=List UInt8×(List UInt8×(Bool×(Int×(Int×(Bool×((List UInt8×(Int×(Int×(Nat×(Bool×Bool)))))×List Int))))))
theorem rfail{R:Type}(k:Nat)(nd:List Nd)(w:Nat)(d:Dm)(b:List Br)(a c:Int)(K:List Nd→Nat→Dm→List Br→Int→Int→Bool→Option R): wqa k nd w d b 0 0 a c K=K nd w d b a c (a != 0):=rfl
theorem nz_t{T:Type}{r:Rz T}{f:Int×Int}(h:Nz r)(e:r = .er f): (f.1 != 0)=true:=by rw[e]at h;simpa [Nz]using h
theorem ok_b:((0:Int) != 0)=false:=rfl
section
variable {R:Type} {k:Nat} {nd:List Nd} (D:Dk k nd) {n:Int} (h:InD nd n)
include D h
theorem Dk.rline(w:Nat)(d:Dm)(b:List Br)(kd:Int)(hk:(kd != 0)=true)(K:List Nd→Nat→Dm→List Br→Int→Int→Bool→Option R): wqj k nd w d b 0 0 n kd K=K nd w d b kd (lineS nd n) true:=by
 obtain⟨l1,l2⟩:=D.line h
 unfold wqj wqj9
 rw[l1,cond_true,rfail,l2,hk]
theorem Dk.rnameo(w:Nat)(d:Dm)(b:List Br)(u l:Int)(x:Nat)(c:Bool)(K:List Nd→Nat→Dm→List Br→Int→Int→List UInt8→Int→Int→Nat→Bool→Bool→Option R):
 ∃ z:Rl,wqx k nd n kwName (fun y1 y2=>bif y2 then wq24 k nd y1 (fun s e f=>wqa k nd w d b 0 0 e f (fun y3 y4 y5 y6 y7 y8 bad=>bif bad then K y3 y4 y5 y6 y7 y8 [] u l x false c else K y3 y4 y5 y6 y7 y8 s u l x false c))else K nd w d b 0 0 [] u l x false c)=(ruleN nd n u l x c).out z (fun r e f=>K nd w d b e f r.1 r.2.1 r.2.2.1 r.2.2.2.1 r.2.2.2.2.1 r.2.2.2.2.2):=by
 unfold ruleN
 rw[D.rfind h]
 cases hf:findR nd n kwName with
 |none=>exact⟨([],0,0,0,false,false),rfl⟩
 |some j =>
  simp only[cond_true,optR]
  rw[D.rname (D.find h hf)]
  cases hr:nameR nd j with
  |ok s=>exact⟨([],0,0,0,false,false),rfl⟩
  |er f =>
   refine⟨([],u,l,x,false,c),?_⟩
   simp only[Rz.out,Rz.bind,rfail,nz_t (nz_tv _) hr,cond_true]
theorem Dk.rrule(w:Nat)(d:Dm)(b:List Br)(K:List Nd→Nat→Dm→List Br→Int→Int→List UInt8→Int→Int→Nat→Bool→Bool→Option R):
 ∃ z:Rl,wq41 k nd w d b 0 0 n K=(ruleR nd w n).out z (fun r e f=>K nd w d b e f r.1 r.2.1 r.2.2.1 r.2.2.2.1 r.2.2.2.2.1 r.2.2.2.2.2):=by
 have hk:=D.hk
 unfold wq41 wqeq ruleR
 rw[D.rknown h _ (by decide)]
 cases h1:knownR nd n [kwUnl,kwUnit,kwReq,kwNear,kwName]with
 |er f =>
  refine⟨([],0,0,0,false,false),?_⟩
  simp only[Rz.out,Rz.bind,rfail,nz_t (un_nz _) h1,cond_true]
 |ok _ =>
  have fu:=D.rfind (R:=R) h kwUnit
  have fq:=D.rfind (R:=R) h kwReq
  have fn:=D.rfind (R:=R) h kwNear
  have main:∀ c:Bool,∃ z:Rl,wqx k nd n kwUnit (fun y31 y32=>wqx k nd n kwReq (fun y33 y34=>wqx k nd n kwNear (fun y35 y36 =>
   bif c then bif (bif (bif y32 then true else y34)then true else y36)then wqj k nd w d b 0 0 n 17 (fun y37 y38 y39 y40 y41 y42 y43=>K y37 y38 y39 y40 y41 y42 [] 0 0 0 false c)else(wqx k nd n kwName (fun y37 y38=>bif y38 then wq24 k nd y37 (fun y39 y40 y41=>wqa k nd w d b 0 0 y40 y41 (fun y42 y43 y44 y45 y46 y47 y48=>bif y48 then K y42 y43 y44 y45 y46 y47 [] 0 0 0 false c else K y42 y43 y44 y45 y46 y47 y39 0 0 0 false c))else K nd w d b 0 0 [] 0 0 0 false c))
   else bif !y32 then wqj k nd w d b 0 0 n 10 (fun y37 y38 y39 y40 y41 y42 y43=>K y37 y38 y39 y40 y41 y42 [] 0 0 0 false c)else wq2z k nd y31 1 (fun y37 y38=>wqa k nd w d b 0 0 y37 y38 (fun y39 y40 y41 y42 y43 y44 y45=>bif y45 then K y39 y40 y41 y42 y43 y44 [] 0 0 0 false c else bif inb y31 (y39.length:Int)then wq9d k (((y39.getD y31.toNat (Kd.zero kNd)).2).2).1 (fun y46=>bif y46 == 0 then wqj k y39 y40 y41 y42 y43 y44 y31 16 (fun y47 y48 y49 y50 y51 y52 y53=>K y47 y48 y49 y50 y51 y52 [] y46 0 0 false c)else bif !y34 then wqj k y39 y40 y41 y42 y43 y44 n 10 (fun y47 y48 y49 y50 y51 y52 y53=>K y47 y48 y49 y50 y51 y52 [] y46 0 0 false c)else wq5n k y39 y33 0 4294967295 (fun y47 y48 y49=>wqa k y39 y40 y41 y42 y43 y44 y48 y49 (fun y50 y51 y52 y53 y54 y55 y56=>bif y56 then K y50 y51 y52 y53 y54 y55 [] y46 0 0 false c else bif y36 then wq35 k y50 y35 (fun y57 y58 y59=>wqa k y50 y51 y52 y53 y54 y55 y58 y59 (fun y60 y61 y62 y63 y64 y65 y66=>bif y66 then K y60 y61 y62 y63 y64 y65 [] y46 y47 y51 false c else wqx k y60 n kwName (fun y67 y68=>bif y68 then wq24 k y60 y67 (fun y69 y70 y71=>wqa k y60 y61 y62 y63 y64 y65 y70 y71 (fun y72 y73 y74 y75 y76 y77 y78=>bif y78 then K y72 y73 y74 y75 y76 y77 [] y46 y47 y57 false c else K y72 y73 y74 y75 y76 y77 y69 y46 y47 y57 false c))else K y60 y61 y62 y63 y64 y65 [] y46 y47 y57 false c)))else wqx k y50 n kwName (fun y57 y58=>bif y58 then wq24 k y50 y57 (fun y59 y60 y61=>wqa k y50 y51 y52 y53 y54 y55 y60 y61 (fun y62 y63 y64 y65 y66 y67 y68=>bif y68 then K y62 y63 y64 y65 y66 y67 [] y46 y47 y51 false c else K y62 y63 y64 y65 y66 y67 y59 y46 y47 y51 false c))else K y50 y51 y52 y53 y54 y55 [] y46 y47 y51 false c))))else none))))) =
   (bif c then bif has nd n kwUnit || (has nd n kwReq || has nd n kwNear)then .er (17,lineS nd n)else ruleN nd n 0 0 0 true
    else(mustR nd n kwUnit).bind fun u=>(needR nd u 1).bind fun _=>bif unitS (textR nd u) == 0 then .er (16,lineS nd u)
     else(mustR nd n kwReq).bind fun q=>(numR nd q).bind fun l=>(optR (findR nd n kwNear) w (ratR nd)).bind fun x=>ruleN nd n (unitS (textR nd u)) l x false:Rz Rl).out z (fun r e f=>K nd w d b e f r.1 r.2.1 r.2.2.1 r.2.2.2.1 r.2.2.2.2.1 r.2.2.2.2.2):=by
   intro c
   rw[fu]
   cases c with
   |true =>
    unfold has
    cases hu:findR nd n kwUnit<;>simp only[fq]<;>cases hq:findR nd n kwReq<;>simp only[fn]<;>cases hn:findR nd n kwNear<;>simp only[cond_true,cond_false,Option.isSome] <;>
     first
     |exact⟨([],0,0,0,false,true),by rw[D.rline h _ _ _ 17 rfl];rfl⟩
     |exact D.rnameo h w d b 0 0 0 true K
   |false =>
    unfold mustR
    cases hu:findR nd n kwUnit with
    |none =>
     simp only[fq]
     cases findR nd n kwReq<;>simp only[fn]<;>cases findR nd n kwNear<;>exact⟨([],0,0,0,false,false),by simp only[cond_false,Bool.not_false,cond_true];rw[D.rline h _ _ _ 10 rfl];rfl⟩
    |some u =>
     have hui:=D.find h hu
     obtain⟨l1,_⟩:=D.line hui
     have e:∀(y34:Bool) (y33:Int) (y36:Bool) (y35:Int),(y34=(findR nd n kwReq).isSome)→(∀ q,findR nd n kwReq=some q→y33=q)→(y36=(findR nd n kwNear).isSome)→(∀ q,findR nd n kwNear=some q→y35=q) →
      ∃ z:Rl,wq2z k nd u 1 (fun y37 y38=>wqa k nd w d b 0 0 y37 y38 (fun y39 y40 y41 y42 y43 y44 y45=>bif y45 then K y39 y40 y41 y42 y43 y44 [] 0 0 0 false false else bif inb u (y39.length:Int)then wq9d k (((y39.getD u.toNat (Kd.zero kNd)).2).2).1 (fun y46=>bif y46 == 0 then wqj k y39 y40 y41 y42 y43 y44 u 16 (fun y47 y48 y49 y50 y51 y52 y53=>K y47 y48 y49 y50 y51 y52 [] y46 0 0 false false)else bif !y34 then wqj k y39 y40 y41 y42 y43 y44 n 10 (fun y47 y48 y49 y50 y51 y52 y53=>K y47 y48 y49 y50 y51 y52 [] y46 0 0 false false)else wq5n k y39 y33 0 4294967295 (fun y47 y48 y49=>wqa k y39 y40 y41 y42 y43 y44 y48 y49 (fun y50 y51 y52 y53 y54 y55 y56=>bif y56 then K y50 y51 y52 y53 y54 y55 [] y46 0 0 false false else bif y36 then wq35 k y50 y35 (fun y57 y58 y59=>wqa k y50 y51 y52 y53 y54 y55 y58 y59 (fun y60 y61 y62 y63 y64 y65 y66=>bif y66 then K y60 y61 y62 y63 y64 y65 [] y46 y47 y51 false false else wqx k y60 n kwName (fun y67 y68=>bif y68 then wq24 k y60 y67 (fun y69 y70 y71=>wqa k y60 y61 y62 y63 y64 y65 y70 y71 (fun y72 y73 y74 y75 y76 y77 y78=>bif y78 then K y72 y73 y74 y75 y76 y77 [] y46 y47 y57 false false else K y72 y73 y74 y75 y76 y77 y69 y46 y47 y57 false false))else K y60 y61 y62 y63 y64 y65 [] y46 y47 y57 false false)))else wqx k y50 n kwName (fun y57 y58=>bif y58 then wq24 k y50 y57 (fun y59 y60 y61=>wqa k y50 y51 y52 y53 y54 y55 y60 y61 (fun y62 y63 y64 y65 y66 y67 y68=>bif y68 then K y62 y63 y64 y65 y66 y67 [] y46 y47 y51 false false else K y62 y63 y64 y65 y66 y67 y59 y46 y47 y51 false false))else K y50 y51 y52 y53 y54 y55 [] y46 y47 y51 false false))))else none)) =
       ((needR nd u 1).bind fun _=>bif unitS (textR nd u) == 0 then .er (16,lineS nd u)
         else(match findR nd n kwReq with|some j => .ok j|none => .er (10,lineS nd n):Rz Int).bind fun q=>(numR nd q).bind fun l=>(optR (findR nd n kwNear) w (ratR nd)).bind fun x=>ruleN nd n (unitS (textR nd u)) l x false:Rz Rl).out z (fun r e f=>K nd w d b e f r.1 r.2.1 r.2.2.1 r.2.2.2.1 r.2.2.2.2.1 r.2.2.2.2.2):=by
      intro y34 y33 y36 y35 e1 e2 e3 e4
      rw[D.rneed hui]
      cases h2:needR nd u 1 with
      |er f=>exact⟨([],0,0,0,false,false),by simp only[Rz.out,Rz.bind,rfail,nz_t (un_nz _) h2,cond_true]⟩
      |ok _ =>
       simp only[Rz.out,Rz.bind,rfail,ok_b,cond_false,l1,cond_true,D.text hui]
       rw[wq11y k (by omega)]
       cases hz:unitS (textR nd u) == 0 with
       |true=>exact⟨([],unitS (textR nd u),0,0,false,false),by simp only[cond_true];rw[D.rline hui _ _ _ 16 rfl]⟩
       |false =>
        simp only[cond_false]
        cases hq:findR nd n kwReq with
        |none =>
         rw[hq]at e1;subst e1
         exact⟨([],unitS (textR nd u),0,0,false,false),by simp only[Option.isSome,Bool.not_false,cond_true];rw[D.rline h _ _ _ 10 rfl]⟩
        |some q =>
         rw[hq]at e1;subst e1
         rw[e2 q hq]
         have hqi:=D.find h hq
         simp only[Option.isSome,Bool.not_true,cond_false]
         rw[D.rnum hqi]
         cases hl:numR nd q with
         |er f=>exact⟨([],unitS (textR nd u),0,0,false,false),by simp only[Rz.out,rfail,nz_t (nz_tv _) hl,cond_true]⟩
         |ok l =>
          simp only[Rz.out,rfail,ok_b,cond_false]
          cases hn:findR nd n kwNear with
          |none =>
           rw[hn]at e3;subst e3
           simp only[Option.isSome,cond_false,optR]
           exact D.rnameo h w d b _ l w false K
          |some q2 =>
           rw[hn]at e3;subst e3
           rw[e4 q2 hn]
           have hq2:=D.find h hn
           simp only[Option.isSome,cond_true,optR]
           rw[D.rrat hq2]
           cases hx:ratR nd q2 with
           |er f=>exact⟨([],unitS (textR nd u),l,w,false,false),by simp only[Rz.out,rfail,nz_t (nz_tv _) hx,cond_true]⟩
           |ok x =>
            simp only[Rz.out,rfail,ok_b,cond_false]
            exact D.rnameo h w d b _ l x false K
     simp only[fq]
     cases hq:findR nd n kwReq with
     |none =>
      simp only[fn]
      cases hn:findR nd n kwNear with
      |none =>
       have:=e false 0 false 0 (by rw[hq];rfl) (fun q e=>by rw[hq]at e;cases e) (by rw[hn];rfl) (fun q e=>by rw[hn]at e;cases e)
       simpa only[hq,hn,Rz.bind,cond_false,Bool.not_true,Bool.not_false]using this
      |some q2 =>
       have:=e false 0 true q2 (by rw[hq];rfl) (fun q e=>by rw[hq]at e;cases e) (by rw[hn];rfl) (fun q e=>by rw[hn]at e;cases e;rfl)
       simpa only[hq,hn,Rz.bind,cond_false,Bool.not_true,Bool.not_false]using this
     |some q =>
      simp only[fn]
      cases hn:findR nd n kwNear with
      |none =>
       have:=e true q false 0 (by rw[hq];rfl) (fun q e=>by rw[hq]at e;cases e;rfl) (by rw[hn];rfl) (fun q e=>by rw[hn]at e;cases e)
       simpa only[hq,hn,Rz.bind,cond_false,Bool.not_true,Bool.not_false]using this
      |some q2 =>
       have:=e true q true q2 (by rw[hq];rfl) (fun q e=>by rw[hq]at e;cases e;rfl) (by rw[hn];rfl) (fun q e=>by rw[hn]at e;cases e;rfl)
       simpa only[hq,hn,Rz.bind,cond_false,Bool.not_true,Bool.not_false]using this
  simp only[Rz.out,Rz.bind,rfail,ok_b,cond_false]
  rw[D.rfind h]
  cases hf:findR nd n kwUnl with
  |none =>
   exact main false
  |some j =>
   simp only[cond_true,optR]
   rw[D.rbool (D.find h hf)]
   cases hb:boolR nd j with
   |er f=>exact⟨([],0,0,0,false,false),by simp only[Rz.out,Rz.bind,nz_t (nz_tv _) hb,cond_true]⟩
   |ok c =>
    simp only[Rz.out,Rz.bind,ok_b,cond_false]
    exact main c
end
end Go.Proofs.YtabkhphoacmcdaaGreatDoor.Pvm
namespace Go.Proofs.YtabkhphoacmcdaaGreatDoor.Pvm
open Go
abbrev kwKey:List UInt8:=[107,101,121]
abbrev wq132:List UInt8:=[118,97,108,117,101]
abbrev kwRate:List UInt8:=[114,97,116,101,95,108,105,109,105,116]
abbrev wq8g:List UInt8:=[115,104,97,100,111,119,95,109,111,100,101]
abbrev kwDesc:List UInt8:=[100,101,115,99,114,105,112,116,111,114,115]
abbrev wqvl:List UInt8:=[100,111,109,97,105,110]
abbrev wqer:List UInt8:=[100,111,109,97,105,110,115]
def foldR(br:Int→List Int→List Br→Rz (Int×List Br)): List Int→List Int→List Br→Rz (List Int×List Br)
 |[],a,w => .ok (a,w)
 |i::r,a,w=>(br i a w).bind fun p=>foldR br r (a++[p.1]) p.2
def twinB(b:Br)(key val:List UInt8)(any:Bool): Bool:=bif (bif b.1 == key then b.2.1 == val else false)then b.2.2.1 == any else false
def twinR(b0:Nat)(a:List Int)(w:List Br)(key val:List UInt8)(any:Bool): Bool:=a.any fun i=>match w[i.toNat-b0]? with|some b=>twinB b key val any|none=>false
def shadow(r:Rl)(s:Bool): Rl:=(r.1,r.2.1,r.2.2.1,r.2.2.2.1,s,r.2.2.2.2.2)
def zRl:Rl:=([],0,0,0,false,false)
def valueR(nd:List Nd)(i:Int): Rz (List UInt8×Bool):=optR (findR nd i wq132) ([],true) fun j=>(wordR nd j).bind fun v => .ok (v,false)
def rateR(nd:List Nd)(z:Nat)(i:Int): Rz (Bool×Rl):=optR (findR nd i kwRate) (false,zRl) fun j=>(ruleR nd z j).bind fun r => .ok (true,r)
def wqes:Nat→List Nd→Nat→Int→Int→Nat→Int→List Int→List Br→Rz (Int×List Br)
 |0,nd,_,_,_,_,i,_,_ => .er (8,lineS nd i)
 |g+1,nd,z,dom,up,b0,i,a,w=>bif decide (500≤b0+w.length)then .er (9,lineS nd i)else
  (knownR nd i [kwKey,wq132,kwRate,wq8g,kwDesc]).bind fun _=>(mustR nd i kwKey).bind fun kk=>(nameR nd kk).bind fun key=>(valueR nd i).bind fun va =>
  bif twinR b0 a w key va.1 va.2 then .er (7,lineS nd i)else
  (rateR nd z i).bind fun hr=>(optR (findR nd i wq8g) false (boolR nd)).bind fun s =>
  bif s && !hr.1 then .er (17,lineS nd ((findR nd i wq8g).getD 0))else
  ((itemsR nd i kwDesc).bind fun its=>foldR (wqes g nd z dom ((b0+w.length:Nat):Int) (b0+w.length+1)) its [] []).bind fun p =>
  .ok (((b0+w.length:Nat):Int),w++(key,va.1,va.2,dom,up,hr.1,shadow hr.2 s,p.1)::p.2)
def listR(g:Nat)(nd:List Nd)(z:Nat)(dom up:Int)(b0:Nat)(n:Int): Rz (List Int×List Br):=(itemsR nd n kwDesc).bind fun its=>foldR (wqes g nd z dom up b0) its [] []
def domR(nd:List Nd)(z:Nat)(d:Dm)(b0:Nat)(n:Int): Rz ((List UInt8×List Int)×List Br) :=
 (knownR nd n [wqvl,kwDesc]).bind fun _=>(mustR nd n wqvl).bind fun j=>(nameR nd j).bind fun s=>bif d.any (fun x=>x.1 == s)then .er (7,lineS nd j)else
  (listR 8 nd z (d.length:Int) (-1) b0 n).bind fun p => .ok ((s,p.1),p.2)
def domsR(nd:List Nd)(z:Nat): List Int→Dm→List Br→Rz (Dm×List Br)
 |[],d,b => .ok (d,b)
 |i::r,d,b=>bif decide (16≤d.length)then .er (9,lineS nd i)else(domR nd z d b.length i).bind fun p=>domsR nd z r (d++[p.1]) (b++p.2)
def rootR(nd:List Nd)(z0:Nat): Rz (Dm×List Br) :=
 (knownR nd 0 [kwNear,wqer]).bind fun _=>(optR (findR nd 0 kwNear) z0 (ratR nd)).bind fun z=>(mustR nd 0 wqer).bind fun _=>(itemsR nd 0 wqer).bind fun its=>domsR nd z its [] []
theorem wq1bb(nd:List Nd)(n:Int)(key:List UInt8): Nz (itemsR nd n key):=opt_nz fun j=>wq8r (un_nz _) fun _=>trivial
theorem wq1hh{br:Int→List Int→List Br→Rz (Int×List Br)}(h:∀ i a w,Nz (br i a w)): ∀ l a w,Nz (foldR br l a w)
 |[],a,w=>trivial
 |i::r,a,w=>wq8r (h i a w) fun p=>wq1hh h r _ _
theorem wq1kt(nd:List Nd)(i:Int): Nz (valueR nd i):=opt_nz fun j=>wq8r (nz_tv _) fun _=>trivial
theorem wq1lg(nd:List Nd)(z:Nat)(i:Int): Nz (rateR nd z i):=opt_nz fun j=>wq8r (wq1jy _ _ _) fun _=>trivial
theorem wq155:∀(g:Nat) (nd:List Nd) (z:Nat) (dom up:Int) (b0:Nat) (i:Int) (a:List Int) (w:List Br),Nz (wqes g nd z dom up b0 i a w)
 |0,_,_,_,_,_,_,_,_=>show(8:Int)≠0 by decide
 |g+1,nd,z,dom,up,b0,i,a,w=>by
  unfold wqes
  refine nz_c (show(9:Int)≠0 by decide) (wq8r (un_nz _) fun _=>wq8r (wq18e _ _ _) fun kk=>wq8r (nz_tv _) fun key=>wq8r (wq1kt _ _) fun va=>nz_c (show(7:Int)≠0 by decide) ?_)
  exact wq8r (wq1lg _ _ _) fun hr=>wq8r (opt_nz fun j=>nz_tv _) fun s=>nz_c (show(17:Int)≠0 by decide) (wq8r (wq8r (wq1bb _ _ _) fun its=>wq1hh (fun i a w=>wq155 g _ _ _ _ _ i a w) _ _ _) fun p=>trivial)
theorem wq1lh(g:Nat)(nd:List Nd)(z:Nat)(dom up:Int)(b0:Nat)(n:Int): Nz (listR g nd z dom up b0 n):=wq8r (wq1bb _ _ _) fun its=>wq1hh (fun i a w=>wq155 g _ _ _ _ _ i a w) _ _ _
theorem dom_nz(nd:List Nd)(z:Nat)(d:Dm)(b0:Nat)(n:Int): Nz (domR nd z d b0 n) :=
 wq8r (un_nz _) fun _=>wq8r (wq18e _ _ _) fun j=>wq8r (nz_tv _) fun s=>nz_c (show(7:Int)≠0 by decide) (wq8r (wq1lh _ _ _ _ _ _ _) fun p=>trivial)
theorem wq1jz(nd:List Nd)(z:Nat): ∀ l d b,Nz (domsR nd z l d b)
 |[],d,b=>trivial
 |i::r,d,b=>nz_c (show(9:Int)≠0 by decide) (wq8r (dom_nz _ _ _ _ _) fun p=>wq1jz nd z r _ _)
theorem wq1li(nd:List Nd)(z0:Nat): Nz (rootR nd z0) :=
 wq8r (un_nz _) fun _=>wq8r (opt_nz fun j=>nz_tv _) fun z=>wq8r (wq18e _ _ _) fun _=>wq8r (wq1bb _ _ _) fun its=>wq1jz _ _ _ _ _
theorem wq6h{A B:Type}{r:Rz A}{g:A→Rz B}{y:B}(h:r.bind g = .ok y): ∃ x,r = .ok x∧g x = .ok y:=by
 cases r with
 |ok x=>exact⟨x,rfl,h⟩
 |er f=>cases h
theorem c_ok{T:Type}{c:Bool}{f:Int×Int}{r:Rz T}{y:T}(h:(bif c then .er f else r)=Rz.ok y): c=false∧r = .ok y:=by
 cases c with
 |true=>cases h
 |false=>exact⟨rfl,h⟩
theorem wq1cs{g:Nat}{nd:List Nd}{z:Nat}{dom up:Int}{b0:Nat}{i:Int}{a:List Int}{w:List Br}{p:Int×List Br}(h:wqes g nd z dom up b0 i a w = .ok p):
 p.1=((b0+w.length:Nat):Int)∧∃ b l,p.2=w++b::l:=by
 cases g with
 |zero=>cases h
 |succ g =>
  unfold wqes at h
  obtain⟨_,h⟩:=c_ok h
  obtain⟨_,_,h⟩:=wq6h h
  obtain⟨_,_,h⟩:=wq6h h
  obtain⟨_,_,h⟩:=wq6h h
  obtain⟨_,_,h⟩:=wq6h h
  obtain⟨_,h⟩:=c_ok h
  obtain⟨_,_,h⟩:=wq6h h
  obtain⟨_,_,h⟩:=wq6h h
  obtain⟨_,h⟩:=c_ok h
  obtain⟨q,_,h⟩:=wq6h h
  injection h with h
  rw[←h]
  exact⟨rfl,_,_,rfl⟩
def InA(b0:Nat)(a:List Int)(w:List Br): Prop:=∀ x∈a,(b0:Int)≤x∧x<((b0+w.length:Nat):Int)
theorem wq1hi{b0:Nat}{a:List Int}{w:List Br}{b:Br}{l:List Br}(h:InA b0 a w): InA b0 (a++[((b0+w.length:Nat):Int)]) (w++b::l):=by
 intro x hx
 have e:(w++b::l).length=w.length+(l.length+1):=by simp
 rw[e]
 rcases List.mem_append.1 hx with hx|hx
 ·have:=h x hx;omega
 ·have:=List.mem_singleton.1 hx;omega
theorem wq1k0(b0:Nat): InA b0 [] []:=fun x hx=>by cases hx
theorem wq1k1{pre w:List Br}{b0:Nat}{x:Int}(hp:pre.length=b0)(h:(b0:Int)≤x∧x<((b0+w.length:Nat):Int)): ∃ b,w[x.toNat-b0]? = some b∧(∀ z,(pre++w).getD x.toNat z=b)∧inb x ((pre++w).length:Int)=true:=by
 have h1:x.toNat-b0<w.length:=by omega
 refine⟨w[x.toNat-b0],List.getElem?_eq_getElem h1,fun z => ?_,inb_t (by omega) (by rw[List.length_append];omega)⟩
 rw[List.getD,List.getElem?_append_right (by omega),hp,List.getElem?_eq_getElem h1];rfl
theorem wq1k2(pre:List Br)(x y:Br)(l:List Br): (pre++x::l).set pre.length y=pre++y::l:=by simp
theorem wq1hj {R:Type} (k:Nat) (i:Int) (nd:List Nd) (d:Dm) (brs:List Br) (z:Nat) (key val:List UInt8) (any:Bool) (dom up:Int) (hs:Bool) (r1:List UInt8) (r2 r3:Int) (r4:Nat) (r5 r6:Bool) (kd:List Int) (b:Br) (hi:inb i (brs.length:Int)=true) (hb:∀ z,brs.getD i.toNat z=b)
 (K:List Nd→Dm→List Br→Nat→List UInt8→List UInt8→Bool→Int→Int→Bool→List UInt8→Int→Int→Nat→Bool→Bool→List Int→Bool→Option R) :
 wq5g k i nd d brs z key val any dom up hs r1 r2 r3 r4 r5 r6 kd K=K nd d brs z key val any dom up hs r1 r2 r3 r4 r5 r6 kd (twinB b key val any):=by
 unfold wq5g wqe4
 rw[hi,cond_true,hb]
 rfl
theorem wq18f {R:Type} (k:Nat) (nd:List Nd) (d:Dm) (pre w:List Br) (z:Nat) (key val:List UInt8) (any:Bool) (dom up:Int) (hs:Bool) (r1:List UInt8) (r2 r3:Int) (r4:Nat) (r5 r6:Bool) (kd:List Int) (a:List Int) (hl:a.length≤4000) (ha:InA pre.length a w)
 (K:List Nd→Dm→List Br→Nat→List UInt8→List UInt8→Bool→Int→Int→Bool→List UInt8→Int→Int→Nat→Bool→Bool→List Int→Int→Option R):∀(s:List Int) (i m:Nat),a.drop i=s→i≤a.length→s.length<m →
 ∃ j:Int,decide (j≥0)=twinR pre.length s w key val any∧wq20 k m nd d (pre++w) z key val any dom up hs r1 r2 r3 r4 r5 r6 kd a (a.length:Int) (i:Int) K=K nd d (pre++w) z key val any dom up hs r1 r2 r3 r4 r5 r6 kd j
 |s,i,0,_,_,h=>by omega
 |[],i,m+1,hd,hi,hm=>by
  have:=wq2t hd
  refine⟨-1,rfl,?_⟩
  rw[wq20,wq3p,dec_f (by omega)];rfl
 |c::s,i,m+1,hd,hi,hm=>by
  obtain⟨hlt,hc,hr⟩:=wq10 hd
  have hm1:c∈a:=by
   have:=hc 0
   rw[List.getD,List.getElem?_eq_getElem hlt]at this
   rw[←this];exact List.getElem_mem _
  obtain⟨b,e1,e2,e3⟩:=wq1k1 (pre:=pre) rfl (ha c hm1)
  rw[wq20,wq3p,dec_t (by omega),cond_true,inb_t (by omega) (by omega),cond_true,wq1,hc,wq1hj k c nd d _ z key val any dom up hs r1 r2 r3 r4 r5 r6 kd b e3 e2]
  have et:twinR pre.length (c::s) w key val any=(twinB b key val any || twinR pre.length s w key val any):=by
   unfold twinR
   rw[List.any_cons,e1]
  rw[et]
  cases twinB b key val any with
  |true=>exact⟨(i:Int),by rw[Bool.true_or];exact dec_t (by omega),rfl⟩
  |false =>
   rw[Bool.false_or,cond_false,wqm (by omega) (by omega),show(i:Int)+1=((i+1:Nat):Int) by omega]
   exact wq18f k nd d pre w z key val any dom up hs r1 r2 r3 r4 r5 r6 kd a hl ha K s (i+1) m hr (by omega) (by simp at hm;omega)
theorem wq1ep {R:Type} (k:Nat) (hk:5000<k) (nd:List Nd) (d:Dm) (pre w:List Br) (z:Nat) (key val:List UInt8) (any:Bool) (dom up:Int) (hs:Bool) (r1:List UInt8) (r2 r3:Int) (r4:Nat) (r5 r6:Bool) (kd:List Int) (a:List Int) (hl:a.length≤4000) (ha:InA pre.length a w)
 (K:List Nd→Dm→List Br→Nat→List UInt8→List UInt8→Bool→Int→Int→Bool→List UInt8→Int→Int→Nat→Bool→Bool→List Int→Bool→Option R) :
 wq27 k a nd d (pre++w) z key val any dom up hs r1 r2 r3 r4 r5 r6 kd K=K nd d (pre++w) z key val any dom up hs r1 r2 r3 r4 r5 r6 kd (twinR pre.length a w key val any):=by
 unfold wq27 wq7f wq46 wq5a
 obtain⟨j,e1,e2⟩:=wq18f k nd d pre w z key val any dom up hs r1 r2 r3 r4 r5 r6 kd a hl ha (fun y21 y22 y23 y24 y25 y26 y27 y28 y29 y30 y31 y32 y33 y34 y35 y36 y37 y38=>K y21 y22 y23 y24 y25 y26 y27 y28 y29 y30 y31 y32 y33 y34 y35 y36 y37 (decide (y38≥0))) a 0 k rfl (Nat.zero_le _) (by omega)
 rw[←e1]
 exact e2
section
variable {nd:List Nd}
def LstOK(nd:List Nd)(g k:Nat): Prop:=∀(R:Type) (d:Dm) (pre:List Br) (z:Nat) (n dom up:Int) (K:List Nd→Dm→List Br→Nat→List Int→Option R) (E:List Nd→Dm→List Br→Nat→Int→Int→Option R),InD nd n →
 ∃ b',wq1k k R nd d pre z n dom up (9-(g:Int)) K E=(listR g nd z dom up pre.length n).run (fun p=>K nd d (pre++p.2) z p.1) (E nd d b' z)
def BrOK(nd:List Nd)(g k:Nat): Prop:=∀(R:Type) (d:Dm) (pre w:List Br) (z:Nat) (i dom up:Int) (a:List Int) (K:List Nd→Dm→List Br→Nat→Int→Option R) (E:List Nd→Dm→List Br→Nat→Int→Int→Option R),InD nd i→a.length≤4000→InA pre.length a w →
 ∃ b',FR_config_reader_branch k R nd d (pre++w) z i [] [] false dom up false [] 0 0 0 false false [] a (9-(g:Int)) K E=(wqes g nd z dom up pre.length i a w).run (fun p=>K nd d (pre++p.2) z p.1) (E nd d b' z)
def tailP(k:Nat){R:Type}(nd:List Nd)(d:Dm)(b0 brs:List Br)(z:Nat)(i dom up deep:Int)(key val:List UInt8)(any:Bool)(K:List Nd→Dm→List Br→Nat→Int→Option R)(E:List Nd→Dm→List Br→Nat→Int→Int→Option R)(hs:Bool)(r1:List UInt8)(r2 r3:Int)(r4:Nat)(r6:Bool)(kd:List Int): Option R :=
 wq1l k nd i wq8g (fun s=>bif (bif s then !hs else false)then wq18 k nd i wq8g (fun j _=>wqi k nd j 17 (fun a b=>E nd d brs z a b))
  else wq1k k R nd d brs z i dom (b0.length:Int) (IntKind.i64.wrap (deep+1)) (fun y66 y67 y68 y69 y70=>bif inb (b0.length:Int) (y68.length:Int)then @SH (List Br) R (List.set y68 (b0.length:Int).toNat (key,(val,(any,(dom,(up,(hs,((r1,(r2,(r3,(r4,(s,r6))))),y70)))))))) (fun y71=>K y66 y67 y71 y69 (b0.length:Int))else none) E) (fun a b=>E nd d brs z a b)
theorem wq1k3{k g:Nat}(D:Dk k nd)(hL:LstOK nd g k)(hg:g≤8){R:Type}(d:Dm)(pre w:List Br)(x0:Br)(z:Nat)(i dom up:Int)(h:InD nd i)(key val:List UInt8)(any:Bool)(K:List Nd→Dm→List Br→Nat→Int→Option R)(E:List Nd→Dm→List Br→Nat→Int→Int→Option R)(hs:Bool)(r1:List UInt8)(r2 r3:Int)(r4:Nat)(r5 r6:Bool)(kd:List Int):
 ∃ b',tailP k nd d (pre++w) ((pre++w)++[x0]) z i dom up (9-((g+1:Nat):Int)) key val any K E hs r1 r2 r3 r4 r6 kd =
  ((optR (findR nd i wq8g) false (boolR nd)).bind fun s=>bif s && !hs then .er (17,lineS nd ((findR nd i wq8g).getD 0))else
    (listR g nd z dom ((pre.length+w.length:Nat):Int) (pre.length+w.length+1) i).bind fun p =>
    .ok (((pre.length+w.length:Nat):Int),w++(key,val,any,dom,up,hs,shadow (r1,r2,r3,r4,r5,r6) s,p.1)::p.2):Rz (Int×List Br)).run (fun p=>K nd d (pre++p.2) z p.1) (E nd d b' z):=by
 have e1:((pre++w).length:Int)=((pre.length+w.length:Nat):Int):=by rw[List.length_append]
 have e2:IntKind.i64.wrap ((9-((g+1:Nat):Int))+1)=9-(g:Int):=by rw[wqm (by omega) (by omega)];omega
 unfold tailP
 rw[D.sboolk h,e2,e1]
 cases hr:optR (findR nd i wq8g) false (boolR nd)with
 |er f=>exact⟨_,rfl⟩
 |ok s =>
  simp only[Rz.run,Rz.bind]
  have ec:(bif s then !hs else false)=(s && !hs):=by cases s<;>rfl
  rw[ec]
  cases hq:(s && !hs)with
  |true =>
   simp only[cond_true]
   have hs1:s=true:=by cases s with|true=>rfl|false=>cases hq
   cases hf:findR nd i wq8g with
   |none=>rw[hf,hs1]at hr;cases hr
   |some j =>
    rw[D.sfind h,hf]
    dsimp only
    rw[D.sfault (D.find h hf) 17 (by decide)]
    exact⟨_,rfl⟩
  |false =>
   simp only[cond_false]
   obtain⟨b',e⟩:=hL R d ((pre++w)++[x0]) z i dom ((pre.length+w.length:Nat):Int) (fun y66 y67 y68 y69 y70=>bif inb ((pre.length+w.length:Nat):Int) (y68.length:Int)then @SH (List Br) R (List.set y68 ((pre.length+w.length:Nat):Int).toNat (key,(val,(any,(dom,(up,(hs,((r1,(r2,(r3,(r4,(s,r6))))),y70)))))))) (fun y71=>K y66 y67 y71 y69 ((pre.length+w.length:Nat):Int))else none) E h
   have e3:((pre++w)++[x0]).length=pre.length+w.length+1:=by simp;omega
   rw[e,e3]
   cases listR g nd z dom ((pre.length+w.length:Nat):Int) (pre.length+w.length+1) i with
   |er f=>exact⟨b',rfl⟩
   |ok p =>
    refine⟨b',?_⟩
    have e4:((pre++w)++[x0])++p.2=(pre++w)++x0::p.2:=by simp
    have e5:inb ((pre.length+w.length:Nat):Int) (((pre++w)++x0::p.2).length:Int)=true:=inb_t (by omega) (by simp;omega)
    have e6:((pre.length+w.length:Nat):Int).toNat=(pre++w).length:=by rw[List.length_append];rfl
    have e7:∀ y:Br,(pre++w)++y::p.2=pre++(w++y::p.2):=fun y=>by simp
    show(bif inb ((pre.length+w.length:Nat):Int) ((((pre++w)++[x0])++p.2).length:Int)then K nd d (List.set (((pre++w)++[x0])++p.2) ((pre.length+w.length:Nat):Int).toNat (key,(val,(any,(dom,(up,(hs,((r1,(r2,(r3,(r4,(s,r6))))),p.1)))))))) z ((pre.length+w.length:Nat):Int)else none)=K nd d (pre++(w++(key,(val,(any,(dom,(up,(hs,((r1,(r2,(r3,(r4,(s,r6))))),p.1)))))))::p.2)) z ((pre.length+w.length:Nat):Int)
    rw[e4,e5,cond_true,e6,wq1k2,e7]
theorem fits_b{n:Nat}(h:n<500)(b:Nat)(hb:b≤1000): fits n 1 b=true:=by
 unfold fits
 have h1:(n+1)*b≤501*1000:=Nat.mul_le_mul (by omega) hb
 rw[dec_t (show n+1≤maxN by have:maxN=9223372036854775807:=rfl;omega),dec_t (show(n+1)*b≤140737488355328 by omega)];rfl
def midP(k:Nat){R:Type}(nd:List Nd)(d:Dm)(brs:List Br)(z:Nat)(i dom up deep:Int)(key val:List UInt8)(any:Bool)(a:List Int)(K:List Nd→Dm→List Br→Nat→Int→Option R)(E:List Nd→Dm→List Br→Nat→Int→Int→Option R): Option R :=
 wq27 k a nd d brs z key val any dom up false [] 0 0 0 false false [] (fun y35 y36 y37 y38 y39 y40 y41 y42 y43 y44 y45 y46 y47 y48 y49 y50 y51 y52=>bif y52 then wqi k y35 i 7 (fun y53 y54=>E y35 y36 y37 y38 y53 y54)
  else bif fits y37.length (@List.length Br [(y39,(y40,(y41,(y42,(y43,(y44,((y45,(y46,(y47,(y48,(y49,y50))))),y51)))))))]) 136 then wq18 k y35 i kwRate (fun y53 y54=>bif y54 then wq4x k y35 y36 (y37++[(y39,(y40,(y41,(y42,(y43,(y44,((y45,(y46,(y47,(y48,(y49,y50))))),y51)))))))]) y38 y53 (fun y55 y56 y57 y58 y59 y60 y61 y62 y63 y64 =>
   wq1l k y55 i wq8g (fun y65=>bif (bif y65 then !true else false)then wq18 k y55 i wq8g (fun y66 y67=>wqi k y55 y66 17 (fun y68 y69=>E y55 y56 y57 y58 y68 y69))
    else wq1k k R y55 y56 y57 y58 i y42 (y37.length:Int) (IntKind.i64.wrap (deep+1)) (fun y66 y67 y68 y69 y70=>bif inb (y37.length:Int) (y68.length:Int)then @SH (List Br) R (List.set y68 (y37.length:Int).toNat (y39,(y40,(y41,(y42,(y43,(true,((y59,(y60,(y61,(y62,(y65,y64))))),y70)))))))) (fun y71=>K y66 y67 y71 y69 (y37.length:Int))else none) E) (fun y65 y66=>E y55 y56 y57 y58 y65 y66)) E
   else wq1l k y35 i wq8g (fun y55=>bif (bif y55 then !y44 else false)then wq18 k y35 i wq8g (fun y56 y57=>wqi k y35 y56 17 (fun y58 y59=>E y35 y36 (y37++[(y39,(y40,(y41,(y42,(y43,(y44,((y45,(y46,(y47,(y48,(y49,y50))))),y51)))))))]) y38 y58 y59))
    else wq1k k R y35 y36 (y37++[(y39,(y40,(y41,(y42,(y43,(y44,((y45,(y46,(y47,(y48,(y49,y50))))),y51)))))))]) y38 i y42 (y37.length:Int) (IntKind.i64.wrap (deep+1)) (fun y56 y57 y58 y59 y60=>bif inb (y37.length:Int) (y58.length:Int)then @SH (List Br) R (List.set y58 (y37.length:Int).toNat (y39,(y40,(y41,(y42,(y43,(y44,((y45,(y46,(y47,(y48,(y55,y50))))),y60)))))))) (fun y61=>K y56 y57 y61 y59 (y37.length:Int))else none) E) (fun y55 y56=>E y35 y36 (y37++[(y39,(y40,(y41,(y42,(y43,(y44,((y45,(y46,(y47,(y48,(y49,y50))))),y51)))))))]) y38 y55 y56))
  else none)
theorem mid_eq{k g:Nat}(D:Dk k nd)(hL:LstOK nd g k)(hg:g≤8){R:Type}(d:Dm)(pre w:List Br)(z:Nat)(i dom up:Int)(h:InD nd i)(key val:List UInt8)(any:Bool)(a:List Int)(hl:a.length≤4000)(ha:InA pre.length a w)(h5:pre.length+w.length<500)(K:List Nd→Dm→List Br→Nat→Int→Option R)(E:List Nd→Dm→List Br→Nat→Int→Int→Option R):
 ∃ b',midP k nd d (pre++w) z i dom up (9-((g+1:Nat):Int)) key val any a K E =
  (bif twinR pre.length a w key val any then .er (7,lineS nd i)else
   (rateR nd z i).bind fun hr=>(optR (findR nd i wq8g) false (boolR nd)).bind fun s =>
   bif s && !hr.1 then .er (17,lineS nd ((findR nd i wq8g).getD 0))else
   (listR g nd z dom ((pre.length+w.length:Nat):Int) (pre.length+w.length+1) i).bind fun p =>
   .ok (((pre.length+w.length:Nat):Int),w++(key,val,any,dom,up,hr.1,shadow hr.2 s,p.1)::p.2):Rz (Int×List Br)).run (fun p=>K nd d (pre++p.2) z p.1) (E nd d b' z):=by
 have hk:=D.hk
 unfold midP
 rw[wq1ep k (by omega) nd d pre w z key val any dom up false [] 0 0 0 false false [] a hl ha]
 cases twinR pre.length a w key val any with
 |true =>
  refine⟨pre++w,?_⟩
  simp only[cond_true]
  exact D.sfault h 7 (by decide) _
 |false =>
  have hf:fits (pre++w).length (@List.length Br [(key,(val,(any,(dom,(up,(false,(([],((0:Int),((0:Int),((0:Nat),(false,false))))),([]:List Int))))))))]) 136=true:=fits_b (by rw[List.length_append];exact h5) 136 (by decide)
  simp only[cond_false]
  rw[hf,cond_true,D.sfind h]
  unfold rateR
  cases hq:findR nd i kwRate with
  |none=>exact wq1k3 D hL hg d pre w (key,(val,(any,(dom,(up,(false,(([],((0:Int),((0:Int),((0:Nat),(false,false))))),[]))))))) z i dom up h key val any K E false [] 0 0 0 false false []
  |some j =>
   simp only[cond_true,optR]
   rw[D.srule (D.find h hq)]
   cases ruleR nd z j with
   |er f=>exact⟨_,rfl⟩
   |ok r=>exact wq1k3 D hL hg d pre w (key,(val,(any,(dom,(up,(false,(([],((0:Int),((0:Int),((0:Nat),(false,false))))),[]))))))) z i dom up h key val any K E true r.1 r.2.1 r.2.2.1 r.2.2.2.1 r.2.2.2.2.1 r.2.2.2.2.2 []
theorem wq1lj{k g:Nat}(D:Dk k nd)(hg:g≤8)(hL:LstOK nd g k): BrOK nd (g+1) (k+1):=by
 intro R d pre w z i dom up a K E h hl ha
 have hk:=D.hk
 rw[FR_config_reader_branch,wqes]
 unfold wq95
 rw[dec_f (show ¬ (9-((g+1:Nat):Int))>8 by omega),cond_false,List.length_append]
 by_cases h5:500≤pre.length+w.length
 ·rw[dec_t (show((pre.length+w.length:Nat):Int)≥500 by omega),dec_t h5]
  refine⟨pre++w,?_⟩
  simp only[cond_true]
  exact D.sfault h 9 (by decide) _
 ·rw[dec_f (show ¬ ((pre.length+w.length:Nat):Int)≥500 by omega),dec_f h5,cond_false,cond_false,D.sknownk h _ (by decide)]
  cases knownR nd i [kwKey,wq132,kwRate,wq8g,kwDesc]with
  |er f=>exact⟨_,rfl⟩
  |ok _ =>
   simp only[Rz.run,Rz.bind]
   rw[D.smust h]
   cases hm:mustR nd i kwKey with
   |er f=>exact⟨_,rfl⟩
   |ok kk =>
    simp only[Rz.run]
    rw[D.snamek (wq1cr D h hm)]
    cases nameR nd kk with
    |er f=>exact⟨_,rfl⟩
    |ok key =>
     simp only[Rz.run]
     rw[D.sfind h]
     unfold valueR
     cases hv:findR nd i wq132 with
     |none=>exact mid_eq D hL hg d pre w z i dom up h key [] true a hl ha (by omega) K E
     |some j =>
      simp only[cond_true,optR]
      rw[D.swordk (D.find h hv)]
      cases wordR nd j with
      |er f=>exact⟨_,rfl⟩
      |ok v=>exact mid_eq D hL hg d pre w z i dom up h key v false a hl ha (by omega) K E
theorem br_0{k:Nat}(D:Dk k nd): BrOK nd 0 (k+1):=by
 intro R d pre w z i dom up a K E h hl ha
 rw[FR_config_reader_branch,wqes]
 unfold wq95
 rw[dec_t (show(9-((0:Nat):Int))>8 by decide),cond_true]
 exact⟨pre++w,D.sfault h 8 (by decide) _⟩
theorem fits_a{n:Nat}(h:n≤4000)(b:Nat)(hb:b≤1000): fits n 1 b=true:=by
 unfold fits
 have h1:(n+1)*b≤4001*1000:=Nat.mul_le_mul (by omega) hb
 rw[dec_t (show n+1≤maxN by have:maxN=9223372036854775807:=rfl;omega),dec_t (show(n+1)*b≤140737488355328 by omega)];rfl
theorem Dk.kidsLen{k:Nat}(D:Dk k nd){i:Int}(h:InD nd i): (kidsR nd i).length≤4000:=by
 obtain⟨n,x,rfl,h1,a⟩:=D.at h
 unfold kidsR
 rw[h1]
 exact a.ok.2.2.1
theorem wq1hk{k:Nat}(D:Dk k nd){n:Int}(h:InD nd n){key:List UInt8}{its:List Int}(e:itemsR nd n key = .ok its): its.length≤4000∧∀ j∈its,InD nd j:=by
 unfold itemsR at e
 cases hf:findR nd n key with
 |none=>rw[hf]at e;injection e with e;rw[←e];exact⟨by simp,fun j hj=>by cases hj⟩
 |some j =>
  rw[hf]at e
  obtain⟨_,_,e⟩:=wq6h e
  injection e with e
  rw[←e]
  exact⟨D.kidsLen (D.find h hf),D.kids (D.find h hf)⟩
theorem wq1ct{k g:Nat}(hB:BrOK nd g k){R:Type}(d:Dm)(pre:List Br)(z:Nat)(dom up:Int)(its:List Int)(hi:its.length≤4000)(hj:∀ j∈its,InD nd j)(K:List Nd→Dm→List Br→Nat→List Int→Option R)(E:List Nd→Dm→List Br→Nat→Int→Int→Option R): ∀(s:List Int) (i m:Nat) (a:List Int) (w:List Br),its.drop i=s→i≤its.length→s.length<m→a.length=i→InA pre.length a w →
 ∃ b',wq3j k (wq1k k) (FR_config_reader_branch k) m nd d (pre++w) z dom up (9-(g:Int)) a its (its.length:Int) (i:Int) K E=(foldR (wqes g nd z dom up pre.length) s a w).run (fun p=>K nd d (pre++p.2) z p.1) (E nd d b' z)
 |s,i,0,_,_,_,_,h,_,_=>by omega
 |[],i,m+1,a,w,hd,hil,hm,hal,ha=>by
  have:=wq2t hd
  refine⟨pre++w,?_⟩
  rw[wq3j,wq6u,dec_f (by omega)];rfl
 |c::s,i,m+1,a,w,hd,hil,hm,hal,ha=>by
  obtain⟨hlt,hc,hr⟩:=wq10 hd
  have hm1:c∈its:=by
   have:=hc 0
   rw[List.getD,List.getElem?_eq_getElem hlt]at this
   rw[←this];exact List.getElem_mem _
  rw[wq3j,wq6u,dec_t (by omega),cond_true,inb_t (by omega) (by omega),cond_true,wq1,hc]
  obtain⟨b',e⟩:=hB R d pre w z c dom up a (fun y16 y17 y18 y19 y20=>cond (fits a.length (@List.length (@Kd.T kI) [y20]) 8) (wq3j k (wq1k k) (FR_config_reader_branch k) m y16 y17 y18 y19 dom up (9-(g:Int)) (a++[y20]) its (its.length:Int) (IntKind.i64.wrap ((i:Int)+1)) K E) none) E (hj c hm1) (by omega) ha
  rw[e,foldR]
  cases hb:wqes g nd z dom up pre.length c a w with
  |er f=>exact⟨b',rfl⟩
  |ok p =>
   obtain⟨h1,b,l,h2⟩:=wq1cs hb
   obtain⟨q,w'⟩:=p
   dsimp only at h1 h2
   subst h1 h2
   simp only[Rz.run,Rz.bind]
   have hf:fits a.length (@List.length (@Kd.T kI) [((pre.length+w.length:Nat):Int)]) 8=true:=fits_a (by omega) 8 (by decide)
   rw[hf,cond_true,wqm (by omega) (by omega),show(i:Int)+1=((i+1:Nat):Int) by omega]
   exact wq1ct hB d pre z dom up its hi hj K E s (i+1) m _ _ hr (by omega) (by simp at hm;omega) (by simp;omega) (wq1hi ha)
theorem wq1hl{k g:Nat}(D:Dk k nd)(hB:BrOK nd g k): LstOK nd g (k+1):=by
 intro R d pre z n dom up K E h
 have hk:=D.hk
 rw[wq1k]
 unfold wqac
 rw[D.sitems h]
 unfold listR
 cases hi:itemsR nd n kwDesc with
 |er f=>exact⟨_,rfl⟩
 |ok its =>
  obtain⟨i1,i2⟩:=wq1hk D h hi
  have e:=wq1ct hB d pre z dom up its i1 i2 K E its 0 k [] [] rfl (Nat.zero_le _) (by omega) rfl (wq1k0 _)
  rw[List.append_nil]at e
  exact e
theorem lst_ok(hn:nd.length≤4000)(ho:∀ x∈nd,okD x)(hc:checkS nd=true): ∀(g k:Nat),6002+2*g<k→g≤8→LstOK nd g k
 |g,0,h,_=>by omega
 |0,1,h,_=>by omega
 |0,k+2,h,_=>wq1hl ⟨by omega,hn,ho,hc⟩ (br_0 ⟨by omega,hn,ho,hc⟩)
 |g+1,1,h,_=>by omega
 |g+1,k+2,h,hg=>wq1hl ⟨by omega,hn,ho,hc⟩ (wq1lj ⟨by omega,hn,ho,hc⟩ (by omega) (lst_ok hn ho hc g k (by omega) (by omega)))
end
end Go.Proofs.YtabkhphoacmcdaaGreatDoor.Pvm
namespace Go.Proofs.YtabkhphoacmcdaaGreatDoor.Pvm
open Go
theorem wq18g{R:Type}(k:Nat)(d:Dm)(hl:d.length≤4000)(s:List UInt8)(K:List UInt8→Int→Option R): ∀(r:Dm) (i m:Nat),d.drop i=r→i≤d.length→r.length<m →
 ∃ j:Int,decide (j≥0)=r.any (fun x=>x.1 == s)∧wq11 k m s d (d.length:Int) (i:Int) K=K s j
 |r,i,0,_,_,h=>by omega
 |[],i,m+1,hd,hi,hm=>by
  have:=wq2t hd
  refine⟨-1,rfl,?_⟩
  rw[wq11,wq2j,dec_f (by omega)];rfl
 |c::r,i,m+1,hd,hi,hm=>by
  obtain⟨hlt,hc,hr⟩:=wq10 hd
  rw[wq11,wq2j,dec_t (by omega),cond_true,inb_t (by omega) (by omega),cond_true,wq1,hc]
  unfold wq7l wqe5
  rw[List.any_cons]
  cases c.1 == s with
  |true=>exact⟨(i:Int),by rw[Bool.true_or];exact dec_t (by omega),rfl⟩
  |false =>
   dsimp only
   rw[Bool.false_or,cond_false,wqm (by omega) (by omega),show(i:Int)+1=((i+1:Nat):Int) by omega]
   exact wq18g k d hl s K r (i+1) m hr (by omega) (by simp at hm;omega)
theorem wq1ku{R:Type}(k:Nat)(hk:5000<k)(d:Dm)(hl:d.length≤4000)(s:List UInt8)(K:List UInt8→Bool→Option R): wq1g k d s K=K s (d.any fun x=>x.1 == s):=by
 unfold wq1g wq4d wq2u wq3q
 obtain⟨j,e1,e2⟩:=wq18g k d hl s (fun y5 y6=>K y5 (decide (y6≥0))) d 0 k rfl (Nat.zero_le _) (by omega)
 rw[←e1]
 exact e2
theorem wq1bc(d:Dm)(x y:List UInt8×List Int): (d++[x]).set d.length y=d++[y]:=by simp
theorem wq1bd(d:Dm)(x z:List UInt8×List Int): (d++[x]).getD d.length z=x:=by simp[List.getD]
section
variable {nd:List Nd}
theorem domP{k:Nat}(D:Dk k nd)(hL:LstOK nd 8 k){R:Type}(d:Dm)(b:List Br)(z:Nat)(n:Int)(h:InD nd n)(hd:d.length<16)(K:List Nd→Dm→List Br→Nat→Option R)(E:List Nd→Dm→List Br→Nat→Int→Int→Option R):
 ∃ d' b',wq31 k nd d b z n K E=(domR nd z d b.length n).run (fun p=>K nd (d++[p.1]) (b++p.2) z) (E nd d' b' z):=by
 have hk:=D.hk
 unfold wq31 wqbk domR
 rw[D.sknownk h _ (by decide)]
 cases knownR nd n [wqvl,kwDesc]with
 |er f=>exact⟨_,_,rfl⟩
 |ok _ =>
  simp only[Rz.run,Rz.bind]
  rw[D.smust h]
  cases hm:mustR nd n wqvl with
  |er f=>exact⟨_,_,rfl⟩
  |ok j =>
   have hj:=wq1cr D h hm
   simp only[Rz.run]
   rw[D.snamek hj]
   cases nameR nd j with
   |er f=>exact⟨_,_,rfl⟩
   |ok s =>
    simp only[Rz.run]
    rw[wq1ku k (by omega) d (by omega)]
    cases d.any (fun x=>x.1 == s)with
    |true =>
     refine⟨d,b,?_⟩
     simp only[cond_true]
     exact D.sfault hj 7 (by decide) _
    |false =>
     have hf:fits d.length (@List.length (List UInt8×List Int) [(s,([]:List Int))]) 40=true:=fits_a (by omega) 40 (by decide)
     have e0:IntKind.i64.wrap (((d++[(s,([]:List Int))]).length:Int)-1)=((d.length:Nat):Int):=by rw[wqm (by simp<;>omega) (by simp<;>omega)];simp
     simp only[cond_false]
     obtain⟨b',e⟩:=hL R (d++[(s,[])]) b z n ((d.length:Nat):Int) (-1) (fun y16 y17 y18 y19 y20=>bif inb (IntKind.i64.wrap ((y17.length:Int)-1)) (y17.length:Int)then @SH Dm R (List.set y17 (IntKind.i64.wrap ((y17.length:Int)-1)).toNat ((y17.getD (IntKind.i64.wrap ((y17.length:Int)-1)).toNat (Kd.zero (.pr .str (.sl kI)))).1,y20)) (fun y21=>K y16 y21 y18 y19)else none) E h
     refine⟨d++[(s,[])],b',?_⟩
     rw[hf,cond_true,e0]
     refine Eq.trans e ?_
     cases listR 8 nd z ((d.length:Nat):Int) (-1) b.length n with
     |er f=>rfl
     |ok p =>
      show(bif inb (IntKind.i64.wrap (((d++[(s,([]:List Int))]).length:Int)-1)) ((d++[(s,([]:List Int))]).length:Int)then K nd (List.set (d++[(s,[])]) (IntKind.i64.wrap (((d++[(s,([]:List Int))]).length:Int)-1)).toNat (((d++[(s,[])]).getD (IntKind.i64.wrap (((d++[(s,([]:List Int))]).length:Int)-1)).toNat (Kd.zero (.pr .str (.sl kI)))).1,p.1)) (b++p.2) z else none)=K nd (d++[(s,p.1)]) (b++p.2) z
      rw[e0,inb_t (by omega) (by simp<;>omega),cond_true,wq1,wq1bd,wq1bc]
theorem wq1cu{k:Nat}(D:Dk k nd)(hL:LstOK nd 8 k){R:Type}(z:Nat)(its:List Int)(hi:its.length≤4000)(hj:∀ j∈its,InD nd j)(K:List Nd→Dm→List Br→Nat→Option R)(E:List Nd→Dm→List Br→Nat→Int→Int→Option R): ∀(s:List Int) (i m:Nat) (d:Dm) (b:List Br),its.drop i=s→i≤its.length→s.length<m→d.length=i →
 ∃ d' b',wq3k k (@wq14 k) (@wqy k) (@wq3i k) (@wq17 k) (@wqu k) (@wq2q k) (@wqi k) (@wq31 k) m nd d b z its (its.length:Int) (i:Int) K E=(domsR nd z s d b).run (fun p=>K nd p.1 p.2 z) (E nd d' b' z)
 |s,i,0,_,_,_,_,h,_=>by omega
 |[],i,m+1,d,b,hd,hil,hm,hdl=>by
  have:=wq2t hd
  refine⟨d,b,?_⟩
  rw[wq3k,wq6v,dec_f (by omega)];rfl
 |c::s,i,m+1,d,b,hd,hil,hm,hdl=>by
  obtain⟨hlt,hc,hr⟩:=wq10 hd
  have hm1:c∈its:=by
   have:=hc 0
   rw[List.getD,List.getElem?_eq_getElem hlt]at this
   rw[←this];exact List.getElem_mem _
  rw[wq3k,wq6v,dec_t (by omega),cond_true,inb_t (by omega) (by omega),cond_true,wq1,hc,domsR]
  by_cases h16:16≤d.length
  ·rw[dec_t h16,dec_t (show(i:Int)≥16 by omega)]
   refine⟨d,b,?_⟩
   simp only[cond_true]
   exact D.sfault (hj c hm1) 9 (by decide) _
  ·rw[dec_f h16,dec_f (show ¬ (i:Int)≥16 by omega),cond_false,cond_false]
   obtain⟨d',b',e⟩:=domP D hL d b z c (hj c hm1) (by omega) (fun y12 y13 y14 y15=>wq3k k (@wq14 k) (@wqy k) (@wq3i k) (@wq17 k) (@wqu k) (@wq2q k) (@wqi k) (@wq31 k) m y12 y13 y14 y15 its (its.length:Int) (IntKind.i64.wrap ((i:Int)+1)) K E) E
   rw[e]
   cases domR nd z d b.length c with
   |er f=>exact⟨d',b',rfl⟩
   |ok p =>
    simp only[Rz.run,Rz.bind]
    rw[wqm (by omega) (by omega),show(i:Int)+1=((i+1:Nat):Int) by omega]
    exact wq1cu D hL z its hi hj K E s (i+1) m _ _ hr (by omega) (by simp at hm;omega) (by simp;omega)
def z08:Nat:=4605380978949069210
theorem rd_08:rdS [48,46,56]=some z08:=by decide +kernel
theorem in_0(hc:checkS nd=true): InD nd 0:=by
 unfold checkS at hc
 simp only[Bool.and_eq_true,decide_eq_true_eq]at hc
 exact⟨Int.le_refl _,by omega⟩
theorem rootP{k:Nat}(D:Dk k nd)(hL:LstOK nd 8 k){R:Type}(z:Nat)(K:List Nd→Dm→List Br→Nat→Option R)(E:List Nd→Dm→List Br→Nat→Int→Int→Option R):
 ∃ d' b' z1 z2,wq86 k nd [] [] z K E=(rootR nd z08).run (fun p=>K nd p.1 p.2 z1) (E nd d' b' z2):=by
 have hk:=D.hk
 have h:=in_0 D.hc
 unfold wq86 wqaf rootR
 rw[D.sknownk h _ (by decide)]
 cases knownR nd 0 [kwNear,wqer]with
 |er f=>exact⟨_,_,0,_,rfl⟩
 |ok _ =>
  simp only[Rz.run,Rz.bind]
  rw[wqtt k _ (by decide) (by omega),rd_08]
  simp only[rdK]
  rw[D.sratio h]
  cases optR (findR nd 0 kwNear) z08 (ratR nd)with
  |er f=>exact⟨_,_,0,_,rfl⟩
  |ok z =>
   simp only[Rz.run]
   rw[D.smust h]
   cases mustR nd 0 wqer with
   |er f=>exact⟨_,_,0,_,rfl⟩
   |ok _ =>
    simp only[Rz.run]
    rw[D.sitems h]
    cases hi:itemsR nd 0 wqer with
    |er f=>exact⟨_,_,0,_,rfl⟩
    |ok its =>
     obtain⟨i1,i2⟩:=wq1hk D h hi
     obtain⟨d',b',e⟩:=wq1cu D hL z its i1 i2 K E its 0 k [] [] rfl (Nat.zero_le _) (by omega) rfl
     exact⟨d',b',z,z,e⟩
def ofR(nd:List Nd): Rz (Dm×List Br):=bif checkS nd then rootR nd z08 else .er (11,0)
theorem wq1be{k:Nat}(hk:6100<k)(hn:nd.length≤4000)(ho:∀ x∈nd,okD x){R:Type}(K:Dm→List Br→Int→Int→Option R): wq9v k nd K=(ofR nd).run (fun p=>K p.1 p.2 0 0) (K [] []):=by
 unfold wq9v wquu ofR
 rw[wq18c k nd hn ho (by omega)]
 cases hc:checkS nd with
 |false=>rfl
 |true =>
  have D:Dk k nd:=⟨by omega,hn,ho,hc⟩
  obtain⟨d',b',z1,z2,e⟩:=rootP D (lst_ok hn ho hc 8 k (by omega) (by omega)) 0 (fun y5 y6 y7 y8=>wqck k y6 y7 0 0 K) (fun y5 y6 y7 y8 y9 y10=>wqcl k [] [] 0 0 y9 y10 K)
  refine Eq.trans e ?_
  cases rootR nd z08<;>rfl
end
end Go.Proofs.YtabkhphoacmcdaaGreatDoor.Pvm
namespace Go.Proofs.YtabkhphoacmcdaaGreatDoor.Pvm
open Go
abbrev kBr:Kd := .pr .str (.pr .str (.pr .bool (.pr kI (.pr kI (.pr .bool (.pr (.pr .str (.pr kI (.pr kI (.pr .flt (.pr .bool .bool))))) (.sl kI)))))))
def kidz(x:Br)(q:List Int): Br:=(x.1,(x.2.1,(x.2.2.1,(x.2.2.2.1,(x.2.2.2.2.1,(x.2.2.2.2.2.1,(x.2.2.2.2.2.2.1,q)))))))
abbrev RK(R:Type):= List Nd→Nat→Dm→List Br→Int→Int→Int→Option R
abbrev RKL(R:Type):= List Nd→Nat→Dm→List Br→Int→Int→List Int→Option R
section
variable {nd:List Nd}
def lstN(g:Nat)(nd:List Nd)(z:Nat)(dom up:Int)(b0:Nat)(j:Int): Rz (List Int×List Br):=(needR nd j 2).bind fun _=>foldR (wqes g nd z dom up b0) (kidsR nd j) [] []
theorem wq1hm(g:Nat)(z:Nat)(dom up:Int)(b0:Nat)(n:Int): listR g nd z dom up b0 n=match findR nd n kwDesc with|some j=>lstN g nd z dom up b0 j|none => .ok ([],[]):=by
 unfold listR itemsR lstN
 cases findR nd n kwDesc with
 |none=>rfl
 |some j=>simp only[optR];cases needR nd j 2<;>rfl
def RLst(nd:List Nd)(g k:Nat): Prop:=∀(R:Type) (d:Dm) (pre:List Br) (z:Nat) (j dom up:Int) (K:RKL R),InD nd j →
 ∃ b' q,pre.length≤b'.length∧wqz k R nd z d pre 0 0 j dom up (9-(g:Int)) K=(lstN g nd z dom up pre.length j).run (fun p=>K nd z d (pre++p.2) 0 0 p.1) (fun e f=>K nd z d b' e f q)
def RBr(nd:List Nd)(g k:Nat): Prop:=∀(R:Type) (d:Dm) (pre w:List Br) (z:Nat) (i dom up:Int) (a:List Int) (K:RK R),InD nd i→a.length≤4000→InA pre.length a w →
 ∃ b' q,pre.length≤b'.length∧FR_ref15_reader_branch k R nd z d (pre++w) 0 0 i dom up (9-(g:Int)) a K=(wqes g nd z dom up pre.length i a w).run (fun p=>K nd z d (pre++p.2) 0 0 p.1) (fun e f=>K nd z d b' e f q)
def tailR(k:Nat){R:Type}(nd:List Nd)(z:Nat)(d:Dm)(b:List Br)(f1 f2 i dom deep:Int)(x:Br)(K:RK R): Option R :=
 bif fits b.length (@List.length Br [x]) 136 then wqx k nd i kwDesc (fun y54 y55=>bif y55 then wqz k R nd z d (b++[x]) f1 f2 y54 dom (b.length:Int) (IntKind.i64.wrap (deep+1)) (fun y56 y57 y58 y59 y60 y61 y62=>bif inb (b.length:Int) (y59.length:Int)then
  @SH (List Br) R (List.set y59 (b.length:Int).toNat (kidz (y59.getD (b.length:Int).toNat (Kd.zero kBr)) y62)) (fun y63=>K y56 y57 y58 y63 y60 y61 (b.length:Int))else none)else K nd z d (b++[x]) f1 f2 (b.length:Int))else none
theorem wq1lk(pre:List Br)(x z:Br)(l:List Br): (pre++x::l).getD pre.length z=x:=by simp[List.getD]
theorem wq1hn{k g:Nat}(D:Dk k nd)(hL:RLst nd g k)(hg:g≤8){R:Type}(d:Dm)(pre w:List Br)(z:Nat)(i dom up:Int)(h:InD nd i)(h5:pre.length+w.length<500)(key val:List UInt8)(any hs:Bool)(r:Rl)(K:RK R):
 ∃ b' q,pre.length≤b'.length∧tailR k nd z d (pre++w) 0 0 i dom (9-((g+1:Nat):Int)) (key,(val,(any,(dom,(up,(hs,(r,[]))))))) K =
  ((listR g nd z dom ((pre.length+w.length:Nat):Int) (pre.length+w.length+1) i).bind fun p => .ok (((pre.length+w.length:Nat):Int),w++(key,val,any,dom,up,hs,r,p.1)::p.2):Rz (Int×List Br)).run (fun p=>K nd z d (pre++p.2) 0 0 p.1) (fun e f=>K nd z d b' e f q):=by
 have e1:((pre++w).length:Int)=((pre.length+w.length:Nat):Int):=by rw[List.length_append]
 have e2:IntKind.i64.wrap ((9-((g+1:Nat):Int))+1)=9-(g:Int):=by rw[wqm (by omega) (by omega)];omega
 have hf:∀ x:Br,fits (pre++w).length (@List.length Br [x]) 136=true:=fun x=>fits_b (by rw[List.length_append];exact h5) 136 (by decide)
 have e6:((pre.length+w.length:Nat):Int).toNat=(pre++w).length:=by rw[List.length_append];rfl
 have e7:∀(y:Br) (l:List Br),(pre++w)++y::l=pre++(w++y::l):=fun y l=>by simp
 unfold tailR
 rw[hf,cond_true,e2,e1,D.rfind h,wq1hm]
 cases hq:findR nd i kwDesc with
 |none =>
  refine⟨pre,0,Nat.le_refl _,?_⟩
  show K nd z d ((pre++w)++[_]) 0 0 _=K nd z d (pre++(w++_::[])) 0 0 _
  rw[e7]
 |some j =>
  simp only[cond_true]
  have e3:((pre++w)++[(key,(val,(any,(dom,(up,(hs,(r,([]:List Int))))))))]).length=pre.length+w.length+1:=by simp;omega
  obtain⟨b',q,hb,e⟩:=hL R d ((pre++w)++[(key,(val,(any,(dom,(up,(hs,(r,[])))))))]) z j dom ((pre.length+w.length:Nat):Int) (fun y56 y57 y58 y59 y60 y61 y62=>bif inb ((pre.length+w.length:Nat):Int) (y59.length:Int)then
   @SH (List Br) R (List.set y59 ((pre.length+w.length:Nat):Int).toNat (kidz (y59.getD ((pre.length+w.length:Nat):Int).toNat (Kd.zero kBr)) y62)) (fun y63=>K y56 y57 y58 y63 y60 y61 ((pre.length+w.length:Nat):Int))else none) (D.find h hq)
  rw[e3]at e hb
  refine⟨List.set b' ((pre.length+w.length:Nat):Int).toNat (kidz (b'.getD ((pre.length+w.length:Nat):Int).toNat (Kd.zero kBr)) q),((pre.length+w.length:Nat):Int),?_,Eq.trans e ?_⟩
  ·rw[List.length_set];omega
  ·cases lstN g nd z dom ((pre.length+w.length:Nat):Int) (pre.length+w.length+1) j with
   |er f =>
    show(bif inb ((pre.length+w.length:Nat):Int) (b'.length:Int)then _ else none)=_
    rw[inb_t (by omega) (by omega),cond_true]
    rfl
   |ok p =>
    have e4:∀ x:Br,((pre++w)++[x])++p.2=(pre++w)++x::p.2:=fun x=>by simp
    show(bif inb ((pre.length+w.length:Nat):Int) ((((pre++w)++[_])++p.2).length:Int)then K nd z d (List.set (((pre++w)++[_])++p.2) ((pre.length+w.length:Nat):Int).toNat _) 0 0 _ else none)=K nd z d (pre++(w++_::p.2)) 0 0 _
    rw[e4,inb_t (by omega) (by simp;omega),cond_true,e6,wq1lk,wq1k2,e7]
    rfl
def shadR(k:Nat){R:Type}(nd:List Nd)(z:Nat)(d:Dm)(b:List Br)(f1 f2 i dom up deep:Int)(key val:List UInt8)(any:Bool)(K:RK R)(hs:Bool)(r1:List UInt8)(r2 r3:Int)(r4:Nat)(r5 r6:Bool): Option R :=
 wqx k nd i wq8g (fun y30 y31=>bif y31 then wq43 k nd y30 (fun y32 y33 y34=>wqa k nd z d b f1 f2 y33 y34 (fun y35 y36 y37 y38 y39 y40 y41=>bif y41 then K y35 y36 y37 y38 y39 y40 0 else bif (bif y32 then !hs else false)then wqj k y35 y36 y37 y38 y39 y40 y30 17 (fun y42 y43 y44 y45 y46 y47 y48=>K y42 y43 y44 y45 y46 y47 0)
  else tailR k y35 y36 y37 y38 y39 y40 i dom deep (key,(val,(any,(dom,(up,(hs,((r1,(r2,(r3,(r4,(y32,r6))))),[]))))))) K))else tailR k nd z d b f1 f2 i dom deep (key,(val,(any,(dom,(up,(hs,((r1,(r2,(r3,(r4,(r5,r6))))),[]))))))) K)
theorem wq1ho{k g:Nat}(D:Dk k nd)(hL:RLst nd g k)(hg:g≤8){R:Type}(d:Dm)(pre w:List Br)(z:Nat)(i dom up:Int)(h:InD nd i)(h5:pre.length+w.length<500)(key val:List UInt8)(any:Bool)(K:RK R)(hs:Bool)(r1:List UInt8)(r2 r3:Int)(r4:Nat)(r6:Bool):
 ∃ b' q,pre.length≤b'.length∧shadR k nd z d (pre++w) 0 0 i dom up (9-((g+1:Nat):Int)) key val any K hs r1 r2 r3 r4 false r6 =
  ((optR (findR nd i wq8g) false (boolR nd)).bind fun s=>bif s && !hs then .er (17,lineS nd ((findR nd i wq8g).getD 0))else
    (listR g nd z dom ((pre.length+w.length:Nat):Int) (pre.length+w.length+1) i).bind fun p =>
    .ok (((pre.length+w.length:Nat):Int),w++(key,val,any,dom,up,hs,shadow (r1,r2,r3,r4,false,r6) s,p.1)::p.2):Rz (Int×List Br)).run (fun p=>K nd z d (pre++p.2) 0 0 p.1) (fun e f=>K nd z d b' e f q):=by
 unfold shadR
 rw[D.rfind h]
 cases hf:findR nd i wq8g with
 |none=>exact wq1hn D hL hg d pre w z i dom up h h5 key val any hs (r1,r2,r3,r4,false,r6) K
 |some j =>
  have hj:=D.find h hf
  simp only[cond_true,optR]
  rw[D.rbool hj]
  cases hb:boolR nd j with
  |er f =>
   refine⟨pre++w,0,by simp,?_⟩
   simp only[Rz.out,Rz.bind,Rz.run,rfail,nz_t (nz_tv _) hb,cond_true]
  |ok s =>
   simp only[Rz.out,Rz.bind,rfail,ok_b,cond_false]
   have ec:(bif s then !hs else false)=(s && !hs):=by cases s<;>rfl
   rw[ec]
   cases hq:(s && !hs)with
   |true =>
    refine⟨pre++w,0,by simp,?_⟩
    simp only[cond_true]
    rw[D.rline hj _ _ _ 17 rfl]
    rfl
   |false =>
    simp only[cond_false]
    exact wq1hn D hL hg d pre w z i dom up h h5 key val any hs (r1,r2,r3,r4,s,r6) K
theorem wq1ll{z:Nat}{n:Int}{r:Rl}(h:ruleR nd z n = .ok r): r.2.2.2.2.1=false:=by
 have hN:∀ {u l:Int} {w:Nat} {b:Bool} {r:Rl},ruleN nd n u l w b = .ok r→r.2.2.2.2.1=false:=by
  intro u l w b r h
  obtain⟨s,_,h⟩:=wq6h h
  injection h with h
  rw[←h]
 obtain⟨_,_,h⟩:=wq6h h
 obtain⟨b,_,h⟩:=wq6h h
 cases b with
 |true=>exact hN (c_ok h).2
 |false =>
  obtain⟨_,_,h⟩:=wq6h h
  obtain⟨_,_,h⟩:=wq6h h
  obtain⟨_,h⟩:=c_ok h
  obtain⟨_,_,h⟩:=wq6h h
  obtain⟨_,_,h⟩:=wq6h h
  obtain⟨_,_,h⟩:=wq6h h
  exact hN h
end
end Go.Proofs.YtabkhphoacmcdaaGreatDoor.Pvm
namespace Go.Proofs.YtabkhphoacmcdaaGreatDoor.Pvm
open Go
section
variable {nd:List Nd}
theorem wq1lm{pre w:List Br}{c:Int}(hc:(pre.length:Int)≤c∧c<((pre.length+w.length:Nat):Int))(s:List Int)(key val:List UInt8)(any:Bool): ∃ b,(∀ z,(pre++w).getD c.toNat z=b)∧inb c ((pre++w).length:Int)=true∧twinR pre.length (c::s) w key val any=(twinB b key val any || twinR pre.length s w key val any):=by
 obtain⟨b,e1,e2,e3⟩:=wq1k1 (pre:=pre) rfl hc
 refine⟨b,e2,e3,?_⟩
 unfold twinR
 rw[List.any_cons,e1]
theorem wq114{k g:Nat}(D:Dk k nd)(hL:RLst nd g k)(hg:g≤8){R:Type}(d:Dm)(pre w:List Br)(z:Nat)(i dom up:Int)(h:InD nd i)(h5:pre.length+w.length<500)(key val:List UInt8)(any:Bool)(a:List Int)(hl:a.length≤4000)(ha:InA pre.length a w)(K:RK R): ∀(s:List Int) (x m:Nat),a.drop x=s→x≤a.length→s.length<m →
 ∃ b' q,pre.length≤b'.length∧wq3t k (wqz k) (FR_ref15_reader_branch k) (@wqa k) (@wq1e k) (@wqx k) (@wqj k) (@wq24 k) (@wq5m k) (@wq41 k) (@wq43 k) m nd z d (pre++w) 0 0 i dom (9-((g+1:Nat):Int)) a key val any dom up false [] 0 0 0 false false [] (x:Int) K =
  (bif twinR pre.length s w key val any then .er (7,lineS nd i)else
   (rateR nd z i).bind fun hr=>(optR (findR nd i wq8g) false (boolR nd)).bind fun s =>
   bif s && !hr.1 then .er (17,lineS nd ((findR nd i wq8g).getD 0))else
   (listR g nd z dom ((pre.length+w.length:Nat):Int) (pre.length+w.length+1) i).bind fun p =>
   .ok (((pre.length+w.length:Nat):Int),w++(key,val,any,dom,up,hr.1,shadow hr.2 s,p.1)::p.2):Rz (Int×List Br)).run (fun p=>K nd z d (pre++p.2) 0 0 p.1) (fun e f=>K nd z d b' e f q)
 |s,x,0,_,_,hm=>by omega
 |[],x,m+1,hd,hx,hm=>by
  have:=wq2t hd
  rw[wq3t,wq6l,dec_f (by omega),cond_false,D.rfind h]
  have e0:twinR pre.length [] w key val any=false:=rfl
  rw[e0,cond_false]
  unfold rateR
  cases hq:findR nd i kwRate with
  |none=>exact wq1ho D hL hg d pre w z i dom up h h5 key val any K false [] 0 0 0 false
  |some j =>
   simp only[cond_true,optR]
   obtain⟨z0,e⟩:=D.rrule (R:=R) (D.find h hq) z d (pre++w) (fun y30 y31 y32 y33 y34 y35 y36 y37 y38 y39 y40 y41=>bif y34 != 0 then K y30 y31 y32 y33 y34 y35 0 else shadR k y30 y31 y32 y33 y34 y35 i dom up (9-((g+1:Nat):Int)) key val any K true y36 y37 y38 y39 y40 y41)
   cases hr:ruleR nd z j with
   |er f =>
    rw[hr]at e
    refine⟨pre++w,0,by simp,Eq.trans e ?_⟩
    simp only[Rz.out,Rz.bind,Rz.run,nz_t (wq1jy _ _ _) hr,cond_true]
    rfl
   |ok r =>
    rw[hr]at e
    obtain⟨b',q,h1,h2⟩:=wq1ho D hL hg d pre w z i dom up h h5 key val any K true r.1 r.2.1 r.2.2.1 r.2.2.2.1 r.2.2.2.2.2
    refine⟨b',q,h1,Eq.trans e ?_⟩
    have hs:=wq1ll hr
    simp only[Rz.out,ok_b,cond_false,hs]
    exact h2
 |c::s,x,m+1,hd,hx,hm=>by
  obtain⟨hlt,hc,hr⟩:=wq10 hd
  have hm1:c∈a:=by
   have:=hc 0
   rw[List.getD,List.getElem?_eq_getElem hlt]at this
   rw[←this];exact List.getElem_mem _
  obtain⟨b,e2,e3,e4⟩:=wq1lm (ha c hm1) s key val any
  rw[wq3t,wq6l,dec_t (by omega),cond_true,inb_t (by omega) (by omega),cond_true,wq1,hc,e3,cond_true,e2,e4]
  have e5:(bif (bif b.1 == key then b.2.1 == val else false)then b.2.2.1 == any else false)=twinB b key val any:=rfl
  rw[e5]
  cases twinB b key val any with
  |true =>
   refine⟨pre++w,0,by simp,?_⟩
   simp only[cond_true,Bool.true_or]
   rw[D.rline h _ _ _ 7 rfl]
   rfl
  |false =>
   rw[Bool.false_or,cond_false,wqm (by omega) (by omega),show(x:Int)+1=((x+1:Nat):Int) by omega]
   exact wq114 D hL hg d pre w z i dom up h h5 key val any a hl ha K s (x+1) m hr (by omega) (by simp at hm;omega)
theorem wq1kv{k g:Nat}(D:Dk k nd)(hg:g≤8)(hL:RLst nd g k): RBr nd (g+1) (k+1):=by
 intro R d pre w z i dom up a K h hl ha
 have hk:=D.hk
 rw[FR_ref15_reader_branch,wqes]
 unfold wq7h
 rw[dec_f (show ¬ (9-((g+1:Nat):Int))>8 by omega),cond_false,List.length_append]
 by_cases h5:500≤pre.length+w.length
 ·rw[dec_t (show((pre.length+w.length:Nat):Int)≥500 by omega),dec_t h5]
  refine⟨pre++w,0,by simp,?_⟩
  simp only[cond_true]
  rw[D.rline h _ _ _ 9 rfl]
  rfl
 ·rw[dec_f (show ¬ ((pre.length+w.length:Nat):Int)≥500 by omega),dec_f h5,cond_false,cond_false,D.rknown h _ (by decide)]
  cases h1:knownR nd i [kwKey,wq132,kwRate,wq8g,kwDesc]with
  |er f =>
   refine⟨pre++w,0,by simp,?_⟩
   simp only[Rz.out,Rz.bind,Rz.run,rfail,nz_t (un_nz _) h1,cond_true]
  |ok _ =>
   simp only[Rz.out,Rz.bind,rfail,ok_b,cond_false]
   rw[D.rfind h]
   unfold mustR
   cases hf:findR nd i kwKey with
   |none =>
    refine⟨pre++w,0,by simp,?_⟩
    simp only[Bool.not_false,cond_true]
    rw[D.rline h _ _ _ 10 rfl]
    rfl
   |some kk =>
    simp only[Bool.not_true,cond_false,Rz.bind]
    rw[D.rname (D.find h hf)]
    cases h2:nameR nd kk with
    |er f =>
     refine⟨pre++w,0,by simp,?_⟩
     simp only[Rz.out,Rz.bind,Rz.run,rfail,nz_t (nz_tv _) h2,cond_true]
    |ok key =>
     simp only[Rz.out,Rz.bind,rfail,ok_b,cond_false]
     rw[D.rfind h]
     unfold valueR
     cases hv:findR nd i wq132 with
     |none=>exact wq114 D hL hg d pre w z i dom up h (by omega) key [] true a hl ha K a 0 k rfl (Nat.zero_le _) (by omega)
     |some j =>
      simp only[cond_true,optR]
      rw[D.rword (D.find h hv)]
      cases h3:wordR nd j with
      |er f =>
       refine⟨pre++w,0,by simp,?_⟩
       simp only[Rz.out,Rz.bind,Rz.run,rfail,nz_t (nz_tv _) h3,cond_true]
      |ok v =>
       simp only[Rz.out,Rz.bind,rfail,ok_b,cond_false]
       exact wq114 D hL hg d pre w z i dom up h (by omega) key v false a hl ha K a 0 k rfl (Nat.zero_le _) (by omega)
theorem rbr_0{k:Nat}(D:Dk k nd): RBr nd 0 (k+1):=by
 intro R d pre w z i dom up a K h hl ha
 rw[FR_ref15_reader_branch,wqes]
 unfold wq7h
 rw[dec_t (show(9-((0:Nat):Int))>8 by decide),cond_true]
 exact⟨pre++w,0,by simp,D.rline h _ _ _ 8 rfl _⟩
theorem wq18h{k g:Nat}(D:Dk k nd)(hB:RBr nd g k){R:Type}(d:Dm)(pre:List Br)(z:Nat)(j dom up:Int)(hj:InD nd j)(K:RKL R): ∀(s:List Int) (i m:Nat) (a:List Int) (w:List Br),(kidsR nd j).drop i=s→i≤(kidsR nd j).length→s.length+1<m→a.length=i→InA pre.length a w →
 ∃ b' q,pre.length≤b'.length∧wq2o k (wqz k) (FR_ref15_reader_branch k) m nd z d (pre++w) 0 0 j dom up (9-(g:Int)) a (i:Int) K=(foldR (wqes g nd z dom up pre.length) s a w).run (fun p=>K nd z d (pre++p.2) 0 0 p.1) (fun e f=>K nd z d b' e f q)
 |s,i,0,_,_,_,_,h,_,_=>by omega
 |[],i,m+1,a,w,hd,hil,hm,hal,ha=>by
  have:=wq2t hd
  obtain⟨l1,_⟩:=D.line hj
  refine⟨pre++w,[],by simp,?_⟩
  rw[wq2o,wq4f,l1,cond_true,D.kidsAt hj,dec_f (by omega),cond_false,cond_false];rfl
 |c::s,i,m+1,a,w,hd,hil,hm,hal,ha=>by
  obtain⟨hlt,hc,hr⟩:=wq10 hd
  obtain⟨l1,_⟩:=D.line hj
  have hlen:=D.kidsLen hj
  have hm1:c∈kidsR nd j:=by
   have:=hc 0
   rw[List.getD,List.getElem?_eq_getElem hlt]at this
   rw[←this];exact List.getElem_mem _
  rw[wq2o,wq4f,l1,cond_true,D.kidsAt hj,dec_t (by omega),cond_true,show((0:Int) == 0)=true from rfl,cond_true,cond_true,inb_t (by omega) (by omega),cond_true,wq1,hc]
  obtain⟨b',q,h1,e⟩:=hB R d pre w z c dom up a (fun y16 y17 y18 y19 y20 y21 y22=>cond (fits a.length (@List.length (@Kd.T kI) [y22]) 8) (wq2o k (wqz k) (FR_ref15_reader_branch k) m y16 y17 y18 y19 y20 y21 j dom up (9-(g:Int)) (a++[y22]) (IntKind.i64.wrap ((i:Int)+1)) K) none) (D.kids hj c hm1) (by omega) ha
  rw[e,foldR]
  have hf:∀ y:Int,fits a.length (@List.length (@Kd.T kI) [y]) 8=true:=fun y=>fits_a (by omega) 8 (by decide)
  cases hb:wqes g nd z dom up pre.length c a w with
  |er f =>
   refine⟨b',a++[q],h1,?_⟩
   simp only[Rz.run,Rz.bind]
   obtain⟨m',rfl⟩:∃ m',m=m'+1:=⟨m-1,by omega⟩
   have ef:(f.1 == 0)=false:=by
    have:=nz_t (wq155 _ _ _ _ _ _ _ _ _) hb
    simpa using this
   rw[hf,cond_true,wq2o,wq4f,l1,cond_true,D.kidsAt hj,ef]
   cases decide (IntKind.i64.wrap ((i:Int)+1)<((kidsR nd j).length:Int))<;>rfl
  |ok p =>
   obtain⟨h1,b,l,h2⟩:=wq1cs hb
   obtain⟨q,w'⟩:=p
   dsimp only at h1 h2
   subst h1 h2
   simp only[Rz.run,Rz.bind]
   rw[hf,cond_true,wqm (by omega) (by omega),show(i:Int)+1=((i+1:Nat):Int) by omega]
   exact wq18h D hB d pre z j dom up hj K s (i+1) m _ _ hr (by omega) (by simp at hm;omega) (by simp;omega) (wq1hi ha)
theorem wq1cv{k g:Nat}(D:Dk k nd)(hB:RBr nd g k): RLst nd g (k+1):=by
 intro R d pre z j dom up K h
 have hk:=D.hk
 rw[wqz]
 unfold wq8p lstN
 rw[D.rneed h]
 cases h1:needR nd j 2 with
 |er f =>
  refine⟨pre,[],Nat.le_refl _,?_⟩
  simp only[Rz.out,Rz.bind,Rz.run,rfail,nz_t (un_nz _) h1,cond_true]
 |ok _ =>
  simp only[Rz.out,Rz.bind,rfail,ok_b,cond_false]
  have hlen:=D.kidsLen h
  have e:=wq18h D hB d pre z j dom up h K (kidsR nd j) 0 k [] [] rfl (Nat.zero_le _) (by omega) rfl (wq1k0 _)
  rw[List.append_nil]at e
  exact e
theorem wq1k4(hn:nd.length≤4000)(ho:∀ x∈nd,okD x)(hc:checkS nd=true): ∀(g k:Nat),6002+2*g<k→g≤8→RLst nd g k
 |g,0,h,_=>by omega
 |0,1,h,_=>by omega
 |0,k+2,h,_=>wq1cv ⟨by omega,hn,ho,hc⟩ (rbr_0 ⟨by omega,hn,ho,hc⟩)
 |g+1,1,h,_=>by omega
 |g+1,k+2,h,hg=>wq1cv ⟨by omega,hn,ho,hc⟩ (wq1kv ⟨by omega,hn,ho,hc⟩ (by omega) (wq1k4 hn ho hc g k (by omega) (by omega)))
end
end Go.Proofs.YtabkhphoacmcdaaGreatDoor.Pvm
namespace Go.Proofs.YtabkhphoacmcdaaGreatDoor.Pvm
open Go
section
variable {nd:List Nd}
theorem wq133{k:Nat}(D:Dk k nd)(hL:RLst nd 8 k){R:Type}(d:Dm)(b:List Br)(z:Nat)(n j:Int)(h:InD nd n)(hj:InD nd j)(hd:d.length<16)(s:List UInt8)(K:List Nd→Nat→Dm→List Br→Int→Int→Option R): ∀(r:Dm) (x m:Nat),d.drop x=r→x≤d.length→r.length<m →
 ∃ d' b',wq3u k (@wqa k) (@wq1e k) (@wqx k) (@wqj k) (@wq24 k) (@wq3v k) m nd z d b 0 0 n j s (x:Int) K =
  (bif r.any (fun x=>x.1 == s)then .er (7,lineS nd j)else(listR 8 nd z (d.length:Int) (-1) b.length n).bind fun p => .ok ((s,p.1),p.2):Rz ((List UInt8×List Int)×List Br)).run (fun p=>K nd z (d++[p.1]) (b++p.2) 0 0) (fun e f=>K nd z d' b' e f)
 |r,x,0,_,_,hm=>by omega
 |[],x,m+1,hdr,hx,hm=>by
  have:=wq2t hdr
  have hf:fits d.length (@List.length (List UInt8×List Int) [(s,([]:List Int))]) 40=true:=fits_a (by omega) 40 (by decide)
  rw[wq3u,wq6m,dec_f (by omega),cond_false,hf,cond_true,D.rfind h,wq1hm]
  rw[show(([]:Dm).any fun x=>x.1 == s)=false from rfl,cond_false]
  cases hq:findR nd n kwDesc with
  |none =>
   refine⟨d,b,?_⟩
   show K nd z (d++[(s,[])]) b 0 0=K nd z (d++[(s,[])]) (b++[]) 0 0
   rw[List.append_nil]
  |some q =>
   simp only[cond_true]
   obtain⟨b',q',hb,e⟩:=hL R (d++[(s,[])]) b z q ((d.length:Nat):Int) (-1) (fun y16 y17 y18 y19 y20 y21 y22=>bif inb ((d.length:Nat):Int) (y18.length:Int)then @SH Dm R (List.set y18 ((d.length:Nat):Int).toNat ((y18.getD ((d.length:Nat):Int).toNat (Kd.zero (.pr .str (.sl kI)))).1,y22)) (fun y23=>K y16 y17 y23 y19 y20 y21)else none) (D.find h hq)
   refine⟨d++[(s,q')],b',Eq.trans e ?_⟩
   have hi:inb ((d.length:Nat):Int) ((d++[(s,([]:List Int))]).length:Int)=true:=inb_t (by omega) (by simp<;>omega)
   cases lstN 8 nd z ((d.length:Nat):Int) (-1) b.length q with
   |er f =>
    show(bif inb ((d.length:Nat):Int) ((d++[(s,([]:List Int))]).length:Int)then K nd z (List.set (d++[(s,[])]) ((d.length:Nat):Int).toNat (((d++[(s,[])]).getD ((d.length:Nat):Int).toNat (Kd.zero (.pr .str (.sl kI)))).1,q')) b' f.1 f.2 else none)=K nd z (d++[(s,q')]) b' f.1 f.2
    rw[hi,cond_true,wq1,wq1bd,wq1bc]
   |ok p =>
    show(bif inb ((d.length:Nat):Int) ((d++[(s,([]:List Int))]).length:Int)then K nd z (List.set (d++[(s,[])]) ((d.length:Nat):Int).toNat (((d++[(s,[])]).getD ((d.length:Nat):Int).toNat (Kd.zero (.pr .str (.sl kI)))).1,p.1)) (b++p.2) 0 0 else none)=K nd z (d++[(s,p.1)]) (b++p.2) 0 0
    rw[hi,cond_true,wq1,wq1bd,wq1bc]
 |c::r,x,m+1,hdr,hx,hm=>by
  obtain⟨hlt,hc,hr⟩:=wq10 hdr
  rw[wq3u,wq6m,dec_t (by omega),cond_true,inb_t (by omega) (by omega),cond_true,wq1,hc,List.any_cons]
  cases c.1 == s with
  |true =>
   refine⟨d,b,?_⟩
   simp only[cond_true,Bool.true_or]
   rw[D.rline hj _ _ _ 7 rfl]
   rfl
  |false =>
   rw[Bool.false_or,cond_false,wqm (by omega) (by omega),show(x:Int)+1=((x+1:Nat):Int) by omega]
   exact wq133 D hL d b z n j h hj hd s K r (x+1) m hr (by omega) (by simp at hm;omega)
theorem domRf{k:Nat}(D:Dk k nd)(hL:RLst nd 8 k){R:Type}(d:Dm)(b:List Br)(z:Nat)(n:Int)(h:InD nd n)(hd:d.length<16)(K:List Nd→Nat→Dm→List Br→Int→Int→Option R):
 ∃ d' b',wq2x k nd z d b 0 0 n K=(domR nd z d b.length n).run (fun p=>K nd z (d++[p.1]) (b++p.2) 0 0) (fun e f=>K nd z d' b' e f):=by
 have hk:=D.hk
 unfold wq2x wq9u domR
 rw[D.rknown h _ (by decide)]
 cases h1:knownR nd n [wqvl,kwDesc]with
 |er f =>
  refine⟨d,b,?_⟩
  simp only[Rz.out,Rz.bind,Rz.run,rfail,nz_t (un_nz _) h1,cond_true]
 |ok _ =>
  simp only[Rz.out,Rz.bind,rfail,ok_b,cond_false]
  rw[D.rfind h]
  unfold mustR
  cases hf:findR nd n wqvl with
  |none =>
   refine⟨d,b,?_⟩
   simp only[Bool.not_false,cond_true]
   rw[D.rline h _ _ _ 10 rfl]
   rfl
  |some j =>
   have hj:=D.find h hf
   simp only[Bool.not_true,cond_false,Rz.bind]
   rw[D.rname hj]
   cases h2:nameR nd j with
   |er f =>
    refine⟨d,b,?_⟩
    simp only[Rz.out,Rz.bind,Rz.run,rfail,nz_t (nz_tv _) h2,cond_true]
   |ok s =>
    simp only[Rz.out,Rz.bind,rfail,ok_b,cond_false]
    exact wq133 D hL d b z n j h hj hd s K d 0 k rfl (Nat.zero_le _) (by omega)
theorem wq18i{k:Nat}(D:Dk k nd)(hL:RLst nd 8 k){R:Type}(z:Nat)(j:Int)(hj:InD nd j)(K:List Nd→Nat→Dm→List Br→Int→Int→Option R): ∀(s:List Int) (i m:Nat) (d:Dm) (b:List Br),(kidsR nd j).drop i=s→i≤(kidsR nd j).length→s.length+1<m→d.length=i →
 ∃ d' b',wq30 k (@wqa k) (@wq1e k) (@wq6y k) (@wqx k) (@wq35 k) (@wqj k) (@wq2z k) (@wq2x k) m nd z d b 0 0 j (i:Int) K=(domsR nd z s d b).run (fun p=>K nd z p.1 p.2 0 0) (fun e f=>K nd z d' b' e f)
 |s,i,0,_,_,_,_,h,_=>by omega
 |[],i,m+1,d,b,hd,hil,hm,hdl=>by
  have:=wq2t hd
  obtain⟨l1,_⟩:=D.line hj
  refine⟨d,b,?_⟩
  rw[wq30,wq5o,l1,cond_true,D.kidsAt hj,dec_f (by omega)];rfl
 |c::s,i,m+1,d,b,hd,hil,hm,hdl=>by
  obtain⟨hlt,hc,hr⟩:=wq10 hd
  obtain⟨l1,_⟩:=D.line hj
  have hlen:=D.kidsLen hj
  have hm1:c∈kidsR nd j:=by
   have:=hc 0
   rw[List.getD,List.getElem?_eq_getElem hlt]at this
   rw[←this];exact List.getElem_mem _
  rw[wq30,wq5o,l1,cond_true,D.kidsAt hj,dec_t (by omega),cond_true,show((0:Int) == 0)=true from rfl,cond_true,inb_t (i:=(i:Int)) (by omega) (by omega),cond_true,cond_true,cond_true,wq1,hc,domsR]
  by_cases h16:16≤d.length
  ·rw[dec_t h16,dec_t (show(i:Int)≥16 by omega)]
   refine⟨d,b,?_⟩
   simp only[cond_true]
   rw[D.rline (D.kids hj c hm1) _ _ _ 9 rfl]
   rfl
  ·rw[dec_f h16,dec_f (show ¬ (i:Int)≥16 by omega),cond_false,cond_false]
   obtain⟨d',b',e⟩:=domRf D hL d b z c (D.kids hj c hm1) (by omega) (fun y12 y13 y14 y15 y16 y17=>wq30 k (@wqa k) (@wq1e k) (@wq6y k) (@wqx k) (@wq35 k) (@wqj k) (@wq2z k) (@wq2x k) m y12 y13 y14 y15 y16 y17 j (IntKind.i64.wrap ((i:Int)+1)) K)
   rw[e]
   cases hq:domR nd z d b.length c with
   |er f =>
    refine⟨d',b',?_⟩
    simp only[Rz.run,Rz.bind]
    obtain⟨m',rfl⟩:∃ m',m=m'+1:=⟨m-1,by omega⟩
    have ef:(f.1 == 0)=false:=by
     have:=nz_t (dom_nz _ _ _ _ _) hq
     simpa using this
    rw[wq30,wq5o,l1,cond_true,D.kidsAt hj,ef]
    cases decide (IntKind.i64.wrap ((i:Int)+1)<((kidsR nd j).length:Int))<;>rfl
   |ok p =>
    simp only[Rz.run,Rz.bind]
    rw[wqm (by omega) (by omega),show(i:Int)+1=((i+1:Nat):Int) by omega]
    exact wq18i D hL z j hj K s (i+1) m _ _ hr (by omega) (by simp at hm;omega) (by simp;omega)
theorem rootRf{k:Nat}(D:Dk k nd)(hL:RLst nd 8 k){R:Type}(z:Nat)(K:List Nd→Nat→Dm→List Br→Int→Int→Option R):
 ∃ d' b' z1 z2,wq9e k nd z [] [] 0 0 K=(rootR nd z08).run (fun p=>K nd z1 p.1 p.2 0 0) (fun e f=>K nd z2 d' b' e f):=by
 have hk:=D.hk
 have h:=in_0 D.hc
 unfold wq9e wqbf rootR
 rw[D.rknown h _ (by decide)]
 cases h1:knownR nd 0 [kwNear,wqer]with
 |er f =>
  refine⟨[],[],0,z,?_⟩
  simp only[Rz.out,Rz.bind,Rz.run,rfail,nz_t (un_nz _) h1,cond_true]
 |ok _ =>
  simp only[Rz.out,Rz.bind,rfail,ok_b,cond_false]
  rw[wq112 k _ (by decide) (by omega),rd_08]
  simp only[rdK]
  have main:∀ z:Nat,∃ d' b' z1 z2,wqx k nd 0 wqer (fun y33 y34=>bif !y34 then wqj k nd z [] [] 0 0 0 10 (fun y35 y36 y37 y38 y39 y40 y41=>K y35 y36 y37 y38 y39 y40)else wq2z k nd y33 2 (fun y35 y36=>wqa k nd z [] [] 0 0 y35 y36 (fun y37 y38 y39 y40 y41 y42 y43=>bif y43 then K y37 y38 y39 y40 y41 y42 else wq30 k (@wqa k) (@wq1e k) (@wq6y k) (@wqx k) (@wq35 k) (@wqj k) (@wq2z k) (@wq2x k) k y37 y38 y39 y40 y41 y42 y33 0 K))) =
   ((mustR nd 0 wqer).bind fun _=>(itemsR nd 0 wqer).bind fun its=>domsR nd z its [] []).run (fun p=>K nd z1 p.1 p.2 0 0) (fun e f=>K nd z2 d' b' e f):=by
   intro z
   rw[D.rfind h]
   unfold mustR itemsR
   cases hf:findR nd 0 wqer with
   |none =>
    refine⟨[],[],0,z,?_⟩
    simp only[Bool.not_false,cond_true]
    rw[D.rline h _ _ _ 10 rfl]
    rfl
   |some j =>
    have hj:=D.find h hf
    simp only[Bool.not_true,cond_false,Rz.bind,optR]
    rw[D.rneed hj]
    cases h2:needR nd j 2 with
    |er f =>
     refine⟨[],[],0,z,?_⟩
     simp only[Rz.out,Rz.bind,Rz.run,rfail,nz_t (un_nz _) h2,cond_true]
    |ok _ =>
     simp only[Rz.out,Rz.bind,rfail,ok_b,cond_false]
     have hlen:=D.kidsLen hj
     obtain⟨d',b',e⟩:=wq18i D hL z j hj K (kidsR nd j) 0 k [] [] rfl (Nat.zero_le _) (by omega) rfl
     exact⟨d',b',z,z,e⟩
  rw[D.rfind h]
  cases hn:findR nd 0 kwNear with
  |none=>exact main z08
  |some q =>
   simp only[cond_true,optR]
   rw[D.rrat (D.find h hn)]
   cases h3:ratR nd q with
   |er f =>
    refine⟨[],[],0,z08,?_⟩
    simp only[Rz.out,Rz.bind,Rz.run,rfail,nz_t (nz_tv _) h3,cond_true]
   |ok z =>
    simp only[Rz.out,Rz.bind,rfail,ok_b,cond_false]
    exact main z
theorem wq134{k:Nat}(hk:6100<k)(hn:nd.length≤4000)(ho:∀ x∈nd,okD x){R:Type}(K:Dm→List Br→Int→Int→Option R): wqki k nd K=(ofR nd).run (fun p=>K p.1 p.2 0 0) (K [] []):=by
 unfold wqki wq17u ofR
 rw[wq154 k nd hn ho (by omega)]
 cases hc:checkS nd with
 |false=>rfl
 |true =>
  have D:Dk k nd:=⟨by omega,hn,ho,hc⟩
  obtain⟨d',b',z1,z2,e⟩:=rootRf D (wq1k4 hn ho hc 8 k (by omega) (by omega)) 0 (fun y5 y6 y7 y8 y9 y10=>bif y9 != 0 then K [] [] y9 y10 else K y7 y8 0 0)
  refine Eq.trans e ?_
  cases hr:rootR nd z08 with
  |ok p=>rfl
  |er f =>
   show(bif f.1 != 0 then K [] [] f.1 f.2 else K d' b' 0 0)=K [] [] f.1 f.2
   rw[nz_t (wq1li _ _) hr,cond_true]
end
end Go.Proofs.YtabkhphoacmcdaaGreatDoor.Pvm
namespace Go.Proofs.YtabkhphoacmcdaaGreatDoor.Pvm
open Go
section
variable {nd:List Nd}
theorem wq1j0(ho:∀ x∈nd,okD x)(i:Int): (kidsR nd i).length≤4000:=by
 unfold kidsR ndAt
 cases inR nd i&&checkS nd with
 |false=>simp
 |true =>
  rw[cond_true]
  cases h:nd[i.toNat]? with
  |none=>simp
  |some x=>exact(ho x (List.mem_of_getElem? h)).2.2.1
theorem wq1cw(ho:∀ x∈nd,okD x){n:Int}{key:List UInt8}{its:List Int}(e:itemsR nd n key = .ok its): its.length≤4000:=by
 unfold itemsR at e
 cases hf:findR nd n key with
 |none=>rw[hf]at e;injection e with e;rw[←e];simp
 |some j =>
  rw[hf]at e
  obtain⟨_,_,e⟩:=wq6h e
  injection e with e
  rw[←e]
  exact wq1j0 ho j
def gB(x:Br): Prop:=x.2.2.2.2.2.2.2.length≤4000
def IW(b0:Nat)(w:List Br): Prop:=b0+w.length≤500∧∀ x∈w,gB x
theorem wq1bf{b0:Nat}{br:Int→List Int→List Br→Rz (Int×List Br)}(hb:∀ i a w p,br i a w = .ok p→IW b0 w→IW b0 p.2): ∀(s:List Int) (a:List Int) (w:List Br) (q:List Int×List Br),foldR br s a w = .ok q→IW b0 w→IW b0 q.2∧q.1.length=a.length+s.length
 |[],a,w,q,h,hw=>by injection h with h;rw[←h];exact⟨hw,rfl⟩
 |i::s,a,w,q,h,hw=>by
  rw[foldR]at h
  obtain⟨p,h1,h2⟩:=wq6h h
  obtain⟨h3,h4⟩:=wq1bf hb s _ _ q h2 (hb _ _ _ _ h1 hw)
  refine⟨h3,?_⟩
  rw[h4];simp;omega
theorem wq18j(ho:∀ x∈nd,okD x): ∀(g:Nat) (z:Nat) (dom up:Int) (b0:Nat) (i:Int) (a:List Int) (w:List Br) (p:Int×List Br),wqes g nd z dom up b0 i a w = .ok p→IW b0 w→IW b0 p.2
 |0,_,_,_,_,_,_,_,_,h,_=>by cases h
 |g+1,z,dom,up,b0,i,a,w,p,h,hw=>by
  unfold wqes at h
  obtain⟨h5,h⟩:=c_ok h
  have h5:=of_decide_eq_false h5
  obtain⟨_,_,h⟩:=wq6h h
  obtain⟨_,_,h⟩:=wq6h h
  obtain⟨_,_,h⟩:=wq6h h
  obtain⟨_,_,h⟩:=wq6h h
  obtain⟨_,h⟩:=c_ok h
  obtain⟨_,_,h⟩:=wq6h h
  obtain⟨_,_,h⟩:=wq6h h
  obtain⟨_,h⟩:=c_ok h
  obtain⟨q,hq,h⟩:=wq6h h
  injection h with h
  rw[←h]
  obtain⟨its,h1,h2⟩:=wq6h hq
  obtain⟨h3,h4⟩:=wq1bf (b0:=b0+w.length+1) (fun i a w p=>wq18j ho g z dom _ _ i a w p) its [] [] q h2 ⟨by simp;omega,fun x hx=>by cases hx⟩
  have h6:=wq1cw ho h1
  refine⟨?_,fun x hx => ?_⟩
  ·have:=h3.1
   rw[List.length_append,List.length_cons];omega
  ·rcases List.mem_append.1 hx with hx|hx
   ·exact hw.2 x hx
   ·rcases List.mem_cons.1 hx with rfl|hx
    ·show q.1.length≤4000
     rw[h4];simpa using h6
    ·exact h3.2 x hx
theorem wq1ln(ho:∀ x∈nd,okD x){z:Nat}{d:Dm}{b0:Nat}{n:Int}{p:(List UInt8×List Int)×List Br}(h:domR nd z d b0 n = .ok p)(hb:b0≤500): IW b0 p.2∧p.1.2.length≤4000:=by
 unfold domR at h
 obtain⟨_,_,h⟩:=wq6h h
 obtain⟨_,_,h⟩:=wq6h h
 obtain⟨_,_,h⟩:=wq6h h
 obtain⟨_,h⟩:=c_ok h
 obtain⟨q,hq,h⟩:=wq6h h
 injection h with h
 rw[←h]
 obtain⟨its,h1,h2⟩:=wq6h hq
 obtain⟨h3,h4⟩:=wq1bf (b0:=b0) (fun i a w p=>wq18j ho 8 z _ _ _ i a w p) its [] [] q h2 ⟨by simpa using hb,fun x hx=>by cases hx⟩
 have h6:=wq1cw ho h1
 exact⟨h3,by show q.1.length≤4000;rw[h4];simpa using h6⟩
structure Sm (d:Dm) (b:List Br):Prop where
 d1:d.length≤16
 d2:∀ x∈d,x.2.length≤4000
 b1:b.length≤500
 b2:∀ x∈b,gB x
theorem wq1hp(ho:∀ x∈nd,okD x){z:Nat}: ∀(s:List Int) (d:Dm) (b:List Br) (q:Dm×List Br),domsR nd z s d b = .ok q→Sm d b→Sm q.1 q.2
 |[],d,b,q,h,hs=>by injection h with h;rw[←h];exact hs
 |i::s,d,b,q,h,hs=>by
  rw[domsR]at h
  obtain⟨h16,h⟩:=c_ok h
  have h16:=of_decide_eq_false h16
  obtain⟨p,h1,h2⟩:=wq6h h
  obtain⟨h3,h4⟩:=wq1ln ho h1 hs.b1
  refine wq1hp ho s _ _ q h2 ⟨by simp;omega,fun x hx => ?_,by rw[List.length_append];exact h3.1,fun x hx => ?_⟩
  ·rcases List.mem_append.1 hx with hx|hx
   ·exact hs.d2 x hx
   ·rw[List.mem_singleton.1 hx];exact h4
  ·rcases List.mem_append.1 hx with hx|hx
   ·exact hs.b2 x hx
   ·exact h3.2 x hx
theorem sm_nil:Sm [] []:=⟨by simp,fun x hx=>(by cases hx),by simp,fun x hx=>(by cases hx)⟩
theorem of_sm(ho:∀ x∈nd,okD x){p:Dm×List Br}(h:ofR nd = .ok p): Sm p.1 p.2:=by
 unfold ofR at h
 cases hc:checkS nd with
 |false=>rw[hc]at h;cases h
 |true =>
  rw[hc,cond_true]at h
  unfold rootR at h
  obtain⟨_,_,h⟩:=wq6h h
  obtain⟨_,_,h⟩:=wq6h h
  obtain⟨_,_,h⟩:=wq6h h
  obtain⟨its,_,h⟩:=wq6h h
  exact wq1hp ho its [] [] p h sm_nil
end
theorem wq1hq(k:Nat){R:Type}(v:Nat)(K:Bool→Option R): wqih k v v K=K true:=by
 unfold wqih wq10e wqlj wq10d wq3f wqku
 cases h:fltIs .neq v v with
 |true=>rfl
 |false =>
  have e:fltC v v=some .eq:=by
   unfold fltIs at h
   simpa using h
  have e2:fltIs .lss v v=false:=by unfold fltIs;simp only[e];rfl
  have e3:fltIs .gtr v v=false:=by unfold fltIs;simp only[e];rfl
  unfold wq3h wqso wq56
  simp only[h,e2,e3,beq_self_eq_true,cond_true,cond_false]
theorem wq1cx(k:Nat){R:Type}(l:List Int)(hl:l.length≤4000)(K:Bool→Option R): ∀(s:List Int) (i m:Nat),l.drop i=s→i≤l.length→s.length<m→wq8b k m l l (i:Int) K=K true
 |s,i,0,_,_,h=>by omega
 |[],i,m+1,hd,hi,hm=>by
  have:=wq2t hd
  rw[wq8b,wqei,dec_f (by omega)];rfl
 |c::s,i,m+1,hd,hi,hm=>by
  obtain⟨hlt,hc,hr⟩:=wq10 hd
  rw[wq8b,wqei,dec_t (by omega),cond_true,inb_t (by omega) (by omega),cond_true,cond_true,wq1,hc,show(c != c)=false from by simp,cond_false,wqm (by omega) (by omega),show(i:Int)+1=((i+1:Nat):Int) by omega]
  exact wq1cx k l hl K s (i+1) m hr (by omega) (by simp at hm;omega)
theorem wq1cy(k:Nat)(hk:5000<k){R:Type}(l:List Int)(hl:l.length≤4000)(K:Bool→Option R): wqfo k l l K=K true:=by
 unfold wqfo wqv9
 rw[show((l.length:Int) != (l.length:Int))=false from by simp,cond_false]
 exact wq1cx k l hl K l 0 k rfl (Nat.zero_le _) (by omega)
theorem wq18k(k:Nat){R:Type}(r1:List UInt8)(r2 r3:Int)(r4:Nat)(r5 r6:Bool)(K:Bool→Option R): wq9x k r1 r2 r3 r4 r5 r6 r1 r2 r3 r4 r5 r6 K=K true:=by
 unfold wq9x wqo2
 simp only[beq_self_eq_true,cond_true]
 exact wq1hq k r4 K
theorem same_b(k:Nat)(hk:5000<k){R:Type}(d:Dm)(b:List Br)(hs:Sm d b)(K:Bool→Option R): ∀(s:List Br) (i m:Nat),b.drop i=s→i≤b.length→s.length<m→wq5x k m d b d b (i:Int) K=K true
 |s,i,0,_,_,h=>by omega
 |[],i,m+1,hd,hi,hm=>by
  have:=wq2t hd
  rw[wq5x,wq8z,dec_f (by omega)];rfl
 |c::s,i,m+1,hd,hi,hm=>by
  obtain⟨hlt,hc,hr⟩:=wq10 hd
  have:=hs.b1
  have hm1:c∈b:=by
   have:=hc (Kd.zero kBr)
   rw[List.getD,List.getElem?_eq_getElem hlt]at this
   rw[←this];exact List.getElem_mem _
  rw[wq5x,wq8z,dec_t (by omega),cond_true,inb_t (by omega) (by omega),cond_true,cond_true,wq1,hc]
  have hn:∀ a:Int,(a != a)=false:=fun a=>by simp
  simp only[beq_self_eq_true,hn,Bool.not_true,cond_false,cond_true]
  rw[wq18k]
  simp only[Bool.not_true,beq_self_eq_true,cond_true]
  rw[wq1cy k hk _ (hs.b2 c hm1)]
  simp only[Bool.not_true,cond_false]
  rw[wqm (by omega) (by omega),show(i:Int)+1=((i+1:Nat):Int) by omega]
  exact same_b k hk d b hs K s (i+1) m hr (by omega) (by simp at hm;omega)
theorem same_d(k:Nat)(hk:5000<k){R:Type}(d:Dm)(b:List Br)(hs:Sm d b)(K:Bool→Option R): ∀(s:Dm) (i m:Nat),d.drop i=s→i≤d.length→s.length<m→wq7b k m d b d b (i:Int) K=K true
 |s,i,0,_,_,h=>by omega
 |[],i,m+1,hd,hi,hm=>by
  have:=wq2t hd
  have:=hs.b1
  rw[wq7b,wqaw,dec_f (by omega),cond_false]
  exact same_b k hk d b hs K b 0 k rfl (Nat.zero_le _) (by omega)
 |c::s,i,m+1,hd,hi,hm=>by
  obtain⟨hlt,hc,hr⟩:=wq10 hd
  have:=hs.d1
  have hm1:c∈d:=by
   have:=hc ([],[])
   rw[List.getD,List.getElem?_eq_getElem hlt]at this
   rw[←this];exact List.getElem_mem _
  rw[wq7b,wqaw,dec_t (by omega),cond_true,inb_t (by omega) (by omega),cond_true,cond_true,wq1,hc]
  simp only[beq_self_eq_true,Bool.not_true,Bool.not_false,Bool.or_true,cond_true]
  rw[wq1cy k hk _ (hs.d2 c hm1)]
  simp only[Bool.not_true,cond_false]
  rw[wqm (by omega) (by omega),show(i:Int)+1=((i+1:Nat):Int) by omega]
  exact same_d k hk d b hs K s (i+1) m hr (by omega) (by simp at hm;omega)
theorem wq1cz(k:Nat)(hk:5000<k){R:Type}(d:Dm)(b:List Br)(hs:Sm d b)(K:Bool→Option R): wqai k d b d b K=K true:=by
 have:=hs.d1
 unfold wqai wqrb
 have hn:∀ a:Int,(a != a)=false:=fun a=>by simp
 rw[hn,hn,cond_false,cond_false]
 exact same_d k hk d b hs K d 0 k rfl (Nat.zero_le _) (by omega)
end Go.Proofs.YtabkhphoacmcdaaGreatDoor.Pvm
namespace Go.Proofs.YtabkhphoacmcdaaGreatDoor.Pvm
open Go
def mn(n:Nat): Nat:=if 4001<n then 4001 else n
theorem mn_eq(n:Nat): (if(4001:Int)<(n:Int)then 4001 else(n:Int))=(mn n:Int):=by
 unfold mn
 split<;>split<;>omega
def hvK:Nat→List (List UInt8)→Nat
 |a,[]=>a
 |a,q::r=>if a≤4000 then hvK (a+mn q.length) r else a
def hvN:Nat→List Nd→Nat
 |a,[]=>a
 |a,x::r=>if a≤4000 then hvN (hvK (a+mn x.2.2.1.length+mn x.2.2.2.2.1.length+mn x.2.2.2.2.2.length) x.2.2.2.2.1) r else a
theorem mn_le(n:Nat): mn n≤4001:=by unfold mn;split<;>omega
theorem mn_ok{n:Nat}(h:mn n≤4000): n≤4000:=by unfold mn at h;split at h<;>omega
theorem hvK_le:∀(r:List (List UInt8)) (a:Nat),a≤hvK a r∧hvK a r≤max a 8001
 |[],a=>by rw[hvK];omega
 |q::r,a=>by
  rw[hvK]
  have h0:=mn_le q.length
  split
  ·have:=hvK_le r (a+mn q.length)
   omega
  ·omega
theorem hvK_ok:∀(r:List (List UInt8)) (a:Nat),hvK a r≤4000→∀ q∈r,q.length≤4000
 |[],a,_,q,hq=>by cases hq
 |x::r,a,h,q,hq=>by
  have ha:=(hvK_le (x::r) a).1
  have ha:a≤4000:=by omega
  rw[hvK,if_pos ha]at h
  have hb:=(hvK_le r (a+mn x.length)).1
  rcases List.mem_cons.1 hq with rfl|hq
  ·exact mn_ok (by omega)
  ·exact hvK_ok r _ h q hq
theorem hvN_le:∀(r:List Nd) (a:Nat),a≤hvN a r
 |[],a=>by rw[hvN];omega
 |x::r,a=>by
  rw[hvN]
  split
  ·have h1:=hvN_le r (hvK (a+mn x.2.2.1.length+mn x.2.2.2.2.1.length+mn x.2.2.2.2.2.length) x.2.2.2.2.1)
   have h2:=(hvK_le x.2.2.2.2.1 (a+mn x.2.2.1.length+mn x.2.2.2.2.1.length+mn x.2.2.2.2.2.length)).1
   omega
  ·omega
theorem hvN_ok:∀(r:List Nd) (a:Nat),hvN a r≤4000→a≤4000∧∀ x∈r,okD x
 |[],a,h=>⟨by rw[hvN]at h;exact h,fun x hx=>by cases hx⟩
 |y::r,a,h=>by
  have ha:=hvN_le (y::r) a
  have ha:a≤4000:=by omega
  rw[hvN,if_pos ha]at h
  obtain⟨h1,h2⟩:=hvN_ok r _ h
  have h3:=(hvK_le y.2.2.2.2.1 (a+mn y.2.2.1.length+mn y.2.2.2.2.1.length+mn y.2.2.2.2.2.length)).1
  refine⟨by omega,fun x hx => ?_⟩
  rcases List.mem_cons.1 hx with rfl|hx
  ·exact⟨mn_ok (by omega),mn_ok (by omega),mn_ok (by omega),hvK_ok _ _ h1⟩
  ·exact h2 x hx
theorem wq18l(k:Nat){R:Type}(J:List Nd→Int→Int→Option R)(K:Bool→Option R)(nd:List Nd)(i:Nat)(hi:i≤140737488351232)(s3 s4:Int)(s5:List UInt8)(s6:Bool)(keys:List (List UInt8))(hk:keys.length≤140737488351232)(s8:List Int):
 ∀(p:List (List UInt8)) (j m a:Nat),keys.drop j=p→p.length<m→j≤keys.length→a≤100000→wq57 k J m nd (a:Int) (i:Int) s3 s4 s5 s6 keys s8 (j:Int) K=J nd (hvK a p:Int) ((i+1:Nat):Int)
 |p,j,0,a,_,h,_,_=>by omega
 |[],j,m+1,a,hp,h,hj,ha=>by
  have h1:=wq2t hp
  rw[wq57,wqc4]
  simp(disch:=omega)only[dec_t,dec_f,ieq_t,ieq_f,ine_t,ine_f,inb_t,bnd_t,wqm,wqn,cond_true,cond_false,Bool.not_true,Bool.not_false,Bool.true_or,Bool.or_true,Bool.false_or,Bool.or_false,Bool.true_and,Bool.and_true,Bool.false_and,Bool.and_false,wq2,wq0,wq1,wq33]
  rw[hvK]
 |q::p,j,m+1,a,hp,h,hj,ha=>by
  obtain⟨h1,h2,h3⟩:=wq10 hp
  rw[wq57,wqc4,hvK]
  by_cases hc:a≤4000
  ·have h0:=mn_le q.length
   rw[if_pos hc]
   simp(disch:=omega)only[dec_t,dec_f,ieq_t,ieq_f,ine_t,ine_f,inb_t,bnd_t,wqm,wqn,cond_true,cond_false,Bool.not_true,Bool.not_false,Bool.true_or,Bool.or_true,Bool.false_or,Bool.or_false,Bool.true_and,Bool.and_true,Bool.false_and,Bool.and_false,wq2,wq0,wq1,h2,wq33,mn_eq,wqrm]
   exact wq18l k J K nd i hi s3 s4 s5 s6 keys hk s8 p (j+1) m (a+mn q.length) h3 (by simp at h;omega) (by omega) (by omega)
  ·rw[if_neg hc]
   simp(disch:=omega)only[dec_t,dec_f,ieq_t,ieq_f,ine_t,ine_f,inb_t,bnd_t,wqm,wqn,cond_true,cond_false,Bool.not_true,Bool.not_false,Bool.true_or,Bool.or_true,Bool.false_or,Bool.or_false,Bool.true_and,Bool.and_true,Bool.false_and,Bool.and_false,wq2,wq0,wq1,wq33]
theorem wq18m(k:Nat){R:Type}(K:Bool→Option R)(nd:List Nd)(hn:nd.length≤140737488351232)(ho:∀ x∈nd,x.2.2.2.2.1.length≤140737488351232∧x.2.2.2.2.1.length<k):
 ∀(p:List Nd) (i m a:Nat),nd.drop i=p→p.length<m→i≤nd.length→a≤140737488351232→wq66 k m nd (a:Int) (i:Int) K=K (decide (hvN a p>4000))
 |p,i,0,a,_,h,_,_=>by omega
 |[],i,m+1,a,hp,h,hi,ha=>by
  have h1:=wq2t hp
  rw[wq66,wq9y,hvN]
  simp(disch:=omega)only[dec_t,dec_f,ieq_t,ieq_f,ine_t,ine_f,inb_t,bnd_t,wqm,wqn,cond_true,cond_false,Bool.not_true,Bool.not_false,Bool.true_or,Bool.or_true,Bool.false_or,Bool.or_false,Bool.true_and,Bool.and_true,Bool.false_and,Bool.and_false,wq2,wq0,wq1]
  congr 1
  rw[Bool.eq_iff_iff];simp;omega
 |x::p,i,m+1,a,hp,h,hi,ha=>by
  obtain⟨h1,h2,h3⟩:=wq10 hp
  obtain⟨o1,o2⟩:=ho x (List.mem_of_mem_drop (by rw[hp];simp))
  rw[wq66,wq9y,hvN]
  by_cases hc:a≤4000
  ·have m1:=mn_le x.2.2.1.length
   have m2:=mn_le x.2.2.2.2.1.length
   have m3:=mn_le x.2.2.2.2.2.length
   have m4:=hvK_le x.2.2.2.2.1 (a+mn x.2.2.1.length+mn x.2.2.2.2.1.length+mn x.2.2.2.2.2.length)
   rw[if_pos hc]
   simp(disch:=omega)only[dec_t,dec_f,ieq_t,ieq_f,ine_t,ine_f,inb_t,bnd_t,wqm,wqn,cond_true,cond_false,Bool.not_true,Bool.not_false,Bool.true_or,Bool.or_true,Bool.false_or,Bool.or_false,Bool.true_and,Bool.and_true,Bool.false_and,Bool.and_false,wq2,wq0,wq1,h2,wq33,mn_eq,wqrm]
   refine Eq.trans (wq18l k _ K nd i (by omega) _ _ _ _ x.2.2.2.2.1 o1 _ x.2.2.2.2.1 0 k _ rfl o2 (by omega) (by omega)) ?_
   exact wq18m k K nd hn ho p (i+1) m _ h3 (by simp at h;omega) (by omega) (by omega)
  ·rw[if_neg hc]
   simp(disch:=omega)only[dec_t,dec_f,ieq_t,ieq_f,ine_t,ine_f,inb_t,bnd_t,wqm,wqn,cond_true,cond_false,Bool.not_true,Bool.not_false,Bool.true_or,Bool.or_true,Bool.false_or,Bool.or_false,Bool.true_and,Bool.and_true,Bool.false_and,Bool.and_false,wq2,wq0,wq1]
theorem wq1kw(k:Nat){R:Type}(K:Bool→Option R)(nd:List Nd)(hn:nd.length≤140737488351232)(hk:nd.length<k)(ho:∀ x∈nd,x.2.2.2.2.1.length≤140737488351232∧x.2.2.2.2.1.length<k): wqds k nd K=K (decide (hvN nd.length nd>4000)):=by
 unfold wqds wqo3
 exact wq18m k K nd hn ho nd 0 k nd.length rfl hk (by omega) hn
def bigK:List Nd→Nat
 |[]=>0
 |x::r=>x.2.2.2.2.1.length+bigK r
theorem wq1hr:∀ {r:List Nd} {x:Nd},x∈r→x.2.2.2.2.1.length≤bigK r
 |y::r,x,h=>by
  rw[bigK]
  rcases List.mem_cons.1 h with rfl|h
  ·omega
  ·have:=wq1hr h;omega
theorem nd_wf{nd:List Nd}(h:Wf (.sl kNd) nd): nd.length≤140737488351232∧∀ x∈nd,x.2.2.2.2.1.length≤140737488351232:=by
 obtain⟨h1,h2⟩:=h
 have e1:kNd.lob=81:=rfl
 have e2:Kd.lob .str=16:=rfl
 rw[e1]at h1
 refine⟨by omega,fun x hx => ?_⟩
 obtain⟨_,_,_,_,h3,_⟩:=h2 x hx
 have h4:=h3.1
 rw[e2]at h4
 have h5:x.2.2.2.2.1.length*16≤140737488351232:=h4
 omega
end Go.Proofs.YtabkhphoacmcdaaGreatDoor.Pvm
set_option maxRecDepth 1000000
namespace Go.Proofs.YtabkhphoacmcdaaGreatDoor.Pvm
open Go Go.Proofs
theorem awk17(k:Nat){R:Type}(K:Bool→Option R): wqdr (k+300) K=K true:=by kernel_rfl
theorem wq18n(k:Nat)(hA:∀ K:Bool→Option Bool,wqdr k K=K true)(x:List Nd)(hk:7000+x.length+bigK x<k)(hx:x.length≤140737488351232∧∀ z∈x,z.2.2.2.2.1.length≤140737488351232): wq6b k x (fun b=>some b)=some true:=by
 unfold wq6b wqfu
 rw[wq1kw k _ x hx.1 (by omega) (fun z hz=>⟨hx.2 z hz,by have:=wq1hr hz;omega⟩)]
 by_cases hv:hvN x.length x>4000
 ·rw[dec_t hv,cond_true];exact hA _
 ·rw[dec_f hv,cond_false]
  obtain⟨hn,ho⟩:=hvN_ok x x.length (by omega)
  rw[wq1be (by omega) hn ho]
  cases h:ofR x with
  |ok p =>
   simp only[Rz.run]
   rw[wq134 (by omega) hn ho,h]
   simp only[Rz.run]
   rw[wq1cz k (by omega) _ _ (of_sm ho h)]
   simp only[beq_self_eq_true,Bool.and_self,cond_true]
   exact hA _
  |er f =>
   simp only[Rz.run]
   rw[wq134 (by omega) hn ho,h]
   simp only[Rz.run]
   rw[wq1cz k (by omega) _ _ sm_nil]
   simp only[beq_self_eq_true,Bool.and_self,cond_true]
   exact hA _
theorem wq156(x:List Nd)(hx:x.length≤140737488351232∧∀ z∈x,z.2.2.2.2.1.length≤140737488351232): ∃ k,wq6b k x (fun b=>some b)=some true:=by
 obtain⟨k,hk⟩:∃ k,k=7000+x.length+bigK x:=⟨_,rfl⟩
 exact⟨k+300,wq18n (k+300) (fun K=>awk17 k K) x (by omega) hx⟩
theorem wq11z(x:(Kd.sl (.pr (.int .i64) (.pr (.int .i64) (.pr .str (.pr .bool (.pr (.sl .str) (.sl (.int .i64)))))))).T)(hx:Wf (.sl (.pr (.int .i64) (.pr (.int .i64) (.pr .str (.pr .bool (.pr (.sl .str) (.sl (.int .i64)))))))) x): ∃ k,wq6b k x (fun b=>some b)=some true:=wq156 x (nd_wf hx)
end Go.Proofs.YtabkhphoacmcdaaGreatDoor.Pvm
namespace Go.Proofs.YtabkhphoacmcdaaGreatDoor.configDocs
open Go Go.Proofs Go.ChangeShapes Go.WideShapes Go.ChangeAt Go.RowKit Go.Proofs.YtabkhphoacmcdaaGreatDoor.Pvm
theorem own:ownKnob Tryz.prog.godebug=none:=by kernel_rfl
theorem laidOut:laidOutB Tryz.prog=true:=by kernel_rfl
set_option maxRecDepth 100000 in
theorem lifted(os:Os)(started:os.Started)(H:Type)(enc:TypeId×Value→H):
 ReturnsInHanded {} Tryz.checked os 4 .any (fun w args=>(Rows.configDocsSpec.pre enc Tryz.prog Tryz.f4 Rows.configDocsRow.domain false w args∧laidMetH Tryz.prog Rows.configDocsRow.laid w)∧sizedMet enc Tryz.prog Tryz.f4 (OpenSpec.ofChange Rows.configDocsSpec) false w args) (Rows.configDocsSpec.post enc Tryz.prog Tryz.f4 false true false false):=by
 refine returnsInHanded_of_change_and (C:=Tryz.checked) (X:=fun w _=>laidMetH Tryz.prog Rows.configDocsRow.laid w) (fun _ _ _ hh h=>h.of_heap hh) own started (by kernel_rfl) Tryz.func4
  (ChangeSpec.witness_shaped (enc:=enc) (C:=Tryz.checked) (os:=os) (X:=fun w _=>laidMetH Tryz.prog Rows.configDocsRow.laid w) false (World.laidAll Tryz.prog os Rows.configDocsRow.laid) #[.agg #[.slice none 0 0]] 8 (World.laidAll_os _ _ _)
   (World.shaped_of_ZipB (by kernel_rfl) (by kernel_rfl)) (by kernel_rfl) (by kernel_rfl) (by kernel_rfl)
   (by rw[MakeChecks.laidMetH_plain _ _ _ (by kernel_rfl)];exact laidMet_laidAll _ (by kernel_rfl) (by kernel_rfl))) ?_
 intro W base args ds gs before hval0 hW hcnd hsz0 hL _
 have hsz:(DataW.weightsEach Tryz.prog (Tryz.f4.params.toList++Rows.configDocsSpec.plain.varTypes Tryz.prog) (ds++gs)).all (· ≤ reachBytes)=true:=hsz0
 have hval:∀(j:Nat) t v,Tryz.f4.params[j]? = some t→args[j]? = some v→Value.okWide Tryz.prog W .any base t v:=hval0
 have hW':=hW
 obtain⟨p,q,hA0,hV,rfl,hfz,hnd⟩:=hW
 have hA:DataW.TrodAll enc Tryz.prog W 0 (fun _=>true) true Tryz.f4.params.toList args.toList ds p:=hA0
 rw[Tryz.params4]at hA hval hsz
 obtain⟨v0,vs0,d0,ds0,p0,q0,hargs,rfl,rfl,h0,r0⟩:=trodAll_cons hA
 obtain⟨rfl,rfl,rfl⟩:=trodAll_nil r0
 obtain rfl:args = #[v0]:=by cases args;simp_all
 obtain⟨rfl,rfl⟩:=trodVars_none hV
 have hws:=wq1g2 (P:=Tryz.prog) hsz
 have k0:=h0
 have lt0:∀ x∈p0,x.block<W.heap.size:=by obtain⟨m,hm⟩:=k0;exact DataW.trod_lt m _ _ _ hm
 obtain⟨x0,wf0,rv0⟩:=wq1g1 tyT_ok (n:=9) (K:=(.sl (.pr (.int .i64) (.pr (.int .i64) (.pr .str (.pr .bool (.pr (.sl .str) (.sl (.int .i64))))))))) (by kernel_rfl) (by kernel_rfl) (hval 0 38 v0 rfl rfl) h0 (hws 0 38 d0 rfl rfl) (h:=mkH []) (G:=G0) (fun _=>rfl) (fun _ h=>h)
 obtain⟨k,hk⟩:=wq11z x0 wf0
 have hrun:h_law17_ConfigDocs.run (@wq6b k) [.agg (Kd.cells (.sl (.pr (.int .i64) (.pr (.int .i64) (.pr .str (.pr .bool (.pr (.sl .str) (.sl (.int .i64)))))))) x0)] [] lawK=some true:=(show _=wq6b k x0 (fun b=>some b) by kernel_rfl).trans hk
 refine(wq1c4 (fn:=Tryz.f4) (c:=Tryz.f4.body.getD .skip) (by kernel_rfl) (by kernel_rfl) (by kernel_rfl) (wqvi k _ _ _ _ _ hrun) (vals:=[v0]) ⟨v0,_,rfl,rv0,rfl⟩).mono fun e W' ⟨he,bel⟩ => ?_
 subst he
 exact⟨_,rfl,_,_,_,[],_,[],hW',trodAll_mk1 (shut_bool Tryz.underlying4 _),(trodAll_cons_mk (Below.trod laidOut (by kernel_rfl) (of_decide_eq_true (by kernel_rfl)) k0 bel lt0) trodAll_mk0),rfl,bel.frame _,fun h=>by cases h⟩
theorem over:Rows.configDocsRow.holds Tryz.pinned (OpenSpec.ofChange Rows.configDocsSpec) :=
 OpenClaim.holds_of_wide 4 Tryz.f4 rfl rfl rfl rfl rfl rfl rfl ⟨rfl,rfl,rfl,rfl,rfl⟩ rfl rfl rfl rfl rfl (by kernel_rfl) Tryz.func4 (by kernel_rfl)
  (of_decide_eq_true (by kernel_rfl)) (by unfold Func.isWrapper;first|(rw[if_pos (by decide +kernel)];kernel_rfl)|(rw[if_neg (by decide +kernel)];exact⟨rfl,rfl⟩))
  (fun os started H enc _=>lifted os started H enc)
theorem tied:Rows.ConfigDocsCardSaid :=
 Claim7.holds_tied_plain_at .later [] [.data,.pinned] true (true,"c61b158f2341520057692774128471b7c7a277b548e973e80533808263959f4a") true over (fun _ h=>by cases h) (by kernel_rfl) (fun _ h=>by cases h) configDocs_row_tie rfl ⟨rfl,rfl⟩ (by kernel_rfl) rfl
  (fun f fn hf hfn=>by
   obtain rfl:f=4:=Option.some.inj ((show Tryz.prog.funcNamed Rows.configDocsRow.func=some 4 by kernel_rfl).symm.trans hf) |>.symm
   obtain rfl:fn=Tryz.f4:=(Option.some.inj (Tryz.func4.symm.trans hfn)).symm
   exact⟨by kernel_rfl,fun j t ht=>by
    rw[Tryz.params4]at ht
    have hm:t∈[38]:=by simpa using Array.mem_of_getElem? ht
    have hall:([38].all fun u => !Tryz.prog.wantsStandIn u)=true:=by kernel_rfl
    exact(show Tryz.prog.wantsStandIn t=false by simpa using List.all_eq_true.1 hall t hm)⟩)
  (by kernel_rfl)
#print axioms tied
end Go.Proofs.YtabkhphoacmcdaaGreatDoor.configDocs
namespace Go.Proofs.YtabkhphoacmcdaaGreatDoor
theorem configDocs_holds:Rows.ConfigDocsCardSaid:=configDocs.tied
end Go.Proofs.YtabkhphoacmcdaaGreatDoor
end
