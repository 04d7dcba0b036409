/- The Go function ConfigMade returns true for every slice of numbers and all numbers at, how and to. -/
import Derived.KernelRfl
import Derived.Test.YtabkhphoacmcdaaGreatDoorCards
import Derived.Test.YtabkhphoacmcdaaGreatDoorTie
import Derived.LaidMore
import Derived.Lay
import Derived.SevenTiedAt
import Derived.Stop.Joined
import Derived.Test.YtabkhphoacmcdaaGreatDoorRows
import Derived.Test.YtabkhphoacmcdaaGreatDoorConfigMadeM0
import Derived.Test.YtabkhphoacmcdaaGreatDoorConfigMadeM1
import Derived.Test.YtabkhphoacmcdaaGreatDoorConfigMadeM2
import Derived.Test.YtabkhphoacmcdaaGreatDoorConfigMadeM3
import Derived.Test.YtabkhphoacmcdaaGreatDoorConfigMadeM4
set_option linter.unusedVariables false
set_option linter.unusedSimpArgs false
set_option linter.unusedSectionVars false
noncomputable section
set_option maxRecDepth 1000000
set_option maxHeartbeats 0
namespace Go.Proofs.YtabkhphoacmcdaaGreatDoor.Pvm
open Go Go.Proofs
abbrev wq113:Type 1:=(R:Type)→(List dT72)→Int→Int→(Int→Int→Option R)→Option R
def wq146(k:Nat){R:Type}(x0:(List dT72))(x1 x2:Int)(K:(Int→Int→Option R)): Option R:=cond (inb x1 (x0.length:Int)) (cond ((x0.getD x1.toNat kdT72.zero).1 != x2) (wq6t k x0 x1 11 K) (K 0 0)) none
def wqsk:=@wq146
abbrev wqe2:Type 1:=(R:Type)→(List dT72)→Int→(List (List UInt8))→(Int→Int→Option R)→Option R
def wqqw(k:Nat){R:Type}(E1009:((List (List UInt8))→(List dT72)→Int→Int→Int→Int→(List UInt8)→Bool→(List (List UInt8))→(List Int)→Int→Bool→Int→Option R))(s0:(List (List UInt8)))(s1:(List dT72))(s2 s3 s4 s5:Int)(s6:(List UInt8))(s7:Bool)(s8:(List (List UInt8)))(s9:(List Int))(s10:Int)(K:(Int→Int→Option R)): Option R:=cond (decide (s10<(s8.length:Int))) (E1009 s0 s1 s2 s3 s4 s5 s6 s7 s8 s9 s10 false 0) (K 0 0)
def wqqx(k:Nat){R:Type}(E1005:((List (List UInt8))→(List dT72)→Int→Int→Int→Int→(List UInt8)→Bool→(List (List UInt8))→(List Int)→Int→Option R))(E1009:((List (List UInt8))→(List dT72)→Int→Int→Int→Int→(List UInt8)→Bool→(List (List UInt8))→(List Int)→Int→Bool→Int→Option R))(s0:(List (List UInt8)))(s1:(List dT72))(s2 s3 s4 s5:Int)(s6:(List UInt8))(s7:Bool)(s8:(List (List UInt8)))(s9:(List Int))(s10:Int)(s11:Bool)(s12:Int)(K:(Int→Int→Option R)): Option R:=cond (decide (s12<(s0.length:Int))) (cond ((!(s11 == false)) || (inb s12 (s0.length:Int))) (cond ((!(s11 == false)) || (inb s10 (s8.length:Int))) (E1009 s0 s1 s2 s3 s4 s5 s6 s7 s8 s9 s10 (cond s11 true ((s0.getD s12.toNat Kd.str.zero) == (s8.getD s10.toNat Kd.str.zero))) (@Go.IntKind.wrap Go.IntKind.i64 (s12+1))) none) none) (cond (!s11) (cond (inb s10 (s9.length:Int)) (wq6t k s1 (s9.getD s10.toNat kI.zero) 5 K) none) (E1005 s0 s1 s2 s3 s4 s5 s6 s7 s8 s9 (@Go.IntKind.wrap Go.IntKind.i64 (s10+1))))
def wq114(k:Nat){R:Type}(E1005:((List (List UInt8))→(List dT72)→Int→Int→Int→Int→(List UInt8)→Bool→(List (List UInt8))→(List Int)→Int→Option R))(x0:(List dT72))(x1:Int)(x2:(List (List UInt8)))(K:(Int→Int→Option R)): Option R:=cond (inb x1 (x0.length:Int)) (cond ((x0.getD x1.toNat kdT72.zero).1 != 3) (wq6t k x0 x1 11 K) (E1005 x2 x0 0 0 (x0.getD x1.toNat kdT72.zero).1 ((x0.getD x1.toNat kdT72.zero).2).1 (((x0.getD x1.toNat kdT72.zero).2).2).1 ((((x0.getD x1.toNat kdT72.zero).2).2).2).1 (((((x0.getD x1.toNat kdT72.zero).2).2).2).2).1 (((((x0.getD x1.toNat kdT72.zero).2).2).2).2).2 0)) none
def wqhs(k:Nat){R:Type}(J1005:((List (List UInt8))→(List dT72)→Int→Int→Int→Int→(List UInt8)→Bool→(List (List UInt8))→(List Int)→Int→Option R)): Nat→(List (List UInt8))→(List dT72)→Int→Int→Int→Int→(List UInt8)→Bool→(List (List UInt8))→(List Int)→Int→Bool→Int→(Int→Int→Option R)→Option R
 |0,_,_,_,_,_,_,_,_,_,_,_,_,_,_=>none
 |n+1,s0,s1,s2,s3,s4,s5,s6,s7,s8,s9,s10,s11,s12,K=>wqqx k J1005 (fun s0 s1 s2 s3 s4 s5 s6 s7 s8 s9 s10 s11 s12=>wqhs k J1005 n s0 s1 s2 s3 s4 s5 s6 s7 s8 s9 s10 s11 s12 K) s0 s1 s2 s3 s4 s5 s6 s7 s8 s9 s10 s11 s12 K
def wqht(k:Nat){R:Type}: Nat→(List (List UInt8))→(List dT72)→Int→Int→Int→Int→(List UInt8)→Bool→(List (List UInt8))→(List Int)→Int→(Int→Int→Option R)→Option R
 |0,_,_,_,_,_,_,_,_,_,_,_,_=>none
 |n+1,s0,s1,s2,s3,s4,s5,s6,s7,s8,s9,s10,K=>wqqw k (fun s0 s1 s2 s3 s4 s5 s6 s7 s8 s9 s10 s11 s12=>wqhs k (fun s0 s1 s2 s3 s4 s5 s6 s7 s8 s9 s10=>wqht k n s0 s1 s2 s3 s4 s5 s6 s7 s8 s9 s10 K) k s0 s1 s2 s3 s4 s5 s6 s7 s8 s9 s10 s11 s12 K) s0 s1 s2 s3 s4 s5 s6 s7 s8 s9 s10 K
def wqiv(k:Nat){R:Type}(x0:(List dT72))(x1:Int)(x2:(List (List UInt8)))(K:(Int→Int→Option R)): Option R:=wq114 k (fun s0 s1 s2 s3 s4 s5 s6 s7 s8 s9 s10=>wqht k k s0 s1 s2 s3 s4 s5 s6 s7 s8 s9 s10 K) x0 x1 x2 K
abbrev wqfl:Type 1:=(R:Type)→(List dT72)→Int→(List UInt8)→(Int→Bool→Option R)→Option R
def wqsl(k:Nat){R:Type}(E1005:((List UInt8)→Int→Int→(List UInt8)→Bool→(List (List UInt8))→(List Int)→Int→Option R))(s0:(List UInt8))(s1 s2:Int)(s3:(List UInt8))(s4:Bool)(s5:(List (List UInt8)))(s6:(List Int))(s7:Int)(K:(Int→Bool→Option R)): Option R:=cond (decide (s7<(s5.length:Int))) (cond (inb s7 (s5.length:Int)) (cond ((s5.getD s7.toNat Kd.str.zero) == s0) (cond (inb s7 (s6.length:Int)) (K (s6.getD s7.toNat kI.zero) true) none) (E1005 s0 s1 s2 s3 s4 s5 s6 (@Go.IntKind.wrap Go.IntKind.i64 (s7+1)))) none) (K 0 false)
def wq147(k:Nat){R:Type}(E1005:((List UInt8)→Int→Int→(List UInt8)→Bool→(List (List UInt8))→(List Int)→Int→Option R))(x0:(List dT72))(x1:Int)(x2:(List UInt8))(K:(Int→Bool→Option R)): Option R:=cond (inb x1 (x0.length:Int)) (cond ((x0.getD x1.toNat kdT72.zero).1 != 3) (K 0 false) (E1005 x2 (x0.getD x1.toNat kdT72.zero).1 ((x0.getD x1.toNat kdT72.zero).2).1 (((x0.getD x1.toNat kdT72.zero).2).2).1 ((((x0.getD x1.toNat kdT72.zero).2).2).2).1 (((((x0.getD x1.toNat kdT72.zero).2).2).2).2).1 (((((x0.getD x1.toNat kdT72.zero).2).2).2).2).2 0)) none
def wqid(k:Nat){R:Type}: Nat→(List UInt8)→Int→Int→(List UInt8)→Bool→(List (List UInt8))→(List Int)→Int→(Int→Bool→Option R)→Option R
 |0,_,_,_,_,_,_,_,_,_=>none
 |n+1,s0,s1,s2,s3,s4,s5,s6,s7,K=>wqsl k (fun s0 s1 s2 s3 s4 s5 s6 s7=>wqid k n s0 s1 s2 s3 s4 s5 s6 s7 K) s0 s1 s2 s3 s4 s5 s6 s7 K
def wqky(k:Nat){R:Type}(x0:(List dT72))(x1:Int)(x2:(List UInt8))(K:(Int→Bool→Option R)): Option R:=wq147 k (fun s0 s1 s2 s3 s4 s5 s6 s7=>wqid k k s0 s1 s2 s3 s4 s5 s6 s7 K) x0 x1 x2 K
end Go.Proofs.YtabkhphoacmcdaaGreatDoor.Pvm
namespace Go.Proofs.YtabkhphoacmcdaaGreatDoor.Pvm
open Go
theorem wq1af(key t:List UInt8): ∀ es:List (List UInt8×Bool),mget .bool t (mset .bool key true es)=(mget .bool t es || (t == key))
 |[]=>by
  rw[mset,mget,mget]
  cases t == key<;>rfl
 |(k,x)::r=>by
  rw[mset]
  cases h1:key == k with
  |true =>
   have:key=k:=by simpa using h1
   subst this
   rw[cond_true,mget,mget]
   cases t == key<;>simp
  |false =>
   rw[cond_false,mget,mget,wq1af key t r]
   cases h2:t == k with
   |false=>rfl
   |true =>
    have:t=k:=by simpa using h2
    subst this
    have:(t == key)=false:=by
     rw[beq_eq_false_iff_ne]at h1 ⊢
     exact fun e=>h1 e.symm
    rw[this];simp
def okD(x:Nd): Prop:=x.2.2.1.length≤4000∧x.2.2.2.2.1.length≤4000∧x.2.2.2.2.2.length≤4000∧∀ q∈x.2.2.2.2.1,q.length≤4000
theorem nd_at{nd:List Nd}{n:Nat}(h:n<nd.length): ∃ x,nd[n]? = some x∧(∀ z,nd.getD n z=x)∧x∈nd:=⟨nd[n],List.getElem?_eq_getElem h,fun z=>by rw[List.getD,List.getElem?_eq_getElem h];rfl,List.getElem_mem _⟩
theorem wq1h8{nd:List Nd}{f:Nat}: ∀(l:List Int) (n m i:Nat),kidsW (walkS f nd) l n=some m→n≤i→i<m→∃ a b,walkS f nd a=some b∧a≤i∧i<b
 |[],n,m,i,h,h1,h2=>by rw[kidsW]at h;cases h;omega
 |k::r,n,m,i,h,h1,h2=>by
  rw[kidsW]at h
  cases hk:k == (n:Int)with
  |false=>rw[hk]at h;cases h
  |true =>
   rw[hk,cond_true]at h
   cases hw:walkS f nd n with
   |none=>rw[hw]at h;cases h
   |some j =>
    rw[hw]at h
    by_cases hi:j≤i
    ·exact wq1h8 r j m i h hi h2
    ·exact⟨n,j,hw,h1,by omega⟩
theorem wq1h9:∀(f:Nat) (nd:List Nd) (n m i:Nat),walkS f nd n=some m→n≤i→i<m→∃ f' m',walkS (f'+1) nd i=some m'
 |0,nd,n,m,i,h,_,_=>by rw[walkS]at h;cases h
 |f+1,nd,n,m,i,h,h1,h2=>by
  by_cases hi:i=n
  ·subst hi;exact⟨f,m,h⟩
  ·obtain⟨x,hx,hf,h⟩:=wq13v h
   obtain⟨a,b,e1,e2,e3⟩:=wq1h8 _ _ _ _ h (by omega) h2
   exact wq1h9 f nd a b i e1 e2 e3
theorem wq1ha{nd:List Nd}{f:Nat}: ∀(l:List Int) (n m:Nat),kidsW (walkS f nd) l n=some m→∀ y∈l,0≤y∧y<(nd.length:Int)
 |[],n,m,h,y,hy=>by cases hy
 |k::r,n,m,h,y,hy=>by
  rw[kidsW]at h
  cases hk:k == (n:Int)with
  |false=>rw[hk]at h;cases h
  |true =>
   rw[hk,cond_true]at h
   cases hw:walkS f nd n with
   |none=>rw[hw]at h;cases h
   |some j =>
    rw[hw]at h
    have h1:=wq1el f nd n j hw
    have h2:=wq1en f nd n j hw
    have h3:k=(n:Int):=by simpa using hk
    rcases List.mem_cons.1 hy with rfl|hy
    ·omega
    ·exact wq1ha r j m h y hy
def inR(nd:List Nd)(i:Int): Bool:=bif decide (i≥0)then decide (i<(nd.length:Int))else false
def ndAt(nd:List Nd)(i:Int): Option Nd:=bif inR nd i&&checkS nd then nd[i.toNat]? else none
structure At (nd:List Nd) (n:Nat) (x:Nd):Prop where
 lt:n<nd.length
 le:nd.length≤4000
 get:∀ z,nd.getD n z=x
 fit:fitN x=true
 ok:okD x
 kids:∀ y∈x.2.2.2.2.2,0≤y∧y<(nd.length:Int)
theorem node(nd:List Nd)(hn:nd.length≤4000)(ho:∀ x∈nd,okD x)(i:Int): (ndAt nd i=none∧(inR nd i&&checkS nd)=false)∨(inR nd i&&checkS nd)=true∧∃ n x,i=((n:Nat):Int)∧ndAt nd i=some x∧At nd n x:=by
 unfold ndAt
 cases h:inR nd i&&checkS nd with
 |false=>exact .inl ⟨rfl,rfl⟩
 |true =>
  refine .inr ⟨rfl,?_⟩
  rw[Bool.and_eq_true]at h
  obtain⟨h1,h2⟩:=h
  unfold inR at h1
  by_cases h0:i≥0
  ·rw[dec_t h0,cond_true]at h1
   have h1:=of_decide_eq_true h1
   have hlt:i.toNat<nd.length:=by omega
   obtain⟨x,e1,e2,e3⟩:=nd_at hlt
   unfold checkS at h2
   simp only[Bool.and_eq_true,decide_eq_true_eq,beq_iff_eq]at h2
   obtain⟨f',m',hw⟩:=wq1h9 _ _ _ _ i.toNat h2.2.2 (Nat.zero_le _) hlt
   obtain⟨y,hy,hf,hk⟩:=wq13v hw
   rw[e1]at hy
   injection hy with hy
   subst hy
   exact⟨i.toNat,x,by omega,e1,⟨hlt,hn,e2,hf,ho x e3,wq1ha _ _ _ hk⟩⟩
  ·rw[dec_f h0,cond_false]at h1;cases h1
theorem At.inb{nd:List Nd}{n:Nat}{x:Nd}(h:At nd n x): Pvm.inb (n:Int) (nd.length:Int)=true:=inb_t (by omega) (by have:=h.lt;omega)
theorem At.at{R:Type}{k:Nat}{nd:List Nd}{n:Nat}{x:Nd}(h:At nd n x)(kd:Int)(K:Int→Int→Option R): wq6t k nd (n:Int) kd K=K kd x.2.1:=by
 unfold wq6t wq16r
 rw[h.inb,cond_true,wq2f,h.get]
def idxS(t:List UInt8): List (List UInt8)→Nat→Option Nat
 |[],_=>none
 |q::r,i=>bif t == q then some i else idxS t r (i+1)
theorem idx_lt(t:List UInt8): ∀(l:List (List UInt8)) (i j:Nat),idxS t l i=some j→i≤j∧j<i+l.length
 |[],i,j,h=>by rw[idxS]at h;cases h
 |q::r,i,j,h=>by
  rw[idxS]at h
  cases hq:t == q with
  |true=>rw[hq]at h;cases h;simp
  |false =>
   rw[hq]at h
   have:=idx_lt t r (i+1) j h
   rw[List.length_cons];omega
def findS(o:Option Nd)(key:List UInt8): Int×Bool :=
 match o with
 |none=>(0,false)
 |some x=>bif x.1 != 3 then(0,false)else match idxS key x.2.2.2.2.1 0 with
  |none=>(0,false)
  |some j=>(x.2.2.2.2.2.getD j 0,true)
theorem At.keys{nd:List Nd}{n:Nat}{x:Nd}(h:At nd n x): (x.1 != 3)=false→x.2.2.2.2.1.length=x.2.2.2.2.2.length:=by
 intro h3
 have h3:x.1=3:=by simpa using h3
 have hf:=h.fit
 unfold fitN at hf
 rw[h3]at hf
 have e1:((3:Int) == 1)=false:=rfl
 have e2:((3:Int) == 2)=false:=rfl
 have e3:((3:Int) == 3)=true:=rfl
 rw[e1,e2,e3]at hf
 simp only[cond_true,cond_false,Bool.and_eq_true,decide_eq_true_eq]at hf
 exact hf.1
def nmB(s:List UInt8): Bool:=(s.all fun c => !(decide (c.toNat<33) || decide (c.toNat>126)))&&(decide (1≤s.length)&&decide (s.length≤64))
theorem wqqy(k:Nat){R:Type}(s:List UInt8)(hs:s.length≤4000)(hk:5000<k)(K:Bool→Option R): wqa1 k s K=K (nmB s):=by
 unfold wqa1 wqt5
 have loop:∀(t:List UInt8) (i m:Nat),s.drop i=t→t.length<m→i≤s.length→wq7d k m s (s.length:Int) (i:Int) K=K ((t.all fun c => !(decide (c.toNat<33) || decide (c.toNat>126)))&&(decide (1≤s.length)&&decide (s.length≤64))):=by
  intro t
  induction t with
  |nil =>
   intro i m hd hm hi
   have:=wqf8 hd
   obtain⟨m,rfl⟩:∃ j,m=j+1:=⟨m-1,by simp at hm;omega⟩
   rw[wq7d,wqdc,dec_f (by omega),cond_false]
   have h1:decide ((s.length:Int)≥1)=decide (1≤s.length):=by rw[Bool.eq_iff_iff];simp;omega
   have h2:decide ((s.length:Int)≤64)=decide (s.length≤64):=by rw[Bool.eq_iff_iff];simp;omega
   rw[h1,h2]
   cases decide (1≤s.length)<;>rfl
  |cons c r ih =>
   intro i m hd hm hi
   obtain⟨hlt,hc,hr⟩:=wq7n hd
   obtain⟨m,rfl⟩:∃ j,m=j+1:=⟨m-1,by simp at hm;omega⟩
   rw[wq7d,wqdc]
   simp(disch:=omega)only[dec_t,dec_f,ieq_t,ieq_f,ine_t,ine_f,inb_t,bnd_t,wq3y,wqnh,cond_true,cond_false,Bool.not_true,Bool.not_false,Bool.true_or,Bool.or_true,Bool.false_or,Bool.or_false,Bool.true_and,Bool.and_true,Bool.false_and,Bool.and_false,wqd4,wqba,wq2f,hc,wqx7]
   have h1:decide ((c.toNat:Int)<33)=decide (c.toNat<33):=by rw[Bool.eq_iff_iff];simp;omega
   have h2:decide ((c.toNat:Int)>126)=decide (c.toNat>126):=by rw[Bool.eq_iff_iff];simp;omega
   rw[h1,h2,List.all_cons,ih (i+1) m hr (by simp at hm;omega) (by omega),dec_t (show 1≤s.length by omega),Bool.true_and]
   cases decide (c.toNat<33)<;>cases decide (c.toNat>126)<;>simp
 exact loop s 0 k rfl (by omega) (Nat.zero_le _)
theorem wqqz(k:Nat){R:Type}(s:List UInt8)(hs:s.length≤4000)(hk:5000<k)(K:Bool→Option R): wqa5 k s K=K (nmB s):=by
 unfold wqa5 wqu6 nmB
 have loop:∀(t:List UInt8) (i m:Nat),s.drop i=t→t.length<m→i≤s.length→wq7m k m s (i:Int) K=K (t.all fun c => !(decide (c.toNat<33) || decide (c.toNat>126))):=by
  intro t
  induction t with
  |nil =>
   intro i m hd hm hi
   have:=wqf8 hd
   obtain⟨m,rfl⟩:∃ j,m=j+1:=⟨m-1,by simp at hm;omega⟩
   rw[wq7m,wqdy,dec_f (by omega)];rfl
  |cons c r ih =>
   intro i m hd hm hi
   obtain⟨hlt,hc,hr⟩:=wq7n hd
   obtain⟨m,rfl⟩:∃ j,m=j+1:=⟨m-1,by simp at hm;omega⟩
   rw[wq7m,wqdy]
   simp(disch:=omega)only[dec_t,dec_f,ieq_t,ieq_f,ine_t,ine_f,inb_t,bnd_t,wq3y,wqnh,cond_true,cond_false,Bool.not_true,Bool.not_false,Bool.true_or,Bool.or_true,Bool.false_or,Bool.or_false,Bool.true_and,Bool.and_true,Bool.false_and,Bool.and_false,wqd4,wqba,wq2f,hc,wqx7]
   have h1:decide ((c.toNat:Int)<33)=decide (c.toNat<33):=by rw[Bool.eq_iff_iff];simp;omega
   have h2:decide ((c.toNat:Int)>126)=decide (c.toNat>126):=by rw[Bool.eq_iff_iff];simp;omega
   rw[h1,h2,List.all_cons,ih (i+1) m hr (by simp at hm;omega) (by omega)]
   cases decide (c.toNat<33)<;>cases decide (c.toNat>126)<;>simp
 by_cases h1:s.length<1
 ·rw[dec_t (show(s.length:Int)<1 by omega),dec_f (show ¬ 1≤s.length by omega)];simp
 ·rw[dec_f (show ¬ (s.length:Int)<1 by omega),dec_t (show 1≤s.length by omega),cond_false]
  by_cases h2:s.length>64
  ·rw[dec_t (show(s.length:Int)>64 by omega),dec_f (show ¬ s.length≤64 by omega)];simp
  ·rw[dec_f (show ¬ (s.length:Int)>64 by omega),dec_t (show s.length≤64 by omega),cond_false,Bool.and_true,Bool.and_true]
   exact loop s 0 k rfl (by omega) (Nat.zero_le _)
end Go.Proofs.YtabkhphoacmcdaaGreatDoor.Pvm
namespace Go.Proofs.YtabkhphoacmcdaaGreatDoor.Pvm
open Go Go.Proofs
abbrev wq9k:Type 1:=(R:Type)→(List dT72)→Nat→(List ((List UInt8)×(List Int)))→(List dT56)→Int→Int→Int→Int→((List dT72)→Nat→(List ((List UInt8)×(List Int)))→(List dT56)→Int→Int→Bool→Option R)→Option R
def wqsm(k:Nat){R:Type}(x0:(List dT72))(x1:Nat)(x2:(List ((List UInt8)×(List Int))))(x3:(List dT56))(x4 x5 x6 x7:Int)(K:((List dT72)→Nat→(List ((List UInt8)×(List Int)))→(List dT56)→Int→Int→Bool→Option R)): Option R:=cond (x4 == 0) (K x0 x1 x2 x3 x6 x7 (x6 != 0)) (K x0 x1 x2 x3 x4 x5 (x4 != 0))
def wq8c:=@wqsm
abbrev wq9l:Type 1:=(R:Type)→(List dT72)→Nat→(List ((List UInt8)×(List Int)))→(List dT56)→Int→Int→Int→Int→((List dT72)→Nat→(List ((List UInt8)×(List Int)))→(List dT56)→Int→Int→Bool→Option R)→Option R
def wqsn(k:Nat){R:Type}(x0:(List dT72))(x1:Nat)(x2:(List ((List UInt8)×(List Int))))(x3:(List dT56))(x4 x5 x6 x7:Int)(K:((List dT72)→Nat→(List ((List UInt8)×(List Int)))→(List dT56)→Int→Int→Bool→Option R)): Option R:=cond (inb x6 (x0.length:Int)) (wq8c k x0 x1 x2 x3 x4 x5 x7 ((x0.getD x6.toNat kdT72.zero).2).1 K) none
def wqe3:=@wqsn
def wq192(k:Nat){R:Type}(x0:Int)(K:((List UInt8)→Option R)): Option R:=cond (x0 == 1) (K [115,101,99,111,110,100]) (cond (x0 == 2) (K [109,105,110,117,116,101]) (cond (x0 == 3) (K [104,111,117,114]) (cond (x0 == 4) (K [100,97,121]) (K []))))
def wq193:=@wq192
abbrev wq115:Type 1:=(R:Type)→(List UInt8)→(Int→Option R)→Option R
def wqso(k:Nat){R:Type}(E1002:((List UInt8)→Int→Option R))(s0:(List UInt8))(s1:Int)(K:(Int→Option R)): Option R:=cond (decide (s1≤4)) (wq193 k s1 (fun y6=>cond (y6 == s0) (K s1) (E1002 s0 (@Go.IntKind.wrap Go.IntKind.i64 (s1+1))))) (K 0)
def wq148(k:Nat){R:Type}(E1002:((List UInt8)→Int→Option R))(x0:(List UInt8))(K:(Int→Option R)): Option R:=E1002 x0 1
def wqie(k:Nat){R:Type}: Nat→(List UInt8)→Int→(Int→Option R)→Option R
 |0,_,_,_=>none
 |n+1,s0,s1,K=>wqso k (fun s0 s1=>wqie k n s0 s1 K) s0 s1 K
def wq149(k:Nat){R:Type}(x0:(List UInt8))(K:(Int→Option R)): Option R:=wq148 k (fun s0 s1=>wqie k k s0 s1 K) x0 K
abbrev wqcr:Type 1:=(R:Type)→(List dT72)→Nat→(List ((List UInt8)×(List Int)))→(List dT56)→Int→Int→Int→((List dT72)→Nat→(List ((List UInt8)×(List Int)))→(List dT56)→Int→Int→(List UInt8)→Int→Int→Nat→Bool→Bool→Option R)→Option R
def wqsp(k:Nat)(wqx:wq9k)(wq8m:wqe2)(wq24:wqfl)(wqpg:wq105)(wq1t:wq9l)(wqsr:wq113)(wq5q:wqfj)(wq8d:wqfk)(wqss:wq115)(wqnk:wqwy){R:Type}(x0:(List dT72))(x1:Nat)(x2:(List ((List UInt8)×(List Int))))(x3:(List dT56))(x4 x5 x6:Int)(K:((List dT72)→Nat→(List ((List UInt8)×(List Int)))→(List dT56)→Int→Int→(List UInt8)→Int→Int→Nat→Bool→Bool→Option R)): Option R:=wq8m R x0 x6 [[117,110,108,105,109,105,116,101,100],[117,110,105,116],[114,101,113,117,101,115,116,115,95,112,101,114,95,117,110,105,116],[110,101,97,114],[110,97,109,101]] (fun y10 y11=>wqx R x0 x1 x2 x3 x4 x5 y10 y11 (fun y12 y13 y14 y15 y16 y17 y18=>cond y18 (K y12 y13 y14 y15 y16 y17 [] 0 0 0 false false) (wq24 R y12 x6 [117,110,108,105,109,105,116,101,100] (fun y19 y20=>cond y20 (wq8d R y12 y19 (fun y21 y22 y23=>wqx R y12 y13 y14 y15 y16 y17 y22 y23 (fun y24 y25 y26 y27 y28 y29 y30=>cond y30 (K y24 y25 y26 y27 y28 y29 [] 0 0 0 false false) (wq24 R y24 x6 [117,110,105,116] (fun y31 y32=>wq24 R y24 x6 [114,101,113,117,101,115,116,115,95,112,101,114,95,117,110,105,116] (fun y33 y34=>wq24 R y24 x6 [110,101,97,114] (fun y35 y36=>cond y21 (cond (cond (cond y32 true y34) true y36) (wq1t R y24 y25 y26 y27 y28 y29 x6 17 (fun y37 y38 y39 y40 y41 y42 y43=>K y37 y38 y39 y40 y41 y42 [] 0 0 0 false y21)) (wq24 R y24 x6 [110,97,109,101] (fun y37 y38=>cond y38 (wq5q R y24 y37 (fun y39 y40 y41=>wqx R y24 y25 y26 y27 y28 y29 y40 y41 (fun y42 y43 y44 y45 y46 y47 y48=>cond y48 (K y42 y43 y44 y45 y46 y47 [] 0 0 0 false y21) (K y42 y43 y44 y45 y46 y47 y39 0 0 0 false y21)))) (K y24 y25 y26 y27 y28 y29 [] 0 0 0 false y21)))) (cond (!y32) (wq1t R y24 y25 y26 y27 y28 y29 x6 10 (fun y37 y38 y39 y40 y41 y42 y43=>K y37 y38 y39 y40 y41 y42 [] 0 0 0 false y21)) (wqsr R y24 y31 1 (fun y37 y38=>wqx R y24 y25 y26 y27 y28 y29 y37 y38 (fun y39 y40 y41 y42 y43 y44 y45=>cond y45 (K y39 y40 y41 y42 y43 y44 [] 0 0 0 false y21) (cond (inb y31 (y39.length:Int)) (wqss R (((y39.getD y31.toNat kdT72.zero).2).2).1 (fun y46=>cond (y46 == 0) (wq1t R y39 y40 y41 y42 y43 y44 y31 16 (fun y47 y48 y49 y50 y51 y52 y53=>K y47 y48 y49 y50 y51 y52 [] y46 0 0 false y21)) (cond (!y34) (wq1t R y39 y40 y41 y42 y43 y44 x6 10 (fun y47 y48 y49 y50 y51 y52 y53=>K y47 y48 y49 y50 y51 y52 [] y46 0 0 false y21)) (wqnk R y39 y33 0 4294967295 (fun y47 y48 y49=>wqx R y39 y40 y41 y42 y43 y44 y48 y49 (fun y50 y51 y52 y53 y54 y55 y56=>cond y56 (K y50 y51 y52 y53 y54 y55 [] y46 0 0 false y21) (cond y36 (wqpg R y50 y35 (fun y57 y58 y59=>wqx R y50 y51 y52 y53 y54 y55 y58 y59 (fun y60 y61 y62 y63 y64 y65 y66=>cond y66 (K y60 y61 y62 y63 y64 y65 [] y46 y47 y51 false y21) (wq24 R y60 x6 [110,97,109,101] (fun y67 y68=>cond y68 (wq5q R y60 y67 (fun y69 y70 y71=>wqx R y60 y61 y62 y63 y64 y65 y70 y71 (fun y72 y73 y74 y75 y76 y77 y78=>cond y78 (K y72 y73 y74 y75 y76 y77 [] y46 y47 y57 false y21) (K y72 y73 y74 y75 y76 y77 y69 y46 y47 y57 false y21)))) (K y60 y61 y62 y63 y64 y65 [] y46 y47 y57 false y21)))))) (wq24 R y50 x6 [110,97,109,101] (fun y57 y58=>cond y58 (wq5q R y50 y57 (fun y59 y60 y61=>wqx R y50 y51 y52 y53 y54 y55 y60 y61 (fun y62 y63 y64 y65 y66 y67 y68=>cond y68 (K y62 y63 y64 y65 y66 y67 [] y46 y47 y51 false y21) (K y62 y63 y64 y65 y66 y67 y59 y46 y47 y51 false y21)))) (K y50 y51 y52 y53 y54 y55 [] y46 y47 y51 false y21)))))))))) none)))))))))))) (wq24 R y12 x6 [117,110,105,116] (fun y21 y22=>wq24 R y12 x6 [114,101,113,117,101,115,116,115,95,112,101,114,95,117,110,105,116] (fun y23 y24=>wq24 R y12 x6 [110,101,97,114] (fun y25 y26=>cond (!y22) (wq1t R y12 y13 y14 y15 y16 y17 x6 10 (fun y27 y28 y29 y30 y31 y32 y33=>K y27 y28 y29 y30 y31 y32 [] 0 0 0 false false)) (wqsr R y12 y21 1 (fun y27 y28=>wqx R y12 y13 y14 y15 y16 y17 y27 y28 (fun y29 y30 y31 y32 y33 y34 y35=>cond y35 (K y29 y30 y31 y32 y33 y34 [] 0 0 0 false false) (cond (inb y21 (y29.length:Int)) (wqss R (((y29.getD y21.toNat kdT72.zero).2).2).1 (fun y36=>cond (y36 == 0) (wq1t R y29 y30 y31 y32 y33 y34 y21 16 (fun y37 y38 y39 y40 y41 y42 y43=>K y37 y38 y39 y40 y41 y42 [] y36 0 0 false false)) (cond (!y24) (wq1t R y29 y30 y31 y32 y33 y34 x6 10 (fun y37 y38 y39 y40 y41 y42 y43=>K y37 y38 y39 y40 y41 y42 [] y36 0 0 false false)) (wqnk R y29 y23 0 4294967295 (fun y37 y38 y39=>wqx R y29 y30 y31 y32 y33 y34 y38 y39 (fun y40 y41 y42 y43 y44 y45 y46=>cond y46 (K y40 y41 y42 y43 y44 y45 [] y36 0 0 false false) (cond y26 (wqpg R y40 y25 (fun y47 y48 y49=>wqx R y40 y41 y42 y43 y44 y45 y48 y49 (fun y50 y51 y52 y53 y54 y55 y56=>cond y56 (K y50 y51 y52 y53 y54 y55 [] y36 y37 y41 false false) (wq24 R y50 x6 [110,97,109,101] (fun y57 y58=>cond y58 (wq5q R y50 y57 (fun y59 y60 y61=>wqx R y50 y51 y52 y53 y54 y55 y60 y61 (fun y62 y63 y64 y65 y66 y67 y68=>cond y68 (K y62 y63 y64 y65 y66 y67 [] y36 y37 y47 false false) (K y62 y63 y64 y65 y66 y67 y59 y36 y37 y47 false false)))) (K y50 y51 y52 y53 y54 y55 [] y36 y37 y47 false false)))))) (wq24 R y40 x6 [110,97,109,101] (fun y47 y48=>cond y48 (wq5q R y40 y47 (fun y49 y50 y51=>wqx R y40 y41 y42 y43 y44 y45 y50 y51 (fun y52 y53 y54 y55 y56 y57 y58=>cond y58 (K y52 y53 y54 y55 y56 y57 [] y36 y37 y41 false false) (K y52 y53 y54 y55 y56 y57 y49 y36 y37 y41 false false)))) (K y40 y41 y42 y43 y44 y45 [] y36 y37 y41 false false)))))))))) none))))))))))))
def wqif(k:Nat){R:Type}:= @wqsp k (@wq8c k) (@wqiv k) (@wqky k) (@wq112 k) (@wqe3 k) (@wqsk k) (@wqkw k) (@wqkx k) (@wq149 k) (@wq107 k) R
abbrev wq43:Type 1:=(R:Type)→(List dT72)→Nat→(List ((List UInt8)×(List Int)))→(List dT56)→Int→Int→Int→Int→Int→Int→((List dT72)→Nat→(List ((List UInt8)×(List Int)))→(List dT56)→Int→Int→(List Int)→Option R)→Option R
abbrev wq4k:Type 1:=(R:Type)→(List dT72)→Nat→(List ((List UInt8)×(List Int)))→(List dT56)→Int→Int→Int→Int→Int→Int→(List Int)→((List dT72)→Nat→(List ((List UInt8)×(List Int)))→(List dT56)→Int→Int→Int→Option R)→Option R
def wqhu(k:Nat)(wq25:wq43)(wq3b:wq4k){R:Type}(E1005:((List dT72)→Nat→(List ((List UInt8)×(List Int)))→(List dT56)→Int→Int→Int→Int→Int→Int→(List Int)→Int→Option R))(s0:(List dT72))(s1:Nat)(s2:(List ((List UInt8)×(List Int))))(s3:(List dT56))(s4 s5 s6 s7 s8 s9:Int)(s10:(List Int))(s11:Int)(K:((List dT72)→Nat→(List ((List UInt8)×(List Int)))→(List dT56)→Int→Int→(List Int)→Option R)): Option R:=cond (inb s6 (s0.length:Int)) (cond (cond (decide (s11<(((((((s0.getD s6.toNat kdT72.zero).2).2).2).2).2).length:Int))) (s4 == 0) false) (cond (inb s6 (s0.length:Int)) (cond (inb s11 (((((((s0.getD s6.toNat kdT72.zero).2).2).2).2).2).length:Int)) (wq3b R s0 s1 s2 s3 s4 s5 (((((((s0.getD s6.toNat kdT72.zero).2).2).2).2).2).getD s11.toNat kI.zero) s7 s8 s9 s10 (fun y16 y17 y18 y19 y20 y21 y22=>cond (fits s10.length (@List.length (@Kd.T kI) [y22]) 8) (E1005 y16 y17 y18 y19 y20 y21 s6 s7 s8 s9 (s10++[y22]) (@Go.IntKind.wrap Go.IntKind.i64 (s11+1))) none)) none) none) (K s0 s1 s2 s3 s4 s5 s10)) none
def wqlu(k:Nat)(wq25:wq43)(wq3b:wq4k){R:Type}(E1005:((List dT72)→Nat→(List ((List UInt8)×(List Int)))→(List dT56)→Int→Int→Int→Int→Int→Int→(List Int)→Int→Option R))(x0:(List dT72))(x1:Nat)(x2:(List ((List UInt8)×(List Int))))(x3:(List dT56))(x4 x5 x6 x7 x8 x9:Int)(K:((List dT72)→Nat→(List ((List UInt8)×(List Int)))→(List dT56)→Int→Int→(List Int)→Option R)): Option R:=wqsk k x0 x6 2 (fun y14 y15=>wq8c k x0 x1 x2 x3 x4 x5 y14 y15 (fun y16 y17 y18 y19 y20 y21 y22=>cond y22 (K y16 y17 y18 y19 y20 y21 []) (E1005 y16 y17 y18 y19 y20 y21 x6 x7 x8 x9 [] 0)))
def wqaq(k:Nat)(wq25:wq43)(wq3b:wq4k){R:Type}: Nat→(List dT72)→Nat→(List ((List UInt8)×(List Int)))→(List dT56)→Int→Int→Int→Int→Int→Int→(List Int)→Int→((List dT72)→Nat→(List ((List UInt8)×(List Int)))→(List dT56)→Int→Int→(List Int)→Option R)→Option R
 |0,_,_,_,_,_,_,_,_,_,_,_,_,_=>none
 |n+1,s0,s1,s2,s3,s4,s5,s6,s7,s8,s9,s10,s11,K=>wqhu k wq25 wq3b (fun s0 s1 s2 s3 s4 s5 s6 s7 s8 s9 s10 s11=>wqaq k wq25 wq3b n s0 s1 s2 s3 s4 s5 s6 s7 s8 s9 s10 s11 K) s0 s1 s2 s3 s4 s5 s6 s7 s8 s9 s10 s11 K
def wqiw(k:Nat)(wq25:wq43)(wq3b:wq4k)(wqx:wq9k)(wq8m:wqe2)(wq24:wqfl)(wq1t:wq9l)(wq5q:wqfj)(wqe4:wqiu)(wq8e:wqcr)(wq8d:wqfk){R:Type}(E1025:((List dT72)→Nat→(List ((List UInt8)×(List Int)))→(List dT56)→Int→Int→Int→Int→Int→(List Int)→(List UInt8)→(List UInt8)→Bool→Int→Int→Bool→(List UInt8)→Int→Int→Nat→Bool→Bool→(List Int)→Int→Option R))(s0:(List dT72))(s1:Nat)(s2:(List ((List UInt8)×(List Int))))(s3:(List dT56))(s4 s5 s6 s7 s8:Int)(s9:(List Int))(s10 s11:(List UInt8))(s12:Bool)(s13 s14:Int)(s15:Bool)(s16:(List UInt8))(s17 s18:Int)(s19:Nat)(s20 s21:Bool)(s22:(List Int))(s23:Int)(K:((List dT72)→Nat→(List ((List UInt8)×(List Int)))→(List dT56)→Int→Int→Int→Option R)): Option R:=cond (decide (s23<(s9.length:Int))) (cond (inb s23 (s9.length:Int)) (cond (inb (s9.getD s23.toNat kI.zero) (s3.length:Int)) (cond (cond (cond ((s3.getD (s9.getD s23.toNat kI.zero).toNat kdT56.zero).1 == s10) (((s3.getD (s9.getD s23.toNat kI.zero).toNat kdT56.zero).2).1 == s11) false) ((((s3.getD (s9.getD s23.toNat kI.zero).toNat kdT56.zero).2).2).1 == s12) false) (wq1t R s0 s1 s2 s3 s4 s5 s6 7 (fun y28 y29 y30 y31 y32 y33 y34=>K y28 y29 y30 y31 y32 y33 0)) (E1025 s0 s1 s2 s3 s4 s5 s6 s7 s8 s9 s10 s11 s12 s13 s14 s15 s16 s17 s18 s19 s20 s21 s22 (@Go.IntKind.wrap Go.IntKind.i64 (s23+1)))) none) none) (wq24 R s0 s6 [114,97,116,101,95,108,105,109,105,116] (fun y28 y29=>cond y29 (wq8e R s0 s1 s2 s3 s4 s5 y28 (fun y30 y31 y32 y33 y34 y35 y36 y37 y38 y39 y40 y41=>cond (y34 != 0) (K y30 y31 y32 y33 y34 y35 0) (wq24 R y30 s6 [115,104,97,100,111,119,95,109,111,100,101] (fun y42 y43=>cond y43 (wq8d R y30 y42 (fun y44 y45 y46=>wqx R y30 y31 y32 y33 y34 y35 y45 y46 (fun y47 y48 y49 y50 y51 y52 y53=>cond y53 (K y47 y48 y49 y50 y51 y52 0) (cond (cond y44 (!true) false) (wq1t R y47 y48 y49 y50 y51 y52 y42 17 (fun y54 y55 y56 y57 y58 y59 y60=>K y54 y55 y56 y57 y58 y59 0)) (cond (fits y50.length (@List.length (@Kd.T kdT56) [(s10,(s11,(s12,(s13,(s14,(true,((y36,(y37,(y38,(y39,(y44,y41))))),s22)))))))]) 136) (wq24 R y47 s6 [100,101,115,99,114,105,112,116,111,114,115] (fun y54 y55=>cond y55 (wq25 R y47 y48 y49 (y50++[(s10,(s11,(s12,(s13,(s14,(true,((y36,(y37,(y38,(y39,(y44,y41))))),s22)))))))]) y51 y52 y54 s7 (y50.length:Int) (@Go.IntKind.wrap Go.IntKind.i64 (s8+1)) (fun y56 y57 y58 y59 y60 y61 y62=>cond (inb (y50.length:Int) (y59.length:Int)) (@SH (@List (@Kd.T kdT56)) R (List.set y59 (y50.length:Int).toNat ((y59.getD (y50.length:Int).toNat kdT56.zero).1,(((y59.getD (y50.length:Int).toNat kdT56.zero).2).1,((((y59.getD (y50.length:Int).toNat kdT56.zero).2).2).1,(((((y59.getD (y50.length:Int).toNat kdT56.zero).2).2).2).1,((((((y59.getD (y50.length:Int).toNat kdT56.zero).2).2).2).2).1,(((((((y59.getD (y50.length:Int).toNat kdT56.zero).2).2).2).2).2).1,((((((((((y59.getD (y50.length:Int).toNat kdT56.zero).2).2).2).2).2).2).1).1,((((((((((y59.getD (y50.length:Int).toNat kdT56.zero).2).2).2).2).2).2).1).2).1,(((((((((((y59.getD (y50.length:Int).toNat kdT56.zero).2).2).2).2).2).2).1).2).2).1,((((((((((((y59.getD (y50.length:Int).toNat kdT56.zero).2).2).2).2).2).2).1).2).2).2).1,(((((((((((((y59.getD (y50.length:Int).toNat kdT56.zero).2).2).2).2).2).2).1).2).2).2).2).1,((((((((((((y59.getD (y50.length:Int).toNat kdT56.zero).2).2).2).2).2).2).1).2).2).2).2).2))))),y62)))))))) (fun y63=>K y56 y57 y58 y63 y60 y61 (y50.length:Int))) none)) (K y47 y48 y49 (y50++[(s10,(s11,(s12,(s13,(s14,(true,((y36,(y37,(y38,(y39,(y44,y41))))),s22)))))))]) y51 y52 (y50.length:Int)))) none))))) (cond (fits y33.length (@List.length (@Kd.T kdT56) [(s10,(s11,(s12,(s13,(s14,(true,((y36,(y37,(y38,(y39,(y40,y41))))),s22)))))))]) 136) (wq24 R y30 s6 [100,101,115,99,114,105,112,116,111,114,115] (fun y44 y45=>cond y45 (wq25 R y30 y31 y32 (y33++[(s10,(s11,(s12,(s13,(s14,(true,((y36,(y37,(y38,(y39,(y40,y41))))),s22)))))))]) y34 y35 y44 s7 (y33.length:Int) (@Go.IntKind.wrap Go.IntKind.i64 (s8+1)) (fun y46 y47 y48 y49 y50 y51 y52=>cond (inb (y33.length:Int) (y49.length:Int)) (@SH (@List (@Kd.T kdT56)) R (List.set y49 (y33.length:Int).toNat ((y49.getD (y33.length:Int).toNat kdT56.zero).1,(((y49.getD (y33.length:Int).toNat kdT56.zero).2).1,((((y49.getD (y33.length:Int).toNat kdT56.zero).2).2).1,(((((y49.getD (y33.length:Int).toNat kdT56.zero).2).2).2).1,((((((y49.getD (y33.length:Int).toNat kdT56.zero).2).2).2).2).1,(((((((y49.getD (y33.length:Int).toNat kdT56.zero).2).2).2).2).2).1,((((((((((y49.getD (y33.length:Int).toNat kdT56.zero).2).2).2).2).2).2).1).1,((((((((((y49.getD (y33.length:Int).toNat kdT56.zero).2).2).2).2).2).2).1).2).1,(((((((((((y49.getD (y33.length:Int).toNat kdT56.zero).2).2).2).2).2).2).1).2).2).1,((((((((((((y49.getD (y33.length:Int).toNat kdT56.zero).2).2).2).2).2).2).1).2).2).2).1,(((((((((((((y49.getD (y33.length:Int).toNat kdT56.zero).2).2).2).2).2).2).1).2).2).2).2).1,((((((((((((y49.getD (y33.length:Int).toNat kdT56.zero).2).2).2).2).2).2).1).2).2).2).2).2))))),y52)))))))) (fun y53=>K y46 y47 y48 y53 y50 y51 (y33.length:Int))) none)) (K y30 y31 y32 (y33++[(s10,(s11,(s12,(s13,(s14,(true,((y36,(y37,(y38,(y39,(y40,y41))))),s22)))))))]) y34 y35 (y33.length:Int)))) none))))) (cond (s4 != 0) (K s0 s1 s2 s3 s4 s5 0) (wq24 R s0 s6 [115,104,97,100,111,119,95,109,111,100,101] (fun y30 y31=>cond y31 (wq8d R s0 y30 (fun y32 y33 y34=>wqx R s0 s1 s2 s3 s4 s5 y33 y34 (fun y35 y36 y37 y38 y39 y40 y41=>cond y41 (K y35 y36 y37 y38 y39 y40 0) (cond (cond y32 (!s15) false) (wq1t R y35 y36 y37 y38 y39 y40 y30 17 (fun y42 y43 y44 y45 y46 y47 y48=>K y42 y43 y44 y45 y46 y47 0)) (cond (fits y38.length (@List.length (@Kd.T kdT56) [(s10,(s11,(s12,(s13,(s14,(s15,((s16,(s17,(s18,(s19,(y32,s21))))),s22)))))))]) 136) (wq24 R y35 s6 [100,101,115,99,114,105,112,116,111,114,115] (fun y42 y43=>cond y43 (wq25 R y35 y36 y37 (y38++[(s10,(s11,(s12,(s13,(s14,(s15,((s16,(s17,(s18,(s19,(y32,s21))))),s22)))))))]) y39 y40 y42 s7 (y38.length:Int) (@Go.IntKind.wrap Go.IntKind.i64 (s8+1)) (fun y44 y45 y46 y47 y48 y49 y50=>cond (inb (y38.length:Int) (y47.length:Int)) (@SH (@List (@Kd.T kdT56)) R (List.set y47 (y38.length:Int).toNat ((y47.getD (y38.length:Int).toNat kdT56.zero).1,(((y47.getD (y38.length:Int).toNat kdT56.zero).2).1,((((y47.getD (y38.length:Int).toNat kdT56.zero).2).2).1,(((((y47.getD (y38.length:Int).toNat kdT56.zero).2).2).2).1,((((((y47.getD (y38.length:Int).toNat kdT56.zero).2).2).2).2).1,(((((((y47.getD (y38.length:Int).toNat kdT56.zero).2).2).2).2).2).1,((((((((((y47.getD (y38.length:Int).toNat kdT56.zero).2).2).2).2).2).2).1).1,((((((((((y47.getD (y38.length:Int).toNat kdT56.zero).2).2).2).2).2).2).1).2).1,(((((((((((y47.getD (y38.length:Int).toNat kdT56.zero).2).2).2).2).2).2).1).2).2).1,((((((((((((y47.getD (y38.length:Int).toNat kdT56.zero).2).2).2).2).2).2).1).2).2).2).1,(((((((((((((y47.getD (y38.length:Int).toNat kdT56.zero).2).2).2).2).2).2).1).2).2).2).2).1,((((((((((((y47.getD (y38.length:Int).toNat kdT56.zero).2).2).2).2).2).2).1).2).2).2).2).2))))),y50)))))))) (fun y51=>K y44 y45 y46 y51 y48 y49 (y38.length:Int))) none)) (K y35 y36 y37 (y38++[(s10,(s11,(s12,(s13,(s14,(s15,((s16,(s17,(s18,(s19,(y32,s21))))),s22)))))))]) y39 y40 (y38.length:Int)))) none))))) (cond (fits s3.length (@List.length (@Kd.T kdT56) [(s10,(s11,(s12,(s13,(s14,(s15,((s16,(s17,(s18,(s19,(s20,s21))))),s22)))))))]) 136) (wq24 R s0 s6 [100,101,115,99,114,105,112,116,111,114,115] (fun y32 y33=>cond y33 (wq25 R s0 s1 s2 (s3++[(s10,(s11,(s12,(s13,(s14,(s15,((s16,(s17,(s18,(s19,(s20,s21))))),s22)))))))]) s4 s5 y32 s7 (s3.length:Int) (@Go.IntKind.wrap Go.IntKind.i64 (s8+1)) (fun y34 y35 y36 y37 y38 y39 y40=>cond (inb (s3.length:Int) (y37.length:Int)) (@SH (@List (@Kd.T kdT56)) R (List.set y37 (s3.length:Int).toNat ((y37.getD (s3.length:Int).toNat kdT56.zero).1,(((y37.getD (s3.length:Int).toNat kdT56.zero).2).1,((((y37.getD (s3.length:Int).toNat kdT56.zero).2).2).1,(((((y37.getD (s3.length:Int).toNat kdT56.zero).2).2).2).1,((((((y37.getD (s3.length:Int).toNat kdT56.zero).2).2).2).2).1,(((((((y37.getD (s3.length:Int).toNat kdT56.zero).2).2).2).2).2).1,((((((((((y37.getD (s3.length:Int).toNat kdT56.zero).2).2).2).2).2).2).1).1,((((((((((y37.getD (s3.length:Int).toNat kdT56.zero).2).2).2).2).2).2).1).2).1,(((((((((((y37.getD (s3.length:Int).toNat kdT56.zero).2).2).2).2).2).2).1).2).2).1,((((((((((((y37.getD (s3.length:Int).toNat kdT56.zero).2).2).2).2).2).2).1).2).2).2).1,(((((((((((((y37.getD (s3.length:Int).toNat kdT56.zero).2).2).2).2).2).2).1).2).2).2).2).1,((((((((((((y37.getD (s3.length:Int).toNat kdT56.zero).2).2).2).2).2).2).1).2).2).2).2).2))))),y40)))))))) (fun y41=>K y34 y35 y36 y41 y38 y39 (s3.length:Int))) none)) (K s0 s1 s2 (s3++[(s10,(s11,(s12,(s13,(s14,(s15,((s16,(s17,(s18,(s19,(s20,s21))))),s22)))))))]) s4 s5 (s3.length:Int)))) none))))))
def wqox(k:Nat)(wq25:wq43)(wq3b:wq4k)(wqx:wq9k)(wq8m:wqe2)(wq24:wqfl)(wq1t:wq9l)(wq5q:wqfj)(wqe4:wqiu)(wq8e:wqcr)(wq8d:wqfk){R:Type}(E1025:((List dT72)→Nat→(List ((List UInt8)×(List Int)))→(List dT56)→Int→Int→Int→Int→Int→(List Int)→(List UInt8)→(List UInt8)→Bool→Int→Int→Bool→(List UInt8)→Int→Int→Nat→Bool→Bool→(List Int)→Int→Option R))(x0:(List dT72))(x1:Nat)(x2:(List ((List UInt8)×(List Int))))(x3:(List dT56))(x4 x5 x6 x7 x8 x9:Int)(x10:(List Int))(K:((List dT72)→Nat→(List ((List UInt8)×(List Int)))→(List dT56)→Int→Int→Int→Option R)): Option R:=cond (decide (x9>8)) (wq1t R x0 x1 x2 x3 x4 x5 x6 8 (fun y15 y16 y17 y18 y19 y20 y21=>K y15 y16 y17 y18 y19 y20 0)) (cond (decide ((x3.length:Int)≥500)) (wq1t R x0 x1 x2 x3 x4 x5 x6 9 (fun y15 y16 y17 y18 y19 y20 y21=>K y15 y16 y17 y18 y19 y20 0)) (wq8m R x0 x6 [[107,101,121],[118,97,108,117,101],[114,97,116,101,95,108,105,109,105,116],[115,104,97,100,111,119,95,109,111,100,101],[100,101,115,99,114,105,112,116,111,114,115]] (fun y15 y16=>wqx R x0 x1 x2 x3 x4 x5 y15 y16 (fun y17 y18 y19 y20 y21 y22 y23=>cond y23 (K y17 y18 y19 y20 y21 y22 0) (wq24 R y17 x6 [107,101,121] (fun y24 y25=>cond (!y25) (wq1t R y17 y18 y19 y20 y21 y22 x6 10 (fun y26 y27 y28 y29 y30 y31 y32=>K y26 y27 y28 y29 y30 y31 0)) (wq5q R y17 y24 (fun y26 y27 y28=>wqx R y17 y18 y19 y20 y21 y22 y27 y28 (fun y29 y30 y31 y32 y33 y34 y35=>cond y35 (K y29 y30 y31 y32 y33 y34 0) (wq24 R y29 x6 [118,97,108,117,101] (fun y36 y37=>cond y37 (wqe4 R y29 y36 (fun y38 y39 y40=>wqx R y29 y30 y31 y32 y33 y34 y39 y40 (fun y41 y42 y43 y44 y45 y46 y47=>cond y47 (K y41 y42 y43 y44 y45 y46 0) (E1025 y41 y42 y43 y44 y45 y46 x6 x7 x9 x10 y26 y38 false x7 x8 false [] 0 0 0 false false [] 0)))) (E1025 y29 y30 y31 y32 y33 y34 x6 x7 x9 x10 y26 [] true x7 x8 false [] 0 0 0 false false [] 0))))))))))))
def wqbt(k:Nat)(wq25:wq43)(wq3b:wq4k)(wqx:wq9k)(wq8m:wqe2)(wq24:wqfl)(wq1t:wq9l)(wq5q:wqfj)(wqe4:wqiu)(wq8e:wqcr)(wq8d:wqfk){R:Type}: Nat→(List dT72)→Nat→(List ((List UInt8)×(List Int)))→(List dT56)→Int→Int→Int→Int→Int→(List Int)→(List UInt8)→(List UInt8)→Bool→Int→Int→Bool→(List UInt8)→Int→Int→Nat→Bool→Bool→(List Int)→Int→((List dT72)→Nat→(List ((List UInt8)×(List Int)))→(List dT56)→Int→Int→Int→Option R)→Option R
 |0,_,_,_,_,_,_,_,_,_,_,_,_,_,_,_,_,_,_,_,_,_,_,_,_,_=>none
 |n+1,s0,s1,s2,s3,s4,s5,s6,s7,s8,s9,s10,s11,s12,s13,s14,s15,s16,s17,s18,s19,s20,s21,s22,s23,K=>wqiw k wq25 wq3b wqx wq8m wq24 wq1t wq5q wqe4 wq8e wq8d (fun s0 s1 s2 s3 s4 s5 s6 s7 s8 s9 s10 s11 s12 s13 s14 s15 s16 s17 s18 s19 s20 s21 s22 s23=>wqbt k wq25 wq3b wqx wq8m wq24 wq1t wq5q wqe4 wq8e wq8d n s0 s1 s2 s3 s4 s5 s6 s7 s8 s9 s10 s11 s12 s13 s14 s15 s16 s17 s18 s19 s20 s21 s22 s23 K) s0 s1 s2 s3 s4 s5 s6 s7 s8 s9 s10 s11 s12 s13 s14 s15 s16 s17 s18 s19 s20 s21 s22 s23 K
mutual
def wq75:Nat→wq43
 |0,_,_,_,_,_,_,_,_,_,_,_,_=>none
 |k+1,R,x0,x1,x2,x3,x4,x5,x6,x7,x8,x9,K=>wqlu k (wq75 k) (FR_ref15_reader_branch k) (fun s0 s1 s2 s3 s4 s5 s6 s7 s8 s9 s10 s11=>wqaq k (wq75 k) (FR_ref15_reader_branch k) k s0 s1 s2 s3 s4 s5 s6 s7 s8 s9 s10 s11 K) x0 x1 x2 x3 x4 x5 x6 x7 x8 x9 K
def FR_ref15_reader_branch:Nat→wq4k
 |0,_,_,_,_,_,_,_,_,_,_,_,_,_=>none
 |k+1,R,x0,x1,x2,x3,x4,x5,x6,x7,x8,x9,x10,K=>wqox k (wq75 k) (FR_ref15_reader_branch k) (@wq8c k) (@wqiv k) (@wqky k) (@wqe3 k) (@wqkw k) (@wqsj k) (@wqif k) (@wqkx k) (fun s0 s1 s2 s3 s4 s5 s6 s7 s8 s9 s10 s11 s12 s13 s14 s15 s16 s17 s18 s19 s20 s21 s22 s23=>wqbt k (wq75 k) (FR_ref15_reader_branch k) (@wq8c k) (@wqiv k) (@wqky k) (@wqe3 k) (@wqkw k) (@wqsj k) (@wqif k) (@wqkx k) k s0 s1 s2 s3 s4 s5 s6 s7 s8 s9 s10 s11 s12 s13 s14 s15 s16 s17 s18 s19 s20 s21 s22 s23 K) x0 x1 x2 x3 x4 x5 x6 x7 x8 x9 x10 K
end
end Go.Proofs.YtabkhphoacmcdaaGreatDoor.Pvm
namespace Go.Proofs.YtabkhphoacmcdaaGreatDoor.Pvm
open Go Go.Proofs
end Go.Proofs.YtabkhphoacmcdaaGreatDoor.Pvm
namespace Go.Proofs.YtabkhphoacmcdaaGreatDoor.Pvm
open Go
inductive Rz (T:Type) where
 |ok (x:T)
 |er (f:Int×Int)
def Rz.bind{A B:Type}: Rz A→(A→Rz B)→Rz B
 |.ok x,g=>g x
 |.er f,_ => .er f
def Rz.run{T R:Type}: Rz T→(T→Option R)→(Int→Int→Option R)→Option R
 |.ok x,K,_=>K x
 |.er f,_,E=>E f.1 f.2
theorem run_bind{A B R:Type}(r:Rz A)(g:A→Rz B)(K:B→Option R)(E:Int→Int→Option R): (r.bind g).run K E=r.run (fun x=>(g x).run K E) E:=by cases r<;>rfl
def Rz.out{T R:Type}(z:T): Rz T→(T→Int→Int→Option R)→Option R
 |.ok x,K=>K x 0 0
 |.er f,K=>K z f.1 f.2
def Gd{T:Type}(z:T)(p:T×Int×Int): Prop:=(p.2.1=0→p.2.2=0)∧(p.2.1≠0→p.1=z)
def findR(nd:List Nd)(n:Int)(key:List UInt8): Option Int:=bif (findS (ndAt nd n) key).2 then some (findS (ndAt nd n) key).1 else none
def kidsR(nd:List Nd)(j:Int): List Int:=match ndAt nd j with|some x=>x.2.2.2.2.2|none=>[]
structure Dk (k:Nat) (nd:List Nd):Prop where
 hk:6000<k
 hn:nd.length≤4000
 ho:∀ x∈nd,okD x
 hc:checkS nd=true
def InD(nd:List Nd)(i:Int): Prop:=0≤i∧i<(nd.length:Int)
theorem Dk.at{k:Nat}{nd:List Nd}(D:Dk k nd){i:Int}(h:InD nd i): ∃ n x,i=((n:Nat):Int)∧ndAt nd i=some x∧At nd n x:=by
 rcases node nd D.hn D.ho i with⟨_,h2⟩|⟨_,n,x,e,h1,h⟩
 ·rw[D.hc,Bool.and_true]at h2
  unfold inR at h2
  rw[dec_t (show i≥0 from h.1),cond_true,dec_t h.2]at h2
  cases h2
 ·exact⟨n,x,e,h1,h⟩
theorem Dk.kids{k:Nat}{nd:List Nd}(D:Dk k nd){i:Int}(h:InD nd i): ∀ j∈kidsR nd i,InD nd j:=by
 obtain⟨n,x,rfl,h1,a⟩:=D.at h
 unfold kidsR
 rw[h1]
 exact a.kids
theorem wq1gh{x:Nd}{key:List UInt8}{i:Nat}(hl:(x.1 != 3)=false→x.2.2.2.2.1.length=x.2.2.2.2.2.length)(h:(findS (some x) key).2=true): (findS (some x) key).1∈x.2.2.2.2.2:=by
 unfold findS at h ⊢
 dsimp only at h ⊢
 cases h3:x.1 != 3 with
 |true=>rw[h3]at h;cases h
 |false =>
  simp only[h3,cond_false]at h ⊢
  cases hi:idxS key x.2.2.2.2.1 0 with
  |none=>rw[hi]at h;cases h
  |some j =>
   have:=idx_lt _ _ _ _ hi
   rw[hl h3]at this
   dsimp only
   rw[List.getD,List.getElem?_eq_getElem (show j<x.2.2.2.2.2.length by omega)]
   exact List.getElem_mem _
theorem Dk.find{k:Nat}{nd:List Nd}(D:Dk k nd){i j:Int}{key:List UInt8}(h:InD nd i)(hf:findR nd i key=some j): InD nd j:=by
 obtain⟨n,x,rfl,h1,a⟩:=D.at h
 unfold findR at hf
 rw[h1]at hf
 cases hb:(findS (some x) key).2 with
 |false=>rw[hb]at hf;cases hf
 |true =>
  rw[hb,cond_true]at hf
  injection hf with hf
  rw[←hf]
  exact a.kids _ (wq1gh (i:=0) a.keys hb)
section
variable {R:Type} {k:Nat} {nd:List Nd} (D:Dk k nd) {i:Int} (h:InD nd i)
include D h
end
end Go.Proofs.YtabkhphoacmcdaaGreatDoor.Pvm
namespace Go.Proofs.YtabkhphoacmcdaaGreatDoor.Pvm
open Go
abbrev Rl:=List UInt8×Int×Int×Nat×Bool×Bool
def has(nd:List Nd)(n:Int)(key:List UInt8): Bool:=(findR nd n key).isSome
section
variable {R:Type} {k:Nat} {nd:List Nd} (D:Dk k nd) {n:Int} (h:InD nd n)
include D h
end
end Go.Proofs.YtabkhphoacmcdaaGreatDoor.Pvm
namespace Go.Proofs.YtabkhphoacmcdaaGreatDoor.Pvm
open Go
abbrev Dm:=List (List UInt8×List Int)
abbrev Br:=List UInt8×(List UInt8×(Bool×(Int×(Int×(Bool×((List UInt8×(Int×(Int×(Nat×(Bool×Bool)))))×List Int))))))
section
variable {R:Type} {k:Nat} {nd:List Nd} (D:Dk k nd) {n:Int} (h:InD nd n)
include D h
end
end Go.Proofs.YtabkhphoacmcdaaGreatDoor.Pvm
namespace Go.Proofs.YtabkhphoacmcdaaGreatDoor.Pvm
open Go
def twinB(b:Br)(key val:List UInt8)(any:Bool): Bool:=bif (bif b.1 == key then b.2.1 == val else false)then b.2.2.1 == any else false
def zRl:Rl:=([],0,0,0,false,false)
def secS(u:Int): Int:=bif u == 1 then 1 else bif u == 2 then 60 else bif u == 3 then 3600 else bif u == 4 then 86400 else 0
theorem wq1i8(k:Nat){R:Type}(u:Int)(K:Int→Option R): wqf2 k u K=K (secS u):=by
 unfold wqf2 wqzw secS
 cases u == 1 with
 |true=>rfl
 |false =>
  cases u == 2 with
  |true=>rfl
  |false =>
   cases u == 3 with
   |true=>rfl
   |false=>cases u == 4<;>rfl
theorem wq1jh(k:Nat){R:Type}(u:Int)(K:Int→Option R): wqgz k u K=K (secS u):=by
 unfold wqgz wq11s
 by_cases h:u<1∨u>4
 ·have e:(bif decide (u<1)then true else decide (u>4))=true:=by
   rcases h with h|h
   ·rw[dec_t h];rfl
   ·rw[dec_t h];cases decide (u<1)<;>rfl
  have n:∀ a:Int,1≤a→a≤4→(u == a)=false:=fun a h1 h2=>by rw[beq_eq_false_iff_ne];omega
  rw[e,cond_true]
  unfold secS
  rw[n 1 (by decide) (by decide),n 2 (by decide) (by decide),n 3 (by decide) (by decide),n 4 (by decide) (by decide)];rfl
 ·have e:(bif decide (u<1)then true else decide (u>4))=false:=by rw[dec_f (by omega),dec_f (by omega)];rfl
  have hi:inb u (([(0:Int),1,60,3600,86400]).length:Int)=true:=inb_t (by omega) (show u<5 by omega)
  rw[e,cond_false,hi,cond_true]
  have:u=1∨u=2∨u=3∨u=4:=by omega
  rcases this with rfl|rfl|rfl|rfl<;>rfl
theorem secS_0(u:Int): (secS u == 0) = !decide (secS u>0):=by
 unfold secS
 cases u == 1<;>cases u == 2<;>cases u == 3<;>cases u == 4<;>rfl
def ruleOK(nm:List UInt8)(u l:Int)(w:Nat)(un:Bool): Bool :=
 (bif un then(u == 0&&l == 0)&&ordX w 0 == 0 else(decide (secS u>0)&&(decide (l≥0)&&decide (l≤4294967295)))&&nearX w)&&(nm == [] || nmB nm)
section
variable {R:Type} (k:Nat) (hk:5000<k)
include hk
theorem wq194(nm:List UInt8)(hn:nm.length≤4000)(u l:Int)(w:Nat)(hw:w<2 ^ 64)(sh un:Bool)(K:Int→Option R): wqhc k nm u l w sh un K=K (bif ruleOK nm u l w un then 0 else 1):=by
 unfold wqhc wqpu ruleOK
 have hz:(0:Nat)<2 ^ 64:=by decide
 simp only[wq1jh,wq1jg k hk hw,wq1ey k hw hz,wqqy k nm hn hk]
 cases un<;>cases nm == []<;>cases nmB nm<;>cases decide (secS u>0)<;>cases decide (l≥0)<;>cases decide (l≤4294967295)<;>cases nearX w<;>cases u == 0<;>cases l == 0<;>cases ordX w 0 == 0<;>rfl
theorem wq195(nm:List UInt8)(hn:nm.length≤4000)(u l:Int)(w:Nat)(hw:w<2 ^ 64)(sh un:Bool)(K:Bool→Option R): wq9z k nm u l w sh un K=K (ruleOK nm u l w un):=by
 have hz:(0:Nat)<2 ^ 64:=by decide
 have ho:fOne<2 ^ 64:=by decide
 have o1:∀ K:Int→Option R,wq57 k w 0 K=K (ordX w 0):=fun K=>wq142 k hw hz K
 have o2:∀ K:Int→Option R,wq57 k w 4607182418800017408 K=K (ordX w fOne):=fun K=>wq142 k hw ho K
 have main:∀ KF:Option R,(bif decide (ordX w 0<0) == false then bif decide (ordX w fOne>0)then KF else wq8k k w (fun y13 y14=>bif y14 then K true else KF)else KF)=bif nearX w then K true else KF:=by
  intro KF
  unfold nearX
  by_cases a:ordX w 0≥0
  ·rw[dec_f (show ¬ ordX w 0<0 by omega),dec_t a,show(false == false)=true from rfl,cond_true]
   by_cases b:ordX w fOne≤0
   ·rw[dec_f (show ¬ ordX w fOne>0 by omega),dec_t b,cond_false]
    have hf:=ord_in hw a b
    have e:wq8k k w (fun y13 y14=>bif y14 then K true else KF)=wrK (sgT false) (fun y13 y14=>bif y14 then K true else KF) (wrS w):=wq1eu k hk hf false _
    rw[e]
    cases wrS w<;>rfl
   ·rw[dec_t (show ordX w fOne>0 by omega),dec_f b,cond_true,Bool.and_false,Bool.and_false];rfl
  ·rw[dec_t (show ordX w 0<0 by omega),dec_f a,show(true == false)=false from rfl,cond_false,Bool.false_and,Bool.and_false];rfl
 have kk:∀ y14:Bool,K y14=bif y14 then K true else K false:=fun y=>by cases y<;>rfl
 have m2:=main (K false)
 unfold wq9z wqgb ruleOK
 simp only[wq1i8,o1,o2,wq1ae k hw hz,wqqz k nm hn hk]
 have e3:(wq8k k w fun y12 y13=>K y13)=wq8k k w (fun y13 y14=>bif y14 then K true else K false):=by
  congr 1
  funext a b
  exact kk b
 have e4:decide (l<0) = !decide (l≥0):=by
  by_cases h:l<0
  ·rw[dec_t h,dec_f (by omega)];rfl
  ·rw[dec_f h,dec_t (by omega)];rfl
 have e5:decide (l>4294967295) = !decide (l≤4294967295):=by
  by_cases h:l≤4294967295
  ·rw[dec_f (by omega),dec_t h];rfl
  ·rw[dec_t (by omega),dec_f h];rfl
 rw[e3,m2,secS_0,e4,e5]
 cases un<;>cases nm == []<;>cases nmB nm<;>cases decide (secS u>0)<;>cases decide (l≥0)<;>cases decide (l≤4294967295)<;>cases nearX w<;>cases u == 0<;>cases l == 0<;>cases ordX w 0 == 0<;>rfl
def ruleEq(a b:Rl): Bool:=(a.1 == b.1&&(a.2.1 == b.2.1&&(a.2.2.1 == b.2.2.1&&(a.2.2.2.2.1 == b.2.2.2.2.1&&a.2.2.2.2.2 == b.2.2.2.2.2))))&&ordX a.2.2.2.1 b.2.2.2.1 == 0
theorem wq1c2(a b:Rl)(ha:a.2.2.2.1<2 ^ 64)(hb:b.2.2.2.1<2 ^ 64)(K:Bool→Option R): wqel k a.1 a.2.1 a.2.2.1 a.2.2.2.1 a.2.2.2.2.1 a.2.2.2.2.2 b.1 b.2.1 b.2.2.1 b.2.2.2.1 b.2.2.2.2.1 b.2.2.2.2.2 K=K (ruleEq a b):=by
 unfold wqel wq11t ruleEq
 rw[wq1ey k ha hb,show fltIs .eql (0:Nat) (0:Nat)=true from by decide +kernel]
 congr 1
 cases ordX a.2.2.2.1 b.2.2.2.1 == 0<;>cases a.1 == b.1<;>cases a.2.1 == b.2.1<;>cases a.2.2.1 == b.2.2.1<;>cases a.2.2.2.2.1 == b.2.2.2.2.1<;>cases a.2.2.2.2.2 == b.2.2.2.2.2<;>rfl
theorem wq1c3(a b:Rl)(ha:a.2.2.2.1<2 ^ 64)(hb:b.2.2.2.1<2 ^ 64)(K:Bool→Option R): wq6f k a.1 a.2.1 a.2.2.1 a.2.2.2.1 a.2.2.2.2.1 a.2.2.2.2.2 b.1 b.2.1 b.2.2.1 b.2.2.2.1 b.2.2.2.2.1 b.2.2.2.2.2 K=K (ruleEq a b):=by
 unfold wq6f wqn0 ruleEq
 rw[wq1ae k ha hb]
 cases a.1 == b.1<;>cases a.2.1 == b.2.1<;>cases a.2.2.1 == b.2.2.1<;>cases a.2.2.2.2.1 == b.2.2.2.2.1<;>cases a.2.2.2.2.2 == b.2.2.2.2.2<;>cases ordX a.2.2.2.1 b.2.2.2.1 == 0<;>rfl
def mayS(b:Br)(dom up:Int): Bool :=
 (b.2.2.2.1 == dom&&b.2.2.2.2.1 == up)&&((nmB b.1&&(decide (b.2.1.length≤128) && !(b.2.2.1 && !(b.2.1 == []))))&&(bif b.2.2.2.2.2.1 then ruleOK b.2.2.2.2.2.2.1.1 b.2.2.2.2.2.2.1.2.1 b.2.2.2.2.2.2.1.2.2.1 b.2.2.2.2.2.2.1.2.2.2.1 b.2.2.2.2.2.2.1.2.2.2.2.2 else ruleEq b.2.2.2.2.2.2.1 zRl))
structure Wb (b:Br):Prop where
 k1:b.1.length≤4000
 k2:b.2.2.2.2.2.2.1.1.length≤4000
 f1:b.2.2.2.2.2.2.1.2.2.2.1<2 ^ 64
 l1:b.2.2.2.2.2.2.2.length≤4000
 v1:b.2.1.length≤4000
omit hk in
theorem len_gt(n:Nat): decide ((n:Int)>128) = !decide (n≤128):=by
 by_cases h:n≤128
 ·rw[dec_f (by omega),dec_t h];rfl
 ·rw[dec_t (by omega),dec_f h];rfl
theorem may_eq(b:Br)(hb:Wb b)(dom up:Int)(K:Bool→Option R): wqhd k b.1 b.2.1 b.2.2.1 b.2.2.2.1 b.2.2.2.2.1 b.2.2.2.2.2.1 b.2.2.2.2.2.2.1.1 b.2.2.2.2.2.2.1.2.1 b.2.2.2.2.2.2.1.2.2.1 b.2.2.2.2.2.2.1.2.2.2.1 b.2.2.2.2.2.2.1.2.2.2.2.1 b.2.2.2.2.2.2.1.2.2.2.2.2 b.2.2.2.2.2.2.2 dom up K=K (mayS b dom up):=by
 have e:=wq1c2 (R:=R) k hk b.2.2.2.2.2.2.1 zRl hb.f1 (by decide)
 unfold wqhd wqyk mayS
 rw[wqqy k _ hb.k1 hk,wq194 k hk _ hb.k2 _ _ _ hb.f1]
 have e':∀ K:Bool→Option R,wqel k b.2.2.2.2.2.2.1.1 b.2.2.2.2.2.2.1.2.1 b.2.2.2.2.2.2.1.2.2.1 b.2.2.2.2.2.2.1.2.2.2.1 b.2.2.2.2.2.2.1.2.2.2.2.1 b.2.2.2.2.2.2.1.2.2.2.2.2 [] 0 0 0 false false K=K (ruleEq b.2.2.2.2.2.2.1 zRl):=e
 rw[e',len_gt]
 have n1:(b.2.2.2.1 != dom) = !(b.2.2.2.1 == dom):=rfl
 have n2:(b.2.2.2.2.1 != up) = !(b.2.2.2.2.1 == up):=rfl
 rw[n1,n2]
 cases b.2.2.2.1 == dom<;>cases b.2.2.2.2.1 == up<;>cases nmB b.1<;>cases decide (b.2.1.length≤128)<;>cases b.2.2.1<;>cases b.2.1 == []<;>cases b.2.2.2.2.2.1<;>first|rfl|(cases ruleOK b.2.2.2.2.2.2.1.1 b.2.2.2.2.2.2.1.2.1 b.2.2.2.2.2.2.1.2.2.1 b.2.2.2.2.2.2.1.2.2.2.1 b.2.2.2.2.2.2.1.2.2.2.2.2<;>rfl)
theorem wq1ji(b:Br)(hb:Wb b)(dom up:Int)(K:Bool→Option R): wq8v k b.1 b.2.1 b.2.2.1 b.2.2.2.1 b.2.2.2.2.1 b.2.2.2.2.2.1 b.2.2.2.2.2.2.1.1 b.2.2.2.2.2.2.1.2.1 b.2.2.2.2.2.2.1.2.2.1 b.2.2.2.2.2.2.1.2.2.2.1 b.2.2.2.2.2.2.1.2.2.2.2.1 b.2.2.2.2.2.2.1.2.2.2.2.2 b.2.2.2.2.2.2.2 dom up K=K (mayS b dom up):=by
 have e:=wq1c3 (R:=R) k hk b.2.2.2.2.2.2.1 zRl hb.f1 (by decide)
 unfold wq8v wqji mayS
 rw[wqqz k _ hb.k1 hk,wq195 k hk _ hb.k2 _ _ _ hb.f1]
 have e':∀ K:Bool→Option R,wq6f k b.2.2.2.2.2.2.1.1 b.2.2.2.2.2.2.1.2.1 b.2.2.2.2.2.2.1.2.2.1 b.2.2.2.2.2.2.1.2.2.2.1 b.2.2.2.2.2.2.1.2.2.2.2.1 b.2.2.2.2.2.2.1.2.2.2.2.2 [] 0 0 0 false false K=K (ruleEq b.2.2.2.2.2.2.1 zRl):=e
 rw[e',len_gt]
 have n1:(b.2.2.2.1 != dom) = !(b.2.2.2.1 == dom):=rfl
 have n2:(b.2.2.2.2.1 != up) = !(b.2.2.2.2.1 == up):=rfl
 rw[n1,n2]
 cases b.2.2.2.1 == dom<;>cases b.2.2.2.2.1 == up<;>cases nmB b.1<;>cases decide (b.2.1.length≤128)<;>cases b.2.2.1<;>cases b.2.1 == []<;>cases b.2.2.2.2.2.1<;>rfl
end
end Go.Proofs.YtabkhphoacmcdaaGreatDoor.Pvm
namespace Go.Proofs.YtabkhphoacmcdaaGreatDoor.Pvm
open Go
def twinC(brs:List Br)(a:List Int)(b:Br): Bool:=a.any fun j=>match brs[j.toNat]? with|some x=>twinB x b.1 b.2.1 b.2.2.1|none=>false
def kidsC(f:Int→List Int→Nat→Option Nat)(brs:List Br)(dom up:Int): List Int→List Int→Nat→Option Nat
 |[],a,next=>some next
 |c::r,a,next=>match brs[next]? with
  |none=>none
  |some b=>bif c == (next:Int)&&(mayS b dom up && !twinC brs a b)then match f (next:Int) b.2.2.2.2.2.2.2 (next+1)with
   |none=>none
   |some n=>kidsC f brs dom up r (a++[c]) n
   else none
def walkC(brs:List Br)(dom:Int): Nat→Int→List Int→Nat→Option Nat
 |0,_,kids,next=>match kids with
  |[]=>some next
  |_=>none
 |g+1,up,kids,next=>kidsC (walkC brs dom g) brs dom up kids [] next
def nxI:Option Nat→Int
 |some n=>(n:Int)
 |none => -1
theorem wq1ag(o:Option Nat): decide (nxI o<0)=o.isNone:=by cases o with
 |none=>rfl
 |some n=>exact dec_f (show ¬ (n:Int)<0 by omega)
def InB(brs:List Br)(a:List Int): Prop:=∀ j∈a,0≤j∧j<(brs.length:Int)
theorem br_at{brs:List Br}{n:Nat}(h:n<brs.length): ∃ b,brs[n]? = some b∧(∀ z,brs.getD n z=b)∧b∈brs:=⟨brs[n],List.getElem?_eq_getElem h,fun z=>by rw[List.getD,List.getElem?_eq_getElem h];rfl,List.getElem_mem _⟩
section
variable {brs:List Br} (hl:brs.length≤4000) (hb:∀ b∈brs,Wb b)
theorem wq108{c:Int}(hc:0≤c∧c<(brs.length:Int))(s:List Int)(b:Br): ∃ x,(∀ z,brs.getD c.toNat z=x)∧inb c (brs.length:Int)=true∧twinC brs (c::s) b=(twinB x b.1 b.2.1 b.2.2.1 || twinC brs s b):=by
 obtain⟨x,e1,e2,_⟩:=br_at (brs:=brs) (n:=c.toNat) (by omega)
 refine⟨x,e2,inb_t hc.1 hc.2,?_⟩
 unfold twinC
 rw[List.any_cons,e1]
theorem wq12h{R:Type}(k:Nat)(d:Dm)(b:Br)(a:List Int)(hla:a.length≤4000)(ha:InB brs a)(K:Dm→List Br→List UInt8→List UInt8→Bool→Int→Int→Bool→List UInt8→Int→Int→Nat→Bool→Bool→List Int→Int→Option R): ∀(s:List Int) (i m:Nat),a.drop i=s→i≤a.length→s.length<m →
 ∃ j:Int,decide (j≥0)=twinC brs s b∧wq1z k m d brs b.1 b.2.1 b.2.2.1 b.2.2.2.1 b.2.2.2.2.1 b.2.2.2.2.2.1 b.2.2.2.2.2.2.1.1 b.2.2.2.2.2.2.1.2.1 b.2.2.2.2.2.2.1.2.2.1 b.2.2.2.2.2.2.1.2.2.2.1 b.2.2.2.2.2.2.1.2.2.2.2.1 b.2.2.2.2.2.2.1.2.2.2.2.2 b.2.2.2.2.2.2.2 a (a.length:Int) (i:Int) K=K d brs b.1 b.2.1 b.2.2.1 b.2.2.2.1 b.2.2.2.2.1 b.2.2.2.2.2.1 b.2.2.2.2.2.2.1.1 b.2.2.2.2.2.2.1.2.1 b.2.2.2.2.2.2.1.2.2.1 b.2.2.2.2.2.2.1.2.2.2.1 b.2.2.2.2.2.2.1.2.2.2.2.1 b.2.2.2.2.2.2.1.2.2.2.2.2 b.2.2.2.2.2.2.2 j
 |s,i,0,_,_,h=>by omega
 |[],i,m+1,hd,hi,hm=>by
  have:=wqf8 hd
  refine⟨-1,rfl,?_⟩
  rw[wq1z,wq3n,dec_f (by omega)];rfl
 |c::s,i,m+1,hd,hi,hm=>by
  obtain⟨hlt,hc,hr⟩:=wq7n hd
  have hm1:c∈a:=by
   have:=hc 0
   rw[List.getD,List.getElem?_eq_getElem hlt]at this
   rw[←this];exact List.getElem_mem _
  obtain⟨x,e1,e2,e3⟩:=wq108 (ha c hm1) s b
  rw[wq1z,wq3n,dec_t (by omega),cond_true,inb_t (by omega) (by omega),cond_true,wq2f,hc]
  unfold wqfc wqp1
  rw[e2,cond_true,e1,e3]
  unfold wqd0 wquy
  have et:(bif (bif x.1 == b.1 then x.2.1 == b.2.1 else false)then x.2.2.1 == b.2.2.1 else false)=twinB x b.1 b.2.1 b.2.2.1:=rfl
  rw[et]
  cases twinB x b.1 b.2.1 b.2.2.1 with
  |true=>exact⟨(i:Int),by rw[Bool.true_or];exact dec_t (by omega),rfl⟩
  |false =>
   dsimp only
   rw[Bool.false_or,cond_false,wq3y (by omega) (by omega),show(i:Int)+1=((i+1:Nat):Int) by omega]
   exact wq12h k d b a hla ha K s (i+1) m hr (by omega) (by simp at hm;omega)
theorem wq1i9{R:Type}(k:Nat)(hk:5000<k)(d:Dm)(b:Br)(a:List Int)(hla:a.length≤4000)(ha:InB brs a)(K:Dm→List Br→List UInt8→List UInt8→Bool→Int→Int→Bool→List UInt8→Int→Int→Nat→Bool→Bool→List Int→Bool→Option R):
 wq37 k a d brs b.1 b.2.1 b.2.2.1 b.2.2.2.1 b.2.2.2.2.1 b.2.2.2.2.2.1 b.2.2.2.2.2.2.1.1 b.2.2.2.2.2.2.1.2.1 b.2.2.2.2.2.2.1.2.2.1 b.2.2.2.2.2.2.1.2.2.2.1 b.2.2.2.2.2.2.1.2.2.2.2.1 b.2.2.2.2.2.2.1.2.2.2.2.2 b.2.2.2.2.2.2.2 K=K d brs b.1 b.2.1 b.2.2.1 b.2.2.2.1 b.2.2.2.2.1 b.2.2.2.2.2.1 b.2.2.2.2.2.2.1.1 b.2.2.2.2.2.2.1.2.1 b.2.2.2.2.2.2.1.2.2.1 b.2.2.2.2.2.2.1.2.2.2.1 b.2.2.2.2.2.2.1.2.2.2.2.1 b.2.2.2.2.2.2.1.2.2.2.2.2 b.2.2.2.2.2.2.2 (twinC brs a b):=by
 unfold wq37 wq7h wq4b wq61
 obtain⟨j,e1,e2⟩:=wq12h k d b a hla ha (fun y19 y20 y21 y22 y23 y24 y25 y26 y27 y28 y29 y30 y31 y32 y33 y34=>K y19 y20 y21 y22 y23 y24 y25 y26 y27 y28 y29 y30 y31 y32 y33 (decide (y34≥0))) a 0 k rfl (Nat.zero_le _) (by omega)
 rw[←e1]
 exact e2
def WOK(brs:List Br)(dom:Int)(g k:Nat): Prop:=∀(R:Type) (d:Dm) (up:Int) (kids:List Int) (next:Nat) (K:Int→Option R),kids.length≤4000→next≤brs.length→wq3o k R d brs kids dom up (next:Int) (9-(g:Int)) K=K (nxI (walkC brs dom g up kids next))
theorem wqx9{l:List Int}{i:Nat}{c:Int}{r:List Int}(h:l.drop i=c::r): l.take (i+1)=l.take i++[c]:=by
 obtain⟨hlt,hc,_⟩:=wq7n h
 have:=hc 0
 rw[List.getD,List.getElem?_eq_getElem hlt]at this
 rw[List.take_succ_eq_append_getElem hlt]
 congr 2
omit hl hb in
theorem wqsq(dom:Int): ∀(g:Nat) (up:Int) (kids:List Int) (next n:Nat),walkC brs dom g up kids next=some n→next≤brs.length→n≤brs.length
 |0,up,kids,next,n,h,hn=>by
  cases kids with
  |nil=>injection h with h;omega
  |cons c r=>cases h
 |g+1,up,kids,next,n,h,hn=>by
  have key:∀(kids a:List Int) (next n:Nat),kidsC (walkC brs dom g) brs dom up kids a next=some n→next≤brs.length→n≤brs.length:=by
   intro kids
   induction kids with
   |nil=>intro a next n h hn;injection h with h;omega
   |cons c r ih =>
    intro a next n h hn
    rw[kidsC]at h
    rcases Nat.lt_or_ge next brs.length with h1|h1
    ·obtain⟨b,e1,_,_⟩:=br_at h1
     rw[e1]at h
     dsimp only at h
     cases hq:(c == (next:Int)&&(mayS b dom up && !twinC brs a b))with
     |false=>rw[hq]at h;cases h
     |true =>
      rw[hq,cond_true]at h
      cases hw:walkC brs dom g (next:Int) b.2.2.2.2.2.2.2 (next+1)with
      |none=>rw[hw]at h;cases h
      |some q =>
       rw[hw]at h
       exact ih _ q n h (wqsq dom g _ _ _ _ hw (by omega))
    ·have:brs[next]? = none:=List.getElem?_eq_none h1
     rw[this]at h;cases h
  exact key kids [] next n h hn
include hl hb
theorem wq1ah{k g:Nat}(hk:5000<k)(hg:g≤8)(dom:Int)(hW:WOK brs dom g k){R:Type}(d:Dm)(up:Int)(kids:List Int)(hkl:kids.length≤4000)(K:Int→Option R): ∀(s:List Int) (i m next:Nat),kids.drop i=s→i≤kids.length→s.length<m→next≤brs.length→InB brs (kids.take i) →
 wq34 k (wq3o k) m kids dom up (next:Int) (9-((g+1:Nat):Int)) d brs kids (kids.length:Int) (i:Int) K=K (nxI (kidsC (walkC brs dom g) brs dom up s (kids.take i) next))
 |s,i,0,_,_,_,h,_,_=>by omega
 |[],i,m+1,next,hd,hi,hm,hn,ha=>by
  have:=wqf8 hd
  rw[wq34,wq77,dec_f (by omega)];rfl
 |c::s,i,m+1,next,hd,hi,hm,hn,ha=>by
  obtain⟨hlt,hc,hr⟩:=wq7n hd
  rw[wq34,wq77,dec_t (by omega),cond_true,inb_t (i:=(i:Int)) (by omega) (by omega),cond_true,wq2f,hc,kidsC]
  by_cases hcn:c=(next:Int)
  ·subst hcn
   have e1:(((next:Nat):Int) != ((next:Nat):Int))=false:=by simp
   rw[e1,cond_false,dec_f (show ¬ (9-((g+1:Nat):Int))>8 by omega)]
   rcases Nat.lt_or_ge next brs.length with h1|h1
   ·obtain⟨b,b1,b2,b3⟩:=br_at h1
    rw[dec_f (show ¬ ((next:Nat):Int)≥(brs.length:Int) by omega),cond_false,inb_t (i:=(next:Int)) (by omega) (by omega)]
    rw[show(false == false)=true from rfl,cond_true,Bool.or_true,cond_true,wq2f,b2,may_eq k hk b (hb b b3),b1]
    have e2:(((next:Nat):Int) == ((next:Nat):Int))=true:=by simp
    dsimp only
    rw[e2,Bool.true_and]
    cases mayS b dom up with
    |false=>rfl
    |true =>
     have hbn:bnd 0 (i:Int) (kids.length:Int)=true:=by
      unfold bnd
      rw[dec_t (by decide),dec_t (by omega),dec_t (by omega)];rfl
     have hcut:cut kids 0 (i:Int)=kids.take i:=by
      unfold cut
      rw[wq2f];rfl
     rw[Bool.not_true,cond_false,cond_true,hbn,cond_true,hcut,wq1i9 k hk d b _ (by rw[List.length_take];omega) ha,Bool.true_and]
     cases twinC brs (kids.take i) b with
     |true=>rfl
     |false =>
      have e3:IntKind.i64.wrap (((next:Nat):Int)+1)=((next+1:Nat):Int):=by rw[wq3y (by omega) (by omega)];omega
      have e4:IntKind.i64.wrap ((9-((g+1:Nat):Int))+1)=9-(g:Int):=by rw[wq3y (by omega) (by omega)];omega
      rw[cond_false,e3,e4,hW R d ((next:Nat):Int) _ (next+1) _ (hb b b3).l1 (by omega),wq1ag,Bool.not_false,cond_true]
      cases hw:walkC brs dom g (next:Int) b.2.2.2.2.2.2.2 (next+1)with
      |none=>rfl
      |some n =>
       have hnn:=wqsq dom g _ _ _ _ hw (by omega)
       have ea:InB brs (kids.take (i+1)):=by
        rw[wqx9 hd]
        intro j hj
        rcases List.mem_append.1 hj with hj|hj
        ·exact ha j hj
        ·rw[List.mem_singleton.1 hj];omega
       have ih:=wq1ah hk hg dom hW d up kids hkl K s (i+1) m n hr (by omega) (by simp at hm;omega) hnn ea
       rw[wqx9 hd]at ih
       rw[wq3y (x:=(i:Int)+1) (by omega) (by omega),show(i:Int)+1=((i+1:Nat):Int) by omega]
       exact ih
   ·have e5:brs[next]? = none:=List.getElem?_eq_none h1
    rw[dec_t (show((next:Nat):Int)≥(brs.length:Int) by omega),e5];rfl
  ·have e1:(c != (next:Int))=true:=by simpa using hcn
   have e2:(c == (next:Int))=false:=by simpa using hcn
   rw[e1]
   cases brs[next]? with
   |none=>rfl
   |some b=>dsimp only;rw[e2];rfl
theorem wok_0{k:Nat}(hk:5000<k)(dom:Int): WOK brs dom 0 (k+1):=by
 intro R d up kids next K hkl hn
 rw[wq3o]
 unfold wqfm
 obtain⟨k1,hk1⟩:∃ k1,k=k1+1:=⟨k-1,by omega⟩
 cases kids with
 |nil =>
  show wq34 k (wq3o k) k [] dom up (next:Int) _ d brs [] _ 0 K=_
  have e:∀ X:Nat→Option R,X k=X (k1+1):=fun X=>by rw[←hk1]
  rw[e (fun q=>wq34 k (wq3o k) q [] dom up (next:Int) _ d brs [] _ 0 K),wq34,wq77,dec_f (by decide)];rfl
 |cons c r =>
  show wq34 k (wq3o k) k (c::r) dom up (next:Int) _ d brs (c::r) _ 0 K=_
  have e:∀ X:Nat→Option R,X k=X (k1+1):=fun X=>by rw[←hk1]
  rw[e (fun q=>wq34 k (wq3o k) q (c::r) dom up (next:Int) _ d brs (c::r) _ 0 K),wq34,wq77,dec_t (by simp),cond_true,inb_t (by omega) (by simp),cond_true,dec_t (show(9-((0:Nat):Int))>8 by decide)]
  generalize (c::r).getD (Int.toNat 0) kI.zero=c'
  cases c' != (next:Int)<;>cases decide (c'≥(brs.length:Int))<;>rfl
theorem wq1ia{k g:Nat}(hk:5000<k)(hg:g≤8)(dom:Int)(hW:WOK brs dom g k): WOK brs dom (g+1) (k+1):=by
 intro R d up kids next K hkl hnx
 rw[wq3o,walkC]
 unfold wqfm
 exact wq1ah hl hb hk hg dom hW d up kids hkl K kids 0 k next rfl (Nat.zero_le _) (by omega) hnx (fun j hj=>by cases hj)
theorem wok(dom:Int): ∀(g k:Nat),5001+g<k→g≤8→WOK brs dom g k
 |g,0,h,_=>by omega
 |0,k+1,h,_=>wok_0 hl hb (by omega) dom
 |g+1,k+1,h,hg=>wq1ia hl hb (by omega) (by omega) dom (wok dom g k (by omega) (by omega))
end
end Go.Proofs.YtabkhphoacmcdaaGreatDoor.Pvm
namespace Go.Proofs.YtabkhphoacmcdaaGreatDoor.Pvm
open Go
def KOK(brs:List Br)(dom:Int)(g k:Nat): Prop:=∀(R:Type) (d:Dm) (up:Int) (kids:List Int) (next:Nat) (K:Int→Option R),kids.length≤4000→next≤brs.length→wq2q k R d brs kids (next:Int) dom up (9-(g:Int)) K=K (nxI (walkC brs dom g up kids next))
section
variable {brs:List Br} (hl:brs.length≤4000) (hb:∀ b∈brs,Wb b)
theorem ktwin{R:Type}(k:Nat)(X:wq4i)(J:List Int→Int→Int→Int→Int→Dm→List Br→Int→Option R)(kids:List Int)(next dom up depth:Int)(d:Dm)(b:Br)(i:Nat)(hi:i<kids.length)(hkl:kids.length≤4000)(ha:InB brs (kids.take i))(K:Int→Option R): ∀(s:List Int) (j m:Nat),(kids.take i).drop j=s→j≤i→s.length<m →
 wq4j k X J m kids next dom up depth d brs (i:Int) b.1 b.2.1 b.2.2.1 b.2.2.2.1 b.2.2.2.2.1 b.2.2.2.2.2.1 b.2.2.2.2.2.2.1.1 b.2.2.2.2.2.2.1.2.1 b.2.2.2.2.2.2.1.2.2.1 b.2.2.2.2.2.2.1.2.2.2.1 b.2.2.2.2.2.2.1.2.2.2.2.1 b.2.2.2.2.2.2.1.2.2.2.2.2 b.2.2.2.2.2.2.2 (j:Int) K=(bif twinC brs s b then K (-1)else X R d brs b.2.2.2.2.2.2.2 (IntKind.i64.wrap (next+1)) dom next (IntKind.i64.wrap (depth+1)) (fun y=>bif decide (y<0)then K (-1)else J kids y dom up depth d brs (IntKind.i64.wrap ((i:Int)+1))))
 |s,j,0,_,_,h=>by omega
 |[],j,m+1,hd,hj,hm=>by
  have h1:=wqf8 hd
  rw[List.length_take]at h1
  rw[wq4j,wq9h,dec_f (by omega)];rfl
 |c::s,j,m+1,hd,hj,hm=>by
  obtain⟨hlt,hc,hr⟩:=wq7n hd
  have hm1:c∈kids.take i:=by
   have:=hc 0
   rw[List.getD,List.getElem?_eq_getElem hlt]at this
   rw[←this];exact List.getElem_mem _
  rw[List.length_take]at hlt
  have hc':∀ z,kids.getD j z=c:=by
   intro z
   have:=hc z
   rw[List.getD,List.getElem?_take_of_lt (by omega)]at this
   exact this
  obtain⟨x,e1,e2,e3⟩:=wq108 (ha c hm1) s b
  rw[wq4j,wq9h,dec_t (by omega),cond_true,inb_t (i:=(j:Int)) (by omega) (by omega),cond_true,wq2f,hc',e2,cond_true,e1,e3]
  have et:(bif (bif x.1 == b.1 then x.2.1 == b.2.1 else false)then x.2.2.1 == b.2.2.1 else false)=twinB x b.1 b.2.1 b.2.2.1:=rfl
  rw[et]
  cases twinB x b.1 b.2.1 b.2.2.1 with
  |true=>rfl
  |false =>
   rw[Bool.false_or,cond_false,wq3y (x:=(j:Int)+1) (by omega) (by omega),show(j:Int)+1=((j+1:Nat):Int) by omega]
   exact ktwin k X J kids next dom up depth d b i hi hkl ha K s (j+1) m hr (by omega) (by simp at hm;omega)
include hl hb
theorem wq1ai{k g:Nat}(hk:5000<k)(hg:g≤8)(dom:Int)(hW:KOK brs dom g k){R:Type}(d:Dm)(up:Int)(kids:List Int)(hkl:kids.length≤4000)(K:Int→Option R): ∀(s:List Int) (i m next:Nat),kids.drop i=s→i≤kids.length→s.length<m→next≤brs.length→InB brs (kids.take i) →
 wq38 k (wq2q k) m kids (next:Int) dom up (9-((g+1:Nat):Int)) d brs (i:Int) K=K (nxI (kidsC (walkC brs dom g) brs dom up s (kids.take i) next))
 |s,i,0,_,_,_,h,_,_=>by omega
 |[],i,m+1,next,hd,hi,hm,hn,ha=>by
  have:=wqf8 hd
  rw[wq38,wq69,dec_f (by omega)];rfl
 |c::s,i,m+1,next,hd,hi,hm,hn,ha=>by
  obtain⟨hlt,hc,hr⟩:=wq7n hd
  rw[wq38,wq69,dec_t (by omega),cond_true,inb_t (i:=(i:Int)) (by omega) (by omega),cond_true,wq2f,hc,kidsC]
  by_cases hcn:c=(next:Int)
  ·subst hcn
   have e1:(((next:Nat):Int) != ((next:Nat):Int))=false:=by simp
   rw[e1,cond_false]
   rcases Nat.lt_or_ge next brs.length with h1|h1
   ·obtain⟨b,b1,b2,b3⟩:=br_at h1
    rw[dec_f (show ¬ ((next:Nat):Int)≥(brs.length:Int) by omega),inb_t (i:=(next:Int)) (by omega) (by omega)]
    rw[show(false == false)=true from rfl,cond_true,Bool.or_true,cond_true,wq2f,b2,wq1ji k hk b (hb b b3),b1]
    have e2:(((next:Nat):Int) == ((next:Nat):Int))=true:=by simp
    dsimp only
    rw[e2,Bool.true_and]
    cases mayS b dom up with
    |false=>rfl
    |true =>
     have kt:=ktwin (brs:=brs) k (wq2q k) (fun s0 s1 s2 s3 s4 s5 s6 s7=>wq38 k (wq2q k) m s0 s1 s2 s3 s4 s5 s6 s7 K) kids (next:Int) dom up (9-((g+1:Nat):Int)) d b i (by omega) hkl ha K (kids.take i) 0 k rfl (Nat.zero_le _) (by rw[List.length_take];omega)
     rw[Bool.not_true,cond_false,cond_true]
     refine kt.trans ?_
     rw[Bool.true_and]
     cases twinC brs (kids.take i) b with
     |true=>rfl
     |false =>
      have e3:IntKind.i64.wrap (((next:Nat):Int)+1)=((next+1:Nat):Int):=by rw[wq3y (by omega) (by omega)];omega
      have e4:IntKind.i64.wrap ((9-((g+1:Nat):Int))+1)=9-(g:Int):=by rw[wq3y (by omega) (by omega)];omega
      rw[cond_false,e3,e4,hW R d ((next:Nat):Int) _ (next+1) _ (hb b b3).l1 (by omega),wq1ag,Bool.not_false,cond_true]
      cases hw:walkC brs dom g (next:Int) b.2.2.2.2.2.2.2 (next+1)with
      |none=>rfl
      |some n =>
       have hnn:=wqsq dom g _ _ _ _ hw (by omega)
       have ea:InB brs (kids.take (i+1)):=by
        rw[wqx9 hd]
        intro j hj
        rcases List.mem_append.1 hj with hj|hj
        ·exact ha j hj
        ·rw[List.mem_singleton.1 hj];omega
       have ih:=wq1ai hk hg dom hW d up kids hkl K s (i+1) m n hr (by omega) (by simp at hm;omega) hnn ea
       rw[wqx9 hd]at ih
       rw[wq3y (x:=(i:Int)+1) (by omega) (by omega),show(i:Int)+1=((i+1:Nat):Int) by omega]
       exact ih
   ·have e5:brs[next]? = none:=List.getElem?_eq_none h1
    rw[dec_t (show((next:Nat):Int)≥(brs.length:Int) by omega),e5];rfl
  ·have e1:(c != (next:Int))=true:=by simpa using hcn
   have e2:(c == (next:Int))=false:=by simpa using hcn
   rw[e1]
   cases brs[next]? with
   |none=>rfl
   |some b=>dsimp only;rw[e2];rfl
theorem kok:∀(g k:Nat) (dom:Int),5001+g<k→g≤8→KOK brs dom g k
 |g,0,dom,h,_=>by omega
 |0,k+1,dom,h,_=>by
  intro R d up kids next K hkl hn
  rw[wq2q]
  unfold wqbs
  obtain⟨k1,hk1⟩:∃ k1,k=k1+1:=⟨k-1,by omega⟩
  cases kids with
  |nil =>
   show wq38 k (wq2q k) k [] (next:Int) dom up _ d brs 0 K=_
   have e:∀ X:Nat→Option R,X k=X (k1+1):=fun X=>by rw[←hk1]
   rw[e (fun q=>wq38 k (wq2q k) q [] (next:Int) dom up _ d brs 0 K),wq38,wq69,dec_f (by decide)];rfl
  |cons c r =>
   rw[dec_t (by simp),dec_t (show(9-((0:Nat):Int))>8 by decide)];rfl
 |g+1,k+1,dom,h,hg=>by
  intro R d up kids next K hkl hnx
  rw[wq2q,walkC]
  unfold wqbs
  rw[dec_f (show ¬ (9-((g+1:Nat):Int))>8 by omega)]
  have e:∀(p:Bool) (u v:Option R),(bif (bif p then false else false)then u else v)=v:=fun p u v=>by cases p<;>rfl
  rw[e]
  exact wq1ai hl hb (by omega) (by omega) dom (kok g k dom (by omega) (by omega)) d up kids hkl K kids 0 k next rfl (Nat.zero_le _) (by omega) hnx (fun j hj=>by cases hj)
end
end Go.Proofs.YtabkhphoacmcdaaGreatDoor.Pvm
namespace Go.Proofs.YtabkhphoacmcdaaGreatDoor.Pvm
open Go
def domsC(brs:List Br): Dm→Dm→Nat→Bool
 |[],a,next=>next == brs.length
 |c::r,a,next=>bif (!a.any fun x=>x.1 == c.1)&&nmB c.1 then match walkC brs (a.length:Int) 8 (-1) c.2 next with
  |none=>false
  |some n=>domsC brs r (a++[c]) n
  else false
def chkS(d:Dm)(brs:List Br): Bool:=bif (decide (1≤d.length)&&decide (d.length≤16))&&decide (brs.length≤500)then domsC brs d [] 0 else false
theorem wq1ez(a b:Nat): (bif (bif decide ((a:Int)<1)then true else decide ((a:Int)>16))then true else decide ((b:Int)>500)) = !((decide (1≤a)&&decide (a≤16))&&decide (b≤500)):=by
 by_cases h1:1≤a
 ·by_cases h2:a≤16
  ·by_cases h3:b≤500
   ·rw[dec_f (show ¬ (a:Int)<1 by omega),dec_f (show ¬ (a:Int)>16 by omega),dec_f (show ¬ (b:Int)>500 by omega),dec_t h1,dec_t h2,dec_t h3];rfl
   ·rw[dec_f (show ¬ (a:Int)<1 by omega),dec_f (show ¬ (a:Int)>16 by omega),dec_t (show(b:Int)>500 by omega),dec_f h3,Bool.and_false];rfl
  ·rw[dec_f (show ¬ (a:Int)<1 by omega),dec_t (show(a:Int)>16 by omega),dec_f h2,Bool.and_false,Bool.false_and];rfl
 ·rw[dec_t (show(a:Int)<1 by omega),dec_f h1,Bool.false_and,Bool.false_and];rfl
structure Wd (d:Dm):Prop where
 n:∀ x∈d,x.1.length≤4000
 l:∀ x∈d,x.2.length≤4000
 t:d.length≤4000
theorem wq1hb(n:Nat)(brs:List Br): ((n:Int) == (brs.length:Int))=(n == brs.length):=by
 by_cases h:n=brs.length
 ·rw[h];simp
 ·have:(n:Int)≠(brs.length:Int):=by omega
  rw[beq_eq_false_iff_ne.2 h,beq_eq_false_iff_ne.2 this]
section
variable {brs:List Br} (hl:brs.length≤4000) (hb:∀ b∈brs,Wb b)
include hl hb
theorem wq12i{R:Type}{k:Nat}(hk:6000<k)(d:Dm)(hd:Wd d)(K:Int→Option R): ∀(s:Dm) (i m next:Nat) (mp:List (List UInt8×Bool)),d.drop i=s→i≤d.length→s.length<m→next≤brs.length→(∀ t,mget Kd.bool t mp=(d.take i).any fun x=>x.1 == t) →
 wq4w k m d brs mp (next:Int) d (d.length:Int) (i:Int) K=K (bif domsC brs s (d.take i) next then 0 else 1)
 |s,i,0,_,_,_,_,h,_,_=>by omega
 |[],i,m+1,next,mp,hs,hi,hm,hn,ht=>by
  have:=wqf8 hs
  rw[wq4w,wqaa,dec_f (by omega),cond_false,domsC]
  have e:((next:Int) != (brs.length:Int)) = !((next:Int) == (brs.length:Int)):=rfl
  rw[e,wq1hb]
  cases next == brs.length<;>rfl
 |c::s,i,m+1,next,mp,hs,hi,hm,hn,ht=>by
  obtain⟨hlt,hc,hr⟩:=wq7n hs
  have hcm:c∈d:=by
   have:=hc (Kd.zero (@Kd.pr Kd.str (@Kd.sl kI)))
   rw[List.getD,List.getElem?_eq_getElem hlt]at this
   rw[←this];exact List.getElem_mem _
  rw[wq4w,wqaa,dec_t (by omega),cond_true,inb_t (i:=(i:Int)) (by omega) (by omega),cond_true,wq2f,hc,ht,domsC,wqqy k _ (hd.n c hcm) (by omega)]
  cases(d.take i).any fun x=>x.1 == c.1 with
  |true=>rfl
  |false =>
   cases nmB c.1 with
   |false=>rfl
   |true =>
    have hw:=wok hl hb (i:Int) 8 k (by omega) (by omega) R d (-1) c.2 next (fun y12=>cond (decide (y12<0)) (K 1) (wq4w k m d brs (mset Kd.bool c.1 true mp) y12 d (d.length:Int) (IntKind.i64.wrap ((i:Int)+1)) K)) (hd.l c hcm) hn
    have hlen:(d.take i).length=i:=by rw[List.length_take];omega
    rw[hlen]
    show wqi2 k d brs c.2 (i:Int) (-1) (next:Int) 1 _=_
    refine Eq.trans hw ?_
    have ex:(bif !false&&true then(match walkC brs (i:Int) 8 (-1) c.2 next with|none=>false|some n=>domsC brs s (d.take i++[c]) n)else false)=(match walkC brs (i:Int) 8 (-1) c.2 next with|none=>false|some n=>domsC brs s (d.take i++[c]) n):=rfl
    rw[wq1ag,ex]
    cases hq:walkC brs (i:Int) 8 (-1) c.2 next with
    |none=>rfl
    |some n =>
     have hnn:=wqsq (i:Int) 8 _ _ _ _ hq (by omega)
     have e:d.take (i+1)=d.take i++[c]:=by
      rw[List.take_succ_eq_append_getElem hlt]
      have:=hc (Kd.zero (@Kd.pr Kd.str (@Kd.sl kI)))
      rw[List.getD,List.getElem?_eq_getElem hlt]at this
      congr 2
     have ih:=wq12i hk d hd K s (i+1) m n (mset Kd.bool c.1 true mp) hr (by omega) (by simp at hm;omega) hnn (by
      intro t
      rw[wq1af,ht,e,List.any_append]
      congr 1
      have:(t == c.1)=(c.1 == t):=by
       by_cases h:t=c.1
       ·rw[h]
       ·have h':c.1≠t:=fun q=>h q.symm
        rw[beq_eq_false_iff_ne.2 h,beq_eq_false_iff_ne.2 h']
      rw[this];simp)
     rw[e]at ih
     have ew:IntKind.i64.wrap ((i:Int)+1)=((i+1:Nat):Int):=by
      have:=hd.t
      rw[wq3y (by omega) (by omega)];omega
     rw[ew]
     exact ih
theorem wqpf{R:Type}{k:Nat}(hk:6000<k)(d:Dm)(hd:Wd d)(K:Int→Option R): wq6b k d brs K=K (bif chkS d brs then 0 else 1):=by
 unfold wq6b wqk3 chkS
 rw[wq1ez]
 cases(decide (1≤d.length)&&decide (d.length≤16))&&decide (brs.length≤500)with
 |false=>rfl
 |true=>exact wq12i hl hb hk d hd K d 0 k 0 [] rfl (Nat.zero_le _) (by have:=hd.t;omega) (Nat.zero_le _) (fun t=>rfl)
theorem rdup{R:Type}(k:Nat)(J:Dm→List Br→Int→Int→Option R)(d:Dm)(hd:Wd d)(next:Int)(i:Nat)(hi:i<d.length)(c:List UInt8×List Int)(hc:∀ z,d.getD i z=c)(K:Bool→Option R): ∀(s:Dm) (j m:Nat),(d.take i).drop j=s→j≤i→s.length<m →
 wq4r k J m d brs next (i:Int) (j:Int) K=(bif (s.any fun x=>x.1 == c.1)then K false else wqfi k d brs c.2 next (i:Int) (-1) 1 (fun y10=>cond (decide (y10<0)) (K false) (J d brs y10 (IntKind.i64.wrap ((i:Int)+1)))))
 |s,j,0,_,_,h=>by omega
 |[],j,m+1,hs,hj,hm=>by
  have h1:=wqf8 hs
  rw[List.length_take]at h1
  rw[wq4r,wqb9,dec_f (by omega),cond_false,inb_t (i:=(i:Int)) (by omega) (by omega),cond_true,wq2f,hc];rfl
 |x::s,j,m+1,hs,hj,hm=>by
  obtain⟨hlt,hx,hr⟩:=wq7n hs
  rw[List.length_take]at hlt
  have hx':∀ z,d.getD j z=x:=by
   intro z
   have:=hx z
   rw[List.getD,List.getElem?_take_of_lt (by omega)]at this
   exact this
  rw[wq4r,wqb9,dec_t (by omega),cond_true,inb_t (i:=(j:Int)) (by omega) (by omega),cond_true,inb_t (i:=(i:Int)) (by omega) (by omega),cond_true,wq2f,wq2f,hc,hx',List.any_cons]
  cases x.1 == c.1 with
  |true=>rfl
  |false =>
   have:=hd.t
   rw[Bool.false_or,cond_false,wq3y (x:=(j:Int)+1) (by omega) (by omega),show(j:Int)+1=((j+1:Nat):Int) by omega]
   exact rdup k J d hd next i hi c hc K s (j+1) m hr (by omega) (by simp at hm;omega)
theorem wq12j{R:Type}{k:Nat}(hk:6000<k)(d:Dm)(hd:Wd d)(K:Bool→Option R): ∀(s:Dm) (i m next:Nat),d.drop i=s→i≤d.length→s.length<m→next≤brs.length →
 wq3t k m d brs (next:Int) (i:Int) K=K (domsC brs s (d.take i) next)
 |s,i,0,_,_,_,h,_=>by omega
 |[],i,m+1,next,hs,hi,hm,hn=>by
  have:=wqf8 hs
  rw[wq3t,wq8w,dec_f (by omega),cond_false,domsC,wq1hb]
 |c::s,i,m+1,next,hs,hi,hm,hn=>by
  obtain⟨hlt,hc,hr⟩:=wq7n hs
  have hcm:c∈d:=by
   have:=hc (Kd.zero (@Kd.pr Kd.str (@Kd.sl kI)))
   rw[List.getD,List.getElem?_eq_getElem hlt]at this
   rw[←this];exact List.getElem_mem _
  have hlen:(d.take i).length=i:=by rw[List.length_take];omega
  have rd:=rdup hl hb k (fun s0 s1 s2 s3=>wq3t k m s0 s1 s2 s3 K) d hd (next:Int) i hlt c hc K (d.take i) 0 k rfl (Nat.zero_le _) (by have:=hd.t;omega)
  rw[wq3t,wq8w,dec_t (by omega),cond_true,inb_t (i:=(i:Int)) (by omega) (by omega),cond_true,wq2f,hc,domsC,wqqz k _ (hd.n c hcm) (by omega),hlen]
  cases nmB c.1 with
  |false=>cases(d.take i).any fun x=>x.1 == c.1<;>rfl
  |true =>
   refine Eq.trans (show _=wq4r k (fun s0 s1 s2 s3=>wq3t k m s0 s1 s2 s3 K) k d brs (next:Int) (i:Int) ((0:Nat):Int) K from rfl) (rd.trans ?_)
   cases(d.take i).any fun x=>x.1 == c.1 with
   |true=>rfl
   |false =>
    have hw:=kok hl hb 8 k (i:Int) (by omega) (by omega) R d (-1) c.2 next (fun y12=>cond (decide (y12<0)) (K false) (wq3t k m d brs y12 (IntKind.i64.wrap ((i:Int)+1)) K)) (hd.l c hcm) hn
    refine Eq.trans (show _=wq2q k R d brs c.2 (next:Int) (i:Int) (-1) (9-((8:Nat):Int)) (fun y12=>cond (decide (y12<0)) (K false) (wq3t k m d brs y12 (IntKind.i64.wrap ((i:Int)+1)) K))from rfl) (hw.trans ?_)
    have ex:(bif !false&&true then(match walkC brs (i:Int) 8 (-1) c.2 next with|none=>false|some n=>domsC brs s (d.take i++[c]) n)else false)=(match walkC brs (i:Int) 8 (-1) c.2 next with|none=>false|some n=>domsC brs s (d.take i++[c]) n):=rfl
    rw[wq1ag,ex]
    cases hq:walkC brs (i:Int) 8 (-1) c.2 next with
    |none=>rfl
    |some n =>
     have hnn:=wqsq (i:Int) 8 _ _ _ _ hq (by omega)
     have e:d.take (i+1)=d.take i++[c]:=by
      rw[List.take_succ_eq_append_getElem hlt]
      have:=hc (Kd.zero (@Kd.pr Kd.str (@Kd.sl kI)))
      rw[List.getD,List.getElem?_eq_getElem hlt]at this
      congr 2
     have ih:=wq12j hk d hd K s (i+1) m n hr (by omega) (by simp at hm;omega) hnn
     rw[e]at ih
     have ew:IntKind.i64.wrap ((i:Int)+1)=((i+1:Nat):Int):=by
      have:=hd.t
      rw[wq3y (by omega) (by omega)];omega
     rw[ew]
     exact ih
theorem wq14a{R:Type}{k:Nat}(hk:6000<k)(d:Dm)(hd:Wd d)(K:Bool→Option R): wqan k d brs K=K (chkS d brs):=by
 unfold wqan wqn9 chkS
 rw[wq1ez]
 cases(decide (1≤d.length)&&decide (d.length≤16))&&decide (brs.length≤500)with
 |false=>rfl
 |true=>exact wq12j hl hb hk d hd K d 0 k 0 rfl (Nat.zero_le _) (by have:=hd.t;omega) (Nat.zero_le _)
end
end Go.Proofs.YtabkhphoacmcdaaGreatDoor.Pvm
namespace Go.Proofs.YtabkhphoacmcdaaGreatDoor.Pvm
open Go
section
variable (k:Nat) (hk:6000<k) {R:Type}
include hk
end
end Go.Proofs.YtabkhphoacmcdaaGreatDoor.Pvm
namespace Go.Proofs.YtabkhphoacmcdaaGreatDoor.Pvm
open Go Go.Proofs
end Go.Proofs.YtabkhphoacmcdaaGreatDoor.Pvm
namespace Go.Proofs.YtabkhphoacmcdaaGreatDoor.Pvm
open Go
structure Lb (b:Br):Prop where
 a1:b.1.length≤3000
 a2:b.2.1.length≤3000
 a3:b.2.2.2.2.2.2.1.1.length≤3000
 a4:b.2.2.2.2.2.2.2.length≤3000
end Go.Proofs.YtabkhphoacmcdaaGreatDoor.Pvm
namespace Go.Proofs.YtabkhphoacmcdaaGreatDoor.Pvm
open Go Go.Proofs
theorem wq1jj(x:Int)(n:Nat)(h:0<n): -(n:Int)<x.tmod n∧x.tmod n<n:=by
 cases x with
 |ofNat m =>
  have:(Int.ofNat m).tmod (n:Int)=((m % n:Nat):Int):=rfl
  have h2:=Nat.mod_lt m h
  rw[this];omega
 |negSucc m =>
  have:(Int.negSucc m).tmod (n:Int) = -((Nat.succ m % n:Nat):Int):=rfl
  have h2:=Nat.mod_lt (Nat.succ m) h
  rw[this];omega
theorem wq109(k:Nat)(x:Int)(n:Nat)(h:0<n)(hn:n≤4000): ∃ v:Nat,v<n∧∀ {R:Type} (K:Int→Option R),wq42 k x (n:Int) K=K (v:Int):=by
 obtain⟨h1,h2⟩:=wq1jj x n h
 by_cases hq:x.tmod (n:Int)<0
 ·refine⟨(x.tmod (n:Int)+n).toNat,by omega,fun K => ?_⟩
  unfold wq42 wqcq
  rw[ine_t (by omega),cond_true,dec_t hq,cond_true,wq3y (by omega) (by omega)]
  congr 1;omega
 ·refine⟨(x.tmod (n:Int)).toNat,by omega,fun K => ?_⟩
  unfold wq42 wqcq
  rw[ine_t (by omega),cond_true,dec_f hq,cond_false]
  congr 1;omega
section
variable (k:Nat) (hk:6000<k) (L:List Int) (hL:L.length≤4000)
include hL
theorem wqjn(at':Nat)(ha:at'≤L.length)(n:Nat)(h:0<n)(hn:n≤4000): ∃ a v:Nat,a≤L.length∧v<n∧∀ {R:Type} (K:List Int→Int→Int→Option R),wq6 k L (at':Int) (n:Int) K=K L (a:Int) (v:Int):=by
 by_cases hl:at'<L.length
 ·obtain⟨v,hv,e⟩:=wq109 k (L.getD at' kI.zero) n h hn
  refine⟨at'+1,v,hl,hv,fun K => ?_⟩
  unfold wq6 wq9i
  have e1:IntKind.i64.wrap ((at':Int)+1)=((at'+1:Nat):Int):=by rw[wq3y (by omega) (by omega)];omega
  have e2:IntKind.i64.wrap (((at'+1:Nat):Int)-1)=(at':Int):=by rw[wq3y (by omega) (by omega)];omega
  rw[dec_f (by omega),cond_false,e1,e2,inb_t (by omega) (by omega),cond_true,wq2f,e]
 ·refine⟨at',0,ha,h,fun K => ?_⟩
  unfold wq6 wq9i
  rw[dec_t (by omega),cond_true];rfl
theorem tof_eq(at':Nat)(ha:at'≤L.length)(l:List (List UInt8))(h:0<l.length)(hn:l.length≤4000): ∃(a:Nat) (x:List UInt8),a≤L.length∧x∈l∧∀ {R:Type} (K:List Int→Int→List UInt8→Option R),wqn k L (at':Int) l K=K L (a:Int) x:=by
 obtain⟨a,v,h1,h2,e⟩:=wqjn k L hL at' ha l.length h hn
 refine⟨a,l[v],h1,List.getElem_mem _,fun K => ?_⟩
 unfold wqn wqfx
 rw[e,inb_t (by omega) (by omega),cond_true,wq2f,List.getD,List.getElem?_eq_getElem h2];rfl
end
def okW(w:Nat): Prop:=w<2 ^ 64∧nearX w=true
def six:List (List UInt8):=[[48,46,56],[48,46,53],[48],[49],[48,46,51,51,51,51,51,51],[48,46,48,48,48,48,48,49]]
theorem w1:okW 4605380978949069210:=⟨by decide,by kernel_rfl⟩
theorem w2:okW 4602678819172646912:=⟨by decide,by kernel_rfl⟩
theorem w3:okW 0:=⟨by decide,by kernel_rfl⟩
theorem w4:okW 4607182418800017408:=⟨by decide,by kernel_rfl⟩
theorem w5:okW 4599676413416267078:=⟨by decide,by kernel_rfl⟩
theorem w6:okW 4517329193108106637:=⟨by decide,by kernel_rfl⟩
theorem read6(k:Nat){s:List UInt8}(hs:s∈six): ∃ w,okW w∧∀ {R:Type} (K:Nat→Bool→Option R),wqf5 (k+300) s K=K w true:=by
 simp only[six,List.mem_cons,List.mem_nil_iff,or_false]at hs
 rcases hs with rfl|rfl|rfl|rfl|rfl|rfl
 ·exact⟨_,w1,fun K=>by kernel_rfl⟩
 ·exact⟨_,w2,fun K=>by kernel_rfl⟩
 ·exact⟨_,w3,fun K=>by kernel_rfl⟩
 ·exact⟨_,w4,fun K=>by kernel_rfl⟩
 ·exact⟨_,w5,fun K=>by kernel_rfl⟩
 ·exact⟨_,w6,fun K=>by kernel_rfl⟩
structure GoodR (r:Rl):Prop where
 n:r.1.length≤4000
 f:r.2.2.2.1<2 ^ 64
 o:ruleOK r.1 r.2.1 r.2.2.1 r.2.2.2.1 r.2.2.2.2.2=true
theorem good_u(nm:List UInt8)(hn:(nm == [] || nmB nm)=true)(hl:nm.length≤4000)(sh:Bool): GoodR (nm,(0,(0,(0,(sh,true))))):=by
 refine⟨hl,(by decide:(0:Nat)<2 ^ 64),?_⟩
 show((((0:Int) == 0&&(0:Int) == 0)&&ordX 0 0 == 0)&&(nm == [] || nmB nm))=true
 rw[hn];decide
theorem good_l(nm:List UInt8)(hn:(nm == [] || nmB nm)=true)(hl:nm.length≤4000)(u l:Int)(hu:secS u>0)(h0:0≤l)(h1:l≤4294967295)(w:Nat)(hw:okW w)(sh:Bool): GoodR (nm,(u,(l,(w,(sh,false))))):=by
 refine⟨hl,hw.1,?_⟩
 show(((decide (secS u>0)&&(decide (l≥0)&&decide (l≤4294967295)))&&nearX w)&&(nm == [] || nmB nm))=true
 rw[hn,hw.2,dec_t hu,dec_t h0,dec_t h1];rfl
theorem names3{s:List UInt8}(hs:s∈([[111,110,101],[97,124,98],[120]]:List (List UInt8))): (s == [] || nmB s)=true∧s.length≤4000:=by
 simp only[List.mem_cons,List.mem_nil_iff,or_false]at hs
 rcases hs with rfl|rfl|rfl<;>exact⟨by decide,by decide⟩
def lim7:List Int:=[3,10,1,5,0,100,4294967295]
theorem lim_in(v:Nat)(h:v<7): ∃ l:Int,(0≤l∧l≤4294967295)∧∀ z,lim7.getD v z=l:=by
 match v,h with
 |0,_=>exact⟨3,by decide,fun _=>rfl⟩
 |1,_=>exact⟨10,by decide,fun _=>rfl⟩
 |2,_=>exact⟨1,by decide,fun _=>rfl⟩
 |3,_=>exact⟨5,by decide,fun _=>rfl⟩
 |4,_=>exact⟨0,by decide,fun _=>rfl⟩
 |5,_=>exact⟨100,by decide,fun _=>rfl⟩
 |6,_=>exact⟨4294967295,by decide,fun _=>rfl⟩
theorem wq1jk(v:Nat)(h:v<4): ∃ u:Int,secS u>0∧IntKind.i64.wrap ((1:Int)+(v:Int))=u:=by
 refine⟨1+(v:Int),?_,wq3y (by omega) (by omega)⟩
 match v,h with
 |0,_=>decide
 |1,_=>decide
 |2,_=>decide
 |3,_=>decide
section
variable (k:Nat) (L:List Int) (hL:L.length≤4000)
include hL
theorem wq1aj(nm:List UInt8)(hn:(nm == [] || nmB nm)=true)(hl:nm.length≤4000)(sh:Bool)(at':Nat)(ha:at'≤L.length): ∃(a:Nat) (r:Rl),a≤L.length∧GoodR r∧∀ {R:Type} (K:List Int→Int→List UInt8→Int→Int→Nat→Bool→Bool→Option R),wq6 (k+300) L (at':Int) 8 (fun y14 y15 y16=>cond (y16 == 0) (K y14 y15 nm 0 0 0 sh true) (wq6 (k+300) y14 y15 4 (fun y17 y18 y19=>wq6 (k+300) y17 y18 7 (fun y20 y21 y22=>cond (inb y22 (([(3:Int),10,1,5,0,100,4294967295]).length:Int)) (wqn (k+300) y20 y21 six (fun y23 y24 y25=>wqf5 (k+300) y25 (fun y26 y27=>K y23 y24 nm (IntKind.i64.wrap ((1:Int)+y19)) (([(3:Int),10,1,5,0,100,4294967295]).getD y22.toNat kI.zero) y26 sh false))) none))))=K L (a:Int) r.1 r.2.1 r.2.2.1 r.2.2.2.1 r.2.2.2.2.1 r.2.2.2.2.2:=by
 obtain⟨a1,v1,h1,g1,e1⟩:=wqjn (k+300) L hL at' ha 8 (by decide) (by decide)
 by_cases hv:v1=0
 ·subst hv
  exact⟨a1,_,h1,good_u nm hn hl sh,fun K=>(e1 _).trans rfl⟩
 ·obtain⟨a2,v2,h2,g2,e2⟩:=wqjn (k+300) L hL a1 h1 4 (by decide) (by decide)
  obtain⟨a3,v3,h3,g3,e3⟩:=wqjn (k+300) L hL a2 h2 7 (by decide) (by decide)
  obtain⟨a4,s,h4,g4,e4⟩:=tof_eq (k+300) L hL a3 h3 six (by decide) (by decide)
  obtain⟨w,hw,e5⟩:=read6 k g4
  obtain⟨u,hu,e6⟩:=wq1jk v2 g2
  obtain⟨l,hl',e7⟩:=lim_in v3 g3
  refine⟨a4,_,h4,good_l nm hn hl u l hu hl'.1 hl'.2 w hw sh,fun K=>(e1 _).trans ?_⟩
  rw[ieq_f (by omega),cond_false]
  refine(e2 _).trans ((e3 _).trans ?_)
  rw[inb_t (by omega) (by show(v3:Int)<7;omega),cond_true]
  refine(e4 _).trans ((e5 _).trans ?_)
  rw[e6,wq2f]
  show K L (a4:Int) nm u (lim7.getD v3 kI.zero) w sh false=_
  rw[e7]
theorem wq1ib(at':Nat)(ha:at'≤L.length): ∃(a:Nat) (r:Rl),a≤L.length∧GoodR r∧∀ {R:Type} (K:List Int→Int→List UInt8→Int→Int→Nat→Bool→Bool→Option R),wq1o (k+300) L (at':Int) K=K L (a:Int) r.1 r.2.1 r.2.2.1 r.2.2.2.1 r.2.2.2.2.1 r.2.2.2.2.2:=by
 obtain⟨a1,v1,h1,g1,e1⟩:=wqjn (k+300) L hL at' ha 6 (by decide) (by decide)
 obtain⟨a2,v2,h2,g2,e2⟩:=wqjn (k+300) L hL a1 h1 8 (by decide) (by decide)
 by_cases hv:v2=0
 ·subst hv
  obtain⟨a3,s,h3,g3,e3⟩:=tof_eq (k+300) L hL a2 h2 [[111,110,101],[97,124,98],[120]] (by decide) (by decide)
  obtain⟨n1,n2⟩:=names3 g3
  obtain⟨a,r,h4,g4,e4⟩:=wq1aj k L hL s n1 n2 ((v1:Int) == 0) a3 h3
  refine⟨a,r,h4,g4,fun K => ?_⟩
  unfold wq1o wqe1
  refine(e1 _).trans ((e2 _).trans ?_)
  refine Eq.trans (show _=wqn (k+300) L (a2:Int) _ _ from rfl) ((e3 _).trans (Eq.trans rfl (e4 K)))
 ·obtain⟨a,r,h4,g4,e4⟩:=wq1aj k L hL [] (by decide) (by decide) ((v1:Int) == 0) a2 h2
  refine⟨a,r,h4,g4,fun K => ?_⟩
  unfold wq1o wqe1
  refine(e1 _).trans ((e2 _).trans ?_)
  rw[ieq_f (by omega),cond_false]
  exact Eq.trans rfl (e4 K)
end
end Go.Proofs.YtabkhphoacmcdaaGreatDoor.Pvm
namespace Go.Proofs.YtabkhphoacmcdaaGreatDoor.Pvm
open Go
theorem wq16s(f:Int→List Int→Nat→Option Nat)(brs:List Br)(dom up:Int)(c:Int): ∀(out a:List Int) (next:Nat),kidsC f brs dom up (out++[c]) a next=match kidsC f brs dom up out a next with|none=>none|some n=>kidsC f brs dom up [c] (a++out) n
 |[],a,next=>by rw[List.nil_append,List.append_nil];rfl
 |x::r,a,next=>by
  rw[List.cons_append,kidsC,kidsC]
  cases brs[next]? with
  |none=>rfl
  |some b =>
   dsimp only
   cases x == (next:Int)&&(mayS b dom up && !twinC brs a b)with
   |false=>rfl
   |true =>
    rw[cond_true,cond_true]
    cases f (next:Int) b.2.2.2.2.2.2.2 (next+1)with
    |none=>rfl
    |some n =>
     dsimp only
     rw[wq16s f brs dom up c r (a++[x]) n,List.append_assoc];rfl
def Qm(n0:Nat)(new:List Br)(out:List Int)(dom up:Int)(g:Nat): Prop:=∀ pre post:List Br,pre.length=n0→kidsC (walkC (pre++new++post) dom g) (pre++new++post) dom up out [] n0=some (n0+new.length)
theorem wq1ic(brs:List Br)(dom:Int)(g:Nat)(up:Int)(next:Nat): walkC brs dom g up [] next=some next:=by cases g<;>rfl
def withK(b:Br)(ks:List Int): Br:=(b.1,(b.2.1,(b.2.2.1,(b.2.2.2.1,(b.2.2.2.2.1,(b.2.2.2.2.2.1,(b.2.2.2.2.2.2.1,ks)))))))
theorem may_K(b:Br)(ks:List Int)(dom up:Int): mayS (withK b ks) dom up=mayS b dom up:=rfl
theorem twin_K(brs:List Br)(a:List Int)(b:Br)(ks:List Int): twinC brs a (withK b ks)=twinC brs a b:=rfl
theorem wq1jl{pre post new:List Br}{a:List Int}{n0:Nat}(hp:pre.length=n0)(ha:∀ j∈a,(n0:Int)≤j∧j<((n0+new.length:Nat):Int))(pre' post':List Br)(hp':pre'.length=n0)(b:Br): twinC (pre++new++post) a b=twinC (pre'++new++post') a b:=by
 unfold twinC
 induction a with
 |nil=>rfl
 |cons j r ih =>
  rw[List.any_cons,List.any_cons,ih (fun x hx=>ha x (List.mem_cons_of_mem _ hx))]
  congr 1
  obtain⟨h1,h2⟩:=ha j (List.mem_cons_self ..)
  have e:∀ p q:List Br,p.length=n0→(p++new++q)[j.toNat]? = new[j.toNat-n0]? := by
   intro p q h
   rw[List.append_assoc,List.getElem?_append_right (by omega),h,List.getElem?_append_left (by omega)]
  rw[e pre post hp,e pre' post' hp']
theorem Qm_nil(n0:Nat)(dom up:Int)(g:Nat): Qm n0 [] [] dom up g:=fun pre post h=>rfl
theorem wq1hc {n0:Nat} {new:List Br} {out:List Int} {dom up:Int} {g:Nat} (h:Qm n0 new out dom up g) (ho:∀ j∈out,(n0:Int)≤j∧j<((n0+new.length:Nat):Int)) (b:Br) (ks:List Int) (sub:List Br) (brs:List Br) (hbr:brs.length=n0) (hm:mayS b dom up=true) (ht:twinC (brs++new) out b=false)
 (hs:∀ pre post:List Br,pre.length=n0+new.length+1→walkC (pre++sub++post) dom g ((n0+new.length:Nat):Int) ks (n0+new.length+1)=some (n0+new.length+1+sub.length)) :
 Qm n0 (new++[withK b ks]++sub) (out++[((n0+new.length:Nat):Int)]) dom up g:=by
 intro pre post hp
 have e1:pre++(new++[withK b ks]++sub)++post=pre++new++([withK b ks]++sub++post):=by simp only[List.append_assoc]
 have e2:pre++(new++[withK b ks]++sub)++post=(pre++new++[withK b ks])++sub++post:=by simp only[List.append_assoc]
 have h1:=h pre ([withK b ks]++sub++post) hp
 rw[←e1]at h1
 rw[wq16s,h1]
 dsimp only
 rw[List.nil_append,kidsC]
 have e3:(pre++(new++[withK b ks]++sub)++post)[n0+new.length]? = some (withK b ks):=by
  rw[e1,List.getElem?_append_right (by rw[List.length_append];omega),List.length_append,hp,Nat.sub_self];rfl
 rw[e3]
 dsimp only
 have e4:twinC (pre++(new++[withK b ks]++sub)++post) out (withK b ks)=false:=by
  rw[twin_K,e1,wq1jl hp ho brs [] hbr,List.append_nil,ht]
 rw[may_K,hm,e4,beq_self_eq_true]
 have e5:=hs (pre++new++[withK b ks]) post (by simp only[List.length_append,List.length_cons,List.length_nil];omega)
 rw[←e2]at e5
 show(match walkC _ dom g ((n0+new.length:Nat):Int) ks (n0+new.length+1)with|none=>none|some n=>kidsC _ _ dom up [] _ n)=_
 rw[e5]
 show some _=some _
 congr 1
 simp only[List.length_append,List.length_cons,List.length_nil];omega
def keys5:List (List UInt8):=[[117,115,101,114],[105,112],[112,97,116,104],[97,32,98],[107,44,61,124,37]]
def vals7:List (List UInt8):=[[97,108],[98,111,98],[],[120,32,121],[49,48,46,48,46,48,46,49],[0,255],[97,34,98,39,35]]
theorem key_in(v:Nat)(h:v<3): ∃ s:List UInt8,nmB s=true∧s.length≤4000∧∀ z,keys5.getD v z=s:=by
 match v,h with
 |0,_=>exact⟨[117,115,101,114],by decide,by decide,fun _=>rfl⟩
 |1,_=>exact⟨[105,112],by decide,by decide,fun _=>rfl⟩
 |2,_=>exact⟨[112,97,116,104],by decide,by decide,fun _=>rfl⟩
theorem val_in{s:List UInt8}(hs:s∈vals7): s.length≤128:=by
 simp only[vals7,List.mem_cons,List.mem_nil_iff,or_false]at hs
 rcases hs with rfl|rfl|rfl|rfl|rfl|rfl|rfl<;>decide
theorem fitsM{n:Nat}(h:n≤4000)(b:Nat)(hb:b≤1000): fits n 1 b=true:=by
 have h1:(n+1)*b≤4001*1000:=Nat.mul_le_mul (by omega) hb
 have h2:maxN≥4001:=by decide
 unfold fits
 rw[dec_t (by omega),dec_t (by omega)];rfl
theorem wq196{α : Type}: ∀(p s:List α) (b x : α),(p++b::s).set p.length x=p++x::s
 |[],s,b,x=>rfl
 |a::p,s,b,x=>by
  show(a::(p++b::s)).set (p.length+1) x=a::(p++x::s)
  rw[List.set_cons_succ,wq196 p s b x]
theorem wq197{α : Type}: ∀(p s:List α) (b z : α),(p++b::s).getD p.length z=b
 |[],s,b,z=>rfl
 |a::p,s,b,z=>by
  show(a::(p++b::s)).getD (p.length+1) z=b
  rw[List.getD_cons_succ,wq197 p s b z]
structure Wk (b:Br):Prop extends Wb b where
 l4:(b.2.2.2.2.2.2.2).length≤40
structure Inv (n0:Nat) (new:List Br) (out:List Int) (dom up:Int) (g:Nat):Prop where
 sz:n0+new.length≤40
 ol:out.length≤new.length
 oi:∀ j∈out,(n0:Int)≤j∧j<((n0+new.length:Nat):Int)
 wb:∀ b∈new,Wk b
 q:Qm n0 new out dom up g
def MB(e k:Nat): Prop:=∀(L:List Int) (at':Nat) (d:Dm) (brs:List Br) (dom up:Int),L.length≤4000→at'≤L.length→brs.length≤40→∃(a:Nat) (new:List Br) (out:List Int),a≤L.length∧Inv brs.length new out dom up (4+e)∧∀ {R:Type} (K:List Int→Int→Dm→List Br→List Int→Option R),wqq k R L (at':Int) d brs dom up (4-(e:Int)) K=K L (a:Int) d (brs++new) out
section
variable (k:Nat) (L:List Int) (hL:L.length≤4000) (d:Dm) (brs:List Br) (dom up:Int)
include hL
theorem wq1f0(e:Nat)(he:e≤3)(hM:∀ e',e=e'+1→MB e' k)(new:List Br)(out:List Int)(hI:Inv brs.length new out dom up (4+e))(at':Nat)(ha:at'≤L.length)(b:Br)(hb:withK b []=b)(hm:mayS b dom up=true)(hw:Wb b)(hlt:brs.length+new.length<40)(ht:twinC (brs++new) out b=false): ∃(a:Nat) (new':List Br) (out':List Int),a≤L.length∧Inv brs.length new' out' dom up (4+e)∧∀ {R:Type} (J:List Int→Int→Dm→List Br→List Int→Option R),
 (bif fits out.length 1 8 then bif fits (brs++new).length 1 136 then bif decide ((4-(e:Int))<4) == true then wq6 k L (at':Int) 3 (fun y33 y34 y35=>bif y35 == 0 then wqq k R y33 y34 d ((brs++new)++[b]) dom ((brs++new).length:Int) (IntKind.i64.wrap ((4-(e:Int))+1)) (fun y36 y37 y38 y39 y40=>bif inb ((brs++new).length:Int) (y39.length:Int)then J y36 y37 y38 (List.set y39 ((brs++new).length:Int).toNat (withK (y39.getD ((brs++new).length:Int).toNat kdT56.zero) y40)) (out++[((brs++new).length:Int)])else none)else J y33 y34 d ((brs++new)++[b]) (out++[((brs++new).length:Int)]))else J L (at':Int) d ((brs++new)++[b]) (out++[((brs++new).length:Int)])else none else none)=J L (a:Int) d (brs++new') out':=by
 have hlen:(brs++new).length=brs.length+new.length:=List.length_append ..
 have hf1:fits out.length 1 8=true:=fitsM (by have:=hI.ol;omega) 8 (by decide)
 have hf2:fits (brs++new).length 1 136=true:=fitsM (by omega) 136 (by decide)
 have plain:Inv brs.length (new++[b]) (out++[((brs++new).length:Int)]) dom up (4+e):=by
  have q:=wq1hc hI.q hI.oi b [] [] brs rfl hm ht (fun pre post h=>by rw[wq1ic];rfl)
  rw[hb,List.append_nil]at q
  refine⟨by rw[List.length_append];simp only[List.length_cons,List.length_nil];omega,by simp only[List.length_append,List.length_cons,List.length_nil];have:=hI.ol;omega,fun j hj => ?_,fun x hx => ?_,by rw[hlen];exact q⟩
  ·simp only[List.length_append,List.length_cons,List.length_nil]
   rcases List.mem_append.1 hj with hj|hj
   ·have:=hI.oi j hj;omega
   ·rw[List.mem_singleton.1 hj];rw[hlen];omega
  ·rcases List.mem_append.1 hx with hx|hx
   ·exact hI.wb x hx
   ·rw[List.mem_singleton.1 hx];exact⟨hw,by rw[←hb];exact Nat.zero_le _⟩
 have flat:∀(a:Nat) {R:Type} (J:List Int→Int→Dm→List Br→List Int→Option R),J L (a:Int) d ((brs++new)++[b]) (out++[((brs++new).length:Int)])=J L (a:Int) d (brs++(new++[b])) (out++[((brs++new).length:Int)]):=fun a R J=>by rw[List.append_assoc]
 by_cases hd:(4-(e:Int))<4
 ·obtain⟨a1,v1,h1,g1,e1⟩:=wqjn k L hL at' ha 3 (by decide) (by decide)
  by_cases hv:v1=0
  ·subst hv
   obtain⟨e',rfl⟩:∃ e',e=e'+1:=⟨e-1,by omega⟩
   obtain⟨a2,sub,ks,h2,I2,e2⟩:=hM e' rfl L a1 d ((brs++new)++[b]) dom ((brs++new).length:Int) hL h1 (by rw[List.length_append,hlen];simp only[List.length_cons,List.length_nil];omega)
   have hl2:((brs++new)++[b]).length=brs.length+new.length+1:=by rw[List.length_append,hlen];rfl
   refine⟨a2,new++[withK b ks]++sub,out++[((brs++new).length:Int)],h2,?_,?_⟩
   ·have s2:=I2.sz
    have o2:=I2.ol
    rw[hl2]at s2
    refine⟨by simp only[List.length_append,List.length_cons,List.length_nil];omega,by simp only[List.length_append,List.length_cons,List.length_nil];have:=hI.ol;omega,fun j hj => ?_,fun x hx => ?_,?_⟩
    ·simp only[List.length_append,List.length_cons,List.length_nil]
     rcases List.mem_append.1 hj with hj|hj
     ·have:=hI.oi j hj;omega
     ·rw[List.mem_singleton.1 hj];rw[hlen];omega
    ·rcases List.mem_append.1 hx with hx|hx
     ·rcases List.mem_append.1 hx with hx|hx
      ·exact hI.wb x hx
      ·rw[List.mem_singleton.1 hx];exact⟨⟨hw.k1,hw.k2,hw.f1,by show ks.length≤4000;omega,hw.v1⟩,by show ks.length≤40;omega⟩
     ·exact I2.wb x hx
    ·rw[hlen]
     refine wq1hc hI.q hI.oi b ks sub brs rfl hm ht (fun pre post h => ?_)
     have q2:=I2.q
     rw[hl2,hlen]at q2
     exact q2 pre post h
   ·intro R J
    rw[hf1,hf2,cond_true,cond_true,dec_t hd,show((true:Bool) == true)=true from rfl,cond_true]
    refine(e1 _).trans ?_
    have ew:IntKind.i64.wrap ((4-((e'+1:Nat):Int))+1)=4-(e':Int):=by rw[wq3y (by omega) (by omega)];omega
    rw[show(((0:Nat):Int) == 0)=true from rfl,cond_true,ew]
    refine(e2 _).trans ?_
    rw[inb_t (by omega) (by simp only[List.length_append,List.length_cons,List.length_nil];omega),cond_true,wq2f]
    have ea:(brs++new)++[b]++sub=(brs++new)++b::sub:=by simp only[List.append_assoc,List.cons_append,List.nil_append]
    rw[ea,wq197,wq196]
    congr 1
    simp only[List.append_assoc,List.cons_append,List.nil_append]
  ·refine⟨a1,_,_,h1,plain,fun J => ?_⟩
   rw[hf1,hf2,cond_true,cond_true,dec_t hd,show((true:Bool) == true)=true from rfl,cond_true]
   refine(e1 _).trans ?_
   rw[ieq_f (by omega),cond_false]
   exact flat a1 J
 ·refine⟨at',_,_,ha,plain,fun J => ?_⟩
  rw[hf1,hf2,cond_true,cond_true,dec_f hd]
  exact flat at' J
end
end Go.Proofs.YtabkhphoacmcdaaGreatDoor.Pvm
namespace Go.Proofs.YtabkhphoacmcdaaGreatDoor.Pvm
open Go
def RuleAt(k:Nat): Prop:=∀(L:List Int),L.length≤4000→∀ at':Nat,at'≤L.length→∃(a:Nat) (r:Rl),a≤L.length∧GoodR r∧∀ {R:Type} (K:List Int→Int→List UInt8→Int→Int→Nat→Bool→Bool→Option R),wq1o k L (at':Int) K=K L (a:Int) r.1 r.2.1 r.2.2.1 r.2.2.2.1 r.2.2.2.2.1 r.2.2.2.2.2
theorem wq1jm{k:Nat}(h:300≤k): RuleAt k:=by
 obtain⟨j,rfl⟩:∃ j,k=j+300:=⟨k-300,by omega⟩
 exact fun L hL at' ha=>wq1ib j L hL at' ha
theorem wq1f1{R:Type}(k:Nat)(X:wq1w)(XK:wq27)(XV:wq1r)(XN:wq1y)(XO:wq2e)(XR:wq2v)(J:List Int→Int→Dm→List Br→Int→Int→Int→List Int→Int→Int→Option R)(L:List Int)(at':Int)(d:Dm)(cur:List Br)(dom up dep:Int)(out:List Int)(n i:Int)(b:Br)(dm up2:Int)(has:Bool)(nm:List UInt8)(u l:Int)(w:Nat)(sh un:Bool)(ks:List Int)(K:List Int→Int→Dm→List Br→List Int→Option R)(hlo:out.length≤4000)(ha:InB cur out): ∀(s:List Int) (j m:Nat) (met:Bool),out.drop j=s→j≤out.length→s.length<m →
 wqt k X XK XV XN XO XR J m L at' d cur dom up dep out n i b.1 b.2.1 b.2.2.1 dm up2 has nm u l w sh un ks met (j:Int) K=wqt k X XK XV XN XO XR J 1 L at' d cur dom up dep out n i b.1 b.2.1 b.2.2.1 dm up2 has nm u l w sh un ks (met || twinC cur s b) (out.length:Int) K
 |s,j,0,met,_,_,h=>by omega
 |[],j,m+1,met,hd,hj,hm=>by
  have h1:=wqf8 hd
  have h2:j=out.length:=by omega
  have h3:(met || twinC cur [] b)=met:=by cases met<;>rfl
  subst h2
  rw[h3,wqt,wqt]
  unfold wq39
  rw[dec_f (show ¬ (out.length:Int)<(out.length:Int) by omega)];rfl
 |c::s,j,m+1,met,hd,hj,hm=>by
  obtain⟨hlt,hc,hr⟩:=wq7n hd
  have hm1:c∈out:=by
   have:=hc 0
   rw[List.getD,List.getElem?_eq_getElem hlt]at this
   rw[←this];exact List.getElem_mem _
  obtain⟨x,e1,e2,e3⟩:=wq108 (ha c hm1) s b
  have ih:=wq1f1 k X XK XV XN XO XR J L at' d cur dom up dep out n i b dm up2 has nm u l w sh un ks K hlo ha s (j+1) m (met || twinB x b.1 b.2.1 b.2.2.1) hr (by omega) (by simp at hm;omega)
  rw[e3,←Bool.or_assoc,←ih,wqt]
  unfold wq39
  rw[dec_t (show(j:Int)<(out.length:Int) by omega),cond_true,inb_t (i:=(j:Int)) (by omega) (by omega),cond_true,wq2f,hc,e2,cond_true,e1]
  have em:(bif met then true else bif (bif x.1 == b.1 then x.2.2.1 == b.2.2.1 else false)then x.2.1 == b.2.1 else false)=(met || twinB x b.1 b.2.1 b.2.2.1):=by
   unfold twinB
   cases met<;>cases x.1 == b.1<;>cases x.2.2.1 == b.2.2.1<;>cases x.2.1 == b.2.1<;>rfl
  rw[em,wq3y (x:=(j:Int)+1) (by omega) (by omega),show(j:Int)+1=((j+1:Nat):Int) by omega]
theorem may_mk(key val:List UInt8)(any:Bool)(dom up:Int)(has:Bool)(r:Rl)(h1:nmB key=true)(h2:val.length≤128)(h3:any=true→val=[])(h4:(bif has then ruleOK r.1 r.2.1 r.2.2.1 r.2.2.2.1 r.2.2.2.2.2 else ruleEq r zRl)=true): mayS (key,(val,(any,(dom,(up,(has,(r,[]))))))) dom up=true:=by
 show((dom == dom&&up == up)&&((nmB key&&(decide (val.length≤128) && !(any && !(val == []))))&&(bif has then ruleOK r.1 r.2.1 r.2.2.1 r.2.2.2.1 r.2.2.2.2.2 else ruleEq r zRl)))=true
 rw[h1,h4,dec_t h2,beq_self_eq_true,beq_self_eq_true]
 cases any with
 |false=>rfl
 |true=>rw[h3 rfl];rfl
section
variable (k:Nat) (hk:6000<k) (L:List Int) (hL:L.length≤4000) (d:Dm) (brs:List Br) (dom up:Int)
include hk hL
theorem wq1ak(e:Nat)(he:e≤3)(hM:∀ e',e=e'+1→MB e' k)(n:Nat)(hn:n≤3): ∀(m i:Nat) (new:List Br) (out:List Int) (at':Nat),i≤n→n-i<m→at'≤L.length→Inv brs.length new out dom up (4+e) →
 ∃(a:Nat) (new':List Br) (out':List Int),a≤L.length∧Inv brs.length new' out' dom up (4+e)∧∀ {R:Type} (K:List Int→Int→Dm→List Br→List Int→Option R),wq1d k (wqq k) (@wq1c k) (@wqz k) (@wq6 k) (@wqn k) (@wq1o k) m L (at':Int) d (brs++new) dom up (4-(e:Int)) out (n:Int) (i:Int) K=K L (a:Int) d (brs++new') out'
 |0,i,new,out,at',_,h,_,_=>by omega
 |m+1,i,new,out,at',hi,hm,ha,hI=>by
  have hlen:(brs++new).length=brs.length+new.length:=List.length_append ..
  by_cases hc:i<n∧brs.length+new.length<40
  ·obtain⟨c1,c2⟩:=hc
   obtain⟨a1,v1,h1,g1,e1⟩:=wqjn k L hL at' ha 3 (by decide) (by decide)
   obtain⟨key,k1,k2,k3⟩:=key_in v1 g1
   obtain⟨a2,v2,h2,g2,e2⟩:=wqjn k L hL a1 h1 2 (by decide) (by decide)
   obtain⟨any,hany⟩:∃ any:Bool,any=((v2:Int) == 0):=⟨_,rfl⟩
   have v:∃(a3:Nat) (val:List UInt8),a3≤L.length∧val.length≤128∧(any=true→val=[])∧∀ {R:Type} (E:List Int→Int→List UInt8→Option R),(bif !any then wqz k (fun y22=>wqn k L (a2:Int) y22 (fun y23 y24 y25=>E y23 y24 y25))else E L (a2:Int) [])=E L (a3:Int) val:=by
    cases any with
    |true=>exact⟨a2,[],h2,by decide,fun _=>rfl,fun E=>rfl⟩
    |false =>
     obtain⟨a3,val,h3,g3,e3⟩:=tof_eq k L hL a2 h2 vals7 (by decide) (by decide)
     exact⟨a3,val,h3,val_in g3,fun h=>(by cases h),fun E=>e3 _⟩
   obtain⟨a3,val,h3,q1,q2,e3⟩:=v
   have hib:InB (brs++new) out:=fun j hj=>by have:=hI.oi j hj;rw[hlen];omega
   have hol:out.length≤4000:=by have:=hI.ol;omega
   have ew:IntKind.i64.wrap ((i:Int)+1)=((i+1:Nat):Int):=by rw[wq3y (by omega) (by omega)];omega
   have head:∀ {R:Type} (K:List Int→Int→Dm→List Br→List Int→Option R),wq1d k (wqq k) (@wq1c k) (@wqz k) (@wq6 k) (@wqn k) (@wq1o k) (m+1) L (at':Int) d (brs++new) dom up (4-(e:Int)) out (n:Int) (i:Int) K=wqt k (wqq k) (@wq1c k) (@wqz k) (@wq6 k) (@wqn k) (@wq1o k) (fun s0 s1 s2 s3 s4 s5 s6 s7 s8 s9=>wq1d k (wqq k) (@wq1c k) (@wqz k) (@wq6 k) (@wqn k) (@wq1o k) m s0 s1 s2 s3 s4 s5 s6 s7 s8 s9 K) 1 L (a3:Int) d (brs++new) dom up (4-(e:Int)) out (n:Int) (i:Int) key val any dom up false [] 0 0 0 false false [] (twinC (brs++new) out (key,(val,(any,(dom,(up,(false,(zRl,[])))))))) (out.length:Int) K:=by
    intro R K
    rw[wq1d]
    unfold wq3u
    rw[dec_t (show(i:Int)<(n:Int) by omega),dec_t (show((brs++new).length:Int)<40 by rw[hlen];omega),cond_true,cond_true]
    have eK:∀ {R:Type} (K:List (List UInt8)→Option R),wq1c k K=K keys5:=fun K=>rfl
    rw[eK]
    refine(e1 _).trans ?_
    rw[inb_t (by omega) (by show(v1:Int)<5;omega),cond_true]
    refine(e2 _).trans ?_
    rw[←hany,wq2f]
    have e3':=e3 (fun y23 y24 y25=>wqt k (wqq k) (@wq1c k) (@wqz k) (@wq6 k) (@wqn k) (@wq1o k) (fun s0 s1 s2 s3 s4 s5 s6 s7 s8 s9=>wq1d k (wqq k) (@wq1c k) (@wqz k) (@wq6 k) (@wqn k) (@wq1o k) m s0 s1 s2 s3 s4 s5 s6 s7 s8 s9 K) k y23 y24 d (brs++new) dom up (4-(e:Int)) out (n:Int) (i:Int) (keys5.getD v1 Kd.str.zero) y25 any dom up false [] 0 0 0 false false [] false 0 K)
    refine Eq.trans e3' ?_
    rw[k3]
    exact wq1f1 k _ _ _ _ _ _ _ L (a3:Int) d (brs++new) dom up _ out _ _ (key,(val,(any,(dom,(up,(false,(zRl,[]))))))) dom up false [] 0 0 0 false false [] K hol hib out 0 k false rfl (Nat.zero_le _) (by omega)
   cases ht:twinC (brs++new) out (key,(val,(any,(dom,(up,(false,(zRl,[])))))))with
   |true =>
    obtain⟨a,new',out',f1,f2,f3⟩:=wq1ak e he hM n hn m (i+1) new out a3 (by omega) (by omega) h3 hI
    refine⟨a,new',out',f1,f2,fun K=>(head K).trans ?_⟩
    rw[ht,wqt]
    unfold wq39
    rw[dec_f (show ¬ (out.length:Int)<(out.length:Int) by omega),cond_false,cond_true,ew]
    exact f3 K
   |false =>
    obtain⟨a5,v5,h5,g5,e5⟩:=wqjn k L hL a3 h3 5 (by decide) (by decide)
    by_cases hv:v5=0
    ·subst hv
     obtain⟨a7,new7,out7,h7,I7,e7⟩:=wq1f0 k L hL d brs dom up e he hM new out hI a5 h5 (key,(val,(any,(dom,(up,(false,(zRl,[]))))))) rfl (may_mk key val any dom up false zRl k1 q1 q2 (by decide)) ⟨k2,by show([]:List UInt8).length≤4000;decide,by show 0<2 ^ 64;decide,by show([]:List Int).length≤4000;decide,by show val.length≤4000;omega⟩ c2 ht
     obtain⟨a,new',out',f1,f2,f3⟩:=wq1ak e he hM n hn m (i+1) new7 out7 a7 (by omega) (by omega) h7 I7
     refine⟨a,new',out',f1,f2,fun K=>(head K).trans ?_⟩
     rw[ht,wqt]
     unfold wq39
     rw[dec_f (show ¬ (out.length:Int)<(out.length:Int) by omega),cond_false,cond_false]
     refine(e5 _).trans ?_
     rw[dec_f (show ¬ ((0:Nat):Int)>0 by omega),cond_false,ew]
     have e7':=e7 (fun y36 y37 y38 y41 o=>wq1d k (wqq k) (@wq1c k) (@wqz k) (@wq6 k) (@wqn k) (@wq1o k) m y36 y37 y38 y41 dom up (4-(e:Int)) o (n:Int) ((i+1:Nat):Int) K)
     exact Eq.trans e7' (f3 K)
    ·obtain⟨a6,r,h6,gr,e6⟩:=wq1jm (show 300≤k by omega) L hL a5 h5
     obtain⟨a7,new7,out7,h7,I7,e7⟩:=wq1f0 k L hL d brs dom up e he hM new out hI a6 h6 (key,(val,(any,(dom,(up,(true,(r,[]))))))) rfl (may_mk key val any dom up true r k1 q1 q2 gr.o) ⟨k2,gr.n,gr.f,by show([]:List Int).length≤4000;decide,by show val.length≤4000;omega⟩ c2 ht
     obtain⟨a,new',out',f1,f2,f3⟩:=wq1ak e he hM n hn m (i+1) new7 out7 a7 (by omega) (by omega) h7 I7
     refine⟨a,new',out',f1,f2,fun K=>(head K).trans ?_⟩
     rw[ht,wqt]
     unfold wq39
     rw[dec_f (show ¬ (out.length:Int)<(out.length:Int) by omega),cond_false,cond_false]
     refine(e5 _).trans ?_
     rw[dec_t (show((v5:Nat):Int)>0 by omega),cond_true,ew]
     refine(e6 _).trans ?_
     have e7':=e7 (fun y36 y37 y38 y41 o=>wq1d k (wqq k) (@wq1c k) (@wqz k) (@wq6 k) (@wqn k) (@wq1o k) m y36 y37 y38 y41 dom up (4-(e:Int)) o (n:Int) ((i+1:Nat):Int) K)
     exact Eq.trans e7' (f3 K)
  ·refine⟨at',new,out,ha,hI,fun K => ?_⟩
   rw[wq1d]
   unfold wq3u
   have hq:(bif decide ((i:Int)<(n:Int))then decide (((brs++new).length:Int)<40)else false)=false:=by
    by_cases c1:i<n
    ·rw[dec_t (show(i:Int)<(n:Int) by omega),cond_true,dec_f (by rw[hlen];omega)]
    ·rw[dec_f (show ¬ (i:Int)<(n:Int) by omega),cond_false]
   rw[hq,cond_false]
end
theorem mb:∀(e k:Nat),e≤3→6001+e<k→MB e k
 |e,0,_,h=>by omega
 |e,k+1,he,hk=>by
  intro L at' d brs dom up hL ha hb
  have hM:∀ e',e=e'+1→MB e' k:=fun e' h=>by subst h;exact mb e' k (by omega) (by omega)
  obtain⟨a1,v1,h1,g1,e1⟩:=wqjn k L hL at' ha 3 (by decide) (by decide)
  obtain⟨a,new,out,f1,f2,f3⟩:=wq1ak k (by omega) L hL d brs dom up e he hM (1+v1) (by omega) k 0 [] [] a1 (Nat.zero_le _) (by omega) h1 ⟨hb,Nat.le_refl _,fun j hj=>(by cases hj),fun b hb=>(by cases hb),Qm_nil _ _ _ _⟩
  refine⟨a,new,out,f1,f2,fun K => ?_⟩
  rw[wqq]
  unfold wq7t
  refine(e1 _).trans ?_
  have ew:IntKind.i64.wrap ((1:Int)+(v1:Int))=((1+v1:Nat):Int):=by rw[wq3y (by omega) (by omega)];omega
  rw[ew]
  have:=f3 K
  rw[List.append_nil]at this
  exact this
end Go.Proofs.YtabkhphoacmcdaaGreatDoor.Pvm
namespace Go.Proofs.YtabkhphoacmcdaaGreatDoor.Pvm
open Go
def nmD(i:Nat): List UInt8:=match i with
 |0=>[115,104,111,112]
 |_=>[112,97,121]
theorem wq1id{α : Type}(p:List α)(b z : α): (p++[b]).getD p.length z=b:=wq197 p [] b z
theorem wq1jn{α : Type}(p:List α)(b x : α): (p++[b]).set p.length x=p++[x]:=wq196 p [] b x
theorem wq1f2(k:Nat)(hk:6010<k)(L:List Int)(hL:L.length≤4000)(at':Nat)(ha:at'≤L.length)(ds:Dm)(hds:ds.length≤100)(nm:List UInt8)(brs:List Br)(dom:Int)(hb:brs.length≤40): ∃(a:Nat) (new:List Br) (ks:List Int),a≤L.length∧Inv brs.length new ks dom (-1) 7∧∀ {R:Type} (J:List Int→Int→Dm→List Br→Option R),wq63 k L (at':Int) (ds++[(nm,[])]) brs dom (-1) 1 (fun y16 y17 y18 y19 y20=>bif inb (ds.length:Int) (y18.length:Int)then @SH Dm R (List.set y18 (ds.length:Int).toNat ((y18.getD (ds.length:Int).toNat (Kd.zero (@Kd.pr Kd.str (@Kd.sl kI)))).1,y20)) (fun y21=>J y16 y17 y21 y19)else none)=J L (a:Int) (ds++[(nm,ks)]) (brs++new):=by
 obtain⟨a,new,ks,h1,I,e⟩:=mb 3 k (by decide) (by omega) L at' (ds++[(nm,[])]) brs dom (-1) hL ha hb
 refine⟨a,new,ks,h1,I,fun J => ?_⟩
 refine Eq.trans (show _=wqq k _ L (at':Int) (ds++[(nm,[])]) brs dom (-1) (4-((3:Nat):Int)) _ from rfl) ((e _).trans ?_)
 rw[inb_t (by omega) (by simp only[List.length_append,List.length_cons,List.length_nil];omega),cond_true,wq2f]
 show J L (a:Int) (List.set (ds++[(nm,[])]) ds.length (((ds++[(nm,[])]).getD ds.length (Kd.zero (@Kd.pr Kd.str (@Kd.sl kI)))).1,ks)) (brs++new)=_
 rw[wq1jn]
 have:(ds++[(nm,([]:List Int))]).getD ds.length (Kd.zero (@Kd.pr Kd.str (@Kd.sl kI)))=(nm,[]):=wq1id ds (nm,[]) _
 rw[this]
theorem wq1jo{ks:List Int}{new:List Br}(I:Inv 0 new ks 0 (-1) 7): chkS [(nmD 0,ks)] new=true:=by
 have q:=I.q [] [] rfl
 have hs:=I.sz
 have e0:([]++new++[]:List Br)=new:=by simp
 rw[e0]at q
 unfold chkS
 rw[dec_t (show new.length≤500 by omega)]
 show domsC new [(nmD 0,ks)] [] 0=true
 rw[domsC]
 have n0:nmB (nmD 0)=true:=by decide
 show(bif true&&nmB (nmD 0)then(match kidsC (walkC new 0 7) new 0 (-1) ks [] 0 with|none=>false|some n=>domsC new [] ([]++[(nmD 0,ks)]) n)else false)=true
 rw[n0,q]
 show(0+new.length == new.length)=true
 rw[Nat.zero_add];simp
theorem wq1jp{ks ks':List Int}{new new':List Br}(I:Inv 0 new ks 0 (-1) 7)(hsz:new.length+new'.length≤500)(h:kidsC (walkC (new++new') 1 7) (new++new') 1 (-1) ks' [] new.length=some (new.length+new'.length)): chkS [(nmD 0,ks),(nmD 1,ks')] (new++new')=true:=by
 have q:=I.q [] new' rfl
 have hs:=I.sz
 rw[List.nil_append]at q
 unfold chkS
 rw[dec_t (show(new++new').length≤500 by rw[List.length_append];omega)]
 show domsC (new++new') [(nmD 0,ks),(nmD 1,ks')] [] 0=true
 rw[domsC]
 have n0:nmB (nmD 0)=true:=by decide
 have n1:nmB (nmD 1)=true:=by decide
 show(bif true&&nmB (nmD 0)then(match kidsC (walkC (new++new') 0 7) (new++new') 0 (-1) ks [] 0 with|none=>false|some n=>domsC (new++new') [(nmD 1,ks')] ([]++[(nmD 0,ks)]) n)else false)=true
 rw[n0,q]
 show domsC (new++new') [(nmD 1,ks')] [(nmD 0,ks)] (0+new.length)=true
 rw[Nat.zero_add,domsC]
 have hd:([(nmD 0,ks)].any fun x=>x.1 == nmD 1)=false:=rfl
 show(bif (!([(nmD 0,ks)].any fun x=>x.1 == nmD 1))&&nmB (nmD 1)then(match kidsC (walkC (new++new') 1 7) (new++new') 1 (-1) ks' [] new.length with|none=>false|some n=>domsC (new++new') [] ([(nmD 0,ks)]++[(nmD 1,ks')]) n)else false)=true
 rw[hd,n1,h]
 show(new.length+new'.length == (new++new').length)=true
 rw[List.length_append];simp
theorem wq1hd(k m:Nat){R:Type}(s0:Dm)(s1:List Br)(L:List Int)(at':Int)(d:Dm)(b:List Br)(n i:Int)(h:¬ i<n)(K:Dm→List Br→Option R): wq10 k (m+1) s0 s1 L at' d b n i K=K d b:=by
 rw[wq10,wq48,dec_f h];rfl
def doms3:List (List UInt8):=[[115,104,111,112],[112,97,121],[97,124,98]]
theorem wq1f3(k:Nat){R:Type}(K:List (List UInt8)→Option R): wq8a k K=K doms3:=rfl
theorem fitsD(d:Dm)(h:d.length≤4000)(y:@Kd.T (@Kd.pr Kd.str (@Kd.sl kI))): fits d.length (@List.length (@Kd.T (@Kd.pr Kd.str (@Kd.sl kI))) [y]) 40=true:=fitsM h 40 (by decide)
theorem cfg_0(k:Nat)(hk:6010<k)(L:List Int)(hL:L.length≤4000)(at':Nat)(ha:at'≤L.length)(n:Nat)(hn:0<n): ∃(a:Nat) (new:List Br) (ks:List Int),a≤L.length∧Inv 0 new ks 0 (-1) 7∧∀ {R:Type} (m:Nat) (K:Dm→List Br→Option R),wq10 k (m+1) [] [] L (at':Int) [] [] (n:Int) 0 K=wq10 k m [] [] L (a:Int) [(nmD 0,ks)] new (n:Int) 1 K:=by
 obtain⟨a,new,ks,h1,I,e⟩:=wq1f2 k hk L hL at' ha [] (by decide) (nmD 0) [] 0 (by decide)
 refine⟨a,new,ks,h1,I,fun m K => ?_⟩
 rw[wq10]
 unfold wq48
 rw[dec_t (show(0:Int)<(n:Int) by omega),cond_true,wqup,wq1f3,inb_t (show(0:Int)≤0 by decide) (by decide),cond_true,fitsD [] (by decide),cond_true,show(((0:Int) == 0) == false)=false from rfl,cond_false,show IntKind.i64.wrap ((0:Int)+1)=1 by decide]
 exact e (fun y16 y17 y21 y19=>wq10 k m [] [] y16 y17 y21 y19 (n:Int) 1 K)
theorem cfg_1(k:Nat)(hk:6010<k)(L:List Int)(hL:L.length≤4000)(at':Nat)(ha:at'≤L.length)(x:List UInt8×List Int)(b:List Br)(hb:b.length≤40): ∃(a:Nat) (new:List Br) (ks:List Int),a≤L.length∧b.length+new.length≤40∧ks.length≤40∧(∀ y∈new,Wk y)∧(kidsC (walkC (b++new) 1 7) (b++new) 1 (-1) ks [] b.length=some (b.length+new.length))∧∀ {R:Type} (m:Nat) (K:Dm→List Br→Option R),wq10 k (m+1) [] [] L (at':Int) [x] b 2 1 K=wq10 k m [] [] L (a:Int) [x,(nmD 1,ks)] (b++new) 2 2 K:=by
 obtain⟨a1,v1,h1,g1,e1⟩:=wqjn k L hL at' ha 2 (by decide) (by decide)
 by_cases hv:v1=0
 ·subst hv
  obtain⟨a,new,ks,h2,I,e⟩:=wq1f2 k hk L hL a1 h1 [x] (by show 1≤100;decide) (nmD 1) b 1 hb
  have q:=I.q b [] rfl
  rw[List.append_nil]at q
  refine⟨a,new,ks,h2,I.sz,by have:=I.ol;have:=I.sz;omega,I.wb,q,fun m K => ?_⟩
  rw[wq10]
  unfold wq48
  rw[dec_t (show(1:Int)<2 by decide),cond_true,wqup,wq1f3,inb_t (show(0:Int)≤1 by decide) (by decide),cond_true,fitsD [x] (by decide:1≤4000),cond_true,show(((1:Int) == 0) == false)=true from rfl,cond_true,show IntKind.i64.wrap ((1:Int)+1)=2 by decide]
  refine(e1 _).trans ?_
  exact e (fun y16 y17 y21 y19=>wq10 k m [] [] y16 y17 y21 y19 2 2 K)
 ·refine⟨a1,[],[],h1,by show b.length+0≤40;omega,by decide,fun y hy=>(by cases hy),rfl,fun m K => ?_⟩
  rw[wq10]
  unfold wq48
  rw[dec_t (show(1:Int)<2 by decide),cond_true,wqup,wq1f3,inb_t (show(0:Int)≤1 by decide) (by decide),cond_true,fitsD [x] (by decide:1≤4000),cond_true,show(((1:Int) == 0) == false)=true from rfl,cond_true,show IntKind.i64.wrap ((1:Int)+1)=2 by decide]
  refine(e1 _).trans ?_
  rw[ieq_f (by omega),cond_false,List.append_nil];rfl
theorem wq1ie(k:Nat)(hk:6010<k)(L:List Int)(hL:L.length≤4000): ∃(d:Dm) (b:List Br),chkS d b=true∧Wd d∧b.length≤40∧(∀ x∈b,Wk x)∧∀ {R:Type} (K:Dm→List Br→Option R),wq4t k L K=K d b:=by
 obtain⟨m,rfl⟩:∃ m,k=m+3:=⟨k-3,by omega⟩
 obtain⟨a0,v0,h0,g0,e0⟩:=wqjn (m+3) L hL 0 (Nat.zero_le _) 2 (by decide) (by decide)
 obtain⟨a1,new,ks,h1,I,e1⟩:=cfg_0 (m+3) hk L hL a0 h0 (1+v0) (by omega)
 have ew:IntKind.i64.wrap ((1:Int)+(v0:Int))=((1+v0:Nat):Int):=by rw[wq3y (by omega) (by omega)];omega
 have hsz:=I.sz
 have hol:=I.ol
 have hks:ks.length≤40:=by omega
 by_cases hv:v0=0
 ·subst hv
  refine⟨[(nmD 0,ks)],new,wq1jo I,⟨fun x hx => ?_,fun x hx => ?_,(by decide:1≤4000)⟩,by omega,I.wb,fun K => ?_⟩
  ·rw[List.mem_singleton.1 hx];show(nmD 0).length≤4000;decide
  ·rw[List.mem_singleton.1 hx];show ks.length≤4000;omega
  ·unfold wq4t wq8t
   refine(e0 _).trans ?_
   rw[ew]
   refine(e1 (m+2) K).trans ?_
   exact wq1hd (m+3) (m+1) [] [] L _ _ _ _ _ (by decide) K
 ·have h2:v0=1:=by omega
  subst h2
  obtain⟨a2,new',ks',q1,q2,q3,q4,q5,e2⟩:=cfg_1 (m+3) hk L hL a1 h1 (nmD 0,ks) new (by omega)
  refine⟨[(nmD 0,ks),(nmD 1,ks')],new++new',wq1jp I (by omega) q5,⟨fun x hx => ?_,fun x hx => ?_,(by decide:2≤4000)⟩,by rw[List.length_append];exact q2,fun x hx => ?_,fun K => ?_⟩
  ·simp only[List.mem_cons,List.mem_nil_iff,or_false]at hx
   rcases hx with rfl|rfl
   ·show(nmD 0).length≤4000;decide
   ·show(nmD 1).length≤4000;decide
  ·simp only[List.mem_cons,List.mem_nil_iff,or_false]at hx
   rcases hx with rfl|rfl
   ·show ks.length≤4000;omega
   ·show ks'.length≤4000;omega
  ·rcases List.mem_append.1 hx with hx|hx
   ·exact I.wb x hx
   ·exact q4 x hx
  ·unfold wq4t wq8t
   refine(e0 _).trans ?_
   rw[ew]
   refine(e1 (m+2) K).trans ?_
   refine(e2 (m+1) K).trans ?_
   exact wq1hd (m+3) m [] [] L _ _ _ _ _ (by decide) K
theorem turned(k:Nat)(hk:6010<k){R:Type}(K:Bool→Option R)(hA:wq91 k K=K true)(d:Dm)(b:List Br)(hd:Wd d)(hb:∀ x∈b,Wk x)(hl:b.length≤40)(i:Nat)(b':Br)(hw:Wb b'): wq6b k d (List.set b i b') (fun y13=>wqan k d (List.set b i b') (fun y14=>cond (((y13 == 0) == y14) == true) (wq91 k K) (K false)))=K true:=by
 have hb':∀ x∈List.set b i b',Wb x:=fun x hx=>by
  rcases List.mem_or_eq_of_mem_set hx with h|h
  ·exact(hb x h).toWb
  ·rw[h];exact hw
 have hl':(List.set b i b').length≤4000:=by rw[List.length_set];omega
 rw[wqpf hl' hb' (by omega) d hd,wq14a hl' hb' (by omega) d hd]
 have e:(((bif chkS d (List.set b i b')then(0:Int)else 1) == 0) == chkS d (List.set b i b'))=true:=by cases chkS d (List.set b i b')<;>rfl
 rw[e]
 exact hA
theorem wq1jq(f:Ieee.Format)(s:Bool)(r:Nat): f.word s r≤f.signWeight+r:=by
 unfold Ieee.Format.word;split<;>omega
theorem wq1al(f:Ieee.Format)(s:Bool)(m:Nat)(e:Int): ∃ r,r≤f.infRung∧f.nearest s m e=f.word s r:=by
 unfold Ieee.Format.nearest
 dsimp only
 split
 ·exact⟨0,Nat.zero_le _,rfl⟩
 ·exact⟨_,Nat.min_le_right _ _,rfl⟩
theorem wq1if(x:Int): ∃ r,r≤fI∧(fltOf x=r∨fltOf x=r+fW):=by
 obtain⟨r,h,e⟩:=wq1al Ieee.double (decide (x<0)) x.natAbs 0
 rw[inf_is]at h
 refine⟨r,h,?_⟩
 have e':fltOf x=Ieee.double.word (decide (x<0)) r:=e
 rw[e']
 unfold Ieee.Format.word
 rw[sw_is]
 by_cases hx:x<0
 ·rw[dec_t hx];exact .inr (Nat.add_comm _ _)
 ·rw[dec_f hx];exact .inl rfl
theorem wq1he(s:Bool){r:Nat}(h:r≤fI): Ieee.double.word s r<2 ^ 64:=by
 have h1:=wq1jq Ieee.double s r
 have hI:fI=9218868437227405312:=rfl
 have hW:fW=9223372036854775808:=rfl
 rw[sw_is]at h1
 omega
theorem wq198(s:Bool)(m:Nat)(e:Int): Ieee.double.write (.number s m e)<2 ^ 64:=by
 obtain⟨r,h,e'⟩:=wq1al Ieee.double s m e
 rw[inf_is]at h
 show Ieee.double.nearest s m e<2 ^ 64
 rw[e']
 exact wq1he s h
theorem wq199(s:Bool): Ieee.double.write (.infinity s)<2 ^ 64:=by
 show Ieee.double.word s Ieee.double.infRung<2 ^ 64
 rw[inf_is]
 exact wq1he s (Nat.le_refl _)
theorem wq1ig:Ieee.double.read (fltOf 10) = .number false 5629499534213120 (-49):=by decide +kernel
theorem wq1jr(x:Int): ∃ w,fltAr .quo (fltOf x) (fltOf 10)=some w∧w<2 ^ 64:=by
 have key:∀ d:Ieee.Datum,((∃ s m e,d = .number s m e)∨∃ s,d = .infinity s)→∃ w,(d.quotient (Ieee.double.fractionBits+2) (.number false 5629499534213120 (-49))).map Ieee.double.write=some w∧w<2 ^ 64:=by
  intro d h
  rcases h with⟨s,m,e,rfl⟩|⟨s,rfl⟩
  ·unfold Ieee.Datum.quotient
   dsimp only
   rw[if_neg (by decide)]
   exact⟨_,rfl,wq198 _ _ _⟩
  ·exact⟨_,rfl,wq199 _⟩
 have e0:fltAr .quo (fltOf x) (fltOf 10)=((Ieee.double.read (fltOf x)).quotient (Ieee.double.fractionBits+2) (Ieee.double.read (fltOf 10))).map Ieee.double.write:=rfl
 rw[e0,wq1ig]
 refine key _ ?_
 obtain⟨r,hr,h|h⟩:=wq1if x
 ·rw[h]
  rcases wq102 hr with⟨m,e,h1,_⟩|⟨h1,_⟩
  ·exact .inl ⟨_,_,_,h1⟩
  ·exact .inr ⟨_,h1⟩
 ·rw[h]
  rcases wq18w hr with⟨m,e,h1,_⟩|⟨h1,_⟩
  ·exact .inl ⟨_,_,_,h1⟩
  ·exact .inr ⟨_,h1⟩
end Go.Proofs.YtabkhphoacmcdaaGreatDoor.Pvm
namespace Go.Proofs.YtabkhphoacmcdaaGreatDoor.Pvm
open Go Go.Proofs
theorem awkM17(k:Nat){R:Type}(K:Bool→Option R): wq91 (k+300) K=K true:=by kernel_rfl
theorem fits8{a b:Nat}(h:a+b≤4000): fits a b 8=true:=by
 have h2:maxN≥4001:=by decide
 unfold fits
 rw[dec_t (by omega),dec_t (by omega)];rfl
theorem key5(v:Nat)(h:v<5)(z:List UInt8): (keys5.getD v z).length≤4000:=by
 match v,h with
 |0,_=>exact Nat.le_of_ble_eq_true rfl
 |1,_=>exact Nat.le_of_ble_eq_true rfl
 |2,_=>exact Nat.le_of_ble_eq_true rfl
 |3,_=>exact Nat.le_of_ble_eq_true rfl
 |4,_=>exact Nat.le_of_ble_eq_true rfl
theorem val7(v:Nat)(h:v<7)(z:List UInt8): (vals7.getD v z).length≤4000:=by
 match v,h with
 |0,_=>exact Nat.le_of_ble_eq_true rfl
 |1,_=>exact Nat.le_of_ble_eq_true rfl
 |2,_=>exact Nat.le_of_ble_eq_true rfl
 |3,_=>exact Nat.le_of_ble_eq_true rfl
 |4,_=>exact Nat.le_of_ble_eq_true rfl
 |5,_=>exact Nat.le_of_ble_eq_true rfl
 |6,_=>exact Nat.le_of_ble_eq_true rfl
theorem getW{b:List Br}(hw:∀ x∈b,Wk x){v:Nat}(h:v<b.length): ∃ x,Wk x∧∀ z,b.getD v z=x:=by
 refine⟨b[v],hw _ (List.getElem_mem _),fun z => ?_⟩
 rw[List.getD,List.getElem?_eq_getElem h];rfl
theorem wq16t(k:Nat)(hk:6010<k){R:Type}(K:Bool→Option R)(hA:wq91 k K=K true)(x0:List Int)(x1 x2 x3:Int): wq78 k x0 x1 x2 x3 K=K true:=by
 unfold wq78 wqf7
 by_cases h0:(x0.length:Int)>300
 ·rw[dec_t h0,cond_true];exact hA
 ·rw[dec_f h0,cond_false]
  obtain⟨d,b,hc,hd,hl,hw,e⟩:=wq1ie k hk x0 (by omega)
  refine(e _).trans ?_
  try dsimp only
  rw[wqpf (by omega) (fun x hx=>(hw x hx).toWb) (by omega) d hd,hc,cond_true,show((0:Int) != 0)=false from rfl,cond_false]
  by_cases hb:b.length=0
  ·rw[show((b.length:Int) == 0)=true by rw[hb];rfl,cond_true];exact hA
  ·rw[ieq_f (by omega),cond_false]
   obtain⟨v,hv,e1⟩:=wq109 k x1 b.length (by omega) (by omega)
   refine(e1 _).trans ?_
   try dsimp only
   rw[inb_t (by omega) (by omega),cond_true,wq2f]
   obtain⟨x,hx,ex⟩:=getW hw hv
   rw[ex]
   obtain⟨w,hw2,e2⟩:=wq109 k x2 10 (by decide) (by decide)
   refine(e2 _).trans ?_
   try dsimp only
   have T:=fun b'=>turned k hk K hA d b hd hw hl v b'
   have n01:∀ a c:Nat,(((a:Nat):Int) == ((c:Nat):Int))=(a == c):=fun a c=>by
    cases h:a == c with
    |true=>rw[beq_iff_eq]at h ⊢;omega
    |false=>rw[beq_eq_false_iff_ne]at h ⊢;omega
   rw[show((w:Int) == 0)=(w == 0)from n01 w 0,show((w:Int) == 1)=(w == 1)from n01 w 1,show((w:Int) == 2)=(w == 2)from n01 w 2,show((w:Int) == 3)=(w == 3)from n01 w 3,show((w:Int) == 4)=(w == 4)from n01 w 4,show((w:Int) == 5)=(w == 5)from n01 w 5,show((w:Int) == 6)=(w == 6)from n01 w 6,show((w:Int) == 7)=(w == 7)from n01 w 7,show((w:Int) == 8)=(w == 8)from n01 w 8]
   cases c0:w == 0 with
   |true=>rw[cond_true];exact T _ ⟨hx.k1,hx.k2,hx.f1,hx.l1,hx.v1⟩
   |false =>
    rw[cond_false]
    cases c1:w == 1 with
    |true=>rw[cond_true];exact T _ ⟨hx.k1,hx.k2,hx.f1,hx.l1,hx.v1⟩
    |false =>
     rw[cond_false]
     cases c2:w == 2 with
     |true=>rw[cond_true];exact T _ ⟨hx.k1,hx.k2,hx.f1,hx.l1,hx.v1⟩
     |false =>
      rw[cond_false]
      cases c3:w == 3 with
      |true=>rw[cond_true];exact T _ ⟨hx.k1,hx.k2,hx.f1,hx.l1,hx.v1⟩
      |false =>
       rw[cond_false]
       cases c4:w == 4 with
       |true =>
        have l4:=hx.l4
        rw[cond_true,fits8 (by rw[List.length_nil];omega),cond_true,fits8 (by rw[List.nil_append,List.length_singleton];omega),cond_true]
        refine T _ ⟨hx.k1,hx.k2,hx.f1,?_,hx.v1⟩
        show(([]++x.2.2.2.2.2.2.2)++[x3]).length≤4000
        rw[List.nil_append,List.length_append,List.length_singleton];omega
       |false =>
        rw[cond_false]
        cases c5:w == 5 with
        |true =>
         rw[cond_true]
         have eK:∀ {R:Type} (K:List (List UInt8)→Option R),wq1c k K=K keys5:=fun K=>rfl
         rw[eK]
         obtain⟨u,hu,e3⟩:=wq109 k x3 5 (by decide) (by decide)
         refine(e3 _).trans ?_
         try dsimp only
         rw[wq2f]
         have h5:inb (u:Int) ((keys5.length:Nat):Int)=true:=inb_t (by omega) (by show(u:Int)<5;omega)
         refine Eq.trans (congrArg (fun c=>cond c _ none) h5) ?_
         rw[cond_true]
         exact T _ ⟨key5 u hu _,hx.k2,hx.f1,hx.l1,hx.v1⟩
        |false =>
         rw[cond_false]
         cases c6:w == 6 with
         |true =>
          rw[cond_true]
          have eV:∀ {R:Type} (K:List (List UInt8)→Option R),wqz k K=K vals7:=fun K=>rfl
          rw[eV]
          obtain⟨u,hu,e3⟩:=wq109 k x3 7 (by decide) (by decide)
          refine(e3 _).trans ?_
          try dsimp only
          rw[wq2f]
          have h7:inb (u:Int) ((vals7.length:Nat):Int)=true:=inb_t (by omega) (by show(u:Int)<7;omega)
          refine Eq.trans (congrArg (fun c=>cond c _ none) h7) ?_
          rw[cond_true]
          exact T _ ⟨hx.k1,hx.k2,hx.f1,hx.l1,val7 u hu _⟩
         |false =>
          rw[cond_false]
          cases c7:w == 7 with
          |true=>rw[cond_true];exact T _ ⟨hx.k1,hx.k2,hx.f1,hx.l1,hx.v1⟩
          |false =>
           rw[cond_false]
           cases c8:w == 8 with
           |true=>rw[cond_true];exact T _ ⟨hx.k1,hx.k2,hx.f1,hx.l1,hx.v1⟩
           |false =>
            rw[cond_false]
            obtain⟨q,e4,hq⟩:=wq1jr x3
            unfold wqsa wq1a6
            rw[e4]
            exact T _ ⟨hx.k1,hx.k2,hq,hx.l1,hx.v1⟩
theorem wq116(x0:List Int)(x1 x2 x3:Int)(_:Wf (.sl (.int .i64)) x0)(_:Wf (.int .i64) x1)(_:Wf (.int .i64) x2)(_:Wf (.int .i64) x3): ∃ k,wq78 k x0 x1 x2 x3 (fun b=>some b)=some true:=by
 obtain⟨k,hk⟩:∃ k:Nat,k=7000:=⟨_,rfl⟩
 exact⟨k+300,wq16t (k+300) (by omega) _ (awkM17 k _) x0 x1 x2 x3⟩
end Go.Proofs.YtabkhphoacmcdaaGreatDoor.Pvm
namespace Go.Proofs.YtabkhphoacmcdaaGreatDoor.configMade
open Go Go.Proofs Go.ChangeShapes Go.WideShapes Go.ChangeAt Go.RowKit Go.Proofs.YtabkhphoacmcdaaGreatDoor.Pvm
theorem own:ownKnob Tryz.prog.godebug=none:=by kernel_rfl
theorem laidOut:laidOutB Tryz.prog=true:=by kernel_rfl
set_option maxRecDepth 100000 in
theorem lifted(os:Os)(started:os.Started)(H:Type)(enc:TypeId×Value→H):
 ReturnsInHanded {} Tryz.checked os 9 .any (fun w args=>(Rows.configMadeSpec.pre enc Tryz.prog Tryz.f9 Rows.configMadeRow.domain false w args∧laidMetH Tryz.prog Rows.configMadeRow.laid w)∧sizedMet enc Tryz.prog Tryz.f9 (OpenSpec.ofChange Rows.configMadeSpec) false w args) (Rows.configMadeSpec.post enc Tryz.prog Tryz.f9 false true false false):=by
 refine returnsInHanded_of_change_and (C:=Tryz.checked) (X:=fun w _=>laidMetH Tryz.prog Rows.configMadeRow.laid w) (fun _ _ _ hh h=>h.of_heap hh) own started (by kernel_rfl) Tryz.func9
  (ChangeSpec.witness_shaped (enc:=enc) (C:=Tryz.checked) (os:=os) (X:=fun w _=>laidMetH Tryz.prog Rows.configMadeRow.laid w) false (World.laidAll Tryz.prog os Rows.configMadeRow.laid) #[.slice none 0 0,.int .i64 0,.int .i64 0,.int .i64 0] 8 (World.laidAll_os _ _ _)
   (World.shaped_of_ZipB (by kernel_rfl) (by kernel_rfl)) (by kernel_rfl) (by kernel_rfl) (by kernel_rfl)
   (by rw[MakeChecks.laidMetH_plain _ _ _ (by kernel_rfl)];exact laidMet_laidAll _ (by kernel_rfl) (by kernel_rfl))) ?_
 intro W base args ds gs before hval0 hW hcnd hsz0 hL _
 have hsz:(DataW.weightsEach Tryz.prog (Tryz.f9.params.toList++Rows.configMadeSpec.plain.varTypes Tryz.prog) (ds++gs)).all (· ≤ reachBytes)=true:=hsz0
 have hval:∀(j:Nat) t v,Tryz.f9.params[j]? = some t→args[j]? = some v→Value.okWide Tryz.prog W .any base t v:=hval0
 have hW':=hW
 obtain⟨p,q,hA0,hV,rfl,hfz,hnd⟩:=hW
 have hA:DataW.TrodAll enc Tryz.prog W 0 (fun _=>true) true Tryz.f9.params.toList args.toList ds p:=hA0
 rw[Tryz.params9]at hA hval hsz
 obtain⟨v0,vs0,d0,ds0,p0,q0,hargs,rfl,rfl,h0,r0⟩:=trodAll_cons hA
 obtain⟨v1,vs1,d1,ds1,p1,q1,rfl,rfl,rfl,h1,r1⟩:=trodAll_cons r0
 obtain⟨v2,vs2,d2,ds2,p2,q2,rfl,rfl,rfl,h2,r2⟩:=trodAll_cons r1
 obtain⟨v3,vs3,d3,ds3,p3,q3,rfl,rfl,rfl,h3,r3⟩:=trodAll_cons r2
 obtain⟨rfl,rfl,rfl⟩:=trodAll_nil r3
 obtain rfl:args = #[v0,v1,v2,v3]:=by cases args;simp_all
 obtain⟨rfl,rfl⟩:=trodVars_none hV
 have hws:=wq1dg (P:=Tryz.prog) hsz
 have k0:=h0
 have lt0:∀ x∈p0,x.block<W.heap.size:=by obtain⟨m,hm⟩:=k0;exact DataW.trod_lt m _ _ _ hm
 obtain⟨x0,wf0,rv0⟩:=wq137 tyT_ok (n:=9) (K:=(.sl (.int .i64))) (by kernel_rfl) (by kernel_rfl) (hval 0 50 v0 rfl rfl) h0 (hws 0 50 d0 rfl rfl) (h:=mkH []) (G:=G0) (fun _=>rfl) (fun _ h=>h)
 have k1:=h1
 have lt1:∀ x∈p1,x.block<W.heap.size:=by obtain⟨m,hm⟩:=k1;exact DataW.trod_lt m _ _ _ hm
 obtain⟨x1,wf1,rv1⟩:=wq137 tyT_ok (n:=9) (K:=(.int .i64)) (by kernel_rfl) (by kernel_rfl) (hval 1 3 v1 rfl rfl) h1 (hws 1 3 d1 rfl rfl) (h:=mkH []) (G:=G0) (fun _=>rfl) (fun _ h=>h)
 have k2:=h2
 have lt2:∀ x∈p2,x.block<W.heap.size:=by obtain⟨m,hm⟩:=k2;exact DataW.trod_lt m _ _ _ hm
 obtain⟨x2,wf2,rv2⟩:=wq137 tyT_ok (n:=9) (K:=(.int .i64)) (by kernel_rfl) (by kernel_rfl) (hval 2 3 v2 rfl rfl) h2 (hws 2 3 d2 rfl rfl) (h:=mkH []) (G:=G0) (fun _=>rfl) (fun _ h=>h)
 have k3:=h3
 have lt3:∀ x∈p3,x.block<W.heap.size:=by obtain⟨m,hm⟩:=k3;exact DataW.trod_lt m _ _ _ hm
 obtain⟨x3,wf3,rv3⟩:=wq137 tyT_ok (n:=9) (K:=(.int .i64)) (by kernel_rfl) (by kernel_rfl) (hval 3 3 v3 rfl rfl) h3 (hws 3 3 d3 rfl rfl) (h:=mkH []) (G:=G0) (fun _=>rfl) (fun _ h=>h)
 obtain⟨k,hk⟩:=wq116 x0 x1 x2 x3 wf0 wf1 wf2 wf3
 have hrun:h_law17_ConfigMade.run (@wq78 k) [.v (.sl (.int .i64)) x0,.v (.int .i64) x1,.v (.int .i64) x2,.v (.int .i64) x3] [] lawK=some true:=(show _=wq78 k x0 x1 x2 x3 (fun b=>some b) by kernel_rfl).trans hk
 refine(wq19w (fn:=Tryz.f9) (c:=Tryz.f9.body.getD .skip) (by kernel_rfl) (by kernel_rfl) (by kernel_rfl) (wque k _ _ _ _ _ hrun) (vals:=[v0,v1,v2,v3]) ⟨v0,_,rfl,rv0,⟨v1,_,rfl,rv1,⟨v2,_,rfl,rv2,⟨v3,_,rfl,rv3,rfl⟩⟩⟩⟩).mono fun e W' ⟨he,bel⟩ => ?_
 subst he
 exact⟨_,rfl,_,_,_,[],_,[],hW',trodAll_mk1 (shut_bool Tryz.underlying4 _),(trodAll_cons_mk (Below.trod laidOut (by kernel_rfl) (of_decide_eq_true (by kernel_rfl)) k0 bel lt0) (trodAll_cons_mk (Below.trod laidOut (by kernel_rfl) (of_decide_eq_true (by kernel_rfl)) k1 bel lt1) (trodAll_cons_mk (Below.trod laidOut (by kernel_rfl) (of_decide_eq_true (by kernel_rfl)) k2 bel lt2) (trodAll_cons_mk (Below.trod laidOut (by kernel_rfl) (of_decide_eq_true (by kernel_rfl)) k3 bel lt3) trodAll_mk0)))),rfl,bel.frame _,fun h=>by cases h⟩
theorem over:Rows.configMadeRow.holds Tryz.pinned (OpenSpec.ofChange Rows.configMadeSpec) :=
 OpenClaim.holds_of_wide 9 Tryz.f9 rfl rfl rfl rfl rfl rfl rfl ⟨rfl,rfl,rfl,rfl,rfl⟩ rfl rfl rfl rfl rfl (by kernel_rfl) Tryz.func9 (by kernel_rfl)
  (of_decide_eq_true (by kernel_rfl)) (by unfold Func.isWrapper;first|(rw[if_pos (by decide +kernel)];kernel_rfl)|(rw[if_neg (by decide +kernel)];exact⟨rfl,rfl⟩))
  (fun os started H enc _=>lifted os started H enc)
theorem tied:Rows.ConfigMadeCardSaid :=
 Claim7.holds_tied_plain_at .later [] [.data,.pinned] true (true,"c61b158f2341520057692774128471b7c7a277b548e973e80533808263959f4a") true over (fun _ h=>by cases h) (by kernel_rfl) (fun _ h=>by cases h) configMade_row_tie rfl ⟨rfl,rfl⟩ (by kernel_rfl) rfl
  (fun f fn hf hfn=>by
   obtain rfl:f=9:=Option.some.inj ((show Tryz.prog.funcNamed Rows.configMadeRow.func=some 9 by kernel_rfl).symm.trans hf) |>.symm
   obtain rfl:fn=Tryz.f9:=(Option.some.inj (Tryz.func9.symm.trans hfn)).symm
   exact⟨by kernel_rfl,fun j t ht=>by
    rw[Tryz.params9]at ht
    have hm:t∈[50,3,3,3]:=by simpa using Array.mem_of_getElem? ht
    have hall:([50,3,3,3].all fun u => !Tryz.prog.wantsStandIn u)=true:=by kernel_rfl
    exact(show Tryz.prog.wantsStandIn t=false by simpa using List.all_eq_true.1 hall t hm)⟩)
  (by kernel_rfl)
#print axioms tied
end Go.Proofs.YtabkhphoacmcdaaGreatDoor.configMade
namespace Go.Proofs.YtabkhphoacmcdaaGreatDoor
theorem configMade_holds:Rows.ConfigMadeCardSaid:=configMade.tied
end Go.Proofs.YtabkhphoacmcdaaGreatDoor
end
