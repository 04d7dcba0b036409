/- The Go function ConfigChecks answers true for every input: one check and the other find the same, and so do both comparisons. -/
import Derived.KernelRfl
import Derived.Test.YtabkhphoacmcdaaGreatDoorCards
import Derived.Test.YtabkhphoacmcdaaGreatDoorTie
import Derived.LaidMore
import Derived.Lay
import Derived.SevenTiedAt
import Derived.Stop.Joined
import Derived.Test.YtabkhphoacmcdaaGreatDoorRows
import Derived.Test.YtabkhphoacmcdaaGreatDoorConfigChecksM0
import Derived.Test.YtabkhphoacmcdaaGreatDoorConfigChecksM1
import Derived.Test.YtabkhphoacmcdaaGreatDoorConfigChecksM2
import Derived.Test.YtabkhphoacmcdaaGreatDoorConfigChecksM3
import Derived.Test.YtabkhphoacmcdaaGreatDoorConfigChecksM4
set_option linter.unusedVariables false
set_option linter.unusedSimpArgs false
set_option linter.unusedSectionVars false
noncomputable section
namespace Go.Proofs.YtabkhphoacmcdaaGreatDoor.Pvm
open Go
inductive Rz (T:Type) where
 |ok (x:T)
 |er (f:Int×Int)
def Rz.bind{A B:Type}: Rz A→(A→Rz B)→Rz B
 |.ok x,g=>g x
 |.er f,_ => .er f
def Rz.run{T R:Type}: Rz T→(T→Option R)→(Int→Int→Option R)→Option R
 |.ok x,K,_=>K x
 |.er f,_,E=>E f.1 f.2
theorem run_bind{A B R:Type}(r:Rz A)(g:A→Rz B)(K:B→Option R)(E:Int→Int→Option R): (r.bind g).run K E=r.run (fun x=>(g x).run K E) E:=by cases r<;>rfl
def Rz.out{T R:Type}(z:T): Rz T→(T→Int→Int→Option R)→Option R
 |.ok x,K=>K x 0 0
 |.er f,K=>K z f.1 f.2
def Gd{T:Type}(z:T)(p:T×Int×Int): Prop:=(p.2.1=0→p.2.2=0)∧(p.2.1≠0→p.1=z)
def findR(nd:List Nd)(n:Int)(key:List UInt8): Option Int:=bif (findS (ndAt nd n) key).2 then some (findS (ndAt nd n) key).1 else none
def kidsR(nd:List Nd)(j:Int): List Int:=match ndAt nd j with|some x=>x.2.2.2.2.2|none=>[]
structure Dk (k:Nat) (nd:List Nd):Prop where
 hk:6000<k
 hn:nd.length≤4000
 ho:∀ x∈nd,okD x
 hc:checkS nd=true
def InD(nd:List Nd)(i:Int): Prop:=0≤i∧i<(nd.length:Int)
theorem Dk.at{k:Nat}{nd:List Nd}(D:Dk k nd){i:Int}(h:InD nd i): ∃ n x,i=((n:Nat):Int)∧ndAt nd i=some x∧At nd n x:=by
 rcases node nd D.hn D.ho i with⟨_,h2⟩|⟨_,n,x,e,h1,h⟩
 ·rw[D.hc,Bool.and_true]at h2
  unfold inR at h2
  rw[dec_t (show i≥0 from h.1),cond_true,dec_t h.2]at h2
  cases h2
 ·exact⟨n,x,e,h1,h⟩
theorem Dk.kids{k:Nat}{nd:List Nd}(D:Dk k nd){i:Int}(h:InD nd i): ∀ j∈kidsR nd i,InD nd j:=by
 obtain⟨n,x,rfl,h1,a⟩:=D.at h
 unfold kidsR
 rw[h1]
 exact a.kids
theorem wq1dw{x:Nd}{key:List UInt8}{i:Nat}(hl:(x.1 != 3)=false→x.2.2.2.2.1.length=x.2.2.2.2.2.length)(h:(findS (some x) key).2=true): (findS (some x) key).1∈x.2.2.2.2.2:=by
 unfold findS at h ⊢
 dsimp only at h ⊢
 cases h3:x.1 != 3 with
 |true=>rw[h3]at h;cases h
 |false =>
  simp only[h3,cond_false]at h ⊢
  cases hi:idxS key x.2.2.2.2.1 0 with
  |none=>rw[hi]at h;cases h
  |some j =>
   have:=idx_lt _ _ _ _ hi
   rw[hl h3]at this
   dsimp only
   rw[List.getD,List.getElem?_eq_getElem (show j<x.2.2.2.2.2.length by omega)]
   exact List.getElem_mem _
theorem Dk.find{k:Nat}{nd:List Nd}(D:Dk k nd){i j:Int}{key:List UInt8}(h:InD nd i)(hf:findR nd i key=some j): InD nd j:=by
 obtain⟨n,x,rfl,h1,a⟩:=D.at h
 unfold findR at hf
 rw[h1]at hf
 cases hb:(findS (some x) key).2 with
 |false=>rw[hb]at hf;cases hf
 |true =>
  rw[hb,cond_true]at hf
  injection hf with hf
  rw[←hf]
  exact a.kids _ (wq1dw (i:=0) a.keys hb)
section
variable {R:Type} {k:Nat} {nd:List Nd} (D:Dk k nd) {i:Int} (h:InD nd i)
include D h
end
end Go.Proofs.YtabkhphoacmcdaaGreatDoor.Pvm
namespace Go.Proofs.YtabkhphoacmcdaaGreatDoor.Pvm
open Go
abbrev Rl:=List UInt8×Int×Int×Nat×Bool×Bool
def has(nd:List Nd)(n:Int)(key:List UInt8): Bool:=(findR nd n key).isSome
section
variable {R:Type} {k:Nat} {nd:List Nd} (D:Dk k nd) {n:Int} (h:InD nd n)
include D h
end
end Go.Proofs.YtabkhphoacmcdaaGreatDoor.Pvm
namespace Go.Proofs.YtabkhphoacmcdaaGreatDoor.Pvm
open Go
abbrev Dm:=List (List UInt8×List Int)
abbrev Br:=List UInt8×(List UInt8×(Bool×(Int×(Int×(Bool×((List UInt8×(Int×(Int×(Nat×(Bool×Bool)))))×List Int))))))
section
variable {R:Type} {k:Nat} {nd:List Nd} (D:Dk k nd) {n:Int} (h:InD nd n)
include D h
end
end Go.Proofs.YtabkhphoacmcdaaGreatDoor.Pvm
namespace Go.Proofs.YtabkhphoacmcdaaGreatDoor.Pvm
open Go
def twinB(b:Br)(key val:List UInt8)(any:Bool): Bool:=bif (bif b.1 == key then b.2.1 == val else false)then b.2.2.1 == any else false
def zRl:Rl:=([],0,0,0,false,false)
def secS(u:Int): Int:=bif u == 1 then 1 else bif u == 2 then 60 else bif u == 3 then 3600 else bif u == 4 then 86400 else 0
theorem wq1fn(k:Nat){R:Type}(u:Int)(K:Int→Option R): wqe2 k u K=K (secS u):=by
 unfold wqe2 wqxs secS
 cases u == 1 with
 |true=>rfl
 |false =>
  cases u == 2 with
  |true=>rfl
  |false =>
   cases u == 3 with
   |true=>rfl
   |false=>cases u == 4<;>rfl
theorem wq1gr(k:Nat){R:Type}(u:Int)(K:Int→Option R): wqfo k u K=K (secS u):=by
 unfold wqfo wqzm
 by_cases h:u<1∨u>4
 ·have e:(bif decide (u<1)then true else decide (u>4))=true:=by
   rcases h with h|h
   ·rw[dec_t h];rfl
   ·rw[dec_t h];cases decide (u<1)<;>rfl
  have n:∀ a:Int,1≤a→a≤4→(u == a)=false:=fun a h1 h2=>by rw[beq_eq_false_iff_ne];omega
  rw[e,cond_true]
  unfold secS
  rw[n 1 (by decide) (by decide),n 2 (by decide) (by decide),n 3 (by decide) (by decide),n 4 (by decide) (by decide)];rfl
 ·have e:(bif decide (u<1)then true else decide (u>4))=false:=by rw[dec_f (by omega),dec_f (by omega)];rfl
  have hi:inb u (([(0:Int),1,60,3600,86400]).length:Int)=true:=inb_t (by omega) (show u<5 by omega)
  rw[e,cond_false,hi,cond_true]
  have:u=1∨u=2∨u=3∨u=4:=by omega
  rcases this with rfl|rfl|rfl|rfl<;>rfl
theorem secS_0(u:Int): (secS u == 0) = !decide (secS u>0):=by
 unfold secS
 cases u == 1<;>cases u == 2<;>cases u == 3<;>cases u == 4<;>rfl
def ruleOK(nm:List UInt8)(u l:Int)(w:Nat)(un:Bool): Bool :=
 (bif un then(u == 0&&l == 0)&&ordX w 0 == 0 else(decide (secS u>0)&&(decide (l≥0)&&decide (l≤4294967295)))&&nearX w)&&(nm == [] || nmB nm)
section
variable {R:Type} (k:Nat) (hk:5000<k)
include hk
theorem wq16t(nm:List UInt8)(hn:nm.length≤4000)(u l:Int)(w:Nat)(hw:w<2 ^ 64)(sh un:Bool)(K:Int→Option R): wqg0 k nm u l w sh un K=K (bif ruleOK nm u l w un then 0 else 1):=by
 unfold wqg0 wqnv ruleOK
 have hz:(0:Nat)<2 ^ 64:=by decide
 simp only[wq1gr,wq1gq k hk hw,wq1ch k hw hz,wqp1 k nm hn hk]
 cases un<;>cases nm == []<;>cases nmB nm<;>cases decide (secS u>0)<;>cases decide (l≥0)<;>cases decide (l≤4294967295)<;>cases nearX w<;>cases u == 0<;>cases l == 0<;>cases ordX w 0 == 0<;>rfl
theorem wq16u(nm:List UInt8)(hn:nm.length≤4000)(u l:Int)(w:Nat)(hw:w<2 ^ 64)(sh un:Bool)(K:Bool→Option R): wq97 k nm u l w sh un K=K (ruleOK nm u l w un):=by
 have hz:(0:Nat)<2 ^ 64:=by decide
 have ho:fOne<2 ^ 64:=by decide
 have o1:∀ K:Int→Option R,wq4e k w 0 K=K (ordX w 0):=fun K=>wq11w k hw hz K
 have o2:∀ K:Int→Option R,wq4e k w 4607182418800017408 K=K (ordX w fOne):=fun K=>wq11w k hw ho K
 have main:∀ KF:Option R,(bif decide (ordX w 0<0) == false then bif decide (ordX w fOne>0)then KF else wq7u k w (fun y13 y14=>bif y14 then K true else KF)else KF)=bif nearX w then K true else KF:=by
  intro KF
  unfold nearX
  by_cases a:ordX w 0≥0
  ·rw[dec_f (show ¬ ordX w 0<0 by omega),dec_t a,show(false == false)=true from rfl,cond_true]
   by_cases b:ordX w fOne≤0
   ·rw[dec_f (show ¬ ordX w fOne>0 by omega),dec_t b,cond_false]
    have hf:=ord_in hw a b
    have e:wq7u k w (fun y13 y14=>bif y14 then K true else KF)=wrK (sgT false) (fun y13 y14=>bif y14 then K true else KF) (wrS w):=wq1cd k hk hf false _
    rw[e]
    cases wrS w<;>rfl
   ·rw[dec_t (show ordX w fOne>0 by omega),dec_f b,cond_true,Bool.and_false,Bool.and_false];rfl
  ·rw[dec_t (show ordX w 0<0 by omega),dec_f a,show(true == false)=false from rfl,cond_false,Bool.false_and,Bool.and_false];rfl
 have kk:∀ y14:Bool,K y14=bif y14 then K true else K false:=fun y=>by cases y<;>rfl
 have m2:=main (K false)
 unfold wq97 wqf3 ruleOK
 simp only[wq1fn,o1,o2,wq17z k hw hz,wqp2 k nm hn hk]
 have e3:(wq7u k w fun y12 y13=>K y13)=wq7u k w (fun y13 y14=>bif y14 then K true else K false):=by
  congr 1
  funext a b
  exact kk b
 have e4:decide (l<0) = !decide (l≥0):=by
  by_cases h:l<0
  ·rw[dec_t h,dec_f (by omega)];rfl
  ·rw[dec_f h,dec_t (by omega)];rfl
 have e5:decide (l>4294967295) = !decide (l≤4294967295):=by
  by_cases h:l≤4294967295
  ·rw[dec_f (by omega),dec_t h];rfl
  ·rw[dec_t (by omega),dec_f h];rfl
 rw[e3,m2,secS_0,e4,e5]
 cases un<;>cases nm == []<;>cases nmB nm<;>cases decide (secS u>0)<;>cases decide (l≥0)<;>cases decide (l≤4294967295)<;>cases nearX w<;>cases u == 0<;>cases l == 0<;>cases ordX w 0 == 0<;>rfl
def ruleEq(a b:Rl): Bool:=(a.1 == b.1&&(a.2.1 == b.2.1&&(a.2.2.1 == b.2.2.1&&(a.2.2.2.2.1 == b.2.2.2.2.1&&a.2.2.2.2.2 == b.2.2.2.2.2))))&&ordX a.2.2.2.1 b.2.2.2.1 == 0
theorem wq109(a b:Rl)(ha:a.2.2.2.1<2 ^ 64)(hb:b.2.2.2.1<2 ^ 64)(K:Bool→Option R): wqdj k a.1 a.2.1 a.2.2.1 a.2.2.2.1 a.2.2.2.2.1 a.2.2.2.2.2 b.1 b.2.1 b.2.2.1 b.2.2.2.1 b.2.2.2.2.1 b.2.2.2.2.2 K=K (ruleEq a b):=by
 unfold wqdj wqzn ruleEq
 rw[wq1ch k ha hb,show fltIs .eql (0:Nat) (0:Nat)=true from by decide +kernel]
 congr 1
 cases ordX a.2.2.2.1 b.2.2.2.1 == 0<;>cases a.1 == b.1<;>cases a.2.1 == b.2.1<;>cases a.2.2.1 == b.2.2.1<;>cases a.2.2.2.2.1 == b.2.2.2.2.1<;>cases a.2.2.2.2.2 == b.2.2.2.2.2<;>rfl
theorem wq10a(a b:Rl)(ha:a.2.2.2.1<2 ^ 64)(hb:b.2.2.2.1<2 ^ 64)(K:Bool→Option R): wq5r k a.1 a.2.1 a.2.2.1 a.2.2.2.1 a.2.2.2.2.1 a.2.2.2.2.2 b.1 b.2.1 b.2.2.1 b.2.2.2.1 b.2.2.2.2.1 b.2.2.2.2.2 K=K (ruleEq a b):=by
 unfold wq5r wqlc ruleEq
 rw[wq17z k ha hb]
 cases a.1 == b.1<;>cases a.2.1 == b.2.1<;>cases a.2.2.1 == b.2.2.1<;>cases a.2.2.2.2.1 == b.2.2.2.2.1<;>cases a.2.2.2.2.2 == b.2.2.2.2.2<;>cases ordX a.2.2.2.1 b.2.2.2.1 == 0<;>rfl
def mayS(b:Br)(dom up:Int): Bool :=
 (b.2.2.2.1 == dom&&b.2.2.2.2.1 == up)&&((nmB b.1&&(decide (b.2.1.length≤128) && !(b.2.2.1 && !(b.2.1 == []))))&&(bif b.2.2.2.2.2.1 then ruleOK b.2.2.2.2.2.2.1.1 b.2.2.2.2.2.2.1.2.1 b.2.2.2.2.2.2.1.2.2.1 b.2.2.2.2.2.2.1.2.2.2.1 b.2.2.2.2.2.2.1.2.2.2.2.2 else ruleEq b.2.2.2.2.2.2.1 zRl))
structure Wb (b:Br):Prop where
 k1:b.1.length≤4000
 k2:b.2.2.2.2.2.2.1.1.length≤4000
 f1:b.2.2.2.2.2.2.1.2.2.2.1<2 ^ 64
 l1:b.2.2.2.2.2.2.2.length≤4000
 v1:b.2.1.length≤4000
omit hk in
theorem len_gt(n:Nat): decide ((n:Int)>128) = !decide (n≤128):=by
 by_cases h:n≤128
 ·rw[dec_f (by omega),dec_t h];rfl
 ·rw[dec_t (by omega),dec_f h];rfl
theorem may_eq(b:Br)(hb:Wb b)(dom up:Int)(K:Bool→Option R): wqg1 k b.1 b.2.1 b.2.2.1 b.2.2.2.1 b.2.2.2.2.1 b.2.2.2.2.2.1 b.2.2.2.2.2.2.1.1 b.2.2.2.2.2.2.1.2.1 b.2.2.2.2.2.2.1.2.2.1 b.2.2.2.2.2.2.1.2.2.2.1 b.2.2.2.2.2.2.1.2.2.2.2.1 b.2.2.2.2.2.2.1.2.2.2.2.2 b.2.2.2.2.2.2.2 dom up K=K (mayS b dom up):=by
 have e:=wq109 (R:=R) k hk b.2.2.2.2.2.2.1 zRl hb.f1 (by decide)
 unfold wqg1 wqwg mayS
 rw[wqp1 k _ hb.k1 hk,wq16t k hk _ hb.k2 _ _ _ hb.f1]
 have e':∀ K:Bool→Option R,wqdj k b.2.2.2.2.2.2.1.1 b.2.2.2.2.2.2.1.2.1 b.2.2.2.2.2.2.1.2.2.1 b.2.2.2.2.2.2.1.2.2.2.1 b.2.2.2.2.2.2.1.2.2.2.2.1 b.2.2.2.2.2.2.1.2.2.2.2.2 [] 0 0 0 false false K=K (ruleEq b.2.2.2.2.2.2.1 zRl):=e
 rw[e',len_gt]
 have n1:(b.2.2.2.1 != dom) = !(b.2.2.2.1 == dom):=rfl
 have n2:(b.2.2.2.2.1 != up) = !(b.2.2.2.2.1 == up):=rfl
 rw[n1,n2]
 cases b.2.2.2.1 == dom<;>cases b.2.2.2.2.1 == up<;>cases nmB b.1<;>cases decide (b.2.1.length≤128)<;>cases b.2.2.1<;>cases b.2.1 == []<;>cases b.2.2.2.2.2.1<;>first|rfl|(cases ruleOK b.2.2.2.2.2.2.1.1 b.2.2.2.2.2.2.1.2.1 b.2.2.2.2.2.2.1.2.2.1 b.2.2.2.2.2.2.1.2.2.2.1 b.2.2.2.2.2.2.1.2.2.2.2.2<;>rfl)
theorem wq1gs(b:Br)(hb:Wb b)(dom up:Int)(K:Bool→Option R): wq84 k b.1 b.2.1 b.2.2.1 b.2.2.2.1 b.2.2.2.2.1 b.2.2.2.2.2.1 b.2.2.2.2.2.2.1.1 b.2.2.2.2.2.2.1.2.1 b.2.2.2.2.2.2.1.2.2.1 b.2.2.2.2.2.2.1.2.2.2.1 b.2.2.2.2.2.2.1.2.2.2.2.1 b.2.2.2.2.2.2.1.2.2.2.2.2 b.2.2.2.2.2.2.2 dom up K=K (mayS b dom up):=by
 have e:=wq10a (R:=R) k hk b.2.2.2.2.2.2.1 zRl hb.f1 (by decide)
 unfold wq84 wqi1 mayS
 rw[wqp2 k _ hb.k1 hk,wq16u k hk _ hb.k2 _ _ _ hb.f1]
 have e':∀ K:Bool→Option R,wq5r k b.2.2.2.2.2.2.1.1 b.2.2.2.2.2.2.1.2.1 b.2.2.2.2.2.2.1.2.2.1 b.2.2.2.2.2.2.1.2.2.2.1 b.2.2.2.2.2.2.1.2.2.2.2.1 b.2.2.2.2.2.2.1.2.2.2.2.2 [] 0 0 0 false false K=K (ruleEq b.2.2.2.2.2.2.1 zRl):=e
 rw[e',len_gt]
 have n1:(b.2.2.2.1 != dom) = !(b.2.2.2.1 == dom):=rfl
 have n2:(b.2.2.2.2.1 != up) = !(b.2.2.2.2.1 == up):=rfl
 rw[n1,n2]
 cases b.2.2.2.1 == dom<;>cases b.2.2.2.2.1 == up<;>cases nmB b.1<;>cases decide (b.2.1.length≤128)<;>cases b.2.2.1<;>cases b.2.1 == []<;>cases b.2.2.2.2.2.1<;>rfl
end
end Go.Proofs.YtabkhphoacmcdaaGreatDoor.Pvm
namespace Go.Proofs.YtabkhphoacmcdaaGreatDoor.Pvm
open Go
def twinC(brs:List Br)(a:List Int)(b:Br): Bool:=a.any fun j=>match brs[j.toNat]? with|some x=>twinB x b.1 b.2.1 b.2.2.1|none=>false
def kidsC(f:Int→List Int→Nat→Option Nat)(brs:List Br)(dom up:Int): List Int→List Int→Nat→Option Nat
 |[],a,next=>some next
 |c::r,a,next=>match brs[next]? with
  |none=>none
  |some b=>bif c == (next:Int)&&(mayS b dom up && !twinC brs a b)then match f (next:Int) b.2.2.2.2.2.2.2 (next+1)with
   |none=>none
   |some n=>kidsC f brs dom up r (a++[c]) n
   else none
def walkC(brs:List Br)(dom:Int): Nat→Int→List Int→Nat→Option Nat
 |0,_,kids,next=>match kids with
  |[]=>some next
  |_=>none
 |g+1,up,kids,next=>kidsC (walkC brs dom g) brs dom up kids [] next
def nxI:Option Nat→Int
 |some n=>(n:Int)
 |none => -1
theorem wq181(o:Option Nat): decide (nxI o<0)=o.isNone:=by cases o with
 |none=>rfl
 |some n=>exact dec_f (show ¬ (n:Int)<0 by omega)
def InB(brs:List Br)(a:List Int): Prop:=∀ j∈a,0≤j∧j<(brs.length:Int)
theorem br_at{brs:List Br}{n:Nat}(h:n<brs.length): ∃ b,brs[n]? = some b∧(∀ z,brs.getD n z=b)∧b∈brs:=⟨brs[n],List.getElem?_eq_getElem h,fun z=>by rw[List.getD,List.getElem?_eq_getElem h];rfl,List.getElem_mem _⟩
section
variable {brs:List Br} (hl:brs.length≤4000) (hb:∀ b∈brs,Wb b)
theorem wq14l{c:Int}(hc:0≤c∧c<(brs.length:Int))(s:List Int)(b:Br): ∃ x,(∀ z,brs.getD c.toNat z=x)∧inb c (brs.length:Int)=true∧twinC brs (c::s) b=(twinB x b.1 b.2.1 b.2.2.1 || twinC brs s b):=by
 obtain⟨x,e1,e2,_⟩:=br_at (brs:=brs) (n:=c.toNat) (by omega)
 refine⟨x,e2,inb_t hc.1 hc.2,?_⟩
 unfold twinC
 rw[List.any_cons,e1]
theorem wq10b{R:Type}(k:Nat)(d:Dm)(b:Br)(a:List Int)(hla:a.length≤4000)(ha:InB brs a)(K:Dm→List Br→List UInt8→List UInt8→Bool→Int→Int→Bool→List UInt8→Int→Int→Nat→Bool→Bool→List Int→Int→Option R): ∀(s:List Int) (i m:Nat),a.drop i=s→i≤a.length→s.length<m →
 ∃ j:Int,decide (j≥0)=twinC brs s b∧wq1j k m d brs b.1 b.2.1 b.2.2.1 b.2.2.2.1 b.2.2.2.2.1 b.2.2.2.2.2.1 b.2.2.2.2.2.2.1.1 b.2.2.2.2.2.2.1.2.1 b.2.2.2.2.2.2.1.2.2.1 b.2.2.2.2.2.2.1.2.2.2.1 b.2.2.2.2.2.2.1.2.2.2.2.1 b.2.2.2.2.2.2.1.2.2.2.2.2 b.2.2.2.2.2.2.2 a (a.length:Int) (i:Int) K=K d brs b.1 b.2.1 b.2.2.1 b.2.2.2.1 b.2.2.2.2.1 b.2.2.2.2.2.1 b.2.2.2.2.2.2.1.1 b.2.2.2.2.2.2.1.2.1 b.2.2.2.2.2.2.1.2.2.1 b.2.2.2.2.2.2.1.2.2.2.1 b.2.2.2.2.2.2.1.2.2.2.2.1 b.2.2.2.2.2.2.1.2.2.2.2.2 b.2.2.2.2.2.2.2 j
 |s,i,0,_,_,h=>by omega
 |[],i,m+1,hd,hi,hm=>by
  have:=wqas hd
  refine⟨-1,rfl,?_⟩
  rw[wq1j,wq30,dec_f (by omega)];rfl
 |c::s,i,m+1,hd,hi,hm=>by
  obtain⟨hlt,hc,hr⟩:=wq51 hd
  have hm1:c∈a:=by
   have:=hc 0
   rw[List.getD,List.getElem?_eq_getElem hlt]at this
   rw[←this];exact List.getElem_mem _
  obtain⟨x,e1,e2,e3⟩:=wq14l (ha c hm1) s b
  rw[wq1j,wq30,dec_t (by omega),cond_true,inb_t (by omega) (by omega),cond_true,wq1p,hc]
  unfold wqe8 wqn2
  rw[e2,cond_true,e1,e3]
  unfold wq9p wqkj
  have et:(bif (bif x.1 == b.1 then x.2.1 == b.2.1 else false)then x.2.2.1 == b.2.2.1 else false)=twinB x b.1 b.2.1 b.2.2.1:=rfl
  rw[et]
  cases twinB x b.1 b.2.1 b.2.2.1 with
  |true=>exact⟨(i:Int),by rw[Bool.true_or];exact dec_t (by omega),rfl⟩
  |false =>
   dsimp only
   rw[Bool.false_or,cond_false,wq2y (by omega) (by omega),show(i:Int)+1=((i+1:Nat):Int) by omega]
   exact wq10b k d b a hla ha K s (i+1) m hr (by omega) (by simp at hm;omega)
theorem wq1fo{R:Type}(k:Nat)(hk:5000<k)(d:Dm)(b:Br)(a:List Int)(hla:a.length≤4000)(ha:InB brs a)(K:Dm→List Br→List UInt8→List UInt8→Bool→Int→Int→Bool→List UInt8→Int→Int→Nat→Bool→Bool→List Int→Bool→Option R):
 wq2m k a d brs b.1 b.2.1 b.2.2.1 b.2.2.2.1 b.2.2.2.2.1 b.2.2.2.2.2.1 b.2.2.2.2.2.2.1.1 b.2.2.2.2.2.2.1.2.1 b.2.2.2.2.2.2.1.2.2.1 b.2.2.2.2.2.2.1.2.2.2.1 b.2.2.2.2.2.2.1.2.2.2.2.1 b.2.2.2.2.2.2.1.2.2.2.2.2 b.2.2.2.2.2.2.2 K=K d brs b.1 b.2.1 b.2.2.1 b.2.2.2.1 b.2.2.2.2.1 b.2.2.2.2.2.1 b.2.2.2.2.2.2.1.1 b.2.2.2.2.2.2.1.2.1 b.2.2.2.2.2.2.1.2.2.1 b.2.2.2.2.2.2.1.2.2.2.1 b.2.2.2.2.2.2.1.2.2.2.2.1 b.2.2.2.2.2.2.1.2.2.2.2.2 b.2.2.2.2.2.2.2 (twinC brs a b):=by
 unfold wq2m wq6s wq3j wq5d
 obtain⟨j,e1,e2⟩:=wq10b k d b a hla ha (fun y19 y20 y21 y22 y23 y24 y25 y26 y27 y28 y29 y30 y31 y32 y33 y34=>K y19 y20 y21 y22 y23 y24 y25 y26 y27 y28 y29 y30 y31 y32 y33 (decide (y34≥0))) a 0 k rfl (Nat.zero_le _) (by omega)
 rw[←e1]
 exact e2
def WOK(brs:List Br)(dom:Int)(g k:Nat): Prop:=∀(R:Type) (d:Dm) (up:Int) (kids:List Int) (next:Nat) (K:Int→Option R),kids.length≤4000→next≤brs.length→wq31 k R d brs kids dom up (next:Int) (9-(g:Int)) K=K (nxI (walkC brs dom g up kids next))
theorem wqv5{l:List Int}{i:Nat}{c:Int}{r:List Int}(h:l.drop i=c::r): l.take (i+1)=l.take i++[c]:=by
 obtain⟨hlt,hc,_⟩:=wq51 h
 have:=hc 0
 rw[List.getD,List.getElem?_eq_getElem hlt]at this
 rw[List.take_succ_eq_append_getElem hlt]
 congr 2
omit hl hb in
theorem wqqo(dom:Int): ∀(g:Nat) (up:Int) (kids:List Int) (next n:Nat),walkC brs dom g up kids next=some n→next≤brs.length→n≤brs.length
 |0,up,kids,next,n,h,hn=>by
  cases kids with
  |nil=>injection h with h;omega
  |cons c r=>cases h
 |g+1,up,kids,next,n,h,hn=>by
  have key:∀(kids a:List Int) (next n:Nat),kidsC (walkC brs dom g) brs dom up kids a next=some n→next≤brs.length→n≤brs.length:=by
   intro kids
   induction kids with
   |nil=>intro a next n h hn;injection h with h;omega
   |cons c r ih =>
    intro a next n h hn
    rw[kidsC]at h
    rcases Nat.lt_or_ge next brs.length with h1|h1
    ·obtain⟨b,e1,_,_⟩:=br_at h1
     rw[e1]at h
     dsimp only at h
     cases hq:(c == (next:Int)&&(mayS b dom up && !twinC brs a b))with
     |false=>rw[hq]at h;cases h
     |true =>
      rw[hq,cond_true]at h
      cases hw:walkC brs dom g (next:Int) b.2.2.2.2.2.2.2 (next+1)with
      |none=>rw[hw]at h;cases h
      |some q =>
       rw[hw]at h
       exact ih _ q n h (wqqo dom g _ _ _ _ hw (by omega))
    ·have:brs[next]? = none:=List.getElem?_eq_none h1
     rw[this]at h;cases h
  exact key kids [] next n h hn
include hl hb
theorem wq182{k g:Nat}(hk:5000<k)(hg:g≤8)(dom:Int)(hW:WOK brs dom g k){R:Type}(d:Dm)(up:Int)(kids:List Int)(hkl:kids.length≤4000)(K:Int→Option R): ∀(s:List Int) (i m next:Nat),kids.drop i=s→i≤kids.length→s.length<m→next≤brs.length→InB brs (kids.take i) →
 wq2j k (wq31 k) m kids dom up (next:Int) (9-((g+1:Nat):Int)) d brs kids (kids.length:Int) (i:Int) K=K (nxI (kidsC (walkC brs dom g) brs dom up s (kids.take i) next))
 |s,i,0,_,_,_,h,_,_=>by omega
 |[],i,m+1,next,hd,hi,hm,hn,ha=>by
  have:=wqas hd
  rw[wq2j,wq6j,dec_f (by omega)];rfl
 |c::s,i,m+1,next,hd,hi,hm,hn,ha=>by
  obtain⟨hlt,hc,hr⟩:=wq51 hd
  rw[wq2j,wq6j,dec_t (by omega),cond_true,inb_t (i:=(i:Int)) (by omega) (by omega),cond_true,wq1p,hc,kidsC]
  by_cases hcn:c=(next:Int)
  ·subst hcn
   have e1:(((next:Nat):Int) != ((next:Nat):Int))=false:=by simp
   rw[e1,cond_false,dec_f (show ¬ (9-((g+1:Nat):Int))>8 by omega)]
   rcases Nat.lt_or_ge next brs.length with h1|h1
   ·obtain⟨b,b1,b2,b3⟩:=br_at h1
    rw[dec_f (show ¬ ((next:Nat):Int)≥(brs.length:Int) by omega),cond_false,inb_t (i:=(next:Int)) (by omega) (by omega)]
    rw[show(false == false)=true from rfl,cond_true,Bool.or_true,cond_true,wq1p,b2,may_eq k hk b (hb b b3),b1]
    have e2:(((next:Nat):Int) == ((next:Nat):Int))=true:=by simp
    dsimp only
    rw[e2,Bool.true_and]
    cases mayS b dom up with
    |false=>rfl
    |true =>
     have hbn:bnd 0 (i:Int) (kids.length:Int)=true:=by
      unfold bnd
      rw[dec_t (by decide),dec_t (by omega),dec_t (by omega)];rfl
     have hcut:cut kids 0 (i:Int)=kids.take i:=by
      unfold cut
      rw[wq1p];rfl
     rw[Bool.not_true,cond_false,cond_true,hbn,cond_true,hcut,wq1fo k hk d b _ (by rw[List.length_take];omega) ha,Bool.true_and]
     cases twinC brs (kids.take i) b with
     |true=>rfl
     |false =>
      have e3:IntKind.i64.wrap (((next:Nat):Int)+1)=((next+1:Nat):Int):=by rw[wq2y (by omega) (by omega)];omega
      have e4:IntKind.i64.wrap ((9-((g+1:Nat):Int))+1)=9-(g:Int):=by rw[wq2y (by omega) (by omega)];omega
      rw[cond_false,e3,e4,hW R d ((next:Nat):Int) _ (next+1) _ (hb b b3).l1 (by omega),wq181,Bool.not_false,cond_true]
      cases hw:walkC brs dom g (next:Int) b.2.2.2.2.2.2.2 (next+1)with
      |none=>rfl
      |some n =>
       have hnn:=wqqo dom g _ _ _ _ hw (by omega)
       have ea:InB brs (kids.take (i+1)):=by
        rw[wqv5 hd]
        intro j hj
        rcases List.mem_append.1 hj with hj|hj
        ·exact ha j hj
        ·rw[List.mem_singleton.1 hj];omega
       have ih:=wq182 hk hg dom hW d up kids hkl K s (i+1) m n hr (by omega) (by simp at hm;omega) hnn ea
       rw[wqv5 hd]at ih
       rw[wq2y (x:=(i:Int)+1) (by omega) (by omega),show(i:Int)+1=((i+1:Nat):Int) by omega]
       exact ih
   ·have e5:brs[next]? = none:=List.getElem?_eq_none h1
    rw[dec_t (show((next:Nat):Int)≥(brs.length:Int) by omega),e5];rfl
  ·have e1:(c != (next:Int))=true:=by simpa using hcn
   have e2:(c == (next:Int))=false:=by simpa using hcn
   rw[e1]
   cases brs[next]? with
   |none=>rfl
   |some b=>dsimp only;rw[e2];rfl
theorem wok_0{k:Nat}(hk:5000<k)(dom:Int): WOK brs dom 0 (k+1):=by
 intro R d up kids next K hkl hn
 rw[wq31]
 unfold wqei
 obtain⟨k1,hk1⟩:∃ k1,k=k1+1:=⟨k-1,by omega⟩
 cases kids with
 |nil =>
  show wq2j k (wq31 k) k [] dom up (next:Int) _ d brs [] _ 0 K=_
  have e:∀ X:Nat→Option R,X k=X (k1+1):=fun X=>by rw[←hk1]
  rw[e (fun q=>wq2j k (wq31 k) q [] dom up (next:Int) _ d brs [] _ 0 K),wq2j,wq6j,dec_f (by decide)];rfl
 |cons c r =>
  show wq2j k (wq31 k) k (c::r) dom up (next:Int) _ d brs (c::r) _ 0 K=_
  have e:∀ X:Nat→Option R,X k=X (k1+1):=fun X=>by rw[←hk1]
  rw[e (fun q=>wq2j k (wq31 k) q (c::r) dom up (next:Int) _ d brs (c::r) _ 0 K),wq2j,wq6j,dec_t (by simp),cond_true,inb_t (by omega) (by simp),cond_true,dec_t (show(9-((0:Nat):Int))>8 by decide)]
  generalize (c::r).getD (Int.toNat 0) kI.zero=c'
  cases c' != (next:Int)<;>cases decide (c'≥(brs.length:Int))<;>rfl
theorem wq1fp{k g:Nat}(hk:5000<k)(hg:g≤8)(dom:Int)(hW:WOK brs dom g k): WOK brs dom (g+1) (k+1):=by
 intro R d up kids next K hkl hnx
 rw[wq31,walkC]
 unfold wqei
 exact wq182 hl hb hk hg dom hW d up kids hkl K kids 0 k next rfl (Nat.zero_le _) (by omega) hnx (fun j hj=>by cases hj)
theorem wok(dom:Int): ∀(g k:Nat),5001+g<k→g≤8→WOK brs dom g k
 |g,0,h,_=>by omega
 |0,k+1,h,_=>wok_0 hl hb (by omega) dom
 |g+1,k+1,h,hg=>wq1fp hl hb (by omega) (by omega) dom (wok dom g k (by omega) (by omega))
end
end Go.Proofs.YtabkhphoacmcdaaGreatDoor.Pvm
namespace Go.Proofs.YtabkhphoacmcdaaGreatDoor.Pvm
open Go
def KOK(brs:List Br)(dom:Int)(g k:Nat): Prop:=∀(R:Type) (d:Dm) (up:Int) (kids:List Int) (next:Nat) (K:Int→Option R),kids.length≤4000→next≤brs.length→wq28 k R d brs kids (next:Int) dom up (9-(g:Int)) K=K (nxI (walkC brs dom g up kids next))
section
variable {brs:List Br} (hl:brs.length≤4000) (hb:∀ b∈brs,Wb b)
theorem ktwin{R:Type}(k:Nat)(X:wq3q)(J:List Int→Int→Int→Int→Int→Dm→List Br→Int→Option R)(kids:List Int)(next dom up depth:Int)(d:Dm)(b:Br)(i:Nat)(hi:i<kids.length)(hkl:kids.length≤4000)(ha:InB brs (kids.take i))(K:Int→Option R): ∀(s:List Int) (j m:Nat),(kids.take i).drop j=s→j≤i→s.length<m →
 wq3r k X J m kids next dom up depth d brs (i:Int) b.1 b.2.1 b.2.2.1 b.2.2.2.1 b.2.2.2.2.1 b.2.2.2.2.2.1 b.2.2.2.2.2.2.1.1 b.2.2.2.2.2.2.1.2.1 b.2.2.2.2.2.2.1.2.2.1 b.2.2.2.2.2.2.1.2.2.2.1 b.2.2.2.2.2.2.1.2.2.2.2.1 b.2.2.2.2.2.2.1.2.2.2.2.2 b.2.2.2.2.2.2.2 (j:Int) K=(bif twinC brs s b then K (-1)else X R d brs b.2.2.2.2.2.2.2 (IntKind.i64.wrap (next+1)) dom next (IntKind.i64.wrap (depth+1)) (fun y=>bif decide (y<0)then K (-1)else J kids y dom up depth d brs (IntKind.i64.wrap ((i:Int)+1))))
 |s,j,0,_,_,h=>by omega
 |[],j,m+1,hd,hj,hm=>by
  have h1:=wqas hd
  rw[List.length_take]at h1
  rw[wq3r,wq8r,dec_f (by omega)];rfl
 |c::s,j,m+1,hd,hj,hm=>by
  obtain⟨hlt,hc,hr⟩:=wq51 hd
  have hm1:c∈kids.take i:=by
   have:=hc 0
   rw[List.getD,List.getElem?_eq_getElem hlt]at this
   rw[←this];exact List.getElem_mem _
  rw[List.length_take]at hlt
  have hc':∀ z,kids.getD j z=c:=by
   intro z
   have:=hc z
   rw[List.getD,List.getElem?_take_of_lt (by omega)]at this
   exact this
  obtain⟨x,e1,e2,e3⟩:=wq14l (ha c hm1) s b
  rw[wq3r,wq8r,dec_t (by omega),cond_true,inb_t (i:=(j:Int)) (by omega) (by omega),cond_true,wq1p,hc',e2,cond_true,e1,e3]
  have et:(bif (bif x.1 == b.1 then x.2.1 == b.2.1 else false)then x.2.2.1 == b.2.2.1 else false)=twinB x b.1 b.2.1 b.2.2.1:=rfl
  rw[et]
  cases twinB x b.1 b.2.1 b.2.2.1 with
  |true=>rfl
  |false =>
   rw[Bool.false_or,cond_false,wq2y (x:=(j:Int)+1) (by omega) (by omega),show(j:Int)+1=((j+1:Nat):Int) by omega]
   exact ktwin k X J kids next dom up depth d b i hi hkl ha K s (j+1) m hr (by omega) (by simp at hm;omega)
include hl hb
theorem wq183{k g:Nat}(hk:5000<k)(hg:g≤8)(dom:Int)(hW:KOK brs dom g k){R:Type}(d:Dm)(up:Int)(kids:List Int)(hkl:kids.length≤4000)(K:Int→Option R): ∀(s:List Int) (i m next:Nat),kids.drop i=s→i≤kids.length→s.length<m→next≤brs.length→InB brs (kids.take i) →
 wq2n k (wq28 k) m kids (next:Int) dom up (9-((g+1:Nat):Int)) d brs (i:Int) K=K (nxI (kidsC (walkC brs dom g) brs dom up s (kids.take i) next))
 |s,i,0,_,_,_,h,_,_=>by omega
 |[],i,m+1,next,hd,hi,hm,hn,ha=>by
  have:=wqas hd
  rw[wq2n,wq5k,dec_f (by omega)];rfl
 |c::s,i,m+1,next,hd,hi,hm,hn,ha=>by
  obtain⟨hlt,hc,hr⟩:=wq51 hd
  rw[wq2n,wq5k,dec_t (by omega),cond_true,inb_t (i:=(i:Int)) (by omega) (by omega),cond_true,wq1p,hc,kidsC]
  by_cases hcn:c=(next:Int)
  ·subst hcn
   have e1:(((next:Nat):Int) != ((next:Nat):Int))=false:=by simp
   rw[e1,cond_false]
   rcases Nat.lt_or_ge next brs.length with h1|h1
   ·obtain⟨b,b1,b2,b3⟩:=br_at h1
    rw[dec_f (show ¬ ((next:Nat):Int)≥(brs.length:Int) by omega),inb_t (i:=(next:Int)) (by omega) (by omega)]
    rw[show(false == false)=true from rfl,cond_true,Bool.or_true,cond_true,wq1p,b2,wq1gs k hk b (hb b b3),b1]
    have e2:(((next:Nat):Int) == ((next:Nat):Int))=true:=by simp
    dsimp only
    rw[e2,Bool.true_and]
    cases mayS b dom up with
    |false=>rfl
    |true =>
     have kt:=ktwin (brs:=brs) k (wq28 k) (fun s0 s1 s2 s3 s4 s5 s6 s7=>wq2n k (wq28 k) m s0 s1 s2 s3 s4 s5 s6 s7 K) kids (next:Int) dom up (9-((g+1:Nat):Int)) d b i (by omega) hkl ha K (kids.take i) 0 k rfl (Nat.zero_le _) (by rw[List.length_take];omega)
     rw[Bool.not_true,cond_false,cond_true]
     refine kt.trans ?_
     rw[Bool.true_and]
     cases twinC brs (kids.take i) b with
     |true=>rfl
     |false =>
      have e3:IntKind.i64.wrap (((next:Nat):Int)+1)=((next+1:Nat):Int):=by rw[wq2y (by omega) (by omega)];omega
      have e4:IntKind.i64.wrap ((9-((g+1:Nat):Int))+1)=9-(g:Int):=by rw[wq2y (by omega) (by omega)];omega
      rw[cond_false,e3,e4,hW R d ((next:Nat):Int) _ (next+1) _ (hb b b3).l1 (by omega),wq181,Bool.not_false,cond_true]
      cases hw:walkC brs dom g (next:Int) b.2.2.2.2.2.2.2 (next+1)with
      |none=>rfl
      |some n =>
       have hnn:=wqqo dom g _ _ _ _ hw (by omega)
       have ea:InB brs (kids.take (i+1)):=by
        rw[wqv5 hd]
        intro j hj
        rcases List.mem_append.1 hj with hj|hj
        ·exact ha j hj
        ·rw[List.mem_singleton.1 hj];omega
       have ih:=wq183 hk hg dom hW d up kids hkl K s (i+1) m n hr (by omega) (by simp at hm;omega) hnn ea
       rw[wqv5 hd]at ih
       rw[wq2y (x:=(i:Int)+1) (by omega) (by omega),show(i:Int)+1=((i+1:Nat):Int) by omega]
       exact ih
   ·have e5:brs[next]? = none:=List.getElem?_eq_none h1
    rw[dec_t (show((next:Nat):Int)≥(brs.length:Int) by omega),e5];rfl
  ·have e1:(c != (next:Int))=true:=by simpa using hcn
   have e2:(c == (next:Int))=false:=by simpa using hcn
   rw[e1]
   cases brs[next]? with
   |none=>rfl
   |some b=>dsimp only;rw[e2];rfl
theorem kok:∀(g k:Nat) (dom:Int),5001+g<k→g≤8→KOK brs dom g k
 |g,0,dom,h,_=>by omega
 |0,k+1,dom,h,_=>by
  intro R d up kids next K hkl hn
  rw[wq28]
  unfold wqav
  obtain⟨k1,hk1⟩:∃ k1,k=k1+1:=⟨k-1,by omega⟩
  cases kids with
  |nil =>
   show wq2n k (wq28 k) k [] (next:Int) dom up _ d brs 0 K=_
   have e:∀ X:Nat→Option R,X k=X (k1+1):=fun X=>by rw[←hk1]
   rw[e (fun q=>wq2n k (wq28 k) q [] (next:Int) dom up _ d brs 0 K),wq2n,wq5k,dec_f (by decide)];rfl
  |cons c r =>
   rw[dec_t (by simp),dec_t (show(9-((0:Nat):Int))>8 by decide)];rfl
 |g+1,k+1,dom,h,hg=>by
  intro R d up kids next K hkl hnx
  rw[wq28,walkC]
  unfold wqav
  rw[dec_f (show ¬ (9-((g+1:Nat):Int))>8 by omega)]
  have e:∀(p:Bool) (u v:Option R),(bif (bif p then false else false)then u else v)=v:=fun p u v=>by cases p<;>rfl
  rw[e]
  exact wq183 hl hb (by omega) (by omega) dom (kok g k dom (by omega) (by omega)) d up kids hkl K kids 0 k next rfl (Nat.zero_le _) (by omega) hnx (fun j hj=>by cases hj)
end
end Go.Proofs.YtabkhphoacmcdaaGreatDoor.Pvm
namespace Go.Proofs.YtabkhphoacmcdaaGreatDoor.Pvm
open Go
def domsC(brs:List Br): Dm→Dm→Nat→Bool
 |[],a,next=>next == brs.length
 |c::r,a,next=>bif (!a.any fun x=>x.1 == c.1)&&nmB c.1 then match walkC brs (a.length:Int) 8 (-1) c.2 next with
  |none=>false
  |some n=>domsC brs r (a++[c]) n
  else false
def chkS(d:Dm)(brs:List Br): Bool:=bif (decide (1≤d.length)&&decide (d.length≤16))&&decide (brs.length≤500)then domsC brs d [] 0 else false
theorem wq1ci(a b:Nat): (bif (bif decide ((a:Int)<1)then true else decide ((a:Int)>16))then true else decide ((b:Int)>500)) = !((decide (1≤a)&&decide (a≤16))&&decide (b≤500)):=by
 by_cases h1:1≤a
 ·by_cases h2:a≤16
  ·by_cases h3:b≤500
   ·rw[dec_f (show ¬ (a:Int)<1 by omega),dec_f (show ¬ (a:Int)>16 by omega),dec_f (show ¬ (b:Int)>500 by omega),dec_t h1,dec_t h2,dec_t h3];rfl
   ·rw[dec_f (show ¬ (a:Int)<1 by omega),dec_f (show ¬ (a:Int)>16 by omega),dec_t (show(b:Int)>500 by omega),dec_f h3,Bool.and_false];rfl
  ·rw[dec_f (show ¬ (a:Int)<1 by omega),dec_t (show(a:Int)>16 by omega),dec_f h2,Bool.and_false,Bool.false_and];rfl
 ·rw[dec_t (show(a:Int)<1 by omega),dec_f h1,Bool.false_and,Bool.false_and];rfl
structure Wd (d:Dm):Prop where
 n:∀ x∈d,x.1.length≤4000
 l:∀ x∈d,x.2.length≤4000
 t:d.length≤4000
theorem wq1er(n:Nat)(brs:List Br): ((n:Int) == (brs.length:Int))=(n == brs.length):=by
 by_cases h:n=brs.length
 ·rw[h];simp
 ·have:(n:Int)≠(brs.length:Int):=by omega
  rw[beq_eq_false_iff_ne.2 h,beq_eq_false_iff_ne.2 this]
section
variable {brs:List Br} (hl:brs.length≤4000) (hb:∀ b∈brs,Wb b)
include hl hb
theorem wq10c{R:Type}{k:Nat}(hk:6000<k)(d:Dm)(hd:Wd d)(K:Int→Option R): ∀(s:Dm) (i m next:Nat) (mp:List (List UInt8×Bool)),d.drop i=s→i≤d.length→s.length<m→next≤brs.length→(∀ t,mget Kd.bool t mp=(d.take i).any fun x=>x.1 == t) →
 wq42 k m d brs mp (next:Int) d (d.length:Int) (i:Int) K=K (bif domsC brs s (d.take i) next then 0 else 1)
 |s,i,0,_,_,_,_,h,_,_=>by omega
 |[],i,m+1,next,mp,hs,hi,hm,hn,ht=>by
  have:=wqas hs
  rw[wq42,wq9i,dec_f (by omega),cond_false,domsC]
  have e:((next:Int) != (brs.length:Int)) = !((next:Int) == (brs.length:Int)):=rfl
  rw[e,wq1er]
  cases next == brs.length<;>rfl
 |c::s,i,m+1,next,mp,hs,hi,hm,hn,ht=>by
  obtain⟨hlt,hc,hr⟩:=wq51 hs
  have hcm:c∈d:=by
   have:=hc (Kd.zero (@Kd.pr Kd.str (@Kd.sl kI)))
   rw[List.getD,List.getElem?_eq_getElem hlt]at this
   rw[←this];exact List.getElem_mem _
  rw[wq42,wq9i,dec_t (by omega),cond_true,inb_t (i:=(i:Int)) (by omega) (by omega),cond_true,wq1p,hc,ht,domsC,wqp1 k _ (hd.n c hcm) (by omega)]
  cases(d.take i).any fun x=>x.1 == c.1 with
  |true=>rfl
  |false =>
   cases nmB c.1 with
   |false=>rfl
   |true =>
    have hw:=wok hl hb (i:Int) 8 k (by omega) (by omega) R d (-1) c.2 next (fun y12=>cond (decide (y12<0)) (K 1) (wq42 k m d brs (mset Kd.bool c.1 true mp) y12 d (d.length:Int) (IntKind.i64.wrap ((i:Int)+1)) K)) (hd.l c hcm) hn
    have hlen:(d.take i).length=i:=by rw[List.length_take];omega
    rw[hlen]
    show wqgo k d brs c.2 (i:Int) (-1) (next:Int) 1 _=_
    refine Eq.trans hw ?_
    have ex:(bif !false&&true then(match walkC brs (i:Int) 8 (-1) c.2 next with|none=>false|some n=>domsC brs s (d.take i++[c]) n)else false)=(match walkC brs (i:Int) 8 (-1) c.2 next with|none=>false|some n=>domsC brs s (d.take i++[c]) n):=rfl
    rw[wq181,ex]
    cases hq:walkC brs (i:Int) 8 (-1) c.2 next with
    |none=>rfl
    |some n =>
     have hnn:=wqqo (i:Int) 8 _ _ _ _ hq (by omega)
     have e:d.take (i+1)=d.take i++[c]:=by
      rw[List.take_succ_eq_append_getElem hlt]
      have:=hc (Kd.zero (@Kd.pr Kd.str (@Kd.sl kI)))
      rw[List.getD,List.getElem?_eq_getElem hlt]at this
      congr 2
     have ih:=wq10c hk d hd K s (i+1) m n (mset Kd.bool c.1 true mp) hr (by omega) (by simp at hm;omega) hnn (by
      intro t
      rw[wq180,ht,e,List.any_append]
      congr 1
      have:(t == c.1)=(c.1 == t):=by
       by_cases h:t=c.1
       ·rw[h]
       ·have h':c.1≠t:=fun q=>h q.symm
        rw[beq_eq_false_iff_ne.2 h,beq_eq_false_iff_ne.2 h']
      rw[this];simp)
     rw[e]at ih
     have ew:IntKind.i64.wrap ((i:Int)+1)=((i+1:Nat):Int):=by
      have:=hd.t
      rw[wq2y (by omega) (by omega)];omega
     rw[ew]
     exact ih
theorem wqyz{R:Type}{k:Nat}(hk:6000<k)(d:Dm)(hd:Wd d)(K:Int→Option R): wq4x k d brs K=K (bif chkS d brs then 0 else 1):=by
 unfold wq4x wqii chkS
 rw[wq1ci]
 cases(decide (1≤d.length)&&decide (d.length≤16))&&decide (brs.length≤500)with
 |false=>rfl
 |true=>exact wq10c hl hb hk d hd K d 0 k 0 [] rfl (Nat.zero_le _) (by have:=hd.t;omega) (Nat.zero_le _) (fun t=>rfl)
theorem rdup{R:Type}(k:Nat)(J:Dm→List Br→Int→Int→Option R)(d:Dm)(hd:Wd d)(next:Int)(i:Nat)(hi:i<d.length)(c:List UInt8×List Int)(hc:∀ z,d.getD i z=c)(K:Bool→Option R): ∀(s:Dm) (j m:Nat),(d.take i).drop j=s→j≤i→s.length<m →
 wq40 k J m d brs next (i:Int) (j:Int) K=(bif (s.any fun x=>x.1 == c.1)then K false else wqee k d brs c.2 next (i:Int) (-1) 1 (fun y10=>cond (decide (y10<0)) (K false) (J d brs y10 (IntKind.i64.wrap ((i:Int)+1)))))
 |s,j,0,_,_,h=>by omega
 |[],j,m+1,hs,hj,hm=>by
  have h1:=wqas hs
  rw[List.length_take]at h1
  rw[wq40,wqae,dec_f (by omega),cond_false,inb_t (i:=(i:Int)) (by omega) (by omega),cond_true,wq1p,hc];rfl
 |x::s,j,m+1,hs,hj,hm=>by
  obtain⟨hlt,hx,hr⟩:=wq51 hs
  rw[List.length_take]at hlt
  have hx':∀ z,d.getD j z=x:=by
   intro z
   have:=hx z
   rw[List.getD,List.getElem?_take_of_lt (by omega)]at this
   exact this
  rw[wq40,wqae,dec_t (by omega),cond_true,inb_t (i:=(j:Int)) (by omega) (by omega),cond_true,inb_t (i:=(i:Int)) (by omega) (by omega),cond_true,wq1p,wq1p,hc,hx',List.any_cons]
  cases x.1 == c.1 with
  |true=>rfl
  |false =>
   have:=hd.t
   rw[Bool.false_or,cond_false,wq2y (x:=(j:Int)+1) (by omega) (by omega),show(j:Int)+1=((j+1:Nat):Int) by omega]
   exact rdup k J d hd next i hi c hc K s (j+1) m hr (by omega) (by simp at hm;omega)
theorem wq10d{R:Type}{k:Nat}(hk:6000<k)(d:Dm)(hd:Wd d)(K:Bool→Option R): ∀(s:Dm) (i m next:Nat),d.drop i=s→i≤d.length→s.length<m→next≤brs.length →
 wq36 k m d brs (next:Int) (i:Int) K=K (domsC brs s (d.take i) next)
 |s,i,0,_,_,_,h,_=>by omega
 |[],i,m+1,next,hs,hi,hm,hn=>by
  have:=wqas hs
  rw[wq36,wq85,dec_f (by omega),cond_false,domsC,wq1er]
 |c::s,i,m+1,next,hs,hi,hm,hn=>by
  obtain⟨hlt,hc,hr⟩:=wq51 hs
  have hcm:c∈d:=by
   have:=hc (Kd.zero (@Kd.pr Kd.str (@Kd.sl kI)))
   rw[List.getD,List.getElem?_eq_getElem hlt]at this
   rw[←this];exact List.getElem_mem _
  have hlen:(d.take i).length=i:=by rw[List.length_take];omega
  have rd:=rdup hl hb k (fun s0 s1 s2 s3=>wq36 k m s0 s1 s2 s3 K) d hd (next:Int) i hlt c hc K (d.take i) 0 k rfl (Nat.zero_le _) (by have:=hd.t;omega)
  rw[wq36,wq85,dec_t (by omega),cond_true,inb_t (i:=(i:Int)) (by omega) (by omega),cond_true,wq1p,hc,domsC,wqp2 k _ (hd.n c hcm) (by omega),hlen]
  cases nmB c.1 with
  |false=>cases(d.take i).any fun x=>x.1 == c.1<;>rfl
  |true =>
   refine Eq.trans (show _=wq40 k (fun s0 s1 s2 s3=>wq36 k m s0 s1 s2 s3 K) k d brs (next:Int) (i:Int) ((0:Nat):Int) K from rfl) (rd.trans ?_)
   cases(d.take i).any fun x=>x.1 == c.1 with
   |true=>rfl
   |false =>
    have hw:=kok hl hb 8 k (i:Int) (by omega) (by omega) R d (-1) c.2 next (fun y12=>cond (decide (y12<0)) (K false) (wq36 k m d brs y12 (IntKind.i64.wrap ((i:Int)+1)) K)) (hd.l c hcm) hn
    refine Eq.trans (show _=wq28 k R d brs c.2 (next:Int) (i:Int) (-1) (9-((8:Nat):Int)) (fun y12=>cond (decide (y12<0)) (K false) (wq36 k m d brs y12 (IntKind.i64.wrap ((i:Int)+1)) K))from rfl) (hw.trans ?_)
    have ex:(bif !false&&true then(match walkC brs (i:Int) 8 (-1) c.2 next with|none=>false|some n=>domsC brs s (d.take i++[c]) n)else false)=(match walkC brs (i:Int) 8 (-1) c.2 next with|none=>false|some n=>domsC brs s (d.take i++[c]) n):=rfl
    rw[wq181,ex]
    cases hq:walkC brs (i:Int) 8 (-1) c.2 next with
    |none=>rfl
    |some n =>
     have hnn:=wqqo (i:Int) 8 _ _ _ _ hq (by omega)
     have e:d.take (i+1)=d.take i++[c]:=by
      rw[List.take_succ_eq_append_getElem hlt]
      have:=hc (Kd.zero (@Kd.pr Kd.str (@Kd.sl kI)))
      rw[List.getD,List.getElem?_eq_getElem hlt]at this
      congr 2
     have ih:=wq10d hk d hd K s (i+1) m n hr (by omega) (by simp at hm;omega) hnn
     rw[e]at ih
     have ew:IntKind.i64.wrap ((i:Int)+1)=((i+1:Nat):Int):=by
      have:=hd.t
      rw[wq2y (by omega) (by omega)];omega
     rw[ew]
     exact ih
theorem wq124{R:Type}{k:Nat}(hk:6000<k)(d:Dm)(hd:Wd d)(K:Bool→Option R): wq89 k d brs K=K (chkS d brs):=by
 unfold wq89 wqlj chkS
 rw[wq1ci]
 cases(decide (1≤d.length)&&decide (d.length≤16))&&decide (brs.length≤500)with
 |false=>rfl
 |true=>exact wq10d hl hb hk d hd K d 0 k 0 rfl (Nat.zero_le _) (by have:=hd.t;omega) (Nat.zero_le _)
end
end Go.Proofs.YtabkhphoacmcdaaGreatDoor.Pvm
namespace Go.Proofs.YtabkhphoacmcdaaGreatDoor.Pvm
open Go
theorem ba(p q:Bool): (bif p then q else false)=(p&&q):=by cases p<;>rfl
theorem bt(p:Bool): (p == true)=p:=by cases p<;>rfl
def all2{α : Type}(f : α → α → Bool): List α → List α → Bool
 |[],[]=>true
 |a::p,b::q=>f a b&&all2 f p q
 |_,_=>false
theorem wqp3 {α : Type} {R:Type} (z : α) (f : α → α → Bool) (L:Nat→Int→Option R) (E F:Option R) (x y:List α) (hx:x.length≤4000) (hxy:x.length=y.length)
 (fin:∀ n,L (n+1) (x.length:Int)=E)
 (step:∀(n i:Nat) (a b : α),i<x.length→(∀ z,x.getD i z=a)→(∀ z,y.getD i z=b)→a∈x→b∈y→L (n+1) (i:Int)=bif f a b then L n ((i+1:Nat):Int)else F) :
 ∀(p q:List α) (i m:Nat),x.drop i=p→y.drop i=q→p.length<m→i≤x.length→L m (i:Int)=bif all2 f p q then E else F
 |p,q,i,0,_,_,h,_=>by omega
 |[],q,i,m+1,hp,hq,h,hi=>by
  have h1:=wqas hp
  have h2:q=[]:=by rw[←hq];simp;omega
  subst h2
  have:i=x.length:=by omega
  subst this
  exact fin m
 |a::p,[],i,m+1,hp,hq,h,hi=>by
  obtain⟨h1,_,_⟩:=wq51 hp
  have:=wqas hq
  omega
 |a::p,b::q,i,m+1,hp,hq,h,hi=>by
  obtain⟨h1,h2,h3⟩:=wq51 hp
  obtain⟨g1,g2,g3⟩:=wq51 hq
  rw[step m i a b h1 h2 g2 (List.mem_of_mem_drop (by rw[hp];simp)) (List.mem_of_mem_drop (by rw[hq];simp)),all2]
  cases f a b with
  |false=>rfl
  |true =>
   rw[cond_true,Bool.true_and]
   exact wqp3 z f L E F x y hx hxy fin step p q (i+1) m h3 g3 (by simp at h;omega) (by omega)
def domEq(a b:List UInt8×List Int): Bool:=a.1 == b.1&&a.2 == b.2
def brEq(b c:Br): Bool:=(((((b.1 == c.1&&b.2.1 == c.2.1)&&b.2.2.1 == c.2.2.1)&&b.2.2.2.1 == c.2.2.2.1)&&b.2.2.2.2.1 == c.2.2.2.2.1)&&b.2.2.2.2.2.1 == c.2.2.2.2.2.1)&&(ruleEq b.2.2.2.2.2.2.1 c.2.2.2.2.2.2.1&&b.2.2.2.2.2.2.2 == c.2.2.2.2.2.2.2)
def sameC(d d':Dm)(b b':List Br): Bool:=(d.length == d'.length&&b.length == b'.length)&&(all2 domEq d d'&&all2 brEq b b')
theorem wq1cj:∀ x y:List Int,all2 (fun a b=>a == b) x y=(x == y)
 |[],[]=>rfl
 |[],_::_=>rfl
 |_::_,[]=>rfl
 |a::p,b::q=>by
  have e:((a::p) == (b::q))=((a == b)&&(p == q)):=rfl
  rw[all2,wq1cj p q,e]
theorem wq1es{x y:List Int}(h:x.length≠y.length): (x == y)=false:=by
 rw[beq_eq_false_iff_ne]
 exact fun e=>h (by rw[e])
theorem wq1et(k:Nat){R:Type}(x y:List Int)(hx:x.length≤4000)(hk:4000<k)(K:Bool→Option R): wqdz k x y K=K (x == y):=by
 unfold wqdz wqs5
 by_cases h:x.length=y.length
 ·rw[ine_f (by omega),cond_false]
  have q:=wqp3 (0:Int) (fun a b=>a == b) (fun m i=>wq6x k m x y i K) (K true) (K false) x y hx h
   (fun n=>by rw[wq6x,wqcx,dec_f (by omega)];rfl)
   (fun n i a b hi e1 e2 _ _=>by
    rw[wq6x,wqcx,dec_t (by omega),cond_true,inb_t (by omega) (by omega),cond_true,inb_t (by omega) (by omega),cond_true,wq1p,e1,e2,wq2y (by omega) (by omega),show(i:Int)+1=((i+1:Nat):Int) by omega,show(a != b) = !(a == b)from rfl]
    cases a == b<;>rfl) x y 0 k rfl rfl (by omega) (Nat.zero_le _)
  refine Eq.trans q ?_
  rw[wq1cj]
  cases x == y<;>rfl
 ·rw[ine_t (by omega),cond_true,wq1es h]
theorem wq184(k:Nat){R:Type}(x y:List Int)(hx:x.length≤4000)(hk:4000<k)(K:Bool→Option R): wq3w k x y K=K (x == y):=by
 unfold wq3w wq8f
 by_cases h:x.length=y.length
 ·rw[ine_f (by omega),cond_false]
  have q:=wqp3 (0:Int) (fun a b=>a == b) (fun m i=>wq2g k m x y (x.length:Int) i K) (K true) (K false) x y hx h
   (fun n=>by rw[wq2g,wq4o,dec_f (by omega)];rfl)
   (fun n i a b hi e1 e2 _ _=>by
    rw[wq2g,wq4o,dec_t (by omega),cond_true,inb_t (by omega) (by omega),cond_true,inb_t (by omega) (by omega),cond_true,wq1p,e1,e2,wq2y (by omega) (by omega),show(i:Int)+1=((i+1:Nat):Int) by omega,show(a != b) = !(a == b)from rfl]
    cases a == b<;>rfl) x y 0 k rfl rfl (by omega) (Nat.zero_le _)
  refine Eq.trans q ?_
  rw[wq1cj]
  cases x == y<;>rfl
 ·rw[ine_t (by omega),cond_true,wq1es h]
section
variable (k:Nat) (hk:6000<k) {R:Type}
include hk
theorem wq19m(b c:Br)(hb:Wb b)(hc:Wb c)(K:Bool→Option R): wq5b k b.1 b.2.1 b.2.2.1 b.2.2.2.1 b.2.2.2.2.1 b.2.2.2.2.2.1 b.2.2.2.2.2.2.1.1 b.2.2.2.2.2.2.1.2.1 b.2.2.2.2.2.2.1.2.2.1 b.2.2.2.2.2.2.1.2.2.2.1 b.2.2.2.2.2.2.1.2.2.2.2.1 b.2.2.2.2.2.2.1.2.2.2.2.2 b.2.2.2.2.2.2.2 c.1 c.2.1 c.2.2.1 c.2.2.2.1 c.2.2.2.2.1 c.2.2.2.2.2.1 c.2.2.2.2.2.2.1.1 c.2.2.2.2.2.2.1.2.1 c.2.2.2.2.2.2.1.2.2.1 c.2.2.2.2.2.2.1.2.2.2.1 c.2.2.2.2.2.2.1.2.2.2.2.1 c.2.2.2.2.2.2.1.2.2.2.2.2 c.2.2.2.2.2.2.2 K=K (brEq b c):=by
 unfold wq5b wqji wq9p wqkj brEq
 rw[wq109 k (by omega) _ _ hb.f1 hc.f1]
 simp only[ba,bt]
 rw[wq184 k _ _ hb.l1 (by omega)]
 generalize (((((b.1 == c.1&&b.2.1 == c.2.1)&&b.2.2.1 == c.2.2.1)&&b.2.2.2.1 == c.2.2.2.1)&&b.2.2.2.2.1 == c.2.2.2.2.1)&&b.2.2.2.2.2.1 == c.2.2.2.2.2.1)=p
 cases p with
 |false=>rfl
 |true=>cases ruleEq b.2.2.2.2.2.2.1 c.2.2.2.2.2.2.1<;>rfl
theorem wq1fq(a b:List UInt8×List Int)(ha:a.2.length≤4000)(K:Bool→Option R): wq6h k a.1 a.2 b.1 b.2 K=K (domEq a b):=by
 unfold wq6h wqn3 domEq
 rw[wq184 k _ _ ha (by omega)]
 cases a.1 == b.1<;>rfl
theorem wqqp(d d':Dm)(b b':List Br)(hd:Wd d)(hl:b.length≤4000)(hb:∀ x∈b,Wb x)(hb':∀ x∈b',Wb x)(K:Bool→Option R): wq4i k d b d' b' K=K (sameC d d' b b'):=by
 unfold wq4i wqkn wqp wq1x sameC
 have ht:=hd.t
 by_cases h1:d.length=d'.length
 ·rw[ine_f (by omega),cond_false]
  have q1:=wqp3 ([],[]) domEq (fun m i=>wqc k m d' d (d.length:Int) i (fun y7=>cond (y7 == true) (wqf k b b' K) (K false))) (wqf k b b' K) (K false) d d' (by omega) h1
   (fun n=>by rw[wqc,wqz,dec_f (by omega)];rfl)
   (fun n i x y hi e1 e2 m1 m2=>by
    rw[wqc,wqz,dec_t (by omega),cond_true,inb_t (by omega) (by omega),cond_true,inb_t (by omega) (by omega),cond_true,wq1p,e1,e2,wq1fq k hk x y (hd.l x m1),wq2y (by omega) (by omega),show(i:Int)+1=((i+1:Nat):Int) by omega]
    cases domEq x y<;>rfl) d d' 0 k rfl rfl (by omega) (Nat.zero_le _)
  refine Eq.trans q1 ?_
  have e1:(d.length == d'.length)=true:=by rw[h1];simp
  rw[e1,Bool.true_and]
  cases all2 domEq d d' with
  |false=>rw[Bool.false_and,Bool.and_false];rfl
  |true =>
   rw[cond_true,Bool.true_and]
   unfold wqf wq1w
   by_cases h2:b.length=b'.length
   ·have e2:(b.length == b'.length)=true:=by rw[h2];simp
    rw[ine_f (by omega),cond_false,e2,Bool.true_and]
    have q2:=wqp3 (kdT56.zero:Br) brEq (fun m i=>wqb k m b' b (b.length:Int) i K) (K true) (K false) b b' hl h2
     (fun n=>by rw[wqb,wqy,dec_f (by omega)];rfl)
     (fun n i x y hi e1 e2 m1 m2=>by
      rw[wqb,wqy,dec_t (by omega),cond_true,inb_t (by omega) (by omega),cond_true,inb_t (by omega) (by omega),cond_true,wq1p,e1,e2,wq19m k hk x y (hb x m1) (hb' y m2),wq2y (by omega) (by omega),show(i:Int)+1=((i+1:Nat):Int) by omega]
      cases brEq x y<;>rfl) b b' 0 k rfl rfl (by omega) (Nat.zero_le _)
    refine Eq.trans q2 ?_
    cases all2 brEq b b'<;>rfl
   ·have e2:(b.length == b'.length)=false:=by rw[beq_eq_false_iff_ne];exact h2
    rw[ine_t (by omega),cond_true,e2,Bool.false_and]
 ·have e1:(d.length == d'.length)=false:=by rw[beq_eq_false_iff_ne];exact h1
  rw[ine_t (by omega),cond_true,e1,Bool.false_and,Bool.false_and];rfl
theorem wq14m(d d':Dm)(b b':List Br)(hd:Wd d)(hl:b.length≤4000)(hb:∀ x∈b,Wb x)(hb':∀ x∈b',Wb x)(K:Bool→Option R): wq6y k d b d' b' K=K (sameC d d' b b'):=by
 unfold wq6y wqon sameC
 have ht:=hd.t
 by_cases h1:d.length=d'.length
 ·have e1:(d.length == d'.length)=true:=by rw[h1];simp
  by_cases h2:b.length=b'.length
  ·have e2:(b.length == b'.length)=true:=by rw[h2];simp
   rw[ine_f (show(d.length:Int)=d'.length by omega),ine_f (show(b.length:Int)=b'.length by omega),cond_false,cond_false,e1,e2,Bool.and_self,Bool.true_and]
   have q2:=wqp3 (kdT56.zero:Br) brEq (fun m i=>wq49 k m d b d' b' i K) (K true) (K false) b b' hl h2
    (fun n=>by rw[wq49,wq7b,dec_f (by omega)];rfl)
    (fun n i x y hi e1 e2 m1 m2=>by
     rw[wq49,wq7b,dec_t (by omega),cond_true,inb_t (by omega) (by omega),cond_true,inb_t (by omega) (by omega),cond_true,wq1p,e1,e2,wq10a k (by omega) _ _ (hb x m1).f1 (hb' y m2).f1,wq1et k _ _ (hb x m1).l1 (by omega),wq2y (by omega) (by omega),show(i:Int)+1=((i+1:Nat):Int) by omega]
     unfold brEq
     have n1:(x.2.2.2.1 != y.2.2.2.1) = !(x.2.2.2.1 == y.2.2.2.1):=rfl
     have n2:(x.2.2.2.2.1 != y.2.2.2.2.1) = !(x.2.2.2.2.1 == y.2.2.2.2.1):=rfl
     rw[n1,n2]
     cases x.1 == y.1
     ·rfl
     cases x.2.1 == y.2.1
     ·rfl
     cases x.2.2.1 == y.2.2.1
     ·rfl
     cases x.2.2.2.1 == y.2.2.2.1
     ·rfl
     cases x.2.2.2.2.1 == y.2.2.2.2.1
     ·rfl
     cases x.2.2.2.2.2.1 == y.2.2.2.2.2.1
     ·rfl
     cases ruleEq x.2.2.2.2.2.2.1 y.2.2.2.2.2.2.1
     ·rfl
     cases x.2.2.2.2.2.2.2 == y.2.2.2.2.2.2.2<;>rfl) b b' 0 k rfl rfl (by omega) (Nat.zero_le _)
   have q1:=wqp3 ([],[]) domEq (fun m i=>wq66 k m d b d' b' i K) (wq49 k k d b d' b' 0 K) (K false) d d' (by omega) h1
    (fun n=>by rw[wq66,wq94,dec_f (by omega)];rfl)
    (fun n i x y hi e1 e2 m1 m2=>by
     rw[wq66,wq94,dec_t (by omega),cond_true,inb_t (by omega) (by omega),cond_true,inb_t (by omega) (by omega),cond_true,wq1p,e1,e2,wq1et k _ _ (hd.l x m1) (by omega),wq2y (by omega) (by omega),show(i:Int)+1=((i+1:Nat):Int) by omega]
     unfold domEq
     cases x.1 == y.1
     ·rfl
     cases x.2 == y.2<;>rfl) d d' 0 k rfl rfl (by omega) (Nat.zero_le _)
   refine Eq.trans q1 ?_
   cases all2 domEq d d' with
   |false=>rfl
   |true =>
    refine Eq.trans q2 ?_
    cases all2 brEq b b'<;>rfl
  ·have e2:(b.length == b'.length)=false:=by rw[beq_eq_false_iff_ne];exact h2
   rw[ine_t (show(b.length:Int)≠b'.length by omega),e1,e2]
   cases(d.length:Int) != (d'.length:Int)<;>rfl
 ·have e1:(d.length == d'.length)=false:=by rw[beq_eq_false_iff_ne];exact h1
  rw[ine_t (show(d.length:Int)≠d'.length by omega),e1];rfl
end
theorem wq1dx(x:Nat): ordX x x=0:=by
 unfold ordX
 cases nanX x with
 |true=>rfl
 |false =>
  unfold ordS
  cases decide (fW≤x)<;>simp
theorem wq125{α : Type}(f : α → α → Bool)(h:∀ a,f a a=true): ∀ l:List α,all2 f l l=true
 |[]=>rfl
 |a::r=>by rw[all2,h,wq125 f h r];rfl
theorem wq1ck(d:Dm)(b:List Br): sameC d d b b=true:=by
 unfold sameC
 rw[wq125 domEq (fun a=>by unfold domEq;simp) d,wq125 brEq (fun a=>by unfold brEq ruleEq;rw[wq1dx];simp) b];simp
end Go.Proofs.YtabkhphoacmcdaaGreatDoor.Pvm
namespace Go.Proofs.YtabkhphoacmcdaaGreatDoor.Pvm
open Go
def mn3(n:Nat): Nat:=if 3001<n then 3001 else n
theorem mn3_eq(n:Nat): (if(3001:Int)<(n:Int)then 3001 else(n:Int))=(mn3 n:Int):=by
 unfold mn3
 split<;>split<;>omega
theorem mn3_le(n:Nat): mn3 n≤3001:=by unfold mn3;split<;>omega
theorem mn3_ok{n:Nat}(h:mn3 n≤3000): n≤3000:=by unfold mn3 at h;split at h<;>omega
structure Lb (b:Br):Prop where
 a1:b.1.length≤3000
 a2:b.2.1.length≤3000
 a3:b.2.2.2.2.2.2.1.1.length≤3000
 a4:b.2.2.2.2.2.2.2.length≤3000
def Ld(d:List UInt8×List Int): Prop:=d.1.length≤3000∧d.2.length≤3000
theorem big_b(k:Nat){R:Type}(K:Bool→Option R)(d:Dm)(b:List Br)(hb:b.length≤140737488351232): ∀(p:List Br) (i m a:Nat),b.drop i=p→p.length<m→i≤b.length→a≤300000000000000 →
 ∃ v,wq50 k m d b (a:Int) (i:Int) K=K v∧(v=false→a≤3000∧∀ x∈p,Lb x)
 |p,i,0,a,_,h,_,_=>by omega
 |[],i,m+1,a,hp,h,hi,ha=>by
  have h1:=wqas hp
  refine⟨decide ((a:Int)>3000),?_,fun h=>⟨by have:=of_decide_eq_false h;omega,fun x hx=>by cases hx⟩⟩
  rw[wq50,wq9v]
  simp(disch:=omega)only[dec_t,dec_f,ieq_t,ieq_f,ine_t,ine_f,inb_t,bnd_t,wq2y,wqbs,cond_true,cond_false,Bool.not_true,Bool.not_false,Bool.true_or,Bool.or_true,Bool.false_or,Bool.or_false,Bool.true_and,Bool.and_true,Bool.false_and,Bool.and_false,wq4n,wq41,wq1p]
 |x::p,i,m+1,a,hp,h,hi,ha=>by
  obtain⟨h1,h2,h3⟩:=wq51 hp
  by_cases hc:a≤3000
  ·have m1:=mn3_le x.1.length
   have m2:=mn3_le x.2.1.length
   have m3:=mn3_le x.2.2.2.2.2.2.2.length
   have m4:=mn3_le x.2.2.2.2.2.2.1.1.length
   obtain⟨v,e1,e2⟩:=big_b k K d b hb p (i+1) m (a+mn3 x.1.length+mn3 x.2.1.length+mn3 x.2.2.2.2.2.2.2.length+mn3 x.2.2.2.2.2.2.1.1.length) h3 (by simp at h;omega) (by omega) (by omega)
   refine⟨v,?_,fun hv => ?_⟩
   ·rw[←e1,wq50,wq9v]
    simp(disch:=omega)only[dec_t,dec_f,ieq_t,ieq_f,ine_t,ine_f,inb_t,bnd_t,wq2y,wqbs,cond_true,cond_false,Bool.not_true,Bool.not_false,Bool.true_or,Bool.or_true,Bool.false_or,Bool.or_false,Bool.true_and,Bool.and_true,Bool.false_and,Bool.and_false,wq4n,wq41,wq1p,h2,wqm6,mn3_eq,wq16k]
   ·obtain⟨g1,g2⟩:=e2 hv
    refine⟨hc,fun y hy => ?_⟩
    rcases List.mem_cons.1 hy with rfl|hy
    ·exact⟨mn3_ok (by omega),mn3_ok (by omega),mn3_ok (by omega),mn3_ok (by omega)⟩
    ·exact g2 y hy
  ·refine⟨true,?_,fun h=>by cases h⟩
   rw[wq50,wq9v]
   simp(disch:=omega)only[dec_t,dec_f,ieq_t,ieq_f,ine_t,ine_f,inb_t,bnd_t,wq2y,wqbs,cond_true,cond_false,Bool.not_true,Bool.not_false,Bool.true_or,Bool.or_true,Bool.false_or,Bool.or_false,Bool.true_and,Bool.and_true,Bool.false_and,Bool.and_false,wq4n,wq41,wq1p]
theorem big_d(k:Nat){R:Type}(K:Bool→Option R)(d:Dm)(b:List Br)(hd:d.length≤140737488351232)(hb:b.length≤140737488351232)(hk:b.length<k): ∀(p:Dm) (i m a:Nat),d.drop i=p→p.length<m→i≤d.length→a≤290000000000000 →
 ∃ v,wq5t k m d b (a:Int) (i:Int) K=K v∧(v=false→a≤3000∧(∀ x∈p,Ld x)∧∀ x∈b,Lb x)
 |p,i,0,a,_,h,_,_=>by omega
 |[],i,m+1,a,hp,h,hi,ha=>by
  have h1:=wqas hp
  obtain⟨v,e1,e2⟩:=big_b k K d b hb b 0 k a rfl hk (Nat.zero_le _) (by omega)
  refine⟨v,?_,fun h=>⟨(e2 h).1,fun x hx=>(by cases hx),(e2 h).2⟩⟩
  rw[wq5t,wq6z,←e1]
  simp(disch:=omega)only[dec_t,dec_f,ieq_t,ieq_f,ine_t,ine_f,inb_t,bnd_t,wq2y,wqbs,cond_true,cond_false,Bool.not_true,Bool.not_false,Bool.true_or,Bool.or_true,Bool.false_or,Bool.or_false,Bool.true_and,Bool.and_true,Bool.false_and,Bool.and_false,wq4n,wq41,wq1p]
  rfl
 |x::p,i,m+1,a,hp,h,hi,ha=>by
  obtain⟨h1,h2,h3⟩:=wq51 hp
  by_cases hc:a≤3000
  ·have m1:=mn3_le x.1.length
   have m2:=mn3_le x.2.length
   obtain⟨v,e1,e2⟩:=big_d k K d b hd hb hk p (i+1) m (a+mn3 x.1.length+mn3 x.2.length) h3 (by simp at h;omega) (by omega) (by omega)
   refine⟨v,?_,fun hv => ?_⟩
   ·rw[←e1,wq5t,wq6z]
    simp(disch:=omega)only[dec_t,dec_f,ieq_t,ieq_f,ine_t,ine_f,inb_t,bnd_t,wq2y,wqbs,cond_true,cond_false,Bool.not_true,Bool.not_false,Bool.true_or,Bool.or_true,Bool.false_or,Bool.or_false,Bool.true_and,Bool.and_true,Bool.false_and,Bool.and_false,wq4n,wq41,wq1p,h2,wqm6,mn3_eq,wq16k]
   ·obtain⟨g1,g2,g3⟩:=e2 hv
    refine⟨hc,fun y hy => ?_,g3⟩
    rcases List.mem_cons.1 hy with rfl|hy
    ·exact⟨mn3_ok (by omega),mn3_ok (by omega)⟩
    ·exact g2 y hy
  ·obtain⟨v,e1,e2⟩:=big_b k K d b hb b 0 k a rfl hk (Nat.zero_le _) (by omega)
   refine⟨v,?_,fun h=>by have:=(e2 h).1;omega⟩
   rw[wq5t,wq6z,←e1]
   simp(disch:=omega)only[dec_t,dec_f,ieq_t,ieq_f,ine_t,ine_f,inb_t,bnd_t,wq2y,wqbs,cond_true,cond_false,Bool.not_true,Bool.not_false,Bool.true_or,Bool.or_true,Bool.false_or,Bool.or_false,Bool.true_and,Bool.and_true,Bool.false_and,Bool.and_false,wq4n,wq41,wq1p]
   rfl
theorem big_eq(k:Nat){R:Type}(K:Bool→Option R)(d:Dm)(b:List Br)(hd:d.length≤140737488351232)(hb:b.length≤140737488351232)(hk:d.length+b.length<k): ∃ v,wqe1 k d b K=K v∧(v=false→Wd d∧b.length≤4000∧∀ x∈b,Lb x):=by
 obtain⟨v,e1,e2⟩:=big_d k K d b hd hb (by omega) d 0 k (d.length+b.length) rfl (by omega) (Nat.zero_le _) (by omega)
 refine⟨v,?_,fun h => ?_⟩
 ·rw[←e1]
  unfold wqe1 wqs6
  simp(disch:=omega)only[dec_t,dec_f,ieq_t,ieq_f,ine_t,ine_f,inb_t,bnd_t,wq2y,wqbs,cond_true,cond_false,Bool.not_true,Bool.not_false,Bool.true_or,Bool.or_true,Bool.false_or,Bool.or_false,Bool.true_and,Bool.and_true,Bool.false_and,Bool.and_false,wq4n,wq41,wq1p,wq16k]
  rfl
 ·obtain⟨g1,g2,g3⟩:=e2 h
  exact⟨⟨fun x hx=>by have:=(g2 x hx).1;omega,fun x hx=>by have:=(g2 x hx).2;omega,by omega⟩,by omega,g3⟩
end Go.Proofs.YtabkhphoacmcdaaGreatDoor.Pvm
set_option maxRecDepth 1000000
namespace Go.Proofs.YtabkhphoacmcdaaGreatDoor.Pvm
open Go Go.Proofs
theorem awkC17(k:Nat){R:Type}(K:Bool→Option R): wq5s (k+300) K=K true:=by kernel_rfl
abbrev kCfg:Kd := .pr (.sl (.pr .str (.sl (.int .i64)))) (.sl (.pr .str (.pr .str (.pr .bool (.pr (.int .i64) (.pr (.int .i64) (.pr .bool (.pr (.pr .str (.pr (.int .i64) (.pr (.int .i64) (.pr .flt (.pr .bool .bool))))) (.sl (.int .i64))))))))))
theorem wqz0(k:Nat)(hA:∀ K:Bool→Option Bool,wq5s k K=K true)(d d':Dm)(b b':List Br)(hk:7000+d.length+b.length+d'.length+b'.length<k)(w1:d.length≤140737488351232)(w2:b.length≤140737488351232)(w3:d'.length≤140737488351232)(w4:b'.length≤140737488351232)(f1:∀ x∈b,x.2.2.2.2.2.2.1.2.2.2.1<2 ^ 64)(f2:∀ x∈b',x.2.2.2.2.2.2.1.2.2.2.1<2 ^ 64): wq5l k d b d' b' (fun b=>some b)=some true:=by
 unfold wq5l wqbr
 obtain⟨v,e1,e2⟩:=big_eq k (fun y7=>cond (y7 == false) (wqe1 k d' b' (fun y8=>cond y8 (wq5s k (fun b=>some b)) (wq4x k d b (fun y9=>wq89 k d b (fun y10=>cond (((y9 == 0) == y10) == true) (wq4i k d b d' b' (fun y11=>wq6y k d b d' b' (fun y12=>cond ((y11 == y12) == true) (wq4i k d b d b (fun y13=>cond (y13 == true) (wq5s k (fun b=>some b)) (some false))) (some false)))) (some false)))))) (wq5s k (fun b=>some b))) d b w1 w2 (by omega)
 refine Eq.trans e1 ?_
 cases v with
 |true=>exact hA _
 |false =>
  obtain⟨g1,g2,g3⟩:=e2 rfl
  rw[show((false:Bool) == false)=true from rfl,cond_true]
  obtain⟨v',e3,e4⟩:=big_eq k (fun y8=>cond y8 (wq5s k (fun b=>some b)) (wq4x k d b (fun y9=>wq89 k d b (fun y10=>cond (((y9 == 0) == y10) == true) (wq4i k d b d' b' (fun y11=>wq6y k d b d' b' (fun y12=>cond ((y11 == y12) == true) (wq4i k d b d b (fun y13=>cond (y13 == true) (wq5s k (fun b=>some b)) (some false))) (some false)))) (some false))))) d' b' w3 w4 (by omega)
  refine Eq.trans e3 ?_
  cases v' with
  |true=>exact hA _
  |false =>
   obtain⟨h1,h2,h3⟩:=e4 rfl
   have hb:∀ x∈b,Wb x:=fun x hx=>⟨by have:=(g3 x hx).a1;omega,by have:=(g3 x hx).a3;omega,f1 x hx,by have:=(g3 x hx).a4;omega,by have:=(g3 x hx).a2;omega⟩
   have hb':∀ x∈b',Wb x:=fun x hx=>⟨by have:=(h3 x hx).a1;omega,by have:=(h3 x hx).a3;omega,f2 x hx,by have:=(h3 x hx).a4;omega,by have:=(h3 x hx).a2;omega⟩
   rw[cond_false,wqyz g2 hb (by omega) d g1]
   rw[wq124 g2 hb (by omega) d g1]
   have e:(((bif chkS d b then(0:Int)else 1) == 0) == chkS d b)=true:=by cases chkS d b<;>rfl
   rw[e,wqqp k (by omega) d d' b b' g1 g2 hb hb',wq14m k (by omega) d d' b b' g1 g2 hb hb',wqqp k (by omega) d d b b g1 g2 hb hb,wq1ck]
   simp only[beq_self_eq_true,cond_true]
   exact hA _
theorem wf_c{c:Dm×List Br}(h:Wf kCfg c): c.1.length≤140737488351232∧c.2.length≤140737488351232∧∀ x∈c.2,x.2.2.2.2.2.2.1.2.2.2.1<2 ^ 64:=by
 obtain⟨⟨h1,_⟩,⟨h2,h3⟩⟩:=h
 have a1:c.1.length*Kd.lob (.pr .str (.sl (.int .i64)))≤140737488351232:=h1
 have e1:Kd.lob (.pr .str (.sl (.int .i64)))=40:=rfl
 have a2:c.2.length*Kd.lob (.pr .str (.pr .str (.pr .bool (.pr (.int .i64) (.pr (.int .i64) (.pr .bool (.pr (.pr .str (.pr (.int .i64) (.pr (.int .i64) (.pr .flt (.pr .bool .bool))))) (.sl (.int .i64)))))))))≤140737488351232:=h2
 have e2:Kd.lob (.pr .str (.pr .str (.pr .bool (.pr (.int .i64) (.pr (.int .i64) (.pr .bool (.pr (.pr .str (.pr (.int .i64) (.pr (.int .i64) (.pr .flt (.pr .bool .bool))))) (.sl (.int .i64)))))))))=116:=rfl
 rw[e1]at a1
 rw[e2]at a2
 refine⟨by omega,by omega,fun x hx => ?_⟩
 exact(h3 x hx).2.2.2.2.2.2.1.2.2.2.1
theorem wquv(x0 x1:kCfg.T)(w0:Wf kCfg x0)(w1:Wf kCfg x1): ∃ k,wq5l k x0.1 x0.2 x1.1 x1.2 (fun b=>some b)=some true:=by
 obtain⟨a1,a2,a3⟩:=wf_c w0
 obtain⟨b1,b2,b3⟩:=wf_c w1
 obtain⟨k,hk⟩:∃ k,k=7000+x0.1.length+x0.2.length+x1.1.length+x1.2.length:=⟨_,rfl⟩
 exact⟨k+300,wqz0 (k+300) (fun K=>awkC17 k K) x0.1 x1.1 x0.2 x1.2 (by omega) a1 a2 b1 b2 a3 b3⟩
end Go.Proofs.YtabkhphoacmcdaaGreatDoor.Pvm
namespace Go.Proofs.YtabkhphoacmcdaaGreatDoor.configChecks
open Go Go.Proofs Go.ChangeShapes Go.WideShapes Go.ChangeAt Go.RowKit Go.Proofs.YtabkhphoacmcdaaGreatDoor.Pvm
theorem own:ownKnob Tryz.prog.godebug=none:=by kernel_rfl
theorem laidOut:laidOutB Tryz.prog=true:=by kernel_rfl
set_option maxRecDepth 100000 in
theorem lifted(os:Os)(started:os.Started)(H:Type)(enc:TypeId×Value→H):
 ReturnsInHanded {} Tryz.checked os 8 .any (fun w args=>(Rows.configChecksSpec.pre enc Tryz.prog Tryz.f8 Rows.configChecksRow.domain false w args∧laidMetH Tryz.prog Rows.configChecksRow.laid w)∧sizedMet enc Tryz.prog Tryz.f8 (OpenSpec.ofChange Rows.configChecksSpec) false w args) (Rows.configChecksSpec.post enc Tryz.prog Tryz.f8 false true false false):=by
 refine returnsInHanded_of_change_and (C:=Tryz.checked) (X:=fun w _=>laidMetH Tryz.prog Rows.configChecksRow.laid w) (fun _ _ _ hh h=>h.of_heap hh) own started (by kernel_rfl) Tryz.func8
  (ChangeSpec.witness_shaped (enc:=enc) (C:=Tryz.checked) (os:=os) (X:=fun w _=>laidMetH Tryz.prog Rows.configChecksRow.laid w) false (World.laidAll Tryz.prog os Rows.configChecksRow.laid) #[.agg #[.slice none 0 0,.slice none 0 0],.agg #[.slice none 0 0,.slice none 0 0]] 8 (World.laidAll_os _ _ _)
   (World.shaped_of_ZipB (by kernel_rfl) (by kernel_rfl)) (by kernel_rfl) (by kernel_rfl) (by kernel_rfl)
   (by rw[MakeChecks.laidMetH_plain _ _ _ (by kernel_rfl)];exact laidMet_laidAll _ (by kernel_rfl) (by kernel_rfl))) ?_
 intro W base args ds gs before hval0 hW hcnd hsz0 hL _
 have hsz:(DataW.weightsEach Tryz.prog (Tryz.f8.params.toList++Rows.configChecksSpec.plain.varTypes Tryz.prog) (ds++gs)).all (· ≤ reachBytes)=true:=hsz0
 have hval:∀(j:Nat) t v,Tryz.f8.params[j]? = some t→args[j]? = some v→Value.okWide Tryz.prog W .any base t v:=hval0
 have hW':=hW
 obtain⟨p,q,hA0,hV,rfl,hfz,hnd⟩:=hW
 have hA:DataW.TrodAll enc Tryz.prog W 0 (fun _=>true) true Tryz.f8.params.toList args.toList ds p:=hA0
 rw[Tryz.params8]at hA hval hsz
 obtain⟨v0,vs0,d0,ds0,p0,q0,hargs,rfl,rfl,h0,r0⟩:=trodAll_cons hA
 obtain⟨v1,vs1,d1,ds1,p1,q1,rfl,rfl,rfl,h1,r1⟩:=trodAll_cons r0
 obtain⟨rfl,rfl,rfl⟩:=trodAll_nil r1
 obtain rfl:args = #[v0,v1]:=by cases args;simp_all
 obtain⟨rfl,rfl⟩:=trodVars_none hV
 have hws:=wq1ay (P:=Tryz.prog) hsz
 have k0:=h0
 have lt0:∀ x∈p0,x.block<W.heap.size:=by obtain⟨m,hm⟩:=k0;exact DataW.trod_lt m _ _ _ hm
 obtain⟨x0,wf0,rv0⟩:=wq12y tyT_ok (n:=9) (K:=(.pr (.sl (.pr .str (.sl (.int .i64)))) (.sl (.pr .str (.pr .str (.pr .bool (.pr (.int .i64) (.pr (.int .i64) (.pr .bool (.pr (.pr .str (.pr (.int .i64) (.pr (.int .i64) (.pr .flt (.pr .bool .bool))))) (.sl (.int .i64)))))))))))) (by kernel_rfl) (by kernel_rfl) (hval 0 27 v0 rfl rfl) h0 (hws 0 27 d0 rfl rfl) (h:=mkH []) (G:=G0) (fun _=>rfl) (fun _ h=>h)
 have k1:=h1
 have lt1:∀ x∈p1,x.block<W.heap.size:=by obtain⟨m,hm⟩:=k1;exact DataW.trod_lt m _ _ _ hm
 obtain⟨x1,wf1,rv1⟩:=wq12y tyT_ok (n:=9) (K:=(.pr (.sl (.pr .str (.sl (.int .i64)))) (.sl (.pr .str (.pr .str (.pr .bool (.pr (.int .i64) (.pr (.int .i64) (.pr .bool (.pr (.pr .str (.pr (.int .i64) (.pr (.int .i64) (.pr .flt (.pr .bool .bool))))) (.sl (.int .i64)))))))))))) (by kernel_rfl) (by kernel_rfl) (hval 1 27 v1 rfl rfl) h1 (hws 1 27 d1 rfl rfl) (h:=mkH []) (G:=G0) (fun _=>rfl) (fun _ h=>h)
 obtain⟨k,hk⟩:=wquv x0 x1 wf0 wf1
 have hrun:h_law17_ConfigChecks.run (@wq5l k) [.agg (Kd.cells (.pr (.sl (.pr .str (.sl (.int .i64)))) (.sl (.pr .str (.pr .str (.pr .bool (.pr (.int .i64) (.pr (.int .i64) (.pr .bool (.pr (.pr .str (.pr (.int .i64) (.pr (.int .i64) (.pr .flt (.pr .bool .bool))))) (.sl (.int .i64))))))))))) x0),.agg (Kd.cells (.pr (.sl (.pr .str (.sl (.int .i64)))) (.sl (.pr .str (.pr .str (.pr .bool (.pr (.int .i64) (.pr (.int .i64) (.pr .bool (.pr (.pr .str (.pr (.int .i64) (.pr (.int .i64) (.pr .flt (.pr .bool .bool))))) (.sl (.int .i64))))))))))) x1)] [] lawK=some true:=(show _=wq5l k x0.1 x0.2 x1.1 x1.2 (fun b=>some b) by kernel_rfl).trans hk
 refine(wq17i (fn:=Tryz.f8) (c:=Tryz.f8.body.getD .skip) (by kernel_rfl) (by kernel_rfl) (by kernel_rfl) (wqow k _ _ _ _ _ hrun) (vals:=[v0,v1]) ⟨v0,_,rfl,rv0,⟨v1,_,rfl,rv1,rfl⟩⟩).mono fun e W' ⟨he,bel⟩ => ?_
 subst he
 exact⟨_,rfl,_,_,_,[],_,[],hW',trodAll_mk1 (shut_bool Tryz.underlying4 _),(trodAll_cons_mk (Below.trod laidOut (by kernel_rfl) (of_decide_eq_true (by kernel_rfl)) k0 bel lt0) (trodAll_cons_mk (Below.trod laidOut (by kernel_rfl) (of_decide_eq_true (by kernel_rfl)) k1 bel lt1) trodAll_mk0)),rfl,bel.frame _,fun h=>by cases h⟩
theorem over:Rows.configChecksRow.holds Tryz.pinned (OpenSpec.ofChange Rows.configChecksSpec) :=
 OpenClaim.holds_of_wide 8 Tryz.f8 rfl rfl rfl rfl rfl rfl rfl ⟨rfl,rfl,rfl,rfl,rfl⟩ rfl rfl rfl rfl rfl (by kernel_rfl) Tryz.func8 (by kernel_rfl)
  (of_decide_eq_true (by kernel_rfl)) (by unfold Func.isWrapper;first|(rw[if_pos (by decide +kernel)];kernel_rfl)|(rw[if_neg (by decide +kernel)];exact⟨rfl,rfl⟩))
  (fun os started H enc _=>lifted os started H enc)
theorem tied:Rows.ConfigChecksCardSaid :=
 Claim7.holds_tied_plain_at .later [] [.data,.pinned] true (true,"c61b158f2341520057692774128471b7c7a277b548e973e80533808263959f4a") true over (fun _ h=>by cases h) (by kernel_rfl) (fun _ h=>by cases h) configChecks_row_tie rfl ⟨rfl,rfl⟩ (by kernel_rfl) rfl
  (fun f fn hf hfn=>by
   obtain rfl:f=8:=Option.some.inj ((show Tryz.prog.funcNamed Rows.configChecksRow.func=some 8 by kernel_rfl).symm.trans hf) |>.symm
   obtain rfl:fn=Tryz.f8:=(Option.some.inj (Tryz.func8.symm.trans hfn)).symm
   exact⟨by kernel_rfl,fun j t ht=>by
    rw[Tryz.params8]at ht
    have hm:t∈[27,27]:=by simpa using Array.mem_of_getElem? ht
    have hall:([27,27].all fun u => !Tryz.prog.wantsStandIn u)=true:=by kernel_rfl
    exact(show Tryz.prog.wantsStandIn t=false by simpa using List.all_eq_true.1 hall t hm)⟩)
  (by kernel_rfl)
#print axioms tied
end Go.Proofs.YtabkhphoacmcdaaGreatDoor.configChecks
namespace Go.Proofs.YtabkhphoacmcdaaGreatDoor
theorem configChecks_holds:Rows.ConfigChecksCardSaid:=configChecks.tied
end Go.Proofs.YtabkhphoacmcdaaGreatDoor
end
