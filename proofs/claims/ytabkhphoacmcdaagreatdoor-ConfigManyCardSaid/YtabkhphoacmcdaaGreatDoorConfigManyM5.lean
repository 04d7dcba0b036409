/- For every number n and both values of domains the Go function ConfigMany returns true. -/
import Derived.KernelRfl
import Derived.Test.YtabkhphoacmcdaaGreatDoorCards
import Derived.Test.YtabkhphoacmcdaaGreatDoorTie
import Derived.LaidMore
import Derived.Lay
import Derived.SevenTiedAt
import Derived.Stop.Joined
import Derived.Test.YtabkhphoacmcdaaGreatDoorRows
import Derived.Test.YtabkhphoacmcdaaGreatDoorConfigManyM0
import Derived.Test.YtabkhphoacmcdaaGreatDoorConfigManyM1
import Derived.Test.YtabkhphoacmcdaaGreatDoorConfigManyM2
import Derived.Test.YtabkhphoacmcdaaGreatDoorConfigManyM3
import Derived.Test.YtabkhphoacmcdaaGreatDoorConfigManyM4
set_option linter.unusedVariables false
set_option linter.unusedSimpArgs false
set_option linter.unusedSectionVars false
noncomputable section
set_option maxRecDepth 1000000
namespace Go.Proofs.YtabkhphoacmcdaaGreatDoor.Pvm
open Go Go.Proofs
theorem wq1bm{α : Type}: ∀(p s:List α) (b x : α),(p++b::s).set p.length x=p++x::s
 |[],s,b,x=>rfl
 |a::p,s,b,x=>by
  show(a::(p++b::s)).set (p.length+1) x=a::(p++x::s)
  rw[List.set_cons_succ,wq1bm p s b x]
def kA(i:Nat): Nat→List Int
 |0=>[]
 |n+1=>((5+2*i:Nat):Int)::kA (i+1) n
abbrev mNd(i:Nat): Nd:=(3,((i+4:Nat):Int),[],false,[mKey],[((6+2*i:Nat):Int)])
abbrev xNd(i:Nat): Nd:=(1,((i+4:Nat):Int),vA i,false,[],[])
def ndsA(i:Nat): Nat→List Nd
 |0=>[]
 |n+1=>mNd i::xNd i::ndsA (i+1) n
theorem wq1bn:∀ n i,(ndsA i n).length=2*n
 |0,i=>rfl
 |n+1,i=>by rw[ndsA,List.length_cons,List.length_cons,wq1bn n];omega
theorem kA_len:∀ n i,(kA i n).length=n
 |0,i=>rfl
 |n+1,i=>by rw[kA,List.length_cons,kA_len n]
theorem next_A(m i:Nat): nextS (pcsA i m) 2 8=false:=by cases m<;>rfl
theorem blk_A(f i:Nat)(rest:List Pce)(nd:List Nd)(hr:nextS rest 2 8=false)(hn:nd.length=5+2*i)(hi:i<520): blkS (f+4) ((2,((i+4:Nat):Int),8,mKey,false)::(3,((i+4:Nat):Int),13,vA i,false)::rest) nd 5 = .inr (rest,nd++[mNd i,xNd i]):=by
 rw[blkS]
 dsimp only
 rw[show(decide ((2:Int)<1) || decide ((2:Int)>3))=false from rfl,cond_false,show decide (24<5)=false from rfl,cond_false,dec_f (show ¬ 2000≤nd.length by omega),cond_false,show((2:Int) == 3)=false from rfl,cond_false,wqfq]
 rw[show nextS ((2,((i+4:Nat):Int),8,mKey,false)::(3,((i+4:Nat):Int),13,vA i,false)::rest) 2 8=true from rfl,cond_true]
 dsimp only
 rw[show((2:Int) == 2&&anyK mKey [])=false from rfl,cond_false,show deepS ((3,((i+4:Nat):Int),13,vA i,false)::rest) 8=true from rfl,cond_true,blkS]
 dsimp only
 rw[show(decide ((3:Int)<1) || decide ((3:Int)>3))=false from rfl,cond_false,show decide (24<5+1)=false from rfl,cond_false,dec_f (by rw[List.length_append];simp only[List.length_cons,List.length_nil];omega),cond_false,show((3:Int) == 3)=true from rfl,cond_true]
 dsimp only
 rw[wqfq,hr,cond_false,show((2:Int) == 2)=true from rfl,cond_true,cond_true,List.append_assoc]
 have e:=wq1bm nd [xNd i] ((0,((i+4:Nat):Int),[],false,[],[]):Nd) ((3,((i+4:Nat):Int),[],false,[]++[mKey],[]++[((nd++[((0,((i+4:Nat):Int),[],false,[],[]):Nd)]).length:Int)]):Nd)
 have e2:(nd++[((0,((i+4:Nat):Int),[],false,[],[]):Nd)]).length=6+2*i:=by rw[List.length_append];simp only[List.length_cons,List.length_nil];omega
 rw[e2]at e ⊢
 exact congrArg (fun z=>(Sum.inr (rest,z):RsD)) e
theorem step_A(f i m:Nat)(nd:List Nd)(ks:List Int)(hn:nd.length=5+2*i)(hi:i<520): kidsS (f+5) 1 4 6 4 4 (pcsA i (m+1)) nd [] ks=kidsS (f+4) 1 4 6 4 4 (pcsA (i+1) m) (nd++[mNd i,xNd i]) [] (ks++[((5+2*i:Nat):Int)]):=by
 rw[wqfq,pcsA]
 rw[show nextS ((1,((i+4:Nat):Int),6,[],false)::(2,((i+4:Nat):Int),8,mKey,false)::(3,((i+4:Nat):Int),13,vA i,false)::pcsA (i+1) m) 1 6=true from rfl,cond_true]
 dsimp only
 rw[show((1:Int) == 2&&anyK [] [])=false from rfl,cond_false,show deepS ((2,((i+4:Nat):Int),8,mKey,false)::(3,((i+4:Nat):Int),13,vA i,false)::pcsA (i+1) m) 6=true from rfl,cond_true,blk_A f i _ nd (next_A m (i+1)) hn hi]
 dsimp only
 rw[show((1:Int) == 2)=false from rfl,cond_false,hn]
theorem kids_A:∀(m i f:Nat) (nd:List Nd) (ks:List Int),m+5≤f→nd.length=5+2*i→i+m≤520→kidsS f 1 4 6 4 4 (pcsA i m) nd [] ks = .inr ([],(nd++ndsA i m).set 4 (2,4,[],false,[],ks++kA i m))
 |0,i,f,nd,ks,hf,hn,hi=>by
  obtain⟨f,rfl⟩:∃ f',f=f'+1:=⟨f-1,by omega⟩
  rw[wqfq,ndsA,kA,List.append_nil,List.append_nil]
  rfl
 |m+1,i,f,nd,ks,hf,hn,hi=>by
  obtain⟨f,rfl⟩:∃ f',f=f'+5:=⟨f-5,by omega⟩
  rw[step_A f i m nd ks hn (by omega),kids_A m (i+1) (f+4) _ _ (by omega) (by rw[List.length_append,hn];simp only[List.length_cons,List.length_nil];omega) (by omega),List.append_assoc,List.append_assoc]
  rfl
def hdA(ks:List Int): List Nd:=[(3,1,[],false,[wqnk],[1]),(2,2,[],false,[],[2]),(3,2,[],false,[wqpe,mDesc],[3,4]),(1,2,mShop,false,[],[]),(2,4,[],false,[],ks)]
def docA(n:Nat): List Nd:=hdA (kA 0 n)++ndsA 0 n
theorem wq15i(n:Nat): (docA n).length=5+2*n:=by
 unfold docA hdA
 rw[List.length_append,wq1bn];rfl
theorem of_A(n:Nat)(h1:1≤n)(hn:n≤520): ofS (headP++pcsA 0 n) = .inr (docA n):=by
 obtain⟨m,rfl⟩:∃ m,n=m+1:=⟨n-1,by omega⟩
 have hl:(headP++pcsA 0 (m+1)).length=5+3*(m+1):=by rw[List.length_append,wq1bl];rfl
 obtain⟨f,hf⟩:∃ f,2*((headP++pcsA 0 (m+1)).length)+2=f+m+14:=⟨5*m+4,by rw[hl];omega⟩
 have hof:∀ r:RsD,blkS (2*((headP++pcsA 0 (m+1)).length)+2) (headP++pcsA 0 (m+1)) [] 1=r→ofS (headP++pcsA 0 (m+1))=(match r with
  |.inl e => .inl e
  |.inr p=>match p.1 with
   |[] => .inr p.2
   |y::_ => .inl (6,y.2.1)):=by
  intro r hr
  subst hr
  rfl
 have hk:=kids_A (m+1) 0 (f+m+6) [(0,1,[],false,[],[]),(0,2,[],false,[],[]),(0,2,[],false,[],[]),(1,2,mShop,false,[],[]),(0,4,[],false,[],[])] [] (by omega) rfl (by omega)
 have b4:blkS (f+m+7) (pcsA 0 (m+1)) [(0,1,[],false,[],[]),(0,2,[],false,[],[]),(0,2,[],false,[],[]),(1,2,mShop,false,[],[])] 4=kidsS (f+m+6) 1 4 6 4 4 (pcsA 0 (m+1)) [(0,1,[],false,[],[]),(0,2,[],false,[],[]),(0,2,[],false,[],[]),(1,2,mShop,false,[],[]),(0,4,[],false,[],[])] [] []:=rfl
 have c1:kidsS (f+m+8) 2 2 4 2 3 ((2,3,4,mDesc,false)::pcsA 0 (m+1)) [(0,1,[],false,[],[]),(0,2,[],false,[],[]),(0,2,[],false,[],[]),(1,2,mShop,false,[],[])] [wqpe] [3]=(match blkS (f+m+7) (pcsA 0 (m+1)) [(0,1,[],false,[],[]),(0,2,[],false,[],[]),(0,2,[],false,[],[]),(1,2,mShop,false,[],[])] 4 with
  |.inl e => .inl e
  |.inr (l',nd')=>kidsS (f+m+7) 2 2 4 2 3 l' nd' [wqpe,mDesc] [3,4]):=rfl
 have c2:kidsS (f+m+9) 2 2 4 2 3 (headP.drop 2++pcsA 0 (m+1)) [(0,1,[],false,[],[]),(0,2,[],false,[],[]),(0,2,[],false,[],[])] [] []=kidsS (f+m+8) 2 2 4 2 3 ((2,3,4,mDesc,false)::pcsA 0 (m+1)) [(0,1,[],false,[],[]),(0,2,[],false,[],[]),(0,2,[],false,[],[]),(1,2,mShop,false,[],[])] [wqpe] [3]:=rfl
 have c3:∀ nd,kidsS (f+m+7) 2 2 4 2 3 [] nd [wqpe,mDesc] [3,4] = .inr ([],nd.set 2 (3,2,[],false,[wqpe,mDesc],[3,4])):=fun nd=>rfl
 have c4:∀ nd,kidsS (f+m+10) 1 2 2 1 2 [] nd [] [2] = .inr ([],nd.set 1 (2,2,[],false,[],[2])):=fun nd=>rfl
 have c5:∀ nd,kidsS (f+m+12) 2 1 0 0 1 [] nd [wqnk] [1] = .inr ([],nd.set 0 (3,1,[],false,[wqnk],[1])):=fun nd=>rfl
 rw[b4,hk]at c1
 dsimp only at c1
 rw[c3]at c1
 have r1:blkS (f+m+14) (headP++pcsA 0 (m+1)) [] 1=kidsS (f+m+13) 2 1 0 0 1 (headP++pcsA 0 (m+1)) [(0,1,[],false,[],[])] [] []:=rfl
 have r2:kidsS (f+m+13) 2 1 0 0 1 (headP++pcsA 0 (m+1)) [(0,1,[],false,[],[])] [] []=(match blkS (f+m+12) (headP.drop 1++pcsA 0 (m+1)) [(0,1,[],false,[],[])] 2 with
  |.inl e => .inl e
  |.inr (l',nd')=>kidsS (f+m+12) 2 1 0 0 1 l' nd' [wqnk] [1]):=rfl
 have r3:blkS (f+m+12) (headP.drop 1++pcsA 0 (m+1)) [(0,1,[],false,[],[])] 2=kidsS (f+m+11) 1 2 2 1 2 (headP.drop 1++pcsA 0 (m+1)) [(0,1,[],false,[],[]),(0,2,[],false,[],[])] [] []:=rfl
 have r4:kidsS (f+m+11) 1 2 2 1 2 (headP.drop 1++pcsA 0 (m+1)) [(0,1,[],false,[],[]),(0,2,[],false,[],[])] [] []=(match blkS (f+m+10) (headP.drop 2++pcsA 0 (m+1)) [(0,1,[],false,[],[]),(0,2,[],false,[],[])] 3 with
  |.inl e => .inl e
  |.inr (l',nd')=>kidsS (f+m+10) 1 2 2 1 2 l' nd' [] [2]):=rfl
 have r5:blkS (f+m+10) (headP.drop 2++pcsA 0 (m+1)) [(0,1,[],false,[],[]),(0,2,[],false,[],[])] 3=kidsS (f+m+9) 2 2 4 2 3 (headP.drop 2++pcsA 0 (m+1)) [(0,1,[],false,[],[]),(0,2,[],false,[],[]),(0,2,[],false,[],[])] [] []:=rfl
 rw[r5,c2,c1]at r4
 dsimp only at r4
 rw[c4]at r4
 rw[r3,r4]at r2
 dsimp only at r2
 rw[c5]at r2
 have hof':=hof _ rfl
 rw[hf,r1,r2]at hof'
 exact hof'
theorem get_A:∀(n i j:Nat),j<n→(ndsA i n)[2*j]? = some (mNd (i+j))∧(ndsA i n)[2*j+1]? = some (xNd (i+j))
 |0,i,j,h=>by omega
 |n+1,i,0,h=>⟨rfl,rfl⟩
 |n+1,i,j+1,h=>by
  obtain⟨a,b⟩:=get_A n (i+1) j (by omega)
  rw[show i+1+j=i+(j+1) by omega]at a b
  exact⟨a,b⟩
theorem doc_at{n j:Nat}(h:j<n): (docA n)[5+2*j]? = some (mNd j)∧(docA n)[6+2*j]? = some (xNd j):=by
 obtain⟨a,b⟩:=get_A n 0 j h
 rw[Nat.zero_add]at a b
 unfold docA
 have hl:(hdA (kA 0 n)).length=5:=rfl
 refine⟨?_,?_⟩
 ·rw[List.getElem?_append_right (by omega),hl,show 5+2*j-5=2*j by omega,a]
 ·rw[List.getElem?_append_right (by omega),hl,show 6+2*j-5=2*j+1 by omega,b]
theorem fit_m(j:Nat): fitN (mNd j)=true:=rfl
theorem fit_x{j:Nat}(h:j<520): fitN (xNd j)=true:=by
 have F:=fA h
 have hl:(vA j).length≤200:=by
  have h1:=F.z
  have h2:(tA j).length=(vA j).length+7:=rfl
  omega
 show((true&&(true&&(decide ((vA j).length≤200)&&(false || plainS (vA j))))):Bool)=true
 rw[dec_t hl,F.p];rfl
theorem walk_m{n j f:Nat}(h:j<n)(hn:n≤520): walkS (f+2) (docA n) (5+2*j)=some (7+2*j):=by
 obtain⟨a,b⟩:=doc_at h
 rw[walkS,a]
 dsimp only
 rw[fit_m,cond_true,kidsW,show(((6+2*j:Nat):Int) == ((5+2*j+1:Nat):Int))=true by rw[beq_iff_eq];omega,cond_true,show 5+2*j+1=6+2*j by omega,walkS,b]
 dsimp only
 rw[fit_x (show j<520 by omega),cond_true]
 show some (6+2*j+1)=_
 congr 1
 omega
theorem wq1e1{n f:Nat}(hn:n≤520): ∀(m j:Nat),j+m=n→kidsW (walkS (f+2) (docA n)) (kA j m) (5+2*j)=some (5+2*n)
 |0,j,h=>by rw[kA,kidsW];congr 1;omega
 |m+1,j,h=>by
  rw[kA,kidsW,beq_self_eq_true,cond_true,walk_m (by omega) hn]
  dsimp only
  rw[show 7+2*j=5+2*(j+1) by omega]
  exact wq1e1 hn m (j+1) (by omega)
theorem wq1e2(n:Nat)(h1:1≤n)(hn:n≤520): checkS (docA n)=true:=by
 obtain⟨m,rfl⟩:∃ m,n=m+1:=⟨n-1,by omega⟩
 have w4:walkS 21 (docA (m+1)) 4=some (5+2*(m+1)):=by
  rw[walkS]
  show(bif fitN (2,4,[],false,[],kA 0 (m+1))then kidsW (walkS 20 (docA (m+1))) (kA 0 (m+1)) (5+2*0)else none)=_
  rw[wq1e1 (f:=18) hn (m+1) 0 (by omega)]
  rfl
 have w3:walkS 21 (docA (m+1)) 3=some 4:=by
  have:fitN (1,2,mShop,false,[],[])=true:=by kernel_rfl
  rw[walkS]
  show(bif fitN (1,2,mShop,false,[],[])then some 4 else none)=_
  rw[this];rfl
 have w2:walkS 22 (docA (m+1)) 2=some (5+2*(m+1)):=by
  rw[walkS]
  show(bif true then(match walkS 21 (docA (m+1)) 3 with
   |none=>none
   |some j=>kidsW (walkS 21 (docA (m+1))) [4] j)else none)=_
  rw[w3]
  show(match walkS 21 (docA (m+1)) 4 with
   |none=>none
   |some j=>some j)=_
  rw[w4]
 have w1:walkS 23 (docA (m+1)) 1=some (5+2*(m+1)):=by
  rw[walkS]
  show(match walkS 22 (docA (m+1)) 2 with
   |none=>none
   |some j=>some j)=_
  rw[w2]
 have w0:walkS 24 (docA (m+1)) 0=some (5+2*(m+1)):=by
  rw[walkS]
  show(match walkS 23 (docA (m+1)) 1 with
   |none=>none
   |some j=>some j)=_
  rw[w1]
 unfold checkS
 rw[w0,wq15i,dec_t (by omega),dec_t (by omega),beq_self_eq_true];rfl
theorem ok_A(n:Nat)(hn:n≤520): ∀ x∈docA n,okD x:=by
 have hs:∀(m i:Nat),i+m≤520→∀ x∈ndsA i m,okD x:=by
  intro m
  induction m with
  |zero=>intro i _ x hx;cases hx
  |succ m ih =>
   intro i hi x hx
   rw[ndsA]at hx
   rcases List.mem_cons.1 hx with rfl|hx
   ·exact⟨(by decide:0≤4000),(by decide:1≤4000),(by decide:1≤4000),fun q hq=>by rw[List.mem_singleton.1 hq];decide⟩
   ·rcases List.mem_cons.1 hx with rfl|hx
    ·have F:=fA (show i<520 by omega)
     have h1:=F.z
     have h2:(tA i).length=(vA i).length+7:=rfl
     exact⟨by show(vA i).length≤4000;omega,(by decide:0≤4000),(by decide:0≤4000),fun q hq=>(by cases hq)⟩
    ·exact ih (i+1) (by omega) x hx
 intro x hx
 unfold docA at hx
 rcases List.mem_append.1 hx with hx|hx
 ·unfold hdA at hx
  simp only[List.mem_cons,List.mem_nil_iff,or_false]at hx
  rcases hx with rfl|rfl|rfl|rfl|rfl
  ·exact⟨(by decide:0≤4000),(by decide:1≤4000),(by decide:1≤4000),fun q hq=>by rw[List.mem_singleton.1 hq];decide⟩
  ·exact⟨(by decide:0≤4000),(by decide:0≤4000),(by decide:1≤4000),fun q hq=>(by cases hq)⟩
  ·refine⟨(by decide:0≤4000),(by decide:2≤4000),(by decide:2≤4000),fun q hq => ?_⟩
   simp only[List.mem_cons,List.mem_nil_iff,or_false]at hq
   rcases hq with rfl|rfl<;>decide
  ·exact⟨(by decide:4≤4000),(by decide:0≤4000),(by decide:0≤4000),fun q hq=>(by cases hq)⟩
  ·exact⟨(by decide:0≤4000),(by decide:0≤4000),by show(kA 0 n).length≤4000;rw[kA_len];omega,fun q hq=>(by cases hq)⟩
 ·exact hs n 0 (by omega) x hx
end Go.Proofs.YtabkhphoacmcdaaGreatDoor.Pvm
set_option maxHeartbeats 0
namespace Go.Proofs.YtabkhphoacmcdaaGreatDoor.Pvm
open Go Go.Proofs
abbrev wq8h:Type 1:=(R:Type)→(List dT72)→Nat→(List ((List UInt8)×(List Int)))→(List dT56)→Int→Int→Int→Int→((List dT72)→Nat→(List ((List UInt8)×(List Int)))→(List dT56)→Int→Int→Bool→Option R)→Option R
def wqpf(k:Nat){R:Type}(x0:(List dT72))(x1:Nat)(x2:(List ((List UInt8)×(List Int))))(x3:(List dT56))(x4 x5 x6 x7:Int)(K:((List dT72)→Nat→(List ((List UInt8)×(List Int)))→(List dT56)→Int→Int→Bool→Option R)): Option R:=cond (x4 == 0) (K x0 x1 x2 x3 x6 x7 (x6 != 0)) (K x0 x1 x2 x3 x4 x5 (x4 != 0))
def wq7l:=@wqpf
abbrev wq8i:Type 1:=(R:Type)→(List dT72)→Nat→(List ((List UInt8)×(List Int)))→(List dT56)→Int→Int→Int→Int→((List dT72)→Nat→(List ((List UInt8)×(List Int)))→(List dT56)→Int→Int→Bool→Option R)→Option R
def wqpg(k:Nat){R:Type}(x0:(List dT72))(x1:Nat)(x2:(List ((List UInt8)×(List Int))))(x3:(List dT56))(x4 x5 x6 x7:Int)(K:((List dT72)→Nat→(List ((List UInt8)×(List Int)))→(List dT56)→Int→Int→Bool→Option R)): Option R:=cond (inb x6 (x0.length:Int)) (wq7l k x0 x1 x2 x3 x4 x5 x7 ((x0.getD x6.toNat kdT72.zero).2).1 K) none
def wqcf:=@wqpg
def wq15j(k:Nat){R:Type}(x0:Int)(K:((List UInt8)→Option R)): Option R:=cond (x0 == 1) (K [115,101,99,111,110,100]) (cond (x0 == 2) (K [109,105,110,117,116,101]) (cond (x0 == 3) (K [104,111,117,114]) (cond (x0 == 4) (K [100,97,121]) (K []))))
def wq15k:=@wq15j
abbrev wqxd:Type 1:=(R:Type)→(List UInt8)→(Int→Option R)→Option R
def wqph(k:Nat){R:Type}(E1002:((List UInt8)→Int→Option R))(s0:(List UInt8))(s1:Int)(K:(Int→Option R)): Option R:=cond (decide (s1≤4)) (wq15k k s1 (fun y6=>cond (y6 == s0) (K s1) (E1002 s0 (@Go.IntKind.wrap Go.IntKind.i64 (s1+1))))) (K 0)
def wq104(k:Nat){R:Type}(E1002:((List UInt8)→Int→Option R))(x0:(List UInt8))(K:(Int→Option R)): Option R:=E1002 x0 1
def wqga(k:Nat){R:Type}: Nat→(List UInt8)→Int→(Int→Option R)→Option R
 |0,_,_,_=>none
 |n+1,s0,s1,K=>wqph k (fun s0 s1=>wqga k n s0 s1 K) s0 s1 K
def wq105(k:Nat){R:Type}(x0:(List UInt8))(K:(Int→Option R)): Option R:=wq104 k (fun s0 s1=>wqga k k s0 s1 K) x0 K
abbrev wqbb:Type 1:=(R:Type)→(List dT72)→Nat→(List ((List UInt8)×(List Int)))→(List dT56)→Int→Int→Int→((List dT72)→Nat→(List ((List UInt8)×(List Int)))→(List dT56)→Int→Int→(List UInt8)→Int→Int→Nat→Bool→Bool→Option R)→Option R
def wqpi(k:Nat)(wqw:wq8h)(wq7t:wqce)(wq1v:wqdk)(wqm9:wqwa)(wq1p:wq8i)(wqpj:wqxa)(wq4o:wqdi)(wq7m:wqdj)(wqpk:wqxd)(wqkr:wqt4){R:Type}(x0:(List dT72))(x1:Nat)(x2:(List ((List UInt8)×(List Int))))(x3:(List dT56))(x4 x5 x6:Int)(K:((List dT72)→Nat→(List ((List UInt8)×(List Int)))→(List dT56)→Int→Int→(List UInt8)→Int→Int→Nat→Bool→Bool→Option R)): Option R:=wq7t R x0 x6 [[117,110,108,105,109,105,116,101,100],[117,110,105,116],[114,101,113,117,101,115,116,115,95,112,101,114,95,117,110,105,116],[110,101,97,114],[110,97,109,101]] (fun y10 y11=>wqw R x0 x1 x2 x3 x4 x5 y10 y11 (fun y12 y13 y14 y15 y16 y17 y18=>cond y18 (K y12 y13 y14 y15 y16 y17 [] 0 0 0 false false) (wq1v R y12 x6 [117,110,108,105,109,105,116,101,100] (fun y19 y20=>cond y20 (wq7m R y12 y19 (fun y21 y22 y23=>wqw R y12 y13 y14 y15 y16 y17 y22 y23 (fun y24 y25 y26 y27 y28 y29 y30=>cond y30 (K y24 y25 y26 y27 y28 y29 [] 0 0 0 false false) (wq1v R y24 x6 [117,110,105,116] (fun y31 y32=>wq1v R y24 x6 [114,101,113,117,101,115,116,115,95,112,101,114,95,117,110,105,116] (fun y33 y34=>wq1v R y24 x6 [110,101,97,114] (fun y35 y36=>cond y21 (cond (cond (cond y32 true y34) true y36) (wq1p R y24 y25 y26 y27 y28 y29 x6 17 (fun y37 y38 y39 y40 y41 y42 y43=>K y37 y38 y39 y40 y41 y42 [] 0 0 0 false y21)) (wq1v R y24 x6 [110,97,109,101] (fun y37 y38=>cond y38 (wq4o R y24 y37 (fun y39 y40 y41=>wqw R y24 y25 y26 y27 y28 y29 y40 y41 (fun y42 y43 y44 y45 y46 y47 y48=>cond y48 (K y42 y43 y44 y45 y46 y47 [] 0 0 0 false y21) (K y42 y43 y44 y45 y46 y47 y39 0 0 0 false y21)))) (K y24 y25 y26 y27 y28 y29 [] 0 0 0 false y21)))) (cond (!y32) (wq1p R y24 y25 y26 y27 y28 y29 x6 10 (fun y37 y38 y39 y40 y41 y42 y43=>K y37 y38 y39 y40 y41 y42 [] 0 0 0 false y21)) (wqpj R y24 y31 1 (fun y37 y38=>wqw R y24 y25 y26 y27 y28 y29 y37 y38 (fun y39 y40 y41 y42 y43 y44 y45=>cond y45 (K y39 y40 y41 y42 y43 y44 [] 0 0 0 false y21) (cond (inb y31 (y39.length:Int)) (wqpk R (((y39.getD y31.toNat kdT72.zero).2).2).1 (fun y46=>cond (y46 == 0) (wq1p R y39 y40 y41 y42 y43 y44 y31 16 (fun y47 y48 y49 y50 y51 y52 y53=>K y47 y48 y49 y50 y51 y52 [] y46 0 0 false y21)) (cond (!y34) (wq1p R y39 y40 y41 y42 y43 y44 x6 10 (fun y47 y48 y49 y50 y51 y52 y53=>K y47 y48 y49 y50 y51 y52 [] y46 0 0 false y21)) (wqkr R y39 y33 0 4294967295 (fun y47 y48 y49=>wqw R y39 y40 y41 y42 y43 y44 y48 y49 (fun y50 y51 y52 y53 y54 y55 y56=>cond y56 (K y50 y51 y52 y53 y54 y55 [] y46 0 0 false y21) (cond y36 (wqm9 R y50 y35 (fun y57 y58 y59=>wqw R y50 y51 y52 y53 y54 y55 y58 y59 (fun y60 y61 y62 y63 y64 y65 y66=>cond y66 (K y60 y61 y62 y63 y64 y65 [] y46 y47 y51 false y21) (wq1v R y60 x6 [110,97,109,101] (fun y67 y68=>cond y68 (wq4o R y60 y67 (fun y69 y70 y71=>wqw R y60 y61 y62 y63 y64 y65 y70 y71 (fun y72 y73 y74 y75 y76 y77 y78=>cond y78 (K y72 y73 y74 y75 y76 y77 [] y46 y47 y57 false y21) (K y72 y73 y74 y75 y76 y77 y69 y46 y47 y57 false y21)))) (K y60 y61 y62 y63 y64 y65 [] y46 y47 y57 false y21)))))) (wq1v R y50 x6 [110,97,109,101] (fun y57 y58=>cond y58 (wq4o R y50 y57 (fun y59 y60 y61=>wqw R y50 y51 y52 y53 y54 y55 y60 y61 (fun y62 y63 y64 y65 y66 y67 y68=>cond y68 (K y62 y63 y64 y65 y66 y67 [] y46 y47 y51 false y21) (K y62 y63 y64 y65 y66 y67 y59 y46 y47 y51 false y21)))) (K y50 y51 y52 y53 y54 y55 [] y46 y47 y51 false y21)))))))))) none)))))))))))) (wq1v R y12 x6 [117,110,105,116] (fun y21 y22=>wq1v R y12 x6 [114,101,113,117,101,115,116,115,95,112,101,114,95,117,110,105,116] (fun y23 y24=>wq1v R y12 x6 [110,101,97,114] (fun y25 y26=>cond (!y22) (wq1p R y12 y13 y14 y15 y16 y17 x6 10 (fun y27 y28 y29 y30 y31 y32 y33=>K y27 y28 y29 y30 y31 y32 [] 0 0 0 false false)) (wqpj R y12 y21 1 (fun y27 y28=>wqw R y12 y13 y14 y15 y16 y17 y27 y28 (fun y29 y30 y31 y32 y33 y34 y35=>cond y35 (K y29 y30 y31 y32 y33 y34 [] 0 0 0 false false) (cond (inb y21 (y29.length:Int)) (wqpk R (((y29.getD y21.toNat kdT72.zero).2).2).1 (fun y36=>cond (y36 == 0) (wq1p R y29 y30 y31 y32 y33 y34 y21 16 (fun y37 y38 y39 y40 y41 y42 y43=>K y37 y38 y39 y40 y41 y42 [] y36 0 0 false false)) (cond (!y24) (wq1p R y29 y30 y31 y32 y33 y34 x6 10 (fun y37 y38 y39 y40 y41 y42 y43=>K y37 y38 y39 y40 y41 y42 [] y36 0 0 false false)) (wqkr R y29 y23 0 4294967295 (fun y37 y38 y39=>wqw R y29 y30 y31 y32 y33 y34 y38 y39 (fun y40 y41 y42 y43 y44 y45 y46=>cond y46 (K y40 y41 y42 y43 y44 y45 [] y36 0 0 false false) (cond y26 (wqm9 R y40 y25 (fun y47 y48 y49=>wqw R y40 y41 y42 y43 y44 y45 y48 y49 (fun y50 y51 y52 y53 y54 y55 y56=>cond y56 (K y50 y51 y52 y53 y54 y55 [] y36 y37 y41 false false) (wq1v R y50 x6 [110,97,109,101] (fun y57 y58=>cond y58 (wq4o R y50 y57 (fun y59 y60 y61=>wqw R y50 y51 y52 y53 y54 y55 y60 y61 (fun y62 y63 y64 y65 y66 y67 y68=>cond y68 (K y62 y63 y64 y65 y66 y67 [] y36 y37 y47 false false) (K y62 y63 y64 y65 y66 y67 y59 y36 y37 y47 false false)))) (K y50 y51 y52 y53 y54 y55 [] y36 y37 y47 false false)))))) (wq1v R y40 x6 [110,97,109,101] (fun y47 y48=>cond y48 (wq4o R y40 y47 (fun y49 y50 y51=>wqw R y40 y41 y42 y43 y44 y45 y50 y51 (fun y52 y53 y54 y55 y56 y57 y58=>cond y58 (K y52 y53 y54 y55 y56 y57 [] y36 y37 y41 false false) (K y52 y53 y54 y55 y56 y57 y49 y36 y37 y41 false false)))) (K y40 y41 y42 y43 y44 y45 [] y36 y37 y41 false false)))))))))) none))))))))))))
def wqgb(k:Nat){R:Type}:= @wqpi k (@wq7l k) (@wqgx k) (@wqio k) (@wqx9 k) (@wqcf k) (@wqp7 k) (@wqim k) (@wqin k) (@wq105 k) (@wqwc k) R
abbrev wq3c:Type 1:=(R:Type)→(List dT72)→Nat→(List ((List UInt8)×(List Int)))→(List dT56)→Int→Int→Int→Int→Int→Int→((List dT72)→Nat→(List ((List UInt8)×(List Int)))→(List dT56)→Int→Int→(List Int)→Option R)→Option R
abbrev wq3m:Type 1:=(R:Type)→(List dT72)→Nat→(List ((List UInt8)×(List Int)))→(List dT56)→Int→Int→Int→Int→Int→Int→(List Int)→((List dT72)→Nat→(List ((List UInt8)×(List Int)))→(List dT56)→Int→Int→Int→Option R)→Option R
def wqfu(k:Nat)(wq1w:wq3c)(wq2u:wq3m){R:Type}(E1005:((List dT72)→Nat→(List ((List UInt8)×(List Int)))→(List dT56)→Int→Int→Int→Int→Int→Int→(List Int)→Int→Option R))(s0:(List dT72))(s1:Nat)(s2:(List ((List UInt8)×(List Int))))(s3:(List dT56))(s4 s5 s6 s7 s8 s9:Int)(s10:(List Int))(s11:Int)(K:((List dT72)→Nat→(List ((List UInt8)×(List Int)))→(List dT56)→Int→Int→(List Int)→Option R)): Option R:=cond (inb s6 (s0.length:Int)) (cond (cond (decide (s11<(((((((s0.getD s6.toNat kdT72.zero).2).2).2).2).2).length:Int))) (s4 == 0) false) (cond (inb s6 (s0.length:Int)) (cond (inb s11 (((((((s0.getD s6.toNat kdT72.zero).2).2).2).2).2).length:Int)) (wq2u R s0 s1 s2 s3 s4 s5 (((((((s0.getD s6.toNat kdT72.zero).2).2).2).2).2).getD s11.toNat kI.zero) s7 s8 s9 s10 (fun y16 y17 y18 y19 y20 y21 y22=>cond (fits s10.length (@List.length (@Kd.T kI) [y22]) 8) (E1005 y16 y17 y18 y19 y20 y21 s6 s7 s8 s9 (s10++[y22]) (@Go.IntKind.wrap Go.IntKind.i64 (s11+1))) none)) none) none) (K s0 s1 s2 s3 s4 s5 s10)) none
def wqjh(k:Nat)(wq1w:wq3c)(wq2u:wq3m){R:Type}(E1005:((List dT72)→Nat→(List ((List UInt8)×(List Int)))→(List dT56)→Int→Int→Int→Int→Int→Int→(List Int)→Int→Option R))(x0:(List dT72))(x1:Nat)(x2:(List ((List UInt8)×(List Int))))(x3:(List dT56))(x4 x5 x6 x7 x8 x9:Int)(K:((List dT72)→Nat→(List ((List UInt8)×(List Int)))→(List dT56)→Int→Int→(List Int)→Option R)): Option R:=wqp7 k x0 x6 2 (fun y14 y15=>wq7l k x0 x1 x2 x3 x4 x5 y14 y15 (fun y16 y17 y18 y19 y20 y21 y22=>cond y22 (K y16 y17 y18 y19 y20 y21 []) (E1005 y16 y17 y18 y19 y20 y21 x6 x7 x8 x9 [] 0)))
def wq9f(k:Nat)(wq1w:wq3c)(wq2u:wq3m){R:Type}: Nat→(List dT72)→Nat→(List ((List UInt8)×(List Int)))→(List dT56)→Int→Int→Int→Int→Int→Int→(List Int)→Int→((List dT72)→Nat→(List ((List UInt8)×(List Int)))→(List dT56)→Int→Int→(List Int)→Option R)→Option R
 |0,_,_,_,_,_,_,_,_,_,_,_,_,_=>none
 |n+1,s0,s1,s2,s3,s4,s5,s6,s7,s8,s9,s10,s11,K=>wqfu k wq1w wq2u (fun s0 s1 s2 s3 s4 s5 s6 s7 s8 s9 s10 s11=>wq9f k wq1w wq2u n s0 s1 s2 s3 s4 s5 s6 s7 s8 s9 s10 s11 K) s0 s1 s2 s3 s4 s5 s6 s7 s8 s9 s10 s11 K
def wqgy(k:Nat)(wq1w:wq3c)(wq2u:wq3m)(wqw:wq8h)(wq7t:wqce)(wq1v:wqdk)(wq1p:wq8i)(wq4o:wqdi)(wqcg:wqgw)(wq7n:wqbb)(wq7m:wqdj){R:Type}(E1025:((List dT72)→Nat→(List ((List UInt8)×(List Int)))→(List dT56)→Int→Int→Int→Int→Int→(List Int)→(List UInt8)→(List UInt8)→Bool→Int→Int→Bool→(List UInt8)→Int→Int→Nat→Bool→Bool→(List Int)→Int→Option R))(s0:(List dT72))(s1:Nat)(s2:(List ((List UInt8)×(List Int))))(s3:(List dT56))(s4 s5 s6 s7 s8:Int)(s9:(List Int))(s10 s11:(List UInt8))(s12:Bool)(s13 s14:Int)(s15:Bool)(s16:(List UInt8))(s17 s18:Int)(s19:Nat)(s20 s21:Bool)(s22:(List Int))(s23:Int)(K:((List dT72)→Nat→(List ((List UInt8)×(List Int)))→(List dT56)→Int→Int→Int→Option R)): Option R:=cond (decide (s23<(s9.length:Int))) (cond (inb s23 (s9.length:Int)) (cond (inb (s9.getD s23.toNat kI.zero) (s3.length:Int)) (cond (cond (cond ((s3.getD (s9.getD s23.toNat kI.zero).toNat kdT56.zero).1 == s10) (((s3.getD (s9.getD s23.toNat kI.zero).toNat kdT56.zero).2).1 == s11) false) ((((s3.getD (s9.getD s23.toNat kI.zero).toNat kdT56.zero).2).2).1 == s12) false) (wq1p R s0 s1 s2 s3 s4 s5 s6 7 (fun y28 y29 y30 y31 y32 y33 y34=>K y28 y29 y30 y31 y32 y33 0)) (E1025 s0 s1 s2 s3 s4 s5 s6 s7 s8 s9 s10 s11 s12 s13 s14 s15 s16 s17 s18 s19 s20 s21 s22 (@Go.IntKind.wrap Go.IntKind.i64 (s23+1)))) none) none) (wq1v R s0 s6 [114,97,116,101,95,108,105,109,105,116] (fun y28 y29=>cond y29 (wq7n R s0 s1 s2 s3 s4 s5 y28 (fun y30 y31 y32 y33 y34 y35 y36 y37 y38 y39 y40 y41=>cond (y34 != 0) (K y30 y31 y32 y33 y34 y35 0) (wq1v R y30 s6 [115,104,97,100,111,119,95,109,111,100,101] (fun y42 y43=>cond y43 (wq7m R y30 y42 (fun y44 y45 y46=>wqw R y30 y31 y32 y33 y34 y35 y45 y46 (fun y47 y48 y49 y50 y51 y52 y53=>cond y53 (K y47 y48 y49 y50 y51 y52 0) (cond (cond y44 (!true) false) (wq1p R y47 y48 y49 y50 y51 y52 y42 17 (fun y54 y55 y56 y57 y58 y59 y60=>K y54 y55 y56 y57 y58 y59 0)) (cond (fits y50.length (@List.length (@Kd.T kdT56) [(s10,(s11,(s12,(s13,(s14,(true,((y36,(y37,(y38,(y39,(y44,y41))))),s22)))))))]) 136) (wq1v R y47 s6 [100,101,115,99,114,105,112,116,111,114,115] (fun y54 y55=>cond y55 (wq1w R y47 y48 y49 (y50++[(s10,(s11,(s12,(s13,(s14,(true,((y36,(y37,(y38,(y39,(y44,y41))))),s22)))))))]) y51 y52 y54 s7 (y50.length:Int) (@Go.IntKind.wrap Go.IntKind.i64 (s8+1)) (fun y56 y57 y58 y59 y60 y61 y62=>cond (inb (y50.length:Int) (y59.length:Int)) (@SH (@List (@Kd.T kdT56)) R (List.set y59 (y50.length:Int).toNat ((y59.getD (y50.length:Int).toNat kdT56.zero).1,(((y59.getD (y50.length:Int).toNat kdT56.zero).2).1,((((y59.getD (y50.length:Int).toNat kdT56.zero).2).2).1,(((((y59.getD (y50.length:Int).toNat kdT56.zero).2).2).2).1,((((((y59.getD (y50.length:Int).toNat kdT56.zero).2).2).2).2).1,(((((((y59.getD (y50.length:Int).toNat kdT56.zero).2).2).2).2).2).1,((((((((((y59.getD (y50.length:Int).toNat kdT56.zero).2).2).2).2).2).2).1).1,((((((((((y59.getD (y50.length:Int).toNat kdT56.zero).2).2).2).2).2).2).1).2).1,(((((((((((y59.getD (y50.length:Int).toNat kdT56.zero).2).2).2).2).2).2).1).2).2).1,((((((((((((y59.getD (y50.length:Int).toNat kdT56.zero).2).2).2).2).2).2).1).2).2).2).1,(((((((((((((y59.getD (y50.length:Int).toNat kdT56.zero).2).2).2).2).2).2).1).2).2).2).2).1,((((((((((((y59.getD (y50.length:Int).toNat kdT56.zero).2).2).2).2).2).2).1).2).2).2).2).2))))),y62)))))))) (fun y63=>K y56 y57 y58 y63 y60 y61 (y50.length:Int))) none)) (K y47 y48 y49 (y50++[(s10,(s11,(s12,(s13,(s14,(true,((y36,(y37,(y38,(y39,(y44,y41))))),s22)))))))]) y51 y52 (y50.length:Int)))) none))))) (cond (fits y33.length (@List.length (@Kd.T kdT56) [(s10,(s11,(s12,(s13,(s14,(true,((y36,(y37,(y38,(y39,(y40,y41))))),s22)))))))]) 136) (wq1v R y30 s6 [100,101,115,99,114,105,112,116,111,114,115] (fun y44 y45=>cond y45 (wq1w R y30 y31 y32 (y33++[(s10,(s11,(s12,(s13,(s14,(true,((y36,(y37,(y38,(y39,(y40,y41))))),s22)))))))]) y34 y35 y44 s7 (y33.length:Int) (@Go.IntKind.wrap Go.IntKind.i64 (s8+1)) (fun y46 y47 y48 y49 y50 y51 y52=>cond (inb (y33.length:Int) (y49.length:Int)) (@SH (@List (@Kd.T kdT56)) R (List.set y49 (y33.length:Int).toNat ((y49.getD (y33.length:Int).toNat kdT56.zero).1,(((y49.getD (y33.length:Int).toNat kdT56.zero).2).1,((((y49.getD (y33.length:Int).toNat kdT56.zero).2).2).1,(((((y49.getD (y33.length:Int).toNat kdT56.zero).2).2).2).1,((((((y49.getD (y33.length:Int).toNat kdT56.zero).2).2).2).2).1,(((((((y49.getD (y33.length:Int).toNat kdT56.zero).2).2).2).2).2).1,((((((((((y49.getD (y33.length:Int).toNat kdT56.zero).2).2).2).2).2).2).1).1,((((((((((y49.getD (y33.length:Int).toNat kdT56.zero).2).2).2).2).2).2).1).2).1,(((((((((((y49.getD (y33.length:Int).toNat kdT56.zero).2).2).2).2).2).2).1).2).2).1,((((((((((((y49.getD (y33.length:Int).toNat kdT56.zero).2).2).2).2).2).2).1).2).2).2).1,(((((((((((((y49.getD (y33.length:Int).toNat kdT56.zero).2).2).2).2).2).2).1).2).2).2).2).1,((((((((((((y49.getD (y33.length:Int).toNat kdT56.zero).2).2).2).2).2).2).1).2).2).2).2).2))))),y52)))))))) (fun y53=>K y46 y47 y48 y53 y50 y51 (y33.length:Int))) none)) (K y30 y31 y32 (y33++[(s10,(s11,(s12,(s13,(s14,(true,((y36,(y37,(y38,(y39,(y40,y41))))),s22)))))))]) y34 y35 (y33.length:Int)))) none))))) (cond (s4 != 0) (K s0 s1 s2 s3 s4 s5 0) (wq1v R s0 s6 [115,104,97,100,111,119,95,109,111,100,101] (fun y30 y31=>cond y31 (wq7m R s0 y30 (fun y32 y33 y34=>wqw R s0 s1 s2 s3 s4 s5 y33 y34 (fun y35 y36 y37 y38 y39 y40 y41=>cond y41 (K y35 y36 y37 y38 y39 y40 0) (cond (cond y32 (!s15) false) (wq1p R y35 y36 y37 y38 y39 y40 y30 17 (fun y42 y43 y44 y45 y46 y47 y48=>K y42 y43 y44 y45 y46 y47 0)) (cond (fits y38.length (@List.length (@Kd.T kdT56) [(s10,(s11,(s12,(s13,(s14,(s15,((s16,(s17,(s18,(s19,(y32,s21))))),s22)))))))]) 136) (wq1v R y35 s6 [100,101,115,99,114,105,112,116,111,114,115] (fun y42 y43=>cond y43 (wq1w R y35 y36 y37 (y38++[(s10,(s11,(s12,(s13,(s14,(s15,((s16,(s17,(s18,(s19,(y32,s21))))),s22)))))))]) y39 y40 y42 s7 (y38.length:Int) (@Go.IntKind.wrap Go.IntKind.i64 (s8+1)) (fun y44 y45 y46 y47 y48 y49 y50=>cond (inb (y38.length:Int) (y47.length:Int)) (@SH (@List (@Kd.T kdT56)) R (List.set y47 (y38.length:Int).toNat ((y47.getD (y38.length:Int).toNat kdT56.zero).1,(((y47.getD (y38.length:Int).toNat kdT56.zero).2).1,((((y47.getD (y38.length:Int).toNat kdT56.zero).2).2).1,(((((y47.getD (y38.length:Int).toNat kdT56.zero).2).2).2).1,((((((y47.getD (y38.length:Int).toNat kdT56.zero).2).2).2).2).1,(((((((y47.getD (y38.length:Int).toNat kdT56.zero).2).2).2).2).2).1,((((((((((y47.getD (y38.length:Int).toNat kdT56.zero).2).2).2).2).2).2).1).1,((((((((((y47.getD (y38.length:Int).toNat kdT56.zero).2).2).2).2).2).2).1).2).1,(((((((((((y47.getD (y38.length:Int).toNat kdT56.zero).2).2).2).2).2).2).1).2).2).1,((((((((((((y47.getD (y38.length:Int).toNat kdT56.zero).2).2).2).2).2).2).1).2).2).2).1,(((((((((((((y47.getD (y38.length:Int).toNat kdT56.zero).2).2).2).2).2).2).1).2).2).2).2).1,((((((((((((y47.getD (y38.length:Int).toNat kdT56.zero).2).2).2).2).2).2).1).2).2).2).2).2))))),y50)))))))) (fun y51=>K y44 y45 y46 y51 y48 y49 (y38.length:Int))) none)) (K y35 y36 y37 (y38++[(s10,(s11,(s12,(s13,(s14,(s15,((s16,(s17,(s18,(s19,(y32,s21))))),s22)))))))]) y39 y40 (y38.length:Int)))) none))))) (cond (fits s3.length (@List.length (@Kd.T kdT56) [(s10,(s11,(s12,(s13,(s14,(s15,((s16,(s17,(s18,(s19,(s20,s21))))),s22)))))))]) 136) (wq1v R s0 s6 [100,101,115,99,114,105,112,116,111,114,115] (fun y32 y33=>cond y33 (wq1w R s0 s1 s2 (s3++[(s10,(s11,(s12,(s13,(s14,(s15,((s16,(s17,(s18,(s19,(s20,s21))))),s22)))))))]) s4 s5 y32 s7 (s3.length:Int) (@Go.IntKind.wrap Go.IntKind.i64 (s8+1)) (fun y34 y35 y36 y37 y38 y39 y40=>cond (inb (s3.length:Int) (y37.length:Int)) (@SH (@List (@Kd.T kdT56)) R (List.set y37 (s3.length:Int).toNat ((y37.getD (s3.length:Int).toNat kdT56.zero).1,(((y37.getD (s3.length:Int).toNat kdT56.zero).2).1,((((y37.getD (s3.length:Int).toNat kdT56.zero).2).2).1,(((((y37.getD (s3.length:Int).toNat kdT56.zero).2).2).2).1,((((((y37.getD (s3.length:Int).toNat kdT56.zero).2).2).2).2).1,(((((((y37.getD (s3.length:Int).toNat kdT56.zero).2).2).2).2).2).1,((((((((((y37.getD (s3.length:Int).toNat kdT56.zero).2).2).2).2).2).2).1).1,((((((((((y37.getD (s3.length:Int).toNat kdT56.zero).2).2).2).2).2).2).1).2).1,(((((((((((y37.getD (s3.length:Int).toNat kdT56.zero).2).2).2).2).2).2).1).2).2).1,((((((((((((y37.getD (s3.length:Int).toNat kdT56.zero).2).2).2).2).2).2).1).2).2).2).1,(((((((((((((y37.getD (s3.length:Int).toNat kdT56.zero).2).2).2).2).2).2).1).2).2).2).2).1,((((((((((((y37.getD (s3.length:Int).toNat kdT56.zero).2).2).2).2).2).2).1).2).2).2).2).2))))),y40)))))))) (fun y41=>K y34 y35 y36 y41 y38 y39 (s3.length:Int))) none)) (K s0 s1 s2 (s3++[(s10,(s11,(s12,(s13,(s14,(s15,((s16,(s17,(s18,(s19,(s20,s21))))),s22)))))))]) s4 s5 (s3.length:Int)))) none))))))
def wqlt(k:Nat)(wq1w:wq3c)(wq2u:wq3m)(wqw:wq8h)(wq7t:wqce)(wq1v:wqdk)(wq1p:wq8i)(wq4o:wqdi)(wqcg:wqgw)(wq7n:wqbb)(wq7m:wqdj){R:Type}(E1025:((List dT72)→Nat→(List ((List UInt8)×(List Int)))→(List dT56)→Int→Int→Int→Int→Int→(List Int)→(List UInt8)→(List UInt8)→Bool→Int→Int→Bool→(List UInt8)→Int→Int→Nat→Bool→Bool→(List Int)→Int→Option R))(x0:(List dT72))(x1:Nat)(x2:(List ((List UInt8)×(List Int))))(x3:(List dT56))(x4 x5 x6 x7 x8 x9:Int)(x10:(List Int))(K:((List dT72)→Nat→(List ((List UInt8)×(List Int)))→(List dT56)→Int→Int→Int→Option R)): Option R:=cond (decide (x9>8)) (wq1p R x0 x1 x2 x3 x4 x5 x6 8 (fun y15 y16 y17 y18 y19 y20 y21=>K y15 y16 y17 y18 y19 y20 0)) (cond (decide ((x3.length:Int)≥500)) (wq1p R x0 x1 x2 x3 x4 x5 x6 9 (fun y15 y16 y17 y18 y19 y20 y21=>K y15 y16 y17 y18 y19 y20 0)) (wq7t R x0 x6 [[107,101,121],[118,97,108,117,101],[114,97,116,101,95,108,105,109,105,116],[115,104,97,100,111,119,95,109,111,100,101],[100,101,115,99,114,105,112,116,111,114,115]] (fun y15 y16=>wqw R x0 x1 x2 x3 x4 x5 y15 y16 (fun y17 y18 y19 y20 y21 y22 y23=>cond y23 (K y17 y18 y19 y20 y21 y22 0) (wq1v R y17 x6 [107,101,121] (fun y24 y25=>cond (!y25) (wq1p R y17 y18 y19 y20 y21 y22 x6 10 (fun y26 y27 y28 y29 y30 y31 y32=>K y26 y27 y28 y29 y30 y31 0)) (wq4o R y17 y24 (fun y26 y27 y28=>wqw R y17 y18 y19 y20 y21 y22 y27 y28 (fun y29 y30 y31 y32 y33 y34 y35=>cond y35 (K y29 y30 y31 y32 y33 y34 0) (wq1v R y29 x6 [118,97,108,117,101] (fun y36 y37=>cond y37 (wqcg R y29 y36 (fun y38 y39 y40=>wqw R y29 y30 y31 y32 y33 y34 y39 y40 (fun y41 y42 y43 y44 y45 y46 y47=>cond y47 (K y41 y42 y43 y44 y45 y46 0) (E1025 y41 y42 y43 y44 y45 y46 x6 x7 x9 x10 y26 y38 false x7 x8 false [] 0 0 0 false false [] 0)))) (E1025 y29 y30 y31 y32 y33 y34 x6 x7 x9 x10 y26 [] true x7 x8 false [] 0 0 0 false false [] 0))))))))))))
def wqah(k:Nat)(wq1w:wq3c)(wq2u:wq3m)(wqw:wq8h)(wq7t:wqce)(wq1v:wqdk)(wq1p:wq8i)(wq4o:wqdi)(wqcg:wqgw)(wq7n:wqbb)(wq7m:wqdj){R:Type}: Nat→(List dT72)→Nat→(List ((List UInt8)×(List Int)))→(List dT56)→Int→Int→Int→Int→Int→(List Int)→(List UInt8)→(List UInt8)→Bool→Int→Int→Bool→(List UInt8)→Int→Int→Nat→Bool→Bool→(List Int)→Int→((List dT72)→Nat→(List ((List UInt8)×(List Int)))→(List dT56)→Int→Int→Int→Option R)→Option R
 |0,_,_,_,_,_,_,_,_,_,_,_,_,_,_,_,_,_,_,_,_,_,_,_,_,_=>none
 |n+1,s0,s1,s2,s3,s4,s5,s6,s7,s8,s9,s10,s11,s12,s13,s14,s15,s16,s17,s18,s19,s20,s21,s22,s23,K=>wqgy k wq1w wq2u wqw wq7t wq1v wq1p wq4o wqcg wq7n wq7m (fun s0 s1 s2 s3 s4 s5 s6 s7 s8 s9 s10 s11 s12 s13 s14 s15 s16 s17 s18 s19 s20 s21 s22 s23=>wqah k wq1w wq2u wqw wq7t wq1v wq1p wq4o wqcg wq7n wq7m n s0 s1 s2 s3 s4 s5 s6 s7 s8 s9 s10 s11 s12 s13 s14 s15 s16 s17 s18 s19 s20 s21 s22 s23 K) s0 s1 s2 s3 s4 s5 s6 s7 s8 s9 s10 s11 s12 s13 s14 s15 s16 s17 s18 s19 s20 s21 s22 s23 K
mutual
def wq62:Nat→wq3c
 |0,_,_,_,_,_,_,_,_,_,_,_,_=>none
 |k+1,R,x0,x1,x2,x3,x4,x5,x6,x7,x8,x9,K=>wqjh k (wq62 k) (FR_ref15_reader_branch k) (fun s0 s1 s2 s3 s4 s5 s6 s7 s8 s9 s10 s11=>wq9f k (wq62 k) (FR_ref15_reader_branch k) k s0 s1 s2 s3 s4 s5 s6 s7 s8 s9 s10 s11 K) x0 x1 x2 x3 x4 x5 x6 x7 x8 x9 K
def FR_ref15_reader_branch:Nat→wq3m
 |0,_,_,_,_,_,_,_,_,_,_,_,_,_=>none
 |k+1,R,x0,x1,x2,x3,x4,x5,x6,x7,x8,x9,x10,K=>wqlt k (wq62 k) (FR_ref15_reader_branch k) (@wq7l k) (@wqgx k) (@wqio k) (@wqcf k) (@wqim k) (@wqp5 k) (@wqgb k) (@wqin k) (fun s0 s1 s2 s3 s4 s5 s6 s7 s8 s9 s10 s11 s12 s13 s14 s15 s16 s17 s18 s19 s20 s21 s22 s23=>wqah k (wq62 k) (FR_ref15_reader_branch k) (@wq7l k) (@wqgx k) (@wqio k) (@wqcf k) (@wqim k) (@wqp5 k) (@wqgb k) (@wqin k) k s0 s1 s2 s3 s4 s5 s6 s7 s8 s9 s10 s11 s12 s13 s14 s15 s16 s17 s18 s19 s20 s21 s22 s23 K) x0 x1 x2 x3 x4 x5 x6 x7 x8 x9 x10 K
end
end Go.Proofs.YtabkhphoacmcdaaGreatDoor.Pvm
namespace Go.Proofs.YtabkhphoacmcdaaGreatDoor.Pvm
open Go Go.Proofs
end Go.Proofs.YtabkhphoacmcdaaGreatDoor.Pvm
namespace Go.Proofs.YtabkhphoacmcdaaGreatDoor.Pvm
open Go
inductive Rz (T:Type) where
 |ok (x:T)
 |er (f:Int×Int)
def Rz.bind{A B:Type}: Rz A→(A→Rz B)→Rz B
 |.ok x,g=>g x
 |.er f,_ => .er f
def Rz.run{T R:Type}: Rz T→(T→Option R)→(Int→Int→Option R)→Option R
 |.ok x,K,_=>K x
 |.er f,_,E=>E f.1 f.2
theorem run_bind{A B R:Type}(r:Rz A)(g:A→Rz B)(K:B→Option R)(E:Int→Int→Option R): (r.bind g).run K E=r.run (fun x=>(g x).run K E) E:=by cases r<;>rfl
def Rz.out{T R:Type}(z:T): Rz T→(T→Int→Int→Option R)→Option R
 |.ok x,K=>K x 0 0
 |.er f,K=>K z f.1 f.2
def tvR{T:Type}(p:T×Int×Int): Rz T:=bif p.2.1 != 0 then .er p.2 else .ok p.1
def Gd{T:Type}(z:T)(p:T×Int×Int): Prop:=(p.2.1=0→p.2.2=0)∧(p.2.1≠0→p.1=z)
theorem tv_out{T R:Type}{z:T}{p:T×Int×Int}(h:Gd z p)(K:T→Int→Int→Option R): o3 K p=(tvR p).out z K:=by
 obtain⟨a,b,c⟩:=p
 unfold tvR o3
 by_cases hb:b=0
 ·have:c=0:=h.1 hb
  subst hb this;rfl
 ·have:a=z:=h.2 hb
  subst this
  have e:(b != 0)=true:=by simpa using hb
  dsimp only
  rw[e];rfl
theorem gd_c{T:Type}{z:T}{c:Bool}{p q:T×Int×Int}(h1:Gd z p)(h2:Gd z q): Gd z (bif c then p else q):=by cases c<;>assumption
theorem gd_er{T:Type}(z:T){a c:Int}(h:a≠0): Gd z (z,a,c):=⟨fun e=>absurd e h,fun _=>rfl⟩
theorem gd_ok{T:Type}(z x:T): Gd z (x,0,0):=⟨fun _=>rfl,fun e=>absurd rfl e⟩
theorem gd_tv{T:Type}{z:T}{g:Nd→T×Int×Int}(h:∀ x,Gd z (g x))(o:Option Nd): Gd z (tvS z o g):=by
 unfold tvS
 cases o with
 |none=>exact gd_er z (by decide)
 |some x=>exact gd_c (gd_er z (by decide)) (h x)
theorem wq1fr(x:Nd): Gd false (boolV x):=gd_c (gd_er _ (by decide)) (gd_c (gd_er _ (by decide)) (gd_ok _ _))
theorem gd_num(l m:Int)(x:Nd): Gd 0 (numV l m x):=by
 unfold numV
 refine gd_c (gd_er _ (by decide)) ?_
 cases numS x.2.2.1 with
 |none=>exact gd_er _ (by decide)
 |some v=>exact gd_c (gd_er _ (by decide)) (gd_ok _ _)
theorem gd_rat(x:Nd): Gd 0 (ratV x):=by
 unfold ratV
 refine gd_c (gd_er _ (by decide)) ?_
 cases rdS x.2.2.1 with
 |none=>exact gd_er _ (by decide)
 |some v=>exact gd_c (gd_er _ (by decide)) (gd_ok _ _)
theorem wq1fs(x:Nd): Gd [] (nameV x):=gd_c (gd_ok _ _) (gd_er _ (by decide))
theorem wq1ft(x:Nd): Gd [] (wordV x):=gd_c (gd_ok _ _) (gd_er _ (by decide))
def Nz{T:Type}: Rz T→Prop
 |.ok _=>True
 |.er f=>f.1≠0
theorem nz_tv{T:Type}(p:T×Int×Int): Nz (tvR p):=by
 unfold tvR
 cases h:p.2.1 != 0 with
 |false=>trivial
 |true=>simpa [Nz]using h
def findR(nd:List Nd)(n:Int)(key:List UInt8): Option Int:=bif (findS (ndAt nd n) key).2 then some (findS (ndAt nd n) key).1 else none
def boolR(nd:List Nd)(j:Int): Rz Bool:=tvR (tvS false (ndAt nd j) boolV)
def numR(nd:List Nd)(j:Int): Rz Int:=tvR (tvS 0 (ndAt nd j) (numV 0 4294967295))
def ratR(nd:List Nd)(j:Int): Rz Nat:=tvR (tvS 0 (ndAt nd j) ratV)
def nameR(nd:List Nd)(j:Int): Rz (List UInt8):=tvR (tvS [] (ndAt nd j) nameV)
def wordR(nd:List Nd)(j:Int): Rz (List UInt8):=tvR (tvS [] (ndAt nd j) wordV)
def unR(p:Int×Int): Rz Unit:=bif p.1 != 0 then .er p else .ok ()
def needR(nd:List Nd)(j kd:Int): Rz Unit:=unR (needS (ndAt nd j) kd)
def knownR(nd:List Nd)(j:Int)(l:List (List UInt8)): Rz Unit:=unR (knownS nd (ndAt nd j) l)
def textR(nd:List Nd)(j:Int): List UInt8:=match ndAt nd j with|some x=>x.2.2.1|none=>[]
def kidsR(nd:List Nd)(j:Int): List Int:=match ndAt nd j with|some x=>x.2.2.2.2.2|none=>[]
def mustR(nd:List Nd)(n:Int)(key:List UInt8): Rz Int:=match findR nd n key with|some j => .ok j|none => .er (10,lineS nd n)
def optR{T:Type}(o:Option Int)(z:T)(f:Int→Rz T): Rz T:=match o with|some j=>f j|none => .ok z
theorem un_nz(p:Int×Int): Nz (unR p):=by
 unfold unR
 cases h:p.1 != 0 with
 |false=>trivial
 |true=>simpa [Nz]using h
structure Dk (k:Nat) (nd:List Nd):Prop where
 hk:6000<k
 hn:nd.length≤4000
 ho:∀ x∈nd,okD x
 hc:checkS nd=true
def InD(nd:List Nd)(i:Int): Prop:=0≤i∧i<(nd.length:Int)
theorem Dk.at{k:Nat}{nd:List Nd}(D:Dk k nd){i:Int}(h:InD nd i): ∃ n x,i=((n:Nat):Int)∧ndAt nd i=some x∧At nd n x:=by
 rcases node nd D.hn D.ho i with⟨_,h2⟩|⟨_,n,x,e,h1,h⟩
 ·rw[D.hc,Bool.and_true]at h2
  unfold inR at h2
  rw[dec_t (show i≥0 from h.1),cond_true,dec_t h.2]at h2
  cases h2
 ·exact⟨n,x,e,h1,h⟩
theorem Dk.kids{k:Nat}{nd:List Nd}(D:Dk k nd){i:Int}(h:InD nd i): ∀ j∈kidsR nd i,InD nd j:=by
 obtain⟨n,x,rfl,h1,a⟩:=D.at h
 unfold kidsR
 rw[h1]
 exact a.kids
theorem wq1d6{x:Nd}{key:List UInt8}{i:Nat}(hl:(x.1 != 3)=false→x.2.2.2.2.1.length=x.2.2.2.2.2.length)(h:(findS (some x) key).2=true): (findS (some x) key).1∈x.2.2.2.2.2:=by
 unfold findS at h ⊢
 dsimp only at h ⊢
 cases h3:x.1 != 3 with
 |true=>rw[h3]at h;cases h
 |false =>
  simp only[h3,cond_false]at h ⊢
  cases hi:idxS key x.2.2.2.2.1 0 with
  |none=>rw[hi]at h;cases h
  |some j =>
   have:=idx_lt _ _ _ _ hi
   rw[hl h3]at this
   dsimp only
   rw[List.getD,List.getElem?_eq_getElem (show j<x.2.2.2.2.2.length by omega)]
   exact List.getElem_mem _
theorem Dk.find{k:Nat}{nd:List Nd}(D:Dk k nd){i j:Int}{key:List UInt8}(h:InD nd i)(hf:findR nd i key=some j): InD nd j:=by
 obtain⟨n,x,rfl,h1,a⟩:=D.at h
 unfold findR at hf
 rw[h1]at hf
 cases hb:(findS (some x) key).2 with
 |false=>rw[hb]at hf;cases hf
 |true =>
  rw[hb,cond_true]at hf
  injection hf with hf
  rw[←hf]
  exact a.kids _ (wq1d6 (i:=0) a.keys hb)
theorem Dk.line{k:Nat}{nd:List Nd}(D:Dk k nd){i:Int}(h:InD nd i): inb i (nd.length:Int)=true∧∀ z,(nd.getD i.toNat z).2.1=lineS nd i:=wq1dz h
section
variable {R:Type} {k:Nat} {nd:List Nd} (D:Dk k nd) {i:Int} (h:InD nd i)
include D h
theorem Dk.sfind(key:List UInt8)(K:Int→Bool→Option R): wqv k nd i key K=match findR nd i key with|some j=>K j true|none=>K 0 false:=by
 obtain⟨n,x,rfl,h1,a⟩:=D.at h
 have:=D.hk
 rw[a.sfind (by omega)]
 unfold findR
 rw[h1]
 cases hb:(findS (some x) key).2 with
 |true=>rfl
 |false =>
  have:(findS (some x) key).1=0:=by
   unfold findS at hb ⊢
   dsimp only at hb ⊢
   cases h3:x.1 != 3 with
   |true=>rfl
   |false =>
    simp only[h3,cond_false]at hb ⊢
    cases hi:idxS key x.2.2.2.2.1 0 with
    |none=>rfl
    |some j=>rw[hi]at hb;cases hb
  rw[this];rfl
theorem Dk.sbool(K:Bool→Int→Int→Option R): wq6z k nd i K=(boolR nd i).out false K:=by
 have:=D.hk;obtain⟨n,x,rfl,h1,a⟩:=D.at h
 unfold boolR;rw[a.sbool (by omega),h1,tv_out (gd_tv wq1fr _)]
theorem Dk.snum(K:Int→Int→Int→Option R): wq24 k nd i 0 4294967295 K=(numR nd i).out 0 K:=by
 have:=D.hk;obtain⟨n,x,rfl,h1,a⟩:=D.at h
 unfold numR;rw[a.snum (by omega),h1,tv_out (gd_tv (gd_num _ _) _)]
theorem Dk.srat(K:Nat→Int→Int→Option R): wq65 k nd i K=(ratR nd i).out 0 K:=by
 have:=D.hk;obtain⟨n,x,rfl,h1,a⟩:=D.at h
 unfold ratR;rw[a.srat (by omega),h1,tv_out (gd_tv gd_rat _)]
theorem Dk.sname(K:List UInt8→Int→Int→Option R): wq71 k nd i K=(nameR nd i).out [] K:=by
 have:=D.hk;obtain⟨n,x,rfl,h1,a⟩:=D.at h
 unfold nameR;rw[a.sname (by omega),h1,tv_out (gd_tv wq1fs _)]
theorem Dk.sword(K:List UInt8→Int→Int→Option R): wq4u k nd i K=(wordR nd i).out [] K:=by
 have:=D.hk;obtain⟨n,x,rfl,h1,a⟩:=D.at h
 unfold wordR;rw[a.sword (by omega),h1,tv_out (gd_tv wq1ft _)]
omit D h in
theorem un_out{p:Int×Int}(h0:p.1=0→p.2=0)(K:Int→Int→Option R): K p.1 p.2=(unR p).out () (fun _=>K):=by
 unfold unR
 cases hb:p.1 != 0 with
 |true=>rfl
 |false =>
  have e:p.1=0:=by simpa using hb
  rw[e,h0 e];rfl
theorem Dk.sneed(kd:Int)(K:Int→Int→Option R): wq1n k nd i kd K=(needR nd i kd).out () (fun _=>K):=by
 have:=D.hk;obtain⟨n,x,rfl,h1,a⟩:=D.at h
 unfold needR;rw[a.need,h1]
 unfold needS
 dsimp only
 cases x.1 != kd<;>rfl
omit D h in
theorem unk_0(nd:List Nd)(l:List (List UInt8)): ∀(q:List (List UInt8)) (s:List Int),(unkS nd l q s).1=0→(unkS nd l q s).2=0
 |[],_,_=>rfl
 |_::_,[],_=>rfl
 |q::r,y::s,e=>by
  rw[unkS]at e ⊢
  cases ha:anyK q l with
  |true=>rw[ha]at e;exact unk_0 nd l r s e
  |false=>rw[ha]at e;cases e
omit D h in
theorem wq1fu(nd:List Nd)(l:List (List UInt8))(o:Option Nd)(e:(knownS nd o l).1=0): (knownS nd o l).2=0:=by
 unfold knownS at e ⊢
 cases o with
 |none=>rfl
 |some x =>
  dsimp only at e ⊢
  cases hx:x.1 != 3 with
  |true=>rw[hx]at e;cases e
  |false=>rw[hx]at e;exact unk_0 nd l _ _ e
theorem Dk.sknown(l:List (List UInt8))(hl:l.length≤20)(K:Int→Int→Option R): wqn k nd i l K=(knownR nd i l).out () (fun _=>K):=by
 have:=D.hk;obtain⟨n,x,rfl,h1,a⟩:=D.at h
 unfold knownR;rw[a.sknown (by omega) l hl,h1];exact un_out (wq1fu nd l _) K
omit D h in
theorem wqgc{T:Type}{r:Rz T}(hr:Nz r)(z:T)(K:T→Option R)(E:Int→Int→Option R): r.out z (fun x a b=>wqq k a b (fun _=>K x) E)=r.run K E:=by
 unfold wqq wqhu
 cases r with
 |ok x=>rfl
 |er f =>
  have e:(f.1 != 0)=true:=by simpa [Nz]using hr
  simp only[Rz.out,Rz.run,e,cond_true]
theorem Dk.sfault(kd:Int)(hkd:kd≠0)(E:Int→Int→Option R): wqc k nd i kd E=E kd (lineS nd i):=by
 obtain⟨l1,l2⟩:=D.line h
 unfold wqc wqea wq85 wqf5 wqq wqhu
 have e:(kd != 0)=true:=by simpa using hkd
 rw[l1,cond_true,l2]
 dsimp only
 rw[e,cond_true]
theorem Dk.smust(key:List UInt8)(K:Int→Option R)(E:Int→Int→Option R): wqk k nd i key K E=(mustR nd i key).run K E:=by
 unfold wqk wqf8 mustR
 rw[D.sfind h]
 cases findR nd i key with
 |some j=>rfl
 |none=>exact D.sfault h 10 (by decide) E
theorem Dk.sratio(key:List UInt8)(z:Nat)(K:Nat→Option R)(E:Int→Int→Option R): wqu k nd i key z K E=(optR (findR nd i key) z (ratR nd)).run K E:=by
 unfold wqu wqee
 rw[D.sfind h]
 cases hf:findR nd i key with
 |none=>rfl
 |some j =>
  simp only[Bool.not_true,cond_false,optR]
  rw[D.srat (D.find h hf)]
  exact wqgc (r:=ratR nd j) (nz_tv _) 0 K E
theorem Dk.sboolk(key:List UInt8)(K:Bool→Option R)(E:Int→Int→Option R): wq17 k nd i key K E=(optR (findR nd i key) false (boolR nd)).run K E:=by
 unfold wq17 wqf6
 rw[D.sfind h]
 cases hf:findR nd i key with
 |none=>rfl
 |some j =>
  simp only[Bool.not_true,cond_false,optR]
  rw[D.sbool (D.find h hf)]
  exact wqgc (r:=boolR nd j) (nz_tv _) false K E
theorem Dk.snamek(K:List UInt8→Option R)(E:Int→Int→Option R): wq10 k nd i K E=(nameR nd i).run K E:=by
 unfold wq10 wqf9
 rw[D.sname h]
 exact wqgc (r:=nameR nd i) (nz_tv _) [] K E
theorem Dk.sknownk(l:List (List UInt8))(hl:l.length≤20)(K:Option R)(E:Int→Int→Option R): wqn k nd i l (fun a b=>wqq k a b (fun _=>K) E)=(knownR nd i l).run (fun _=>K) E:=by
 rw[D.sknown h l hl]
 exact wqgc (r:=knownR nd i l) (un_nz _) () (fun _=>K) E
theorem Dk.sneedk(kd:Int)(K:Option R)(E:Int→Int→Option R): wq1n k nd i kd (fun a b=>wqq k a b (fun _=>K) E)=(needR nd i kd).run (fun _=>K) E:=by
 rw[D.sneed h kd]
 exact wqgc (r:=needR nd i kd) (un_nz _) () (fun _=>K) E
theorem Dk.snumk(K:Int→Option R)(E:Int→Int→Option R): wq24 k nd i 0 4294967295 (fun x a b=>wqq k a b (fun _=>K x) E)=(numR nd i).run K E:=by
 rw[D.snum h]
 exact wqgc (r:=numR nd i) (nz_tv _) 0 K E
theorem Dk.swordk(K:List UInt8→Option R)(E:Int→Int→Option R): wq4u k nd i (fun x a b=>wqq k a b (fun _=>K x) E)=(wordR nd i).run K E:=by
 rw[D.sword h]
 exact wqgc (r:=wordR nd i) (nz_tv _) [] K E
theorem Dk.text:∀ z,(((nd.getD i.toNat z).2).2).1=textR nd i:=by
 obtain⟨n,x,rfl,h1,a⟩:=D.at h
 intro z
 unfold textR
 rw[h1,wq4,a.get]
theorem Dk.kidsAt:∀ z,(((((nd.getD i.toNat z).2).2).2).2).2=kidsR nd i:=by
 obtain⟨n,x,rfl,h1,a⟩:=D.at h
 intro z
 unfold kidsR
 rw[h1,wq4,a.get]
def itemsR(nd:List Nd)(n:Int)(key:List UInt8): Rz (List Int):=optR (findR nd n key) [] fun j=>(needR nd j 2).bind fun _ => .ok (kidsR nd j)
theorem Dk.sitems(key:List UInt8)(K:List Int→Option R)(E:Int→Int→Option R): wq26 k nd i key K E=(itemsR nd i key).run K E:=by
 unfold wq26 wqeb itemsR
 rw[D.sfind h]
 cases hf:findR nd i key with
 |none=>rfl
 |some j =>
  have hj:=D.find h hf
  simp only[Bool.not_true,cond_false,optR]
  rw[D.sneed hj,run_bind]
  have e:=wqgc (k:=k) (un_nz (needS (ndAt nd j) 2)) () (fun _=>cond (inb j (nd.length:Int)) (K (kidsR nd j)) none) E
  simp only[(D.line hj).1,cond_true,D.kidsAt hj]at e ⊢
  exact e
end
def unitS(s:List UInt8): Int:=bif s == [115,101,99,111,110,100]then 1 else bif s == [109,105,110,117,116,101]then 2 else bif s == [104,111,117,114]then 3 else bif s == [100,97,121]then 4 else 0
end Go.Proofs.YtabkhphoacmcdaaGreatDoor.Pvm
namespace Go.Proofs.YtabkhphoacmcdaaGreatDoor.Pvm
open Go
theorem wq1bo{R:Type}(k:Nat)(hk:5100<k)(s:List UInt8)(K:Int→Option R): wq9p k s K=K (unitS s):=by
 unfold wq9p wq16f wqi1 wqui
 dsimp only
 rw[wq15g k _ (by decide) (by omega)]
 generalize hy:idxI (idxS s [[],[115,101,99,111,110,100],[109,105,110,117,116,101],[104,111,117,114],[100,97,121]] 0)=y
 unfold unitS
 simp only[idxS]at hy
 cases s with
 |nil=>subst hy;rfl
 |cons c r =>
  have e:((c::r) == [])=false:=rfl
  rw[e,cond_false]at hy
  cases h1:(c::r) == [115,101,99,111,110,100]with
  |true=>rw[h1]at hy;subst hy;rfl
  |false =>
   cases h2:(c::r) == [109,105,110,117,116,101]with
   |true=>rw[h1,h2]at hy;subst hy;rfl
   |false =>
    cases h3:(c::r) == [104,111,117,114]with
    |true=>rw[h1,h2,h3]at hy;subst hy;rfl
    |false=>cases h4:(c::r) == [100,97,121]<;>rw[h1,h2,h3,h4]at hy<;>subst hy<;>rfl
abbrev Rl:=List UInt8×Int×Int×Nat×Bool×Bool
abbrev kwUnl:List UInt8:=[117,110,108,105,109,105,116,101,100]
abbrev kwUnit:List UInt8:=[117,110,105,116]
abbrev kwReq:List UInt8:=[114,101,113,117,101,115,116,115,95,112,101,114,95,117,110,105,116]
abbrev kwNear:List UInt8:=[110,101,97,114]
abbrev kwName:List UInt8:=[110,97,109,101]
def has(nd:List Nd)(n:Int)(key:List UInt8): Bool:=(findR nd n key).isSome
def ruleN(nd:List Nd)(n u l:Int)(w:Nat)(b:Bool): Rz Rl:=(optR (findR nd n kwName) [] (nameR nd)).bind fun s => .ok (s,u,l,w,false,b)
def ruleR(nd:List Nd)(z:Nat)(n:Int): Rz Rl :=
 (knownR nd n [kwUnl,kwUnit,kwReq,kwNear,kwName]).bind fun _=>(optR (findR nd n kwUnl) false (boolR nd)).bind fun b =>
  bif b then bif has nd n kwUnit || (has nd n kwReq || has nd n kwNear)then .er (17,lineS nd n)else ruleN nd n 0 0 0 true
  else(mustR nd n kwUnit).bind fun u=>(needR nd u 1).bind fun _=>bif unitS (textR nd u) == 0 then .er (16,lineS nd u)
   else(mustR nd n kwReq).bind fun q=>(numR nd q).bind fun l=>(optR (findR nd n kwNear) z (ratR nd)).bind fun w=>ruleN nd n (unitS (textR nd u)) l w false
theorem wq16t{k:Nat}{nd:List Nd}(D:Dk k nd){n:Int}(h:InD nd n){key:List UInt8}{j:Int}(e:mustR nd n key = .ok j): InD nd j:=by
 unfold mustR at e
 cases hf:findR nd n key with
 |none=>rw[hf]at e;cases e
 |some i=>rw[hf]at e;injection e with e;rw[←e];exact D.find h hf
theorem run_eq{T R:Type}{r:Rz T}{K K':T→Option R}{E:Int→Int→Option R}(h:∀ x,r = .ok x→K x=K' x): r.run K E=r.run K' E:=by
 cases r with
 |ok x=>exact h x rfl
 |er f=>rfl
section
variable {R:Type} {k:Nat} {nd:List Nd} (D:Dk k nd) {n:Int} (h:InD nd n)
include D h
theorem Dk.snameo (d:List (List UInt8×List Int)) (b:List (List UInt8×(List UInt8×(Bool×(Int×(Int×(Bool×((List UInt8×(Int×(Int×(Nat×(Bool×Bool)))))×List Int)))))))) (z:Nat) (u l:Int) (w:Nat) (c:Bool)
 (K:List UInt8→Int→Int→Nat→Bool→Bool→Option R) (E:Int→Int→Option R) :
 wqv k nd n kwName (fun y19 y20=>bif y20 then wq10 k nd y19 (fun y21=>K y21 u l w false c) E else K [] u l w false c)=(ruleN nd n u l w c).run (fun r=>K r.1 r.2.1 r.2.2.1 r.2.2.2.1 r.2.2.2.2.1 r.2.2.2.2.2) E:=by
 unfold ruleN
 rw[D.sfind h,run_bind]
 cases hf:findR nd n kwName with
 |none=>rfl
 |some j =>
  simp only[cond_true,optR]
  rw[D.snamek (D.find h hf)]
  rfl
theorem Dk.srule (d:List (List UInt8×List Int)) (b:List (List UInt8×(List UInt8×(Bool×(Int×(Int×(Bool×((List UInt8×(Int×(Int×(Nat×(Bool×Bool)))))×List Int)))))))) (z:Nat)
 (K:List Nd→List (List UInt8×List Int)→List (List UInt8×(List UInt8×(Bool×(Int×(Int×(Bool×((List UInt8×(Int×(Int×(Nat×(Bool×Bool)))))×List Int)))))))→Nat→List UInt8→Int→Int→Nat→Bool→Bool→Option R)
 (E:List Nd→List (List UInt8×List Int)→List (List UInt8×(List UInt8×(Bool×(Int×(Int×(Bool×((List UInt8×(Int×(Int×(Nat×(Bool×Bool)))))×List Int)))))))→Nat→Int→Int→Option R) :
 wq45 k nd d b z n K E=(ruleR nd z n).run (fun r=>K nd d b z r.1 r.2.1 r.2.2.1 r.2.2.2.1 r.2.2.2.2.1 r.2.2.2.2.2) (E nd d b z):=by
 have hk:=D.hk
 unfold wq45 wq6h ruleR
 rw[D.sknownk h _ (by decide),run_bind]
 refine run_eq fun _ _ => ?_
 rw[D.sboolk h,run_bind]
 refine run_eq fun c _ => ?_
 cases c with
 |true =>
  simp only[cond_true]
  obtain⟨m,rfl⟩:∃ m,k=m+4:=⟨k-4,by omega⟩
  generalize hz:m+4=q at D hk ⊢
  have hz':q=(((m+1)+1)+1)+1:=by omega
  have e0:∀ a1 a2 a3 a4 a5 a6 a7 a8,wq20 q (@wqq q) (@wqn q) (@wqu q) (@wqk q) (@wqc q) (@wq1n q) (@wqv q) (@wq10 q) (@wq17 q) (@wq9p q) (@wq24 q) q nd d b z n a1 a2 a3 a4 a5 a6 a7 a8 0 K E =
   wq20 q (@wqq q) (@wqn q) (@wqu q) (@wqk q) (@wqc q) (@wq1n q) (@wqv q) (@wq10 q) (@wq17 q) (@wq9p q) (@wq24 q) ((((m+1)+1)+1)+1) nd d b z n a1 a2 a3 a4 a5 a6 a7 a8 0 K E:=by
   intros;rw[←hz']
  rw[e0]
  have st:∀(j:Nat) (i:Nat) (key:List UInt8),i<3→(∀ z,([kwUnit,kwReq,kwNear]:List (List UInt8)).getD i z=key) →
   wq20 q (@wqq q) (@wqn q) (@wqu q) (@wqk q) (@wqc q) (@wq1n q) (@wqv q) (@wq10 q) (@wq17 q) (@wq9p q) (@wq24 q) (j+1) nd d b z n [] 0 0 0 false true [kwUnit,kwReq,kwNear] 3 (i:Int) K E =
   bif has nd n key then E nd d b z 17 (lineS nd n)else wq20 q (@wqq q) (@wqn q) (@wqu q) (@wqk q) (@wqc q) (@wq1n q) (@wqv q) (@wq10 q) (@wq17 q) (@wq9p q) (@wq24 q) j nd d b z n [] 0 0 0 false true [kwUnit,kwReq,kwNear] 3 ((i+1:Nat):Int) K E:=by
   intro j i key hi hg
   have e3:((([kwUnit,kwReq,kwNear]:List (List UInt8)).length:Nat):Int)=3:=rfl
   rw[wq20,wq5c,dec_t (by omega),cond_true,e3,inb_t (by omega) (by omega),cond_true,wq4,hg,wq15 (by omega) (by omega),show(i:Int)+1=((i+1:Nat):Int) by omega,D.sfind h]
   unfold has
   cases findR nd n key with
   |none=>rfl
   |some y=>exact D.sfault h 17 (by decide) _
  have e3:((@List.length (@Kd.T Kd.str) [[(117:UInt8),110,105,116],[(114:UInt8),101,113,117,101,115,116,115,95,112,101,114,95,117,110,105,116],[(110:UInt8),101,97,114]]:Nat):Int)=3:=rfl
  rw[e3]
  have s0:=st (((m+1)+1)+1) 0 kwUnit (by decide) fun _=>rfl
  have s1:=st ((m+1)+1) 1 kwReq (by decide) fun _=>rfl
  have s2:=st (m+1) 2 kwNear (by decide) fun _=>rfl
  refine Eq.trans s0 ?_
  cases has nd n kwUnit with
  |true=>rfl
  |false =>
   rw[cond_false,Bool.false_or]
   refine Eq.trans s1 ?_
   cases has nd n kwReq with
   |true=>rfl
   |false =>
    rw[cond_false,Bool.false_or]
    refine Eq.trans s2 ?_
    cases has nd n kwNear with
    |true=>rfl
    |false =>
     rw[cond_false,cond_false,wq20,wq5c,dec_f (by decide),cond_false]
     exact D.snameo h d b z 0 0 0 true (K nd d b z) (E nd d b z)
 |false =>
  simp only[cond_false]
  rw[D.smust h,run_bind]
  refine run_eq fun u hu => ?_
  have hu:=wq16t D h hu
  obtain⟨l1,_⟩:=D.line hu
  rw[D.sneedk hu,run_bind]
  refine run_eq fun _ _ => ?_
  rw[l1,cond_true,D.text hu,wq1bo k (by omega)]
  cases unitS (textR nd u) == 0 with
  |true=>exact D.sfault hu 16 (by decide) _
  |false =>
   simp only[cond_false]
   rw[D.smust h,run_bind]
   refine run_eq fun q hq => ?_
   have hq:=wq16t D h hq
   rw[D.snumk hq,run_bind]
   refine run_eq fun l _ => ?_
   rw[D.sratio h,run_bind]
   refine run_eq fun w _ => ?_
   exact D.snameo h d b z _ l w false (K nd d b z) (E nd d b z)
end
end Go.Proofs.YtabkhphoacmcdaaGreatDoor.Pvm
namespace Go.Proofs.YtabkhphoacmcdaaGreatDoor.Pvm
open Go
abbrev Dm:=List (List UInt8×List Int)
abbrev Br:=List UInt8×(List UInt8×(Bool×(Int×(Int×(Bool×((List UInt8×(Int×(Int×(Nat×(Bool×Bool)))))×List Int))))))
section
variable {R:Type} {k:Nat} {nd:List Nd} (D:Dk k nd) {n:Int} (h:InD nd n)
include D h
end
end Go.Proofs.YtabkhphoacmcdaaGreatDoor.Pvm
namespace Go.Proofs.YtabkhphoacmcdaaGreatDoor.Pvm
open Go
abbrev kwKey:List UInt8:=[107,101,121]
abbrev wqyh:List UInt8:=[118,97,108,117,101]
abbrev kwRate:List UInt8:=[114,97,116,101,95,108,105,109,105,116]
abbrev wq90:List UInt8:=[115,104,97,100,111,119,95,109,111,100,101]
abbrev kwDesc:List UInt8:=[100,101,115,99,114,105,112,116,111,114,115]
abbrev wqnl:List UInt8:=[100,111,109,97,105,110]
abbrev wqdl:List UInt8:=[100,111,109,97,105,110,115]
def foldR(br:Int→List Int→List Br→Rz (Int×List Br)): List Int→List Int→List Br→Rz (List Int×List Br)
 |[],a,w => .ok (a,w)
 |i::r,a,w=>(br i a w).bind fun p=>foldR br r (a++[p.1]) p.2
def twinB(b:Br)(key val:List UInt8)(any:Bool): Bool:=bif (bif b.1 == key then b.2.1 == val else false)then b.2.2.1 == any else false
def twinR(b0:Nat)(a:List Int)(w:List Br)(key val:List UInt8)(any:Bool): Bool:=a.any fun i=>match w[i.toNat-b0]? with|some b=>twinB b key val any|none=>false
def shadow(r:Rl)(s:Bool): Rl:=(r.1,r.2.1,r.2.2.1,r.2.2.2.1,s,r.2.2.2.2.2)
def zRl:Rl:=([],0,0,0,false,false)
def valueR(nd:List Nd)(i:Int): Rz (List UInt8×Bool):=optR (findR nd i wqyh) ([],true) fun j=>(wordR nd j).bind fun v => .ok (v,false)
def rateR(nd:List Nd)(z:Nat)(i:Int): Rz (Bool×Rl):=optR (findR nd i kwRate) (false,zRl) fun j=>(ruleR nd z j).bind fun r => .ok (true,r)
def wqhl:Nat→List Nd→Nat→Int→Int→Nat→Int→List Int→List Br→Rz (Int×List Br)
 |0,nd,_,_,_,_,i,_,_ => .er (8,lineS nd i)
 |g+1,nd,z,dom,up,b0,i,a,w=>bif decide (500≤b0+w.length)then .er (9,lineS nd i)else
  (knownR nd i [kwKey,wqyh,kwRate,wq90,kwDesc]).bind fun _=>(mustR nd i kwKey).bind fun kk=>(nameR nd kk).bind fun key=>(valueR nd i).bind fun va =>
  bif twinR b0 a w key va.1 va.2 then .er (7,lineS nd i)else
  (rateR nd z i).bind fun hr=>(optR (findR nd i wq90) false (boolR nd)).bind fun s =>
  bif s && !hr.1 then .er (17,lineS nd ((findR nd i wq90).getD 0))else
  ((itemsR nd i kwDesc).bind fun its=>foldR (wqhl g nd z dom ((b0+w.length:Nat):Int) (b0+w.length+1)) its [] []).bind fun p =>
  .ok (((b0+w.length:Nat):Int),w++(key,va.1,va.2,dom,up,hr.1,shadow hr.2 s,p.1)::p.2)
def listR(g:Nat)(nd:List Nd)(z:Nat)(dom up:Int)(b0:Nat)(n:Int): Rz (List Int×List Br):=(itemsR nd n kwDesc).bind fun its=>foldR (wqhl g nd z dom up b0) its [] []
def domR(nd:List Nd)(z:Nat)(d:Dm)(b0:Nat)(n:Int): Rz ((List UInt8×List Int)×List Br) :=
 (knownR nd n [wqnl,kwDesc]).bind fun _=>(mustR nd n wqnl).bind fun j=>(nameR nd j).bind fun s=>bif d.any (fun x=>x.1 == s)then .er (7,lineS nd j)else
  (listR 8 nd z (d.length:Int) (-1) b0 n).bind fun p => .ok ((s,p.1),p.2)
def domsR(nd:List Nd)(z:Nat): List Int→Dm→List Br→Rz (Dm×List Br)
 |[],d,b => .ok (d,b)
 |i::r,d,b=>bif decide (16≤d.length)then .er (9,lineS nd i)else(domR nd z d b.length i).bind fun p=>domsR nd z r (d++[p.1]) (b++p.2)
def rootR(nd:List Nd)(z0:Nat): Rz (Dm×List Br) :=
 (knownR nd 0 [kwNear,wqdl]).bind fun _=>(optR (findR nd 0 kwNear) z0 (ratR nd)).bind fun z=>(mustR nd 0 wqdl).bind fun _=>(itemsR nd 0 wqdl).bind fun its=>domsR nd z its [] []
theorem wqs0{A B:Type}{r:Rz A}{g:A→Rz B}{y:B}(h:r.bind g = .ok y): ∃ x,r = .ok x∧g x = .ok y:=by
 cases r with
 |ok x=>exact⟨x,rfl,h⟩
 |er f=>cases h
theorem c_ok{T:Type}{c:Bool}{f:Int×Int}{r:Rz T}{y:T}(h:(bif c then .er f else r)=Rz.ok y): c=false∧r = .ok y:=by
 cases c with
 |true=>cases h
 |false=>exact⟨rfl,h⟩
theorem wq1d7{g:Nat}{nd:List Nd}{z:Nat}{dom up:Int}{b0:Nat}{i:Int}{a:List Int}{w:List Br}{p:Int×List Br}(h:wqhl g nd z dom up b0 i a w = .ok p):
 p.1=((b0+w.length:Nat):Int)∧∃ b l,p.2=w++b::l:=by
 cases g with
 |zero=>cases h
 |succ g =>
  unfold wqhl at h
  obtain⟨_,h⟩:=c_ok h
  obtain⟨_,_,h⟩:=wqs0 h
  obtain⟨_,_,h⟩:=wqs0 h
  obtain⟨_,_,h⟩:=wqs0 h
  obtain⟨_,_,h⟩:=wqs0 h
  obtain⟨_,h⟩:=c_ok h
  obtain⟨_,_,h⟩:=wqs0 h
  obtain⟨_,_,h⟩:=wqs0 h
  obtain⟨_,h⟩:=c_ok h
  obtain⟨q,_,h⟩:=wqs0 h
  injection h with h
  rw[←h]
  exact⟨rfl,_,_,rfl⟩
def InA(b0:Nat)(a:List Int)(w:List Br): Prop:=∀ x∈a,(b0:Int)≤x∧x<((b0+w.length:Nat):Int)
theorem wq1ey{b0:Nat}{a:List Int}{w:List Br}{b:Br}{l:List Br}(h:InA b0 a w): InA b0 (a++[((b0+w.length:Nat):Int)]) (w++b::l):=by
 intro x hx
 have e:(w++b::l).length=w.length+(l.length+1):=by simp
 rw[e]
 rcases List.mem_append.1 hx with hx|hx
 ·have:=h x hx;omega
 ·have:=List.mem_singleton.1 hx;omega
theorem wq1fv(b0:Nat): InA b0 [] []:=fun x hx=>by cases hx
theorem wq1fw{pre w:List Br}{b0:Nat}{x:Int}(hp:pre.length=b0)(h:(b0:Int)≤x∧x<((b0+w.length:Nat):Int)): ∃ b,w[x.toNat-b0]? = some b∧(∀ z,(pre++w).getD x.toNat z=b)∧inb x ((pre++w).length:Int)=true:=by
 have h1:x.toNat-b0<w.length:=by omega
 refine⟨w[x.toNat-b0],List.getElem?_eq_getElem h1,fun z => ?_,inb_t (by omega) (by rw[List.length_append];omega)⟩
 rw[List.getD,List.getElem?_append_right (by omega),hp,List.getElem?_eq_getElem h1];rfl
theorem wq1fx(pre:List Br)(x y:Br)(l:List Br): (pre++x::l).set pre.length y=pre++y::l:=by simp
theorem wq1bp {R:Type} (k:Nat) (i:Int) (nd:List Nd) (d:Dm) (brs:List Br) (z:Nat) (key val:List UInt8) (any:Bool) (dom up:Int) (hs:Bool) (r1:List UInt8) (r2 r3:Int) (r4:Nat) (r5 r6:Bool) (kd:List Int) (b:Br) (hi:inb i (brs.length:Int)=true) (hb:∀ z,brs.getD i.toNat z=b)
 (K:List Nd→Dm→List Br→Nat→List UInt8→List UInt8→Bool→Int→Int→Bool→List UInt8→Int→Int→Nat→Bool→Bool→List Int→Bool→Option R) :
 wq4m k i nd d brs z key val any dom up hs r1 r2 r3 r4 r5 r6 kd K=K nd d brs z key val any dom up hs r1 r2 r3 r4 r5 r6 kd (twinB b key val any):=by
 unfold wq4m wqbv
 rw[hi,cond_true,hb]
 rfl
theorem wq130 {R:Type} (k:Nat) (nd:List Nd) (d:Dm) (pre w:List Br) (z:Nat) (key val:List UInt8) (any:Bool) (dom up:Int) (hs:Bool) (r1:List UInt8) (r2 r3:Int) (r4:Nat) (r5 r6:Bool) (kd:List Int) (a:List Int) (hl:a.length≤4000) (ha:InA pre.length a w)
 (K:List Nd→Dm→List Br→Nat→List UInt8→List UInt8→Bool→Int→Int→Bool→List UInt8→Int→Int→Nat→Bool→Bool→List Int→Int→Option R):∀(s:List Int) (i m:Nat),a.drop i=s→i≤a.length→s.length<m →
 ∃ j:Int,decide (j≥0)=twinR pre.length s w key val any∧wq1l k m nd d (pre++w) z key val any dom up hs r1 r2 r3 r4 r5 r6 kd a (a.length:Int) (i:Int) K=K nd d (pre++w) z key val any dom up hs r1 r2 r3 r4 r5 r6 kd j
 |s,i,0,_,_,h=>by omega
 |[],i,m+1,hd,hi,hm=>by
  have:=wq4j hd
  refine⟨-1,rfl,?_⟩
  rw[wq1l,wq30,dec_f (by omega)];rfl
 |c::s,i,m+1,hd,hi,hm=>by
  obtain⟨hlt,hc,hr⟩:=wq2g hd
  have hm1:c∈a:=by
   have:=hc 0
   rw[List.getD,List.getElem?_eq_getElem hlt]at this
   rw[←this];exact List.getElem_mem _
  obtain⟨b,e1,e2,e3⟩:=wq1fw (pre:=pre) rfl (ha c hm1)
  rw[wq1l,wq30,dec_t (by omega),cond_true,inb_t (by omega) (by omega),cond_true,wq4,hc,wq1bp k c nd d _ z key val any dom up hs r1 r2 r3 r4 r5 r6 kd b e3 e2]
  have et:twinR pre.length (c::s) w key val any=(twinB b key val any || twinR pre.length s w key val any):=by
   unfold twinR
   rw[List.any_cons,e1]
  rw[et]
  cases twinB b key val any with
  |true=>exact⟨(i:Int),by rw[Bool.true_or];exact dec_t (by omega),rfl⟩
  |false =>
   rw[Bool.false_or,cond_false,wq15 (by omega) (by omega),show(i:Int)+1=((i+1:Nat):Int) by omega]
   exact wq130 k nd d pre w z key val any dom up hs r1 r2 r3 r4 r5 r6 kd a hl ha K s (i+1) m hr (by omega) (by simp at hm;omega)
theorem wq18k {R:Type} (k:Nat) (hk:5000<k) (nd:List Nd) (d:Dm) (pre w:List Br) (z:Nat) (key val:List UInt8) (any:Bool) (dom up:Int) (hs:Bool) (r1:List UInt8) (r2 r3:Int) (r4:Nat) (r5 r6:Bool) (kd:List Int) (a:List Int) (hl:a.length≤4000) (ha:InA pre.length a w)
 (K:List Nd→Dm→List Br→Nat→List UInt8→List UInt8→Bool→Int→Int→Bool→List UInt8→Int→Int→Nat→Bool→Bool→List Int→Bool→Option R) :
 wq1s k a nd d (pre++w) z key val any dom up hs r1 r2 r3 r4 r5 r6 kd K=K nd d (pre++w) z key val any dom up hs r1 r2 r3 r4 r5 r6 kd (twinR pre.length a w key val any):=by
 unfold wq1s wq5t wq3e wq4g
 obtain⟨j,e1,e2⟩:=wq130 k nd d pre w z key val any dom up hs r1 r2 r3 r4 r5 r6 kd a hl ha (fun y21 y22 y23 y24 y25 y26 y27 y28 y29 y30 y31 y32 y33 y34 y35 y36 y37 y38=>K y21 y22 y23 y24 y25 y26 y27 y28 y29 y30 y31 y32 y33 y34 y35 y36 y37 (decide (y38≥0))) a 0 k rfl (Nat.zero_le _) (by omega)
 rw[←e1]
 exact e2
section
variable {nd:List Nd}
def LstOK(nd:List Nd)(g k:Nat): Prop:=∀(R:Type) (d:Dm) (pre:List Br) (z:Nat) (n dom up:Int) (K:List Nd→Dm→List Br→Nat→List Int→Option R) (E:List Nd→Dm→List Br→Nat→Int→Int→Option R),InD nd n →
 ∃ b',wq16 k R nd d pre z n dom up (9-(g:Int)) K E=(listR g nd z dom up pre.length n).run (fun p=>K nd d (pre++p.2) z p.1) (E nd d b' z)
def BrOK(nd:List Nd)(g k:Nat): Prop:=∀(R:Type) (d:Dm) (pre w:List Br) (z:Nat) (i dom up:Int) (a:List Int) (K:List Nd→Dm→List Br→Nat→Int→Option R) (E:List Nd→Dm→List Br→Nat→Int→Int→Option R),InD nd i→a.length≤4000→InA pre.length a w →
 ∃ b',FR_config_reader_branch k R nd d (pre++w) z i [] [] false dom up false [] 0 0 0 false false [] a (9-(g:Int)) K E=(wqhl g nd z dom up pre.length i a w).run (fun p=>K nd d (pre++p.2) z p.1) (E nd d b' z)
def tailP(k:Nat){R:Type}(nd:List Nd)(d:Dm)(b0 brs:List Br)(z:Nat)(i dom up deep:Int)(key val:List UInt8)(any:Bool)(K:List Nd→Dm→List Br→Nat→Int→Option R)(E:List Nd→Dm→List Br→Nat→Int→Int→Option R)(hs:Bool)(r1:List UInt8)(r2 r3:Int)(r4:Nat)(r6:Bool)(kd:List Int): Option R :=
 wq17 k nd i wq90 (fun s=>bif (bif s then !hs else false)then wqv k nd i wq90 (fun j _=>wqc k nd j 17 (fun a b=>E nd d brs z a b))
  else wq16 k R nd d brs z i dom (b0.length:Int) (IntKind.i64.wrap (deep+1)) (fun y66 y67 y68 y69 y70=>bif inb (b0.length:Int) (y68.length:Int)then @SH (List Br) R (List.set y68 (b0.length:Int).toNat (key,(val,(any,(dom,(up,(hs,((r1,(r2,(r3,(r4,(s,r6))))),y70)))))))) (fun y71=>K y66 y67 y71 y69 (b0.length:Int))else none) E) (fun a b=>E nd d brs z a b)
theorem wq1e3{k g:Nat}(D:Dk k nd)(hL:LstOK nd g k)(hg:g≤8){R:Type}(d:Dm)(pre w:List Br)(x0:Br)(z:Nat)(i dom up:Int)(h:InD nd i)(key val:List UInt8)(any:Bool)(K:List Nd→Dm→List Br→Nat→Int→Option R)(E:List Nd→Dm→List Br→Nat→Int→Int→Option R)(hs:Bool)(r1:List UInt8)(r2 r3:Int)(r4:Nat)(r5 r6:Bool)(kd:List Int):
 ∃ b',tailP k nd d (pre++w) ((pre++w)++[x0]) z i dom up (9-((g+1:Nat):Int)) key val any K E hs r1 r2 r3 r4 r6 kd =
  ((optR (findR nd i wq90) false (boolR nd)).bind fun s=>bif s && !hs then .er (17,lineS nd ((findR nd i wq90).getD 0))else
    (listR g nd z dom ((pre.length+w.length:Nat):Int) (pre.length+w.length+1) i).bind fun p =>
    .ok (((pre.length+w.length:Nat):Int),w++(key,val,any,dom,up,hs,shadow (r1,r2,r3,r4,r5,r6) s,p.1)::p.2):Rz (Int×List Br)).run (fun p=>K nd d (pre++p.2) z p.1) (E nd d b' z):=by
 have e1:((pre++w).length:Int)=((pre.length+w.length:Nat):Int):=by rw[List.length_append]
 have e2:IntKind.i64.wrap ((9-((g+1:Nat):Int))+1)=9-(g:Int):=by rw[wq15 (by omega) (by omega)];omega
 unfold tailP
 rw[D.sboolk h,e2,e1]
 cases hr:optR (findR nd i wq90) false (boolR nd)with
 |er f=>exact⟨_,rfl⟩
 |ok s =>
  simp only[Rz.run,Rz.bind]
  have ec:(bif s then !hs else false)=(s && !hs):=by cases s<;>rfl
  rw[ec]
  cases hq:(s && !hs)with
  |true =>
   simp only[cond_true]
   have hs1:s=true:=by cases s with|true=>rfl|false=>cases hq
   cases hf:findR nd i wq90 with
   |none=>rw[hf,hs1]at hr;cases hr
   |some j =>
    rw[D.sfind h,hf]
    dsimp only
    rw[D.sfault (D.find h hf) 17 (by decide)]
    exact⟨_,rfl⟩
  |false =>
   simp only[cond_false]
   obtain⟨b',e⟩:=hL R d ((pre++w)++[x0]) z i dom ((pre.length+w.length:Nat):Int) (fun y66 y67 y68 y69 y70=>bif inb ((pre.length+w.length:Nat):Int) (y68.length:Int)then @SH (List Br) R (List.set y68 ((pre.length+w.length:Nat):Int).toNat (key,(val,(any,(dom,(up,(hs,((r1,(r2,(r3,(r4,(s,r6))))),y70)))))))) (fun y71=>K y66 y67 y71 y69 ((pre.length+w.length:Nat):Int))else none) E h
   have e3:((pre++w)++[x0]).length=pre.length+w.length+1:=by simp;omega
   rw[e,e3]
   cases listR g nd z dom ((pre.length+w.length:Nat):Int) (pre.length+w.length+1) i with
   |er f=>exact⟨b',rfl⟩
   |ok p =>
    refine⟨b',?_⟩
    have e4:((pre++w)++[x0])++p.2=(pre++w)++x0::p.2:=by simp
    have e5:inb ((pre.length+w.length:Nat):Int) (((pre++w)++x0::p.2).length:Int)=true:=inb_t (by omega) (by simp;omega)
    have e6:((pre.length+w.length:Nat):Int).toNat=(pre++w).length:=by rw[List.length_append];rfl
    have e7:∀ y:Br,(pre++w)++y::p.2=pre++(w++y::p.2):=fun y=>by simp
    show(bif inb ((pre.length+w.length:Nat):Int) ((((pre++w)++[x0])++p.2).length:Int)then K nd d (List.set (((pre++w)++[x0])++p.2) ((pre.length+w.length:Nat):Int).toNat (key,(val,(any,(dom,(up,(hs,((r1,(r2,(r3,(r4,(s,r6))))),p.1)))))))) z ((pre.length+w.length:Nat):Int)else none)=K nd d (pre++(w++(key,(val,(any,(dom,(up,(hs,((r1,(r2,(r3,(r4,(s,r6))))),p.1)))))))::p.2)) z ((pre.length+w.length:Nat):Int)
    rw[e4,e5,cond_true,e6,wq1fx,e7]
theorem fits_b{n:Nat}(h:n<500)(b:Nat)(hb:b≤1000): fits n 1 b=true:=by
 unfold fits
 have h1:(n+1)*b≤501*1000:=Nat.mul_le_mul (by omega) hb
 rw[dec_t (show n+1≤maxN by have:maxN=9223372036854775807:=rfl;omega),dec_t (show(n+1)*b≤140737488355328 by omega)];rfl
def midP(k:Nat){R:Type}(nd:List Nd)(d:Dm)(brs:List Br)(z:Nat)(i dom up deep:Int)(key val:List UInt8)(any:Bool)(a:List Int)(K:List Nd→Dm→List Br→Nat→Int→Option R)(E:List Nd→Dm→List Br→Nat→Int→Int→Option R): Option R :=
 wq1s k a nd d brs z key val any dom up false [] 0 0 0 false false [] (fun y35 y36 y37 y38 y39 y40 y41 y42 y43 y44 y45 y46 y47 y48 y49 y50 y51 y52=>bif y52 then wqc k y35 i 7 (fun y53 y54=>E y35 y36 y37 y38 y53 y54)
  else bif fits y37.length (@List.length Br [(y39,(y40,(y41,(y42,(y43,(y44,((y45,(y46,(y47,(y48,(y49,y50))))),y51)))))))]) 136 then wqv k y35 i kwRate (fun y53 y54=>bif y54 then wq45 k y35 y36 (y37++[(y39,(y40,(y41,(y42,(y43,(y44,((y45,(y46,(y47,(y48,(y49,y50))))),y51)))))))]) y38 y53 (fun y55 y56 y57 y58 y59 y60 y61 y62 y63 y64 =>
   wq17 k y55 i wq90 (fun y65=>bif (bif y65 then !true else false)then wqv k y55 i wq90 (fun y66 y67=>wqc k y55 y66 17 (fun y68 y69=>E y55 y56 y57 y58 y68 y69))
    else wq16 k R y55 y56 y57 y58 i y42 (y37.length:Int) (IntKind.i64.wrap (deep+1)) (fun y66 y67 y68 y69 y70=>bif inb (y37.length:Int) (y68.length:Int)then @SH (List Br) R (List.set y68 (y37.length:Int).toNat (y39,(y40,(y41,(y42,(y43,(true,((y59,(y60,(y61,(y62,(y65,y64))))),y70)))))))) (fun y71=>K y66 y67 y71 y69 (y37.length:Int))else none) E) (fun y65 y66=>E y55 y56 y57 y58 y65 y66)) E
   else wq17 k y35 i wq90 (fun y55=>bif (bif y55 then !y44 else false)then wqv k y35 i wq90 (fun y56 y57=>wqc k y35 y56 17 (fun y58 y59=>E y35 y36 (y37++[(y39,(y40,(y41,(y42,(y43,(y44,((y45,(y46,(y47,(y48,(y49,y50))))),y51)))))))]) y38 y58 y59))
    else wq16 k R y35 y36 (y37++[(y39,(y40,(y41,(y42,(y43,(y44,((y45,(y46,(y47,(y48,(y49,y50))))),y51)))))))]) y38 i y42 (y37.length:Int) (IntKind.i64.wrap (deep+1)) (fun y56 y57 y58 y59 y60=>bif inb (y37.length:Int) (y58.length:Int)then @SH (List Br) R (List.set y58 (y37.length:Int).toNat (y39,(y40,(y41,(y42,(y43,(y44,((y45,(y46,(y47,(y48,(y55,y50))))),y60)))))))) (fun y61=>K y56 y57 y61 y59 (y37.length:Int))else none) E) (fun y55 y56=>E y35 y36 (y37++[(y39,(y40,(y41,(y42,(y43,(y44,((y45,(y46,(y47,(y48,(y49,y50))))),y51)))))))]) y38 y55 y56))
  else none)
theorem mid_eq{k g:Nat}(D:Dk k nd)(hL:LstOK nd g k)(hg:g≤8){R:Type}(d:Dm)(pre w:List Br)(z:Nat)(i dom up:Int)(h:InD nd i)(key val:List UInt8)(any:Bool)(a:List Int)(hl:a.length≤4000)(ha:InA pre.length a w)(h5:pre.length+w.length<500)(K:List Nd→Dm→List Br→Nat→Int→Option R)(E:List Nd→Dm→List Br→Nat→Int→Int→Option R):
 ∃ b',midP k nd d (pre++w) z i dom up (9-((g+1:Nat):Int)) key val any a K E =
  (bif twinR pre.length a w key val any then .er (7,lineS nd i)else
   (rateR nd z i).bind fun hr=>(optR (findR nd i wq90) false (boolR nd)).bind fun s =>
   bif s && !hr.1 then .er (17,lineS nd ((findR nd i wq90).getD 0))else
   (listR g nd z dom ((pre.length+w.length:Nat):Int) (pre.length+w.length+1) i).bind fun p =>
   .ok (((pre.length+w.length:Nat):Int),w++(key,val,any,dom,up,hr.1,shadow hr.2 s,p.1)::p.2):Rz (Int×List Br)).run (fun p=>K nd d (pre++p.2) z p.1) (E nd d b' z):=by
 have hk:=D.hk
 unfold midP
 rw[wq18k k (by omega) nd d pre w z key val any dom up false [] 0 0 0 false false [] a hl ha]
 cases twinR pre.length a w key val any with
 |true =>
  refine⟨pre++w,?_⟩
  simp only[cond_true]
  exact D.sfault h 7 (by decide) _
 |false =>
  have hf:fits (pre++w).length (@List.length Br [(key,(val,(any,(dom,(up,(false,(([],((0:Int),((0:Int),((0:Nat),(false,false))))),([]:List Int))))))))]) 136=true:=fits_b (by rw[List.length_append];exact h5) 136 (by decide)
  simp only[cond_false]
  rw[hf,cond_true,D.sfind h]
  unfold rateR
  cases hq:findR nd i kwRate with
  |none=>exact wq1e3 D hL hg d pre w (key,(val,(any,(dom,(up,(false,(([],((0:Int),((0:Int),((0:Nat),(false,false))))),[]))))))) z i dom up h key val any K E false [] 0 0 0 false false []
  |some j =>
   simp only[cond_true,optR]
   rw[D.srule (D.find h hq)]
   cases ruleR nd z j with
   |er f=>exact⟨_,rfl⟩
   |ok r=>exact wq1e3 D hL hg d pre w (key,(val,(any,(dom,(up,(false,(([],((0:Int),((0:Int),((0:Nat),(false,false))))),[]))))))) z i dom up h key val any K E true r.1 r.2.1 r.2.2.1 r.2.2.2.1 r.2.2.2.2.1 r.2.2.2.2.2 []
theorem wq1fy{k g:Nat}(D:Dk k nd)(hg:g≤8)(hL:LstOK nd g k): BrOK nd (g+1) (k+1):=by
 intro R d pre w z i dom up a K E h hl ha
 have hk:=D.hk
 rw[FR_config_reader_branch,wqhl]
 unfold wq7c
 rw[dec_f (show ¬ (9-((g+1:Nat):Int))>8 by omega),cond_false,List.length_append]
 by_cases h5:500≤pre.length+w.length
 ·rw[dec_t (show((pre.length+w.length:Nat):Int)≥500 by omega),dec_t h5]
  refine⟨pre++w,?_⟩
  simp only[cond_true]
  exact D.sfault h 9 (by decide) _
 ·rw[dec_f (show ¬ ((pre.length+w.length:Nat):Int)≥500 by omega),dec_f h5,cond_false,cond_false,D.sknownk h _ (by decide)]
  cases knownR nd i [kwKey,wqyh,kwRate,wq90,kwDesc]with
  |er f=>exact⟨_,rfl⟩
  |ok _ =>
   simp only[Rz.run,Rz.bind]
   rw[D.smust h]
   cases hm:mustR nd i kwKey with
   |er f=>exact⟨_,rfl⟩
   |ok kk =>
    simp only[Rz.run]
    rw[D.snamek (wq16t D h hm)]
    cases nameR nd kk with
    |er f=>exact⟨_,rfl⟩
    |ok key =>
     simp only[Rz.run]
     rw[D.sfind h]
     unfold valueR
     cases hv:findR nd i wqyh with
     |none=>exact mid_eq D hL hg d pre w z i dom up h key [] true a hl ha (by omega) K E
     |some j =>
      simp only[cond_true,optR]
      rw[D.swordk (D.find h hv)]
      cases wordR nd j with
      |er f=>exact⟨_,rfl⟩
      |ok v=>exact mid_eq D hL hg d pre w z i dom up h key v false a hl ha (by omega) K E
theorem br_0{k:Nat}(D:Dk k nd): BrOK nd 0 (k+1):=by
 intro R d pre w z i dom up a K E h hl ha
 rw[FR_config_reader_branch,wqhl]
 unfold wq7c
 rw[dec_t (show(9-((0:Nat):Int))>8 by decide),cond_true]
 exact⟨pre++w,D.sfault h 8 (by decide) _⟩
theorem fits_a{n:Nat}(h:n≤4000)(b:Nat)(hb:b≤1000): fits n 1 b=true:=by
 unfold fits
 have h1:(n+1)*b≤4001*1000:=Nat.mul_le_mul (by omega) hb
 rw[dec_t (show n+1≤maxN by have:maxN=9223372036854775807:=rfl;omega),dec_t (show(n+1)*b≤140737488355328 by omega)];rfl
theorem Dk.kidsLen{k:Nat}(D:Dk k nd){i:Int}(h:InD nd i): (kidsR nd i).length≤4000:=by
 obtain⟨n,x,rfl,h1,a⟩:=D.at h
 unfold kidsR
 rw[h1]
 exact a.ok.2.2.1
theorem wq1bq{k:Nat}(D:Dk k nd){n:Int}(h:InD nd n){key:List UInt8}{its:List Int}(e:itemsR nd n key = .ok its): its.length≤4000∧∀ j∈its,InD nd j:=by
 unfold itemsR at e
 cases hf:findR nd n key with
 |none=>rw[hf]at e;injection e with e;rw[←e];exact⟨by simp,fun j hj=>by cases hj⟩
 |some j =>
  rw[hf]at e
  obtain⟨_,_,e⟩:=wqs0 e
  injection e with e
  rw[←e]
  exact⟨D.kidsLen (D.find h hf),D.kids (D.find h hf)⟩
theorem wq16u{k g:Nat}(hB:BrOK nd g k){R:Type}(d:Dm)(pre:List Br)(z:Nat)(dom up:Int)(its:List Int)(hi:its.length≤4000)(hj:∀ j∈its,InD nd j)(K:List Nd→Dm→List Br→Nat→List Int→Option R)(E:List Nd→Dm→List Br→Nat→Int→Int→Option R): ∀(s:List Int) (i m:Nat) (a:List Int) (w:List Br),its.drop i=s→i≤its.length→s.length<m→a.length=i→InA pre.length a w →
 ∃ b',wq2s k (wq16 k) (FR_config_reader_branch k) m nd d (pre++w) z dom up (9-(g:Int)) a its (its.length:Int) (i:Int) K E=(foldR (wqhl g nd z dom up pre.length) s a w).run (fun p=>K nd d (pre++p.2) z p.1) (E nd d b' z)
 |s,i,0,_,_,_,_,h,_,_=>by omega
 |[],i,m+1,a,w,hd,hil,hm,hal,ha=>by
  have:=wq4j hd
  refine⟨pre++w,?_⟩
  rw[wq2s,wq5d,dec_f (by omega)];rfl
 |c::s,i,m+1,a,w,hd,hil,hm,hal,ha=>by
  obtain⟨hlt,hc,hr⟩:=wq2g hd
  have hm1:c∈its:=by
   have:=hc 0
   rw[List.getD,List.getElem?_eq_getElem hlt]at this
   rw[←this];exact List.getElem_mem _
  rw[wq2s,wq5d,dec_t (by omega),cond_true,inb_t (by omega) (by omega),cond_true,wq4,hc]
  obtain⟨b',e⟩:=hB R d pre w z c dom up a (fun y16 y17 y18 y19 y20=>cond (fits a.length (@List.length (@Kd.T kI) [y20]) 8) (wq2s k (wq16 k) (FR_config_reader_branch k) m y16 y17 y18 y19 dom up (9-(g:Int)) (a++[y20]) its (its.length:Int) (IntKind.i64.wrap ((i:Int)+1)) K E) none) E (hj c hm1) (by omega) ha
  rw[e,foldR]
  cases hb:wqhl g nd z dom up pre.length c a w with
  |er f=>exact⟨b',rfl⟩
  |ok p =>
   obtain⟨h1,b,l,h2⟩:=wq1d7 hb
   obtain⟨q,w'⟩:=p
   dsimp only at h1 h2
   subst h1 h2
   simp only[Rz.run,Rz.bind]
   have hf:fits a.length (@List.length (@Kd.T kI) [((pre.length+w.length:Nat):Int)]) 8=true:=fits_a (by omega) 8 (by decide)
   rw[hf,cond_true,wq15 (by omega) (by omega),show(i:Int)+1=((i+1:Nat):Int) by omega]
   exact wq16u hB d pre z dom up its hi hj K E s (i+1) m _ _ hr (by omega) (by simp at hm;omega) (by simp;omega) (wq1ey ha)
theorem wq1br{k g:Nat}(D:Dk k nd)(hB:BrOK nd g k): LstOK nd g (k+1):=by
 intro R d pre z n dom up K E h
 have hk:=D.hk
 rw[wq16]
 unfold wq8a
 rw[D.sitems h]
 unfold listR
 cases hi:itemsR nd n kwDesc with
 |er f=>exact⟨_,rfl⟩
 |ok its =>
  obtain⟨i1,i2⟩:=wq1bq D h hi
  have e:=wq16u hB d pre z dom up its i1 i2 K E its 0 k [] [] rfl (Nat.zero_le _) (by omega) rfl (wq1fv _)
  rw[List.append_nil]at e
  exact e
theorem lst_ok(hn:nd.length≤4000)(ho:∀ x∈nd,okD x)(hc:checkS nd=true): ∀(g k:Nat),6002+2*g<k→g≤8→LstOK nd g k
 |g,0,h,_=>by omega
 |0,1,h,_=>by omega
 |0,k+2,h,_=>wq1br ⟨by omega,hn,ho,hc⟩ (br_0 ⟨by omega,hn,ho,hc⟩)
 |g+1,1,h,_=>by omega
 |g+1,k+2,h,hg=>wq1br ⟨by omega,hn,ho,hc⟩ (wq1fy ⟨by omega,hn,ho,hc⟩ (by omega) (lst_ok hn ho hc g k (by omega) (by omega)))
end
end Go.Proofs.YtabkhphoacmcdaaGreatDoor.Pvm
namespace Go.Proofs.YtabkhphoacmcdaaGreatDoor.Pvm
open Go
theorem wq131{R:Type}(k:Nat)(d:Dm)(hl:d.length≤4000)(s:List UInt8)(K:List UInt8→Int→Option R): ∀(r:Dm) (i m:Nat),d.drop i=r→i≤d.length→r.length<m →
 ∃ j:Int,decide (j≥0)=r.any (fun x=>x.1 == s)∧wqo k m s d (d.length:Int) (i:Int) K=K s j
 |r,i,0,_,_,h=>by omega
 |[],i,m+1,hd,hi,hm=>by
  have:=wq4j hd
  refine⟨-1,rfl,?_⟩
  rw[wqo,wq23,dec_f (by omega)];rfl
 |c::r,i,m+1,hd,hi,hm=>by
  obtain⟨hlt,hc,hr⟩:=wq2g hd
  rw[wqo,wq23,dec_t (by omega),cond_true,inb_t (by omega) (by omega),cond_true,wq4,hc]
  unfold wq5z wqbw
  rw[List.any_cons]
  cases c.1 == s with
  |true=>exact⟨(i:Int),by rw[Bool.true_or];exact dec_t (by omega),rfl⟩
  |false =>
   dsimp only
   rw[Bool.false_or,cond_false,wq15 (by omega) (by omega),show(i:Int)+1=((i+1:Nat):Int) by omega]
   exact wq131 k d hl s K r (i+1) m hr (by omega) (by simp at hm;omega)
theorem wq1ez{R:Type}(k:Nat)(hk:5000<k)(d:Dm)(hl:d.length≤4000)(s:List UInt8)(K:List UInt8→Bool→Option R): wq11 k d s K=K s (d.any fun x=>x.1 == s):=by
 unfold wq11 wq3l wq2a wq31
 obtain⟨j,e1,e2⟩:=wq131 k d hl s (fun y5 y6=>K y5 (decide (y6≥0))) d 0 k rfl (Nat.zero_le _) (by omega)
 rw[←e1]
 exact e2
theorem wq1f0(d:Dm)(x y:List UInt8×List Int): (d++[x]).set d.length y=d++[y]:=by simp
theorem wq1f1(d:Dm)(x z:List UInt8×List Int): (d++[x]).getD d.length z=x:=by simp[List.getD]
section
variable {nd:List Nd}
theorem domP{k:Nat}(D:Dk k nd)(hL:LstOK nd 8 k){R:Type}(d:Dm)(b:List Br)(z:Nat)(n:Int)(h:InD nd n)(hd:d.length<16)(K:List Nd→Dm→List Br→Nat→Option R)(E:List Nd→Dm→List Br→Nat→Int→Int→Option R):
 ∃ d' b',wq2f k nd d b z n K E=(domR nd z d b.length n).run (fun p=>K nd (d++[p.1]) (b++p.2) z) (E nd d' b' z):=by
 have hk:=D.hk
 unfold wq2f wq9a domR
 rw[D.sknownk h _ (by decide)]
 cases knownR nd n [wqnl,kwDesc]with
 |er f=>exact⟨_,_,rfl⟩
 |ok _ =>
  simp only[Rz.run,Rz.bind]
  rw[D.smust h]
  cases hm:mustR nd n wqnl with
  |er f=>exact⟨_,_,rfl⟩
  |ok j =>
   have hj:=wq16t D h hm
   simp only[Rz.run]
   rw[D.snamek hj]
   cases nameR nd j with
   |er f=>exact⟨_,_,rfl⟩
   |ok s =>
    simp only[Rz.run]
    rw[wq1ez k (by omega) d (by omega)]
    cases d.any (fun x=>x.1 == s)with
    |true =>
     refine⟨d,b,?_⟩
     simp only[cond_true]
     exact D.sfault hj 7 (by decide) _
    |false =>
     have hf:fits d.length (@List.length (List UInt8×List Int) [(s,([]:List Int))]) 40=true:=fits_a (by omega) 40 (by decide)
     have e0:IntKind.i64.wrap (((d++[(s,([]:List Int))]).length:Int)-1)=((d.length:Nat):Int):=by rw[wq15 (by simp<;>omega) (by simp<;>omega)];simp
     simp only[cond_false]
     obtain⟨b',e⟩:=hL R (d++[(s,[])]) b z n ((d.length:Nat):Int) (-1) (fun y16 y17 y18 y19 y20=>bif inb (IntKind.i64.wrap ((y17.length:Int)-1)) (y17.length:Int)then @SH Dm R (List.set y17 (IntKind.i64.wrap ((y17.length:Int)-1)).toNat ((y17.getD (IntKind.i64.wrap ((y17.length:Int)-1)).toNat (Kd.zero (.pr .str (.sl kI)))).1,y20)) (fun y21=>K y16 y21 y18 y19)else none) E h
     refine⟨d++[(s,[])],b',?_⟩
     rw[hf,cond_true,e0]
     refine Eq.trans e ?_
     cases listR 8 nd z ((d.length:Nat):Int) (-1) b.length n with
     |er f=>rfl
     |ok p =>
      show(bif inb (IntKind.i64.wrap (((d++[(s,([]:List Int))]).length:Int)-1)) ((d++[(s,([]:List Int))]).length:Int)then K nd (List.set (d++[(s,[])]) (IntKind.i64.wrap (((d++[(s,([]:List Int))]).length:Int)-1)).toNat (((d++[(s,[])]).getD (IntKind.i64.wrap (((d++[(s,([]:List Int))]).length:Int)-1)).toNat (Kd.zero (.pr .str (.sl kI)))).1,p.1)) (b++p.2) z else none)=K nd (d++[(s,p.1)]) (b++p.2) z
      rw[e0,inb_t (by omega) (by simp<;>omega),cond_true,wq4,wq1f1,wq1f0]
theorem wq16v{k:Nat}(D:Dk k nd)(hL:LstOK nd 8 k){R:Type}(z:Nat)(its:List Int)(hi:its.length≤4000)(hj:∀ j∈its,InD nd j)(K:List Nd→Dm→List Br→Nat→Option R)(E:List Nd→Dm→List Br→Nat→Int→Int→Option R): ∀(s:List Int) (i m:Nat) (d:Dm) (b:List Br),its.drop i=s→i≤its.length→s.length<m→d.length=i →
 ∃ d' b',wq2t k (@wqq k) (@wqn k) (@wq2r k) (@wqu k) (@wqk k) (@wq26 k) (@wqc k) (@wq2f k) m nd d b z its (its.length:Int) (i:Int) K E=(domsR nd z s d b).run (fun p=>K nd p.1 p.2 z) (E nd d' b' z)
 |s,i,0,_,_,_,_,h,_=>by omega
 |[],i,m+1,d,b,hd,hil,hm,hdl=>by
  have:=wq4j hd
  refine⟨d,b,?_⟩
  rw[wq2t,wq5e,dec_f (by omega)];rfl
 |c::s,i,m+1,d,b,hd,hil,hm,hdl=>by
  obtain⟨hlt,hc,hr⟩:=wq2g hd
  have hm1:c∈its:=by
   have:=hc 0
   rw[List.getD,List.getElem?_eq_getElem hlt]at this
   rw[←this];exact List.getElem_mem _
  rw[wq2t,wq5e,dec_t (by omega),cond_true,inb_t (by omega) (by omega),cond_true,wq4,hc,domsR]
  by_cases h16:16≤d.length
  ·rw[dec_t h16,dec_t (show(i:Int)≥16 by omega)]
   refine⟨d,b,?_⟩
   simp only[cond_true]
   exact D.sfault (hj c hm1) 9 (by decide) _
  ·rw[dec_f h16,dec_f (show ¬ (i:Int)≥16 by omega),cond_false,cond_false]
   obtain⟨d',b',e⟩:=domP D hL d b z c (hj c hm1) (by omega) (fun y12 y13 y14 y15=>wq2t k (@wqq k) (@wqn k) (@wq2r k) (@wqu k) (@wqk k) (@wq26 k) (@wqc k) (@wq2f k) m y12 y13 y14 y15 its (its.length:Int) (IntKind.i64.wrap ((i:Int)+1)) K E) E
   rw[e]
   cases domR nd z d b.length c with
   |er f=>exact⟨d',b',rfl⟩
   |ok p =>
    simp only[Rz.run,Rz.bind]
    rw[wq15 (by omega) (by omega),show(i:Int)+1=((i+1:Nat):Int) by omega]
    exact wq16v D hL z its hi hj K E s (i+1) m _ _ hr (by omega) (by simp at hm;omega) (by simp;omega)
def z08:Nat:=4605380978949069210
theorem rd_08:rdS [48,46,56]=some z08:=by decide +kernel
theorem in_0(hc:checkS nd=true): InD nd 0:=by
 unfold checkS at hc
 simp only[Bool.and_eq_true,decide_eq_true_eq]at hc
 exact⟨Int.le_refl _,by omega⟩
theorem rootP{k:Nat}(D:Dk k nd)(hL:LstOK nd 8 k){R:Type}(z:Nat)(K:List Nd→Dm→List Br→Nat→Option R)(E:List Nd→Dm→List Br→Nat→Int→Int→Option R):
 ∃ d' b' z1 z2,wq6k k nd [] [] z K E=(rootR nd z08).run (fun p=>K nd p.1 p.2 z1) (E nd d' b' z2):=by
 have hk:=D.hk
 have h:=in_0 D.hc
 unfold wq6k wq8d rootR
 rw[D.sknownk h _ (by decide)]
 cases knownR nd 0 [kwNear,wqdl]with
 |er f=>exact⟨_,_,0,_,rfl⟩
 |ok _ =>
  simp only[Rz.run,Rz.bind]
  rw[wqpc k _ (by decide) (by omega),rd_08]
  simp only[rdK]
  rw[D.sratio h]
  cases optR (findR nd 0 kwNear) z08 (ratR nd)with
  |er f=>exact⟨_,_,0,_,rfl⟩
  |ok z =>
   simp only[Rz.run]
   rw[D.smust h]
   cases mustR nd 0 wqdl with
   |er f=>exact⟨_,_,0,_,rfl⟩
   |ok _ =>
    simp only[Rz.run]
    rw[D.sitems h]
    cases hi:itemsR nd 0 wqdl with
    |er f=>exact⟨_,_,0,_,rfl⟩
    |ok its =>
     obtain⟨i1,i2⟩:=wq1bq D h hi
     obtain⟨d',b',e⟩:=wq16v D hL z its i1 i2 K E its 0 k [] [] rfl (Nat.zero_le _) (by omega) rfl
     exact⟨d',b',z,z,e⟩
def ofR(nd:List Nd): Rz (Dm×List Br):=bif checkS nd then rootR nd z08 else .er (11,0)
theorem wq15l{k:Nat}(hk:6100<k)(hn:nd.length≤4000)(ho:∀ x∈nd,okD x){R:Type}(K:Dm→List Br→Int→Int→Option R): wq9q k nd K=(ofR nd).run (fun p=>K p.1 p.2 0 0) (K [] []):=by
 unfold wq9q wqqj ofR
 rw[wq12y k nd hn ho (by omega)]
 cases hc:checkS nd with
 |false=>rfl
 |true =>
  have D:Dk k nd:=⟨by omega,hn,ho,hc⟩
  obtain⟨d',b',z1,z2,e⟩:=rootP D (lst_ok hn ho hc 8 k (by omega) (by omega)) 0 (fun y5 y6 y7 y8=>wqad k y6 y7 0 0 K) (fun y5 y6 y7 y8 y9 y10=>wqae k [] [] 0 0 y9 y10 K)
  refine Eq.trans e ?_
  cases rootR nd z08<;>rfl
end
end Go.Proofs.YtabkhphoacmcdaaGreatDoor.Pvm
namespace Go.Proofs.YtabkhphoacmcdaaGreatDoor.Pvm
open Go Go.Proofs
theorem at_A{n:Nat}(h1:1≤n)(hn:n≤520)(i:Nat)(h:i<5+2*n): ndAt (docA n) (i:Int)=(docA n)[i]? := by
 unfold ndAt inR
 rw[wq1e2 n h1 hn,wq15i,dec_t (by omega),cond_true,dec_t (by omega),wq4]
 rfl
def brA(i:Nat): Br:=(vA i,([],(true,(0,(-1,(false,(zRl,[])))))))
def brsA:Nat→List Br
 |0=>[]
 |i+1=>brsA i++[brA i]
def numA:Nat→List Int
 |0=>[]
 |i+1=>numA i++[(i:Int)]
theorem wqqz:∀ i,(brsA i).length=i
 |0=>rfl
 |i+1=>by rw[brsA,List.length_append,wqqz i];rfl
theorem wq1bs:∀(i:Nat) (x:Int),x∈numA i→∃ j:Nat,j<i∧x=(j:Int)
 |0,x,h=>by cases h
 |i+1,x,h=>by
  rw[numA]at h
  rcases List.mem_append.1 h with h|h
  ·obtain⟨j,h1,h2⟩:=wq1bs i x h
   exact⟨j,by omega,h2⟩
  ·exact⟨i,by omega,List.mem_singleton.1 h⟩
theorem wq1e4:∀(i j:Nat),j<i→(brsA i)[j]? = some (brA j)
 |0,j,h=>by omega
 |i+1,j,h=>by
  rw[brsA]
  by_cases hj:j<i
  ·rw[List.getElem?_append_left (by rw[wqqz];exact hj),wq1e4 i j hj]
  ·have:j=i:=by omega
   subst this
   rw[List.getElem?_append_right (by rw[wqqz];omega),wqqz,Nat.sub_self];rfl
theorem twin_A{i:Nat}(h:i<520): twinR 0 (numA i) (brsA i) (vA i) [] true=false:=by
 unfold twinR
 rw[List.any_eq_false]
 intro x hx
 obtain⟨j,h1,rfl⟩:=wq1bs i x hx
 rw[wq4,Nat.sub_zero,wq1e4 i j h1]
 dsimp only
 have hv:(vA j == vA i)=false:=by
  rw[beq_eq_false_iff_ne]
  intro e
  have:=vA_inj (by omega) h e
  omega
 unfold twinB brA
 dsimp only
 rw[hv,cond_false,cond_false]
 decide
section
variable {n:Nat} (h1:1≤n) (hn:n≤520)
include h1 hn
theorem nd_m{i:Nat}(h:i<n): ndAt (docA n) ((5+2*i:Nat):Int)=some (mNd i):=by
 rw[at_A h1 hn _ (by omega),(doc_at h).1]
theorem nd_x{i:Nat}(h:i<n): ndAt (docA n) ((6+2*i:Nat):Int)=some (xNd i):=by
 rw[at_A h1 hn _ (by omega),(doc_at h).2]
theorem wq1f2(z:Nat){i:Nat}(h:i<n)(h5:i<500): wqhl 8 (docA n) z 0 (-1) 0 ((5+2*i:Nat):Int) (numA i) (brsA i) = .ok ((i:Int),brsA (i+1)):=by
 have a:=nd_m h1 hn h
 have b:=nd_x h1 hn h
 have k0:knownR (docA n) ((5+2*i:Nat):Int) [kwKey,wqyh,kwRate,wq90,kwDesc] = .ok ():=by unfold knownR;rw[a];rfl
 have f1:findR (docA n) ((5+2*i:Nat):Int) kwKey=some ((6+2*i:Nat):Int):=by unfold findR;rw[a];rfl
 have f2:findR (docA n) ((5+2*i:Nat):Int) wqyh=none:=by unfold findR;rw[a];rfl
 have f3:findR (docA n) ((5+2*i:Nat):Int) kwRate=none:=by unfold findR;rw[a];rfl
 have f4:findR (docA n) ((5+2*i:Nat):Int) wq90=none:=by unfold findR;rw[a];rfl
 have f5:findR (docA n) ((5+2*i:Nat):Int) kwDesc=none:=by unfold findR;rw[a];rfl
 have m0:mustR (docA n) ((5+2*i:Nat):Int) kwKey = .ok ((6+2*i:Nat):Int):=by unfold mustR;rw[f1]
 have n0:nameR (docA n) ((6+2*i:Nat):Int) = .ok (vA i):=by
  unfold nameR
  rw[b]
  show tvR (bif nmB (vA i)then(vA i,0,0)else([],12,((i+4:Nat):Int)))=_
  rw[(fA (show i<520 by omega)).m];rfl
 have v0:valueR (docA n) ((5+2*i:Nat):Int) = .ok ([],true):=by unfold valueR;rw[f2];rfl
 have r0:rateR (docA n) z ((5+2*i:Nat):Int) = .ok (false,zRl):=by unfold rateR;rw[f3];rfl
 have i0:itemsR (docA n) ((5+2*i:Nat):Int) kwDesc = .ok []:=by unfold itemsR;rw[f5];rfl
 have t0:=twin_A (show i<520 by omega)
 rw[wqhl,wqqz,dec_f (by omega),cond_false,k0,m0]
 show((nameR (docA n) ((6+2*i:Nat):Int)).bind _)=_
 rw[n0,v0,r0,i0,f4]
 show(bif twinR 0 (numA i) (brsA i) (vA i) [] true then _ else _)=_
 rw[t0]
 show Rz.ok (((0+i:Nat):Int),brsA i++[brA i])=_
 rw[Nat.zero_add];rfl
theorem fold_A(z:Nat): ∀(m i:Nat),i+m=n→i≤500→foldR (wqhl 8 (docA n) z 0 (-1) 0) (kA i m) (numA i) (brsA i)=if n≤500 then .ok (numA n,brsA n)else .er (9,504)
 |0,i,h,h5=>by
  have:i=n:=by omega
  subst this
  rw[kA,foldR,if_pos h5]
 |m+1,i,h,h5=>by
  rw[kA,foldR]
  by_cases hi:i=500
  ·subst hi
   have a:=(doc_at (n:=n) (j:=500) (by omega)).1
   rw[wqhl,wqqz,dec_t (by omega),cond_true,if_neg (by omega)]
   unfold lineS
   rw[wq4,a]
   rfl
  ·rw[wq1f2 h1 hn z (by omega) (by omega)]
   show foldR _ (kA (i+1) m) (numA (i+1)) (brsA (i+1))=_
   exact fold_A z m (i+1) (by omega) (by omega)
theorem root_A(z:Nat): rootR (docA n) z=if n≤500 then .ok ([(mShop,numA n)],brsA n)else .er (9,504):=by
 have a0:ndAt (docA n) 0=some (3,1,[],false,[wqnk],[1]):=at_A h1 hn 0 (by omega)
 have a1:ndAt (docA n) 1=some (2,2,[],false,[],[2]):=at_A h1 hn 1 (by omega)
 have a2:ndAt (docA n) 2=some (3,2,[],false,[wqpe,mDesc],[3,4]):=at_A h1 hn 2 (by omega)
 have a3:ndAt (docA n) 3=some (1,2,mShop,false,[],[]):=at_A h1 hn 3 (by omega)
 have a4:ndAt (docA n) 4=some (2,4,[],false,[],kA 0 n):=at_A h1 hn 4 (by omega)
 have k0:knownR (docA n) 0 [kwNear,wqdl] = .ok ():=by unfold knownR;rw[a0];rfl
 have f1:findR (docA n) 0 kwNear=none:=by unfold findR;rw[a0];rfl
 have f2:findR (docA n) 0 wqdl=some 1:=by unfold findR;rw[a0];rfl
 have m0:mustR (docA n) 0 wqdl = .ok 1:=by unfold mustR;rw[f2]
 have n1:needR (docA n) 1 2 = .ok ():=by unfold needR;rw[a1];rfl
 have n4:needR (docA n) 4 2 = .ok ():=by unfold needR;rw[a4];rfl
 have q1:kidsR (docA n) 1=[2]:=by unfold kidsR;rw[a1]
 have q4:kidsR (docA n) 4=kA 0 n:=by unfold kidsR;rw[a4]
 have i0:itemsR (docA n) 0 wqdl = .ok [2]:=by
  unfold itemsR
  rw[f2]
  show(needR (docA n) 1 2).bind (fun _ => .ok (kidsR (docA n) 1))=_
  rw[n1,q1];rfl
 have k2:knownR (docA n) 2 [wqnl,kwDesc] = .ok ():=by unfold knownR;rw[a2];rfl
 have f3:findR (docA n) 2 wqnl=some 3:=by unfold findR;rw[a2];rfl
 have f4:findR (docA n) 2 kwDesc=some 4:=by unfold findR;rw[a2];rfl
 have m2:mustR (docA n) 2 wqnl = .ok 3:=by unfold mustR;rw[f3]
 have s3:nameR (docA n) 3 = .ok mShop:=by unfold nameR;rw[a3];kernel_rfl
 have i2:itemsR (docA n) 2 kwDesc = .ok (kA 0 n):=by
  unfold itemsR
  rw[f4]
  show(needR (docA n) 4 2).bind (fun _ => .ok (kidsR (docA n) 4))=_
  rw[n4,q4];rfl
 have l2:listR 8 (docA n) z 0 (-1) 0 2=if n≤500 then .ok (numA n,brsA n)else .er (9,504):=by
  unfold listR
  rw[i2]
  exact fold_A h1 hn z n 0 (by omega) (by omega)
 have d2:domR (docA n) z [] 0 2=if n≤500 then .ok ((mShop,numA n),brsA n)else .er (9,504):=by
  unfold domR
  rw[k2,m2]
  show(nameR (docA n) 3).bind _=_
  rw[s3]
  show(listR 8 (docA n) z 0 (-1) 0 2).bind _=_
  rw[l2]
  split<;>rfl
 unfold rootR
 rw[k0,f1,m0,i0]
 show(domR (docA n) z [] 0 2).bind _=_
 rw[d2]
 split<;>rfl
end
theorem wq1fz{n:Nat}(h1:1≤n)(hn:n≤520): ofR (docA n)=if n≤500 then .ok ([(mShop,numA n)],brsA n)else .er (9,504):=by
 unfold ofR
 rw[wq1e2 n h1 hn,cond_true,root_A h1 hn]
end Go.Proofs.YtabkhphoacmcdaaGreatDoor.Pvm
namespace Go.Proofs.YtabkhphoacmcdaaGreatDoor.Pvm
open Go Go.Proofs
theorem cm_1:wqe 2000 1 true (fun b=>some b)=some true:=by kernel_rfl
theorem cm_2:wqe 2000 2 true (fun b=>some b)=some true:=by kernel_rfl
theorem cm_3:wqe 2000 3 true (fun b=>some b)=some true:=by kernel_rfl
theorem cm_4:wqe 2000 4 true (fun b=>some b)=some true:=by kernel_rfl
theorem cm_5:wqe 2000 5 true (fun b=>some b)=some true:=by kernel_rfl
theorem cm_6:wqe 2000 6 true (fun b=>some b)=some true:=by kernel_rfl
theorem cm_7:wqe 2000 7 true (fun b=>some b)=some true:=by kernel_rfl
theorem cm_8:wqe 2000 8 true (fun b=>some b)=some true:=by kernel_rfl
theorem cm_9:wqe 2000 9 true (fun b=>some b)=some true:=by kernel_rfl
theorem cm_10:wqe 2000 10 true (fun b=>some b)=some true:=by kernel_rfl
theorem cm_11:wqe 2000 11 true (fun b=>some b)=some true:=by kernel_rfl
theorem cm_12:wqe 2000 12 true (fun b=>some b)=some true:=by kernel_rfl
theorem cm_13:wqe 2000 13 true (fun b=>some b)=some true:=by kernel_rfl
theorem cm_14:wqe 2000 14 true (fun b=>some b)=some true:=by kernel_rfl
theorem cm_15:wqe 2000 15 true (fun b=>some b)=some true:=by kernel_rfl
theorem cm_16:wqe 2000 16 true (fun b=>some b)=some true:=by kernel_rfl
theorem cm_17:wqe 2000 17 true (fun b=>some b)=some true:=by kernel_rfl
theorem cm_18:wqe 2000 18 true (fun b=>some b)=some true:=by kernel_rfl
theorem cm_19:wqe 2000 19 true (fun b=>some b)=some true:=by kernel_rfl
theorem cm_20:wqe 2000 20 true (fun b=>some b)=some true:=by kernel_rfl
theorem cm_21:wqe 2000 21 true (fun b=>some b)=some true:=by kernel_rfl
theorem cm_22:wqe 2000 22 true (fun b=>some b)=some true:=by kernel_rfl
theorem cm_23:wqe 2000 23 true (fun b=>some b)=some true:=by kernel_rfl
theorem cm_24:wqe 2000 24 true (fun b=>some b)=some true:=by kernel_rfl
theorem cm_25:wqe 2000 25 true (fun b=>some b)=some true:=by kernel_rfl
theorem cm_26:wqe 2000 26 true (fun b=>some b)=some true:=by kernel_rfl
theorem cm_27:wqe 2000 27 true (fun b=>some b)=some true:=by kernel_rfl
theorem cm_28:wqe 2000 28 true (fun b=>some b)=some true:=by kernel_rfl
theorem cm_29:wqe 2000 29 true (fun b=>some b)=some true:=by kernel_rfl
theorem cm_30:wqe 2000 30 true (fun b=>some b)=some true:=by kernel_rfl
end Go.Proofs.YtabkhphoacmcdaaGreatDoor.Pvm
namespace Go.Proofs.YtabkhphoacmcdaaGreatDoor.Pvm
open Go
end Go.Proofs.YtabkhphoacmcdaaGreatDoor.Pvm
namespace Go.Proofs.YtabkhphoacmcdaaGreatDoor.Pvm
open Go Go.Proofs
end Go.Proofs.YtabkhphoacmcdaaGreatDoor.Pvm
namespace Go.Proofs.YtabkhphoacmcdaaGreatDoor.Pvm
open Go
theorem wq16w{a b:List UInt8}(h:a.length+b.length≤100000000): joins a b=true:=dec_t (by simp only[maxN];omega)
section
variable {R:Type} (k:Nat) (hk:5000<k)
include hk
end
end Go.Proofs.YtabkhphoacmcdaaGreatDoor.Pvm
namespace Go.Proofs.YtabkhphoacmcdaaGreatDoor.Pvm
open Go
theorem wq1f3(k:Nat){R:Type}(n:Nat)(hn:n≤bigM)(K:Int→Option R): wqhh k (n:Int) K=K (n:Int):=by
 have hM:bigM=4611686018427387904:=rfl
 unfold wqhh wqyb
 first
  |rw[dec_f (by omega),cond_false,dec_f (by omega),cond_false]
  |(simp only[cond_true,cond_false];congr 1;split<;>split<;>omega)
theorem ofb1(a:Nat): wq4a [IntKind.u8.wrap (IntKind.i64.wrap (48+((a:Int).tmod 10)))]=[UInt8.ofNat (48+a % 10)]:=by
 rw[wq15d]
 show[UInt8.ofNat (UInt8.ofNat (48+a % 10)).toNat]=_
 rw[UInt8.ofNat_toNat]
theorem wq16x(k:Nat){R:Type}(K:List UInt8→Option R): ∀(f a m:Nat) (acc:List UInt8),a<10 ^ f→f<m→acc.length+f≤100→a≤bigM→wq53 k m (a:Int) acc K=K (decL f a acc)
 |f,a,0,acc,_,h,_,_=>by omega
 |0,a,m+1,acc,ha,hm,hl,hb=>by
  have:a=0:=by simpa using ha
  subst this
  rw[wq53,wq9w,dec_f (by omega),cond_false];rfl
 |f+1,a,m+1,acc,ha,hm,hl,hb=>by
  have hM:bigM=4611686018427387904:=rfl
  rw[wq53,wq9w,decL]
  by_cases h0:a=0
  ·rw[if_pos h0,dec_f (by omega),cond_false]
  ·have d1:Int.tdiv (a:Int) 10=((a / 10:Nat):Int):=rfl
   rw[if_neg h0,dec_t (by omega),cond_true,ofb1,wq16w (by simp;omega),cond_true,d1,wq15 (x:=((a / 10:Nat):Int)) (by omega) (by omega)]
   exact wq16x k K f (a / 10) m _ (by rw[Nat.pow_succ]at ha;omega) (by omega) (by simp;omega) (by omega)
theorem wq1bt(k:Nat){R:Type}(n:Nat)(hn:n≤bigM)(hk:40<k)(K:List UInt8→Option R): wqbi k (n:Int) K=K (decS n):=by
 have hM:bigM=4611686018427387904:=rfl
 unfold wqbi wqkn
 rw[wq1f3 k n hn]
 by_cases h0:n=0
 ·subst h0;rfl
 ·have e:((n:Int) == 0)=false:=by rw[beq_eq_false_iff_ne];omega
  have h26:(10:Nat) ^ 26=100000000000000000000000000:=by decide
  rw[e,cond_false]
  have:=wq16x k K 26 n k [] (by omega) (by omega) (by simp) hn
  refine Eq.trans this ?_
  unfold decS
  rw[decL,if_neg h0]
section
variable {R:Type} (k:Nat) (hk:5000<k)
include hk
end
end Go.Proofs.YtabkhphoacmcdaaGreatDoor.Pvm
namespace Go.Proofs.YtabkhphoacmcdaaGreatDoor.Pvm
open Go Go.Proofs
theorem awkY17(k:Nat){R:Type}(K:Bool→Option R): wq9e (k+300) K=K true:=by kernel_rfl
theorem wq1g0(k:Nat)(hk:200000<k){R:Type}{n:Nat}(h1:1≤n)(hn:n≤520)(K:Dm→List Br→Int→Int→Option R): wq7g k (wq35 (headT++txA 0 n)) K=if n≤500 then K [(mShop,numA n)] (brsA n) 0 0 else K [] [] 9 504:=by
 unfold wq7g wqoo
 have hl:=len_A n 0 (by omega)
 have hd:(docA n).length≤4000:=by rw[wq15i];omega
 have ht:(headT++txA 0 n).length≤16384:=by
  rw[List.length_append,show headT.length=43 from rfl];omega
 have hz:docS (headR++rowsA 0 n,(0:Int),(0:Int)) = .inr (docA n):=by
  unfold docS
  dsimp only
  rw[show((0:Int) != 0)=false from rfl,cond_false,wq1ex n hn]
  dsimp only
  rw[show((0:Int) != 0)=false from rfl,cond_false,of_A n h1 hn]
 rw[wq159 k _ ht hk,head_A k (by omega) n hn,hz]
 show(bif ((0:Int) != 0)then K [] [] 0 0 else wq9q k (docA n) K)=_
 rw[show((0:Int) != 0)=false from rfl,cond_false,wq15l (by omega) hd (ok_A n hn) K,wq1fz h1 hn]
 by_cases h:n≤500
 ·rw[if_pos h,if_pos h];rfl
 ·rw[if_neg h,if_neg h];rfl
theorem wq1e5:∀(i j:Nat),txA j (i+1)=txA j i++(pA (j+i)++[10])
 |0,j=>rfl
 |i+1,j=>by
  rw[txA,wq1e5 i (j+1),txA,show j+1+i=j+(i+1) by omega]
  simp only[List.append_assoc,List.cons_append]
theorem wq16y{R:Type}(k:Nat)(hk:200000<k)(K:Bool→Option R)(hA:wq9e k K=K true){n:Nat}(h1:1≤n)(hn:n≤520): ∀(m i f:Nat),i+m=n→m<f→wq3j k f (n:Int) false (headT++txA 0 i) 3 500 (i:Int) K=K true
 |m,i,0,_,h=>by omega
 |0,i,f+1,h,hf=>by
  have:i=n:=by omega
  subst this
  rw[wq3j]
  unfold wq6u
  rw[dec_f (by omega),cond_false,wq1g0 k hk h1 hn]
  by_cases h5:i≤500
  ·rw[if_pos h5,dec_f (show ¬ (i:Int)>500 by omega),cond_false]
   show cond ((true == decide ((i:Int)≤500)) == true) _ _=_
   rw[dec_t (show(i:Int)≤500 by omega)]
   exact hA
  ·rw[if_neg h5,dec_t (show(i:Int)>500 by omega),cond_true]
   have e:(decide ((([]:Dm).length:Int)>0) == decide ((i:Int)≤500))=true:=by rw[dec_f (show ¬ (i:Int)≤500 by omega)];rfl
   have e2:((504:Int) == IntKind.i64.wrap (IntKind.i64.wrap ((3:Int)+500)+1))=true:=by decide
   rw[e2,e]
   exact hA
 |m+1,i,f+1,h,hf=>by
  have hl:=len_A i 0 (by omega)
  have hi:=len_A (i+1) 0 (by omega)
  have e0:(((headT++txA 0 i)++[32,32,32,32,32,32,45,32,107,101,121,58,32,107])++decS i)++[10]=headT++txA 0 (i+1):=by
   rw[wq1e5 i 0,Nat.zero_add]
   have:pA i=[32,32,32,32,32,32,45,32,107,101,121,58,32,107]++decS i:=rfl
   rw[this]
   simp only[List.append_assoc]
  have ht:headT.length=43:=rfl
  have hz:=(fA (show i<520 by omega)).z
  have hz2:(tA i).length=(decS i).length+8:=rfl
  rw[wq3j]
  unfold wq6u
  rw[dec_t (show(i:Int)<(n:Int) by omega),cond_true,cond_false,wq16w (by simp only[List.length_append,List.length_cons,List.length_nil];omega),cond_true,wq1bt k i (by unfold bigM;omega) (by omega),wq16w (by simp only[List.length_append,List.length_cons,List.length_nil];omega),cond_true,wq16w (by simp only[List.length_append,List.length_cons,List.length_nil];omega),cond_true,e0,wq15 (by omega) (by omega),show(i:Int)+1=((i+1:Nat):Int) by omega]
  exact wq16y k hk K hA h1 hn m (i+1) f (by omega) (by omega)
theorem wq106(x:Int)(d:Bool): ∃ k,wqe k x d (fun b=>some b)=some true:=by
 cases d with
 |false =>
  obtain⟨k,hk⟩:∃ k:Nat,k=300000:=⟨_,rfl⟩
  refine⟨k+300,?_⟩
  have hA:=awkY17 k (fun b=>some b)
  unfold wqe wq9x
  by_cases h:x<1∨x>520
  ·have e:(cond (cond (decide (x<1)) true (decide (x>520))) true (cond false (decide (x>30)) false))=true:=by
    have:cond (decide (x<1)) true (decide (x>520))=true:=by rw[Bool.cond_true_left];simpa using h
    rw[this];rfl
   rw[e,cond_true,hA]
  ·have e:(cond (cond (decide (x<1)) true (decide (x>520))) true (cond false (decide (x>30)) false))=false:=by
    rw[dec_f (by omega),dec_f (by omega)];rfl
   obtain⟨n,rfl⟩:∃ n:Nat,x=n:=⟨x.toNat,by omega⟩
   rw[e,cond_false,Bool.not_false,cond_true]
   have:=wq16y (k+300) (by omega) (fun b=>some b) hA (n:=n) (by omega) (by omega) n 0 (k+300) (by omega) (by omega)
   exact this
 |true =>
  by_cases h:x<1∨x>30
  ·obtain⟨k,hk⟩:∃ k:Nat,k=300000:=⟨_,rfl⟩
   refine⟨k+300,?_⟩
   have hA:=awkY17 k (fun b=>some b)
   unfold wqe wq9x
   have e:(cond (cond (decide (x<1)) true (decide (x>520))) true (cond true (decide (x>30)) false))=true:=by
    by_cases h1:x<1
    ·rw[dec_t h1];rfl
    ·rw[dec_t (show x>30 by omega)]
     cases(cond (decide (x<1)) true (decide (x>520)))<;>rfl
   rw[e,cond_true,hA]
  ·obtain⟨n,rfl⟩:∃ n:Nat,x=n:=⟨x.toNat,by omega⟩
   have hn:1≤n∧n<31:=by omega
   refine⟨2000,?_⟩
   match n,hn with
   |1,_=>exact cm_1
   |2,_=>exact cm_2
   |3,_=>exact cm_3
   |4,_=>exact cm_4
   |5,_=>exact cm_5
   |6,_=>exact cm_6
   |7,_=>exact cm_7
   |8,_=>exact cm_8
   |9,_=>exact cm_9
   |10,_=>exact cm_10
   |11,_=>exact cm_11
   |12,_=>exact cm_12
   |13,_=>exact cm_13
   |14,_=>exact cm_14
   |15,_=>exact cm_15
   |16,_=>exact cm_16
   |17,_=>exact cm_17
   |18,_=>exact cm_18
   |19,_=>exact cm_19
   |20,_=>exact cm_20
   |21,_=>exact cm_21
   |22,_=>exact cm_22
   |23,_=>exact cm_23
   |24,_=>exact cm_24
   |25,_=>exact cm_25
   |26,_=>exact cm_26
   |27,_=>exact cm_27
   |28,_=>exact cm_28
   |29,_=>exact cm_29
   |30,_=>exact cm_30
   |n+31,h=>exact absurd h.2 (by omega)
theorem wqxe(x:Int)(d:Bool)(_:Wf (.int .i64) x)(_:Wf .bool d): ∃ k,wqe k x d (fun b=>some b)=some true:=wq106 x d
end Go.Proofs.YtabkhphoacmcdaaGreatDoor.Pvm
namespace Go.Proofs.YtabkhphoacmcdaaGreatDoor.configMany
open Go Go.Proofs Go.ChangeShapes Go.WideShapes Go.ChangeAt Go.RowKit Go.Proofs.YtabkhphoacmcdaaGreatDoor.Pvm
theorem own:ownKnob Tryz.prog.godebug=none:=by kernel_rfl
theorem laidOut:laidOutB Tryz.prog=true:=by kernel_rfl
set_option maxRecDepth 100000 in
theorem lifted(os:Os)(started:os.Started)(H:Type)(enc:TypeId×Value→H):
 ReturnsInHanded {} Tryz.checked os 7 .any (fun w args=>(Rows.configManySpec.pre enc Tryz.prog Tryz.f7 Rows.configManyRow.domain false w args∧laidMetH Tryz.prog Rows.configManyRow.laid w)∧sizedMet enc Tryz.prog Tryz.f7 (OpenSpec.ofChange Rows.configManySpec) false w args) (Rows.configManySpec.post enc Tryz.prog Tryz.f7 false true false false):=by
 refine returnsInHanded_of_change_and (C:=Tryz.checked) (X:=fun w _=>laidMetH Tryz.prog Rows.configManyRow.laid w) (fun _ _ _ hh h=>h.of_heap hh) own started (by kernel_rfl) Tryz.func7
  (ChangeSpec.witness_shaped (enc:=enc) (C:=Tryz.checked) (os:=os) (X:=fun w _=>laidMetH Tryz.prog Rows.configManyRow.laid w) false (World.laidAll Tryz.prog os Rows.configManyRow.laid) #[.int .i64 0,.bool false] 8 (World.laidAll_os _ _ _)
   (World.shaped_of_ZipB (by kernel_rfl) (by kernel_rfl)) (by kernel_rfl) (by kernel_rfl) (by kernel_rfl)
   (by rw[MakeChecks.laidMetH_plain _ _ _ (by kernel_rfl)];exact laidMet_laidAll _ (by kernel_rfl) (by kernel_rfl))) ?_
 intro W base args ds gs before hval0 hW hcnd hsz0 hL _
 have hsz:(DataW.weightsEach Tryz.prog (Tryz.f7.params.toList++Rows.configManySpec.plain.varTypes Tryz.prog) (ds++gs)).all (· ≤ reachBytes)=true:=hsz0
 have hval:∀(j:Nat) t v,Tryz.f7.params[j]? = some t→args[j]? = some v→Value.okWide Tryz.prog W .any base t v:=hval0
 have hW':=hW
 obtain⟨p,q,hA0,hV,rfl,hfz,hnd⟩:=hW
 have hA:DataW.TrodAll enc Tryz.prog W 0 (fun _=>true) true Tryz.f7.params.toList args.toList ds p:=hA0
 rw[Tryz.params7]at hA hval hsz
 obtain⟨v0,vs0,d0,ds0,p0,q0,hargs,rfl,rfl,h0,r0⟩:=trodAll_cons hA
 obtain⟨v1,vs1,d1,ds1,p1,q1,rfl,rfl,rfl,h1,r1⟩:=trodAll_cons r0
 obtain⟨rfl,rfl,rfl⟩:=trodAll_nil r1
 obtain rfl:args = #[v0,v1]:=by cases args;simp_all
 obtain⟨rfl,rfl⟩:=trodVars_none hV
 have hws:=wq19y (P:=Tryz.prog) hsz
 have k0:=h0
 have lt0:∀ x∈p0,x.block<W.heap.size:=by obtain⟨m,hm⟩:=k0;exact DataW.trod_lt m _ _ _ hm
 obtain⟨x0,wf0,rv0⟩:=wq19x tyT_ok (n:=9) (K:=(.int .i64)) (by kernel_rfl) (by kernel_rfl) (hval 0 3 v0 rfl rfl) h0 (hws 0 3 d0 rfl rfl) (h:=mkH []) (G:=G0) (fun _=>rfl) (fun _ h=>h)
 have k1:=h1
 have lt1:∀ x∈p1,x.block<W.heap.size:=by obtain⟨m,hm⟩:=k1;exact DataW.trod_lt m _ _ _ hm
 obtain⟨x1,wf1,rv1⟩:=wq19x tyT_ok (n:=9) (K := .bool) (by kernel_rfl) (by kernel_rfl) (hval 1 4 v1 rfl rfl) h1 (hws 1 4 d1 rfl rfl) (h:=mkH []) (G:=G0) (fun _=>rfl) (fun _ h=>h)
 obtain⟨k,hk⟩:=wqxe x0 x1 wf0 wf1
 have hrun:h_law17_ConfigMany.run (@wqe k) [.v (.int .i64) x0,.v .bool x1] [] lawK=some true:=(show _=wqe k x0 x1 (fun b=>some b) by kernel_rfl).trans hk
 refine(wq169 (fn:=Tryz.f7) (c:=Tryz.f7.body.getD .skip) (by kernel_rfl) (by kernel_rfl) (by kernel_rfl) (wqqv k _ _ _ _ _ hrun) (vals:=[v0,v1]) ⟨v0,_,rfl,rv0,⟨v1,_,rfl,rv1,rfl⟩⟩).mono fun e W' ⟨he,bel⟩ => ?_
 subst he
 exact⟨_,rfl,_,_,_,[],_,[],hW',trodAll_mk1 (shut_bool Tryz.underlying4 _),(trodAll_cons_mk (Below.trod laidOut (by kernel_rfl) (of_decide_eq_true (by kernel_rfl)) k0 bel lt0) (trodAll_cons_mk (Below.trod laidOut (by kernel_rfl) (of_decide_eq_true (by kernel_rfl)) k1 bel lt1) trodAll_mk0)),rfl,bel.frame _,fun h=>by cases h⟩
theorem over:Rows.configManyRow.holds Tryz.pinned (OpenSpec.ofChange Rows.configManySpec) :=
 OpenClaim.holds_of_wide 7 Tryz.f7 rfl rfl rfl rfl rfl rfl rfl ⟨rfl,rfl,rfl,rfl,rfl⟩ rfl rfl rfl rfl rfl (by kernel_rfl) Tryz.func7 (by kernel_rfl)
  (of_decide_eq_true (by kernel_rfl)) (by unfold Func.isWrapper;first|(rw[if_pos (by decide +kernel)];kernel_rfl)|(rw[if_neg (by decide +kernel)];exact⟨rfl,rfl⟩))
  (fun os started H enc _=>lifted os started H enc)
theorem tied:Rows.ConfigManyCardSaid :=
 Claim7.holds_tied_plain_at .later [] [.data,.pinned] true (true,"c61b158f2341520057692774128471b7c7a277b548e973e80533808263959f4a") true over (fun _ h=>by cases h) (by kernel_rfl) (fun _ h=>by cases h) configMany_row_tie rfl ⟨rfl,rfl⟩ (by kernel_rfl) rfl
  (fun f fn hf hfn=>by
   obtain rfl:f=7:=Option.some.inj ((show Tryz.prog.funcNamed Rows.configManyRow.func=some 7 by kernel_rfl).symm.trans hf) |>.symm
   obtain rfl:fn=Tryz.f7:=(Option.some.inj (Tryz.func7.symm.trans hfn)).symm
   exact⟨by kernel_rfl,fun j t ht=>by
    rw[Tryz.params7]at ht
    have hm:t∈[3,4]:=by simpa using Array.mem_of_getElem? ht
    have hall:([3,4].all fun u => !Tryz.prog.wantsStandIn u)=true:=by kernel_rfl
    exact(show Tryz.prog.wantsStandIn t=false by simpa using List.all_eq_true.1 hall t hm)⟩)
  (by kernel_rfl)
#print axioms tied
end Go.Proofs.YtabkhphoacmcdaaGreatDoor.configMany
namespace Go.Proofs.YtabkhphoacmcdaaGreatDoor
theorem configMany_holds:Rows.ConfigManyCardSaid:=configMany.tied
end Go.Proofs.YtabkhphoacmcdaaGreatDoor
end
