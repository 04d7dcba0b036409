/- The Go function ConfigParses returns true for every slice of bytes. -/
import Derived.KernelRfl
import Derived.Test.YtabkhphoacmcdaaGreatDoorCards
import Derived.Test.YtabkhphoacmcdaaGreatDoorTie
import Derived.LaidMore
import Derived.Lay
import Derived.SevenTiedAt
import Derived.Stop.Joined
import Derived.Test.YtabkhphoacmcdaaGreatDoorRows
import Derived.Test.YtabkhphoacmcdaaGreatDoorConfigParsesM0
import Derived.Test.YtabkhphoacmcdaaGreatDoorConfigParsesM1
import Derived.Test.YtabkhphoacmcdaaGreatDoorConfigParsesM2
import Derived.Test.YtabkhphoacmcdaaGreatDoorConfigParsesM3
import Derived.Test.YtabkhphoacmcdaaGreatDoorConfigParsesM4
import Derived.Test.YtabkhphoacmcdaaGreatDoorConfigParsesM5
set_option linter.unusedVariables false
set_option linter.unusedSimpArgs false
set_option linter.unusedSectionVars false
noncomputable section
namespace Go.Proofs.YtabkhphoacmcdaaGreatDoor.Pvm
section
open Go
abbrev Dm:=List (List UInt8×List Int)
abbrev Br:=List UInt8×(List UInt8×(Bool×(Int×(Int×(Bool×((List UInt8×(Int×(Int×(Nat×(Bool×Bool)))))×List Int))))))
theorem QK{R:Type}(k:Nat)(nd:List Nd)(w:Nat)(d:Dm)(b:List Br)(a c:Int)(K:List Nd->Nat->Dm->List Br->Int->Int->Bool->Option R): JY k nd w d b 0 0 a c K=K nd w d b a c (a != 0):=rfl
theorem UX{T:Type}{r:Rz T}{f:Int×Int}(h:Nz r)(e:r = .er f): (f.1 != 0)=true:=by rw[e]at h;simpa [Nz]using h
theorem Z5:((0:Int) != 0)=false:=rfl
section
variable {R:Type} {k:Nat} {nd:List Nd} (D:Dk k nd) {n:Int} (h:InD nd n)
include D h
theorem Dk.rline(w:Nat)(d:Dm)(b:List Br)(kd:Int)(hk:(kd != 0)=true)(K:List Nd->Nat->Dm->List Br->Int->Int->Bool->Option R): Ql k nd w d b 0 0 n kd K=K nd w d b kd (QT nd n) true:=by
 obtain⟨l1,l2⟩:=D.line h
 unfold Ql Joc
 rw[l1,cond_true,QK,l2,hk]
theorem Dk.rnameo(w:Nat)(d:Dm)(b:List Br)(u l:Int)(x:Nat)(c:Bool)(K:List Nd->Nat->Dm->List Br->Int->Int->List UInt8->Int->Int->Nat->Bool->Bool->Option R):
 ∃ z:Rl,Q6 k nd n J08 (fun y1 y2=>bif y2 then U0 k nd y1 (fun s e f=>JY k nd w d b 0 0 e f (fun y3 y4 y5 y6 y7 y8 bad=>bif bad then K y3 y4 y5 y6 y7 y8 [] u l x false c else K y3 y4 y5 y6 y7 y8 s u l x false c))else K nd w d b 0 0 [] u l x false c)=(J0a nd n u l x c).out z (fun r e f=>K nd w d b e f r.1 r.2.1 r.2.2.1 r.2.2.2.1 r.2.2.2.2.1 r.2.2.2.2.2):=by
 unfold J0a
 rw[D.rfind h]
 cases hf:Jw nd n J08 with
 |none=>exact⟨([],0,0,0,false,false),rfl⟩
 |some j =>
  simp only[cond_true,Qx]
  rw[D.rname (D.find h hf)]
  cases hr:Zp nd j with
  |ok s=>exact⟨([],0,0,0,false,false),rfl⟩
  |er f =>
   refine⟨([],u,l,x,false,c),?_⟩
   simp only[Rz.out,Rz.bind,QK,UX (Ug _) hr,cond_true]
theorem Dk.rrule(w:Nat)(d:Dm)(b:List Br)(K:List Nd->Nat->Dm->List Br->Int->Int->List UInt8->Int->Int->Nat->Bool->Bool->Option R):
 ∃ z:Rl,J1p k nd w d b 0 0 n K=(J1c nd w n).out z (fun r e f=>K nd w d b e f r.1 r.2.1 r.2.2.1 r.2.2.2.1 r.2.2.2.2.1 r.2.2.2.2.2):=by
 have hk:=D.hk
 unfold J1p Jho J1c
 rw[D.rknown h _ (by decide)]
 cases h1:YB nd n [Jgf,YZ,UI,QJ,J08]with
 |er f =>
  refine⟨([],0,0,0,false,false),?_⟩
  simp only[Rz.out,Rz.bind,QK,UX (YC _) h1,cond_true]
 |ok _ =>
  have fu:=D.rfind (R:=R) h YZ
  have fq:=D.rfind (R:=R) h UI
  have fn:=D.rfind (R:=R) h QJ
  have main:∀ c:Bool,∃ z:Rl,Q6 k nd n YZ (fun y31 y32=>Q6 k nd n UI (fun y33 y34=>Q6 k nd n QJ (fun y35 y36 =>
   bif c then bif (bif (bif y32 then true else y34)then true else y36)then Ql k nd w d b 0 0 n 17 (fun y37 y38 y39 y40 y41 y42 y43=>K y37 y38 y39 y40 y41 y42 [] 0 0 0 false c)else(Q6 k nd n J08 (fun y37 y38=>bif y38 then U0 k nd y37 (fun y39 y40 y41=>JY k nd w d b 0 0 y40 y41 (fun y42 y43 y44 y45 y46 y47 y48=>bif y48 then K y42 y43 y44 y45 y46 y47 [] 0 0 0 false c else K y42 y43 y44 y45 y46 y47 y39 0 0 0 false c))else K nd w d b 0 0 [] 0 0 0 false c))
   else bif !y32 then Ql k nd w d b 0 0 n 10 (fun y37 y38 y39 y40 y41 y42 y43=>K y37 y38 y39 y40 y41 y42 [] 0 0 0 false c)else UA k nd y31 1 (fun y37 y38=>JY k nd w d b 0 0 y37 y38 (fun y39 y40 y41 y42 y43 y44 y45=>bif y45 then K y39 y40 y41 y42 y43 y44 [] 0 0 0 false c else bif inb y31 (y39.length:Int)then J3b k (((y39.getD y31.toNat (Kd.zero kNd)).2).2).1 (fun y46=>bif y46 == 0 then Ql k y39 y40 y41 y42 y43 y44 y31 16 (fun y47 y48 y49 y50 y51 y52 y53=>K y47 y48 y49 y50 y51 y52 [] y46 0 0 false c)else bif !y34 then Ql k y39 y40 y41 y42 y43 y44 n 10 (fun y47 y48 y49 y50 y51 y52 y53=>K y47 y48 y49 y50 y51 y52 [] y46 0 0 false c)else J25 k y39 y33 0 4294967295 (fun y47 y48 y49=>JY k y39 y40 y41 y42 y43 y44 y48 y49 (fun y50 y51 y52 y53 y54 y55 y56=>bif y56 then K y50 y51 y52 y53 y54 y55 [] y46 0 0 false c else bif y36 then Yl k y50 y35 (fun y57 y58 y59=>JY k y50 y51 y52 y53 y54 y55 y58 y59 (fun y60 y61 y62 y63 y64 y65 y66=>bif y66 then K y60 y61 y62 y63 y64 y65 [] y46 y47 y51 false c else Q6 k y60 n J08 (fun y67 y68=>bif y68 then U0 k y60 y67 (fun y69 y70 y71=>JY k y60 y61 y62 y63 y64 y65 y70 y71 (fun y72 y73 y74 y75 y76 y77 y78=>bif y78 then K y72 y73 y74 y75 y76 y77 [] y46 y47 y57 false c else K y72 y73 y74 y75 y76 y77 y69 y46 y47 y57 false c))else K y60 y61 y62 y63 y64 y65 [] y46 y47 y57 false c)))else Q6 k y50 n J08 (fun y57 y58=>bif y58 then U0 k y50 y57 (fun y59 y60 y61=>JY k y50 y51 y52 y53 y54 y55 y60 y61 (fun y62 y63 y64 y65 y66 y67 y68=>bif y68 then K y62 y63 y64 y65 y66 y67 [] y46 y47 y51 false c else K y62 y63 y64 y65 y66 y67 y59 y46 y47 y51 false c))else K y50 y51 y52 y53 y54 y55 [] y46 y47 y51 false c))))else none))))) =
   (bif c then bif has nd n YZ || (has nd n UI || has nd n QJ)then .er (17,QT nd n)else J0a nd n 0 0 0 true
    else(Uq nd n YZ).bind fun u=>(Z0 nd u 1).bind fun _=>bif UU (Zq nd u) == 0 then .er (16,QT nd u)
     else(Uq nd n UI).bind fun q=>(J1j nd q).bind fun l=>(Qx (Jw nd n QJ) w (ZM nd)).bind fun x=>J0a nd n (UU (Zq nd u)) l x false:Rz Rl).out z (fun r e f=>K nd w d b e f r.1 r.2.1 r.2.2.1 r.2.2.2.1 r.2.2.2.2.1 r.2.2.2.2.2):=by
   intro c
   rw[fu]
   cases c with
   |true =>
    unfold has
    cases hu:Jw nd n YZ<;>simp only[fq]<;>cases hq:Jw nd n UI<;>simp only[fn]<;>cases hn:Jw nd n QJ<;>simp only[cond_true,cond_false,Option.isSome] <;>
     first
     |exact⟨([],0,0,0,false,true),by rw[D.rline h _ _ _ 17 rfl];rfl⟩
     |exact D.rnameo h w d b 0 0 0 true K
   |false =>
    unfold Uq
    cases hu:Jw nd n YZ with
    |none =>
     simp only[fq]
     cases Jw nd n UI<;>simp only[fn]<;>cases Jw nd n QJ<;>exact⟨([],0,0,0,false,false),by simp only[cond_false,Bool.not_false,cond_true];rw[D.rline h _ _ _ 10 rfl];rfl⟩
    |some u =>
     have hui:=D.find h hu
     obtain⟨l1,_⟩:=D.line hui
     have e:∀(y34:Bool) (y33:Int) (y36:Bool) (y35:Int),(y34=(Jw nd n UI).isSome)->(∀ q,Jw nd n UI=some q->y33=q)->(y36=(Jw nd n QJ).isSome)->(∀ q,Jw nd n QJ=some q->y35=q) ->
      ∃ z:Rl,UA k nd u 1 (fun y37 y38=>JY k nd w d b 0 0 y37 y38 (fun y39 y40 y41 y42 y43 y44 y45=>bif y45 then K y39 y40 y41 y42 y43 y44 [] 0 0 0 false false else bif inb u (y39.length:Int)then J3b k (((y39.getD u.toNat (Kd.zero kNd)).2).2).1 (fun y46=>bif y46 == 0 then Ql k y39 y40 y41 y42 y43 y44 u 16 (fun y47 y48 y49 y50 y51 y52 y53=>K y47 y48 y49 y50 y51 y52 [] y46 0 0 false false)else bif !y34 then Ql k y39 y40 y41 y42 y43 y44 n 10 (fun y47 y48 y49 y50 y51 y52 y53=>K y47 y48 y49 y50 y51 y52 [] y46 0 0 false false)else J25 k y39 y33 0 4294967295 (fun y47 y48 y49=>JY k y39 y40 y41 y42 y43 y44 y48 y49 (fun y50 y51 y52 y53 y54 y55 y56=>bif y56 then K y50 y51 y52 y53 y54 y55 [] y46 0 0 false false else bif y36 then Yl k y50 y35 (fun y57 y58 y59=>JY k y50 y51 y52 y53 y54 y55 y58 y59 (fun y60 y61 y62 y63 y64 y65 y66=>bif y66 then K y60 y61 y62 y63 y64 y65 [] y46 y47 y51 false false else Q6 k y60 n J08 (fun y67 y68=>bif y68 then U0 k y60 y67 (fun y69 y70 y71=>JY k y60 y61 y62 y63 y64 y65 y70 y71 (fun y72 y73 y74 y75 y76 y77 y78=>bif y78 then K y72 y73 y74 y75 y76 y77 [] y46 y47 y57 false false else K y72 y73 y74 y75 y76 y77 y69 y46 y47 y57 false false))else K y60 y61 y62 y63 y64 y65 [] y46 y47 y57 false false)))else Q6 k y50 n J08 (fun y57 y58=>bif y58 then U0 k y50 y57 (fun y59 y60 y61=>JY k y50 y51 y52 y53 y54 y55 y60 y61 (fun y62 y63 y64 y65 y66 y67 y68=>bif y68 then K y62 y63 y64 y65 y66 y67 [] y46 y47 y51 false false else K y62 y63 y64 y65 y66 y67 y59 y46 y47 y51 false false))else K y50 y51 y52 y53 y54 y55 [] y46 y47 y51 false false))))else none)) =
       ((Z0 nd u 1).bind fun _=>bif UU (Zq nd u) == 0 then .er (16,QT nd u)
         else(match Jw nd n UI with|some j => .ok j|none => .er (10,QT nd n):Rz Int).bind fun q=>(J1j nd q).bind fun l=>(Qx (Jw nd n QJ) w (ZM nd)).bind fun x=>J0a nd n (UU (Zq nd u)) l x false:Rz Rl).out z (fun r e f=>K nd w d b e f r.1 r.2.1 r.2.2.1 r.2.2.2.1 r.2.2.2.2.1 r.2.2.2.2.2):=by
      intro y34 y33 y36 y35 e1 e2 e3 e4
      rw[D.rneed hui]
      cases h2:Z0 nd u 1 with
      |er f=>exact⟨([],0,0,0,false,false),by simp only[Rz.out,Rz.bind,QK,UX (YC _) h2,cond_true]⟩
      |ok _ =>
       simp only[Rz.out,Rz.bind,QK,Z5,cond_false,l1,cond_true,D.text hui]
       rw[JBq k (by omega)]
       cases hz:UU (Zq nd u) == 0 with
       |true=>exact⟨([],UU (Zq nd u),0,0,false,false),by simp only[cond_true];rw[D.rline hui _ _ _ 16 rfl]⟩
       |false =>
        simp only[cond_false]
        cases hq:Jw nd n UI with
        |none =>
         rw[hq]at e1;subst e1
         exact⟨([],UU (Zq nd u),0,0,false,false),by simp only[Option.isSome,Bool.not_false,cond_true];rw[D.rline h _ _ _ 10 rfl]⟩
        |some q =>
         rw[hq]at e1;subst e1
         rw[e2 q hq]
         have hqi:=D.find h hq
         simp only[Option.isSome,Bool.not_true,cond_false]
         rw[D.rnum hqi]
         cases hl:J1j nd q with
         |er f=>exact⟨([],UU (Zq nd u),0,0,false,false),by simp only[Rz.out,QK,UX (Ug _) hl,cond_true]⟩
         |ok l =>
          simp only[Rz.out,QK,Z5,cond_false]
          cases hn:Jw nd n QJ with
          |none =>
           rw[hn]at e3;subst e3
           simp only[Option.isSome,cond_false,Qx]
           exact D.rnameo h w d b _ l w false K
          |some q2 =>
           rw[hn]at e3;subst e3
           rw[e4 q2 hn]
           have hq2:=D.find h hn
           simp only[Option.isSome,cond_true,Qx]
           rw[D.rrat hq2]
           cases hx:ZM nd q2 with
           |er f=>exact⟨([],UU (Zq nd u),l,w,false,false),by simp only[Rz.out,QK,UX (Ug _) hx,cond_true]⟩
           |ok x =>
            simp only[Rz.out,QK,Z5,cond_false]
            exact D.rnameo h w d b _ l x false K
     simp only[fq]
     cases hq:Jw nd n UI with
     |none =>
      simp only[fn]
      cases hn:Jw nd n QJ with
      |none =>
       have:=e false 0 false 0 (by rw[hq];rfl) (fun q e=>by rw[hq]at e;cases e) (by rw[hn];rfl) (fun q e=>by rw[hn]at e;cases e)
       simpa only[hq,hn,Rz.bind,cond_false,Bool.not_true,Bool.not_false]using this
      |some q2 =>
       have:=e false 0 true q2 (by rw[hq];rfl) (fun q e=>by rw[hq]at e;cases e) (by rw[hn];rfl) (fun q e=>by rw[hn]at e;cases e;rfl)
       simpa only[hq,hn,Rz.bind,cond_false,Bool.not_true,Bool.not_false]using this
     |some q =>
      simp only[fn]
      cases hn:Jw nd n QJ with
      |none =>
       have:=e true q false 0 (by rw[hq];rfl) (fun q e=>by rw[hq]at e;cases e;rfl) (by rw[hn];rfl) (fun q e=>by rw[hn]at e;cases e)
       simpa only[hq,hn,Rz.bind,cond_false,Bool.not_true,Bool.not_false]using this
      |some q2 =>
       have:=e true q true q2 (by rw[hq];rfl) (fun q e=>by rw[hq]at e;cases e;rfl) (by rw[hn];rfl) (fun q e=>by rw[hn]at e;cases e;rfl)
       simpa only[hq,hn,Rz.bind,cond_false,Bool.not_true,Bool.not_false]using this
  simp only[Rz.out,Rz.bind,QK,Z5,cond_false]
  rw[D.rfind h]
  cases hf:Jw nd n Jgf with
  |none =>
   exact main false
  |some j =>
   simp only[cond_true,Qx]
   rw[D.rbool (D.find h hf)]
   cases hb:Zo nd j with
   |er f=>exact⟨([],0,0,0,false,false),by simp only[Rz.out,Rz.bind,UX (Ug _) hb,cond_true]⟩
   |ok c =>
    simp only[Rz.out,Rz.bind,Z5,cond_false]
    exact main c
end
end
section
open Go
abbrev J8X:List UInt8:=[107,101,121]
abbrev J5B:List UInt8:=[118,97,108,117,101]
abbrev J3z:List UInt8:=[114,97,116,101,95,108,105,109,105,116]
abbrev Uk:List UInt8:=[115,104,97,100,111,119,95,109,111,100,101]
abbrev ZC:List UInt8:=[100,101,115,99,114,105,112,116,111,114,115]
abbrev J8y:List UInt8:=[100,111,109,97,105,110]
abbrev J0t:List UInt8:=[100,111,109,97,105,110,115]
def ZG(br:Int->List Int->List Br->Rz (Int×List Br)): List Int->List Int->List Br->Rz (List Int×List Br)
 |[],a,w => .ok (a,w)
 |i::r,a,w=>(br i a w).bind fun p=>ZG br r (a++[p.1]) p.2
def J1d(b:Br)(key val:List UInt8)(any:Bool): Bool:=bif (bif b.1 == key then b.2.1 == val else false)then b.2.2.1 == any else false
def Z1(b0:Nat)(a:List Int)(w:List Br)(key val:List UInt8)(any:Bool): Bool:=a.any fun i=>match w[i.toNat-b0]? with|some b=>J1d b key val any|none=>false
def J3A(r:Rl)(s:Bool): Rl:=(r.1,r.2.1,r.2.2.1,r.2.2.2.1,s,r.2.2.2.2.2)
def zRl:Rl:=([],0,0,0,false,false)
def J8M(nd:List Nd)(i:Int): Rz (List UInt8×Bool):=Qx (Jw nd i J5B) ([],true) fun j=>(J1H nd j).bind fun v => .ok (v,false)
def J3H(nd:List Nd)(z:Nat)(i:Int): Rz (Bool×Rl):=Qx (Jw nd i J3z) (false,zRl) fun j=>(J1c nd z j).bind fun r => .ok (true,r)
def Up:Nat->List Nd->Nat->Int->Int->Nat->Int->List Int->List Br->Rz (Int×List Br)
 |0,nd,_,_,_,_,i,_,_ => .er (8,QT nd i)
 |g+1,nd,z,dom,up,b0,i,a,w=>bif decide (500≤b0+w.length)then .er (9,QT nd i)else
  (YB nd i [J8X,J5B,J3z,Uk,ZC]).bind fun _=>(Uq nd i J8X).bind fun kk=>(Zp nd kk).bind fun key=>(J8M nd i).bind fun va =>
  bif Z1 b0 a w key va.1 va.2 then .er (7,QT nd i)else
  (J3H nd z i).bind fun hr=>(Qx (Jw nd i Uk) false (Zo nd)).bind fun s =>
  bif s && !hr.1 then .er (17,QT nd ((Jw nd i Uk).getD 0))else
  ((YY nd i ZC).bind fun its=>ZG (Up g nd z dom ((b0+w.length:Nat):Int) (b0+w.length+1)) its [] []).bind fun p =>
  .ok (((b0+w.length:Nat):Int),w++(key,va.1,va.2,dom,up,hr.1,J3A hr.2 s,p.1)::p.2)
def ZH(g:Nat)(nd:List Nd)(z:Nat)(dom up:Int)(b0:Nat)(n:Int): Rz (List Int×List Br):=(YY nd n ZC).bind fun its=>ZG (Up g nd z dom up b0) its [] []
def J0G(nd:List Nd)(z:Nat)(d:Dm)(b0:Nat)(n:Int): Rz ((List UInt8×List Int)×List Br) :=
 (YB nd n [J8y,ZC]).bind fun _=>(Uq nd n J8y).bind fun j=>(Zp nd j).bind fun s=>bif d.any (fun x=>x.1 == s)then .er (7,QT nd j)else
  (ZH 8 nd z (d.length:Int) (-1) b0 n).bind fun p => .ok ((s,p.1),p.2)
def J0A(nd:List Nd)(z:Nat): List Int->Dm->List Br->Rz (Dm×List Br)
 |[],d,b => .ok (d,b)
 |i::r,d,b=>bif decide (16≤d.length)then .er (9,QT nd i)else(J0G nd z d b.length i).bind fun p=>J0A nd z r (d++[p.1]) (b++p.2)
def J1I(nd:List Nd)(z0:Nat): Rz (Dm×List Br) :=
 (YB nd 0 [QJ,J0t]).bind fun _=>(Qx (Jw nd 0 QJ) z0 (ZM nd)).bind fun z=>(Uq nd 0 J0t).bind fun _=>(YY nd 0 J0t).bind fun its=>J0A nd z its [] []
theorem Jfo(nd:List Nd)(n:Int)(key:List UInt8): Nz (YY nd n key):=J2u fun j=>Qz (YC _) fun _=>trivial
theorem Jmp{br:Int->List Int->List Br->Rz (Int×List Br)}(h:∀ i a w,Nz (br i a w)): ∀ l a w,Nz (ZG br l a w)
 |[],a,w=>trivial
 |i::r,a,w=>Qz (h i a w) fun p=>Jmp h r _ _
theorem JHM(nd:List Nd)(i:Int): Nz (J8M nd i):=J2u fun j=>Qz (Ug _) fun _=>trivial
theorem JIx(nd:List Nd)(z:Nat)(i:Int): Nz (J3H nd z i):=J2u fun j=>Qz (Jv6 _ _ _) fun _=>trivial
theorem Jlp:∀(g:Nat) (nd:List Nd) (z:Nat) (dom up:Int) (b0:Nat) (i:Int) (a:List Int) (w:List Br),Nz (Up g nd z dom up b0 i a w)
 |0,_,_,_,_,_,_,_,_=>show(8:Int)≠0 by decide
 |g+1,nd,z,dom,up,b0,i,a,w=>by
  unfold Up
  refine J3T (show(9:Int)≠0 by decide) (Qz (YC _) fun _=>Qz (J8G _ _ _) fun kk=>Qz (Ug _) fun key=>Qz (JHM _ _) fun va=>J3T (show(7:Int)≠0 by decide) ?_)
  exact Qz (JIx _ _ _) fun hr=>Qz (J2u fun j=>Ug _) fun s=>J3T (show(17:Int)≠0 by decide) (Qz (Qz (Jfo _ _ _) fun its=>Jmp (fun i a w=>Jlp g _ _ _ _ _ i a w) _ _ _) fun p=>trivial)
theorem JIy(g:Nat)(nd:List Nd)(z:Nat)(dom up:Int)(b0:Nat)(n:Int): Nz (ZH g nd z dom up b0 n):=Qz (Jfo _ _ _) fun its=>Jmp (fun i a w=>Jlp g _ _ _ _ _ i a w) _ _ _
theorem JvJ(nd:List Nd)(z:Nat)(d:Dm)(b0:Nat)(n:Int): Nz (J0G nd z d b0 n) :=
 Qz (YC _) fun _=>Qz (J8G _ _ _) fun j=>Qz (Ug _) fun s=>J3T (show(7:Int)≠0 by decide) (Qz (JIy _ _ _ _ _ _ _) fun p=>trivial)
theorem Jmq(nd:List Nd)(z:Nat): ∀ l d b,Nz (J0A nd z l d b)
 |[],d,b=>trivial
 |i::r,d,b=>J3T (show(9:Int)≠0 by decide) (Qz (JvJ _ _ _ _ _) fun p=>Jmq nd z r _ _)
theorem JIz(nd:List Nd)(z0:Nat): Nz (J1I nd z0) :=
 Qz (YC _) fun _=>Qz (J2u fun j=>Ug _) fun z=>Qz (J8G _ _ _) fun _=>Qz (Jfo _ _ _) fun its=>Jmq _ _ _ _ _
theorem JA{A B:Type}{r:Rz A}{g:A->Rz B}{y:B}(h:r.bind g = .ok y): ∃ x,r = .ok x∧g x = .ok y:=by
 cases r with
 |ok x=>exact⟨x,rfl,h⟩
 |er f=>cases h
theorem UY{T:Type}{c:Bool}{f:Int×Int}{r:Rz T}{y:T}(h:(bif c then .er f else r)=Rz.ok y): c=false∧r = .ok y:=by
 cases c with
 |true=>cases h
 |false=>exact⟨rfl,h⟩
theorem Jtw{g:Nat}{nd:List Nd}{z:Nat}{dom up:Int}{b0:Nat}{i:Int}{a:List Int}{w:List Br}{p:Int×List Br}(h:Up g nd z dom up b0 i a w = .ok p):
 p.1=((b0+w.length:Nat):Int)∧∃ b l,p.2=w++b::l:=by
 cases g with
 |zero=>cases h
 |succ g =>
  unfold Up at h
  obtain⟨_,h⟩:=UY h
  obtain⟨_,_,h⟩:=JA h
  obtain⟨_,_,h⟩:=JA h
  obtain⟨_,_,h⟩:=JA h
  obtain⟨_,_,h⟩:=JA h
  obtain⟨_,h⟩:=UY h
  obtain⟨_,_,h⟩:=JA h
  obtain⟨_,_,h⟩:=JA h
  obtain⟨_,h⟩:=UY h
  obtain⟨q,_,h⟩:=JA h
  injection h with h
  rw[←h]
  exact⟨rfl,_,_,rfl⟩
def InA(b0:Nat)(a:List Int)(w:List Br): Prop:=∀ x∈a,(b0:Int)≤x∧x<((b0+w.length:Nat):Int)
theorem Jug{b0:Nat}{a:List Int}{w:List Br}{b:Br}{l:List Br}(h:InA b0 a w): InA b0 (a++[((b0+w.length:Nat):Int)]) (w++b::l):=by
 intro x hx
 have e:(w++b::l).length=w.length+(l.length+1):=by simp
 rw[e]
 rcases List.mem_append.1 hx with hx|hx
 ·have:=h x hx;omega
 ·have:=List.mem_singleton.1 hx;omega
theorem Jv7(b0:Nat): InA b0 [] []:=fun x hx=>by cases hx
theorem Jv8{pre w:List Br}{b0:Nat}{x:Int}(hp:pre.length=b0)(h:(b0:Int)≤x∧x<((b0+w.length:Nat):Int)): ∃ b,w[x.toNat-b0]? = some b∧(∀ z,(pre++w).getD x.toNat z=b)∧inb x ((pre++w).length:Int)=true:=by
 have h1:x.toNat-b0<w.length:=by omega
 refine⟨w[x.toNat-b0],List.getElem?_eq_getElem h1,fun z => ?_,Ja (by omega) (by rw[List.length_append];omega)⟩
 rw[List.getD,List.getElem?_append_right (by omega),hp,List.getElem?_eq_getElem h1];rfl
theorem Jv9(pre:List Br)(x y:Br)(l:List Br): (pre++x::l).set pre.length y=pre++y::l:=by simp
end
end Go.Proofs.YtabkhphoacmcdaaGreatDoor.Pvm
set_option maxRecDepth 1000000
set_option maxHeartbeats 0
namespace Go.Proofs.YtabkhphoacmcdaaGreatDoor.Pvm
open Go Go.Proofs
section
open Go
def J1S(u:Int): Int:=bif u == 1 then 1 else bif u == 2 then 60 else bif u == 3 then 3600 else bif u == 4 then 86400 else 0
theorem JIA(k:Nat){R:Type}(u:Int)(K:Int->Option R): J82 k u K=K (J1S u):=by
 unfold J82 JrC
 by_cases h:u<1∨u>4
 ·have e:(bif decide (u<1)then true else decide (u>4))=true:=by
   rcases h with h|h
   ·rw[J1 h];rfl
   ·rw[J1 h];cases decide (u<1)<;>rfl
  have n:∀ a:Int,1≤a->a≤4->(u == a)=false:=fun a h1 h2=>by rw[beq_eq_false_iff_ne];omega
  rw[e,cond_true]
  unfold J1S
  rw[n 1 (by decide) (by decide),n 2 (by decide) (by decide),n 3 (by decide) (by decide),n 4 (by decide) (by decide)];rfl
 ·have e:(bif decide (u<1)then true else decide (u>4))=false:=by rw[J2 (by omega),J2 (by omega)];rfl
  have hi:inb u (([(0:Int),1,60,3600,86400]).length:Int)=true:=Ja (by omega) (show u<5 by omega)
  rw[e,cond_false,hi,cond_true]
  have:u=1∨u=2∨u=3∨u=4:=by omega
  rcases this with rfl|rfl|rfl|rfl<;>rfl
def J5L(nm:List UInt8)(u l:Int)(w:Nat)(un:Bool): Bool :=
 (bif un then(u == 0&&l == 0)&&UK w 0 == 0 else(decide (J1S u>0)&&(decide (l≥0)&&decide (l≤4294967295)))&&Yf w)&&(nm == [] || nmB nm)
section
variable {R:Type} (k:Nat) (hk:5000<k)
include hk
theorem JEp(nm:List UInt8)(hn:nm.length≤4000)(u l:Int)(w:Nat)(hw:w<2 ^ 64)(sh un:Bool)(K:Int->Option R): Ja1 k nm u l w sh un K=K (bif J5L nm u l w un then 0 else 1):=by
 unfold Ja1 JjC J5L
 have hz:(0:Nat)<2 ^ 64:=by decide
 simp only[JIA,JIw k hk hw,Jue k hw hz,JeF k nm hn hk]
 cases un<;>cases nm == []<;>cases nmB nm<;>cases decide (J1S u>0)<;>cases decide (l≥0)<;>cases decide (l≤4294967295)<;>cases Yf w<;>cases u == 0<;>cases l == 0<;>cases UK w 0 == 0<;>rfl
def Jb5(a b:Rl): Bool:=(a.1 == b.1&&(a.2.1 == b.2.1&&(a.2.2.1 == b.2.2.1&&(a.2.2.2.2.1 == b.2.2.2.2.1&&a.2.2.2.2.2 == b.2.2.2.2.2))))&&UK a.2.2.2.1 b.2.2.2.1 == 0
theorem JFl(a b:Rl)(ha:a.2.2.2.1<2 ^ 64)(hb:b.2.2.2.1<2 ^ 64)(K:Bool->Option R): J5d k a.1 a.2.1 a.2.2.1 a.2.2.2.1 a.2.2.2.2.1 a.2.2.2.2.2 b.1 b.2.1 b.2.2.1 b.2.2.2.1 b.2.2.2.2.1 b.2.2.2.2.2 K=K (Jb5 a b):=by
 unfold J5d JrD Jb5
 rw[Jue k ha hb,show Jr .eql (0:Nat) (0:Nat)=true from by decide +kernel]
 congr 1
 cases UK a.2.2.2.1 b.2.2.2.1 == 0<;>cases a.1 == b.1<;>cases a.2.1 == b.2.1<;>cases a.2.2.1 == b.2.2.1<;>cases a.2.2.2.2.1 == b.2.2.2.2.1<;>cases a.2.2.2.2.2 == b.2.2.2.2.2<;>rfl
def J1k(b:Br)(dom up:Int): Bool :=
 (b.2.2.2.1 == dom&&b.2.2.2.2.1 == up)&&((nmB b.1&&(decide (b.2.1.length≤128) && !(b.2.2.1 && !(b.2.1 == []))))&&(bif b.2.2.2.2.2.1 then J5L b.2.2.2.2.2.2.1.1 b.2.2.2.2.2.2.1.2.1 b.2.2.2.2.2.2.1.2.2.1 b.2.2.2.2.2.2.1.2.2.2.1 b.2.2.2.2.2.2.1.2.2.2.2.2 else Jb5 b.2.2.2.2.2.2.1 zRl))
structure Wb (b:Br):Prop where
 k1:b.1.length≤4000
 k2:b.2.2.2.2.2.2.1.1.length≤4000
 f1:b.2.2.2.2.2.2.1.2.2.2.1<2 ^ 64
 l1:b.2.2.2.2.2.2.2.length≤4000
 v1:b.2.1.length≤4000
omit hk in
theorem JJg(n:Nat): decide ((n:Int)>128) = !decide (n≤128):=by
 by_cases h:n≤128
 ·rw[J2 (by omega),J1 h];rfl
 ·rw[J1 (by omega),J2 h];rfl
theorem JJh(b:Br)(hb:Wb b)(dom up:Int)(K:Bool->Option R): Ja2 k b.1 b.2.1 b.2.2.1 b.2.2.2.1 b.2.2.2.2.1 b.2.2.2.2.2.1 b.2.2.2.2.2.2.1.1 b.2.2.2.2.2.2.1.2.1 b.2.2.2.2.2.2.1.2.2.1 b.2.2.2.2.2.2.1.2.2.2.1 b.2.2.2.2.2.2.1.2.2.2.2.1 b.2.2.2.2.2.2.1.2.2.2.2.2 b.2.2.2.2.2.2.2 dom up K=K (J1k b dom up):=by
 have e:=JFl (R:=R) k hk b.2.2.2.2.2.2.1 zRl hb.f1 (by decide)
 unfold Ja2 JqN J1k
 rw[JeF k _ hb.k1 hk,JEp k hk _ hb.k2 _ _ _ hb.f1]
 have e':∀ K:Bool->Option R,J5d k b.2.2.2.2.2.2.1.1 b.2.2.2.2.2.2.1.2.1 b.2.2.2.2.2.2.1.2.2.1 b.2.2.2.2.2.2.1.2.2.2.1 b.2.2.2.2.2.2.1.2.2.2.2.1 b.2.2.2.2.2.2.1.2.2.2.2.2 [] 0 0 0 false false K=K (Jb5 b.2.2.2.2.2.2.1 zRl):=e
 rw[e',JJg]
 have n1:(b.2.2.2.1 != dom) = !(b.2.2.2.1 == dom):=rfl
 have n2:(b.2.2.2.2.1 != up) = !(b.2.2.2.2.1 == up):=rfl
 rw[n1,n2]
 cases b.2.2.2.1 == dom<;>cases b.2.2.2.2.1 == up<;>cases nmB b.1<;>cases decide (b.2.1.length≤128)<;>cases b.2.2.1<;>cases b.2.1 == []<;>cases b.2.2.2.2.2.1<;>first|rfl|(cases J5L b.2.2.2.2.2.2.1.1 b.2.2.2.2.2.2.1.2.1 b.2.2.2.2.2.2.1.2.2.1 b.2.2.2.2.2.2.1.2.2.2.1 b.2.2.2.2.2.2.1.2.2.2.2.2<;>rfl)
end
end
section
open Go
theorem JHN(D mb:Nat)(h:0<mb): (2*(D / mb)+(D % mb != 0).toNat)*mb≤2*D+mb∧2*D≤(2*(D / mb)+(D % mb != 0).toNat)*mb+mb:=by
 have h1:=Nat.div_add_mod D mb
 have h2:=Nat.mod_lt D h
 rw[Nat.add_mul,Nat.mul_assoc,Nat.mul_comm (D / mb) mb]
 generalize mb*(D / mb)=A at *
 by_cases h0:D % mb=0
 ·have e:(D % mb != 0).toNat=0:=by rw[h0];rfl
  rw[e];constructor<;>omega
 ·have e:(D % mb != 0).toNat=1:=by
   have:(D % mb != 0)=true:=by simpa using h0
   rw[this];rfl
  rw[e];constructor<;>omega
theorem JJi{M E W V Q T qT S P F n N:Nat}(hW:W=N*P)(hV:V=n*P)(hQ:Q=S*P)(h1:M*E*W≤V*Q+E*W)(h2:V*Q≤M*E*W+E*W)(h3:qT<M*E+T)(h4:M*E<qT+T)(hF:F*S=qT)(hP:0<P)(hS:0<S)(h5:(E+T)*N≤P*S): F*N≤(n+1)*P∧(n-1)*P≤F*N:=by
 have a3:(F*N*S)*P=qT*W:=by rw[hW,←hF];simp only[Nat.mul_assoc,Nat.mul_comm,Nat.mul_left_comm]
 have a4:(n*P*S+(E+T)*N)*P=V*Q+E*W+T*W:=by
  rw[hV,hQ,hW,Nat.add_mul,Nat.add_mul,Nat.add_mul]
  simp only[Nat.mul_assoc,Nat.mul_comm,Nat.mul_left_comm,Nat.add_assoc]
 have a6:(n*P*S)*P=V*Q:=by
  rw[hV,hQ]
  simp only[Nat.mul_assoc,Nat.mul_comm,Nat.mul_left_comm]
 have a7:(F*N*S+(E+T)*N)*P=qT*W+E*W+T*W:=by
  rw[Nat.add_mul,a3,Nat.add_mul,hW,Nat.add_mul]
  simp only[Nat.mul_assoc,Nat.add_assoc]
 constructor
 ·have a1:qT*W≤(M*E+T)*W:=Nat.mul_le_mul_right _ (Nat.le_of_lt h3)
  rw[Nat.add_mul]at a1
  have a5:F*N*S≤n*P*S+(E+T)*N:=Nat.le_of_mul_le_mul_right (by rw[a3,a4];omega) hP
  refine Nat.le_of_mul_le_mul_right (c:=S) ?_ hS
  rw[Nat.add_mul,Nat.one_mul,Nat.add_mul]
  omega
 ·have b1:M*E*W≤(qT+T)*W:=Nat.mul_le_mul_right _ (Nat.le_of_lt h4)
  rw[Nat.add_mul]at b1
  have b5:n*P*S≤F*N*S+(E+T)*N:=Nat.le_of_mul_le_mul_right (by rw[a6,a7];omega) hP
  refine Nat.le_of_mul_le_mul_right (c:=S) ?_ hS
  cases n with
  |zero=>simp
  |succ m =>
   rw[Nat.add_mul,Nat.one_mul,Nat.add_mul]at b5
   rw[Nat.add_sub_cancel]
   omega
theorem JJj{M E T qT P S N:Nat}(hN:N≤1000000)(hq:qT≤P*S)(hT:4503599627370496*T≤P*S)(hM:4503599627370496≤M)(h4:M*E<qT+T): (E+T)*N≤P*S:=by
 have h1:4503599627370496*E≤M*E:=Nat.mul_le_mul_right _ hM
 have h2:(E+T)*N≤(E+T)*1000000:=Nat.mul_le_mul_left _ hN
 generalize P*S=Y at *
 generalize M*E=Z at *
 generalize (E+T)*N=X at *
 omega
theorem JIB{a b:Nat}(h:a≤b): pw a≤pw b:=Nat.pow_le_pow_right (by decide) h
theorem JJk(a b:Nat): pw (a+b)=2 ^ a*pw b:=Nat.pow_add 2 a b
theorem JvK:svF Qw=pw 1074:=by decide +kernel
theorem JHO{n kk:Nat}(hk:kk≤6)(h0:n≠0)(hn:n≤2*bB)(hy:quN n kk≤Qw): svF (quN n kk)*10 ^ kk≤(n+1)*pw 1074∧(n-1)*pw 1074≤svF (quN n kk)*10 ^ kk:=by
 have hI:fI=9218868437227405312:=rfl
 have hO:Qw=4607182418800017408:=rfl
 have hB:bB=4503599627370496:=rfl
 have h6:10 ^ kk≤10 ^ 6:=Nat.pow_le_pow_right (by decide) hk
 have h6':(10:Nat) ^ 6=1000000:=by decide
 have hN1:0<10 ^ kk:=Nat.pow_pos (by decide)
 have hP:=JfU 1074
 obtain⟨ha,sa⟩:=J3E hn
 obtain⟨hb,sb⟩:=J3E (n:=10 ^ kk) (by omega)
 obtain⟨a,ea⟩:∃ a,a=Jo (n:Int):=⟨_,rfl⟩
 obtain⟨b,eb⟩:∃ b,b=Jo ((10 ^ kk:Nat):Int):=⟨_,rfl⟩
 have e0:quN n kk=(((Ieee.double.read a).quotient (Ieee.double.fractionBits+2) (Ieee.double.read b)).map Ieee.double.write).getD 0:=by rw[ea,eb];rfl
 rw[←ea]at ha sa
 rw[←eb]at hb sb
 have mb0:mgF b≠0:=fun h=>by
  have:svF b=0:=by unfold svF;rw[h,Nat.zero_mul]
  have h2:0<10 ^ kk*pw 1074:=Nat.mul_pos hN1 hP
  omega
 have ma0:mgF a≠0:=fun h=>by
  have:svF a=0:=by unfold svF;rw[h,Nat.zero_mul]
  have h2:0<n*pw 1074:=Nat.mul_pos (by omega) hP
  omega
 obtain⟨more,hm⟩:∃ more,more=Ieee.double.fractionBits+2+(mgF b).log2-(mgF a).log2:=⟨_,rfl⟩
 obtain⟨M,hM⟩:∃ M,M=2*(mgF a*2 ^ more / mgF b)+(mgF a*2 ^ more % mgF b != 0).toNat:=⟨_,rfl⟩
 have hfb:Ieee.double.fractionBits=52:=rfl
 have e1:quN n kk=Ieee.double.nearest false M ((-1074+(exF a:Int))-(-1074+(exF b:Int))-(more:Int)-1):=by
  rw[e0,J13 ha,J13 hb]
  unfold Ieee.Datum.quotient
  dsimp only
  rw[if_neg mb0,←hm,Nat.shiftLeft_eq,←hM]
  rfl
 obtain⟨e,he⟩:∃ e:Int,e=(-1074+(exF a:Int))-(-1074+(exF b:Int))-(more:Int)-1:=⟨_,rfl⟩
 rw[←he]at e1
 obtain⟨q1,q2⟩:=JHN (mgF a*2 ^ more) (mgF b) (by omega)
 rw[←hM]at q1 q2
 have lb:=Jb2 (mgF b)
 have la:=JfT ma0
 have lmb:(mgF b).log2≤52:=by
  rcases Nat.lt_or_ge 52 (mgF b).log2 with h|h
  ·have h1:(2:Nat) ^ 53≤2 ^ (mgF b).log2:=Nat.pow_le_pow_right (by decide) h
   have h2:=JfT mb0
   have h3:=Jn4 b
   have h4:(2:Nat) ^ 53=9007199254740992:=by decide
   omega
  ·exact h
 have hexb:exF b≤2047:=by unfold exF;rw[hB];omega
 have he3 : -3000≤e:=by omega
 have M1:4503599627370496≤M:=by
  have h1:2 ^ (54+(mgF b).log2)≤mgF a*2 ^ more:=by
   have h2:2 ^ ((mgF a).log2+more)≤mgF a*2 ^ more:=by rw[Nat.pow_add];exact Nat.mul_le_mul_right _ la
   exact Nat.le_trans (Nat.pow_le_pow_right (by decide) (by omega)) h2
  have h3:mgF b*2 ^ 53≤2 ^ (54+(mgF b).log2):=by
   have:(2:Nat) ^ (54+(mgF b).log2)=2 ^ ((mgF b).log2+1)*2 ^ 53:=by rw[←Nat.pow_add];exact congrArg pw (by omega)
   rw[this];exact Nat.mul_le_mul_right _ (Nat.le_of_lt lb)
  have h5:9007199254740992*mgF b≤M*mgF b+mgF b:=by
   have h4:(2:Nat) ^ 53=9007199254740992:=by decide
   rw[h4]at h3
   omega
  rcases Nat.lt_or_ge M 4503599627370496 with h|h
  ·have h7:M*mgF b≤4503599627370495*mgF b:=Nat.mul_le_mul_right _ (by omega)
   omega
  ·exact h
 have hM0:M≠0:=by omega
 have hP52:4503599627370496≤pw 1074:=by
  have h1:pw 52≤pw 1074:=JIB (by decide)
  have h52:pw 52=4503599627370496:=by decide
  omega
 have hN6:10 ^ kk≤1000000:=by rw[←h6'];exact h6
 have hle:svF (quN n kk)≤pw 1074:=by rw[←JvK];exact Jga hy
 obtain⟨ex,hex⟩:∃ ex:Nat,ex=(e+3000).toNat:=⟨_,rfl⟩
 have hsum0:ex+exF b+more+1=exF a+3000:=by omega
 obtain⟨s,hs⟩:∃ s:Nat,s=1926:=⟨_,rfl⟩
 obtain⟨z,hz⟩:∃ z:Nat,z=3000:=⟨_,rfl⟩
 obtain⟨t,q,T,r1,r2,r3,r4,r5,r6,r7⟩:=JkT hs hM0 he3
 rw[←e1]at r1
 have r8:quN n kk=t*bB+q:=by
  rcases Nat.le_total (t*bB+q) fI with h|h
  ·rw[r1];exact Nat.min_eq_left h
  ·rw[r1,Nat.min_eq_right h]at hy;exact absurd hy (by decide)
 have hsv:svF (quN n kk)=q*2 ^ t:=by rw[r8,Jgb r2 r3]
 rw[←hex]at r5 r6 r7
 have hsum:ex+exF b+more+1=exF a+z:=by rw[hz];exact hsum0
 have hE:2*2 ^ more*(2 ^ ex*2 ^ exF b)=2 ^ exF a*pw z:=by
  have x1:2*2 ^ more*(2 ^ ex*2 ^ exF b)=2 ^ (ex+exF b+more+1):=by
   rw[Nat.pow_succ,Nat.pow_add,Nat.pow_add]
   simp only[Nat.mul_assoc,Nat.mul_comm,Nat.mul_left_comm]
  rw[x1,hsum,Nat.pow_add];rfl
 have hS:0<2 ^ s:=Nat.pow_pos (by decide)
 have hF:svF (quN n kk)*2 ^ s=q*T:=by rw[hsv,r4,Nat.mul_assoc]
 have hqT:q*T≤pw 1074*2 ^ s:=by rw[←hF];exact Nat.mul_le_mul_right _ hle
 have hT:4503599627370496*T≤pw 1074*2 ^ s:=by
  rcases r3 with r3|r3
  ·rw[r4,r3,Nat.pow_zero,Nat.one_mul]
   exact Nat.mul_le_mul_right _ hP52
  ·exact Nat.le_trans (Nat.mul_le_mul_right T (by rw[←hB];exact r3)) hqT
 have r6':M*2 ^ ex<q*T+T:=by rw[Nat.add_mul,Nat.one_mul]at r6;exact r6
 have h5:=JJj (P:=pw 1074) (S:=2 ^ s) (N:=10 ^ kk) hN6 hqT hT M1 r6'
 have hQ:pw z=2 ^ s*pw 1074:=by
  have:z=s+1074:=by rw[hz,hs]
  rw[this];exact JJk s 1074
 have h1:M*2 ^ ex*svF b≤svF a*pw z+2 ^ ex*svF b:=by
  have:=Nat.mul_le_mul_right (2 ^ ex*2 ^ exF b) q1
  have l1:M*mgF b*(2 ^ ex*2 ^ exF b)=M*2 ^ ex*svF b:=by unfold svF;simp only[Nat.mul_assoc,Nat.mul_comm,Nat.mul_left_comm]
  have l2:(2*(mgF a*2 ^ more)+mgF b)*(2 ^ ex*2 ^ exF b)=svF a*pw z+2 ^ ex*svF b:=by
   have:2*(mgF a*2 ^ more)*(2 ^ ex*2 ^ exF b)=mgF a*(2*2 ^ more*(2 ^ ex*2 ^ exF b)):=by simp only[Nat.mul_assoc,Nat.mul_comm,Nat.mul_left_comm]
   rw[Nat.add_mul,this,hE]
   unfold svF
   simp only[Nat.mul_assoc,Nat.mul_comm,Nat.mul_left_comm]
  rw[l1,l2]at this
  exact this
 have h2:svF a*pw z≤M*2 ^ ex*svF b+2 ^ ex*svF b:=by
  have:=Nat.mul_le_mul_right (2 ^ ex*2 ^ exF b) q2
  have l1:(M*mgF b+mgF b)*(2 ^ ex*2 ^ exF b)=M*2 ^ ex*svF b+2 ^ ex*svF b:=by
   rw[Nat.add_mul]
   unfold svF
   simp only[Nat.mul_assoc,Nat.mul_comm,Nat.mul_left_comm]
  have l2:2*(mgF a*2 ^ more)*(2 ^ ex*2 ^ exF b)=svF a*pw z:=by
   have:2*(mgF a*2 ^ more)*(2 ^ ex*2 ^ exF b)=mgF a*(2*2 ^ more*(2 ^ ex*2 ^ exF b)):=by simp only[Nat.mul_assoc,Nat.mul_comm,Nat.mul_left_comm]
   rw[this,hE]
   unfold svF
   simp only[Nat.mul_assoc]
  rw[l1,l2]at this
  exact this
 exact JJi sb sa hQ h1 h2 r5 r6' hF hP hS h5
theorem JsN{y kk n:Nat}(h:J2N y kk n=true): ∀(c b:Nat),b≤n->n<b+c->(J5I y kk c b).isSome=true
 |0,b,h1,h2=>by omega
 |c+1,b,h1,h2=>by
  rw[J5I]
  cases hb:J2N y kk b with
  |true=>rfl
  |false =>
   rw[cond_false]
   have:b≠n:=fun e=>by rw[e,h]at hb;cases hb
   exact JsN h c (b+1) (by omega) (by omega)
theorem Juh{y kk:Nat}(h:(J5Z y kk).isSome=true): ∀(c b:Nat),b≤kk->kk<b+c->(wrL y c b).isSome=true
 |0,b,h1,h2=>by omega
 |c+1,b,h1,h2=>by
  rw[wrL]
  cases hb:J5Z y b with
  |some n=>rfl
  |none =>
   dsimp only
   have:b≠kk:=fun e=>by rw[e]at hb;rw[hb]at h;cases h
   exact Juh h c (b+1) (by omega) (by omega)
theorem JIC:(wrS 0).isSome=true:=by decide +kernel
theorem Jmr:∀ kk,kk≤6->quN 0 kk=0:=by
 have:(List.range 7).all (fun kk=>quN 0 kk == 0)=true:=by decide +kernel
 intro kk h
 have:=List.all_eq_true.1 this kk (List.mem_range.2 (by omega))
 simpa using this
theorem JID{n kk:Nat}(hk:kk≤6)(hn:n≤2*bB)(hy:quN n kk≤Qw): (wrS (quN n kk)).isSome=true:=by
 by_cases h0:n=0
 ·subst h0;rw[Jmr kk hk];exact JIC
 ·have hI:fI=9218868437227405312:=rfl
  have hO:Qw=4607182418800017408:=rfl
  have hB:bB=4503599627370496:=rfl
  have hr:r9=4741671816366391296:=rfl
  have h6:10 ^ kk≤10 ^ 6:=Nat.pow_le_pow_right (by decide) hk
  have h6':(10:Nat) ^ 6=1000000:=by decide
  have hP:=JfU 1074
  have hN1:0<10 ^ kk:=Nat.pow_pos (by decide)
  obtain⟨c1,c2⟩:=JHO hk h0 hn hy
  have hle:svF (quN n kk)≤pw 1074:=by rw[←JvK];exact Jga hy
  have hn2:n-1≤10 ^ kk:=by
   have h1:svF (quN n kk)*10 ^ kk≤pw 1074*10 ^ kk:=Nat.mul_le_mul_right _ hle
   refine Nat.le_of_mul_le_mul_right (c:=pw 1074) ?_ hP
   rw[Nat.mul_comm (10 ^ kk)]
   omega
  obtain⟨tb,sb⟩:=J3E (n:=10 ^ kk) (by omega)
  obtain⟨tu,su⟩:=J3E (n:=n+1) (by omega)
  obtain⟨td,sd⟩:=J3E (n:=n-1) (by omega)
  obtain⟨p,ep,hp1⟩:=JmF (x:=quN n kk) (by omega) tb tu (by rw[sb,su,←Nat.mul_assoc];exact Nat.mul_le_mul_right _ c1)
  obtain⟨p',ep',hp2⟩:=JJ3 (x:=quN n kk) (by omega) tb td (by rw[sb,sd,←Nat.mul_assoc];exact Nat.mul_le_mul_right _ c2)
  have epp:p'=p:=by rw[ep]at ep';injection ep' with ep';exact ep'.symm
  rw[epp]at hp2
  have em:J3Q (quN n kk) kk=p:=by unfold J3Q;rw[ep];rfl
  have w1:=Jbe hp1
  have w2:=Jbe hp2
  have e1:wlF (Jo ((n+1:Nat):Int))=n+1:=by unfold wlF;rw[su,Nat.mul_div_cancel _ hP]
  have e2:wlF (Jo ((n-1:Nat):Int))=n-1:=by unfold wlF;rw[sd,Nat.mul_div_cancel _ hP]
  rw[e1]at w1
  rw[e2]at w2
  have en:Zm (quN n kk) kk=wlF p:=by unfold Zm;rw[em]
  have hit:J2N (quN n kk) kk n=true:=by
   unfold J2N
   have:n / 10 ^ kk≤n:=Nat.div_le_self _ _
   rw[J1 (show n / 10 ^ kk≤999999999 by omega),J1 rfl];rfl
  have ht:(J5Z (quN n kk) kk).isSome=true:=by
   unfold J5Z
   rw[en]
   exact JsN hit _ _ (by omega) (by omega)
  unfold wrS
  rw[J2 (by omega),cond_false]
  exact Juh ht 7 0 (Nat.zero_le _) (by omega)
theorem Jtx{n kk:Nat}(hk:kk≤6)(hn:n≤2*bB)(hy:quN n kk≤Qw): Yf (quN n kk)=true:=by
 have hI:fI=9218868437227405312:=rfl
 have hO:Qw=4607182418800017408:=rfl
 have hF:fW=9223372036854775808:=rfl
 unfold Yf
 rw[JID hk hn hy]
 generalize quN n kk=y at *
 have m1:y % fW=y:=Nat.mod_eq_of_lt (by omega)
 have m2:(0:Nat) % fW=0:=rfl
 have m3:Qw % fW=Qw:=by decide
 have n1:UW y=false:=by unfold UW;rw[m1];exact J2 (by omega)
 have n2:UW 0=false:=by decide
 have n3:UW Qw=false:=by decide
 have g1:decide (fW≤y)=false:=J2 (by omega)
 have g2:decide (fW≤0)=false:=by decide
 have g3:decide (fW≤Qw)=false:=by decide
 have o1:UK y 0≥0:=by
  unfold UK J99
  rw[n1,n2,cond_false,cond_false,m1,m2,g1,g2,if_pos rfl]
  by_cases h:y=0
  ·rw[if_pos h];decide
  ·rw[if_neg h,J2 (by omega)];decide
 have o2:UK y Qw≤0:=by
  unfold UK J99
  rw[n1,n3,cond_false,cond_false,m1,m3,g1,g3,if_pos rfl]
  by_cases h:y=Qw
  ·rw[if_pos h];decide
  ·rw[if_neg h,J1 (by omega)];decide
 rw[J1 o1,J1 o2];rfl
end
section
open Go
theorem JGi {R:Type} (k:Nat) (i:Int) (nd:List Nd) (d:Dm) (brs:List Br) (z:Nat) (key val:List UInt8) (any:Bool) (dom up:Int) (hs:Bool) (r1:List UInt8) (r2 r3:Int) (r4:Nat) (r5 r6:Bool) (kd:List Int) (b:Br) (hi:inb i (brs.length:Int)=true) (hb:∀ z,brs.getD i.toNat z=b)
 (K:List Nd->Dm->List Br->Nat->List UInt8->List UInt8->Bool->Int->Int->Bool->List UInt8->Int->Int->Nat->Bool->Bool->List Int->Bool->Option R) :
 J9g k i nd d brs z key val any dom up hs r1 r2 r3 r4 r5 r6 kd K=K nd d brs z key val any dom up hs r1 r2 r3 r4 r5 r6 kd (J1d b key val any):=by
 unfold J9g JnI
 rw[hi,cond_true,hb]
 rfl
theorem JsO {R:Type} (k:Nat) (nd:List Nd) (d:Dm) (pre w:List Br) (z:Nat) (key val:List UInt8) (any:Bool) (dom up:Int) (hs:Bool) (r1:List UInt8) (r2 r3:Int) (r4:Nat) (r5 r6:Bool) (kd:List Int) (a:List Int) (hl:a.length≤4000) (ha:InA pre.length a w)
 (K:List Nd->Dm->List Br->Nat->List UInt8->List UInt8->Bool->Int->Int->Bool->List UInt8->Int->Int->Nat->Bool->Bool->List Int->Int->Option R):∀(s:List Int) (i m:Nat),a.drop i=s->i≤a.length->s.length<m ->
 ∃ j:Int,decide (j≥0)=Z1 pre.length s w key val any∧J3V k m nd d (pre++w) z key val any dom up hs r1 r2 r3 r4 r5 r6 kd a (a.length:Int) (i:Int) K=K nd d (pre++w) z key val any dom up hs r1 r2 r3 r4 r5 r6 kd j
 |s,i,0,_,_,h=>by omega
 |[],i,m+1,hd,hi,hm=>by
  have:=JE hd
  refine⟨-1,rfl,?_⟩
  rw[J3V,JbB,J2 (by omega)];rfl
 |c::s,i,m+1,hd,hi,hm=>by
  obtain⟨hlt,hc,hr⟩:=Jz hd
  have hm1:c∈a:=by
   have:=hc 0
   rw[List.getD,List.getElem?_eq_getElem hlt]at this
   rw[←this];exact List.getElem_mem _
  obtain⟨b,e1,e2,e3⟩:=Jv8 (pre:=pre) rfl (ha c hm1)
  rw[J3V,JbB,J1 (by omega),cond_true,Ja (by omega) (by omega),cond_true,Jb,hc,JGi k c nd d _ z key val any dom up hs r1 r2 r3 r4 r5 r6 kd b e3 e2]
  have et:Z1 pre.length (c::s) w key val any=(J1d b key val any || Z1 pre.length s w key val any):=by
   unfold Z1
   rw[List.any_cons,e1]
  rw[et]
  cases J1d b key val any with
  |true=>exact⟨(i:Int),by rw[Bool.true_or];exact J1 (by omega),rfl⟩
  |false =>
   rw[Bool.false_or,cond_false,J8 (by omega) (by omega),show(i:Int)+1=((i+1:Nat):Int) by omega]
   exact JsO k nd d pre w z key val any dom up hs r1 r2 r3 r4 r5 r6 kd a hl ha K s (i+1) m hr (by omega) (by simp at hm;omega)
theorem JFm {R:Type} (k:Nat) (hk:5000<k) (nd:List Nd) (d:Dm) (pre w:List Br) (z:Nat) (key val:List UInt8) (any:Bool) (dom up:Int) (hs:Bool) (r1:List UInt8) (r2 r3:Int) (r4:Nat) (r5 r6:Bool) (kd:List Int) (a:List Int) (hl:a.length≤4000) (ha:InA pre.length a w)
 (K:List Nd->Dm->List Br->Nat->List UInt8->List UInt8->Bool->Int->Int->Bool->List UInt8->Int->Int->Nat->Bool->Bool->List Int->Bool->Option R) :
 J3X k a nd d (pre++w) z key val any dom up hs r1 r2 r3 r4 r5 r6 kd K=K nd d (pre++w) z key val any dom up hs r1 r2 r3 r4 r5 r6 kd (Z1 pre.length a w key val any):=by
 unfold J3X Jnv JbF JgC
 obtain⟨j,e1,e2⟩:=JsO k nd d pre w z key val any dom up hs r1 r2 r3 r4 r5 r6 kd a hl ha (fun y21 y22 y23 y24 y25 y26 y27 y28 y29 y30 y31 y32 y33 y34 y35 y36 y37 y38=>K y21 y22 y23 y24 y25 y26 y27 y28 y29 y30 y31 y32 y33 y34 y35 y36 y37 (decide (y38≥0))) a 0 k rfl (Nat.zero_le _) (by omega)
 rw[←e1]
 exact e2
section
variable {nd:List Nd}
def J3I(nd:List Nd)(g k:Nat): Prop:=∀(R:Type) (d:Dm) (pre:List Br) (z:Nat) (n dom up:Int) (K:List Nd->Dm->List Br->Nat->List Int->Option R) (E:List Nd->Dm->List Br->Nat->Int->Int->Option R),InD nd n ->
 ∃ b',Yj k R nd d pre z n dom up (9-(g:Int)) K E=(ZH g nd z dom up pre.length n).run (fun p=>K nd d (pre++p.2) z p.1) (E nd d b' z)
def Jgr(nd:List Nd)(g k:Nat): Prop:=∀(R:Type) (d:Dm) (pre w:List Br) (z:Nat) (i dom up:Int) (a:List Int) (K:List Nd->Dm->List Br->Nat->Int->Option R) (E:List Nd->Dm->List Br->Nat->Int->Int->Option R),InD nd i->a.length≤4000->InA pre.length a w ->
 ∃ b',FR_config_reader_branch k R nd d (pre++w) z i [] [] false dom up false [] 0 0 0 false false [] a (9-(g:Int)) K E=(Up g nd z dom up pre.length i a w).run (fun p=>K nd d (pre++p.2) z p.1) (E nd d b' z)
def Jwd(k:Nat){R:Type}(nd:List Nd)(d:Dm)(b0 brs:List Br)(z:Nat)(i dom up deep:Int)(key val:List UInt8)(any:Bool)(K:List Nd->Dm->List Br->Nat->Int->Option R)(E:List Nd->Dm->List Br->Nat->Int->Int->Option R)(hs:Bool)(r1:List UInt8)(r2 r3:Int)(r4:Nat)(r6:Bool)(kd:List Int): Option R :=
 Y0 k nd i Uk (fun s=>bif (bif s then !hs else false)then QZ k nd i Uk (fun j _=>QB k nd j 17 (fun a b=>E nd d brs z a b))
  else Yj k R nd d brs z i dom (b0.length:Int) (IntKind.i64.wrap (deep+1)) (fun y66 y67 y68 y69 y70=>bif inb (b0.length:Int) (y68.length:Int)then @SH (List Br) R (List.set y68 (b0.length:Int).toNat (key,(val,(any,(dom,(up,(hs,((r1,(r2,(r3,(r4,(s,r6))))),y70)))))))) (fun y71=>K y66 y67 y71 y69 (b0.length:Int))else none) E) (fun a b=>E nd d brs z a b)
theorem Jva{k g:Nat}(D:Dk k nd)(hL:J3I nd g k)(hg:g≤8){R:Type}(d:Dm)(pre w:List Br)(x0:Br)(z:Nat)(i dom up:Int)(h:InD nd i)(key val:List UInt8)(any:Bool)(K:List Nd->Dm->List Br->Nat->Int->Option R)(E:List Nd->Dm->List Br->Nat->Int->Int->Option R)(hs:Bool)(r1:List UInt8)(r2 r3:Int)(r4:Nat)(r5 r6:Bool)(kd:List Int):
 ∃ b',Jwd k nd d (pre++w) ((pre++w)++[x0]) z i dom up (9-((g+1:Nat):Int)) key val any K E hs r1 r2 r3 r4 r6 kd =
  ((Qx (Jw nd i Uk) false (Zo nd)).bind fun s=>bif s && !hs then .er (17,QT nd ((Jw nd i Uk).getD 0))else
    (ZH g nd z dom ((pre.length+w.length:Nat):Int) (pre.length+w.length+1) i).bind fun p =>
    .ok (((pre.length+w.length:Nat):Int),w++(key,val,any,dom,up,hs,J3A (r1,r2,r3,r4,r5,r6) s,p.1)::p.2):Rz (Int×List Br)).run (fun p=>K nd d (pre++p.2) z p.1) (E nd d b' z):=by
 have e1:((pre++w).length:Int)=((pre.length+w.length:Nat):Int):=by rw[List.length_append]
 have e2:IntKind.i64.wrap ((9-((g+1:Nat):Int))+1)=9-(g:Int):=by rw[J8 (by omega) (by omega)];omega
 unfold Jwd
 rw[D.sboolk h,e2,e1]
 cases hr:Qx (Jw nd i Uk) false (Zo nd)with
 |er f=>exact⟨_,rfl⟩
 |ok s =>
  simp only[Rz.run,Rz.bind]
  have ec:(bif s then !hs else false)=(s && !hs):=by cases s<;>rfl
  rw[ec]
  cases hq:(s && !hs)with
  |true =>
   simp only[cond_true]
   have hs1:s=true:=by cases s with|true=>rfl|false=>cases hq
   cases hf:Jw nd i Uk with
   |none=>rw[hf,hs1]at hr;cases hr
   |some j =>
    rw[D.sfind h,hf]
    dsimp only
    rw[D.sfault (D.find h hf) 17 (by decide)]
    exact⟨_,rfl⟩
  |false =>
   simp only[cond_false]
   obtain⟨b',e⟩:=hL R d ((pre++w)++[x0]) z i dom ((pre.length+w.length:Nat):Int) (fun y66 y67 y68 y69 y70=>bif inb ((pre.length+w.length:Nat):Int) (y68.length:Int)then @SH (List Br) R (List.set y68 ((pre.length+w.length:Nat):Int).toNat (key,(val,(any,(dom,(up,(hs,((r1,(r2,(r3,(r4,(s,r6))))),y70)))))))) (fun y71=>K y66 y67 y71 y69 ((pre.length+w.length:Nat):Int))else none) E h
   have e3:((pre++w)++[x0]).length=pre.length+w.length+1:=by simp;omega
   rw[e,e3]
   cases ZH g nd z dom ((pre.length+w.length:Nat):Int) (pre.length+w.length+1) i with
   |er f=>exact⟨b',rfl⟩
   |ok p =>
    refine⟨b',?_⟩
    have e4:((pre++w)++[x0])++p.2=(pre++w)++x0::p.2:=by simp
    have e5:inb ((pre.length+w.length:Nat):Int) (((pre++w)++x0::p.2).length:Int)=true:=Ja (by omega) (by simp;omega)
    have e6:((pre.length+w.length:Nat):Int).toNat=(pre++w).length:=by rw[List.length_append];rfl
    have e7:∀ y:Br,(pre++w)++y::p.2=pre++(w++y::p.2):=fun y=>by simp
    show(bif inb ((pre.length+w.length:Nat):Int) ((((pre++w)++[x0])++p.2).length:Int)then K nd d (List.set (((pre++w)++[x0])++p.2) ((pre.length+w.length:Nat):Int).toNat (key,(val,(any,(dom,(up,(hs,((r1,(r2,(r3,(r4,(s,r6))))),p.1)))))))) z ((pre.length+w.length:Nat):Int)else none)=K nd d (pre++(w++(key,(val,(any,(dom,(up,(hs,((r1,(r2,(r3,(r4,(s,r6))))),p.1)))))))::p.2)) z ((pre.length+w.length:Nat):Int)
    rw[e4,e5,cond_true,e6,Jv9,e7]
theorem JvL{n:Nat}(h:n<500)(b:Nat)(hb:b≤1000): Ju n 1 b=true:=by
 unfold Ju
 have h1:(n+1)*b≤501*1000:=Nat.mul_le_mul (by omega) hb
 rw[J1 (show n+1≤J1f by have:J1f=9223372036854775807:=rfl;omega),J1 (show(n+1)*b≤140737488355328 by omega)];rfl
def Jww(k:Nat){R:Type}(nd:List Nd)(d:Dm)(brs:List Br)(z:Nat)(i dom up deep:Int)(key val:List UInt8)(any:Bool)(a:List Int)(K:List Nd->Dm->List Br->Nat->Int->Option R)(E:List Nd->Dm->List Br->Nat->Int->Int->Option R): Option R :=
 J3X k a nd d brs z key val any dom up false [] 0 0 0 false false [] (fun y35 y36 y37 y38 y39 y40 y41 y42 y43 y44 y45 y46 y47 y48 y49 y50 y51 y52=>bif y52 then QB k y35 i 7 (fun y53 y54=>E y35 y36 y37 y38 y53 y54)
  else bif Ju y37.length (@List.length Br [(y39,(y40,(y41,(y42,(y43,(y44,((y45,(y46,(y47,(y48,(y49,y50))))),y51)))))))]) 136 then QZ k y35 i J3z (fun y53 y54=>bif y54 then J47 k y35 y36 (y37++[(y39,(y40,(y41,(y42,(y43,(y44,((y45,(y46,(y47,(y48,(y49,y50))))),y51)))))))]) y38 y53 (fun y55 y56 y57 y58 y59 y60 y61 y62 y63 y64 =>
   Y0 k y55 i Uk (fun y65=>bif (bif y65 then !true else false)then QZ k y55 i Uk (fun y66 y67=>QB k y55 y66 17 (fun y68 y69=>E y55 y56 y57 y58 y68 y69))
    else Yj k R y55 y56 y57 y58 i y42 (y37.length:Int) (IntKind.i64.wrap (deep+1)) (fun y66 y67 y68 y69 y70=>bif inb (y37.length:Int) (y68.length:Int)then @SH (List Br) R (List.set y68 (y37.length:Int).toNat (y39,(y40,(y41,(y42,(y43,(true,((y59,(y60,(y61,(y62,(y65,y64))))),y70)))))))) (fun y71=>K y66 y67 y71 y69 (y37.length:Int))else none) E) (fun y65 y66=>E y55 y56 y57 y58 y65 y66)) E
   else Y0 k y35 i Uk (fun y55=>bif (bif y55 then !y44 else false)then QZ k y35 i Uk (fun y56 y57=>QB k y35 y56 17 (fun y58 y59=>E y35 y36 (y37++[(y39,(y40,(y41,(y42,(y43,(y44,((y45,(y46,(y47,(y48,(y49,y50))))),y51)))))))]) y38 y58 y59))
    else Yj k R y35 y36 (y37++[(y39,(y40,(y41,(y42,(y43,(y44,((y45,(y46,(y47,(y48,(y49,y50))))),y51)))))))]) y38 i y42 (y37.length:Int) (IntKind.i64.wrap (deep+1)) (fun y56 y57 y58 y59 y60=>bif inb (y37.length:Int) (y58.length:Int)then @SH (List Br) R (List.set y58 (y37.length:Int).toNat (y39,(y40,(y41,(y42,(y43,(y44,((y45,(y46,(y47,(y48,(y55,y50))))),y60)))))))) (fun y61=>K y56 y57 y61 y59 (y37.length:Int))else none) E) (fun y55 y56=>E y35 y36 (y37++[(y39,(y40,(y41,(y42,(y43,(y44,((y45,(y46,(y47,(y48,(y49,y50))))),y51)))))))]) y38 y55 y56))
  else none)
theorem JvM{k g:Nat}(D:Dk k nd)(hL:J3I nd g k)(hg:g≤8){R:Type}(d:Dm)(pre w:List Br)(z:Nat)(i dom up:Int)(h:InD nd i)(key val:List UInt8)(any:Bool)(a:List Int)(hl:a.length≤4000)(ha:InA pre.length a w)(h5:pre.length+w.length<500)(K:List Nd->Dm->List Br->Nat->Int->Option R)(E:List Nd->Dm->List Br->Nat->Int->Int->Option R):
 ∃ b',Jww k nd d (pre++w) z i dom up (9-((g+1:Nat):Int)) key val any a K E =
  (bif Z1 pre.length a w key val any then .er (7,QT nd i)else
   (J3H nd z i).bind fun hr=>(Qx (Jw nd i Uk) false (Zo nd)).bind fun s =>
   bif s && !hr.1 then .er (17,QT nd ((Jw nd i Uk).getD 0))else
   (ZH g nd z dom ((pre.length+w.length:Nat):Int) (pre.length+w.length+1) i).bind fun p =>
   .ok (((pre.length+w.length:Nat):Int),w++(key,val,any,dom,up,hr.1,J3A hr.2 s,p.1)::p.2):Rz (Int×List Br)).run (fun p=>K nd d (pre++p.2) z p.1) (E nd d b' z):=by
 have hk:=D.hk
 unfold Jww
 rw[JFm k (by omega) nd d pre w z key val any dom up false [] 0 0 0 false false [] a hl ha]
 cases Z1 pre.length a w key val any with
 |true =>
  refine⟨pre++w,?_⟩
  simp only[cond_true]
  exact D.sfault h 7 (by decide) _
 |false =>
  have hf:Ju (pre++w).length (@List.length Br [(key,(val,(any,(dom,(up,(false,(([],((0:Int),((0:Int),((0:Nat),(false,false))))),([]:List Int))))))))]) 136=true:=JvL (by rw[List.length_append];exact h5) 136 (by decide)
  simp only[cond_false]
  rw[hf,cond_true,D.sfind h]
  unfold J3H
  cases hq:Jw nd i J3z with
  |none=>exact Jva D hL hg d pre w (key,(val,(any,(dom,(up,(false,(([],((0:Int),((0:Int),((0:Nat),(false,false))))),[]))))))) z i dom up h key val any K E false [] 0 0 0 false false []
  |some j =>
   simp only[cond_true,Qx]
   rw[D.srule (D.find h hq)]
   cases J1c nd z j with
   |er f=>exact⟨_,rfl⟩
   |ok r=>exact Jva D hL hg d pre w (key,(val,(any,(dom,(up,(false,(([],((0:Int),((0:Int),((0:Nat),(false,false))))),[]))))))) z i dom up h key val any K E true r.1 r.2.1 r.2.2.1 r.2.2.2.1 r.2.2.2.2.1 r.2.2.2.2.2 []
theorem JIE{k g:Nat}(D:Dk k nd)(hg:g≤8)(hL:J3I nd g k): Jgr nd (g+1) (k+1):=by
 intro R d pre w z i dom up a K E h hl ha
 have hk:=D.hk
 rw[FR_config_reader_branch,Up]
 unfold Jc5
 rw[J2 (show ¬ (9-((g+1:Nat):Int))>8 by omega),cond_false,List.length_append]
 by_cases h5:500≤pre.length+w.length
 ·rw[J1 (show((pre.length+w.length:Nat):Int)≥500 by omega),J1 h5]
  refine⟨pre++w,?_⟩
  simp only[cond_true]
  exact D.sfault h 9 (by decide) _
 ·rw[J2 (show ¬ ((pre.length+w.length:Nat):Int)≥500 by omega),J2 h5,cond_false,cond_false,D.sknownk h _ (by decide)]
  cases YB nd i [J8X,J5B,J3z,Uk,ZC]with
  |er f=>exact⟨_,rfl⟩
  |ok _ =>
   simp only[Rz.run,Rz.bind]
   rw[D.smust h]
   cases hm:Uq nd i J8X with
   |er f=>exact⟨_,rfl⟩
   |ok kk =>
    simp only[Rz.run]
    rw[D.snamek (JfC D h hm)]
    cases Zp nd kk with
    |er f=>exact⟨_,rfl⟩
    |ok key =>
     simp only[Rz.run]
     rw[D.sfind h]
     unfold J8M
     cases hv:Jw nd i J5B with
     |none=>exact JvM D hL hg d pre w z i dom up h key [] true a hl ha (by omega) K E
     |some j =>
      simp only[cond_true,Qx]
      rw[D.swordk (D.find h hv)]
      cases J1H nd j with
      |er f=>exact⟨_,rfl⟩
      |ok v=>exact JvM D hL hg d pre w z i dom up h key v false a hl ha (by omega) K E
theorem JJT{k:Nat}(D:Dk k nd): Jgr nd 0 (k+1):=by
 intro R d pre w z i dom up a K E h hl ha
 rw[FR_config_reader_branch,Up]
 unfold Jc5
 rw[J1 (show(9-((0:Nat):Int))>8 by decide),cond_true]
 exact⟨pre++w,D.sfault h 8 (by decide) _⟩
theorem JfX{n:Nat}(h:n≤4000)(b:Nat)(hb:b≤1000): Ju n 1 b=true:=by
 unfold Ju
 have h1:(n+1)*b≤4001*1000:=Nat.mul_le_mul (by omega) hb
 rw[J1 (show n+1≤J1f by have:J1f=9223372036854775807:=rfl;omega),J1 (show(n+1)*b≤140737488355328 by omega)];rfl
theorem Dk.kidsLen{k:Nat}(D:Dk k nd){i:Int}(h:InD nd i): (Um nd i).length≤4000:=by
 obtain⟨n,x,rfl,h1,a⟩:=D.at h
 unfold Um
 rw[h1]
 exact a.ok.2.2.1
theorem Jui{k:Nat}(D:Dk k nd){n:Int}(h:InD nd n){key:List UInt8}{its:List Int}(e:YY nd n key = .ok its): its.length≤4000∧∀ j∈its,InD nd j:=by
 unfold YY at e
 cases hf:Jw nd n key with
 |none=>rw[hf]at e;injection e with e;rw[←e];exact⟨by simp,fun j hj=>by cases hj⟩
 |some j =>
  rw[hf]at e
  obtain⟨_,_,e⟩:=JA e
  injection e with e
  rw[←e]
  exact⟨D.kidsLen (D.find h hf),D.kids (D.find h hf)⟩
theorem Jty{k g:Nat}(hB:Jgr nd g k){R:Type}(d:Dm)(pre:List Br)(z:Nat)(dom up:Int)(its:List Int)(hi:its.length≤4000)(hj:∀ j∈its,InD nd j)(K:List Nd->Dm->List Br->Nat->List Int->Option R)(E:List Nd->Dm->List Br->Nat->Int->Int->Option R): ∀(s:List Int) (i m:Nat) (a:List Int) (w:List Br),its.drop i=s->i≤its.length->s.length<m->a.length=i->InA pre.length a w ->
 ∃ b',J2T k (Yj k) (FR_config_reader_branch k) m nd d (pre++w) z dom up (9-(g:Int)) a its (its.length:Int) (i:Int) K E=(ZG (Up g nd z dom up pre.length) s a w).run (fun p=>K nd d (pre++p.2) z p.1) (E nd d b' z)
 |s,i,0,_,_,_,_,h,_,_=>by omega
 |[],i,m+1,a,w,hd,hil,hm,hal,ha=>by
  have:=JE hd
  refine⟨pre++w,?_⟩
  rw[J2T,JbQ,J2 (by omega)];rfl
 |c::s,i,m+1,a,w,hd,hil,hm,hal,ha=>by
  obtain⟨hlt,hc,hr⟩:=Jz hd
  have hm1:c∈its:=by
   have:=hc 0
   rw[List.getD,List.getElem?_eq_getElem hlt]at this
   rw[←this];exact List.getElem_mem _
  rw[J2T,JbQ,J1 (by omega),cond_true,Ja (by omega) (by omega),cond_true,Jb,hc]
  obtain⟨b',e⟩:=hB R d pre w z c dom up a (fun y16 y17 y18 y19 y20=>cond (Ju a.length (@List.length (@Kd.T kI) [y20]) 8) (J2T k (Yj k) (FR_config_reader_branch k) m y16 y17 y18 y19 dom up (9-(g:Int)) (a++[y20]) its (its.length:Int) (IntKind.i64.wrap ((i:Int)+1)) K E) none) E (hj c hm1) (by omega) ha
  rw[e,ZG]
  cases hb:Up g nd z dom up pre.length c a w with
  |er f=>exact⟨b',rfl⟩
  |ok p =>
   obtain⟨h1,b,l,h2⟩:=Jtw hb
   obtain⟨q,w'⟩:=p
   dsimp only at h1 h2
   subst h1 h2
   simp only[Rz.run,Rz.bind]
   have hf:Ju a.length (@List.length (@Kd.T kI) [((pre.length+w.length:Nat):Int)]) 8=true:=JfX (by omega) 8 (by decide)
   rw[hf,cond_true,J8 (by omega) (by omega),show(i:Int)+1=((i+1:Nat):Int) by omega]
   exact Jty hB d pre z dom up its hi hj K E s (i+1) m _ _ hr (by omega) (by simp at hm;omega) (by simp;omega) (Jug ha)
theorem Juj{k g:Nat}(D:Dk k nd)(hB:Jgr nd g k): J3I nd g (k+1):=by
 intro R d pre z n dom up K E h
 have hk:=D.hk
 rw[Yj]
 unfold Jcn
 rw[D.sitems h]
 unfold ZH
 cases hi:YY nd n ZC with
 |er f=>exact⟨_,rfl⟩
 |ok its =>
  obtain⟨i1,i2⟩:=Jui D h hi
  have e:=Jty hB d pre z dom up its i1 i2 K E its 0 k [] [] rfl (Nat.zero_le _) (by omega) rfl (Jv7 _)
  rw[List.append_nil]at e
  exact e
theorem JvN(hn:nd.length≤4000)(ho:∀ x∈nd,okD x)(hc:UF nd=true): ∀(g k:Nat),6002+2*g<k->g≤8->J3I nd g k
 |g,0,h,_=>by omega
 |0,1,h,_=>by omega
 |0,k+2,h,_=>Juj ⟨by omega,hn,ho,hc⟩ (JJT ⟨by omega,hn,ho,hc⟩)
 |g+1,1,h,_=>by omega
 |g+1,k+2,h,hg=>Juj ⟨by omega,hn,ho,hc⟩ (JIE ⟨by omega,hn,ho,hc⟩ (by omega) (JvN hn ho hc g k (by omega) (by omega)))
end
end
section
open Go
theorem JsP{R:Type}(k:Nat)(d:Dm)(hl:d.length≤4000)(s:List UInt8)(K:List UInt8->Int->Option R): ∀(r:Dm) (i m:Nat),d.drop i=r->i≤d.length->r.length<m ->
 ∃ j:Int,decide (j≥0)=r.any (fun x=>x.1 == s)∧J3U k m s d (d.length:Int) (i:Int) K=K s j
 |r,i,0,_,_,h=>by omega
 |[],i,m+1,hd,hi,hm=>by
  have:=JE hd
  refine⟨-1,rfl,?_⟩
  rw[J3U,Jby,J2 (by omega)];rfl
 |c::r,i,m+1,hd,hi,hm=>by
  obtain⟨hlt,hc,hr⟩:=Jz hd
  rw[J3U,Jby,J1 (by omega),cond_true,Ja (by omega) (by omega),cond_true,Jb,hc]
  unfold JbT JnJ
  rw[List.any_cons]
  cases c.1 == s with
  |true=>exact⟨(i:Int),by rw[Bool.true_or];exact J1 (by omega),rfl⟩
  |false =>
   dsimp only
   rw[Bool.false_or,cond_false,J8 (by omega) (by omega),show(i:Int)+1=((i+1:Nat):Int) by omega]
   exact JsP k d hl s K r (i+1) m hr (by omega) (by simp at hm;omega)
theorem JHP{R:Type}(k:Nat)(hk:5000<k)(d:Dm)(hl:d.length≤4000)(s:List UInt8)(K:List UInt8->Bool->Option R): J65 k d s K=K s (d.any fun x=>x.1 == s):=by
 unfold J65 Jnt Jbz Jgx
 obtain⟨j,e1,e2⟩:=JsP k d hl s (fun y5 y6=>K y5 (decide (y6≥0))) d 0 k rfl (Nat.zero_le _) (by omega)
 rw[←e1]
 exact e2
theorem JlS(d:Dm)(x y:List UInt8×List Int): (d++[x]).set d.length y=d++[y]:=by simp
theorem JlT(d:Dm)(x z:List UInt8×List Int): (d++[x]).getD d.length z=x:=by simp[List.getD]
section
variable {nd:List Nd}
theorem JJU{k:Nat}(D:Dk k nd)(hL:J3I nd 8 k){R:Type}(d:Dm)(b:List Br)(z:Nat)(n:Int)(h:InD nd n)(hd:d.length<16)(K:List Nd->Dm->List Br->Nat->Option R)(E:List Nd->Dm->List Br->Nat->Int->Int->Option R):
 ∃ d' b',J0I k nd d b z n K E=(J0G nd z d b.length n).run (fun p=>K nd (d++[p.1]) (b++p.2) z) (E nd d' b' z):=by
 have hk:=D.hk
 unfold J0I JgV J0G
 rw[D.sknownk h _ (by decide)]
 cases YB nd n [J8y,ZC]with
 |er f=>exact⟨_,_,rfl⟩
 |ok _ =>
  simp only[Rz.run,Rz.bind]
  rw[D.smust h]
  cases hm:Uq nd n J8y with
  |er f=>exact⟨_,_,rfl⟩
  |ok j =>
   have hj:=JfC D h hm
   simp only[Rz.run]
   rw[D.snamek hj]
   cases Zp nd j with
   |er f=>exact⟨_,_,rfl⟩
   |ok s =>
    simp only[Rz.run]
    rw[JHP k (by omega) d (by omega)]
    cases d.any (fun x=>x.1 == s)with
    |true =>
     refine⟨d,b,?_⟩
     simp only[cond_true]
     exact D.sfault hj 7 (by decide) _
    |false =>
     have hf:Ju d.length (@List.length (List UInt8×List Int) [(s,([]:List Int))]) 40=true:=JfX (by omega) 40 (by decide)
     have e0:IntKind.i64.wrap (((d++[(s,([]:List Int))]).length:Int)-1)=((d.length:Nat):Int):=by rw[J8 (by simp<;>omega) (by simp<;>omega)];simp
     simp only[cond_false]
     obtain⟨b',e⟩:=hL R (d++[(s,[])]) b z n ((d.length:Nat):Int) (-1) (fun y16 y17 y18 y19 y20=>bif inb (IntKind.i64.wrap ((y17.length:Int)-1)) (y17.length:Int)then @SH Dm R (List.set y17 (IntKind.i64.wrap ((y17.length:Int)-1)).toNat ((y17.getD (IntKind.i64.wrap ((y17.length:Int)-1)).toNat (Kd.zero (.pr .str (.sl kI)))).1,y20)) (fun y21=>K y16 y21 y18 y19)else none) E h
     refine⟨d++[(s,[])],b',?_⟩
     rw[hf,cond_true,e0]
     refine Eq.trans e ?_
     cases ZH 8 nd z ((d.length:Nat):Int) (-1) b.length n with
     |er f=>rfl
     |ok p =>
      show(bif inb (IntKind.i64.wrap (((d++[(s,([]:List Int))]).length:Int)-1)) ((d++[(s,([]:List Int))]).length:Int)then K nd (List.set (d++[(s,[])]) (IntKind.i64.wrap (((d++[(s,([]:List Int))]).length:Int)-1)).toNat (((d++[(s,[])]).getD (IntKind.i64.wrap (((d++[(s,([]:List Int))]).length:Int)-1)).toNat (Kd.zero (.pr .str (.sl kI)))).1,p.1)) (b++p.2) z else none)=K nd (d++[(s,p.1)]) (b++p.2) z
      rw[e0,Ja (by omega) (by simp<;>omega),cond_true,Jb,JlT,JlS]
theorem Jtz{k:Nat}(D:Dk k nd)(hL:J3I nd 8 k){R:Type}(z:Nat)(its:List Int)(hi:its.length≤4000)(hj:∀ j∈its,InD nd j)(K:List Nd->Dm->List Br->Nat->Option R)(E:List Nd->Dm->List Br->Nat->Int->Int->Option R): ∀(s:List Int) (i m:Nat) (d:Dm) (b:List Br),its.drop i=s->i≤its.length->s.length<m->d.length=i ->
 ∃ d' b',J2U k (@Qh k) (@QM k) (@Ui k) (@Us k) (@QY k) (@ZP k) (@QB k) (@J0I k) m nd d b z its (its.length:Int) (i:Int) K E=(J0A nd z s d b).run (fun p=>K nd p.1 p.2 z) (E nd d' b' z)
 |s,i,0,_,_,_,_,h,_=>by omega
 |[],i,m+1,d,b,hd,hil,hm,hdl=>by
  have:=JE hd
  refine⟨d,b,?_⟩
  rw[J2U,JbR,J2 (by omega)];rfl
 |c::s,i,m+1,d,b,hd,hil,hm,hdl=>by
  obtain⟨hlt,hc,hr⟩:=Jz hd
  have hm1:c∈its:=by
   have:=hc 0
   rw[List.getD,List.getElem?_eq_getElem hlt]at this
   rw[←this];exact List.getElem_mem _
  rw[J2U,JbR,J1 (by omega),cond_true,Ja (by omega) (by omega),cond_true,Jb,hc,J0A]
  by_cases h16:16≤d.length
  ·rw[J1 h16,J1 (show(i:Int)≥16 by omega)]
   refine⟨d,b,?_⟩
   simp only[cond_true]
   exact D.sfault (hj c hm1) 9 (by decide) _
  ·rw[J2 h16,J2 (show ¬ (i:Int)≥16 by omega),cond_false,cond_false]
   obtain⟨d',b',e⟩:=JJU D hL d b z c (hj c hm1) (by omega) (fun y12 y13 y14 y15=>J2U k (@Qh k) (@QM k) (@Ui k) (@Us k) (@QY k) (@ZP k) (@QB k) (@J0I k) m y12 y13 y14 y15 its (its.length:Int) (IntKind.i64.wrap ((i:Int)+1)) K E) E
   rw[e]
   cases J0G nd z d b.length c with
   |er f=>exact⟨d',b',rfl⟩
   |ok p =>
    simp only[Rz.run,Rz.bind]
    rw[J8 (by omega) (by omega),show(i:Int)+1=((i+1:Nat):Int) by omega]
    exact Jtz D hL z its hi hj K E s (i+1) m _ _ hr (by omega) (by simp at hm;omega) (by simp;omega)
def z08:Nat:=4605380978949069210
theorem Jwe:rdS [48,46,56]=some z08:=by decide +kernel
theorem Jwx(hc:UF nd=true): InD nd 0:=by
 unfold UF at hc
 simp only[Bool.and_eq_true,decide_eq_true_eq]at hc
 exact⟨Int.le_refl _,by omega⟩
theorem JJI{k:Nat}(D:Dk k nd)(hL:J3I nd 8 k){R:Type}(z:Nat)(K:List Nd->Dm->List Br->Nat->Option R)(E:List Nd->Dm->List Br->Nat->Int->Int->Option R):
 ∃ d' b' z1 z2,J9o k nd [] [] z K E=(J1I nd z08).run (fun p=>K nd p.1 p.2 z1) (E nd d' b' z2):=by
 have hk:=D.hk
 have h:=Jwx D.hc
 unfold J9o Jcq J1I
 rw[D.sknownk h _ (by decide)]
 cases YB nd 0 [QJ,J0t]with
 |er f=>exact⟨_,_,0,_,rfl⟩
 |ok _ =>
  simp only[Rz.run,Rz.bind]
  rw[JiW k _ (by decide) (by omega),Jwe]
  simp only[rdK]
  rw[D.sratio h]
  cases Qx (Jw nd 0 QJ) z08 (ZM nd)with
  |er f=>exact⟨_,_,0,_,rfl⟩
  |ok z =>
   simp only[Rz.run]
   rw[D.smust h]
   cases Uq nd 0 J0t with
   |er f=>exact⟨_,_,0,_,rfl⟩
   |ok _ =>
    simp only[Rz.run]
    rw[D.sitems h]
    cases hi:YY nd 0 J0t with
    |er f=>exact⟨_,_,0,_,rfl⟩
    |ok its =>
     obtain⟨i1,i2⟩:=Jui D h hi
     obtain⟨d',b',e⟩:=Jtz D hL z its i1 i2 K E its 0 k [] [] rfl (Nat.zero_le _) (by omega) rfl
     exact⟨d',b',z,z,e⟩
def ofR(nd:List Nd): Rz (Dm×List Br):=bif UF nd then J1I nd z08 else .er (11,0)
theorem Jrl{k:Nat}(hk:6100<k)(hn:nd.length≤4000)(ho:∀ x∈nd,okD x){R:Type}(K:Dm->List Br->Int->Int->Option R): J3k k nd K=(ofR nd).run (fun p=>K p.1 p.2 0 0) (K [] []):=by
 unfold J3k Jkf ofR
 rw[JDa k nd hn ho (by omega)]
 cases hc:UF nd with
 |false=>rfl
 |true =>
  have D:Dk k nd:=⟨by omega,hn,ho,hc⟩
  obtain⟨d',b',z1,z2,e⟩:=JJI D (JvN hn ho hc 8 k (by omega) (by omega)) 0 (fun y5 y6 y7 y8=>J9E k y6 y7 0 0 K) (fun y5 y6 y7 y8 y9 y10=>J9F k [] [] 0 0 y9 y10 K)
  refine Eq.trans e ?_
  cases J1I nd z08<;>rfl
end
end
section
open Go
abbrev kBr:Kd := .pr .str (.pr .str (.pr .bool (.pr kI (.pr kI (.pr .bool (.pr (.pr .str (.pr kI (.pr kI (.pr .flt (.pr .bool .bool))))) (.sl kI)))))))
def Jnm(x:Br)(q:List Int): Br:=(x.1,(x.2.1,(x.2.2.1,(x.2.2.2.1,(x.2.2.2.2.1,(x.2.2.2.2.2.1,(x.2.2.2.2.2.2.1,q)))))))
abbrev RKc(R:Type):= List Nd->Nat->Dm->List Br->Int->Int->Int->Option R
abbrev RKL(R:Type):= List Nd->Nat->Dm->List Br->Int->Int->List Int->Option R
section
variable {nd:List Nd}
def J9b(g:Nat)(nd:List Nd)(z:Nat)(dom up:Int)(b0:Nat)(j:Int): Rz (List Int×List Br):=(Z0 nd j 2).bind fun _=>ZG (Up g nd z dom up b0) (Um nd j) [] []
theorem Juk(g:Nat)(z:Nat)(dom up:Int)(b0:Nat)(n:Int): ZH g nd z dom up b0 n=match Jw nd n ZC with|some j=>J9b g nd z dom up b0 j|none => .ok ([],[]):=by
 unfold ZH YY J9b
 cases Jw nd n ZC with
 |none=>rfl
 |some j=>simp only[Qx];cases Z0 nd j 2<;>rfl
def J1T(nd:List Nd)(g k:Nat): Prop:=∀(R:Type) (d:Dm) (pre:List Br) (z:Nat) (j dom up:Int) (K:RKL R),InD nd j ->
 ∃ b' q,pre.length≤b'.length∧UL k R nd z d pre 0 0 j dom up (9-(g:Int)) K=(J9b g nd z dom up pre.length j).run (fun p=>K nd z d (pre++p.2) 0 0 p.1) (fun e f=>K nd z d b' e f q)
def RBr(nd:List Nd)(g k:Nat): Prop:=∀(R:Type) (d:Dm) (pre w:List Br) (z:Nat) (i dom up:Int) (a:List Int) (K:RKc R),InD nd i->a.length≤4000->InA pre.length a w ->
 ∃ b' q,pre.length≤b'.length∧FR_ref15_reader_branch k R nd z d (pre++w) 0 0 i dom up (9-(g:Int)) a K=(Up g nd z dom up pre.length i a w).run (fun p=>K nd z d (pre++p.2) 0 0 p.1) (fun e f=>K nd z d b' e f q)
def Jgg(k:Nat){R:Type}(nd:List Nd)(z:Nat)(d:Dm)(b:List Br)(f1 f2 i dom deep:Int)(x:Br)(K:RKc R): Option R :=
 bif Ju b.length (@List.length Br [x]) 136 then Q6 k nd i ZC (fun y54 y55=>bif y55 then UL k R nd z d (b++[x]) f1 f2 y54 dom (b.length:Int) (IntKind.i64.wrap (deep+1)) (fun y56 y57 y58 y59 y60 y61 y62=>bif inb (b.length:Int) (y59.length:Int)then
  @SH (List Br) R (List.set y59 (b.length:Int).toNat (Jnm (y59.getD (b.length:Int).toNat (Kd.zero kBr)) y62)) (fun y63=>K y56 y57 y58 y63 y60 y61 (b.length:Int))else none)else K nd z d (b++[x]) f1 f2 (b.length:Int))else none
theorem JIF(pre:List Br)(x z:Br)(l:List Br): (pre++x::l).getD pre.length z=x:=by simp[List.getD]
theorem Jul{k g:Nat}(D:Dk k nd)(hL:J1T nd g k)(hg:g≤8){R:Type}(d:Dm)(pre w:List Br)(z:Nat)(i dom up:Int)(h:InD nd i)(h5:pre.length+w.length<500)(key val:List UInt8)(any hs:Bool)(r:Rl)(K:RKc R):
 ∃ b' q,pre.length≤b'.length∧Jgg k nd z d (pre++w) 0 0 i dom (9-((g+1:Nat):Int)) (key,(val,(any,(dom,(up,(hs,(r,[]))))))) K =
  ((ZH g nd z dom ((pre.length+w.length:Nat):Int) (pre.length+w.length+1) i).bind fun p => .ok (((pre.length+w.length:Nat):Int),w++(key,val,any,dom,up,hs,r,p.1)::p.2):Rz (Int×List Br)).run (fun p=>K nd z d (pre++p.2) 0 0 p.1) (fun e f=>K nd z d b' e f q):=by
 have e1:((pre++w).length:Int)=((pre.length+w.length:Nat):Int):=by rw[List.length_append]
 have e2:IntKind.i64.wrap ((9-((g+1:Nat):Int))+1)=9-(g:Int):=by rw[J8 (by omega) (by omega)];omega
 have hf:∀ x:Br,Ju (pre++w).length (@List.length Br [x]) 136=true:=fun x=>JvL (by rw[List.length_append];exact h5) 136 (by decide)
 have e6:((pre.length+w.length:Nat):Int).toNat=(pre++w).length:=by rw[List.length_append];rfl
 have e7:∀(y:Br) (l:List Br),(pre++w)++y::l=pre++(w++y::l):=fun y l=>by simp
 unfold Jgg
 rw[hf,cond_true,e2,e1,D.rfind h,Juk]
 cases hq:Jw nd i ZC with
 |none =>
  refine⟨pre,0,Nat.le_refl _,?_⟩
  show K nd z d ((pre++w)++[_]) 0 0 _=K nd z d (pre++(w++_::[])) 0 0 _
  rw[e7]
 |some j =>
  simp only[cond_true]
  have e3:((pre++w)++[(key,(val,(any,(dom,(up,(hs,(r,([]:List Int))))))))]).length=pre.length+w.length+1:=by simp;omega
  obtain⟨b',q,hb,e⟩:=hL R d ((pre++w)++[(key,(val,(any,(dom,(up,(hs,(r,[])))))))]) z j dom ((pre.length+w.length:Nat):Int) (fun y56 y57 y58 y59 y60 y61 y62=>bif inb ((pre.length+w.length:Nat):Int) (y59.length:Int)then
   @SH (List Br) R (List.set y59 ((pre.length+w.length:Nat):Int).toNat (Jnm (y59.getD ((pre.length+w.length:Nat):Int).toNat (Kd.zero kBr)) y62)) (fun y63=>K y56 y57 y58 y63 y60 y61 ((pre.length+w.length:Nat):Int))else none) (D.find h hq)
  rw[e3]at e hb
  refine⟨List.set b' ((pre.length+w.length:Nat):Int).toNat (Jnm (b'.getD ((pre.length+w.length:Nat):Int).toNat (Kd.zero kBr)) q),((pre.length+w.length:Nat):Int),?_,Eq.trans e ?_⟩
  ·rw[List.length_set];omega
  ·cases J9b g nd z dom ((pre.length+w.length:Nat):Int) (pre.length+w.length+1) j with
   |er f =>
    show(bif inb ((pre.length+w.length:Nat):Int) (b'.length:Int)then _ else none)=_
    rw[Ja (by omega) (by omega),cond_true]
    rfl
   |ok p =>
    have e4:∀ x:Br,((pre++w)++[x])++p.2=(pre++w)++x::p.2:=fun x=>by simp
    show(bif inb ((pre.length+w.length:Nat):Int) ((((pre++w)++[_])++p.2).length:Int)then K nd z d (List.set (((pre++w)++[_])++p.2) ((pre.length+w.length:Nat):Int).toNat _) 0 0 _ else none)=K nd z d (pre++(w++_::p.2)) 0 0 _
    rw[e4,Ja (by omega) (by simp;omega),cond_true,e6,JIF,Jv9,e7]
    rfl
def Jn6(k:Nat){R:Type}(nd:List Nd)(z:Nat)(d:Dm)(b:List Br)(f1 f2 i dom up deep:Int)(key val:List UInt8)(any:Bool)(K:RKc R)(hs:Bool)(r1:List UInt8)(r2 r3:Int)(r4:Nat)(r5 r6:Bool): Option R :=
 Q6 k nd i Uk (fun y30 y31=>bif y31 then Za k nd y30 (fun y32 y33 y34=>JY k nd z d b f1 f2 y33 y34 (fun y35 y36 y37 y38 y39 y40 y41=>bif y41 then K y35 y36 y37 y38 y39 y40 0 else bif (bif y32 then !hs else false)then Ql k y35 y36 y37 y38 y39 y40 y30 17 (fun y42 y43 y44 y45 y46 y47 y48=>K y42 y43 y44 y45 y46 y47 0)
  else Jgg k y35 y36 y37 y38 y39 y40 i dom deep (key,(val,(any,(dom,(up,(hs,((r1,(r2,(r3,(r4,(y32,r6))))),[]))))))) K))else Jgg k nd z d b f1 f2 i dom deep (key,(val,(any,(dom,(up,(hs,((r1,(r2,(r3,(r4,(r5,r6))))),[]))))))) K)
theorem Jum{k g:Nat}(D:Dk k nd)(hL:J1T nd g k)(hg:g≤8){R:Type}(d:Dm)(pre w:List Br)(z:Nat)(i dom up:Int)(h:InD nd i)(h5:pre.length+w.length<500)(key val:List UInt8)(any:Bool)(K:RKc R)(hs:Bool)(r1:List UInt8)(r2 r3:Int)(r4:Nat)(r6:Bool):
 ∃ b' q,pre.length≤b'.length∧Jn6 k nd z d (pre++w) 0 0 i dom up (9-((g+1:Nat):Int)) key val any K hs r1 r2 r3 r4 false r6 =
  ((Qx (Jw nd i Uk) false (Zo nd)).bind fun s=>bif s && !hs then .er (17,QT nd ((Jw nd i Uk).getD 0))else
    (ZH g nd z dom ((pre.length+w.length:Nat):Int) (pre.length+w.length+1) i).bind fun p =>
    .ok (((pre.length+w.length:Nat):Int),w++(key,val,any,dom,up,hs,J3A (r1,r2,r3,r4,false,r6) s,p.1)::p.2):Rz (Int×List Br)).run (fun p=>K nd z d (pre++p.2) 0 0 p.1) (fun e f=>K nd z d b' e f q):=by
 unfold Jn6
 rw[D.rfind h]
 cases hf:Jw nd i Uk with
 |none=>exact Jul D hL hg d pre w z i dom up h h5 key val any hs (r1,r2,r3,r4,false,r6) K
 |some j =>
  have hj:=D.find h hf
  simp only[cond_true,Qx]
  rw[D.rbool hj]
  cases hb:Zo nd j with
  |er f =>
   refine⟨pre++w,0,by simp,?_⟩
   simp only[Rz.out,Rz.bind,Rz.run,QK,UX (Ug _) hb,cond_true]
  |ok s =>
   simp only[Rz.out,Rz.bind,QK,Z5,cond_false]
   have ec:(bif s then !hs else false)=(s && !hs):=by cases s<;>rfl
   rw[ec]
   cases hq:(s && !hs)with
   |true =>
    refine⟨pre++w,0,by simp,?_⟩
    simp only[cond_true]
    rw[D.rline hj _ _ _ 17 rfl]
    rfl
   |false =>
    simp only[cond_false]
    exact Jul D hL hg d pre w z i dom up h h5 key val any hs (r1,r2,r3,r4,s,r6) K
theorem JIG{z:Nat}{n:Int}{r:Rl}(h:J1c nd z n = .ok r): r.2.2.2.2.1=false:=by
 have hN:∀ {u l:Int} {w:Nat} {b:Bool} {r:Rl},J0a nd n u l w b = .ok r->r.2.2.2.2.1=false:=by
  intro u l w b r h
  obtain⟨s,_,h⟩:=JA h
  injection h with h
  rw[←h]
 obtain⟨_,_,h⟩:=JA h
 obtain⟨b,_,h⟩:=JA h
 cases b with
 |true=>exact hN (UY h).2
 |false =>
  obtain⟨_,_,h⟩:=JA h
  obtain⟨_,_,h⟩:=JA h
  obtain⟨_,h⟩:=UY h
  obtain⟨_,_,h⟩:=JA h
  obtain⟨_,_,h⟩:=JA h
  obtain⟨_,_,h⟩:=JA h
  exact hN h
end
end
section
open Go
section
variable {nd:List Nd}
theorem JIH{pre w:List Br}{c:Int}(hc:(pre.length:Int)≤c∧c<((pre.length+w.length:Nat):Int))(s:List Int)(key val:List UInt8)(any:Bool): ∃ b,(∀ z,(pre++w).getD c.toNat z=b)∧inb c ((pre++w).length:Int)=true∧Z1 pre.length (c::s) w key val any=(J1d b key val any || Z1 pre.length s w key val any):=by
 obtain⟨b,e1,e2,e3⟩:=Jv8 (pre:=pre) rfl hc
 refine⟨b,e2,e3,?_⟩
 unfold Z1
 rw[List.any_cons,e1]
theorem JkW{k g:Nat}(D:Dk k nd)(hL:J1T nd g k)(hg:g≤8){R:Type}(d:Dm)(pre w:List Br)(z:Nat)(i dom up:Int)(h:InD nd i)(h5:pre.length+w.length<500)(key val:List UInt8)(any:Bool)(a:List Int)(hl:a.length≤4000)(ha:InA pre.length a w)(K:RKc R): ∀(s:List Int) (x m:Nat),a.drop x=s->x≤a.length->s.length<m ->
 ∃ b' q,pre.length≤b'.length∧J3Z k (UL k) (FR_ref15_reader_branch k) (@JY k) (@QH k) (@Q6 k) (@Ql k) (@U0 k) (@J0T k) (@J1p k) (@Za k) m nd z d (pre++w) 0 0 i dom (9-((g+1:Nat):Int)) a key val any dom up false [] 0 0 0 false false [] (x:Int) K =
  (bif Z1 pre.length s w key val any then .er (7,QT nd i)else
   (J3H nd z i).bind fun hr=>(Qx (Jw nd i Uk) false (Zo nd)).bind fun s =>
   bif s && !hr.1 then .er (17,QT nd ((Jw nd i Uk).getD 0))else
   (ZH g nd z dom ((pre.length+w.length:Nat):Int) (pre.length+w.length+1) i).bind fun p =>
   .ok (((pre.length+w.length:Nat):Int),w++(key,val,any,dom,up,hr.1,J3A hr.2 s,p.1)::p.2):Rz (Int×List Br)).run (fun p=>K nd z d (pre++p.2) 0 0 p.1) (fun e f=>K nd z d b' e f q)
 |s,x,0,_,_,hm=>by omega
 |[],x,m+1,hd,hx,hm=>by
  have:=JE hd
  rw[J3Z,JbN,J2 (by omega),cond_false,D.rfind h]
  have e0:Z1 pre.length [] w key val any=false:=rfl
  rw[e0,cond_false]
  unfold J3H
  cases hq:Jw nd i J3z with
  |none=>exact Jum D hL hg d pre w z i dom up h h5 key val any K false [] 0 0 0 false
  |some j =>
   simp only[cond_true,Qx]
   obtain⟨z0,e⟩:=D.rrule (R:=R) (D.find h hq) z d (pre++w) (fun y30 y31 y32 y33 y34 y35 y36 y37 y38 y39 y40 y41=>bif y34 != 0 then K y30 y31 y32 y33 y34 y35 0 else Jn6 k y30 y31 y32 y33 y34 y35 i dom up (9-((g+1:Nat):Int)) key val any K true y36 y37 y38 y39 y40 y41)
   cases hr:J1c nd z j with
   |er f =>
    rw[hr]at e
    refine⟨pre++w,0,by simp,Eq.trans e ?_⟩
    simp only[Rz.out,Rz.bind,Rz.run,UX (Jv6 _ _ _) hr,cond_true]
    rfl
   |ok r =>
    rw[hr]at e
    obtain⟨b',q,h1,h2⟩:=Jum D hL hg d pre w z i dom up h h5 key val any K true r.1 r.2.1 r.2.2.1 r.2.2.2.1 r.2.2.2.2.2
    refine⟨b',q,h1,Eq.trans e ?_⟩
    have hs:=JIG hr
    simp only[Rz.out,Z5,cond_false,hs]
    exact h2
 |c::s,x,m+1,hd,hx,hm=>by
  obtain⟨hlt,hc,hr⟩:=Jz hd
  have hm1:c∈a:=by
   have:=hc 0
   rw[List.getD,List.getElem?_eq_getElem hlt]at this
   rw[←this];exact List.getElem_mem _
  obtain⟨b,e2,e3,e4⟩:=JIH (ha c hm1) s key val any
  rw[J3Z,JbN,J1 (by omega),cond_true,Ja (by omega) (by omega),cond_true,Jb,hc,e3,cond_true,e2,e4]
  have e5:(bif (bif b.1 == key then b.2.1 == val else false)then b.2.2.1 == any else false)=J1d b key val any:=rfl
  rw[e5]
  cases J1d b key val any with
  |true =>
   refine⟨pre++w,0,by simp,?_⟩
   simp only[cond_true,Bool.true_or]
   rw[D.rline h _ _ _ 7 rfl]
   rfl
  |false =>
   rw[Bool.false_or,cond_false,J8 (by omega) (by omega),show(x:Int)+1=((x+1:Nat):Int) by omega]
   exact JkW D hL hg d pre w z i dom up h h5 key val any a hl ha K s (x+1) m hr (by omega) (by simp at hm;omega)
theorem JHQ{k g:Nat}(D:Dk k nd)(hg:g≤8)(hL:J1T nd g k): RBr nd (g+1) (k+1):=by
 intro R d pre w z i dom up a K h hl ha
 have hk:=D.hk
 rw[FR_ref15_reader_branch,Up]
 unfold J9k
 rw[J2 (show ¬ (9-((g+1:Nat):Int))>8 by omega),cond_false,List.length_append]
 by_cases h5:500≤pre.length+w.length
 ·rw[J1 (show((pre.length+w.length:Nat):Int)≥500 by omega),J1 h5]
  refine⟨pre++w,0,by simp,?_⟩
  simp only[cond_true]
  rw[D.rline h _ _ _ 9 rfl]
  rfl
 ·rw[J2 (show ¬ ((pre.length+w.length:Nat):Int)≥500 by omega),J2 h5,cond_false,cond_false,D.rknown h _ (by decide)]
  cases h1:YB nd i [J8X,J5B,J3z,Uk,ZC]with
  |er f =>
   refine⟨pre++w,0,by simp,?_⟩
   simp only[Rz.out,Rz.bind,Rz.run,QK,UX (YC _) h1,cond_true]
  |ok _ =>
   simp only[Rz.out,Rz.bind,QK,Z5,cond_false]
   rw[D.rfind h]
   unfold Uq
   cases hf:Jw nd i J8X with
   |none =>
    refine⟨pre++w,0,by simp,?_⟩
    simp only[Bool.not_false,cond_true]
    rw[D.rline h _ _ _ 10 rfl]
    rfl
   |some kk =>
    simp only[Bool.not_true,cond_false,Rz.bind]
    rw[D.rname (D.find h hf)]
    cases h2:Zp nd kk with
    |er f =>
     refine⟨pre++w,0,by simp,?_⟩
     simp only[Rz.out,Rz.bind,Rz.run,QK,UX (Ug _) h2,cond_true]
    |ok key =>
     simp only[Rz.out,Rz.bind,QK,Z5,cond_false]
     rw[D.rfind h]
     unfold J8M
     cases hv:Jw nd i J5B with
     |none=>exact JkW D hL hg d pre w z i dom up h (by omega) key [] true a hl ha K a 0 k rfl (Nat.zero_le _) (by omega)
     |some j =>
      simp only[cond_true,Qx]
      rw[D.rword (D.find h hv)]
      cases h3:J1H nd j with
      |er f =>
       refine⟨pre++w,0,by simp,?_⟩
       simp only[Rz.out,Rz.bind,Rz.run,QK,UX (Ug _) h3,cond_true]
      |ok v =>
       simp only[Rz.out,Rz.bind,QK,Z5,cond_false]
       exact JkW D hL hg d pre w z i dom up h (by omega) key v false a hl ha K a 0 k rfl (Nat.zero_le _) (by omega)
theorem JJJ{k:Nat}(D:Dk k nd): RBr nd 0 (k+1):=by
 intro R d pre w z i dom up a K h hl ha
 rw[FR_ref15_reader_branch,Up]
 unfold J9k
 rw[J1 (show(9-((0:Nat):Int))>8 by decide),cond_true]
 exact⟨pre++w,0,by simp,D.rline h _ _ _ 8 rfl _⟩
theorem JsQ{k g:Nat}(D:Dk k nd)(hB:RBr nd g k){R:Type}(d:Dm)(pre:List Br)(z:Nat)(j dom up:Int)(hj:InD nd j)(K:RKL R): ∀(s:List Int) (i m:Nat) (a:List Int) (w:List Br),(Um nd j).drop i=s->i≤(Um nd j).length->s.length+1<m->a.length=i->InA pre.length a w ->
 ∃ b' q,pre.length≤b'.length∧J1V k (UL k) (FR_ref15_reader_branch k) m nd z d (pre++w) 0 0 j dom up (9-(g:Int)) a (i:Int) K=(ZG (Up g nd z dom up pre.length) s a w).run (fun p=>K nd z d (pre++p.2) 0 0 p.1) (fun e f=>K nd z d b' e f q)
 |s,i,0,_,_,_,_,h,_,_=>by omega
 |[],i,m+1,a,w,hd,hil,hm,hal,ha=>by
  have:=JE hd
  obtain⟨l1,_⟩:=D.line hj
  refine⟨pre++w,[],by simp,?_⟩
  rw[J1V,J9e,l1,cond_true,D.kidsAt hj,J2 (by omega),cond_false,cond_false];rfl
 |c::s,i,m+1,a,w,hd,hil,hm,hal,ha=>by
  obtain⟨hlt,hc,hr⟩:=Jz hd
  obtain⟨l1,_⟩:=D.line hj
  have hlen:=D.kidsLen hj
  have hm1:c∈Um nd j:=by
   have:=hc 0
   rw[List.getD,List.getElem?_eq_getElem hlt]at this
   rw[←this];exact List.getElem_mem _
  rw[J1V,J9e,l1,cond_true,D.kidsAt hj,J1 (by omega),cond_true,show((0:Int) == 0)=true from rfl,cond_true,cond_true,Ja (by omega) (by omega),cond_true,Jb,hc]
  obtain⟨b',q,h1,e⟩:=hB R d pre w z c dom up a (fun y16 y17 y18 y19 y20 y21 y22=>cond (Ju a.length (@List.length (@Kd.T kI) [y22]) 8) (J1V k (UL k) (FR_ref15_reader_branch k) m y16 y17 y18 y19 y20 y21 j dom up (9-(g:Int)) (a++[y22]) (IntKind.i64.wrap ((i:Int)+1)) K) none) (D.kids hj c hm1) (by omega) ha
  rw[e,ZG]
  have hf:∀ y:Int,Ju a.length (@List.length (@Kd.T kI) [y]) 8=true:=fun y=>JfX (by omega) 8 (by decide)
  cases hb:Up g nd z dom up pre.length c a w with
  |er f =>
   refine⟨b',a++[q],h1,?_⟩
   simp only[Rz.run,Rz.bind]
   obtain⟨m',rfl⟩:∃ m',m=m'+1:=⟨m-1,by omega⟩
   have ef:(f.1 == 0)=false:=by
    have:=UX (Jlp _ _ _ _ _ _ _ _ _) hb
    simpa using this
   rw[hf,cond_true,J1V,J9e,l1,cond_true,D.kidsAt hj,ef]
   cases decide (IntKind.i64.wrap ((i:Int)+1)<((Um nd j).length:Int))<;>rfl
  |ok p =>
   obtain⟨h1,b,l,h2⟩:=Jtw hb
   obtain⟨q,w'⟩:=p
   dsimp only at h1 h2
   subst h1 h2
   simp only[Rz.run,Rz.bind]
   rw[hf,cond_true,J8 (by omega) (by omega),show(i:Int)+1=((i+1:Nat):Int) by omega]
   exact JsQ D hB d pre z j dom up hj K s (i+1) m _ _ hr (by omega) (by simp at hm;omega) (by simp;omega) (Jug ha)
theorem JtA{k g:Nat}(D:Dk k nd)(hB:RBr nd g k): J1T nd g (k+1):=by
 intro R d pre z j dom up K h
 have hk:=D.hk
 rw[UL]
 unfold Jc3 J9b
 rw[D.rneed h]
 cases h1:Z0 nd j 2 with
 |er f =>
  refine⟨pre,[],Nat.le_refl _,?_⟩
  simp only[Rz.out,Rz.bind,Rz.run,QK,UX (YC _) h1,cond_true]
 |ok _ =>
  simp only[Rz.out,Rz.bind,QK,Z5,cond_false]
  have hlen:=D.kidsLen h
  have e:=JsQ D hB d pre z j dom up h K (Um nd j) 0 k [] [] rfl (Nat.zero_le _) (by omega) rfl (Jv7 _)
  rw[List.append_nil]at e
  exact e
theorem Jvb(hn:nd.length≤4000)(ho:∀ x∈nd,okD x)(hc:UF nd=true): ∀(g k:Nat),6002+2*g<k->g≤8->J1T nd g k
 |g,0,h,_=>by omega
 |0,1,h,_=>by omega
 |0,k+2,h,_=>JtA ⟨by omega,hn,ho,hc⟩ (JJJ ⟨by omega,hn,ho,hc⟩)
 |g+1,1,h,_=>by omega
 |g+1,k+2,h,hg=>JtA ⟨by omega,hn,ho,hc⟩ (JHQ ⟨by omega,hn,ho,hc⟩ (by omega) (Jvb hn ho hc g k (by omega) (by omega)))
end
end
section
open Go
section
variable {nd:List Nd}
theorem Js1{k:Nat}(D:Dk k nd)(hL:J1T nd 8 k){R:Type}(d:Dm)(b:List Br)(z:Nat)(n j:Int)(h:InD nd n)(hj:InD nd j)(hd:d.length<16)(s:List UInt8)(K:List Nd->Nat->Dm->List Br->Int->Int->Option R): ∀(r:Dm) (x m:Nat),d.drop x=r->x≤d.length->r.length<m ->
 ∃ d' b',J40 k (@JY k) (@QH k) (@Q6 k) (@Ql k) (@U0 k) (@J2V k) m nd z d b 0 0 n j s (x:Int) K =
  (bif r.any (fun x=>x.1 == s)then .er (7,QT nd j)else(ZH 8 nd z (d.length:Int) (-1) b.length n).bind fun p => .ok ((s,p.1),p.2):Rz ((List UInt8×List Int)×List Br)).run (fun p=>K nd z (d++[p.1]) (b++p.2) 0 0) (fun e f=>K nd z d' b' e f)
 |r,x,0,_,_,hm=>by omega
 |[],x,m+1,hdr,hx,hm=>by
  have:=JE hdr
  have hf:Ju d.length (@List.length (List UInt8×List Int) [(s,([]:List Int))]) 40=true:=JfX (by omega) 40 (by decide)
  rw[J40,JbO,J2 (by omega),cond_false,hf,cond_true,D.rfind h,Juk]
  rw[show(([]:Dm).any fun x=>x.1 == s)=false from rfl,cond_false]
  cases hq:Jw nd n ZC with
  |none =>
   refine⟨d,b,?_⟩
   show K nd z (d++[(s,[])]) b 0 0=K nd z (d++[(s,[])]) (b++[]) 0 0
   rw[List.append_nil]
  |some q =>
   simp only[cond_true]
   obtain⟨b',q',hb,e⟩:=hL R (d++[(s,[])]) b z q ((d.length:Nat):Int) (-1) (fun y16 y17 y18 y19 y20 y21 y22=>bif inb ((d.length:Nat):Int) (y18.length:Int)then @SH Dm R (List.set y18 ((d.length:Nat):Int).toNat ((y18.getD ((d.length:Nat):Int).toNat (Kd.zero (.pr .str (.sl kI)))).1,y22)) (fun y23=>K y16 y17 y23 y19 y20 y21)else none) (D.find h hq)
   refine⟨d++[(s,q')],b',Eq.trans e ?_⟩
   have hi:inb ((d.length:Nat):Int) ((d++[(s,([]:List Int))]).length:Int)=true:=Ja (by omega) (by simp<;>omega)
   cases J9b 8 nd z ((d.length:Nat):Int) (-1) b.length q with
   |er f =>
    show(bif inb ((d.length:Nat):Int) ((d++[(s,([]:List Int))]).length:Int)then K nd z (List.set (d++[(s,[])]) ((d.length:Nat):Int).toNat (((d++[(s,[])]).getD ((d.length:Nat):Int).toNat (Kd.zero (.pr .str (.sl kI)))).1,q')) b' f.1 f.2 else none)=K nd z (d++[(s,q')]) b' f.1 f.2
    rw[hi,cond_true,Jb,JlT,JlS]
   |ok p =>
    show(bif inb ((d.length:Nat):Int) ((d++[(s,([]:List Int))]).length:Int)then K nd z (List.set (d++[(s,[])]) ((d.length:Nat):Int).toNat (((d++[(s,[])]).getD ((d.length:Nat):Int).toNat (Kd.zero (.pr .str (.sl kI)))).1,p.1)) (b++p.2) 0 0 else none)=K nd z (d++[(s,p.1)]) (b++p.2) 0 0
    rw[hi,cond_true,Jb,JlT,JlS]
 |c::r,x,m+1,hdr,hx,hm=>by
  obtain⟨hlt,hc,hr⟩:=Jz hdr
  rw[J40,JbO,J1 (by omega),cond_true,Ja (by omega) (by omega),cond_true,Jb,hc,List.any_cons]
  cases c.1 == s with
  |true =>
   refine⟨d,b,?_⟩
   simp only[cond_true,Bool.true_or]
   rw[D.rline hj _ _ _ 7 rfl]
   rfl
  |false =>
   rw[Bool.false_or,cond_false,J8 (by omega) (by omega),show(x:Int)+1=((x+1:Nat):Int) by omega]
   exact Js1 D hL d b z n j h hj hd s K r (x+1) m hr (by omega) (by simp at hm;omega)
theorem JJK{k:Nat}(D:Dk k nd)(hL:J1T nd 8 k){R:Type}(d:Dm)(b:List Br)(z:Nat)(n:Int)(h:InD nd n)(hd:d.length<16)(K:List Nd->Nat->Dm->List Br->Int->Int->Option R):
 ∃ d' b',J0g k nd z d b 0 0 n K=(J0G nd z d b.length n).run (fun p=>K nd z (d++[p.1]) (b++p.2) 0 0) (fun e f=>K nd z d' b' e f):=by
 have hk:=D.hk
 unfold J0g Jch J0G
 rw[D.rknown h _ (by decide)]
 cases h1:YB nd n [J8y,ZC]with
 |er f =>
  refine⟨d,b,?_⟩
  simp only[Rz.out,Rz.bind,Rz.run,QK,UX (YC _) h1,cond_true]
 |ok _ =>
  simp only[Rz.out,Rz.bind,QK,Z5,cond_false]
  rw[D.rfind h]
  unfold Uq
  cases hf:Jw nd n J8y with
  |none =>
   refine⟨d,b,?_⟩
   simp only[Bool.not_false,cond_true]
   rw[D.rline h _ _ _ 10 rfl]
   rfl
  |some j =>
   have hj:=D.find h hf
   simp only[Bool.not_true,cond_false,Rz.bind]
   rw[D.rname hj]
   cases h2:Zp nd j with
   |er f =>
    refine⟨d,b,?_⟩
    simp only[Rz.out,Rz.bind,Rz.run,QK,UX (Ug _) h2,cond_true]
   |ok s =>
    simp only[Rz.out,Rz.bind,QK,Z5,cond_false]
    exact Js1 D hL d b z n j h hj hd s K d 0 k rfl (Nat.zero_le _) (by omega)
theorem JsR{k:Nat}(D:Dk k nd)(hL:J1T nd 8 k){R:Type}(z:Nat)(j:Int)(hj:InD nd j)(K:List Nd->Nat->Dm->List Br->Int->Int->Option R): ∀(s:List Int) (i m:Nat) (d:Dm) (b:List Br),(Um nd j).drop i=s->i≤(Um nd j).length->s.length+1<m->d.length=i ->
 ∃ d' b',J1l k (@JY k) (@QH k) (@ZA k) (@Q6 k) (@Yl k) (@Ql k) (@UA k) (@J0g k) m nd z d b 0 0 j (i:Int) K=(J0A nd z s d b).run (fun p=>K nd z p.1 p.2 0 0) (fun e f=>K nd z d' b' e f)
 |s,i,0,_,_,_,_,h,_=>by omega
 |[],i,m+1,d,b,hd,hil,hm,hdl=>by
  have:=JE hd
  obtain⟨l1,_⟩:=D.line hj
  refine⟨d,b,?_⟩
  rw[J1l,J9h,l1,cond_true,D.kidsAt hj,J2 (by omega)];rfl
 |c::s,i,m+1,d,b,hd,hil,hm,hdl=>by
  obtain⟨hlt,hc,hr⟩:=Jz hd
  obtain⟨l1,_⟩:=D.line hj
  have hlen:=D.kidsLen hj
  have hm1:c∈Um nd j:=by
   have:=hc 0
   rw[List.getD,List.getElem?_eq_getElem hlt]at this
   rw[←this];exact List.getElem_mem _
  rw[J1l,J9h,l1,cond_true,D.kidsAt hj,J1 (by omega),cond_true,show((0:Int) == 0)=true from rfl,cond_true,Ja (i:=(i:Int)) (by omega) (by omega),cond_true,cond_true,cond_true,Jb,hc,J0A]
  by_cases h16:16≤d.length
  ·rw[J1 h16,J1 (show(i:Int)≥16 by omega)]
   refine⟨d,b,?_⟩
   simp only[cond_true]
   rw[D.rline (D.kids hj c hm1) _ _ _ 9 rfl]
   rfl
  ·rw[J2 h16,J2 (show ¬ (i:Int)≥16 by omega),cond_false,cond_false]
   obtain⟨d',b',e⟩:=JJK D hL d b z c (D.kids hj c hm1) (by omega) (fun y12 y13 y14 y15 y16 y17=>J1l k (@JY k) (@QH k) (@ZA k) (@Q6 k) (@Yl k) (@Ql k) (@UA k) (@J0g k) m y12 y13 y14 y15 y16 y17 j (IntKind.i64.wrap ((i:Int)+1)) K)
   rw[e]
   cases hq:J0G nd z d b.length c with
   |er f =>
    refine⟨d',b',?_⟩
    simp only[Rz.run,Rz.bind]
    obtain⟨m',rfl⟩:∃ m',m=m'+1:=⟨m-1,by omega⟩
    have ef:(f.1 == 0)=false:=by
     have:=UX (JvJ _ _ _ _ _) hq
     simpa using this
    rw[J1l,J9h,l1,cond_true,D.kidsAt hj,ef]
    cases decide (IntKind.i64.wrap ((i:Int)+1)<((Um nd j).length:Int))<;>rfl
   |ok p =>
    simp only[Rz.run,Rz.bind]
    rw[J8 (by omega) (by omega),show(i:Int)+1=((i+1:Nat):Int) by omega]
    exact JsR D hL z j hj K s (i+1) m _ _ hr (by omega) (by simp at hm;omega) (by simp;omega)
theorem JJl{k:Nat}(D:Dk k nd)(hL:J1T nd 8 k){R:Type}(z:Nat)(K:List Nd->Nat->Dm->List Br->Int->Int->Option R):
 ∃ d' b' z1 z2,J9s k nd z [] [] 0 0 K=(J1I nd z08).run (fun p=>K nd z1 p.1 p.2 0 0) (fun e f=>K nd z2 d' b' e f):=by
 have hk:=D.hk
 have h:=Jwx D.hc
 unfold J9s JcN J1I
 rw[D.rknown h _ (by decide)]
 cases h1:YB nd 0 [QJ,J0t]with
 |er f =>
  refine⟨[],[],0,z,?_⟩
  simp only[Rz.out,Rz.bind,Rz.run,QK,UX (YC _) h1,cond_true]
 |ok _ =>
  simp only[Rz.out,Rz.bind,QK,Z5,cond_false]
  rw[Jrj k _ (by decide) (by omega),Jwe]
  simp only[rdK]
  have main:∀ z:Nat,∃ d' b' z1 z2,Q6 k nd 0 J0t (fun y33 y34=>bif !y34 then Ql k nd z [] [] 0 0 0 10 (fun y35 y36 y37 y38 y39 y40 y41=>K y35 y36 y37 y38 y39 y40)else UA k nd y33 2 (fun y35 y36=>JY k nd z [] [] 0 0 y35 y36 (fun y37 y38 y39 y40 y41 y42 y43=>bif y43 then K y37 y38 y39 y40 y41 y42 else J1l k (@JY k) (@QH k) (@ZA k) (@Q6 k) (@Yl k) (@Ql k) (@UA k) (@J0g k) k y37 y38 y39 y40 y41 y42 y33 0 K))) =
   ((Uq nd 0 J0t).bind fun _=>(YY nd 0 J0t).bind fun its=>J0A nd z its [] []).run (fun p=>K nd z1 p.1 p.2 0 0) (fun e f=>K nd z2 d' b' e f):=by
   intro z
   rw[D.rfind h]
   unfold Uq YY
   cases hf:Jw nd 0 J0t with
   |none =>
    refine⟨[],[],0,z,?_⟩
    simp only[Bool.not_false,cond_true]
    rw[D.rline h _ _ _ 10 rfl]
    rfl
   |some j =>
    have hj:=D.find h hf
    simp only[Bool.not_true,cond_false,Rz.bind,Qx]
    rw[D.rneed hj]
    cases h2:Z0 nd j 2 with
    |er f =>
     refine⟨[],[],0,z,?_⟩
     simp only[Rz.out,Rz.bind,Rz.run,QK,UX (YC _) h2,cond_true]
    |ok _ =>
     simp only[Rz.out,Rz.bind,QK,Z5,cond_false]
     have hlen:=D.kidsLen hj
     obtain⟨d',b',e⟩:=JsR D hL z j hj K (Um nd j) 0 k [] [] rfl (Nat.zero_le _) (by omega) rfl
     exact⟨d',b',z,z,e⟩
  rw[D.rfind h]
  cases hn:Jw nd 0 QJ with
  |none=>exact main z08
  |some q =>
   simp only[cond_true,Qx]
   rw[D.rrat (D.find h hn)]
   cases h3:ZM nd q with
   |er f =>
    refine⟨[],[],0,z08,?_⟩
    simp only[Rz.out,Rz.bind,Rz.run,QK,UX (Ug _) h3,cond_true]
   |ok z =>
    simp only[Rz.out,Rz.bind,QK,Z5,cond_false]
    exact main z
theorem Js2{k:Nat}(hk:6100<k)(hn:nd.length≤4000)(ho:∀ x∈nd,okD x){R:Type}(K:Dm->List Br->Int->Int->Option R): Jao k nd K=(ofR nd).run (fun p=>K p.1 p.2 0 0) (K [] []):=by
 unfold Jao JsA ofR
 rw[JC2 k nd hn ho (by omega)]
 cases hc:UF nd with
 |false=>rfl
 |true =>
  have D:Dk k nd:=⟨by omega,hn,ho,hc⟩
  obtain⟨d',b',z1,z2,e⟩:=JJl D (Jvb hn ho hc 8 k (by omega) (by omega)) 0 (fun y5 y6 y7 y8 y9 y10=>bif y9 != 0 then K [] [] y9 y10 else K y7 y8 0 0)
  refine Eq.trans e ?_
  cases hr:J1I nd z08 with
  |ok p=>rfl
  |er f =>
   show(bif f.1 != 0 then K [] [] f.1 f.2 else K d' b' 0 0)=K [] [] f.1 f.2
   rw[UX (JIz _ _) hr,cond_true]
end
end
section
open Go
section
variable {nd:List Nd}
theorem JH9(ho:∀ x∈nd,okD x)(i:Int): (Um nd i).length≤4000:=by
 unfold Um YH
 cases inR nd i&&UF nd with
 |false=>simp
 |true =>
  rw[cond_true]
  cases h:nd[i.toNat]? with
  |none=>simp
  |some x=>exact(ho x (List.mem_of_getElem? h)).2.2.1
theorem JtB(ho:∀ x∈nd,okD x){n:Int}{key:List UInt8}{its:List Int}(e:YY nd n key = .ok its): its.length≤4000:=by
 unfold YY at e
 cases hf:Jw nd n key with
 |none=>rw[hf]at e;injection e with e;rw[←e];simp
 |some j =>
  rw[hf]at e
  obtain⟨_,_,e⟩:=JA e
  injection e with e
  rw[←e]
  exact JH9 ho j
def gB(x:Br): Prop:=x.2.2.2.2.2.2.2.length≤4000
def IW(b0:Nat)(w:List Br): Prop:=b0+w.length≤500∧∀ x∈w,gB x
theorem JlU{b0:Nat}{br:Int->List Int->List Br->Rz (Int×List Br)}(hb:∀ i a w p,br i a w = .ok p->IW b0 w->IW b0 p.2): ∀(s:List Int) (a:List Int) (w:List Br) (q:List Int×List Br),ZG br s a w = .ok q->IW b0 w->IW b0 q.2∧q.1.length=a.length+s.length
 |[],a,w,q,h,hw=>by injection h with h;rw[←h];exact⟨hw,rfl⟩
 |i::s,a,w,q,h,hw=>by
  rw[ZG]at h
  obtain⟨p,h1,h2⟩:=JA h
  obtain⟨h3,h4⟩:=JlU hb s _ _ q h2 (hb _ _ _ _ h1 hw)
  refine⟨h3,?_⟩
  rw[h4];simp;omega
theorem JsS(ho:∀ x∈nd,okD x): ∀(g:Nat) (z:Nat) (dom up:Int) (b0:Nat) (i:Int) (a:List Int) (w:List Br) (p:Int×List Br),Up g nd z dom up b0 i a w = .ok p->IW b0 w->IW b0 p.2
 |0,_,_,_,_,_,_,_,_,h,_=>by cases h
 |g+1,z,dom,up,b0,i,a,w,p,h,hw=>by
  unfold Up at h
  obtain⟨h5,h⟩:=UY h
  have h5:=of_decide_eq_false h5
  obtain⟨_,_,h⟩:=JA h
  obtain⟨_,_,h⟩:=JA h
  obtain⟨_,_,h⟩:=JA h
  obtain⟨_,_,h⟩:=JA h
  obtain⟨_,h⟩:=UY h
  obtain⟨_,_,h⟩:=JA h
  obtain⟨_,_,h⟩:=JA h
  obtain⟨_,h⟩:=UY h
  obtain⟨q,hq,h⟩:=JA h
  injection h with h
  rw[←h]
  obtain⟨its,h1,h2⟩:=JA hq
  obtain⟨h3,h4⟩:=JlU (b0:=b0+w.length+1) (fun i a w p=>JsS ho g z dom _ _ i a w p) its [] [] q h2 ⟨by simp;omega,fun x hx=>by cases hx⟩
  have h6:=JtB ho h1
  refine⟨?_,fun x hx => ?_⟩
  ·have:=h3.1
   rw[List.length_append,List.length_cons];omega
  ·rcases List.mem_append.1 hx with hx|hx
   ·exact hw.2 x hx
   ·rcases List.mem_cons.1 hx with rfl|hx
    ·show q.1.length≤4000
     rw[h4];simpa using h6
    ·exact h3.2 x hx
theorem JII(ho:∀ x∈nd,okD x){z:Nat}{d:Dm}{b0:Nat}{n:Int}{p:(List UInt8×List Int)×List Br}(h:J0G nd z d b0 n = .ok p)(hb:b0≤500): IW b0 p.2∧p.1.2.length≤4000:=by
 unfold J0G at h
 obtain⟨_,_,h⟩:=JA h
 obtain⟨_,_,h⟩:=JA h
 obtain⟨_,_,h⟩:=JA h
 obtain⟨_,h⟩:=UY h
 obtain⟨q,hq,h⟩:=JA h
 injection h with h
 rw[←h]
 obtain⟨its,h1,h2⟩:=JA hq
 obtain⟨h3,h4⟩:=JlU (b0:=b0) (fun i a w p=>JsS ho 8 z _ _ _ i a w p) its [] [] q h2 ⟨by simpa using hb,fun x hx=>by cases hx⟩
 have h6:=JtB ho h1
 exact⟨h3,by show q.1.length≤4000;rw[h4];simpa using h6⟩
structure Sm (d:Dm) (b:List Br):Prop where
 d1:d.length≤16
 d2:∀ x∈d,x.2.length≤4000
 b1:b.length≤500
 b2:∀ x∈b,gB x
theorem Jun(ho:∀ x∈nd,okD x){z:Nat}: ∀(s:List Int) (d:Dm) (b:List Br) (q:Dm×List Br),J0A nd z s d b = .ok q->Sm d b->Sm q.1 q.2
 |[],d,b,q,h,hs=>by injection h with h;rw[←h];exact hs
 |i::s,d,b,q,h,hs=>by
  rw[J0A]at h
  obtain⟨h16,h⟩:=UY h
  have h16:=of_decide_eq_false h16
  obtain⟨p,h1,h2⟩:=JA h
  obtain⟨h3,h4⟩:=JII ho h1 hs.b1
  refine Jun ho s _ _ q h2 ⟨by simp;omega,fun x hx => ?_,by rw[List.length_append];exact h3.1,fun x hx => ?_⟩
  ·rcases List.mem_append.1 hx with hx|hx
   ·exact hs.d2 x hx
   ·rw[List.mem_singleton.1 hx];exact h4
  ·rcases List.mem_append.1 hx with hx|hx
   ·exact hs.b2 x hx
   ·exact h3.2 x hx
theorem JvO:Sm [] []:=⟨by simp,fun x hx=>(by cases hx),by simp,fun x hx=>(by cases hx)⟩
theorem Jwf(ho:∀ x∈nd,okD x){p:Dm×List Br}(h:ofR nd = .ok p): Sm p.1 p.2:=by
 unfold ofR at h
 cases hc:UF nd with
 |false=>rw[hc]at h;cases h
 |true =>
  rw[hc,cond_true]at h
  unfold J1I at h
  obtain⟨_,_,h⟩:=JA h
  obtain⟨_,_,h⟩:=JA h
  obtain⟨_,_,h⟩:=JA h
  obtain⟨its,_,h⟩:=JA h
  exact Jun ho its [] [] p h JvO
end
theorem JGj(k:Nat){R:Type}(v:Nat)(K:Bool->Option R): Ja8 k v v K=K true:=by
 unfold Ja8 Jr4 Jey Jr3 QO J1v
 cases h:Jr .neq v v with
 |true=>rfl
 |false =>
  have e:QW v v=some .eq:=by
   unfold Jr at h
   simpa using h
  have e2:Jr .lss v v=false:=by unfold Jr;simp only[e];rfl
  have e3:Jr .gtr v v=false:=by unfold Jr;simp only[e];rfl
  unfold U9 Je6 J1r
  simp only[h,e2,e3,beq_self_eq_true,cond_true,cond_false]
theorem JtC(k:Nat){R:Type}(l:List Int)(hl:l.length≤4000)(K:Bool->Option R): ∀(s:List Int) (i m:Nat),l.drop i=s->i≤l.length->s.length<m->J4H k m l l (i:Int) K=K true
 |s,i,0,_,_,h=>by omega
 |[],i,m+1,hd,hi,hm=>by
  have:=JE hd
  rw[J4H,JdK,J2 (by omega)];rfl
 |c::s,i,m+1,hd,hi,hm=>by
  obtain⟨hlt,hc,hr⟩:=Jz hd
  rw[J4H,JdK,J1 (by omega),cond_true,Ja (by omega) (by omega),cond_true,cond_true,Jb,hc,show(c != c)=false from by simp,cond_false,J8 (by omega) (by omega),show(i:Int)+1=((i+1:Nat):Int) by omega]
  exact JtC k l hl K s (i+1) m hr (by omega) (by simp at hm;omega)
theorem JtD(k:Nat)(hk:5000<k){R:Type}(l:List Int)(hl:l.length≤4000)(K:Bool->Option R): J5e k l l K=K true:=by
 unfold J5e Jkj
 rw[show((l.length:Int) != (l.length:Int))=false from by simp,cond_false]
 exact JtC k l hl K l 0 k rfl (Nat.zero_le _) (by omega)
theorem JDb(k:Nat){R:Type}(r1:List UInt8)(r2 r3:Int)(r4:Nat)(r5 r6:Bool)(K:Bool->Option R): J7i k r1 r2 r3 r4 r5 r6 r1 r2 r3 r4 r5 r6 K=K true:=by
 unfold J7i JoQ
 simp only[beq_self_eq_true,cond_true]
 exact JGj k r4 K
theorem JvP(k:Nat)(hk:5000<k){R:Type}(d:Dm)(b:List Br)(hs:Sm d b)(K:Bool->Option R): ∀(s:List Br) (i m:Nat),b.drop i=s->i≤b.length->s.length<m->J37 k m d b d b (i:Int) K=K true
 |s,i,0,_,_,h=>by omega
 |[],i,m+1,hd,hi,hm=>by
  have:=JE hd
  rw[J37,J78,J2 (by omega)];rfl
 |c::s,i,m+1,hd,hi,hm=>by
  obtain⟨hlt,hc,hr⟩:=Jz hd
  have:=hs.b1
  have hm1:c∈b:=by
   have:=hc (Kd.zero kBr)
   rw[List.getD,List.getElem?_eq_getElem hlt]at this
   rw[←this];exact List.getElem_mem _
  rw[J37,J78,J1 (by omega),cond_true,Ja (by omega) (by omega),cond_true,cond_true,Jb,hc]
  have hn:∀ a:Int,(a != a)=false:=fun a=>by simp
  simp only[beq_self_eq_true,hn,Bool.not_true,cond_false,cond_true]
  rw[JDb]
  simp only[Bool.not_true,beq_self_eq_true,cond_true]
  rw[JtD k hk _ (hs.b2 c hm1)]
  simp only[Bool.not_true,cond_false]
  rw[J8 (by omega) (by omega),show(i:Int)+1=((i+1:Nat):Int) by omega]
  exact JvP k hk d b hs K s (i+1) m hr (by omega) (by simp at hm;omega)
theorem JvQ(k:Nat)(hk:5000<k){R:Type}(d:Dm)(b:List Br)(hs:Sm d b)(K:Bool->Option R): ∀(s:Dm) (i m:Nat),d.drop i=s->i≤d.length->s.length<m->J4y k m d b d b (i:Int) K=K true
 |s,i,0,_,_,h=>by omega
 |[],i,m+1,hd,hi,hm=>by
  have:=JE hd
  have:=hs.b1
  rw[J4y,J9B,J2 (by omega),cond_false]
  exact JvP k hk d b hs K b 0 k rfl (Nat.zero_le _) (by omega)
 |c::s,i,m+1,hd,hi,hm=>by
  obtain⟨hlt,hc,hr⟩:=Jz hd
  have:=hs.d1
  have hm1:c∈d:=by
   have:=hc ([],[])
   rw[List.getD,List.getElem?_eq_getElem hlt]at this
   rw[←this];exact List.getElem_mem _
  rw[J4y,J9B,J1 (by omega),cond_true,Ja (by omega) (by omega),cond_true,cond_true,Jb,hc]
  simp only[beq_self_eq_true,Bool.not_true,Bool.not_false,Bool.or_true,cond_true]
  rw[JtD k hk _ (hs.d2 c hm1)]
  simp only[Bool.not_true,cond_false]
  rw[J8 (by omega) (by omega),show(i:Int)+1=((i+1:Nat):Int) by omega]
  exact JvQ k hk d b hs K s (i+1) m hr (by omega) (by simp at hm;omega)
theorem JtE(k:Nat)(hk:5000<k){R:Type}(d:Dm)(b:List Br)(hs:Sm d b)(K:Bool->Option R): J2i k d b d b K=K true:=by
 have:=hs.d1
 unfold J2i JjN
 have hn:∀ a:Int,(a != a)=false:=fun a=>by simp
 rw[hn,hn,cond_false,cond_false]
 exact JvQ k hk d b hs K d 0 k rfl (Nat.zero_le _) (by omega)
end
section
open Go
def Yt(brs:List Br)(a:List Int)(b:Br): Bool:=a.any fun j=>match brs[j.toNat]? with|some x=>J1d x b.1 b.2.1 b.2.2.1|none=>false
def Zr(f:Int->List Int->Nat->Option Nat)(brs:List Br)(dom up:Int): List Int->List Int->Nat->Option Nat
 |[],a,next=>some next
 |c::r,a,next=>match brs[next]? with
  |none=>none
  |some b=>bif c == (next:Int)&&(J1k b dom up && !Yt brs a b)then match f (next:Int) b.2.2.2.2.2.2.2 (next+1)with
   |none=>none
   |some n=>Zr f brs dom up r (a++[c]) n
   else none
def Yu(brs:List Br)(dom:Int): Nat->Int->List Int->Nat->Option Nat
 |0,_,kids,next=>match kids with
  |[]=>some next
  |_=>none
 |g+1,up,kids,next=>Zr (Yu brs dom g) brs dom up kids [] next
def nxI:Option Nat->Int
 |some n=>(n:Int)
 |none => -1
theorem Jvc(o:Option Nat): decide (nxI o<0)=o.isNone:=by cases o with
 |none=>rfl
 |some n=>exact J2 (show ¬ (n:Int)<0 by omega)
def InB(brs:List Br)(a:List Int): Prop:=∀ j∈a,0≤j∧j<(brs.length:Int)
theorem Jn7{brs:List Br}{n:Nat}(h:n<brs.length): ∃ b,brs[n]? = some b∧(∀ z,brs.getD n z=b)∧b∈brs:=⟨brs[n],List.getElem?_eq_getElem h,fun z=>by rw[List.getD,List.getElem?_eq_getElem h];rfl,List.getElem_mem _⟩
section
variable {brs:List Br} (hl:brs.length≤4000) (hb:∀ b∈brs,Wb b)
theorem JGk{c:Int}(hc:0≤c∧c<(brs.length:Int))(s:List Int)(b:Br): ∃ x,(∀ z,brs.getD c.toNat z=x)∧inb c (brs.length:Int)=true∧Yt brs (c::s) b=(J1d x b.1 b.2.1 b.2.2.1 || Yt brs s b):=by
 obtain⟨x,e1,e2,_⟩:=Jn7 (brs:=brs) (n:=c.toNat) (by omega)
 refine⟨x,e2,Ja hc.1 hc.2,?_⟩
 unfold Yt
 rw[List.any_cons,e1]
theorem Js3{R:Type}(k:Nat)(d:Dm)(b:Br)(a:List Int)(hla:a.length≤4000)(ha:InB brs a)(K:Dm->List Br->List UInt8->List UInt8->Bool->Int->Int->Bool->List UInt8->Int->Int->Nat->Bool->Bool->List Int->Int->Option R): ∀(s:List Int) (i m:Nat),a.drop i=s->i≤a.length->s.length<m ->
 ∃ j:Int,decide (j≥0)=Yt brs s b∧J3W k m d brs b.1 b.2.1 b.2.2.1 b.2.2.2.1 b.2.2.2.2.1 b.2.2.2.2.2.1 b.2.2.2.2.2.2.1.1 b.2.2.2.2.2.2.1.2.1 b.2.2.2.2.2.2.1.2.2.1 b.2.2.2.2.2.2.1.2.2.2.1 b.2.2.2.2.2.2.1.2.2.2.2.1 b.2.2.2.2.2.2.1.2.2.2.2.2 b.2.2.2.2.2.2.2 a (a.length:Int) (i:Int) K=K d brs b.1 b.2.1 b.2.2.1 b.2.2.2.1 b.2.2.2.2.1 b.2.2.2.2.2.1 b.2.2.2.2.2.2.1.1 b.2.2.2.2.2.2.1.2.1 b.2.2.2.2.2.2.1.2.2.1 b.2.2.2.2.2.2.1.2.2.2.1 b.2.2.2.2.2.2.1.2.2.2.2.1 b.2.2.2.2.2.2.1.2.2.2.2.2 b.2.2.2.2.2.2.2 j
 |s,i,0,_,_,h=>by omega
 |[],i,m+1,hd,hi,hm=>by
  have:=JE hd
  refine⟨-1,rfl,?_⟩
  rw[J3W,JbD,J2 (by omega)];rfl
 |c::s,i,m+1,hd,hi,hm=>by
  obtain⟨hlt,hc,hr⟩:=Jz hd
  have hm1:c∈a:=by
   have:=hc 0
   rw[List.getD,List.getElem?_eq_getElem hlt]at this
   rw[←this];exact List.getElem_mem _
  obtain⟨x,e1,e2,e3⟩:=JGk (ha c hm1) s b
  rw[J3W,JbD,J1 (by omega),cond_true,Ja (by omega) (by omega),cond_true,Jb,hc]
  unfold JdV JoW
  rw[e2,cond_true,e1,e3]
  unfold J7C Jq3
  have et:(bif (bif x.1 == b.1 then x.2.1 == b.2.1 else false)then x.2.2.1 == b.2.2.1 else false)=J1d x b.1 b.2.1 b.2.2.1:=rfl
  rw[et]
  cases J1d x b.1 b.2.1 b.2.2.1 with
  |true=>exact⟨(i:Int),by rw[Bool.true_or];exact J1 (by omega),rfl⟩
  |false =>
   dsimp only
   rw[Bool.false_or,cond_false,J8 (by omega) (by omega),show(i:Int)+1=((i+1:Nat):Int) by omega]
   exact Js3 k d b a hla ha K s (i+1) m hr (by omega) (by simp at hm;omega)
theorem JHR{R:Type}(k:Nat)(hk:5000<k)(d:Dm)(b:Br)(a:List Int)(hla:a.length≤4000)(ha:InB brs a)(K:Dm->List Br->List UInt8->List UInt8->Bool->Int->Int->Bool->List UInt8->Int->Int->Nat->Bool->Bool->List Int->Bool->Option R):
 J9c k a d brs b.1 b.2.1 b.2.2.1 b.2.2.2.1 b.2.2.2.2.1 b.2.2.2.2.2.1 b.2.2.2.2.2.2.1.1 b.2.2.2.2.2.2.1.2.1 b.2.2.2.2.2.2.1.2.2.1 b.2.2.2.2.2.2.1.2.2.2.1 b.2.2.2.2.2.2.1.2.2.2.2.1 b.2.2.2.2.2.2.1.2.2.2.2.2 b.2.2.2.2.2.2.2 K=K d brs b.1 b.2.1 b.2.2.1 b.2.2.2.1 b.2.2.2.2.1 b.2.2.2.2.2.1 b.2.2.2.2.2.2.1.1 b.2.2.2.2.2.2.1.2.1 b.2.2.2.2.2.2.1.2.2.1 b.2.2.2.2.2.2.1.2.2.2.1 b.2.2.2.2.2.2.1.2.2.2.2.1 b.2.2.2.2.2.2.1.2.2.2.2.2 b.2.2.2.2.2.2.2 (Yt brs a b):=by
 unfold J9c Jnw JbG JgD
 obtain⟨j,e1,e2⟩:=Js3 k d b a hla ha (fun y19 y20 y21 y22 y23 y24 y25 y26 y27 y28 y29 y30 y31 y32 y33 y34=>K y19 y20 y21 y22 y23 y24 y25 y26 y27 y28 y29 y30 y31 y32 y33 (decide (y34≥0))) a 0 k rfl (Nat.zero_le _) (by omega)
 rw[←e1]
 exact e2
def WOK(brs:List Br)(dom:Int)(g k:Nat): Prop:=∀(R:Type) (d:Dm) (up:Int) (kids:List Int) (next:Nat) (K:Int->Option R),kids.length≤4000->next≤brs.length->YN k R d brs kids dom up (next:Int) (9-(g:Int)) K=K (nxI (Yu brs dom g up kids next))
theorem JtF{l:List Int}{i:Nat}{c:Int}{r:List Int}(h:l.drop i=c::r): l.take (i+1)=l.take i++[c]:=by
 obtain⟨hlt,hc,_⟩:=Jz h
 have:=hc 0
 rw[List.getD,List.getElem?_eq_getElem hlt]at this
 rw[List.take_succ_eq_append_getElem hlt]
 congr 2
omit hl hb in
theorem Jlq(dom:Int): ∀(g:Nat) (up:Int) (kids:List Int) (next n:Nat),Yu brs dom g up kids next=some n->next≤brs.length->n≤brs.length
 |0,up,kids,next,n,h,hn=>by
  cases kids with
  |nil=>injection h with h;omega
  |cons c r=>cases h
 |g+1,up,kids,next,n,h,hn=>by
  have key:∀(kids a:List Int) (next n:Nat),Zr (Yu brs dom g) brs dom up kids a next=some n->next≤brs.length->n≤brs.length:=by
   intro kids
   induction kids with
   |nil=>intro a next n h hn;injection h with h;omega
   |cons c r ih =>
    intro a next n h hn
    rw[Zr]at h
    rcases Nat.lt_or_ge next brs.length with h1|h1
    ·obtain⟨b,e1,_,_⟩:=Jn7 h1
     rw[e1]at h
     dsimp only at h
     cases hq:(c == (next:Int)&&(J1k b dom up && !Yt brs a b))with
     |false=>rw[hq]at h;cases h
     |true =>
      rw[hq,cond_true]at h
      cases hw:Yu brs dom g (next:Int) b.2.2.2.2.2.2.2 (next+1)with
      |none=>rw[hw]at h;cases h
      |some q =>
       rw[hw]at h
       exact ih _ q n h (Jlq dom g _ _ _ _ hw (by omega))
    ·have:brs[next]? = none:=List.getElem?_eq_none h1
     rw[this]at h;cases h
  exact key kids [] next n h hn
include hl hb
theorem JtG{k g:Nat}(hk:5000<k)(hg:g≤8)(dom:Int)(hW:WOK brs dom g k){R:Type}(d:Dm)(up:Int)(kids:List Int)(hkl:kids.length≤4000)(K:Int->Option R): ∀(s:List Int) (i m next:Nat),kids.drop i=s->i≤kids.length->s.length<m->next≤brs.length->InB brs (kids.take i) ->
 ZU k (YN k) m kids dom up (next:Int) (9-((g+1:Nat):Int)) d brs kids (kids.length:Int) (i:Int) K=K (nxI (Zr (Yu brs dom g) brs dom up s (kids.take i) next))
 |s,i,0,_,_,_,h,_,_=>by omega
 |[],i,m+1,next,hd,hi,hm,hn,ha=>by
  have:=JE hd
  rw[ZU,J6N,J2 (by omega)];rfl
 |c::s,i,m+1,next,hd,hi,hm,hn,ha=>by
  obtain⟨hlt,hc,hr⟩:=Jz hd
  rw[ZU,J6N,J1 (by omega),cond_true,Ja (i:=(i:Int)) (by omega) (by omega),cond_true,Jb,hc,Zr]
  by_cases hcn:c=(next:Int)
  ·subst hcn
   have e1:(((next:Nat):Int) != ((next:Nat):Int))=false:=by simp
   rw[e1,cond_false,J2 (show ¬ (9-((g+1:Nat):Int))>8 by omega)]
   rcases Nat.lt_or_ge next brs.length with h1|h1
   ·obtain⟨b,b1,b2,b3⟩:=Jn7 h1
    rw[J2 (show ¬ ((next:Nat):Int)≥(brs.length:Int) by omega),cond_false,Ja (i:=(next:Int)) (by omega) (by omega)]
    rw[show(false == false)=true from rfl,cond_true,Bool.or_true,cond_true,Jb,b2,JJh k hk b (hb b b3),b1]
    have e2:(((next:Nat):Int) == ((next:Nat):Int))=true:=by simp
    dsimp only
    rw[e2,Bool.true_and]
    cases J1k b dom up with
    |false=>rfl
    |true =>
     have hbn:bnd 0 (i:Int) (kids.length:Int)=true:=by
      unfold bnd
      rw[J1 (by decide),J1 (by omega),J1 (by omega)];rfl
     have hcut:cut kids 0 (i:Int)=kids.take i:=by
      unfold cut
      rw[Jb];rfl
     rw[Bool.not_true,cond_false,cond_true,hbn,cond_true,hcut,JHR k hk d b _ (by rw[List.length_take];omega) ha,Bool.true_and]
     cases Yt brs (kids.take i) b with
     |true=>rfl
     |false =>
      have e3:IntKind.i64.wrap (((next:Nat):Int)+1)=((next+1:Nat):Int):=by rw[J8 (by omega) (by omega)];omega
      have e4:IntKind.i64.wrap ((9-((g+1:Nat):Int))+1)=9-(g:Int):=by rw[J8 (by omega) (by omega)];omega
      rw[cond_false,e3,e4,hW R d ((next:Nat):Int) _ (next+1) _ (hb b b3).l1 (by omega),Jvc,Bool.not_false,cond_true]
      cases hw:Yu brs dom g (next:Int) b.2.2.2.2.2.2.2 (next+1)with
      |none=>rfl
      |some n =>
       have hnn:=Jlq dom g _ _ _ _ hw (by omega)
       have ea:InB brs (kids.take (i+1)):=by
        rw[JtF hd]
        intro j hj
        rcases List.mem_append.1 hj with hj|hj
        ·exact ha j hj
        ·rw[List.mem_singleton.1 hj];omega
       have ih:=JtG hk hg dom hW d up kids hkl K s (i+1) m n hr (by omega) (by simp at hm;omega) hnn ea
       rw[JtF hd]at ih
       rw[J8 (x:=(i:Int)+1) (by omega) (by omega),show(i:Int)+1=((i+1:Nat):Int) by omega]
       exact ih
   ·have e5:brs[next]? = none:=List.getElem?_eq_none h1
    rw[J1 (show((next:Nat):Int)≥(brs.length:Int) by omega),e5];rfl
  ·have e1:(c != (next:Int))=true:=by simpa using hcn
   have e2:(c == (next:Int))=false:=by simpa using hcn
   rw[e1]
   cases brs[next]? with
   |none=>rfl
   |some b=>dsimp only;rw[e2];rfl
theorem JJL{k:Nat}(hk:5000<k)(dom:Int): WOK brs dom 0 (k+1):=by
 intro R d up kids next K hkl hn
 rw[YN]
 unfold J9M
 obtain⟨k1,hk1⟩:∃ k1,k=k1+1:=⟨k-1,by omega⟩
 cases kids with
 |nil =>
  show ZU k (YN k) k [] dom up (next:Int) _ d brs [] _ 0 K=_
  have e:∀ X:Nat->Option R,X k=X (k1+1):=fun X=>by rw[←hk1]
  rw[e (fun q=>ZU k (YN k) q [] dom up (next:Int) _ d brs [] _ 0 K),ZU,J6N,J2 (by decide)];rfl
 |cons c r =>
  show ZU k (YN k) k (c::r) dom up (next:Int) _ d brs (c::r) _ 0 K=_
  have e:∀ X:Nat->Option R,X k=X (k1+1):=fun X=>by rw[←hk1]
  rw[e (fun q=>ZU k (YN k) q (c::r) dom up (next:Int) _ d brs (c::r) _ 0 K),ZU,J6N,J1 (by simp),cond_true,Ja (by omega) (by simp),cond_true,J1 (show(9-((0:Nat):Int))>8 by decide)]
  generalize (c::r).getD (Int.toNat 0) kI.zero=c'
  cases c' != (next:Int)<;>cases decide (c'≥(brs.length:Int))<;>rfl
theorem JHS{k g:Nat}(hk:5000<k)(hg:g≤8)(dom:Int)(hW:WOK brs dom g k): WOK brs dom (g+1) (k+1):=by
 intro R d up kids next K hkl hnx
 rw[YN,Yu]
 unfold J9M
 exact JtG hl hb hk hg dom hW d up kids hkl K kids 0 k next rfl (Nat.zero_le _) (by omega) hnx (fun j hj=>by cases hj)
theorem wok(dom:Int): ∀(g k:Nat),5001+g<k->g≤8->WOK brs dom g k
 |g,0,h,_=>by omega
 |0,k+1,h,_=>JJL hl hb (by omega) dom
 |g+1,k+1,h,hg=>JHS hl hb (by omega) (by omega) dom (wok dom g k (by omega) (by omega))
end
end
section
open Go
section
variable {brs:List Br} (hl:brs.length≤4000) (hb:∀ b∈brs,Wb b)
include hl hb
end
end
section
open Go
def J1e(brs:List Br): Dm->Dm->Nat->Bool
 |[],a,next=>next == brs.length
 |c::r,a,next=>bif (!a.any fun x=>x.1 == c.1)&&nmB c.1 then match Yu brs (a.length:Int) 8 (-1) c.2 next with
  |none=>false
  |some n=>J1e brs r (a++[c]) n
  else false
def Jgs(d:Dm)(brs:List Br): Bool:=bif (decide (1≤d.length)&&decide (d.length≤16))&&decide (brs.length≤500)then J1e brs d [] 0 else false
theorem JHT(a b:Nat): (bif (bif decide ((a:Int)<1)then true else decide ((a:Int)>16))then true else decide ((b:Int)>500)) = !((decide (1≤a)&&decide (a≤16))&&decide (b≤500)):=by
 by_cases h1:1≤a
 ·by_cases h2:a≤16
  ·by_cases h3:b≤500
   ·rw[J2 (show ¬ (a:Int)<1 by omega),J2 (show ¬ (a:Int)>16 by omega),J2 (show ¬ (b:Int)>500 by omega),J1 h1,J1 h2,J1 h3];rfl
   ·rw[J2 (show ¬ (a:Int)<1 by omega),J2 (show ¬ (a:Int)>16 by omega),J1 (show(b:Int)>500 by omega),J2 h3,Bool.and_false];rfl
  ·rw[J2 (show ¬ (a:Int)<1 by omega),J1 (show(a:Int)>16 by omega),J2 h2,Bool.and_false,Bool.false_and];rfl
 ·rw[J1 (show(a:Int)<1 by omega),J2 h1,Bool.false_and,Bool.false_and];rfl
structure Wd (d:Dm):Prop where
 n:∀ x∈d,x.1.length≤4000
 l:∀ x∈d,x.2.length≤4000
 t:d.length≤4000
theorem JIJ(n:Nat)(brs:List Br): ((n:Int) == (brs.length:Int))=(n == brs.length):=by
 by_cases h:n=brs.length
 ·rw[h];simp
 ·have:(n:Int)≠(brs.length:Int):=by omega
  rw[beq_eq_false_iff_ne.2 h,beq_eq_false_iff_ne.2 this]
section
variable {brs:List Br} (hl:brs.length≤4000) (hb:∀ b∈brs,Wb b)
include hl hb
theorem Js4{R:Type}{k:Nat}(hk:6000<k)(d:Dm)(hd:Wd d)(K:Int->Option R): ∀(s:Dm) (i m next:Nat) (mp:List (List UInt8×Bool)),d.drop i=s->i≤d.length->s.length<m->next≤brs.length->(∀ t,Yv Kd.bool t mp=(d.take i).any fun x=>x.1 == t) ->
 J2Z k m d brs mp (next:Int) d (d.length:Int) (i:Int) K=K (bif J1e brs s (d.take i) next then 0 else 1)
 |s,i,0,_,_,_,_,h,_,_=>by omega
 |[],i,m+1,next,mp,hs,hi,hm,hn,ht=>by
  have:=JE hs
  rw[J2Z,Jcz,J2 (by omega),cond_false,J1e]
  have e:((next:Int) != (brs.length:Int)) = !((next:Int) == (brs.length:Int)):=rfl
  rw[e,JIJ]
  cases next == brs.length<;>rfl
 |c::s,i,m+1,next,mp,hs,hi,hm,hn,ht=>by
  obtain⟨hlt,hc,hr⟩:=Jz hs
  have hcm:c∈d:=by
   have:=hc (Kd.zero (@Kd.pr Kd.str (@Kd.sl kI)))
   rw[List.getD,List.getElem?_eq_getElem hlt]at this
   rw[←this];exact List.getElem_mem _
  rw[J2Z,Jcz,J1 (by omega),cond_true,Ja (i:=(i:Int)) (by omega) (by omega),cond_true,Jb,hc,ht,J1e,JeF k _ (hd.n c hcm) (by omega)]
  cases(d.take i).any fun x=>x.1 == c.1 with
  |true=>rfl
  |false =>
   cases nmB c.1 with
   |false=>rfl
   |true =>
    have hw:=wok hl hb (i:Int) 8 k (by omega) (by omega) R d (-1) c.2 next (fun y12=>cond (decide (y12<0)) (K 1) (J2Z k m d brs (Z2 Kd.bool c.1 true mp) y12 d (d.length:Int) (IntKind.i64.wrap ((i:Int)+1)) K)) (hd.l c hcm) hn
    have hlen:(d.take i).length=i:=by rw[List.length_take];omega
    rw[hlen]
    show Jei k d brs c.2 (i:Int) (-1) (next:Int) 1 _=_
    refine Eq.trans hw ?_
    have ex:(bif !false&&true then(match Yu brs (i:Int) 8 (-1) c.2 next with|none=>false|some n=>J1e brs s (d.take i++[c]) n)else false)=(match Yu brs (i:Int) 8 (-1) c.2 next with|none=>false|some n=>J1e brs s (d.take i++[c]) n):=rfl
    rw[Jvc,ex]
    cases hq:Yu brs (i:Int) 8 (-1) c.2 next with
    |none=>rfl
    |some n =>
     have hnn:=Jlq (i:Int) 8 _ _ _ _ hq (by omega)
     have e:d.take (i+1)=d.take i++[c]:=by
      rw[List.take_succ_eq_append_getElem hlt]
      have:=hc (Kd.zero (@Kd.pr Kd.str (@Kd.sl kI)))
      rw[List.getD,List.getElem?_eq_getElem hlt]at this
      congr 2
     have ih:=Js4 hk d hd K s (i+1) m n (Z2 Kd.bool c.1 true mp) hr (by omega) (by simp at hm;omega) hnn (by
      intro t
      rw[Jlo,ht,e,List.any_append]
      congr 1
      have:(t == c.1)=(c.1 == t):=by
       by_cases h:t=c.1
       ·rw[h]
       ·have h':c.1≠t:=fun q=>h q.symm
        rw[beq_eq_false_iff_ne.2 h,beq_eq_false_iff_ne.2 h']
      rw[this];simp)
     rw[e]at ih
     have ew:IntKind.i64.wrap ((i:Int)+1)=((i+1:Nat):Int):=by
      have:=hd.t
      rw[J8 (by omega) (by omega)];omega
     rw[ew]
     exact ih
theorem JBr{R:Type}{k:Nat}(hk:6000<k)(d:Dm)(hd:Wd d)(K:Int->Option R): J2a k d brs K=K (bif Jgs d brs then 0 else 1):=by
 unfold J2a JiE Jgs
 rw[JHT]
 cases(decide (1≤d.length)&&decide (d.length≤16))&&decide (brs.length≤500)with
 |false=>rfl
 |true=>exact Js4 hl hb hk d hd K d 0 k 0 [] rfl (Nat.zero_le _) (by have:=hd.t;omega) (Nat.zero_le _) (fun t=>rfl)
end
end
section
open Go
section
variable (k:Nat) (hk:6000<k) {R:Type}
include hk
end
end
section
open Go
structure Lb (b:Br):Prop where
 a1:b.1.length≤3000
 a2:b.2.1.length≤3000
 a3:b.2.2.2.2.2.2.1.1.length≤3000
 a4:b.2.2.2.2.2.2.2.length≤3000
end
section
section
variable (k:Nat) (hk:6000<k) (L:List Int) (hL:L.length≤4000)
include hL
end
def okW(w:Nat): Prop:=w<2 ^ 64∧Yf w=true
theorem w1:okW 4605380978949069210:=⟨by decide,by kernel_rfl⟩
theorem w2:okW 4602678819172646912:=⟨by decide,by kernel_rfl⟩
theorem w3:okW 0:=⟨by decide,by kernel_rfl⟩
structure GoodR (r:Rl):Prop where
 n:r.1.length≤4000
 f:r.2.2.2.1<2 ^ 64
 o:J5L r.1 r.2.1 r.2.2.1 r.2.2.2.1 r.2.2.2.2.2=true
section
variable (k:Nat) (L:List Int) (hL:L.length≤4000)
include hL
end
end
section
open Go
theorem JsT(f:Int->List Int->Nat->Option Nat)(brs:List Br)(dom up:Int)(c:Int): ∀(out a:List Int) (next:Nat),Zr f brs dom up (out++[c]) a next=match Zr f brs dom up out a next with|none=>none|some n=>Zr f brs dom up [c] (a++out) n
 |[],a,next=>by rw[List.nil_append,List.append_nil];rfl
 |x::r,a,next=>by
  rw[List.cons_append,Zr,Zr]
  cases brs[next]? with
  |none=>rfl
  |some b =>
   dsimp only
   cases x == (next:Int)&&(J1k b dom up && !Yt brs a b)with
   |false=>rfl
   |true =>
    rw[cond_true,cond_true]
    cases f (next:Int) b.2.2.2.2.2.2.2 (next+1)with
    |none=>rfl
    |some n =>
     dsimp only
     rw[JsT f brs dom up c r (a++[x]) n,List.append_assoc];rfl
def Qm(n0:Nat)(new:List Br)(out:List Int)(dom up:Int)(g:Nat): Prop:=∀ pre post:List Br,pre.length=n0->Zr (Yu (pre++new++post) dom g) (pre++new++post) dom up out [] n0=some (n0+new.length)
theorem JHU(brs:List Br)(dom:Int)(g:Nat)(up:Int)(next:Nat): Yu brs dom g up [] next=some next:=by cases g<;>rfl
def ZI(b:Br)(ks:List Int): Br:=(b.1,(b.2.1,(b.2.2.1,(b.2.2.2.1,(b.2.2.2.2.1,(b.2.2.2.2.2.1,(b.2.2.2.2.2.2.1,ks)))))))
theorem JJM(b:Br)(ks:List Int)(dom up:Int): J1k (ZI b ks) dom up=J1k b dom up:=rfl
theorem JJm(brs:List Br)(a:List Int)(b:Br)(ks:List Int): Yt brs a (ZI b ks)=Yt brs a b:=rfl
theorem JIK{pre post new:List Br}{a:List Int}{n0:Nat}(hp:pre.length=n0)(ha:∀ j∈a,(n0:Int)≤j∧j<((n0+new.length:Nat):Int))(pre' post':List Br)(hp':pre'.length=n0)(b:Br): Yt (pre++new++post) a b=Yt (pre'++new++post') a b:=by
 unfold Yt
 induction a with
 |nil=>rfl
 |cons j r ih =>
  rw[List.any_cons,List.any_cons,ih (fun x hx=>ha x (List.mem_cons_of_mem _ hx))]
  congr 1
  obtain⟨h1,h2⟩:=ha j (List.mem_cons_self ..)
  have e:∀ p q:List Br,p.length=n0->(p++new++q)[j.toNat]? = new[j.toNat-n0]? := by
   intro p q h
   rw[List.append_assoc,List.getElem?_append_right (by omega),h,List.getElem?_append_left (by omega)]
  rw[e pre post hp,e pre' post' hp']
theorem JJn(n0:Nat)(dom up:Int)(g:Nat): Qm n0 [] [] dom up g:=fun pre post h=>rfl
theorem JIL {n0:Nat} {new:List Br} {out:List Int} {dom up:Int} {g:Nat} (h:Qm n0 new out dom up g) (ho:∀ j∈out,(n0:Int)≤j∧j<((n0+new.length:Nat):Int)) (b:Br) (ks:List Int) (sub:List Br) (brs:List Br) (hbr:brs.length=n0) (hm:J1k b dom up=true) (ht:Yt (brs++new) out b=false)
 (hs:∀ pre post:List Br,pre.length=n0+new.length+1->Yu (pre++sub++post) dom g ((n0+new.length:Nat):Int) ks (n0+new.length+1)=some (n0+new.length+1+sub.length)) :
 Qm n0 (new++[ZI b ks]++sub) (out++[((n0+new.length:Nat):Int)]) dom up g:=by
 intro pre post hp
 have e1:pre++(new++[ZI b ks]++sub)++post=pre++new++([ZI b ks]++sub++post):=by simp only[List.append_assoc]
 have e2:pre++(new++[ZI b ks]++sub)++post=(pre++new++[ZI b ks])++sub++post:=by simp only[List.append_assoc]
 have h1:=h pre ([ZI b ks]++sub++post) hp
 rw[←e1]at h1
 rw[JsT,h1]
 dsimp only
 rw[List.nil_append,Zr]
 have e3:(pre++(new++[ZI b ks]++sub)++post)[n0+new.length]? = some (ZI b ks):=by
  rw[e1,List.getElem?_append_right (by rw[List.length_append];omega),List.length_append,hp,Nat.sub_self];rfl
 rw[e3]
 dsimp only
 have e4:Yt (pre++(new++[ZI b ks]++sub)++post) out (ZI b ks)=false:=by
  rw[JJm,e1,JIK hp ho brs [] hbr,List.append_nil,ht]
 rw[JJM,hm,e4,beq_self_eq_true]
 have e5:=hs (pre++new++[ZI b ks]) post (by simp only[List.length_append,List.length_cons,List.length_nil];omega)
 rw[←e2]at e5
 show(match Yu _ dom g ((n0+new.length:Nat):Int) ks (n0+new.length+1)with|none=>none|some n=>Zr _ _ dom up [] _ n)=_
 rw[e5]
 show some _=some _
 congr 1
 simp only[List.length_append,List.length_cons,List.length_nil];omega
end
theorem JJN{T:Type}{p:T×Int×Int}{y:T}(h:tvR p = .ok y): p.2.1=0∧p.1=y:=by
 unfold tvR at h
 cases hb:p.2.1 != 0 with
 |true=>rw[hb]at h;cases h
 |false =>
  rw[hb,cond_false]at h
  injection h with h
  exact⟨by simpa using hb,h⟩
theorem JfY{T:Type}{z:T}{o:Option Nd}{g:Nd->T×Int×Int}{y:T}(h:tvR (tvS z o g) = .ok y): ∃ x,o=some x∧(g x).2.1=0∧(g x).1=y:=by
 obtain⟨h1,h2⟩:=JJN h
 unfold tvS at h1 h2
 cases o with
 |none=>cases h1
 |some x =>
  dsimp only at h1 h2
  cases hk:x.1 != 1 with
  |true=>rw[hk]at h1;cases h1
  |false =>
   rw[hk,cond_false]at h1 h2
   exact⟨x,rfl,h1,h2⟩
theorem JfD{nd:List Nd}{j:Int}{s:List UInt8}(h:Zp nd j = .ok s): nmB s=true:=by
 obtain⟨x,_,h1,h2⟩:=JfY h
 unfold J5T at h1 h2
 cases hb:nmB x.2.2.1 with
 |true=>rw[hb]at h2;rw[←h2];exact hb
 |false=>rw[hb]at h1;cases h1
theorem JmJ{s:List UInt8}(h:nmB s=true): s.length≤64:=by
 unfold nmB at h
 rw[Bool.and_eq_true,Bool.and_eq_true]at h
 exact of_decide_eq_true h.2.2
theorem JIM{nd:List Nd}{j:Int}{s:List UInt8}(h:J1H nd j = .ok s): s.length≤128:=by
 obtain⟨x,_,h1,h2⟩:=JfY h
 unfold J5U at h1 h2
 by_cases hb:x.2.2.1.length≤128
 ·rw[J1 hb]at h2;rw[←h2];exact hb
 ·rw[J2 hb]at h1;cases h1
theorem JJo{nd:List Nd}{j l:Int}(h:J1j nd j = .ok l): 0≤l∧l≤4294967295:=by
 obtain⟨x,_,h1,h2⟩:=JfY h
 unfold J3R at h1 h2
 cases hq:x.2.2.2.1 with
 |true=>rw[hq]at h1;cases h1
 |false =>
  rw[hq,cond_false]at h1 h2
  cases hn:J1R x.2.2.1 with
  |none=>rw[hn]at h1;cases h1
  |some v =>
   rw[hn]at h1 h2
   dsimp only at h1 h2
   cases hb:decide ((v:Int)<0) || decide ((v:Int)>4294967295)with
   |true=>rw[hb]at h1;cases h1
   |false =>
    rw[hb,cond_false]at h2
    rw[Bool.or_eq_false_iff]at hb
    have h3:=of_decide_eq_false hb.1
    have h4:=of_decide_eq_false hb.2
    rw[←h2]
    show 0≤(v:Int)∧(v:Int)≤4294967295
    omega
theorem JJp:Yf 0=true:=by
 have:=Jtx (n:=0) (kk:=0) (by decide) (by decide) (by rw[Jmr 0 (by decide)];decide)
 rw[Jmr 0 (by decide)]at this
 exact this
theorem JIN{s w p:List UInt8}(h:UJ s=some (w,p)): p.length≤6∧JB 0 (w++p)≤2*bB:=by
 have hB:bB=4503599627370496:=rfl
 unfold UJ at h
 cases hw:Ya (JQ s)with
 |false=>rw[hw]at h;cases h
 |true =>
  rw[hw,cond_true]at h
  have hd:(JQ s).all isD=true:=by unfold JQ;exact List.all_takeWhile
  unfold Ya at hw
  rw[Bool.and_eq_true,Bool.and_eq_true]at hw
  have hl:=of_decide_eq_true hw.2.1
  have key:∀ p:List UInt8,p.all isD=true->p.length≤6->JB 0 (JQ s++p)≤2*bB:=fun p hp hpl=>by
   have h1:=Jmm (JQ s++p) 0 (by rw[List.all_append,hd,hp];rfl)
   have h2:(10:Nat) ^ (JQ s++p).length≤10 ^ 15:=Nat.pow_le_pow_right (by decide) (by rw[List.length_append];omega)
   have h3:(10:Nat) ^ 15=1000000000000000:=by decide
   omega
  cases hr:s.drop (JQ s).length with
  |nil =>
   rw[hr]at h
   injection h with h
   injection h with h1 h2
   subst h1 h2
   exact⟨Nat.zero_le _,key [] rfl (Nat.zero_le _)⟩
  |cons c q =>
   rw[hr]at h
   dsimp only at h
   cases hc:c == 46&&J07 q with
   |false=>rw[hc]at h;cases h
   |true =>
    rw[hc,cond_true]at h
    injection h with h
    injection h with h1 h2
    subst h1 h2
    rw[Bool.and_eq_true]at hc
    have hq:=hc.2
    unfold J07 at hq
    rw[Bool.and_eq_true,Bool.and_eq_true]at hq
    have h6:=of_decide_eq_true hq.2.2
    exact⟨h6,key q hq.1 h6⟩
theorem JJq{v:Nat}(hv:v≤fI)(h:YI v=false): v≤Qw:=by
 have hI:fI=9218868437227405312:=rfl
 have hO:Qw=4607182418800017408:=rfl
 rcases Nat.lt_or_ge v fI with h1|h1
 ·unfold YI at h
  cases hc:(bif Jr .neq v v then true else Jr .lss v 0)with
  |true=>rw[hc]at h;cases h
  |false =>
   rw[hc,cond_false]at h
   have e:(4607182418800017408:Nat)=Qw:=rfl
   rw[e]at h
   unfold Jr at h
   simp only[Jmi h1 (show Qw<fI by omega),Jmj]at h
   by_cases h2:v<Qw
   ·omega
   ·rw[if_neg h2]at h
    by_cases h3:v=Qw
    ·omega
    ·rw[if_neg h3]at h;cases h
 ·have:v=fI:=by omega
  subst this
  have:YI fI=true:=by decide +kernel
  rw[this]at h;cases h
theorem JHV{s:List UInt8}{v:Nat}(h:rdS s=some v)(ho:YI v=false): Yf (v % fW)=true∧v % fW<2 ^ 64:=by
 have hF:fW=9223372036854775808:=rfl
 have hI:fI=9218868437227405312:=rfl
 have h64:(2:Nat) ^ 64=18446744073709551616:=by decide
 refine⟨?_,by have:v % fW<fW:=Nat.mod_lt _ (by decide);omega⟩
 unfold rdS at h
 cases c1:s == [110,97,110]with
 |true =>
  rw[c1,cond_true]at h
  injection h with h
  have:YI Jbm=true:=by decide +kernel
  rw[←h,this]at ho;cases ho
 |false =>
  rw[c1,cond_false]at h
  cases c2:s == [105,110,102]with
  |true =>
   rw[c2,cond_true]at h
   injection h with h
   have:YI fI=true:=by decide +kernel
   rw[←h,this]at ho;cases ho
  |false =>
   rw[c2,cond_false]at h
   cases c3:s == [45,105,110,102]with
   |true =>
    rw[c3,cond_true]at h
    injection h with h
    have:YI fNI=true:=by decide +kernel
    rw[←h,this]at ho;cases ho
   |false =>
    rw[c3,cond_false]at h
    cases hr:UJ (sT s)with
    |none=>rw[hr]at h;cases h
    |some q =>
     obtain⟨w,p⟩:=q
     rw[hr]at h
     dsimp only at h
     injection h with h
     obtain⟨hp,hv⟩:=JIN hr
     obtain⟨_,hq⟩:=JfA (w:=w) hp
     have eq:Z4 w p=quN (JB 0 (w++p)) p.length:=rfl
     cases hm:sM s with
     |true =>
      rw[hm,cond_true,Jaq (by omega)]at h
      by_cases h0:Z4 w p=0
      ·rw[←h,h0]
       have:(0+fW) % fW=0:=by decide
       rw[this];exact JJp
      ·rw[←h,Jn5 hq h0]at ho;cases ho
     |false =>
      rw[hm,cond_false]at h
      subst h
      have h1:=JJq hq ho
      rw[Nat.mod_eq_of_lt (by omega)]
      rw[eq]at h1 ⊢
      exact Jtx hp hv h1
theorem Juo{nd:List Nd}{j:Int}{w:Nat}(h:ZM nd j = .ok w): Yf w=true∧w<2 ^ 64:=by
 obtain⟨x,_,h1,h2⟩:=JfY h
 unfold J3S at h1 h2
 cases hq:x.2.2.2.1 with
 |true=>rw[hq]at h1;cases h1
 |false =>
  rw[hq,cond_false]at h1 h2
  cases hr:rdS x.2.2.1 with
  |none=>rw[hr]at h1;cases h1
  |some v =>
   rw[hr]at h1 h2
   dsimp only at h1 h2
   cases ho:YI v with
   |true=>rw[ho]at h1;cases h1
   |false =>
    rw[ho,cond_false]at h2
    rw[←h2]
    exact JHV hr ho
theorem JJr:Yf z08=true:=by kernel_rfl
structure RlOK (r:Rl):Prop where
 n:r.1.length≤4000
 f:r.2.2.2.1<2 ^ 64
 o:J5L r.1 r.2.1 r.2.2.1 r.2.2.2.1 r.2.2.2.2.2=true
theorem Jup{nd:List Nd}{n u l:Int}{w:Nat}{b:Bool}{r:Rl}(h:J0a nd n u l w b = .ok r): ∃ s,(s == [] || nmB s)=true∧s.length≤4000∧r=(s,u,l,w,false,b):=by
 unfold J0a at h
 obtain⟨s,h1,h2⟩:=JA h
 injection h2 with h2
 cases hf:Jw nd n J08 with
 |none =>
  rw[hf]at h1
  injection h1 with h1
  exact⟨s,by rw[←h1];rfl,by rw[←h1];exact Nat.zero_le _,h2.symm⟩
 |some j =>
  rw[hf]at h1
  have hn:=JfD h1
  have:=JmJ hn
  exact⟨s,by rw[hn,Bool.or_true],by omega,h2.symm⟩
theorem JIO{t:List UInt8}(h:(UU t == 0)=false): J1S (UU t)>0:=by
 unfold UU at h ⊢
 cases c1:t == [115,101,99,111,110,100]with
 |true=>show J1S 1>0;decide
 |false =>
  cases c2:t == [109,105,110,117,116,101]with
  |true=>show J1S 2>0;decide
  |false =>
   cases c3:t == [104,111,117,114]with
   |true=>show J1S 3>0;decide
   |false =>
    cases c4:t == [100,97,121]with
    |true=>show J1S 4>0;decide
    |false=>rw[c1,c2,c3,c4]at h;exact absurd h (by decide)
theorem JHW{nd:List Nd}{z:Nat}{n:Int}{r:Rl}(hz:Yf z=true)(hz2:z<2 ^ 64)(h:J1c nd z n = .ok r): RlOK r:=by
 unfold J1c at h
 obtain⟨_,_,h⟩:=JA h
 obtain⟨b,_,h⟩:=JA h
 cases b with
 |true =>
  rw[cond_true]at h
  obtain⟨_,h⟩:=UY h
  obtain⟨s,h1,h2,rfl⟩:=Jup h
  refine⟨h2,by show(0:Nat)<2 ^ 64;decide,?_⟩
  show((((0:Int) == 0&&(0:Int) == 0)&&UK 0 0 == 0)&&(s == [] || nmB s))=true
  rw[h1];decide
 |false =>
  rw[cond_false]at h
  obtain⟨u,_,h⟩:=JA h
  obtain⟨_,_,h⟩:=JA h
  obtain⟨hu,h⟩:=UY h
  obtain⟨q,_,h⟩:=JA h
  obtain⟨l,hl,h⟩:=JA h
  obtain⟨w,hw,h⟩:=JA h
  obtain⟨s,h1,h2,rfl⟩:=Jup h
  obtain⟨l1,l2⟩:=JJo hl
  have hw2:Yf w=true∧w<2 ^ 64:=by
   cases hf:Jw nd n QJ with
   |none =>
    rw[hf]at hw
    injection hw with hw
    rw[←hw];exact⟨hz,hz2⟩
   |some j=>rw[hf]at hw;exact Juo hw
  refine⟨h2,hw2.2,?_⟩
  show(((decide (J1S (UU (Zq nd u))>0)&&(decide (l≥0)&&decide (l≤4294967295)))&&Yf w)&&(s == [] || nmB s))=true
  rw[h1,hw2.1,J1 (JIO hu),J1 (show l≥0 from l1),J1 l2];rfl
section
open Go
structure Wr (b:Br):Prop where
 k1:b.1.length≤4000
 k2:b.2.2.2.2.2.2.1.1.length≤4000
 f1:b.2.2.2.2.2.2.1.2.2.2.1<2 ^ 64
 v1:b.2.1.length≤4000
structure IR (b0:Nat) (w:List Br) (a:List Int) (dom up:Int) (g:Nat):Prop where
 i:∀ j∈a,(b0:Int)≤j∧j<((b0+w.length:Nat):Int)
 r:∀ x∈w,Wr x
 q:Qm b0 w a dom up g
theorem Jvd{b0:Nat}{brs w:List Br}(hb:brs.length=b0)(b:Br): ∀(a:List Int),(∀ j∈a,(b0:Int)≤j∧j<((b0+w.length:Nat):Int))->Yt (brs++w) a b=Z1 b0 a w b.1 b.2.1 b.2.2.1
 |[],_=>rfl
 |j::r,h=>by
  obtain⟨h1,h2⟩:=h j (List.mem_cons_self ..)
  have ih:=Jvd hb b r (fun x hx=>h x (List.mem_cons_of_mem _ hx))
  unfold Yt Z1 at ih ⊢
  rw[List.any_cons,List.any_cons,ih,List.getElem?_append_right (by omega),hb]
  all_goals rfl
theorem Juq{nd:List Nd}{i:Int}{va:List UInt8×Bool}(h:J8M nd i = .ok va): va.1.length≤128∧(va.2=true->va.1=[]):=by
 unfold J8M at h
 cases hf:Jw nd i J5B with
 |none =>
  rw[hf]at h
  injection h with h
  rw[←h]
  exact⟨Nat.zero_le _,fun _=>rfl⟩
 |some j =>
  rw[hf]at h
  obtain⟨v,h1,h2⟩:=JA h
  injection h2 with h2
  rw[←h2]
  exact⟨JIM h1,fun h=>by cases h⟩
theorem Jve{nd:List Nd}{z:Nat}{i:Int}{hr:Bool×Rl}(hz:Yf z=true)(hz2:z<2 ^ 64)(h:J3H nd z i = .ok hr): (hr.1=true∧RlOK hr.2)∨hr=(false,zRl):=by
 unfold J3H at h
 cases hf:Jw nd i J3z with
 |none =>
  rw[hf]at h
  injection h with h
  exact .inr h.symm
 |some j =>
  rw[hf]at h
  obtain⟨v,h1,h2⟩:=JA h
  injection h2 with h2
  rw[←h2]
  exact .inl ⟨rfl,JHW hz hz2 h1⟩
theorem JvR(key:List UInt8)(va:List UInt8×Bool)(dom up:Int)(hr:Bool×Rl)(s:Bool)(h1:nmB key=true)(h2:va.1.length≤128)(h3:va.2=true->va.1=[])(h4:(hr.1=true∧RlOK hr.2)∨hr=(false,zRl))(h5:(s && !hr.1)=false): J1k (key,(va.1,(va.2,(dom,(up,(hr.1,(J3A hr.2 s,[]))))))) dom up=true∧Wr (key,(va.1,(va.2,(dom,(up,(hr.1,(J3A hr.2 s,[]))))))):=by
 have hk:=JmJ h1
 have e3:(!(va.2 && !(va.1 == [])))=true:=by
  cases hv:va.2 with
  |false=>rfl
  |true=>rw[h3 hv];rfl
 constructor
 ·show((dom == dom&&up == up)&&((nmB key&&(decide (va.1.length≤128) && !(va.2 && !(va.1 == []))))&&(bif hr.1 then J5L hr.2.1 hr.2.2.1 hr.2.2.2.1 hr.2.2.2.2.1 hr.2.2.2.2.2.2 else Jb5 (J3A hr.2 s) zRl)))=true
  rw[h1,J1 h2,e3,beq_self_eq_true,beq_self_eq_true]
  rcases h4 with⟨h4,h6⟩|rfl
  ·rw[h4,cond_true,h6.o];rfl
  ·have:s=false:=by simpa using h5
   rw[this];decide
 ·refine⟨by show key.length≤4000;omega,?_,?_,by show va.1.length≤4000;omega⟩
  ·show hr.2.1.length≤4000
   rcases h4 with⟨_,h6⟩|rfl
   ·exact h6.n
   ·exact Nat.zero_le _
  ·show hr.2.2.2.2.1<2 ^ 64
   rcases h4 with⟨_,h6⟩|rfl
   ·exact h6.f
   ·show(0:Nat)<2 ^ 64;decide
theorem JmK{br:Int->List Int->List Br->Rz (Int×List Br)}{b0:Nat}{dom up:Int}{g:Nat}(hb:∀ i a w p,br i a w = .ok p->IR b0 w a dom up g->IR b0 p.2 (a++[p.1]) dom up g): ∀(s:List Int) (a:List Int) (w:List Br) (q:List Int×List Br),ZG br s a w = .ok q->IR b0 w a dom up g->IR b0 q.2 q.1 dom up g
 |[],a,w,q,h,hw=>by injection h with h;rw[←h];exact hw
 |i::s,a,w,q,h,hw=>by
  rw[ZG]at h
  obtain⟨p,h1,h2⟩:=JA h
  exact JmK hb s _ _ q h2 (hb _ _ _ _ h1 hw)
theorem JvS(b0:Nat)(dom up:Int)(g:Nat): IR b0 [] [] dom up g:=⟨fun j hj=>(by cases hj),fun x hx=>(by cases hx),JJn _ _ _ _⟩
def zBr:Br:=([],([],(false,(0,(0,(false,(zRl,[])))))))
theorem JsU {b0:Nat} {w:List Br} {a:List Int} {dom up:Int} {g:Nat} (I:IR b0 w a dom up g) (x0:Br) (m1:J1k x0 dom up=true) (m2:Wr x0) (ht:Z1 b0 a w x0.1 x0.2.1 x0.2.2.1=false) (ks:List Int) (sub:List Br) (hr:∀ x∈sub,Wr x)
 (hs:∀ pre post:List Br,pre.length=b0+w.length+1->Yu (pre++sub++post) dom g ((b0+w.length:Nat):Int) ks (b0+w.length+1)=some (b0+w.length+1+sub.length)):IR b0 (w++ZI x0 ks::sub) (a++[((b0+w.length:Nat):Int)]) dom up g:=by
 refine⟨fun j hj => ?_,fun x hx => ?_,?_⟩
 ·simp only[List.length_append,List.length_cons]
  rcases List.mem_append.1 hj with hj|hj
  ·have:=I.i j hj;omega
  ·rw[List.mem_singleton.1 hj];omega
 ·rcases List.mem_append.1 hx with hx|hx
  ·exact I.r x hx
  ·rcases List.mem_cons.1 hx with rfl|hx
   ·exact⟨m2.k1,m2.k2,m2.f1,m2.v1⟩
   ·exact hr x hx
 ·have hl:(List.replicate b0 zBr).length=b0:=List.length_replicate
  have:=JIL I.q I.i x0 ks sub (List.replicate b0 zBr) hl m1 (by rw[Jvd hl _ a I.i];exact ht) hs
  rw[List.append_assoc]at this
  exact this
theorem JHX{nd:List Nd}{z:Nat}(hz:Yf z=true)(hz2:z<2 ^ 64): ∀(g:Nat) (dom up:Int) (b0:Nat) (i:Int) (a:List Int) (w:List Br) (p:Int×List Br),Up (g+1) nd z dom up b0 i a w = .ok p->IR b0 w a dom up g->IR b0 p.2 (a++[p.1]) dom up g:=by
 intro g
 induction g with
 |zero =>
  intro dom up b0 i a w p h I
  unfold Up at h
  obtain⟨h5,h⟩:=UY h
  obtain⟨_,_,h⟩:=JA h
  obtain⟨kk,_,h⟩:=JA h
  obtain⟨key,hkey,h⟩:=JA h
  obtain⟨va,hva,h⟩:=JA h
  obtain⟨ht,h⟩:=UY h
  obtain⟨hr,hhr,h⟩:=JA h
  obtain⟨s,hs,h⟩:=JA h
  obtain⟨hsh,h⟩:=UY h
  obtain⟨q,hq,h⟩:=JA h
  injection h with h
  obtain⟨its,_,h2⟩:=JA hq
  have hq0:q=([],[]):=by
   cases its with
   |nil=>injection h2 with h2;exact h2.symm
   |cons j r =>
    rw[ZG]at h2
    obtain⟨_,h3,_⟩:=JA h2
    cases h3
  obtain⟨v1,v2⟩:=Juq hva
  obtain⟨m1,m2⟩:=JvR key va dom up hr s (JfD hkey) v1 v2 (Jve hz hz2 hhr) hsh
  rw[←h,hq0]
  exact JsU I _ m1 m2 ht [] [] (fun x hx=>(by cases hx)) (fun pre post hp=>by rw[JHU];rfl)
 |succ g ih =>
  intro dom up b0 i a w p h I
  unfold Up at h
  obtain⟨h5,h⟩:=UY h
  obtain⟨_,_,h⟩:=JA h
  obtain⟨kk,_,h⟩:=JA h
  obtain⟨key,hkey,h⟩:=JA h
  obtain⟨va,hva,h⟩:=JA h
  obtain⟨ht,h⟩:=UY h
  obtain⟨hr,hhr,h⟩:=JA h
  obtain⟨s,hs,h⟩:=JA h
  obtain⟨hsh,h⟩:=UY h
  obtain⟨q,hq,h⟩:=JA h
  injection h with h
  obtain⟨its,_,h2⟩:=JA hq
  have J:=JmK (fun i' a' w' p'=>ih dom ((b0+w.length:Nat):Int) (b0+w.length+1) i' a' w' p') its [] [] q h2 (JvS _ _ _ _)
  obtain⟨v1,v2⟩:=Juq hva
  obtain⟨m1,m2⟩:=JvR key va dom up hr s (JfD hkey) v1 v2 (Jve hz hz2 hhr) hsh
  rw[←h]
  exact JsU I _ m1 m2 ht q.1 q.2 J.r (fun pre post hp=>J.q pre post hp)
theorem JJO{nd:List Nd}{z:Nat}(hz:Yf z=true)(hz2:z<2 ^ 64){d:Dm}{b0:Nat}{n:Int}{p:(List UInt8×List Int)×List Br}(h:J0G nd z d b0 n = .ok p): IR b0 p.2 p.1.2 (d.length:Int) (-1) 7∧nmB p.1.1=true∧(d.any fun x=>x.1 == p.1.1)=false:=by
 unfold J0G at h
 obtain⟨_,_,h⟩:=JA h
 obtain⟨_,_,h⟩:=JA h
 obtain⟨s,hs,h⟩:=JA h
 obtain⟨hd,h⟩:=UY h
 obtain⟨q,hq,h⟩:=JA h
 injection h with h
 obtain⟨its,_,h2⟩:=JA hq
 have J:=JmK (fun i' a' w' p'=>JHX hz hz2 7 (d.length:Int) (-1) b0 i' a' w' p') its [] [] q h2 (JvS _ _ _ _)
 rw[←h]
 exact⟨J,JfD hs,hd⟩
structure Dq (d:Dm) (b:List Br):Prop where
 q:∀(post:List Br) (r:Dm),J1e (b++post) (d++r) [] 0=J1e (b++post) r d b.length
 r:∀ x∈b,Wr x
 n:∀ x∈d,nmB x.1=true
theorem JJs:Dq [] []:=⟨fun post r=>rfl,fun x hx=>(by cases hx),fun x hx=>(by cases hx)⟩
theorem JvT{nd:List Nd}{z:Nat}(hz:Yf z=true)(hz2:z<2 ^ 64): ∀(s:List Int) (d:Dm) (b:List Br) (q:Dm×List Br),J0A nd z s d b = .ok q->Dq d b->Dq q.1 q.2∧q.1.length=d.length+s.length
 |[],d,b,q,h,hs=>by injection h with h;rw[←h];exact⟨hs,rfl⟩
 |i::s,d,b,q,h,hs=>by
  rw[J0A]at h
  obtain⟨_,h⟩:=UY h
  obtain⟨p,h1,h2⟩:=JA h
  obtain⟨I,hn,hd⟩:=JJO hz hz2 h1
  suffices key:Dq (d++[p.1]) (b++p.2) by
   obtain⟨r1,r2⟩:=JvT hz hz2 s _ _ q h2 key
   refine⟨r1,?_⟩
   rw[r2,List.length_append,List.length_cons,List.length_cons,List.length_nil];omega
  refine⟨fun post r => ?_,fun x hx => ?_,fun x hx => ?_⟩
  ·have e:=hs.q (p.2++post) (p.1::r)
   have e1:b++(p.2++post)=b++p.2++post:=by rw[List.append_assoc]
   have e2:d++p.1::r=d++[p.1]++r:=by rw[List.append_assoc];rfl
   rw[e1,e2]at e
   rw[e,J1e,hd,hn]
   have w:=I.q b post rfl
   show(match Zr (Yu (b++p.2++post) (d.length:Int) 7) (b++p.2++post) (d.length:Int) (-1) p.1.2 [] b.length with
    |none=>false
    |some n=>J1e (b++p.2++post) r (d++[p.1]) n)=_
   rw[w,List.length_append]
  ·rcases List.mem_append.1 hx with hx|hx
   ·exact hs.r x hx
   ·exact I.r x hx
  ·rcases List.mem_append.1 hx with hx|hx
   ·exact hs.n x hx
   ·rw[List.mem_singleton.1 hx];exact hn
theorem JHa{nd:List Nd}(hn:nd.length≤4000)(ho:∀ x∈nd,okD x){j:Int}(h:Z0 nd j 2 = .ok ()): 1≤(Um nd j).length:=by
 unfold Z0 unR at h
 unfold Um
 rcases Jwv nd hn ho j with⟨e,_⟩|⟨_,n,x,_,e,A⟩
 ·rw[e]at h;cases h
 ·rw[e]at h ⊢
  unfold J3G at h
  dsimp only at h ⊢
  cases hk:x.1 != 2 with
  |true=>rw[hk]at h;cases h
  |false =>
   have e2:x.1=2:=by simpa using hk
   have f:=A.fit
   unfold J0F at f
   rw[e2,show((2:Int) == 1)=false from rfl,cond_false,show((2:Int) == 2)=true from rfl,cond_true,Bool.and_eq_true,Bool.and_eq_true]at f
   cases hx:x.2.2.2.2.2 with
   |nil=>rw[hx]at f;exact absurd f.2.1 (by decide)
   |cons a l=>rw[List.length_cons];omega
theorem JJt{nd:List Nd}(hn:nd.length≤4000)(ho:∀ x∈nd,okD x){p:Dm×List Br}(h:ofR nd = .ok p): Jgs p.1 p.2=true∧Wd p.1∧∀ x∈p.2,Wb x:=by
 have hs:=Jwf ho h
 unfold ofR at h
 cases hc:UF nd with
 |false=>rw[hc]at h;cases h
 |true =>
  rw[hc,cond_true]at h
  unfold J1I at h
  obtain⟨_,_,h⟩:=JA h
  obtain⟨z,hz,h⟩:=JA h
  obtain⟨j,hj,h⟩:=JA h
  obtain⟨its,hi,h⟩:=JA h
  have hzz:Yf z=true∧z<2 ^ 64:=by
   cases hf:Jw nd 0 QJ with
   |none =>
    rw[hf]at hz
    injection hz with hz
    rw[←hz];exact⟨JJr,by unfold z08;decide⟩
   |some j=>rw[hf]at hz;exact Juo hz
  obtain⟨D,hl⟩:=JvT hzz.1 hzz.2 its [] [] p h JJs
  have h1:1≤its.length:=by
   unfold Uq at hj
   unfold YY at hi
   cases hf:Jw nd 0 J0t with
   |none=>rw[hf]at hj;cases hj
   |some i =>
    rw[hf]at hi
    obtain⟨_,h3,h4⟩:=JA hi
    injection h4 with h4
    rw[←h4]
    exact JHa hn ho h3
  have hq:=D.q [] []
  rw[List.append_nil,List.append_nil]at hq
  rw[List.length_nil]at hl
  refine⟨?_,⟨fun x hx => ?_,hs.d2,by have:=hs.d1;omega⟩,fun x hx => ?_⟩
  ·unfold Jgs
   rw[J1 (show 1≤p.1.length by omega),J1 hs.d1,J1 hs.b1,hq]
   show(p.2.length == p.2.length)=true
   rw[beq_self_eq_true]
  ·have:=JmJ (D.n x hx);omega
  ·have r:=D.r x hx
   exact⟨r.k1,r.k2,r.f1,hs.b2 x hx,r.v1⟩
end
section
open Go
def tx2(l:List Pce): Prop:=∀ p∈l,p.2.2.2.1.length≤200
theorem Jfp{l:List Pce}{p:Pce}(h:tx2 l)(hp:p.2.2.2.1.length≤200): tx2 (l++[p]):=fun x hx=>by
 rcases List.mem_append.1 hx with hx|hx
 ·exact h x hx
 ·rw[List.mem_singleton.1 hx];exact hp
theorem J1D:tx2 []:=fun x hx=>by cases hx
theorem JvU{no col:Int}{out:List Pc}(h:tx2 out): ∀ o,tx2 (YG no col out o).1
 |none=>J1D
 |some (a,r)=>by
  unfold YG
  dsimp only
  cases !(r == [])with
  |true=>exact J1D
  |false =>
   rw[cond_false]
   by_cases hl:200<a.length
   ·rw[J1 hl];exact J1D
   ·rw[J2 hl,cond_false];exact Jfp h (by show a.length≤200;omega)
theorem JvV{no ind:Int}{n:Nat}{s:List UInt8}{out:List Pc}(h:tx2 out): tx2 (Yg no ind n s out).1:=by
 unfold Yg
 cases s with
 |nil=>exact h
 |cons c t =>
  dsimp only
  cases c == 39 with
  |true=>exact JvU h _
  |false =>
   rw[cond_false]
   cases c == 34 with
   |true=>exact JvU h _
   |false =>
    rw[cond_false]
    cases J2J c || (dsh (c::t) || decide (0<kS (c::t)))with
    |true=>exact J1D
    |false =>
     rw[cond_false]
     by_cases hl:200<(c::t).length
     ·rw[J1 hl];exact J1D
     ·rw[J2 hl,cond_false];exact Jfp h (by show(c::t).length≤200;omega)
theorem JJu{no ind:Int}{n:Nat}{s:List UInt8}{out:List Pc}(h:tx2 out): tx2 (J0E no ind n s out).1:=by
 unfold J0E
 cases decide (0<kS s)with
 |false=>exact JvV h
 |true =>
  rw[cond_true]
  by_cases hl:64<kS s
  ·rw[J1 hl];exact J1D
  ·rw[J2 hl,cond_false]
   exact JvV (Jfp h (by show(s.take (kS s)).length≤200;rw[List.length_take];omega))
theorem JvW(no ind:Int): ∀(f n:Nat) (s:List UInt8) (out:List Pc),tx2 out->tx2 (Yh no ind f n s out).1
 |0,n,s,out,h=>h
 |f+1,n,s,out,h=>by
  rw[Yh]
  cases dsh s with
  |true=>exact JvW no ind f _ _ _ (Jfp h (Nat.zero_le _))
  |false=>exact JJu h
theorem JJv(no ind:Int)(s:List UInt8): tx2 (U7 no ind s).1:=by
 unfold U7
 cases decide (ind<0) || decide (16384<ind)with
 |true=>exact J1D
 |false=>exact JvW no ind _ _ _ _ J1D
theorem JvX:∀(ls:List Ln) (out:List Pc),tx2 out->tx2 (QX ls out).1
 |[],out,h=>h
 |l::r,out,h=>by
  rw[QX]
  cases(U7 l.1 l.2.1 l.2.2).2.1 != 0 with
  |true=>exact J1D
  |false =>
   refine JvX r _ fun x hx => ?_
   rcases List.mem_append.1 hx with hx|hx
   ·exact h x hx
   ·exact JJv _ _ _ x hx
def J60(nd:List Nd): Prop:=∀ x∈nd,okD x
theorem JtH{nd:List Nd}{x:Nd}(h:J60 nd)(hx:okD x): J60 (nd++[x]):=fun y hy=>by
 rcases List.mem_append.1 hy with hy|hy
 ·exact h y hy
 ·rw[List.mem_singleton.1 hy];exact hx
theorem JJw:∀ f:Nat,
 (∀ l nd d l' nd',Uh f l nd d = .inr (l',nd')->tx2 l->J60 nd->nd.length≤2000->tx2 l'∧J60 nd'∧nd.length<nd'.length∧nd'.length≤2000) ∧
 (∀ kd ln col n d l nd keys kids l' nd',kidsS f kd ln col n d l nd keys kids = .inr (l',nd')->tx2 l->J60 nd->nd.length≤2000->keys.length≤kids.length->kids.length≤nd.length->(∀ q∈keys,q.length≤200)->tx2 l'∧J60 nd'∧nd.length≤nd'.length∧nd'.length≤2000):=by
 intro f
 induction f with
 |zero=>exact⟨fun l nd d l' nd' h=>(by rw[Uh]at h;cases h),fun kd ln col n d l nd keys kids l' nd' h=>(by rw[kidsS]at h;cases h)⟩
 |succ f ih =>
  obtain⟨ihb,ihk⟩:=ih
  constructor
  ·intro l nd d l' nd' h ht ho hl
   cases l with
   |nil=>rw[Uh]at h;cases h
   |cons x r =>
    have hx:=ht x (List.mem_cons_self ..)
    have hr:tx2 r:=fun y hy=>ht y (List.mem_cons_of_mem _ hy)
    rw[Uh]at h
    cases h1:(decide (x.1<1) || decide (x.1>3))with
    |true=>rw[h1,cond_true]at h;cases h
    |false =>
     rw[h1,cond_false]at h
     cases h2:decide (24<d)with
     |true=>rw[h2,cond_true]at h;cases h
     |false =>
      rw[h2,cond_false]at h
      by_cases h3:2000≤nd.length
      ·rw[J1 h3,cond_true]at h;cases h
      ·rw[J2 h3,cond_false]at h
       cases h4:x.1 == 3 with
       |true =>
        rw[h4,cond_true]at h
        cases h
        refine⟨hr,JtH ho ⟨by show x.2.2.2.1.length≤4000;omega,Nat.zero_le _,Nat.zero_le _,fun q hq=>(by cases hq)⟩,?_,?_⟩<;>(rw[List.length_append,List.length_singleton];omega)
       |false =>
        rw[h4,cond_false]at h
        obtain⟨a,b,c,e⟩:=ihk _ _ _ _ _ _ _ _ _ _ _ h ht (JtH ho ⟨Nat.zero_le _,Nat.zero_le _,Nat.zero_le _,fun q hq=>(by cases hq)⟩) (by rw[List.length_append,List.length_singleton];omega) (Nat.zero_le _) (Nat.zero_le _) (fun q hq=>(by cases hq))
        rw[List.length_append,List.length_singleton]at c
        exact⟨a,b,by omega,e⟩
  ·intro kd ln col n d l nd keys kids l' nd' h ht ho hl hk hki hq
   rw[Jap]at h
   cases h1:Zl l kd col with
   |false =>
    rw[h1,cond_false]at h
    cases h
    refine⟨ht,fun y hy => ?_,by rw[List.length_set];exact Nat.le_refl _,by rw[List.length_set];exact hl⟩
    rcases List.mem_or_eq_of_mem_set hy with hy|hy
    ·exact ho y hy
    ·rw[hy]
     exact⟨Nat.zero_le _,by show keys.length≤4000;omega,by show kids.length≤4000;omega,fun q hm=>by have:=hq q hm;omega⟩
   |true =>
    rw[h1,cond_true]at h
    cases l with
    |nil=>cases h
    |cons x r =>
     have hx:=ht x (List.mem_cons_self ..)
     have hr:tx2 r:=fun y hy=>ht y (List.mem_cons_of_mem _ hy)
     dsimp only at h
     cases h2:(kd == 2&&Qt x.2.2.2.1 keys)with
     |true=>rw[h2,cond_true]at h;cases h
     |false =>
      rw[h2,cond_false]at h
      cases h3:J09 r x.2.2.1 with
      |false=>rw[h3,cond_false]at h;cases h
      |true =>
       rw[h3,cond_true]at h
       cases hb:Uh f r nd (d+1)with
       |inl e=>rw[hb]at h;cases h
       |inr q =>
        obtain⟨l1,nd1⟩:=q
        rw[hb]at h
        dsimp only at h
        obtain⟨b1,b2,b3,b4⟩:=ihb _ _ _ _ _ hb hr ho hl
        have hkl:(bif kd == 2 then keys++[x.2.2.2.1]else keys).length≤(kids++[((nd.length:Nat):Int)]).length:=by
         rw[List.length_append,List.length_singleton]
         cases kd == 2 with
         |true=>rw[cond_true,List.length_append,List.length_singleton];omega
         |false=>rw[cond_false];omega
        obtain⟨c1,c2,c3,c4⟩:=ihk _ _ _ _ _ _ _ _ _ _ _ h b1 b2 b4 hkl (by rw[List.length_append,List.length_singleton];omega) (fun q hm=>by
         cases hkd:kd == 2 with
         |false=>rw[hkd,cond_false]at hm;exact hq q hm
         |true =>
          rw[hkd,cond_true]at hm
          rcases List.mem_append.1 hm with hm|hm
          ·exact hq q hm
          ·rw[List.mem_singleton.1 hm];exact hx)
        exact⟨c1,c2,by omega,c4⟩
theorem JvY{z:List Row×Int×Int}{nd:List Nd}(h:ZL z = .inr nd): J60 nd∧nd.length≤2000:=by
 unfold ZL at h
 cases h1:z.2.1 != 0 with
 |true=>rw[h1,cond_true]at h;cases h
 |false =>
  rw[h1,cond_false]at h
  cases h2:(QX z.1 []).2.1 != 0 with
  |true=>rw[h2,cond_true]at h;cases h
  |false =>
   rw[h2,cond_false]at h
   have ht:=JvX z.1 [] J1D
   generalize (QX z.1 []).1=l at *
   unfold ofS at h
   cases l with
   |nil=>cases h
   |cons x r =>
    dsimp only at h
    cases hb:Uh (2*(r.length+1)+2) (x::r) [] 1 with
    |inl e=>rw[hb]at h;cases h
    |inr q =>
     obtain⟨l1,nd1⟩:=q
     rw[hb]at h
     dsimp only at h
     obtain⟨_,b2,_,b4⟩:=(JJw _).1 _ _ _ _ _ hb ht (fun y hy=>by cases hy) (Nat.zero_le _)
     cases l1 with
     |nil=>injection h with h;rw[←h];exact⟨b2,b4⟩
     |cons y l=>cases h
end
theorem JJx(k:Nat){R:Type}(K:Bool->Option R): J7G (k+300) K=K true:=by kernel_rfl
theorem JC3(k:Nat){R:Type}(s:List UInt8)(hs:s.length≤16384)(hk:200000<k)(K:List Nd->Int->Int->Option R): J9T k (Js s) K=J95 K (ZL (Qv k (spl s) 1 [])):=by
 unfold J9T Jqn
 have h1:=Jfz s
 have h2:=JkS k (spl s) 1 []
 have h3:=JjX k (spl s) 1 []
 have h4:=Jmh s
 have h5:=JlM (Qv k (spl s) 1 []).1 []
 simp only[List.length_nil,QC]at h2 h3 h5
 rw[JC0 k s (by omega),J2 (by omega),cond_false,ZL]
 dsimp only
 cases hz:(Qv k (spl s) 1 []).2.1 != 0 with
 |true=>rfl
 |false =>
  simp only[cond_false]
  rw[JBm k _ _ (by omega) (by omega) (by omega) (by omega)]
  cases hy:(QX (Qv k (spl s) 1 []).1 []).2.1 != 0 with
  |true=>rfl
  |false =>
   simp only[cond_false]
   exact JFe k _ (by omega) (by omega) K
def J2P(z:RsO): Rz (Dm×List Br):=match z with
 |.inl e=>bif e.1 != 0 then .er e else ofR []
 |.inr nd=>ofR nd
theorem JlV(k:Nat){R:Type}(s:List UInt8)(hs:s.length≤16384)(hk:200000<k)(K:Dm->List Br->Int->Int->Option R): J2c k (Js s) K=(J2P (ZL (Qv k (spl s) 1 []))).run (fun p=>K p.1 p.2 0 0) (K [] [])∧J7L k (Js s) K=(J2P (ZL (Qv k (spl s) 1 []))).run (fun p=>K p.1 p.2 0 0) (K [] []):=by
 have e0:((0:Int) != 0)=false:=rfl
 unfold J2c Jpq J7L Jqq
 rw[JEk k s hs hk,JC3 k s hs hk]
 cases h:ZL (Qv k (spl s) 1 [])with
 |inl e =>
  unfold J95 J2P
  dsimp only
  cases e.1 != 0 with
  |true=>exact⟨rfl,rfl⟩
  |false =>
   rw[cond_false,cond_false,cond_false,Jrl (by omega) (Nat.zero_le _) (fun x hx=>by cases hx),Js2 (by omega) (Nat.zero_le _) (fun x hx=>by cases hx)]
   exact⟨rfl,rfl⟩
 |inr nd =>
  obtain⟨d1,d2⟩:=JvY h
  unfold J95 J2P
  dsimp only
  rw[e0,cond_false,cond_false,Jrl (by omega) (by omega) d1,Js2 (by omega) (by omega) d1]
  exact⟨rfl,rfl⟩
theorem Jwg(nd:List Nd): Nz (ofR nd):=by
 unfold ofR
 cases UF nd with
 |false=>show(11:Int)≠0;decide
 |true=>exact Qz (YC _) fun _=>Qz (J2u fun j=>Ug _) fun z=>Qz (J8G _ _ _) fun _=>Qz (Jfo _ _ _) fun its=>Jmq _ _ _ _ _
theorem JJy(k:Nat)(s:List UInt8): Nz (J2P (ZL (Qv k (spl s) 1 []))):=by
 unfold J2P
 cases ZL (Qv k (spl s) 1 [])with
 |inr nd=>exact Jwg nd
 |inl e =>
  dsimp only
  cases h:e.1 != 0 with
  |true=>show e.1≠0;simpa using h
  |false=>exact Jwg []
theorem JJz(k:Nat)(s:List UInt8){p:Dm×List Br}(h:J2P (ZL (Qv k (spl s) 1 [])) = .ok p): ∃ nd:List Nd,nd.length≤4000∧(∀ x∈nd,okD x)∧ofR nd = .ok p:=by
 unfold J2P at h
 cases hd:ZL (Qv k (spl s) 1 [])with
 |inr nd =>
  obtain⟨d1,d2⟩:=JvY hd
  rw[hd]at h
  exact⟨nd,by omega,d1,h⟩
 |inl e =>
  rw[hd]at h
  dsimp only at h
  cases hb:e.1 != 0 with
  |true=>rw[hb,cond_true]at h;cases h
  |false =>
   rw[hb,cond_false]at h
   exact⟨[],Nat.zero_le _,fun x hx=>(by cases hx),h⟩
theorem JAW(t:List UInt8): ∃ k,J6D k (Js t) (fun b=>some b)=some true:=by
 obtain⟨k0,hk0⟩:∃ k:Nat,k=300000:=⟨_,rfl⟩
 obtain⟨k,hk⟩:∃ k:Nat,k=k0+300:=⟨_,rfl⟩
 have hA:∀ K:Bool->Option Bool,J7G k K=K true:=fun K=>by rw[hk];exact JJx k0 K
 refine⟨k,?_⟩
 unfold J6D Jha
 rw[Y8]
 by_cases h:t.length>6000
 ·rw[J1 (by omega),cond_true];exact hA _
 ·rw[J2 (by omega),cond_false]
  refine(JlV k t (by omega) (by omega) _).1.trans ?_
  cases hp:J2P (ZL (Qv k (spl t) 1 []))with
  |ok p =>
   obtain⟨nd,n1,n2,n3⟩:=JJz k t hp
   obtain⟨q1,q2,q3⟩:=JJt n1 n2 n3
   have hs:=Jwf n2 n3
   simp only[Rz.run]
   refine(JlV k t (by omega) (by omega) _).2.trans ?_
   rw[hp]
   simp only[Rz.run]
   rw[JtE k (by omega) _ _ hs,JBr (by have:=hs.b1;omega) q3 (by omega) p.1 q2,q1]
   exact hA _
  |er f =>
   have hf:f.1≠0:=by
    have:=JJy k t
    rw[hp]at this
    exact this
   simp only[Rz.run]
   refine(JlV k t (by omega) (by omega) _).2.trans ?_
   rw[hp]
   simp only[Rz.run]
   rw[JtE k (by omega) _ _ JvO]
   have e:(f.1 != 0)=true:=by simpa using hf
   simp only[beq_self_eq_true,Bool.and_self,cond_true,e]
   exact hA _
theorem JAr(x:(Kd.sl (.int .u8)).T)(h:Wf (.sl (.int .u8)) x): ∃ k,J6D k x (fun b=>some b)=some true:=by
 obtain⟨t,ht⟩:=JHy (x:=x) (fun y hy=>h.2 y hy)
 rw[ht]
 exact JAW t
end Go.Proofs.YtabkhphoacmcdaaGreatDoor.Pvm
namespace Go.Proofs.YtabkhphoacmcdaaGreatDoor.configParses
open Go Go.Proofs Go.ChangeShapes Go.WideShapes Go.ChangeAt Go.RowKit Go.Proofs.YtabkhphoacmcdaaGreatDoor.Pvm
theorem own:ownKnob Tryz.prog.godebug=none:=by kernel_rfl
theorem laidOut:laidOutB Tryz.prog=true:=by kernel_rfl
set_option maxRecDepth 100000 in
theorem lifted(os:Os)(started:os.Started)(H:Type)(enc:TypeId×Value->H):
 ReturnsInHanded {} Tryz.checked os 3 .any (fun w args=>(Rows.configParsesSpec.pre enc Tryz.prog Tryz.f3 Rows.configParsesRow.domain false w args∧laidMetH Tryz.prog Rows.configParsesRow.laid w)∧sizedMet enc Tryz.prog Tryz.f3 (OpenSpec.ofChange Rows.configParsesSpec) false w args) (Rows.configParsesSpec.post enc Tryz.prog Tryz.f3 false true false false):=by
 refine returnsInHanded_of_change_and (C:=Tryz.checked) (X:=fun w _=>laidMetH Tryz.prog Rows.configParsesRow.laid w) (fun _ _ _ hh h=>h.of_heap hh) own started (by kernel_rfl) Tryz.func3
  (ChangeSpec.witness_shaped (enc:=enc) (C:=Tryz.checked) (os:=os) (X:=fun w _=>laidMetH Tryz.prog Rows.configParsesRow.laid w) false (World.laidAll Tryz.prog os Rows.configParsesRow.laid) #[.slice none 0 0] 8 (World.laidAll_os _ _ _)
   (World.shaped_of_ZipB (by kernel_rfl) (by kernel_rfl)) (by kernel_rfl) (by kernel_rfl) (by kernel_rfl)
   (by rw[MakeChecks.laidMetH_plain _ _ _ (by kernel_rfl)];exact laidMet_laidAll _ (by kernel_rfl) (by kernel_rfl))) ?_
 intro W base args ds gs before hval0 hW hcnd hsz0 hL _
 have hsz:(DataW.weightsEach Tryz.prog (Tryz.f3.params.toList++Rows.configParsesSpec.plain.varTypes Tryz.prog) (ds++gs)).all (· ≤ reachBytes)=true:=hsz0
 have hval:∀(j:Nat) t v,Tryz.f3.params[j]? = some t->args[j]? = some v->Value.okWide Tryz.prog W .any base t v:=hval0
 have hW':=hW
 obtain⟨p,q,hA0,hV,rfl,hfz,hnd⟩:=hW
 have hA:DataW.TrodAll enc Tryz.prog W 0 (fun _=>true) true Tryz.f3.params.toList args.toList ds p:=hA0
 rw[Tryz.params3]at hA hval hsz
 obtain⟨v0,vs0,d0,ds0,p0,q0,hargs,rfl,rfl,h0,r0⟩:=trodAll_cons hA
 obtain⟨rfl,rfl,rfl⟩:=trodAll_nil r0
 obtain rfl:args = #[v0]:=by cases args;simp_all
 obtain⟨rfl,rfl⟩:=trodVars_none hV
 have hws:=JFE (P:=Tryz.prog) hsz
 have k0:=h0
 have lt0:∀ x∈p0,x.block<W.heap.size:=by obtain⟨m,hm⟩:=k0;exact DataW.trod_lt m _ _ _ hm
 obtain⟨x0,wf0,rv0⟩:=JHp J18 (n:=9) (K:=(.sl (.int .u8))) (by kernel_rfl) (by kernel_rfl) (hval 0 22 v0 rfl rfl) h0 (hws 0 22 d0 rfl rfl) (h:=mkH []) (G:=G0) (fun _=>rfl) (fun _ h=>h)
 obtain⟨k,hk⟩:=JAr x0 wf0
 have hrun:Jcu.run (@J6D k) [.v (.sl (.int .u8)) x0] [] Jgn=some true:=(show _=J6D k x0 (fun b=>some b) by kernel_rfl).trans hk
 refine(Jtc (fn:=Tryz.f3) (c:=Tryz.f3.body.getD .skip) (by kernel_rfl) (by kernel_rfl) (by kernel_rfl) (JyI k _ _ _ _ _ hrun) (vals:=[v0]) ⟨v0,_,rfl,rv0,rfl⟩).mono fun e W' ⟨he,bel⟩ => ?_
 subst he
 exact⟨_,rfl,_,_,_,[],_,[],hW',trodAll_mk1 (shut_bool Tryz.underlying4 _),(trodAll_cons_mk (Below.trod laidOut (by kernel_rfl) (of_decide_eq_true (by kernel_rfl)) k0 bel lt0) trodAll_mk0),rfl,bel.frame _,fun h=>by cases h⟩
theorem over:Rows.configParsesRow.holds Tryz.pinned (OpenSpec.ofChange Rows.configParsesSpec) :=
 OpenClaim.holds_of_wide 3 Tryz.f3 rfl rfl rfl rfl rfl rfl rfl ⟨rfl,rfl,rfl,rfl,rfl⟩ rfl rfl rfl rfl rfl (by kernel_rfl) Tryz.func3 (by kernel_rfl)
  (of_decide_eq_true (by kernel_rfl)) (by unfold Func.isWrapper;first|(rw[if_pos (by decide +kernel)];kernel_rfl)|(rw[if_neg (by decide +kernel)];exact⟨rfl,rfl⟩))
  (fun os started H enc _=>lifted os started H enc)
theorem tied:Rows.ConfigParsesCardSaid :=
 Claim7.holds_tied_plain_at .later [] [.data,.pinned] true (true,"c61b158f2341520057692774128471b7c7a277b548e973e80533808263959f4a") true over (fun _ h=>by cases h) (by kernel_rfl) (fun _ h=>by cases h) configParses_row_tie rfl ⟨rfl,rfl⟩ (by kernel_rfl) rfl
  (fun f fn hf hfn=>by
   obtain rfl:f=3:=Option.some.inj ((show Tryz.prog.funcNamed Rows.configParsesRow.func=some 3 by kernel_rfl).symm.trans hf) |>.symm
   obtain rfl:fn=Tryz.f3:=(Option.some.inj (Tryz.func3.symm.trans hfn)).symm
   exact⟨by kernel_rfl,fun j t ht=>by
    rw[Tryz.params3]at ht
    have hm:t∈[22]:=by simpa using Array.mem_of_getElem? ht
    have hall:([22].all fun u => !Tryz.prog.wantsStandIn u)=true:=by kernel_rfl
    exact(show Tryz.prog.wantsStandIn t=false by simpa using List.all_eq_true.1 hall t hm)⟩)
  (by kernel_rfl)
#print axioms tied
end Go.Proofs.YtabkhphoacmcdaaGreatDoor.configParses
namespace Go.Proofs.YtabkhphoacmcdaaGreatDoor
theorem configParses_holds:Rows.ConfigParsesCardSaid:=configParses.tied
end Go.Proofs.YtabkhphoacmcdaaGreatDoor
end
