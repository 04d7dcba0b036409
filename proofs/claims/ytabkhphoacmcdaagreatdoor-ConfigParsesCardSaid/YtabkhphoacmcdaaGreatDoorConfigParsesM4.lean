/- The Go function ConfigParses returns true for every slice of bytes. -/
import Derived.Shelf.GgClosure.StringsIndexFuncTop
import Derived.Shelf.Strings.FuncGrows
import Derived.Lib.TrimU
import Derived.Test.YtabkhphoacmcdaaGreatDoorConfigParsesM0
import Derived.Test.YtabkhphoacmcdaaGreatDoorConfigParsesM1
import Derived.Test.YtabkhphoacmcdaaGreatDoorConfigParsesM2
import Derived.Test.YtabkhphoacmcdaaGreatDoorConfigParsesM3
set_option linter.unusedVariables false
set_option linter.unusedSimpArgs false
set_option linter.unusedSectionVars false
noncomputable section
set_option maxRecDepth 1000000
set_option maxHeartbeats 0
namespace Go.Proofs.YtabkhphoacmcdaaGreatDoor.Pvm
open Go Go.Proofs
def J88:Sh:=⟨[.g [.a kI,.a kI,.a .str]],some ([],[.s Jf,.g [.a kI,.a kI]]),none⟩
def JdN:Cu:=⟨0,[1,3,4,5,6],[.o 11 151 0 [.a kI,.a kI,.a .str],.o 13 29 0 [.a kI,.a kI],.w 100004 157 Jf,.a .str,.a kI]⟩
def JrQ(k:Nat): Cxt:=⟨[JBN k,JBQ k,JCJ k,JCO k,JF7 k],[],[(1006,JdN.spec)],[(2,(.of [(0,1),(3,1),(1,1),(2,1),(4,0)] .done)),(13,(.of [(0,1),(3,1),(1,1),(2,1),(4,0)] .done)),(14,(.of [(0,1),(1,1),(3,1),(5,1),(7,1),(8,1),(9,1),(10,1),(11,1),(12,1),(2,1),(4,1),(6,1),(13,1),(14,0),(15,0),(16,1)] .done)),(19,(.of [(0,1),(2,1),(4,1),(6,1),(7,1),(8,1),(1,1),(3,1),(5,1),(9,1),(10,0),(11,0)] .done)),(23,(.of [(0,1),(3,1),(1,1),(2,1),(4,0)] .done)),(26,(.of [(0,1),(3,1),(1,1),(2,1),(4,0)] .done)),(28,(.of [(0,1),(3,1),(1,1),(2,1),(4,0)] .done))]⟩
def Jih(k:Nat){R:Type}(E1006:(Int->Int->J0->Int->Int->Jc->J0->Int->Option R))(s0 s1:Int)(s2:J0)(s3 s4:Int)(s5:Jc)(s6:J0)(s7:Int)(K:(Jc->Int->Int->Option R)): Option R:=cond (bnd s7 (s6.length:Int) (s6.length:Int)) (J4X k (cut s6 s7 (s6.length:Int)) (fun y12=>cond y12 (cond (Ju s5.length (@List.length (@Kd.T Jf) [((1:Int),(s0,((IntKind.i64.wrap (s1+s7)),([],false))))]) 48) (J4W k s6 (IntKind.i64.wrap (s7+1)) (fun y13=>E1006 s0 s1 s2 s3 s4 (s5++[(1,(s0,((IntKind.i64.wrap (s1+s7)),([],false))))]) s6 (IntKind.i64.wrap ((IntKind.i64.wrap (s7+1))+y13)))) none) (cond (bnd s7 (s6.length:Int) (s6.length:Int)) (J3f k (cut s6 s7 (s6.length:Int)) (fun y13=>cond (decide (y13>0)) (cond (decide (y13>64)) (K [] 5 s0) (cond (bnd s7 (IntKind.i64.wrap (s7+y13)) (s6.length:Int)) (cond (Ju s5.length (@List.length (@Kd.T Jf) [((2:Int),(s0,((IntKind.i64.wrap (s1+s7)),((cut s6 s7 (IntKind.i64.wrap (s7+y13))),false))))]) 48) (J4W k s6 (IntKind.i64.wrap ((IntKind.i64.wrap (s7+y13))+1)) (fun y14=>cond (decide ((IntKind.i64.wrap ((IntKind.i64.wrap ((IntKind.i64.wrap (s7+y13))+1))+y14))≥(s6.length:Int))) (K (s5++[(2,(s0,((IntKind.i64.wrap (s1+s7)),((cut s6 s7 (IntKind.i64.wrap (s7+y13))),false))))]) 0 0) (cond (bnd (IntKind.i64.wrap ((IntKind.i64.wrap ((IntKind.i64.wrap (s7+y13))+1))+y14)) (s6.length:Int) (s6.length:Int)) (cond (inb (IntKind.i64.wrap ((IntKind.i64.wrap ((IntKind.i64.wrap (s7+y13))+1))+y14)) (s6.length:Int)) (cond ((!((((s6.getD (IntKind.i64.wrap ((IntKind.i64.wrap ((IntKind.i64.wrap (s7+y13))+1))+y14)).toNat 0).toNat:Int) == 39) == false)) || (inb (IntKind.i64.wrap ((IntKind.i64.wrap ((IntKind.i64.wrap (s7+y13))+1))+y14)) (s6.length:Int))) (cond (cond (((s6.getD (IntKind.i64.wrap ((IntKind.i64.wrap ((IntKind.i64.wrap (s7+y13))+1))+y14)).toNat 0).toNat:Int) == 39) true (((s6.getD (IntKind.i64.wrap ((IntKind.i64.wrap ((IntKind.i64.wrap (s7+y13))+1))+y14)).toNat 0).toNat:Int) == 34)) (cond (bnd (IntKind.i64.wrap ((IntKind.i64.wrap ((IntKind.i64.wrap (s7+y13))+1))+y14)) (s6.length:Int) (s6.length:Int)) (J2f k (cut s6 (IntKind.i64.wrap ((IntKind.i64.wrap ((IntKind.i64.wrap (s7+y13))+1))+y14)) (s6.length:Int)) (fun y15 y16=>cond (!y16) (K [] 3 s0) (cond (decide ((y15.length:Int)>200)) (K [] 4 s0) (cond (Ju (s5++[((2:Int),(s0,((IntKind.i64.wrap (s1+s7)),((cut s6 s7 (IntKind.i64.wrap (s7+y13))),false))))]).length (@List.length (@Kd.T Jf) [((3:Int),(s0,((IntKind.i64.wrap (s1+(IntKind.i64.wrap ((IntKind.i64.wrap ((IntKind.i64.wrap (s7+y13))+1))+y14)))),(y15,true))))]) 48) (K ((s5++[(2,(s0,((IntKind.i64.wrap (s1+s7)),((cut s6 s7 (IntKind.i64.wrap (s7+y13))),false))))])++[(3,(s0,((IntKind.i64.wrap (s1+(IntKind.i64.wrap ((IntKind.i64.wrap ((IntKind.i64.wrap (s7+y13))+1))+y14)))),(y15,true))))]) 0 0) none)))) none) (cond (inb (IntKind.i64.wrap ((IntKind.i64.wrap ((IntKind.i64.wrap (s7+y13))+1))+y14)) (s6.length:Int)) (J5f k ((s6.getD (IntKind.i64.wrap ((IntKind.i64.wrap ((IntKind.i64.wrap (s7+y13))+1))+y14)).toNat 0).toNat:Int) (fun y15=>cond ((!(y15 == false)) || (bnd (IntKind.i64.wrap ((IntKind.i64.wrap ((IntKind.i64.wrap (s7+y13))+1))+y14)) (s6.length:Int) (s6.length:Int))) (cond (y15 == false) (J4X k (cut s6 (IntKind.i64.wrap ((IntKind.i64.wrap ((IntKind.i64.wrap (s7+y13))+1))+y14)) (s6.length:Int)) (fun y16=>cond ((!(y16 == false)) || (bnd (IntKind.i64.wrap ((IntKind.i64.wrap ((IntKind.i64.wrap (s7+y13))+1))+y14)) (s6.length:Int) (s6.length:Int))) (cond (y16 == false) (J3f k (cut s6 (IntKind.i64.wrap ((IntKind.i64.wrap ((IntKind.i64.wrap (s7+y13))+1))+y14)) (s6.length:Int)) (fun y17=>cond (decide (y17>0)) (K [] 4 s0) (cond (decide (((cut s6 (IntKind.i64.wrap ((IntKind.i64.wrap ((IntKind.i64.wrap (s7+y13))+1))+y14)) (s6.length:Int)).length:Int)>200)) (K [] 4 s0) (cond (Ju (s5++[((2:Int),(s0,((IntKind.i64.wrap (s1+s7)),((cut s6 s7 (IntKind.i64.wrap (s7+y13))),false))))]).length (@List.length (@Kd.T Jf) [((3:Int),(s0,((IntKind.i64.wrap (s1+(IntKind.i64.wrap ((IntKind.i64.wrap ((IntKind.i64.wrap (s7+y13))+1))+y14)))),((cut s6 (IntKind.i64.wrap ((IntKind.i64.wrap ((IntKind.i64.wrap (s7+y13))+1))+y14)) (s6.length:Int)),false))))]) 48) (K ((s5++[(2,(s0,((IntKind.i64.wrap (s1+s7)),((cut s6 s7 (IntKind.i64.wrap (s7+y13))),false))))])++[(3,(s0,((IntKind.i64.wrap (s1+(IntKind.i64.wrap ((IntKind.i64.wrap ((IntKind.i64.wrap (s7+y13))+1))+y14)))),((cut s6 (IntKind.i64.wrap ((IntKind.i64.wrap ((IntKind.i64.wrap (s7+y13))+1))+y14)) (s6.length:Int)),false))))]) 0 0) none)))) (K [] 4 s0)) none)) (K [] 4 s0)) none)) none)) none) none) none))) none) none)) (cond (decide (s7≥(s6.length:Int))) (K s5 0 0) (cond (bnd s7 (s6.length:Int) (s6.length:Int)) (cond (inb s7 (s6.length:Int)) (cond ((!((((s6.getD s7.toNat 0).toNat:Int) == 39) == false)) || (inb s7 (s6.length:Int))) (cond (cond (((s6.getD s7.toNat 0).toNat:Int) == 39) true (((s6.getD s7.toNat 0).toNat:Int) == 34)) (cond (bnd s7 (s6.length:Int) (s6.length:Int)) (J2f k (cut s6 s7 (s6.length:Int)) (fun y14 y15=>cond (!y15) (K [] 3 s0) (cond (decide ((y14.length:Int)>200)) (K [] 4 s0) (cond (Ju s5.length (@List.length (@Kd.T Jf) [((3:Int),(s0,((IntKind.i64.wrap (s1+s7)),(y14,true))))]) 48) (K (s5++[(3,(s0,((IntKind.i64.wrap (s1+s7)),(y14,true))))]) 0 0) none)))) none) (cond (inb s7 (s6.length:Int)) (J5f k ((s6.getD s7.toNat 0).toNat:Int) (fun y14=>cond ((!(y14 == false)) || (bnd s7 (s6.length:Int) (s6.length:Int))) (cond (y14 == false) (J4X k (cut s6 s7 (s6.length:Int)) (fun y15=>cond ((!(y15 == false)) || (bnd s7 (s6.length:Int) (s6.length:Int))) (cond (y15 == false) (J3f k (cut s6 s7 (s6.length:Int)) (fun y16=>cond (decide (y16>0)) (K [] 4 s0) (cond (decide (((cut s6 s7 (s6.length:Int)).length:Int)>200)) (K [] 4 s0) (cond (Ju s5.length (@List.length (@Kd.T Jf) [((3:Int),(s0,((IntKind.i64.wrap (s1+s7)),((cut s6 s7 (s6.length:Int)),false))))]) 48) (K (s5++[(3,(s0,((IntKind.i64.wrap (s1+s7)),((cut s6 s7 (s6.length:Int)),false))))]) 0 0) none)))) (K [] 4 s0)) none)) (K [] 4 s0)) none)) none)) none) none) none)))) none))) none
def Jkl(k:Nat){R:Type}(E1006:(Int->Int->J0->Int->Int->Jc->J0->Int->Option R))(x0 x1:Int)(x2:J0)(K:(Jc->Int->Int->Option R)): Option R:=cond (cond (decide (x1<0)) true (decide (x1>16384))) (K [] 6 x0) (J4W k x2 0 (fun y7=>E1006 x0 x1 x2 0 0 [] x2 y7))
def J7j(k:Nat){R:Type}: Nat->Int->Int->J0->Int->Int->Jc->J0->Int->(Jc->Int->Int->Option R)->Option R
 |0,_,_,_,_,_,_,_,_,_=>none
 |n+1,s0,s1,s2,s3,s4,s5,s6,s7,K=>Jih k (fun s0 s1 s2 s3 s4 s5 s6 s7=>J7j k n s0 s1 s2 s3 s4 s5 s6 s7 K) s0 s1 s2 s3 s4 s5 s6 s7 K
theorem Jzc(k:Nat){R:Type}: ∀(I:Nat->St->Option R) (n:Nat),J88.lp JdN (JrQ k).cx k Tryz.f105 1006 [1,1,1,1,1,0,0] I n=J7j k n:=J88.lok JdN (B:=Jih k) (L:=J7j k) (fun I=>by kernel_rfl) (fun I=>by kernel_rfl) (fun n=>by kernel_rfl) (fun _ _ _ _=>rfl)
def J89(k:Nat){R:Type}(x0 x1:Int)(x2:J0)(K:(Jc->Int->Int->Option R)): Option R:=Jkl k (fun s0 s1 s2 s3 s4 s5 s6 s7=>J7j k k s0 s1 s2 s3 s4 s5 s6 s7 K) x0 x1 x2 K
theorem JrR(k:Nat): DOK Tryz.prog 105 (J88.run (@J89 k)):=dok J88 (JrQ k) Tryz.f105 k (ok1 (JBM k) (ok1 (JBP k) (ok1 (JCI k) (ok1 (JCN k) (ok1 (JF6 k) ok0))))) (by kernel_rfl) (by kernel_rfl) fun R=>J88.f1 JdN (Jkl k) (by kernel_rfl) (Jzc k (fun _ _=>none) k) (by kernel_rfl)
def JrS(k:Nat): Ent:=J88.e 105 (@J89 k)
def J7u:Sh:=⟨[.s US],some ([],[.s Jf,.g [.a kI,.a kI]]),none⟩
def JcF:Cu:=⟨0,[0,3,4,5],[.s US,.o 13 29 0 [.a kI,.a kI],.w 100004 157 Jf,.a kI]⟩
def Jpw(k:Nat): Cxt:=⟨[JrS k],[],[(1003,JcF.spec)],[(7,(.of [(1,1),(0,1),(2,0)] .done))]⟩
def JcG(k:Nat){R:Type}(E1003:(Q8->Int->Int->Jc->Int->Option R))(s0:Q8)(s1 s2:Int)(s3:Jc)(s4:Int)(K:(Jc->Int->Int->Option R)): Option R:=cond (decide (s4<(s0.length:Int))) (cond (inb s4 (s0.length:Int)) (J89 k (s0.getD s4.toNat US.zero).1 (s0.getD s4.toNat US.zero).2.1 (s0.getD s4.toNat US.zero).2.2 (fun y9 y10 y11=>cond (y10 != 0) (K [] y10 y11) (cond (Ju s3.length y9.length 48) (E1003 s0 s1 s2 (s3++y9) (IntKind.i64.wrap (s4+1))) none))) none) (K s3 0 0)
def JiP(k:Nat){R:Type}(E1003:(Q8->Int->Int->Jc->Int->Option R))(x0:Q8)(K:(Jc->Int->Int->Option R)): Option R:=E1003 x0 0 0 [] 0
def J4e(k:Nat){R:Type}: Nat->Q8->Int->Int->Jc->Int->(Jc->Int->Int->Option R)->Option R
 |0,_,_,_,_,_,_=>none
 |n+1,s0,s1,s2,s3,s4,K=>JcG k (fun s0 s1 s2 s3 s4=>J4e k n s0 s1 s2 s3 s4 K) s0 s1 s2 s3 s4 K
theorem JxM(k:Nat){R:Type}: ∀(I:Nat->St->Option R) (n:Nat),J7u.lp JcF (Jpw k).cx k Tryz.f61 1003 [1,1,0,1,0] I n=J4e k n:=J7u.lok JcF (B:=JcG k) (L:=J4e k) (fun I=>by kernel_rfl) (fun I=>by kernel_rfl) (fun n=>by kernel_rfl) (fun _ _ _ _=>rfl)
def J9J(k:Nat){R:Type}(x0:Q8)(K:(Jc->Int->Int->Option R)): Option R:=JiP k (fun s0 s1 s2 s3 s4=>J4e k k s0 s1 s2 s3 s4 K) x0 K
theorem JBR(k:Nat): DOK Tryz.prog 61 (J7u.run (@J9J k)):=dok J7u (Jpw k) Tryz.f61 k (ok1 (JrR k) ok0) (by kernel_rfl) (by kernel_rfl) fun R=>J7u.f1 JcF (JiP k) (by kernel_rfl) (JxM k (fun _ _=>none) k) (by kernel_rfl)
def JBS(k:Nat): Ent:=J7u.e 61 (@J9J k)
def Jjk:Sh:=⟨[.s (.int .u8)],some ([],[.g [.s J4],.g [.a kI,.a kI]]),none⟩
def JCP(k:Nat): Cxt:=⟨[JCH k,JBS k,JG3 k],[],[],[(3,(.of [(0,1),(1,2),(2,0),(3,0)] .done)),(6,(.of [(0,1),(1,2),(2,0),(3,0)] .done))]⟩
def Jqn(k:Nat){R:Type}(x0:J6)(K:(J3->Int->Int->Option R)): Option R:=J9S k x0 (fun y4 y5 y6=>cond (y5 != 0) (K [] y5 y6) (J9J k y4 (fun y7 y8 y9=>cond (y8 != 0) (K [] y8 y9) (Jan k y7 K))))
def J9T:=@Jqn
theorem JCQ(k:Nat): DOK Tryz.prog 30 (Jjk.run (@J9T k)):=dok Jjk (JCP k) Tryz.f30 k (ok1 (JCG k) (ok1 (JBR k) (ok1 (JG2 k) ok0))) (by kernel_rfl) (by kernel_rfl) fun R=>by kernel_rfl
def JCR(k:Nat): Ent:=Jjk.e 30 (@J9T k)
def J8a:Sh:=⟨[.a .str],some ([],[.a .bool]),none⟩
def JdO:Cu:=⟨0,[0,3],[.a .str,.a kI]⟩
def JrT(k:Nat): Cxt:=⟨[Jr8 k],[],[(1004,JdO.spec)],[]⟩
def JdP(k:Nat){R:Type}(E1004:(J0->Int->Option R))(s0:J0)(s1:Int)(K:(Bool->Option R)): Option R:=cond (decide (s1<(s0.length:Int))) (cond (inb s1 (s0.length:Int)) (J7U k ((s0.getD s1.toNat 0).toNat:Int) (fun y6=>cond (!y6) (K false) (E1004 s0 (IntKind.i64.wrap (s1+1))))) none) (K true)
def Jkm(k:Nat){R:Type}(E1004:(J0->Int->Option R))(x0:J0)(K:(Bool->Option R)): Option R:=cond (cond (x0 == []) true (decide ((x0.length:Int)>64))) (K false) (E1004 x0 0)
def J4J(k:Nat){R:Type}: Nat->J0->Int->(Bool->Option R)->Option R
 |0,_,_,_=>none
 |n+1,s0,s1,K=>JdP k (fun s0 s1=>J4J k n s0 s1 K) s0 s1 K
theorem Jzd(k:Nat){R:Type}: ∀(I:Nat->St->Option R) (n:Nat),J8a.lp JdO (JrT k).cx k Tryz.f208 1004 [1,1,0,1,0] I n=J4J k n:=J8a.lok JdO (B:=JdP k) (L:=J4J k) (fun I=>by kernel_rfl) (fun I=>by kernel_rfl) (fun n=>by kernel_rfl) (fun _ _ _ _=>rfl)
def Jah(k:Nat){R:Type}(x0:J0)(K:(Bool->Option R)): Option R:=Jkm k (fun s0 s1=>J4J k k s0 s1 K) x0 K
theorem JF8(k:Nat): DOK Tryz.prog 208 (J8a.run (@Jah k)):=dok J8a (JrT k) Tryz.f208 k (ok1 (Jr7 k) ok0) (by kernel_rfl) (by kernel_rfl) fun R=>J8a.f1 JdO (Jkm k) (by kernel_rfl) (Jzd k (fun _ _=>none) k) (by kernel_rfl)
def JF9(k:Nat): Ent:=J8a.e 208 (@Jah k)
def J0Y:Sh:=⟨[.s .str],some ([],[.a .bool]),none⟩
def J22:Cu:=⟨0,[0,3],[.s .str,.a kI]⟩
def J79:Cu:=⟨0,[0,3,4],[.s .str,.a kI,.a kI]⟩
def JeA(k:Nat): Cxt:=⟨[JF9 k],[],[(1002,J22.spec),(1007,J79.spec)],[(9,(.of [(0,1),(1,1),(2,1),(4,1),(5,1),(6,1),(3,1),(7,1),(8,1)] .done))]⟩
def J9C(k:Nat){R:Type}(E1007:(Jt->Int->Int->Option R))(s0:Jt)(s1:Int)(K:(Bool->Option R)): Option R:=cond (decide (s1<(s0.length:Int))) (cond (inb s1 (s0.length:Int)) (Jah k (s0.getD s1.toNat Kd.str.zero) (fun y7=>cond (!y7) (K false) (E1007 s0 s1 0))) none) (K true)
def Jdr(k:Nat){R:Type}(E1002:(Jt->Int->Option R))(E1007:(Jt->Int->Int->Option R))(s0:Jt)(s1 s2:Int)(K:(Bool->Option R)): Option R:=cond (decide (s2<s1)) (cond (inb s2 (s0.length:Int)) (cond (inb s1 (s0.length:Int)) (cond ((s0.getD s2.toNat Kd.str.zero) == (s0.getD s1.toNat Kd.str.zero)) (K false) (E1007 s0 s1 (IntKind.i64.wrap (s2+1)))) none) none) (E1002 s0 (IntKind.i64.wrap (s1+1)))
def JjP(k:Nat){R:Type}(E1002:(Jt->Int->Option R))(x0:Jt)(K:(Bool->Option R)): Option R:=E1002 x0 0
def J38(k:Nat){R:Type}(J1002:(Jt->Int->Option R)): Nat->Jt->Int->Int->(Bool->Option R)->Option R
 |0,_,_,_,_=>none
 |n+1,s0,s1,s2,K=>Jdr k J1002 (fun s0 s1 s2=>J38 k J1002 n s0 s1 s2 K) s0 s1 s2 K
theorem JyD(k:Nat){R:Type}: ∀(I:Nat->St->Option R) (n:Nat),J0Y.lp J79 (JeA k).cx k Tryz.f177 1007 [1,0,1,0,0,1,0,0,1,1,0] I n=J38 k (J22.cur (I 1002)) n:=J0Y.lokA J79 (fun I J=>Jdr k (J22.cur (I 1002)) J) (fun I=>J38 k (J22.cur (I 1002))) (fun I f=>by kernel_rfl) (fun I=>by kernel_rfl) (fun I=>by kernel_rfl) (fun I n=>by kernel_rfl) (fun _ _ _ _=>rfl)
def J39(k:Nat){R:Type}: Nat->Jt->Int->(Bool->Option R)->Option R
 |0,_,_,_=>none
 |n+1,s0,s1,K=>J9C k (fun s0 s1 s2=>J38 k (fun s0 s1=>J39 k n s0 s1 K) k s0 s1 s2 K) s0 s1 K
theorem JyE(k:Nat){R:Type}: ∀(I:Nat->St->Option R) (n:Nat),J0Y.lp J22 (JeA k).cx k Tryz.f177 1002 [1,0,1,0] I n=J39 k n:=J0Y.lokA J22 (fun I J=>J0Y.glue (l:=J22.fs) (u:=J79.fs) (fun E1007=>J9C k E1007) (J38 k J k)) (fun I=>J39 k ) (fun I f=>by kernel_rfl) (fun I=>(show _=J0Y.glue (l:=J22.fs) (u:=J79.fs) (fun E1007=>J9C k E1007) (J0Y.lp J79 (JeA k).cx k Tryz.f177 1007 [1,0,1,0,0,1,0,0,1,1,0] I k) by kernel_rfl).trans (by rw[JyD])) (fun I=>by kernel_rfl) (fun I n=>by kernel_rfl) (fun _ _ _ _=>rfl)
def Ja9(k:Nat){R:Type}(x0:Jt)(K:(Bool->Option R)): Option R:=JjP k (fun s0 s1=>J39 k k s0 s1 K) x0 K
theorem JE0(k:Nat): DOK Tryz.prog 177 (J0Y.run (@Ja9 k)):=dok J0Y (JeA k) Tryz.f177 k (ok1 (JF8 k) ok0) (by kernel_rfl) (by kernel_rfl) fun R=>J0Y.f1 J22 (JjP k) (by kernel_rfl) (JyE k (fun _ _=>none) k) (by kernel_rfl)
def JE1(k:Nat): Ent:=J0Y.e 177 (@Ja9 k)
def J7K:Sh:=⟨[.a .str],some ([],[.a .bool]),none⟩
def Jd4:Cu:=⟨0,[0,3],[.a .str,.a kI]⟩
def Jqo(k:Nat): Cxt:=⟨[Jqj k,JrS k],[],[(1004,Jd4.spec)],[]⟩
def Jd5(k:Nat){R:Type}(E1004:(J0->Int->Option R))(s0:J0)(s1:Int)(K:(Bool->Option R)): Option R:=cond (decide (s1<(s0.length:Int))) (cond (inb s1 (s0.length:Int)) (cond ((!((decide (((s0.getD s1.toNat 0).toNat:Int)<32)) == false)) || (inb s1 (s0.length:Int))) (cond (cond (decide (((s0.getD s1.toNat 0).toNat:Int)<32)) true (((s0.getD s1.toNat 0).toNat:Int) == 127)) (K false) (E1004 s0 (IntKind.i64.wrap (s1+1)))) none) none) (J51 k s0 (fun y6 y7=>J89 k 0 0 s0 (fun y8 y9 y10=>cond ((!((cond (cond (cond y7 (y6 == s0) false) (y9 == 0) false) ((y8.length:Int) == 1) false) == true)) || (inb 0 (y8.length:Int))) (cond ((!((cond (cond (cond (cond y7 (y6 == s0) false) (y9 == 0) false) ((y8.length:Int) == 1) false) ((y8.getD (Int.toNat 0) Jf.zero).1 == 3) false) == true)) || (inb 0 (y8.length:Int))) (cond ((!((cond (cond (cond (cond (cond y7 (y6 == s0) false) (y9 == 0) false) ((y8.length:Int) == 1) false) ((y8.getD (Int.toNat 0) Jf.zero).1 == 3) false) (((((y8.getD (Int.toNat 0) Jf.zero).2).2).2).1 == s0) false) == true)) || (inb 0 (y8.length:Int))) (K (cond (cond (cond (cond (cond (cond y7 (y6 == s0) false) (y9 == 0) false) ((y8.length:Int) == 1) false) ((y8.getD (Int.toNat 0) Jf.zero).1 == 3) false) (((((y8.getD (Int.toNat 0) Jf.zero).2).2).2).1 == s0) false) (!((((y8.getD (Int.toNat 0) Jf.zero).2).2).2).2) false)) none) none) none)))
def Jjl(k:Nat){R:Type}(E1004:(J0->Int->Option R))(x0:J0)(K:(Bool->Option R)): Option R:=cond (cond (x0 == []) true (decide ((x0.length:Int)>200))) (K false) (E1004 x0 0)
def J4p(k:Nat){R:Type}: Nat->J0->Int->(Bool->Option R)->Option R
 |0,_,_,_=>none
 |n+1,s0,s1,K=>Jd5 k (fun s0 s1=>J4p k n s0 s1 K) s0 s1 K
theorem Jyc(k:Nat){R:Type}: ∀(I:Nat->St->Option R) (n:Nat),J7K.lp Jd4 (Jqo k).cx k Tryz.f176 1004 [1,1,0,1,0] I n=J4p k n:=J7K.lok Jd4 (B:=Jd5 k) (L:=J4p k) (fun I=>by kernel_rfl) (fun I=>by kernel_rfl) (fun n=>by kernel_rfl) (fun _ _ _ _=>rfl)
def J9U(k:Nat){R:Type}(x0:J0)(K:(Bool->Option R)): Option R:=Jjl k (fun s0 s1=>J4p k k s0 s1 K) x0 K
theorem JCS(k:Nat): DOK Tryz.prog 176 (J7K.run (@J9U k)):=dok J7K (Jqo k) Tryz.f176 k (ok1 (Jqi k) (ok1 (JrR k) ok0)) (by kernel_rfl) (by kernel_rfl) fun R=>J7K.f1 Jd4 (Jjl k) (by kernel_rfl) (Jyc k (fun _ _=>none) k) (by kernel_rfl)
def JCT(k:Nat): Ent:=J7K.e 176 (@J9U k)
def JjQ:Sh:=⟨[.g [.a kI,.a kI,.a .str,.a .bool,.s .str,.s kI]],some ([],[.a .bool]),none⟩
def JE2(k:Nat): Cxt:=⟨[JCT k,JE1 k],[],[],[]⟩
def Jr9(k:Nat){R:Type}(x0 x1:Int)(x2:J0)(x3:Bool)(x4:Jt)(x5:J6)(K:(Bool->Option R)): Option R:=cond (x0 == 1) (cond ((cond (cond ((x4.length:Int) == 0) ((x5.length:Int) == 0) false) (decide ((x2.length:Int)≤200)) false) == true) (cond (x3 == false) (J9U k x2 K) (K true)) (K false)) (cond (x0 == 2) (K (cond (cond (cond ((x4.length:Int) == 0) (decide ((x5.length:Int)>0)) false) (x2 == []) false) (!x3) false)) (cond (x0 == 3) (cond ((cond (cond (cond ((x4.length:Int) == (x5.length:Int)) (decide ((x5.length:Int)>0)) false) (x2 == []) false) (!x3) false) == true) (Ja9 k x4 K) (K false)) (K false)))
def Jaa:=@Jr9
theorem JE3(k:Nat): DOK Tryz.prog 130 (JjQ.run (@Jaa k)):=dok JjQ (JE2 k) Tryz.f130 k (ok1 (JCS k) (ok1 (JE0 k) ok0)) (by kernel_rfl) (by kernel_rfl) fun R=>by kernel_rfl
def JE4(k:Nat): Ent:=JjQ.e 130 (@Jaa k)
def ZX:Sh:=⟨[.g [.s J4],.a kI,.a kI],some ([],[.a kI]),none⟩
abbrev J52:Type 1:=(R:Type)->J3->Int->Int->(Int->Option R)->Option R
def J7a:Cu:=⟨0,[1,2,3,7,8],[.a kI,.a kI,.o 13 38 0 [.s J4],.a kI,.a kI]⟩
def JeB(k:Nat)(YR:J52): Cxt:=⟨[ZX.e 77 YR,JE4 k],[],[(1005,J7a.spec)],[]⟩
def Jds(k:Nat)(YR:J52){R:Type}(E1005:(Int->Int->J3->Int->Int->Option R))(s0 s1:Int)(s2:J3)(s3 s4:Int)(K:(Int->Option R)): Option R:=cond (inb s0 (s2.length:Int)) (cond (decide (s4<(((s2.getD s0.toNat J4.zero).2.2.2.2.2).length:Int))) (cond (inb s0 (s2.length:Int)) (cond (inb s4 (((s2.getD s0.toNat J4.zero).2.2.2.2.2).length:Int)) (cond ((((s2.getD s0.toNat J4.zero).2.2.2.2.2).getD s4.toNat kI.zero) != s3) (K (-(1:Int))) (YR R s2 s3 (IntKind.i64.wrap (s1+1)) (fun y9=>cond (decide (y9<0)) (K (-(1:Int))) (E1005 s0 s1 s2 y9 (IntKind.i64.wrap (s4+1)))))) none) none) (K s3)) none
def Jab(k:Nat)(YR:J52){R:Type}(E1005:(Int->Int->J3->Int->Int->Option R))(x0:J3)(x1 x2:Int)(K:(Int->Option R)): Option R:=cond ((!((cond (decide (x1≥(x0.length:Int))) true (decide (x2>24))) == false)) || (inb x1 (x0.length:Int))) (cond ((cond (decide (x1≥(x0.length:Int))) true (decide (x2>24))) == false) (Jaa k (x0.getD x1.toNat J4.zero).1 (x0.getD x1.toNat J4.zero).2.1 (x0.getD x1.toNat J4.zero).2.2.1 (x0.getD x1.toNat J4.zero).2.2.2.1 (x0.getD x1.toNat J4.zero).2.2.2.2.1 (x0.getD x1.toNat J4.zero).2.2.2.2.2 (fun y7=>cond (!y7) (K (-(1:Int))) (E1005 x1 x2 x0 (IntKind.i64.wrap (x1+1)) 0))) (K (-(1:Int)))) none
def J4z(k:Nat)(YR:J52){R:Type}: Nat->Int->Int->J3->Int->Int->(Int->Option R)->Option R
 |0,_,_,_,_,_,_=>none
 |n+1,s0,s1,s2,s3,s4,K=>Jds k YR (fun s0 s1 s2 s3 s4=>J4z k YR n s0 s1 s2 s3 s4 K) s0 s1 s2 s3 s4 K
theorem JyF(k:Nat)(YR:J52){R:Type}: ∀(I:Nat->St->Option R) (n:Nat),ZX.lp J7a (JeB k YR).cx k Tryz.f77 1005 [1,1,1,0,1,0] I n=J4z k YR n:=ZX.lok J7a (B:=Jds k YR) (L:=J4z k YR) (fun I=>by kernel_rfl) (fun I=>by kernel_rfl) (fun n=>by kernel_rfl) (fun _ _ _ _=>rfl)
theorem JE5(k:Nat)(YR:J52)(R:Type): ZX.at (JeB k YR) k Tryz.f77 R=ZX.glue (l:=ZX.ps) (u:=J7a.fs) (fun E1005=>@Jab k YR R E1005) (ZX.lp J7a (JeB k YR).cx k Tryz.f77 1005 [1,1,1,0,1,0] (fun _ _=>none) k):=by kernel_rfl
def J0V:Nat->J52
 |0,_,_,_,_,_=>none
 |k+1,R,x0,x1,x2,K=>Jab k (J0V k) (fun s0 s1 s2 s3 s4=>J4z k (J0V k) k s0 s1 s2 s3 s4 K) x0 x1 x2 K
def JeC(k:Nat){R:Type}(x0:J3)(x1 x2:Int)(K:(Int->Option R)): Option R:=J0V k R x0 x1 x2 K
theorem JCU(k:Nat): DOK Tryz.prog 77 (ZX.run (J0V k)):=by
 induction k with
 |zero=>exact ZX.ok0 fun R=>by kernel_rfl
 |succ k ih =>
  have ih_ref10_walk:=ih
  exact dok ZX (JeB k (J0V k)) Tryz.f77 k (ok1 ih_ref10_walk (ok1 (JE3 k) ok0)) (by kernel_rfl) (by kernel_rfl) fun R=>ZX.f1 J7a (Jab k (J0V k)) (JE5 k (J0V k) R) (JyF k (J0V k) (fun _ _=>none) k) (by kernel_rfl)
theorem JE6(k:Nat): DOK Tryz.prog 77 (ZX.run (@JeC k)):=(JCU k)
def JE7(k:Nat): Ent:=ZX.e 77 (@JeC k)
def Jjm:Sh:=⟨[.g [.s J4]],some ([],[.a .bool]),none⟩
def JCV(k:Nat): Cxt:=⟨[JE7 k],[],[],[(1,(.of [(0,1),(1,1),(2,1),(3,1),(4,1),(5,1),(6,1),(7,1),(8,1),(9,1),(10,1),(13,1),(11,1),(14,2),(15,1),(12,0),(16,1),(17,1),(18,1)] .done))]⟩
def Jqp(k:Nat){R:Type}(x0:J3)(K:(Bool->Option R)): Option R:=cond ((cond (decide ((x0.length:Int)≥1)) (decide ((x0.length:Int)≤2000)) false) == true) (JeC k x0 0 1 (fun y4=>K (y4 == (x0.length:Int)))) (K false)
def J9V:=@Jqp
theorem JCW(k:Nat): DOK Tryz.prog 38 (Jjm.run (@J9V k)):=dok Jjm (JCV k) Tryz.f38 k (ok1 (JE6 k) ok0) (by kernel_rfl) (by kernel_rfl) fun R=>by kernel_rfl
def JCX(k:Nat): Ent:=Jjm.e 38 (@J9V k)
def J2d:Sh:=⟨[.g [.s J4],.a kI,.a .str],some ([],[.a kI,.a .bool]),none⟩
abbrev Uz:Type 1:=(R:Type)->J3->Int->J0->(Int->Bool->Option R)->Option R
def JcH:Cu:=⟨0,[2,8,9],[.a .str,.o 18 73 0 [.a kI,.a kI,.a .str,.a .bool,.s .str,.s kI],.a kI]⟩
def Jpx(k:Nat): Cxt:=⟨[],[],[(1005,JcH.spec)],[]⟩
def JcI(k:Nat){R:Type}(E1005:(J0->Int->Int->J0->Bool->Jt->J6->Int->Option R))(s0:J0)(s1 s2:Int)(s3:J0)(s4:Bool)(s5:Jt)(s6:J6)(s7:Int)(K:(Int->Bool->Option R)): Option R:=cond (decide (s7<(s5.length:Int))) (cond (inb s7 (s5.length:Int)) (cond ((s5.getD s7.toNat Kd.str.zero) == s0) (cond (inb s7 (s6.length:Int)) (K (s6.getD s7.toNat kI.zero) true) none) (E1005 s0 s1 s2 s3 s4 s5 s6 (IntKind.i64.wrap (s7+1)))) none) (K 0 false)
def JiQ(k:Nat){R:Type}(E1005:(J0->Int->Int->J0->Bool->Jt->J6->Int->Option R))(x0:J3)(x1:Int)(x2:J0)(K:(Int->Bool->Option R)): Option R:=cond (inb x1 (x0.length:Int)) (cond ((x0.getD x1.toNat J4.zero).1 != 3) (K 0 false) (E1005 x2 (x0.getD x1.toNat J4.zero).1 (x0.getD x1.toNat J4.zero).2.1 (x0.getD x1.toNat J4.zero).2.2.1 (x0.getD x1.toNat J4.zero).2.2.2.1 (x0.getD x1.toNat J4.zero).2.2.2.2.1 (x0.getD x1.toNat J4.zero).2.2.2.2.2 0)) none
def J4f(k:Nat){R:Type}: Nat->J0->Int->Int->J0->Bool->Jt->J6->Int->(Int->Bool->Option R)->Option R
 |0,_,_,_,_,_,_,_,_,_=>none
 |n+1,s0,s1,s2,s3,s4,s5,s6,s7,K=>JcI k (fun s0 s1 s2 s3 s4 s5 s6 s7=>J4f k n s0 s1 s2 s3 s4 s5 s6 s7 K) s0 s1 s2 s3 s4 s5 s6 s7 K
theorem JxN(k:Nat){R:Type}: ∀(I:Nat->St->Option R) (n:Nat),J2d.lp JcH (Jpx k).cx k Tryz.f81 1005 [1,1,1,0,1,0] I n=J4f k n:=J2d.lok JcH (B:=JcI k) (L:=J4f k) (fun I=>by kernel_rfl) (fun I=>by kernel_rfl) (fun n=>by kernel_rfl) (fun _ _ _ _=>rfl)
def Q6(k:Nat){R:Type}(x0:J3)(x1:Int)(x2:J0)(K:(Int->Bool->Option R)): Option R:=JiQ k (fun s0 s1 s2 s3 s4 s5 s6 s7=>J4f k k s0 s1 s2 s3 s4 s5 s6 s7 K) x0 x1 x2 K
theorem Jec(k:Nat): DOK Tryz.prog 81 (J2d.run (@Q6 k)):=dok J2d (Jpx k) Tryz.f81 k ok0 (by kernel_rfl) (by kernel_rfl) fun R=>J2d.f1 JcH (JiQ k) (by kernel_rfl) (JxN k (fun _ _=>none) k) (by kernel_rfl)
def JkO:Sh:=⟨[.g [.s J4],.a kI,.a kI],some ([],[.g [.a kI,.a kI]]),none⟩
def JG4(k:Nat): Cxt:=⟨[],[],[],[]⟩
def JkP(k:Nat){R:Type}(x0:J3)(x1 x2:Int)(K:(Int->Int->Option R)): Option R:=cond (inb x1 (x0.length:Int)) (K x2 (x0.getD x1.toNat J4.zero).2.1) none
def Y9:=@JkP
theorem J5j(k:Nat): DOK Tryz.prog 131 (JkO.run (@Y9 k)):=dok JkO (JG4 k) Tryz.f131 k ok0 (by kernel_rfl) (by kernel_rfl) fun R=>by kernel_rfl
def J5k(k:Nat): Ent:=JkO.e 131 (@Y9 k)
def Zx:Sh:=⟨[.g [.s J4],.a kI,.s .str],some ([],[.g [.a kI,.a kI]]),none⟩
abbrev Uy:Type 1:=(R:Type)->J3->Int->Jt->(Int->Int->Option R)->Option R
def J1X:Cu:=⟨0,[2,3,6,7,8],[.s .str,.o 13 38 0 [.s J4],.o 16 29 0 [.a kI,.a kI],.o 17 73 0 [.a kI,.a kI,.a .str,.a .bool,.s .str,.s kI],.a kI]⟩
def J6B:Cu:=⟨0,[2,3,6,7,8,9,10],[.s .str,.o 13 38 0 [.s J4],.o 16 29 0 [.a kI,.a kI],.o 17 73 0 [.a kI,.a kI,.a .str,.a .bool,.s .str,.s kI],.a kI,.a .bool,.a kI]⟩
def Je0(k:Nat): Cxt:=⟨[J5k k],[],[(1005,J1X.spec),(1009,J6B.spec)],[(11,(.of [(0,1),(1,1),(2,1),(3,1),(4,1),(6,1),(8,1),(5,1),(7,1),(9,1),(10,1),(11,1),(12,1),(13,1)] .done)),(13,(.of [(1,1),(3,1),(0,1),(2,1),(4,1),(5,1),(6,0),(7,0)] .done))]⟩
def J9q(k:Nat){R:Type}(E1009:(Jt->J3->Int->Int->Int->Int->J0->Bool->Jt->J6->Int->Bool->Int->Option R))(s0:Jt)(s1:J3)(s2 s3 s4 s5:Int)(s6:J0)(s7:Bool)(s8:Jt)(s9:J6)(s10:Int)(K:(Int->Int->Option R)): Option R:=cond (decide (s10<(s8.length:Int))) (E1009 s0 s1 s2 s3 s4 s5 s6 s7 s8 s9 s10 false 0) (K 0 0)
def Jct(k:Nat){R:Type}(E1005:(Jt->J3->Int->Int->Int->Int->J0->Bool->Jt->J6->Int->Option R))(E1009:(Jt->J3->Int->Int->Int->Int->J0->Bool->Jt->J6->Int->Bool->Int->Option R))(s0:Jt)(s1:J3)(s2 s3 s4 s5:Int)(s6:J0)(s7:Bool)(s8:Jt)(s9:J6)(s10:Int)(s11:Bool)(s12:Int)(K:(Int->Int->Option R)): Option R:=cond (decide (s12<(s0.length:Int))) (cond ((!(s11 == false)) || (inb s12 (s0.length:Int))) (cond ((!(s11 == false)) || (inb s10 (s8.length:Int))) (E1009 s0 s1 s2 s3 s4 s5 s6 s7 s8 s9 s10 (cond s11 true ((s0.getD s12.toNat Kd.str.zero) == (s8.getD s10.toNat Kd.str.zero))) (IntKind.i64.wrap (s12+1))) none) none) (cond (!s11) (cond (inb s10 (s9.length:Int)) (Y9 k s1 (s9.getD s10.toNat kI.zero) 5 K) none) (E1005 s0 s1 s2 s3 s4 s5 s6 s7 s8 s9 (IntKind.i64.wrap (s10+1))))
def Jir(k:Nat){R:Type}(E1005:(Jt->J3->Int->Int->Int->Int->J0->Bool->Jt->J6->Int->Option R))(x0:J3)(x1:Int)(x2:Jt)(K:(Int->Int->Option R)): Option R:=cond (inb x1 (x0.length:Int)) (cond ((x0.getD x1.toNat J4.zero).1 != 3) (Y9 k x0 x1 11 K) (E1005 x2 x0 0 0 (x0.getD x1.toNat J4.zero).1 (x0.getD x1.toNat J4.zero).2.1 (x0.getD x1.toNat J4.zero).2.2.1 (x0.getD x1.toNat J4.zero).2.2.2.1 (x0.getD x1.toNat J4.zero).2.2.2.2.1 (x0.getD x1.toNat J4.zero).2.2.2.2.2 0)) none
def J2Y(k:Nat){R:Type}(J1005:(Jt->J3->Int->Int->Int->Int->J0->Bool->Jt->J6->Int->Option R)): Nat->Jt->J3->Int->Int->Int->Int->J0->Bool->Jt->J6->Int->Bool->Int->(Int->Int->Option R)->Option R
 |0,_,_,_,_,_,_,_,_,_,_,_,_,_,_=>none
 |n+1,s0,s1,s2,s3,s4,s5,s6,s7,s8,s9,s10,s11,s12,K=>Jct k J1005 (fun s0 s1 s2 s3 s4 s5 s6 s7 s8 s9 s10 s11 s12=>J2Y k J1005 n s0 s1 s2 s3 s4 s5 s6 s7 s8 s9 s10 s11 s12 K) s0 s1 s2 s3 s4 s5 s6 s7 s8 s9 s10 s11 s12 K
theorem Jxy(k:Nat){R:Type}: ∀(I:Nat->St->Option R) (n:Nat),Zx.lp J6B (Je0 k).cx k Tryz.f79 1009 [1,1,1,0,1,0,0,1,0,0,1,0,1,0] I n=J2Y k (J1X.cur (I 1005)) n:=Zx.lokA J6B (fun I J=>Jct k (J1X.cur (I 1005)) J) (fun I=>J2Y k (J1X.cur (I 1005))) (fun I f=>by kernel_rfl) (fun I=>by kernel_rfl) (fun I=>by kernel_rfl) (fun I n=>by kernel_rfl) (fun _ _ _ _=>rfl)
def J49(k:Nat){R:Type}: Nat->Jt->J3->Int->Int->Int->Int->J0->Bool->Jt->J6->Int->(Int->Int->Option R)->Option R
 |0,_,_,_,_,_,_,_,_,_,_,_,_=>none
 |n+1,s0,s1,s2,s3,s4,s5,s6,s7,s8,s9,s10,K=>J9q k (fun s0 s1 s2 s3 s4 s5 s6 s7 s8 s9 s10 s11 s12=>J2Y k (fun s0 s1 s2 s3 s4 s5 s6 s7 s8 s9 s10=>J49 k n s0 s1 s2 s3 s4 s5 s6 s7 s8 s9 s10 K) k s0 s1 s2 s3 s4 s5 s6 s7 s8 s9 s10 s11 s12 K) s0 s1 s2 s3 s4 s5 s6 s7 s8 s9 s10 K
theorem Jxz(k:Nat){R:Type}: ∀(I:Nat->St->Option R) (n:Nat),Zx.lp J1X (Je0 k).cx k Tryz.f79 1005 [1,1,1,0,1,0] I n=J49 k n:=Zx.lokA J1X (fun I J=>Zx.glue (l:=J1X.fs) (u:=J6B.fs) (fun E1009=>J9q k E1009) (J2Y k J k)) (fun I=>J49 k ) (fun I f=>by kernel_rfl) (fun I=>(show _=Zx.glue (l:=J1X.fs) (u:=J6B.fs) (fun E1009=>J9q k E1009) (Zx.lp J6B (Je0 k).cx k Tryz.f79 1009 [1,1,1,0,1,0,0,1,0,0,1,0,1,0] I k) by kernel_rfl).trans (by rw[Jxy])) (fun I=>by kernel_rfl) (fun I n=>by kernel_rfl) (fun _ _ _ _=>rfl)
def QH(k:Nat){R:Type}(x0:J3)(x1:Int)(x2:Jt)(K:(Int->Int->Option R)): Option R:=Jir k (fun s0 s1 s2 s3 s4 s5 s6 s7 s8 s9 s10=>J49 k k s0 s1 s2 s3 s4 s5 s6 s7 s8 s9 s10 K) x0 x1 x2 K
theorem Je1(k:Nat): DOK Tryz.prog 79 (Zx.run (@QH k)):=dok Zx (Je0 k) Tryz.f79 k (ok1 (J5j k) ok0) (by kernel_rfl) (by kernel_rfl) fun R=>Zx.f1 J1X (Jir k) (by kernel_rfl) (Jxz k (fun _ _=>none) k) (by kernel_rfl)
def J9K:Sh:=⟨[.g [.s J4],.a kI,.a kI],some ([],[.g [.a kI,.a kI]]),none⟩
abbrev J26:Type 1:=(R:Type)->J3->Int->Int->(Int->Int->Option R)->Option R
def JBT(k:Nat): Cxt:=⟨[J5k k],[],[],[]⟩
def Jpy(k:Nat){R:Type}(x0:J3)(x1 x2:Int)(K:(Int->Int->Option R)): Option R:=cond (inb x1 (x0.length:Int)) (cond ((x0.getD x1.toNat J4.zero).1 != x2) (Y9 k x0 x1 11 K) (K 0 0)) none
def UA:=@Jpy
theorem JiR(k:Nat): DOK Tryz.prog 84 (J9K.run (@UA k)):=dok J9K (JBT k) Tryz.f84 k (ok1 (J5j k) ok0) (by kernel_rfl) (by kernel_rfl) fun R=>by kernel_rfl
def JBU(k:Nat): Ent:=J9K.e 84 (@UA k)
def JjR:Sh:=⟨[.a (.int .u8)],some ([],[.a .bool]),none⟩
def JE8(k:Nat): Cxt:=⟨[],[],[],[]⟩
def Jra(k:Nat){R:Type}(x0:Int)(K:(Bool->Option R)): Option R:=K (cond (decide (x0≥48)) (decide (x0≤57)) false)
def J59:=@Jra
theorem Jrb(k:Nat): DOK Tryz.prog 132 (JjR.run (@J59 k)):=dok JjR (JE8 k) Tryz.f132 k ok0 (by kernel_rfl) (by kernel_rfl) fun R=>by kernel_rfl
def Jrc(k:Nat): Ent:=JjR.e 132 (@J59 k)
def J8g:Sh:=⟨[.a kI],some ([],[.a kI]),none⟩
def Je2:Cu:=⟨0,[0,3,4],[.a kI,.a kI,.a kI]⟩
def Jsz(k:Nat): Cxt:=⟨[],[],[(1003,Je2.spec)],[]⟩
def Je3(k:Nat){R:Type}(E1003:(Int->Int->Int->Option R))(s0 s1 s2:Int)(K:(Int->Option R)): Option R:=cond (decide (s2<s0)) (E1003 s0 (IntKind.i64.wrap (s1*10)) (IntKind.i64.wrap (s2+1))) (K s1)
def JkQ(k:Nat){R:Type}(E1003:(Int->Int->Int->Option R))(x0:Int)(K:(Int->Option R)): Option R:=E1003 x0 1 0
def J4Q(k:Nat){R:Type}: Nat->Int->Int->Int->(Int->Option R)->Option R
 |0,_,_,_,_=>none
 |n+1,s0,s1,s2,K=>Je3 k (fun s0 s1 s2=>J4Q k n s0 s1 s2 K) s0 s1 s2 K
theorem JzN(k:Nat){R:Type}: ∀(I:Nat->St->Option R) (n:Nat),J8g.lp Je2 (Jsz k).cx k Tryz.f133 1003 [1,1,0,1,0] I n=J4Q k n:=J8g.lok Je2 (B:=Je3 k) (L:=J4Q k) (fun I=>by kernel_rfl) (fun I=>by kernel_rfl) (fun n=>by kernel_rfl) (fun _ _ _ _=>rfl)
def J10(k:Nat){R:Type}(x0:Int)(K:(Int->Option R)): Option R:=JkQ k (fun s0 s1 s2=>J4Q k k s0 s1 s2 K) x0 K
theorem JG5(k:Nat): DOK Tryz.prog 133 (J8g.run (@J10 k)):=dok J8g (Jsz k) Tryz.f133 k ok0 (by kernel_rfl) (by kernel_rfl) fun R=>J8g.f1 Je2 (JkQ k) (by kernel_rfl) (JzN k (fun _ _=>none) k) (by kernel_rfl)
def JG6(k:Nat): Ent:=J8g.e 133 (@J10 k)
def J0r:Sh:=⟨[.a .str],some ([],[.a .flt,.a .bool]),none⟩
abbrev J7V:Type 1:=(R:Type)->J0->(Nat->Bool->Option R)->Option R
def J4K:Cu:=⟨0,[0,4,5,6,7],[.a .str,.a kI,.a kI,.a kI,.a kI]⟩
def J7k:Cu:=⟨0,[0,4,5,6,7],[.a .str,.a kI,.a kI,.a kI,.a kI]⟩
def JeS(k:Nat): Cxt:=⟨[JFN k,JFK k,Jrc k,JG6 k],[],[(1011,J4K.spec),(1020,J7k.spec)],[]⟩
def JdQ(k:Nat){R:Type}(E1011 E1020:(J0->Int->Int->Int->Int->Option R))(s0:J0)(s1 s2 s3 s4:Int)(K:(Nat->Bool->Option R)): Option R:=cond ((!((decide (s1<(s0.length:Int))) == true)) || (inb s1 (s0.length:Int))) (cond ((decide (s1<(s0.length:Int))) == true) (J59 k ((s0.getD s1.toNat 0).toNat:Int) (fun y10=>cond (cond y10 (decide ((IntKind.i64.wrap (s1-s4))<9)) false) (cond (inb s1 (s0.length:Int)) (E1011 s0 (IntKind.i64.wrap (s1+1)) (IntKind.i64.wrap ((IntKind.i64.wrap (s2*10))+(IntKind.i64.wrap (IntKind.u8.wrap (((s0.getD s1.toNat 0).toNat:Int)-48))))) s3 s4) none) (cond ((!(((s1 == s4) == false)&&((decide ((IntKind.i64.wrap (s1-s4))>1)) == true))) || (inb s4 (s0.length:Int))) (cond (cond (s1 == s4) true (cond (decide ((IntKind.i64.wrap (s1-s4))>1)) (((s0.getD s4.toNat 0).toNat:Int) == 48) false)) (K 0 false) (cond (decide (s1<(s0.length:Int))) (cond (inb s1 (s0.length:Int)) (cond (((s0.getD s1.toNat 0).toNat:Int) != 46) (K 0 false) (E1020 s0 (IntKind.i64.wrap (s1+1)) s2 s3 s4)) none) (cond (decide (s1<(s0.length:Int))) (K 0 false) (J10 k s3 (fun y11=>cond (@Option.isSome Nat (@Jq @Go.BinOp.quo (@Jo s2) (@Jo y11))) (cond (s4 == 1) (K (@Ul (@Option.getD Nat (@Jq @Go.BinOp.quo (@Jo s2) (@Jo y11)) (0:Nat))) true) (K (@Option.getD Nat (@Jq @Go.BinOp.quo (@Jo s2) (@Jo y11)) (0:Nat)) true)) none))))) none))) (cond ((!(((s1 == s4) == false)&&((decide ((IntKind.i64.wrap (s1-s4))>1)) == true))) || (inb s4 (s0.length:Int))) (cond (cond (s1 == s4) true (cond (decide ((IntKind.i64.wrap (s1-s4))>1)) (((s0.getD s4.toNat 0).toNat:Int) == 48) false)) (K 0 false) (cond (decide (s1<(s0.length:Int))) (cond (inb s1 (s0.length:Int)) (cond (((s0.getD s1.toNat 0).toNat:Int) != 46) (K 0 false) (E1020 s0 (IntKind.i64.wrap (s1+1)) s2 s3 s4)) none) (cond (decide (s1<(s0.length:Int))) (K 0 false) (J10 k s3 (fun y10=>cond (@Option.isSome Nat (@Jq @Go.BinOp.quo (@Jo s2) (@Jo y10))) (cond (s4 == 1) (K (@Ul (@Option.getD Nat (@Jq @Go.BinOp.quo (@Jo s2) (@Jo y10)) (0:Nat))) true) (K (@Option.getD Nat (@Jq @Go.BinOp.quo (@Jo s2) (@Jo y10)) (0:Nat)) true)) none))))) none)) none
def JdR(k:Nat){R:Type}(E1020:(J0->Int->Int->Int->Int->Option R))(s0:J0)(s1 s2 s3 s4:Int)(K:(Nat->Bool->Option R)): Option R:=cond ((!((decide (s1<(s0.length:Int))) == true)) || (inb s1 (s0.length:Int))) (cond ((decide (s1<(s0.length:Int))) == true) (J59 k ((s0.getD s1.toNat 0).toNat:Int) (fun y10=>cond (cond y10 (decide (s3<6)) false) (cond (inb s1 (s0.length:Int)) (E1020 s0 (IntKind.i64.wrap (s1+1)) (IntKind.i64.wrap ((IntKind.i64.wrap (s2*10))+(IntKind.i64.wrap (IntKind.u8.wrap (((s0.getD s1.toNat 0).toNat:Int)-48))))) (IntKind.i64.wrap (s3+1)) s4) none) (cond (s3 == 0) (K 0 false) (cond (decide (s1<(s0.length:Int))) (K 0 false) (J10 k s3 (fun y11=>cond (@Option.isSome Nat (@Jq @Go.BinOp.quo (@Jo s2) (@Jo y11))) (cond (s4 == 1) (K (@Ul (@Option.getD Nat (@Jq @Go.BinOp.quo (@Jo s2) (@Jo y11)) (0:Nat))) true) (K (@Option.getD Nat (@Jq @Go.BinOp.quo (@Jo s2) (@Jo y11)) (0:Nat)) true)) none)))))) (cond (s3 == 0) (K 0 false) (cond (decide (s1<(s0.length:Int))) (K 0 false) (J10 k s3 (fun y10=>cond (@Option.isSome Nat (@Jq @Go.BinOp.quo (@Jo s2) (@Jo y10))) (cond (s4 == 1) (K (@Ul (@Option.getD Nat (@Jq @Go.BinOp.quo (@Jo s2) (@Jo y10)) (0:Nat))) true) (K (@Option.getD Nat (@Jq @Go.BinOp.quo (@Jo s2) (@Jo y10)) (0:Nat)) true)) none))))) none
def Jkn(k:Nat){R:Type}(E1011:(J0->Int->Int->Int->Int->Option R))(x0:J0)(K:(Nat->Bool->Option R)): Option R:=cond (x0 == [(110:UInt8),97,110]) (J8f k (fun y6=>K y6 true)) (cond (x0 == [(105:UInt8),110,102]) (J5i k 1 (fun y6=>K y6 true)) (cond (x0 == [(45:UInt8),105,110,102]) (J5i k (-(1:Int)) (fun y6=>K y6 true)) (cond ((!((decide ((x0.length:Int)>0)) == true)) || (inb 0 (x0.length:Int))) (cond (cond (decide ((x0.length:Int)>0)) (((x0.getD (Int.toNat 0) 0).toNat:Int) == 45) false) (E1011 x0 1 0 0 1) (E1011 x0 0 0 0 0)) none)))
def J1u(k:Nat){R:Type}: Nat->J0->Int->Int->Int->Int->(Nat->Bool->Option R)->Option R
 |0,_,_,_,_,_,_=>none
 |n+1,s0,s1,s2,s3,s4,K=>JdR k (fun s0 s1 s2 s3 s4=>J1u k n s0 s1 s2 s3 s4 K) s0 s1 s2 s3 s4 K
theorem Jze(k:Nat){R:Type}: ∀(I:Nat->St->Option R) (n:Nat),J0r.lp J7k (JeS k).cx k Tryz.f80 1020 [1,1,1,1,1,1,1,1,1,0,1,0,1,1,0,0] I n=J1u k n:=J0r.lok J7k (B:=JdR k) (L:=J1u k) (fun I=>by kernel_rfl) (fun I=>by kernel_rfl) (fun n=>by kernel_rfl) (fun _ _ _ _=>rfl)
def J7l(k:Nat){R:Type}: Nat->J0->Int->Int->Int->Int->(Nat->Bool->Option R)->Option R
 |0,_,_,_,_,_,_=>none
 |n+1,s0,s1,s2,s3,s4,K=>JdQ k (fun s0 s1 s2 s3 s4=>J7l k n s0 s1 s2 s3 s4 K) (fun s0 s1 s2 s3 s4=>J1u k k s0 s1 s2 s3 s4 K) s0 s1 s2 s3 s4 K
theorem Jzf(k:Nat){R:Type}: ∀(I:Nat->St->Option R) (n:Nat),J0r.lp J4K (JeS k).cx k Tryz.f80 1011 [1,1,1,1,1,1,1,0,0] I n=J7l k n:=J0r.lokA J4K (fun I J=>J0r.glue (l:=J4K.fs) (u:=J7k.fs) (fun E1020=>JdQ k J E1020) (J1u k k)) (fun I=>J7l k ) (fun I f=>by kernel_rfl) (fun I=>(show _=J0r.glue (l:=J4K.fs) (u:=J7k.fs) (fun E1020=>JdQ k (J4K.cur (I 1011)) E1020) (J0r.lp J7k (JeS k).cx k Tryz.f80 1020 [1,1,1,1,1,1,1,1,1,0,1,0,1,1,0,0] I k) by kernel_rfl).trans (by rw[Jze])) (fun I=>by kernel_rfl) (fun I n=>by kernel_rfl) (fun _ _ _ _=>rfl)
def ZA(k:Nat){R:Type}(x0:J0)(K:(Nat->Bool->Option R)): Option R:=Jkn k (fun s0 s1 s2 s3 s4=>J7l k k s0 s1 s2 s3 s4 K) x0 K
theorem JrU(k:Nat): DOK Tryz.prog 80 (J0r.run (@ZA k)):=dok J0r (JeS k) Tryz.f80 k (ok1 (Jsq k) (ok1 (Jsp k) (ok1 (Jrb k) (ok1 (JG5 k) ok0)))) (by kernel_rfl) (by kernel_rfl) fun R=>J0r.f1 J4K (Jkn k) (by kernel_rfl) (Jzf k (fun _ _=>none) k) (by kernel_rfl)
def JFa(k:Nat): Ent:=J0r.e 80 (@ZA k)
def Je4:Sh:=⟨[.g [.s J4],.a kI],some ([],[.a .flt,.g [.a kI,.a kI]]),none⟩
abbrev J24:Type 1:=(R:Type)->J3->Int->(Nat->Int->Int->Option R)->Option R
def JBl(k:Nat): Cxt:=⟨[JFa k,J5k k,Jjv k],[],[],[]⟩
def Jp6(k:Nat){R:Type}(x0:J3)(x1:Int)(K:(Nat->Int->Int->Option R)): Option R:=cond (inb x1 (x0.length:Int)) (cond ((x0.getD x1.toNat J4.zero).1 != 1) (Y9 k x0 x1 11 (fun y5 y6=>K 0 y5 y6)) (ZA k (x0.getD x1.toNat J4.zero).2.2.1 (fun y5 y6=>cond ((cond (x0.getD x1.toNat J4.zero).2.2.2.1 true (!y6)) == false) (QO k y5 (fun y7=>cond (cond (cond y7 true (@Jr @Go.BinOp.lss y5 (0:Nat))) true (@Jr @Go.BinOp.gtr y5 (4607182418800017408:Nat))) (Y9 k x0 x1 15 (fun y8 y9=>K 0 y8 y9)) (cond (@Jr @Go.BinOp.eql y5 (0:Nat)) (K 0 0 0) (K y5 0 0)))) (Y9 k x0 x1 15 (fun y7 y8=>K 0 y7 y8))))) none
def Yl:=@Jp6
theorem Jp7(k:Nat): DOK Tryz.prog 82 (Je4.run (@Yl k)):=dok Je4 (JBl k) Tryz.f82 k (ok1 (JrU k) (ok1 (J5j k) (ok1 (J9Y k) ok0))) (by kernel_rfl) (by kernel_rfl) fun R=>by kernel_rfl
def J8b:Sh:=⟨[.a .str],some ([],[.a .bool]),none⟩
def JdS:Cu:=⟨0,[0,3],[.a .str,.a kI]⟩
def JrV(k:Nat): Cxt:=⟨[],[],[(1004,JdS.spec)],[]⟩
def JdT(k:Nat){R:Type}(E1004:(J0->Int->Option R))(s0:J0)(s1:Int)(K:(Bool->Option R)): Option R:=cond (decide (s1<(s0.length:Int))) (cond (inb s1 (s0.length:Int)) (cond ((!((decide (((s0.getD s1.toNat 0).toNat:Int)<33)) == false)) || (inb s1 (s0.length:Int))) (cond (cond (decide (((s0.getD s1.toNat 0).toNat:Int)<33)) true (decide (((s0.getD s1.toNat 0).toNat:Int)>126))) (K false) (E1004 s0 (IntKind.i64.wrap (s1+1)))) none) none) (K true)
def Jko(k:Nat){R:Type}(E1004:(J0->Int->Option R))(x0:J0)(K:(Bool->Option R)): Option R:=cond (cond (decide ((x0.length:Int)<1)) true (decide ((x0.length:Int)>64))) (K false) (E1004 x0 0)
def J4L(k:Nat){R:Type}: Nat->J0->Int->(Bool->Option R)->Option R
 |0,_,_,_=>none
 |n+1,s0,s1,K=>JdT k (fun s0 s1=>J4L k n s0 s1 K) s0 s1 K
theorem Jzg(k:Nat){R:Type}: ∀(I:Nat->St->Option R) (n:Nat),J8b.lp JdS (JrV k).cx k Tryz.f47 1004 [1,1,0,1,0] I n=J4L k n:=J8b.lok JdS (B:=JdT k) (L:=J4L k) (fun I=>by kernel_rfl) (fun I=>by kernel_rfl) (fun n=>by kernel_rfl) (fun _ _ _ _=>rfl)
def Jai(k:Nat){R:Type}(x0:J0)(K:(Bool->Option R)): Option R:=Jko k (fun s0 s1=>J4L k k s0 s1 K) x0 K
theorem JFb(k:Nat): DOK Tryz.prog 47 (J8b.run (@Jai k)):=dok J8b (JrV k) Tryz.f47 k ok0 (by kernel_rfl) (by kernel_rfl) fun R=>J8b.f1 JdS (Jko k) (by kernel_rfl) (Jzg k (fun _ _=>none) k) (by kernel_rfl)
def JFc(k:Nat): Ent:=J8b.e 47 (@Jai k)
def J9L:Sh:=⟨[.g [.s J4],.a kI],some ([],[.a .str,.g [.a kI,.a kI]]),none⟩
abbrev Z9:Type 1:=(R:Type)->J3->Int->(J0->Int->Int->Option R)->Option R
def JBV(k:Nat): Cxt:=⟨[JFc k,J5k k],[],[],[]⟩
def Jpz(k:Nat){R:Type}(x0:J3)(x1:Int)(K:(J0->Int->Int->Option R)): Option R:=cond (inb x1 (x0.length:Int)) (cond ((x0.getD x1.toNat J4.zero).1 != 1) (Y9 k x0 x1 11 (fun y5 y6=>K [] y5 y6)) (Jai k (x0.getD x1.toNat J4.zero).2.2.1 (fun y5=>cond (!y5) (Y9 k x0 x1 12 (fun y6 y7=>K [] y6 y7)) (K (x0.getD x1.toNat J4.zero).2.2.1 0 0)))) none
def U0:=@Jpz
theorem JiS(k:Nat): DOK Tryz.prog 135 (J9L.run (@U0 k)):=dok J9L (JBV k) Tryz.f135 k (ok1 (JFb k) (ok1 (J5j k) ok0)) (by kernel_rfl) (by kernel_rfl) fun R=>by kernel_rfl
def Jed:Sh:=⟨[.g [.s J4],.a kI],some ([],[.a .bool,.g [.a kI,.a kI]]),none⟩
abbrev J27:Type 1:=(R:Type)->J3->Int->(Bool->Int->Int->Option R)->Option R
def JBW(k:Nat): Cxt:=⟨[J5k k],[],[],[]⟩
def JpA(k:Nat){R:Type}(x0:J3)(x1:Int)(K:(Bool->Int->Int->Option R)): Option R:=cond (inb x1 (x0.length:Int)) (cond ((x0.getD x1.toNat J4.zero).1 != 1) (Y9 k x0 x1 11 (fun y5 y6=>K false y5 y6)) (cond (cond (x0.getD x1.toNat J4.zero).2.2.2.1 true (cond (!((x0.getD x1.toNat J4.zero).2.2.1 == [(116:UInt8),114,117,101])) (!((x0.getD x1.toNat J4.zero).2.2.1 == [(102:UInt8),97,108,115,101])) false)) (Y9 k x0 x1 14 (fun y5 y6=>K false y5 y6)) (K ((x0.getD x1.toNat J4.zero).2.2.1 == [(116:UInt8),114,117,101]) 0 0))) none
def Za:=@JpA
theorem JpB(k:Nat): DOK Tryz.prog 211 (Jed.run (@Za k)):=dok Jed (JBW k) Tryz.f211 k (ok1 (J5j k) ok0) (by kernel_rfl) (by kernel_rfl) fun R=>by kernel_rfl
def JiT:Sh:=⟨[.g [.s J4],.a kI],some ([],[.a .str,.g [.a kI,.a kI]]),none⟩
abbrev J7p:Type 1:=(R:Type)->J3->Int->(J0->Int->Int->Option R)->Option R
def JBX(k:Nat): Cxt:=⟨[J5k k],[],[],[]⟩
def JpC(k:Nat){R:Type}(x0:J3)(x1:Int)(K:(J0->Int->Int->Option R)): Option R:=cond (inb x1 (x0.length:Int)) (cond ((x0.getD x1.toNat J4.zero).1 != 1) (Y9 k x0 x1 11 (fun y5 y6=>K [] y5 y6)) (cond (decide ((((x0.getD x1.toNat J4.zero).2.2.1).length:Int)>128)) (Y9 k x0 x1 12 (fun y5 y6=>K [] y5 y6)) (K (x0.getD x1.toNat J4.zero).2.2.1 0 0))) none
def J0T:=@JpC
theorem JBY(k:Nat): DOK Tryz.prog 209 (JiT.run (@J0T k)):=dok JiT (JBX k) Tryz.f209 k (ok1 (J5j k) ok0) (by kernel_rfl) (by kernel_rfl) fun R=>by kernel_rfl
def J4g:Sh:=⟨[.o 1 82 0 [.s J4,.a .flt,.w 21 64 (.pr .str (.sl kI)),.w 51 57 J5,.a kI,.a kI],.g [.a kI,.a kI]],some ([.o 1 82 0 [.s J4,.a .flt,.w 21 64 (.pr .str (.sl kI)),.w 51 57 J5,.a kI,.a kI]],[.a .bool]),none⟩
abbrev Uu:Type 1:=(R:Type)->J3->Nat->J7->J9->Int->Int->Int->Int->(J3->Nat->J7->J9->Int->Int->Bool->Option R)->Option R
def Jzh(k:Nat): Cxt:=⟨[],[1],[],[]⟩
def Jzi(k:Nat){R:Type}(x0:J3)(x1:Nat)(x2:J7)(x3:J9)(x4 x5 x6 x7:Int)(K:(J3->Nat->J7->J9->Int->Int->Bool->Option R)): Option R:=cond (x4 == 0) (K x0 x1 x2 x3 x6 x7 (x6 != 0)) (K x0 x1 x2 x3 x4 x5 (x4 != 0))
def JY:=@Jzi
theorem J6H(k:Nat): DOK Tryz.prog 78 (J4g.run (@JY k)):=dok J4g (Jzh k) Tryz.f78 k ok0 (by kernel_rfl) (by kernel_rfl) fun R=>by kernel_rfl
def Job(k:Nat): Ent:=J4g.e 78 (@JY k)
def J6I:Sh:=⟨[.o 1 82 0 [.s J4,.a .flt,.w 21 64 (.pr .str (.sl kI)),.w 51 57 J5,.a kI,.a kI],.a kI,.a kI],some ([.o 1 82 0 [.s J4,.a .flt,.w 21 64 (.pr .str (.sl kI)),.w 51 57 J5,.a kI,.a kI]],[.a .bool]),none⟩
abbrev Uv:Type 1:=(R:Type)->J3->Nat->J7->J9->Int->Int->Int->Int->(J3->Nat->J7->J9->Int->Int->Bool->Option R)->Option R
def Jzj(k:Nat): Cxt:=⟨[Job k],[1],[],[]⟩
def Joc(k:Nat){R:Type}(x0:J3)(x1:Nat)(x2:J7)(x3:J9)(x4 x5 x6 x7:Int)(K:(J3->Nat->J7->J9->Int->Int->Bool->Option R)): Option R:=cond (inb x6 (x0.length:Int)) (JY k x0 x1 x2 x3 x4 x5 x7 (x0.getD x6.toNat J4.zero).2.1 K) none
def Ql:=@Joc
theorem JcJ(k:Nat): DOK Tryz.prog 83 (J6I.run (@Ql k)):=dok J6I (Jzj k) Tryz.f83 k (ok1 (J6H k) ok0) (by kernel_rfl) (by kernel_rfl) fun R=>by kernel_rfl
def J7W:Sh:=⟨[.a .str],some ([],[.a kI,.a .bool]),none⟩
def Jdt:Cu:=⟨0,[0,4,5],[.a .str,.a kI,.a kI]⟩
def Jrd(k:Nat): Cxt:=⟨[Jrc k],[],[(1005,Jdt.spec)],[]⟩
def Jdu(k:Nat){R:Type}(E1005:(J0->Int->Int->Option R))(s0:J0)(s1 s2:Int)(K:(Int->Bool->Option R)): Option R:=cond (decide (s2<(s0.length:Int))) (cond (inb s2 (s0.length:Int)) (J59 k ((s0.getD s2.toNat 0).toNat:Int) (fun y7=>cond (!y7) (K 0 false) (cond (inb s2 (s0.length:Int)) (cond (decide (s1>(IntKind.i64.wrap (Int.tdiv (IntKind.i64.wrap ((4611686018427387904:Int)-(IntKind.i64.wrap (IntKind.u8.wrap (((s0.getD s2.toNat 0).toNat:Int)-48))))) 10)))) (K 0 false) (E1005 s0 (IntKind.i64.wrap ((IntKind.i64.wrap (s1*10))+(IntKind.i64.wrap (IntKind.u8.wrap (((s0.getD s2.toNat 0).toNat:Int)-48))))) (IntKind.i64.wrap (s2+1)))) none))) none) (K s1 true)
def JjS(k:Nat){R:Type}(E1005:(J0->Int->Int->Option R))(x0:J0)(K:(Int->Bool->Option R)): Option R:=cond ((!(((cond (decide ((x0.length:Int)<1)) true (decide ((x0.length:Int)>19))) == false)&&((decide ((x0.length:Int)>1)) == true))) || (inb 0 (x0.length:Int))) (cond (cond (cond (decide ((x0.length:Int)<1)) true (decide ((x0.length:Int)>19))) true (cond (decide ((x0.length:Int)>1)) (((x0.getD (Int.toNat 0) 0).toNat:Int) == 48) false)) (K 0 false) (E1005 x0 0 0)) none
def J4A(k:Nat){R:Type}: Nat->J0->Int->Int->(Int->Bool->Option R)->Option R
 |0,_,_,_,_=>none
 |n+1,s0,s1,s2,K=>Jdu k (fun s0 s1 s2=>J4A k n s0 s1 s2 K) s0 s1 s2 K
theorem JyG(k:Nat){R:Type}: ∀(I:Nat->St->Option R) (n:Nat),J7W.lp Jdt (Jrd k).cx k Tryz.f262 1005 [1,1,1,0,1,0] I n=J4A k n:=J7W.lok Jdt (B:=Jdu k) (L:=J4A k) (fun I=>by kernel_rfl) (fun I=>by kernel_rfl) (fun n=>by kernel_rfl) (fun _ _ _ _=>rfl)
def Jac(k:Nat){R:Type}(x0:J0)(K:(Int->Bool->Option R)): Option R:=JjS k (fun s0 s1 s2=>J4A k k s0 s1 s2 K) x0 K
theorem JE9(k:Nat): DOK Tryz.prog 262 (J7W.run (@Jac k)):=dok J7W (Jrd k) Tryz.f262 k (ok1 (Jrb k) ok0) (by kernel_rfl) (by kernel_rfl) fun R=>J7W.f1 Jdt (JjS k) (by kernel_rfl) (JyG k (fun _ _=>none) k) (by kernel_rfl)
def JEa(k:Nat): Ent:=J7W.e 262 (@Jac k)
def Jii:Sh:=⟨[.g [.s J4],.a kI,.a kI,.a kI],some ([],[.a kI,.g [.a kI,.a kI]]),none⟩
abbrev Ji6:Type 1:=(R:Type)->J3->Int->Int->Int->(Int->Int->Int->Option R)->Option R
def JAR(k:Nat): Cxt:=⟨[J5k k,JEa k],[],[],[]⟩
def JoR(k:Nat){R:Type}(x0:J3)(x1 x2 x3:Int)(K:(Int->Int->Int->Option R)): Option R:=cond (inb x1 (x0.length:Int)) (cond ((x0.getD x1.toNat J4.zero).1 != 1) (Y9 k x0 x1 11 (fun y7 y8=>K 0 y7 y8)) (Jac k (x0.getD x1.toNat J4.zero).2.2.1 (fun y7 y8=>cond (cond (cond (cond (x0.getD x1.toNat J4.zero).2.2.2.1 true (!y8)) true (decide (y7<x2))) true (decide (y7>x3))) (Y9 k x0 x1 13 (fun y9 y10=>K 0 y9 y10)) (K y7 0 0)))) none
def J25:=@JoR
theorem JAS(k:Nat): DOK Tryz.prog 243 (Jii.run (@J25 k)):=dok Jii (JAR k) Tryz.f243 k (ok1 (J5j k) (ok1 (JE9 k) ok0)) (by kernel_rfl) (by kernel_rfl) fun R=>by kernel_rfl
def JjT:Sh:=⟨[.a kI],some ([],[.a .str]),none⟩
def JEb(k:Nat): Cxt:=⟨[],[],[],[]⟩
def JjU(k:Nat){R:Type}(x0:Int)(K:(J0->Option R)): Option R:=cond (x0 == 1) (K [115,101,99,111,110,100]) (cond (x0 == 2) (K [109,105,110,117,116,101]) (cond (x0 == 3) (K [104,111,117,114]) (cond (x0 == 4) (K [100,97,121]) (K []))))
def JeD:=@JjU
theorem JEc(k:Nat): DOK Tryz.prog 261 (JjT.run (@JeD k)):=dok JjT (JEb k) Tryz.f261 k ok0 (by kernel_rfl) (by kernel_rfl) fun R=>by kernel_rfl
def JEd(k:Nat): Ent:=JjT.e 261 (@JeD k)
def J7v:Sh:=⟨[.a .str],some ([],[.a kI]),none⟩
abbrev Jis:Type 1:=(R:Type)->J0->(Int->Option R)->Option R
def JcK:Cu:=⟨0,[0,3],[.a .str,.a kI]⟩
def JpD(k:Nat): Cxt:=⟨[JEd k],[],[(1002,JcK.spec)],[]⟩
def J9r(k:Nat){R:Type}(E1002:(J0->Int->Option R))(s0:J0)(s1:Int)(K:(Int->Option R)): Option R:=cond (decide (s1≤4)) (JeD k s1 (fun y6=>cond (y6 == s0) (K s1) (E1002 s0 (IntKind.i64.wrap (s1+1))))) (K 0)
def JiU(k:Nat){R:Type}(E1002:(J0->Int->Option R))(x0:J0)(K:(Int->Option R)): Option R:=E1002 x0 1
def J0h(k:Nat){R:Type}: Nat->J0->Int->(Int->Option R)->Option R
 |0,_,_,_=>none
 |n+1,s0,s1,K=>J9r k (fun s0 s1=>J0h k n s0 s1 K) s0 s1 K
theorem JxO(k:Nat){R:Type}: ∀(I:Nat->St->Option R) (n:Nat),J7v.lp JcK (JpD k).cx k Tryz.f242 1002 [1,0,1,0] I n=J0h k n:=J7v.lok JcK (B:=J9r k) (L:=J0h k) (fun I=>by kernel_rfl) (fun I=>by kernel_rfl) (fun n=>by kernel_rfl) (fun _ _ _ _=>rfl)
def J3b(k:Nat){R:Type}(x0:J0)(K:(Int->Option R)): Option R:=JiU k (fun s0 s1=>J0h k k s0 s1 K) x0 K
theorem JBZ(k:Nat): DOK Tryz.prog 242 (J7v.run (@J3b k)):=dok J7v (JpD k) Tryz.f242 k (ok1 (JEc k) ok0) (by kernel_rfl) (by kernel_rfl) fun R=>J7v.f1 JcK (JiU k) (by kernel_rfl) (JxO k (fun _ _=>none) k) (by kernel_rfl)
def JcL:Sh:=⟨[.o 1 82 0 [.s J4,.a .flt,.w 21 64 (.pr .str (.sl kI)),.w 51 57 J5,.a kI,.a kI],.a kI],some ([.o 1 82 0 [.s J4,.a .flt,.w 21 64 (.pr .str (.sl kI)),.w 51 57 J5,.a kI,.a kI]],[.g [.a .str,.a kI,.a kI,.a .flt,.a .bool,.a .bool]]),none⟩
abbrev J6C:Type 1:=(R:Type)->J3->Nat->J7->J9->Int->Int->Int->(J3->Nat->J7->J9->Int->Int->J0->Int->Int->Nat->Bool->Bool->Option R)->Option R
def Jod(k:Nat)(Jy:Uu)(JL:Uy)(Jv:Uz)(Ud:J24)(JC:Uv)(Ua:J26)(Q2:Z9)(Ue:J27)(J4Z:Jis)(J4M:Ji6): Cxt:=⟨[J4g.e 78 Jy,Zx.e 79 JL,J2d.e 81 Jv,Je4.e 82 Ud,J6I.e 83 JC,J9K.e 84 Ua,J9L.e 135 Q2,Jed.e 211 Ue,J7v.e 242 J4Z,Jii.e 243 J4M],[1],[],[(32,(.of [(0,1),(1,1),(2,1),(3,1),(5,1),(4,2),(6,0),(7,1),(8,0)] .done))]⟩
def Jho(k:Nat)(Jy:Uu)(JL:Uy)(Jv:Uz)(Ud:J24)(JC:Uv)(Ua:J26)(Q2:Z9)(Ue:J27)(J4Z:Jis)(J4M:Ji6){R:Type}(x0:J3)(x1:Nat)(x2:J7)(x3:J9)(x4 x5 x6:Int)(K:(J3->Nat->J7->J9->Int->Int->J0->Int->Int->Nat->Bool->Bool->Option R)): Option R:=JL R x0 x6 [[117,110,108,105,109,105,116,101,100],[117,110,105,116],[114,101,113,117,101,115,116,115,95,112,101,114,95,117,110,105,116],[110,101,97,114],[110,97,109,101]] (fun y10 y11=>Jy R x0 x1 x2 x3 x4 x5 y10 y11 (fun y12 y13 y14 y15 y16 y17 y18=>cond y18 (K y12 y13 y14 y15 y16 y17 [] 0 0 0 false false) (Jv R y12 x6 [117,110,108,105,109,105,116,101,100] (fun y19 y20=>cond y20 (Ue R y12 y19 (fun y21 y22 y23=>Jy R y12 y13 y14 y15 y16 y17 y22 y23 (fun y24 y25 y26 y27 y28 y29 y30=>cond y30 (K y24 y25 y26 y27 y28 y29 [] 0 0 0 false false) (Jv R y24 x6 [117,110,105,116] (fun y31 y32=>Jv R y24 x6 [114,101,113,117,101,115,116,115,95,112,101,114,95,117,110,105,116] (fun y33 y34=>Jv R y24 x6 [110,101,97,114] (fun y35 y36=>cond y21 (cond (cond (cond y32 true y34) true y36) (JC R y24 y25 y26 y27 y28 y29 x6 17 (fun y37 y38 y39 y40 y41 y42 y43=>K y37 y38 y39 y40 y41 y42 [] 0 0 0 false y21)) (Jv R y24 x6 [110,97,109,101] (fun y37 y38=>cond y38 (Q2 R y24 y37 (fun y39 y40 y41=>Jy R y24 y25 y26 y27 y28 y29 y40 y41 (fun y42 y43 y44 y45 y46 y47 y48=>cond y48 (K y42 y43 y44 y45 y46 y47 [] 0 0 0 false y21) (K y42 y43 y44 y45 y46 y47 y39 0 0 0 false y21)))) (K y24 y25 y26 y27 y28 y29 [] 0 0 0 false y21)))) (cond (!y32) (JC R y24 y25 y26 y27 y28 y29 x6 10 (fun y37 y38 y39 y40 y41 y42 y43=>K y37 y38 y39 y40 y41 y42 [] 0 0 0 false y21)) (Ua R y24 y31 1 (fun y37 y38=>Jy R y24 y25 y26 y27 y28 y29 y37 y38 (fun y39 y40 y41 y42 y43 y44 y45=>cond y45 (K y39 y40 y41 y42 y43 y44 [] 0 0 0 false y21) (cond (inb y31 (y39.length:Int)) (J4Z R (y39.getD y31.toNat J4.zero).2.2.1 (fun y46=>cond (y46 == 0) (JC R y39 y40 y41 y42 y43 y44 y31 16 (fun y47 y48 y49 y50 y51 y52 y53=>K y47 y48 y49 y50 y51 y52 [] y46 0 0 false y21)) (cond (!y34) (JC R y39 y40 y41 y42 y43 y44 x6 10 (fun y47 y48 y49 y50 y51 y52 y53=>K y47 y48 y49 y50 y51 y52 [] y46 0 0 false y21)) (J4M R y39 y33 0 4294967295 (fun y47 y48 y49=>Jy R y39 y40 y41 y42 y43 y44 y48 y49 (fun y50 y51 y52 y53 y54 y55 y56=>cond y56 (K y50 y51 y52 y53 y54 y55 [] y46 0 0 false y21) (cond y36 (Ud R y50 y35 (fun y57 y58 y59=>Jy R y50 y51 y52 y53 y54 y55 y58 y59 (fun y60 y61 y62 y63 y64 y65 y66=>cond y66 (K y60 y61 y62 y63 y64 y65 [] y46 y47 y51 false y21) (Jv R y60 x6 [110,97,109,101] (fun y67 y68=>cond y68 (Q2 R y60 y67 (fun y69 y70 y71=>Jy R y60 y61 y62 y63 y64 y65 y70 y71 (fun y72 y73 y74 y75 y76 y77 y78=>cond y78 (K y72 y73 y74 y75 y76 y77 [] y46 y47 y57 false y21) (K y72 y73 y74 y75 y76 y77 y69 y46 y47 y57 false y21)))) (K y60 y61 y62 y63 y64 y65 [] y46 y47 y57 false y21)))))) (Jv R y50 x6 [110,97,109,101] (fun y57 y58=>cond y58 (Q2 R y50 y57 (fun y59 y60 y61=>Jy R y50 y51 y52 y53 y54 y55 y60 y61 (fun y62 y63 y64 y65 y66 y67 y68=>cond y68 (K y62 y63 y64 y65 y66 y67 [] y46 y47 y51 false y21) (K y62 y63 y64 y65 y66 y67 y59 y46 y47 y51 false y21)))) (K y50 y51 y52 y53 y54 y55 [] y46 y47 y51 false y21)))))))))) none)))))))))))) (Jv R y12 x6 [117,110,105,116] (fun y21 y22=>Jv R y12 x6 [114,101,113,117,101,115,116,115,95,112,101,114,95,117,110,105,116] (fun y23 y24=>Jv R y12 x6 [110,101,97,114] (fun y25 y26=>cond (!y22) (JC R y12 y13 y14 y15 y16 y17 x6 10 (fun y27 y28 y29 y30 y31 y32 y33=>K y27 y28 y29 y30 y31 y32 [] 0 0 0 false false)) (Ua R y12 y21 1 (fun y27 y28=>Jy R y12 y13 y14 y15 y16 y17 y27 y28 (fun y29 y30 y31 y32 y33 y34 y35=>cond y35 (K y29 y30 y31 y32 y33 y34 [] 0 0 0 false false) (cond (inb y21 (y29.length:Int)) (J4Z R (y29.getD y21.toNat J4.zero).2.2.1 (fun y36=>cond (y36 == 0) (JC R y29 y30 y31 y32 y33 y34 y21 16 (fun y37 y38 y39 y40 y41 y42 y43=>K y37 y38 y39 y40 y41 y42 [] y36 0 0 false false)) (cond (!y24) (JC R y29 y30 y31 y32 y33 y34 x6 10 (fun y37 y38 y39 y40 y41 y42 y43=>K y37 y38 y39 y40 y41 y42 [] y36 0 0 false false)) (J4M R y29 y23 0 4294967295 (fun y37 y38 y39=>Jy R y29 y30 y31 y32 y33 y34 y38 y39 (fun y40 y41 y42 y43 y44 y45 y46=>cond y46 (K y40 y41 y42 y43 y44 y45 [] y36 0 0 false false) (cond y26 (Ud R y40 y25 (fun y47 y48 y49=>Jy R y40 y41 y42 y43 y44 y45 y48 y49 (fun y50 y51 y52 y53 y54 y55 y56=>cond y56 (K y50 y51 y52 y53 y54 y55 [] y36 y37 y41 false false) (Jv R y50 x6 [110,97,109,101] (fun y57 y58=>cond y58 (Q2 R y50 y57 (fun y59 y60 y61=>Jy R y50 y51 y52 y53 y54 y55 y60 y61 (fun y62 y63 y64 y65 y66 y67 y68=>cond y68 (K y62 y63 y64 y65 y66 y67 [] y36 y37 y47 false false) (K y62 y63 y64 y65 y66 y67 y59 y36 y37 y47 false false)))) (K y50 y51 y52 y53 y54 y55 [] y36 y37 y47 false false)))))) (Jv R y40 x6 [110,97,109,101] (fun y47 y48=>cond y48 (Q2 R y40 y47 (fun y49 y50 y51=>Jy R y40 y41 y42 y43 y44 y45 y50 y51 (fun y52 y53 y54 y55 y56 y57 y58=>cond y58 (K y52 y53 y54 y55 y56 y57 [] y36 y37 y41 false false) (K y52 y53 y54 y55 y56 y57 y49 y36 y37 y41 false false)))) (K y40 y41 y42 y43 y44 y45 [] y36 y37 y41 false false)))))))))) none))))))))))))
theorem Jzk(k:Nat)(Jy:Uu)(JL:Uy)(Jv:Uz)(Ud:J24)(JC:Uv)(Ua:J26)(Q2:Z9)(Ue:J27)(J4Z:Jis)(J4M:Ji6)(R:Type): JcL.at (Jod k Jy JL Jv Ud JC Ua Q2 Ue J4Z J4M) k Tryz.f210 R=@Jho k Jy JL Jv Ud JC Ua Q2 Ue J4Z J4M R:=by kernel_rfl
def J1p(k:Nat){R:Type}:= @Jho k (@JY k) (@QH k) (@Q6 k) (@Yl k) (@Ql k) (@UA k) (@U0 k) (@Za k) (@J3b k) (@J25 k) R
theorem Jzl(k:Nat): DOK Tryz.prog 210 (JcL.run (@J1p k)):=dok JcL (Jod k (@JY k) (@QH k) (@Q6 k) (@Yl k) (@Ql k) (@UA k) (@U0 k) (@Za k) (@J3b k) (@J25 k)) Tryz.f210 k (ok1 (J6H k) (ok1 (Je1 k) (ok1 (Jec k) (ok1 (Jp7 k) (ok1 (JcJ k) (ok1 (JiR k) (ok1 (JiS k) (ok1 (JpB k) (ok1 (JBZ k) (ok1 (JAS k) ok0)))))))))) (by kernel_rfl) (by kernel_rfl) fun R=>Jzk k (@JY k) (@QH k) (@Q6 k) (@Yl k) (@Ql k) (@UA k) (@U0 k) (@Za k) (@J3b k) (@J25 k) R
section
def ZN:Sh:=⟨[.o 1 82 0 [.s J4,.a .flt,.w 21 64 (.pr .str (.sl kI)),.w 51 57 J5,.a kI,.a kI],.a kI,.a kI,.a kI,.a kI],some ([.o 1 82 0 [.s J4,.a .flt,.w 21 64 (.pr .str (.sl kI)),.w 51 57 J5,.a kI,.a kI]],[.s kI]),none⟩
abbrev UZ:Type 1:=(R:Type)->J3->Nat->J7->J9->Int->Int->Int->Int->Int->Int->(J3->Nat->J7->J9->Int->Int->J6->Option R)->Option R
def J0K:Sh:=⟨[.o 1 82 0 [.s J4,.a .flt,.w 21 64 (.pr .str (.sl kI)),.w 51 57 J5,.a kI,.a kI],.a kI,.a kI,.a kI,.a kI,.b kI],some ([.o 1 82 0 [.s J4,.a .flt,.w 21 64 (.pr .str (.sl kI)),.w 51 57 J5,.a kI,.a kI]],[.a kI]),none⟩
abbrev ZO:Type 1:=(R:Type)->J3->Nat->J7->J9->Int->Int->Int->Int->Int->Int->J6->(J3->Nat->J7->J9->Int->Int->Int->Option R)->Option R
def J6c:Cu:=⟨1,[0,1,2,3,4,11,12],[.o 1 82 0 [.s J4,.a .flt,.w 21 64 (.pr .str (.sl kI)),.w 51 57 J5,.a kI,.a kI],.r 1 0,.a kI,.a kI,.a kI,.a kI,.w 100011 3 kI,.a kI]⟩
def Jc2(k:Nat)(JT:UZ)(QD:ZO): Cxt:=⟨[Job k,JBU k,J0K.e 178 QD],[1],[(1005,J6c.spec)],[]⟩
def J9e(k:Nat)(JT:UZ)(QD:ZO){R:Type}(E1005:(J3->Nat->J7->J9->Int->Int->Int->Int->Int->Int->J6->Int->Option R))(s0:J3)(s1:Nat)(s2:J7)(s3:J9)(s4 s5 s6 s7 s8 s9:Int)(s10:J6)(s11:Int)(K:(J3->Nat->J7->J9->Int->Int->J6->Option R)): Option R:=cond (inb s6 (s0.length:Int)) (cond (cond (decide (s11<(((s0.getD s6.toNat J4.zero).2.2.2.2.2).length:Int))) (s4 == 0) false) (cond (inb s6 (s0.length:Int)) (cond (inb s11 (((s0.getD s6.toNat J4.zero).2.2.2.2.2).length:Int)) (QD R s0 s1 s2 s3 s4 s5 (((s0.getD s6.toNat J4.zero).2.2.2.2.2).getD s11.toNat kI.zero) s7 s8 s9 s10 (fun y16 y17 y18 y19 y20 y21 y22=>cond (Ju s10.length (@List.length (@Kd.T kI) [y22]) 8) (E1005 y16 y17 y18 y19 y20 y21 s6 s7 s8 s9 (s10++[y22]) (IntKind.i64.wrap (s11+1))) none)) none) none) (K s0 s1 s2 s3 s4 s5 s10)) none
def Jc3(k:Nat)(JT:UZ)(QD:ZO){R:Type}(E1005:(J3->Nat->J7->J9->Int->Int->Int->Int->Int->Int->J6->Int->Option R))(x0:J3)(x1:Nat)(x2:J7)(x3:J9)(x4 x5 x6 x7 x8 x9:Int)(K:(J3->Nat->J7->J9->Int->Int->J6->Option R)): Option R:=UA k x0 x6 2 (fun y14 y15=>JY k x0 x1 x2 x3 x4 x5 y14 y15 (fun y16 y17 y18 y19 y20 y21 y22=>cond y22 (K y16 y17 y18 y19 y20 y21 []) (E1005 y16 y17 y18 y19 y20 y21 x6 x7 x8 x9 [] 0)))
def J1V(k:Nat)(JT:UZ)(QD:ZO){R:Type}: Nat->J3->Nat->J7->J9->Int->Int->Int->Int->Int->Int->J6->Int->(J3->Nat->J7->J9->Int->Int->J6->Option R)->Option R
 |0,_,_,_,_,_,_,_,_,_,_,_,_,_=>none
 |n+1,s0,s1,s2,s3,s4,s5,s6,s7,s8,s9,s10,s11,K=>J9e k JT QD (fun s0 s1 s2 s3 s4 s5 s6 s7 s8 s9 s10 s11=>J1V k JT QD n s0 s1 s2 s3 s4 s5 s6 s7 s8 s9 s10 s11 K) s0 s1 s2 s3 s4 s5 s6 s7 s8 s9 s10 s11 K
theorem JwY(k:Nat)(JT:UZ)(QD:ZO){R:Type}: ∀(I:Nat->St->Option R) (n:Nat),ZN.lp J6c (Jc2 k JT QD).cx k Tryz.f136 1005 [1,1,1,0,1,0] I n=J1V k JT QD n:=ZN.lok J6c (B:=J9e k JT QD) (L:=J1V k JT QD) (fun I=>by kernel_rfl) (fun I=>by kernel_rfl) (fun n=>by kernel_rfl) (fun _ _ _ _=>rfl)
theorem JxA(k:Nat)(JT:UZ)(QD:ZO)(R:Type): ZN.at (Jc2 k JT QD) k Tryz.f136 R=ZN.glue (l:=ZN.ps) (u:=J6c.fs) (fun E1005=>@Jc3 k JT QD R E1005) (ZN.lp J6c (Jc2 k JT QD).cx k Tryz.f136 1005 [1,1,1,0,1,0] (fun _ _=>none) k):=by kernel_rfl
def J6e:Cu:=⟨1,[0,1,2,4,5,13,22],[.o 1 82 0 [.s J4,.a .flt,.w 21 64 (.pr .str (.sl kI)),.w 51 57 J5,.a kI,.a kI],.r 1 0,.a kI,.a kI,.a kI,.b kI,.o 23 57 0 [.a .str,.a .str,.a .bool,.a kI,.a kI,.a .bool,.a .str,.a kI,.a kI,.a .flt,.a .bool,.a .bool,.s kI],.a kI]⟩
def Jcf(k:Nat)(JT:UZ)(QD:ZO)(Jy:Uu)(JL:Uy)(Jv:Uz)(JC:Uv)(Q2:Z9)(YO:J7p)(YM:J6C)(Ue:J27): Cxt:=⟨[J4g.e 78 Jy,Zx.e 79 JL,J2d.e 81 Jv,J6I.e 83 JC,J9L.e 135 Q2,ZN.e 136 JT,JiT.e 209 YO,JcL.e 210 YM,Jed.e 211 Ue],[1],[(1025,J6e.spec)],[(27,(.of [(0,1),(1,1),(2,1),(3,1),(5,1),(6,1),(7,1),(4,1),(8,1),(9,1),(10,1),(11,0),(12,0)] .done)),(46,(.of [(0,1),(1,1),(2,1),(3,1),(4,1),(5,1),(6,1),(7,0),(8,0),(9,1),(10,1),(11,1),(12,0)] .done))]⟩
def JbN(k:Nat)(JT:UZ)(QD:ZO)(Jy:Uu)(JL:Uy)(Jv:Uz)(JC:Uv)(Q2:Z9)(YO:J7p)(YM:J6C)(Ue:J27){R:Type}(E1025:(J3->Nat->J7->J9->Int->Int->Int->Int->Int->J6->J0->J0->Bool->Int->Int->Bool->J0->Int->Int->Nat->Bool->Bool->J6->Int->Option R))(s0:J3)(s1:Nat)(s2:J7)(s3:J9)(s4 s5 s6 s7 s8:Int)(s9:J6)(s10 s11:J0)(s12:Bool)(s13 s14:Int)(s15:Bool)(s16:J0)(s17 s18:Int)(s19:Nat)(s20 s21:Bool)(s22:J6)(s23:Int)(K:(J3->Nat->J7->J9->Int->Int->Int->Option R)): Option R:=cond (decide (s23<(s9.length:Int))) (cond (inb s23 (s9.length:Int)) (cond (inb (s9.getD s23.toNat kI.zero) (s3.length:Int)) (cond (cond (cond ((s3.getD (s9.getD s23.toNat kI.zero).toNat J5.zero).1 == s10) (((s3.getD (s9.getD s23.toNat kI.zero).toNat J5.zero).2).1 == s11) false) ((((s3.getD (s9.getD s23.toNat kI.zero).toNat J5.zero).2).2).1 == s12) false) (JC R s0 s1 s2 s3 s4 s5 s6 7 (fun y28 y29 y30 y31 y32 y33 y34=>K y28 y29 y30 y31 y32 y33 0)) (E1025 s0 s1 s2 s3 s4 s5 s6 s7 s8 s9 s10 s11 s12 s13 s14 s15 s16 s17 s18 s19 s20 s21 s22 (IntKind.i64.wrap (s23+1)))) none) none) (Jv R s0 s6 [114,97,116,101,95,108,105,109,105,116] (fun y28 y29=>cond y29 (YM R s0 s1 s2 s3 s4 s5 y28 (fun y30 y31 y32 y33 y34 y35 y36 y37 y38 y39 y40 y41=>cond (y34 != 0) (K y30 y31 y32 y33 y34 y35 0) (Jv R y30 s6 [115,104,97,100,111,119,95,109,111,100,101] (fun y42 y43=>cond y43 (Ue R y30 y42 (fun y44 y45 y46=>Jy R y30 y31 y32 y33 y34 y35 y45 y46 (fun y47 y48 y49 y50 y51 y52 y53=>cond y53 (K y47 y48 y49 y50 y51 y52 0) (cond (cond y44 (!true) false) (JC R y47 y48 y49 y50 y51 y52 y42 17 (fun y54 y55 y56 y57 y58 y59 y60=>K y54 y55 y56 y57 y58 y59 0)) (cond (Ju y50.length (@List.length (@Kd.T J5) [(s10,(s11,(s12,(s13,(s14,(true,((y36,(y37,(y38,(y39,(y44,y41))))),s22)))))))]) 136) (Jv R y47 s6 [100,101,115,99,114,105,112,116,111,114,115] (fun y54 y55=>cond y55 (JT R y47 y48 y49 (y50++[(s10,(s11,(s12,(s13,(s14,(true,((y36,(y37,(y38,(y39,(y44,y41))))),s22)))))))]) y51 y52 y54 s7 (y50.length:Int) (IntKind.i64.wrap (s8+1)) (fun y56 y57 y58 y59 y60 y61 y62=>cond (inb (y50.length:Int) (y59.length:Int)) (@SH (@List (@Kd.T J5)) R (List.set y59 (y50.length:Int).toNat ((y59.getD (y50.length:Int).toNat J5.zero).1,(((y59.getD (y50.length:Int).toNat J5.zero).2).1,((((y59.getD (y50.length:Int).toNat J5.zero).2).2).1,(((((y59.getD (y50.length:Int).toNat J5.zero).2).2).2).1,((((((y59.getD (y50.length:Int).toNat J5.zero).2).2).2).2).1,(((((((y59.getD (y50.length:Int).toNat J5.zero).2).2).2).2).2).1,((((((((((y59.getD (y50.length:Int).toNat J5.zero).2).2).2).2).2).2).1).1,((((((((((y59.getD (y50.length:Int).toNat J5.zero).2).2).2).2).2).2).1).2).1,(((((((((((y59.getD (y50.length:Int).toNat J5.zero).2).2).2).2).2).2).1).2).2).1,((((((((((((y59.getD (y50.length:Int).toNat J5.zero).2).2).2).2).2).2).1).2).2).2).1,(((((((((((((y59.getD (y50.length:Int).toNat J5.zero).2).2).2).2).2).2).1).2).2).2).2).1,((((((((((((y59.getD (y50.length:Int).toNat J5.zero).2).2).2).2).2).2).1).2).2).2).2).2))))),y62)))))))) (fun y63=>K y56 y57 y58 y63 y60 y61 (y50.length:Int))) none)) (K y47 y48 y49 (y50++[(s10,(s11,(s12,(s13,(s14,(true,((y36,(y37,(y38,(y39,(y44,y41))))),s22)))))))]) y51 y52 (y50.length:Int)))) none))))) (cond (Ju y33.length (@List.length (@Kd.T J5) [(s10,(s11,(s12,(s13,(s14,(true,((y36,(y37,(y38,(y39,(y40,y41))))),s22)))))))]) 136) (Jv R y30 s6 [100,101,115,99,114,105,112,116,111,114,115] (fun y44 y45=>cond y45 (JT R y30 y31 y32 (y33++[(s10,(s11,(s12,(s13,(s14,(true,((y36,(y37,(y38,(y39,(y40,y41))))),s22)))))))]) y34 y35 y44 s7 (y33.length:Int) (IntKind.i64.wrap (s8+1)) (fun y46 y47 y48 y49 y50 y51 y52=>cond (inb (y33.length:Int) (y49.length:Int)) (@SH (@List (@Kd.T J5)) R (List.set y49 (y33.length:Int).toNat ((y49.getD (y33.length:Int).toNat J5.zero).1,(((y49.getD (y33.length:Int).toNat J5.zero).2).1,((((y49.getD (y33.length:Int).toNat J5.zero).2).2).1,(((((y49.getD (y33.length:Int).toNat J5.zero).2).2).2).1,((((((y49.getD (y33.length:Int).toNat J5.zero).2).2).2).2).1,(((((((y49.getD (y33.length:Int).toNat J5.zero).2).2).2).2).2).1,((((((((((y49.getD (y33.length:Int).toNat J5.zero).2).2).2).2).2).2).1).1,((((((((((y49.getD (y33.length:Int).toNat J5.zero).2).2).2).2).2).2).1).2).1,(((((((((((y49.getD (y33.length:Int).toNat J5.zero).2).2).2).2).2).2).1).2).2).1,((((((((((((y49.getD (y33.length:Int).toNat J5.zero).2).2).2).2).2).2).1).2).2).2).1,(((((((((((((y49.getD (y33.length:Int).toNat J5.zero).2).2).2).2).2).2).1).2).2).2).2).1,((((((((((((y49.getD (y33.length:Int).toNat J5.zero).2).2).2).2).2).2).1).2).2).2).2).2))))),y52)))))))) (fun y53=>K y46 y47 y48 y53 y50 y51 (y33.length:Int))) none)) (K y30 y31 y32 (y33++[(s10,(s11,(s12,(s13,(s14,(true,((y36,(y37,(y38,(y39,(y40,y41))))),s22)))))))]) y34 y35 (y33.length:Int)))) none))))) (cond (s4 != 0) (K s0 s1 s2 s3 s4 s5 0) (Jv R s0 s6 [115,104,97,100,111,119,95,109,111,100,101] (fun y30 y31=>cond y31 (Ue R s0 y30 (fun y32 y33 y34=>Jy R s0 s1 s2 s3 s4 s5 y33 y34 (fun y35 y36 y37 y38 y39 y40 y41=>cond y41 (K y35 y36 y37 y38 y39 y40 0) (cond (cond y32 (!s15) false) (JC R y35 y36 y37 y38 y39 y40 y30 17 (fun y42 y43 y44 y45 y46 y47 y48=>K y42 y43 y44 y45 y46 y47 0)) (cond (Ju y38.length (@List.length (@Kd.T J5) [(s10,(s11,(s12,(s13,(s14,(s15,((s16,(s17,(s18,(s19,(y32,s21))))),s22)))))))]) 136) (Jv R y35 s6 [100,101,115,99,114,105,112,116,111,114,115] (fun y42 y43=>cond y43 (JT R y35 y36 y37 (y38++[(s10,(s11,(s12,(s13,(s14,(s15,((s16,(s17,(s18,(s19,(y32,s21))))),s22)))))))]) y39 y40 y42 s7 (y38.length:Int) (IntKind.i64.wrap (s8+1)) (fun y44 y45 y46 y47 y48 y49 y50=>cond (inb (y38.length:Int) (y47.length:Int)) (@SH (@List (@Kd.T J5)) R (List.set y47 (y38.length:Int).toNat ((y47.getD (y38.length:Int).toNat J5.zero).1,(((y47.getD (y38.length:Int).toNat J5.zero).2).1,((((y47.getD (y38.length:Int).toNat J5.zero).2).2).1,(((((y47.getD (y38.length:Int).toNat J5.zero).2).2).2).1,((((((y47.getD (y38.length:Int).toNat J5.zero).2).2).2).2).1,(((((((y47.getD (y38.length:Int).toNat J5.zero).2).2).2).2).2).1,((((((((((y47.getD (y38.length:Int).toNat J5.zero).2).2).2).2).2).2).1).1,((((((((((y47.getD (y38.length:Int).toNat J5.zero).2).2).2).2).2).2).1).2).1,(((((((((((y47.getD (y38.length:Int).toNat J5.zero).2).2).2).2).2).2).1).2).2).1,((((((((((((y47.getD (y38.length:Int).toNat J5.zero).2).2).2).2).2).2).1).2).2).2).1,(((((((((((((y47.getD (y38.length:Int).toNat J5.zero).2).2).2).2).2).2).1).2).2).2).2).1,((((((((((((y47.getD (y38.length:Int).toNat J5.zero).2).2).2).2).2).2).1).2).2).2).2).2))))),y50)))))))) (fun y51=>K y44 y45 y46 y51 y48 y49 (y38.length:Int))) none)) (K y35 y36 y37 (y38++[(s10,(s11,(s12,(s13,(s14,(s15,((s16,(s17,(s18,(s19,(y32,s21))))),s22)))))))]) y39 y40 (y38.length:Int)))) none))))) (cond (Ju s3.length (@List.length (@Kd.T J5) [(s10,(s11,(s12,(s13,(s14,(s15,((s16,(s17,(s18,(s19,(s20,s21))))),s22)))))))]) 136) (Jv R s0 s6 [100,101,115,99,114,105,112,116,111,114,115] (fun y32 y33=>cond y33 (JT R s0 s1 s2 (s3++[(s10,(s11,(s12,(s13,(s14,(s15,((s16,(s17,(s18,(s19,(s20,s21))))),s22)))))))]) s4 s5 y32 s7 (s3.length:Int) (IntKind.i64.wrap (s8+1)) (fun y34 y35 y36 y37 y38 y39 y40=>cond (inb (s3.length:Int) (y37.length:Int)) (@SH (@List (@Kd.T J5)) R (List.set y37 (s3.length:Int).toNat ((y37.getD (s3.length:Int).toNat J5.zero).1,(((y37.getD (s3.length:Int).toNat J5.zero).2).1,((((y37.getD (s3.length:Int).toNat J5.zero).2).2).1,(((((y37.getD (s3.length:Int).toNat J5.zero).2).2).2).1,((((((y37.getD (s3.length:Int).toNat J5.zero).2).2).2).2).1,(((((((y37.getD (s3.length:Int).toNat J5.zero).2).2).2).2).2).1,((((((((((y37.getD (s3.length:Int).toNat J5.zero).2).2).2).2).2).2).1).1,((((((((((y37.getD (s3.length:Int).toNat J5.zero).2).2).2).2).2).2).1).2).1,(((((((((((y37.getD (s3.length:Int).toNat J5.zero).2).2).2).2).2).2).1).2).2).1,((((((((((((y37.getD (s3.length:Int).toNat J5.zero).2).2).2).2).2).2).1).2).2).2).1,(((((((((((((y37.getD (s3.length:Int).toNat J5.zero).2).2).2).2).2).2).1).2).2).2).2).1,((((((((((((y37.getD (s3.length:Int).toNat J5.zero).2).2).2).2).2).2).1).2).2).2).2).2))))),y40)))))))) (fun y41=>K y34 y35 y36 y41 y38 y39 (s3.length:Int))) none)) (K s0 s1 s2 (s3++[(s10,(s11,(s12,(s13,(s14,(s15,((s16,(s17,(s18,(s19,(s20,s21))))),s22)))))))]) s4 s5 (s3.length:Int)))) none))))))
def J9k(k:Nat)(JT:UZ)(QD:ZO)(Jy:Uu)(JL:Uy)(Jv:Uz)(JC:Uv)(Q2:Z9)(YO:J7p)(YM:J6C)(Ue:J27){R:Type}(E1025:(J3->Nat->J7->J9->Int->Int->Int->Int->Int->J6->J0->J0->Bool->Int->Int->Bool->J0->Int->Int->Nat->Bool->Bool->J6->Int->Option R))(x0:J3)(x1:Nat)(x2:J7)(x3:J9)(x4 x5 x6 x7 x8 x9:Int)(x10:J6)(K:(J3->Nat->J7->J9->Int->Int->Int->Option R)): Option R:=cond (decide (x9>8)) (JC R x0 x1 x2 x3 x4 x5 x6 8 (fun y15 y16 y17 y18 y19 y20 y21=>K y15 y16 y17 y18 y19 y20 0)) (cond (decide ((x3.length:Int)≥500)) (JC R x0 x1 x2 x3 x4 x5 x6 9 (fun y15 y16 y17 y18 y19 y20 y21=>K y15 y16 y17 y18 y19 y20 0)) (JL R x0 x6 [[107,101,121],[118,97,108,117,101],[114,97,116,101,95,108,105,109,105,116],[115,104,97,100,111,119,95,109,111,100,101],[100,101,115,99,114,105,112,116,111,114,115]] (fun y15 y16=>Jy R x0 x1 x2 x3 x4 x5 y15 y16 (fun y17 y18 y19 y20 y21 y22 y23=>cond y23 (K y17 y18 y19 y20 y21 y22 0) (Jv R y17 x6 [107,101,121] (fun y24 y25=>cond (!y25) (JC R y17 y18 y19 y20 y21 y22 x6 10 (fun y26 y27 y28 y29 y30 y31 y32=>K y26 y27 y28 y29 y30 y31 0)) (Q2 R y17 y24 (fun y26 y27 y28=>Jy R y17 y18 y19 y20 y21 y22 y27 y28 (fun y29 y30 y31 y32 y33 y34 y35=>cond y35 (K y29 y30 y31 y32 y33 y34 0) (Jv R y29 x6 [118,97,108,117,101] (fun y36 y37=>cond y37 (YO R y29 y36 (fun y38 y39 y40=>Jy R y29 y30 y31 y32 y33 y34 y39 y40 (fun y41 y42 y43 y44 y45 y46 y47=>cond y47 (K y41 y42 y43 y44 y45 y46 0) (E1025 y41 y42 y43 y44 y45 y46 x6 x7 x9 x10 y26 y38 false x7 x8 false [] 0 0 0 false false [] 0)))) (E1025 y29 y30 y31 y32 y33 y34 x6 x7 x9 x10 y26 [] true x7 x8 false [] 0 0 0 false false [] 0))))))))))))
def J3Z(k:Nat)(JT:UZ)(QD:ZO)(Jy:Uu)(JL:Uy)(Jv:Uz)(JC:Uv)(Q2:Z9)(YO:J7p)(YM:J6C)(Ue:J27){R:Type}: Nat->J3->Nat->J7->J9->Int->Int->Int->Int->Int->J6->J0->J0->Bool->Int->Int->Bool->J0->Int->Int->Nat->Bool->Bool->J6->Int->(J3->Nat->J7->J9->Int->Int->Int->Option R)->Option R
 |0,_,_,_,_,_,_,_,_,_,_,_,_,_,_,_,_,_,_,_,_,_,_,_,_,_=>none
 |n+1,s0,s1,s2,s3,s4,s5,s6,s7,s8,s9,s10,s11,s12,s13,s14,s15,s16,s17,s18,s19,s20,s21,s22,s23,K=>JbN k JT QD Jy JL Jv JC Q2 YO YM Ue (fun s0 s1 s2 s3 s4 s5 s6 s7 s8 s9 s10 s11 s12 s13 s14 s15 s16 s17 s18 s19 s20 s21 s22 s23=>J3Z k JT QD Jy JL Jv JC Q2 YO YM Ue n s0 s1 s2 s3 s4 s5 s6 s7 s8 s9 s10 s11 s12 s13 s14 s15 s16 s17 s18 s19 s20 s21 s22 s23 K) s0 s1 s2 s3 s4 s5 s6 s7 s8 s9 s10 s11 s12 s13 s14 s15 s16 s17 s18 s19 s20 s21 s22 s23 K
theorem Jx2(k:Nat)(JT:UZ)(QD:ZO)(Jy:Uu)(JL:Uy)(Jv:Uz)(JC:Uv)(Q2:Z9)(YO:J7p)(YM:J6C)(Ue:J27){R:Type}: ∀(I:Nat->St->Option R) (n:Nat),J0K.lp J6e (Jcf k JT QD Jy JL Jv JC Q2 YO YM Ue).cx k Tryz.f178 1025 [1,1,1,1,1,1,1,1,1,1,1,0,1,0] I n=J3Z k JT QD Jy JL Jv JC Q2 YO YM Ue n:=J0K.lok J6e (B:=JbN k JT QD Jy JL Jv JC Q2 YO YM Ue) (L:=J3Z k JT QD Jy JL Jv JC Q2 YO YM Ue) (fun I=>by kernel_rfl) (fun I=>by kernel_rfl) (fun n=>by kernel_rfl) (fun _ _ _ _=>rfl)
theorem Jyd(k:Nat)(JT:UZ)(QD:ZO)(Jy:Uu)(JL:Uy)(Jv:Uz)(JC:Uv)(Q2:Z9)(YO:J7p)(YM:J6C)(Ue:J27)(R:Type): J0K.at (Jcf k JT QD Jy JL Jv JC Q2 YO YM Ue) k Tryz.f178 R=J0K.glue (l:=J0K.ps) (u:=J6e.fs) (fun E1025=>@J9k k JT QD Jy JL Jv JC Q2 YO YM Ue R E1025) (J0K.lp J6e (Jcf k JT QD Jy JL Jv JC Q2 YO YM Ue).cx k Tryz.f178 1025 [1,1,1,1,1,1,1,1,1,1,1,0,1,0] (fun _ _=>none) k):=by kernel_rfl
mutual
def UL:Nat->UZ
 |0,_,_,_,_,_,_,_,_,_,_,_,_=>none
 |k+1,R,x0,x1,x2,x3,x4,x5,x6,x7,x8,x9,K=>Jc3 k (UL k) (FR_ref15_reader_branch k) (fun s0 s1 s2 s3 s4 s5 s6 s7 s8 s9 s10 s11=>J1V k (UL k) (FR_ref15_reader_branch k) k s0 s1 s2 s3 s4 s5 s6 s7 s8 s9 s10 s11 K) x0 x1 x2 x3 x4 x5 x6 x7 x8 x9 K
def FR_ref15_reader_branch:Nat->ZO
 |0,_,_,_,_,_,_,_,_,_,_,_,_,_=>none
 |k+1,R,x0,x1,x2,x3,x4,x5,x6,x7,x8,x9,x10,K=>J9k k (UL k) (FR_ref15_reader_branch k) (@JY k) (@QH k) (@Q6 k) (@Ql k) (@U0 k) (@J0T k) (@J1p k) (@Za k) (fun s0 s1 s2 s3 s4 s5 s6 s7 s8 s9 s10 s11 s12 s13 s14 s15 s16 s17 s18 s19 s20 s21 s22 s23=>J3Z k (UL k) (FR_ref15_reader_branch k) (@JY k) (@QH k) (@Q6 k) (@Ql k) (@U0 k) (@J0T k) (@J1p k) (@Za k) k s0 s1 s2 s3 s4 s5 s6 s7 s8 s9 s10 s11 s12 s13 s14 s15 s16 s17 s18 s19 s20 s21 s22 s23 K) x0 x1 x2 x3 x4 x5 x6 x7 x8 x9 x10 K
end
def J2V(k:Nat){R:Type}(x0:J3)(x1:Nat)(x2:J7)(x3:J9)(x4 x5 x6 x7 x8 x9:Int)(K:(J3->Nat->J7->J9->Int->Int->J6->Option R)): Option R:=UL k R x0 x1 x2 x3 x4 x5 x6 x7 x8 x9 K
theorem Jxt(k:Nat): DOK Tryz.prog 136 (ZN.run (UL k))∧DOK Tryz.prog 178 (J0K.run (FR_ref15_reader_branch k)):=by
 induction k with
 |zero=>exact⟨ZN.ok0 fun R=>by kernel_rfl,J0K.ok0 fun R=>by kernel_rfl⟩
 |succ k ih =>
  obtain⟨ih_ref15_reader_branches,ih_ref15_reader_branch⟩:=ih
  exact⟨dok ZN (Jc2 k (UL k) (FR_ref15_reader_branch k)) Tryz.f136 k (ok1 (J6H k) (ok1 (JiR k) (ok1 ih_ref15_reader_branch ok0))) (by kernel_rfl) (by kernel_rfl) fun R=>ZN.f1 J6c (Jc3 k (UL k) (FR_ref15_reader_branch k)) (JxA k (UL k) (FR_ref15_reader_branch k) R) (JwY k (UL k) (FR_ref15_reader_branch k) (fun _ _=>none) k) (by kernel_rfl),dok J0K (Jcf k (UL k) (FR_ref15_reader_branch k) (@JY k) (@QH k) (@Q6 k) (@Ql k) (@U0 k) (@J0T k) (@J1p k) (@Za k)) Tryz.f178 k (ok1 (J6H k) (ok1 (Je1 k) (ok1 (Jec k) (ok1 (JcJ k) (ok1 (JiS k) (ok1 ih_ref15_reader_branches (ok1 (JBY k) (ok1 (Jzl k) (ok1 (JpB k) ok0))))))))) (by kernel_rfl) (by kernel_rfl) fun R=>J0K.f1 J6e (J9k k (UL k) (FR_ref15_reader_branch k) (@JY k) (@QH k) (@Q6 k) (@Ql k) (@U0 k) (@J0T k) (@J1p k) (@Za k)) (Jyd k (UL k) (FR_ref15_reader_branch k) (@JY k) (@QH k) (@Q6 k) (@Ql k) (@U0 k) (@J0T k) (@J1p k) (@Za k) R) (Jx2 k (UL k) (FR_ref15_reader_branch k) (@JY k) (@QH k) (@Q6 k) (@Ql k) (@U0 k) (@J0T k) (@J1p k) (@Za k) (fun _ _=>none) k) (by kernel_rfl)⟩
theorem JxB(k:Nat): DOK Tryz.prog 136 (ZN.run (@J2V k)):=(Jxt k).1
end
def J1n:Sh:=⟨[.o 1 82 0 [.s J4,.a .flt,.w 21 64 (.pr .str (.sl kI)),.w 51 57 J5,.a kI,.a kI],.a kI],some ([.o 1 82 0 [.s J4,.a .flt,.w 21 64 (.pr .str (.sl kI)),.w 51 57 J5,.a kI,.a kI]],[]),none⟩
abbrev J6w:Type 1:=(R:Type)->J3->Nat->J7->J9->Int->Int->Int->(J3->Nat->J7->J9->Int->Int->Option R)->Option R
def J6f:Cu:=⟨1,[0,1,4,6,8],[.o 1 82 0 [.s J4,.a .flt,.w 21 64 (.pr .str (.sl kI)),.w 51 57 J5,.a kI,.a kI],.r 1 0,.a kI,.a kI,.a .str,.a kI]⟩
def Jcg(k:Nat)(Jy:Uu)(JL:Uy)(Jv:Uz)(JC:Uv)(Q2:Z9)(JT:UZ): Cxt:=⟨[J4g.e 78 Jy,Zx.e 79 JL,J2d.e 81 Jv,J6I.e 83 JC,J9L.e 135 Q2,ZN.e 136 JT],[1],[(1007,J6f.spec)],[]⟩
def JbO(k:Nat)(Jy:Uu)(JL:Uy)(Jv:Uz)(JC:Uv)(Q2:Z9)(JT:UZ){R:Type}(E1007:(J3->Nat->J7->J9->Int->Int->Int->Int->J0->Int->Option R))(s0:J3)(s1:Nat)(s2:J7)(s3:J9)(s4 s5 s6 s7:Int)(s8:J0)(s9:Int)(K:(J3->Nat->J7->J9->Int->Int->Option R)): Option R:=cond (decide (s9<(s2.length:Int))) (cond (inb s9 (s2.length:Int)) (cond ((s2.getD s9.toNat (Kd.zero (@Kd.pr Kd.str (@Kd.sl kI)))).1 == s8) (JC R s0 s1 s2 s3 s4 s5 s7 7 (fun y14 y15 y16 y17 y18 y19 y20=>K y14 y15 y16 y17 y18 y19)) (E1007 s0 s1 s2 s3 s4 s5 s6 s7 s8 (IntKind.i64.wrap (s9+1)))) none) (cond (Ju s2.length (@List.length (@Kd.T (@Kd.pr Kd.str (@Kd.sl kI))) [(s8,[])]) 40) (Jv R s0 s6 [100,101,115,99,114,105,112,116,111,114,115] (fun y14 y15=>cond y15 (JT R s0 s1 (s2++[(s8,[])]) s3 s4 s5 y14 (s2.length:Int) (-(1:Int)) 1 (fun y16 y17 y18 y19 y20 y21 y22=>cond (inb (s2.length:Int) (y18.length:Int)) (@SH (@List (@Kd.T (@Kd.pr Kd.str (@Kd.sl kI)))) R (List.set y18 (s2.length:Int).toNat ((y18.getD (s2.length:Int).toNat (Kd.zero (@Kd.pr Kd.str (@Kd.sl kI)))).1,y22)) (fun y23=>K y16 y17 y23 y19 y20 y21)) none)) (K s0 s1 (s2++[(s8,[])]) s3 s4 s5))) none)
def Jch(k:Nat)(Jy:Uu)(JL:Uy)(Jv:Uz)(JC:Uv)(Q2:Z9)(JT:UZ){R:Type}(E1007:(J3->Nat->J7->J9->Int->Int->Int->Int->J0->Int->Option R))(x0:J3)(x1:Nat)(x2:J7)(x3:J9)(x4 x5 x6:Int)(K:(J3->Nat->J7->J9->Int->Int->Option R)): Option R:=JL R x0 x6 [[100,111,109,97,105,110],[100,101,115,99,114,105,112,116,111,114,115]] (fun y11 y12=>Jy R x0 x1 x2 x3 x4 x5 y11 y12 (fun y13 y14 y15 y16 y17 y18 y19=>cond y19 (K y13 y14 y15 y16 y17 y18) (Jv R y13 x6 [100,111,109,97,105,110] (fun y20 y21=>cond (!y21) (JC R y13 y14 y15 y16 y17 y18 x6 10 (fun y22 y23 y24 y25 y26 y27 y28=>K y22 y23 y24 y25 y26 y27)) (Q2 R y13 y20 (fun y22 y23 y24=>Jy R y13 y14 y15 y16 y17 y18 y23 y24 (fun y25 y26 y27 y28 y29 y30 y31=>cond y31 (K y25 y26 y27 y28 y29 y30) (E1007 y25 y26 y27 y28 y29 y30 x6 y20 y22 0))))))))
def J40(k:Nat)(Jy:Uu)(JL:Uy)(Jv:Uz)(JC:Uv)(Q2:Z9)(JT:UZ){R:Type}: Nat->J3->Nat->J7->J9->Int->Int->Int->Int->J0->Int->(J3->Nat->J7->J9->Int->Int->Option R)->Option R
 |0,_,_,_,_,_,_,_,_,_,_,_=>none
 |n+1,s0,s1,s2,s3,s4,s5,s6,s7,s8,s9,K=>JbO k Jy JL Jv JC Q2 JT (fun s0 s1 s2 s3 s4 s5 s6 s7 s8 s9=>J40 k Jy JL Jv JC Q2 JT n s0 s1 s2 s3 s4 s5 s6 s7 s8 s9 K) s0 s1 s2 s3 s4 s5 s6 s7 s8 s9 K
theorem Jx3(k:Nat)(Jy:Uu)(JL:Uy)(Jv:Uz)(JC:Uv)(Q2:Z9)(JT:UZ){R:Type}: ∀(I:Nat->St->Option R) (n:Nat),J1n.lp J6f (Jcg k Jy JL Jv JC Q2 JT).cx k Tryz.f85 1007 [1,1,1,1,1,0,1,0] I n=J40 k Jy JL Jv JC Q2 JT n:=J1n.lok J6f (B:=JbO k Jy JL Jv JC Q2 JT) (L:=J40 k Jy JL Jv JC Q2 JT) (fun I=>by kernel_rfl) (fun I=>by kernel_rfl) (fun n=>by kernel_rfl) (fun _ _ _ _=>rfl)
theorem Jye(k:Nat)(Jy:Uu)(JL:Uy)(Jv:Uz)(JC:Uv)(Q2:Z9)(JT:UZ)(R:Type): J1n.at (Jcg k Jy JL Jv JC Q2 JT) k Tryz.f85 R=J1n.glue (l:=J1n.ps) (u:=J6f.fs) (fun E1007=>@Jch k Jy JL Jv JC Q2 JT R E1007) (J1n.lp J6f (Jcg k Jy JL Jv JC Q2 JT).cx k Tryz.f85 1007 [1,1,1,1,1,0,1,0] (fun _ _=>none) k):=by kernel_rfl
def J0g(k:Nat){R:Type}(x0:J3)(x1:Nat)(x2:J7)(x3:J9)(x4 x5 x6:Int)(K:(J3->Nat->J7->J9->Int->Int->Option R)): Option R:=Jch k (@JY k) (@QH k) (@Q6 k) (@Ql k) (@U0 k) (@J2V k) (fun s0 s1 s2 s3 s4 s5 s6 s7 s8 s9=>J40 k (@JY k) (@QH k) (@Q6 k) (@Ql k) (@U0 k) (@J2V k) k s0 s1 s2 s3 s4 s5 s6 s7 s8 s9 K) x0 x1 x2 x3 x4 x5 x6 K
theorem Jyf(k:Nat): DOK Tryz.prog 85 (J1n.run (@J0g k)):=dok J1n (Jcg k (@JY k) (@QH k) (@Q6 k) (@Ql k) (@U0 k) (@J2V k)) Tryz.f85 k (ok1 (J6H k) (ok1 (Je1 k) (ok1 (Jec k) (ok1 (JcJ k) (ok1 (JiS k) (ok1 (JxB k) ok0)))))) (by kernel_rfl) (by kernel_rfl) fun R=>J1n.f1 J6f (Jch k (@JY k) (@QH k) (@Q6 k) (@Ql k) (@U0 k) (@J2V k)) (Jye k (@JY k) (@QH k) (@Q6 k) (@Ql k) (@U0 k) (@J2V k) R) (Jx3 k (@JY k) (@QH k) (@Q6 k) (@Ql k) (@U0 k) (@J2V k) (fun _ _=>none) k) (by kernel_rfl)
def J1q:Sh:=⟨[.o 1 82 0 [.s J4,.a .flt,.w 21 64 (.pr .str (.sl kI)),.w 51 57 J5,.a kI,.a kI]],some ([.o 1 82 0 [.s J4,.a .flt,.w 21 64 (.pr .str (.sl kI)),.w 51 57 J5,.a kI,.a kI]],[]),none⟩
def J6n:Cu:=⟨1,[0,8,10],[.o 1 82 0 [.s J4,.a .flt,.w 21 64 (.pr .str (.sl kI)),.w 51 57 J5,.a kI,.a kI],.r 1 0,.a kI,.a kI]⟩
def JcM(k:Nat)(Jy:Uu)(JL:Uy)(YU:J7V)(Jv:Uz)(Ud:J24)(JC:Uv)(Ua:J26)(YL:J6w): Cxt:=⟨[J4g.e 78 Jy,Zx.e 79 JL,J0r.e 80 YU,J2d.e 81 Jv,Je4.e 82 Ud,J6I.e 83 JC,J9K.e 84 Ua,J1n.e 85 YL],[1],[(1013,J6n.spec)],[]⟩
def J9h(k:Nat)(Jy:Uu)(JL:Uy)(YU:J7V)(Jv:Uz)(Ud:J24)(JC:Uv)(Ua:J26)(YL:J6w){R:Type}(E1013:(J3->Nat->J7->J9->Int->Int->Int->Int->Option R))(s0:J3)(s1:Nat)(s2:J7)(s3:J9)(s4 s5 s6 s7:Int)(K:(J3->Nat->J7->J9->Int->Int->Option R)): Option R:=cond (inb s6 (s0.length:Int)) (cond (cond (decide (s7<(((s0.getD s6.toNat J4.zero).2.2.2.2.2).length:Int))) (s4 == 0) false) (cond (decide (s7≥16)) (cond (inb s6 (s0.length:Int)) (cond (inb s7 (((s0.getD s6.toNat J4.zero).2.2.2.2.2).length:Int)) (JC R s0 s1 s2 s3 s4 s5 (((s0.getD s6.toNat J4.zero).2.2.2.2.2).getD s7.toNat kI.zero) 9 (fun y12 y13 y14 y15 y16 y17 y18=>K y12 y13 y14 y15 y16 y17)) none) none) (cond (inb s6 (s0.length:Int)) (cond (inb s7 (((s0.getD s6.toNat J4.zero).2.2.2.2.2).length:Int)) (YL R s0 s1 s2 s3 s4 s5 (((s0.getD s6.toNat J4.zero).2.2.2.2.2).getD s7.toNat kI.zero) (fun y12 y13 y14 y15 y16 y17=>E1013 y12 y13 y14 y15 y16 y17 s6 (IntKind.i64.wrap (s7+1)))) none) none)) (K s0 s1 s2 s3 s4 s5)) none
def JcN(k:Nat)(Jy:Uu)(JL:Uy)(YU:J7V)(Jv:Uz)(Ud:J24)(JC:Uv)(Ua:J26)(YL:J6w){R:Type}(E1013:(J3->Nat->J7->J9->Int->Int->Int->Int->Option R))(x0:J3)(x1:Nat)(x2:J7)(x3:J9)(x4 x5:Int)(K:(J3->Nat->J7->J9->Int->Int->Option R)): Option R:=JL R x0 0 [[110,101,97,114],[100,111,109,97,105,110,115]] (fun y10 y11=>Jy R x0 x1 x2 x3 x4 x5 y10 y11 (fun y12 y13 y14 y15 y16 y17 y18=>cond y18 (K y12 y13 y14 y15 y16 y17) (YU R [48,46,56] (fun y19 y20=>Jv R y12 0 [110,101,97,114] (fun y21 y22=>cond y22 (Ud R y12 y21 (fun y23 y24 y25=>Jy R y12 y19 y14 y15 y16 y17 y24 y25 (fun y26 y27 y28 y29 y30 y31 y32=>cond y32 (K y26 y27 y28 y29 y30 y31) (Jv R y26 0 [100,111,109,97,105,110,115] (fun y33 y34=>cond (!y34) (JC R y26 y23 y28 y29 y30 y31 0 10 (fun y35 y36 y37 y38 y39 y40 y41=>K y35 y36 y37 y38 y39 y40)) (Ua R y26 y33 2 (fun y35 y36=>Jy R y26 y23 y28 y29 y30 y31 y35 y36 (fun y37 y38 y39 y40 y41 y42 y43=>cond y43 (K y37 y38 y39 y40 y41 y42) (E1013 y37 y38 y39 y40 y41 y42 y33 0))))))))) (Jv R y12 0 [100,111,109,97,105,110,115] (fun y23 y24=>cond (!y24) (JC R y12 y19 y14 y15 y16 y17 0 10 (fun y25 y26 y27 y28 y29 y30 y31=>K y25 y26 y27 y28 y29 y30)) (Ua R y12 y23 2 (fun y25 y26=>Jy R y12 y19 y14 y15 y16 y17 y25 y26 (fun y27 y28 y29 y30 y31 y32 y33=>cond y33 (K y27 y28 y29 y30 y31 y32) (E1013 y27 y28 y29 y30 y31 y32 y23 0)))))))))))
def J1l(k:Nat)(Jy:Uu)(JL:Uy)(YU:J7V)(Jv:Uz)(Ud:J24)(JC:Uv)(Ua:J26)(YL:J6w){R:Type}: Nat->J3->Nat->J7->J9->Int->Int->Int->Int->(J3->Nat->J7->J9->Int->Int->Option R)->Option R
 |0,_,_,_,_,_,_,_,_,_=>none
 |n+1,s0,s1,s2,s3,s4,s5,s6,s7,K=>J9h k Jy JL YU Jv Ud JC Ua YL (fun s0 s1 s2 s3 s4 s5 s6 s7=>J1l k Jy JL YU Jv Ud JC Ua YL n s0 s1 s2 s3 s4 s5 s6 s7 K) s0 s1 s2 s3 s4 s5 s6 s7 K
theorem Jxb(k:Nat)(Jy:Uu)(JL:Uy)(YU:J7V)(Jv:Uz)(Ud:J24)(JC:Uv)(Ua:J26)(YL:J6w){R:Type}: ∀(I:Nat->St->Option R) (n:Nat),J1q.lp J6n (JcM k Jy JL YU Jv Ud JC Ua YL).cx k Tryz.f39 1013 [1,1,1,1,1,1,1,1,0] I n=J1l k Jy JL YU Jv Ud JC Ua YL n:=J1q.lok J6n (B:=J9h k Jy JL YU Jv Ud JC Ua YL) (L:=J1l k Jy JL YU Jv Ud JC Ua YL) (fun I=>by kernel_rfl) (fun I=>by kernel_rfl) (fun n=>by kernel_rfl) (fun _ _ _ _=>rfl)
theorem Jzm(k:Nat)(Jy:Uu)(JL:Uy)(YU:J7V)(Jv:Uz)(Ud:J24)(JC:Uv)(Ua:J26)(YL:J6w)(R:Type): J1q.at (JcM k Jy JL YU Jv Ud JC Ua YL) k Tryz.f39 R=J1q.glue (l:=J1q.ps) (u:=J6n.fs) (fun E1013=>@JcN k Jy JL YU Jv Ud JC Ua YL R E1013) (J1q.lp J6n (JcM k Jy JL YU Jv Ud JC Ua YL).cx k Tryz.f39 1013 [1,1,1,1,1,1,1,1,0] (fun _ _=>none) k):=by kernel_rfl
def J9s(k:Nat){R:Type}(x0:J3)(x1:Nat)(x2:J7)(x3:J9)(x4 x5:Int)(K:(J3->Nat->J7->J9->Int->Int->Option R)): Option R:=JcN k (@JY k) (@QH k) (@ZA k) (@Q6 k) (@Yl k) (@Ql k) (@UA k) (@J0g k) (fun s0 s1 s2 s3 s4 s5 s6 s7=>J1l k (@JY k) (@QH k) (@ZA k) (@Q6 k) (@Yl k) (@Ql k) (@UA k) (@J0g k) k s0 s1 s2 s3 s4 s5 s6 s7 K) x0 x1 x2 x3 x4 x5 K
theorem Jzn(k:Nat): DOK Tryz.prog 39 (J1q.run (@J9s k)):=dok J1q (JcM k (@JY k) (@QH k) (@ZA k) (@Q6 k) (@Yl k) (@Ql k) (@UA k) (@J0g k)) Tryz.f39 k (ok1 (J6H k) (ok1 (Je1 k) (ok1 (JrU k) (ok1 (Jec k) (ok1 (Jp7 k) (ok1 (JcJ k) (ok1 (JiR k) (ok1 (Jyf k) ok0)))))))) (by kernel_rfl) (by kernel_rfl) fun R=>J1q.f1 J6n (JcN k (@JY k) (@QH k) (@ZA k) (@Q6 k) (@Yl k) (@Ql k) (@UA k) (@J0g k)) (Jzm k (@JY k) (@QH k) (@ZA k) (@Q6 k) (@Yl k) (@Ql k) (@UA k) (@J0g k) R) (Jxb k (@JY k) (@QH k) (@ZA k) (@Q6 k) (@Yl k) (@Ql k) (@UA k) (@J0g k) (fun _ _=>none) k) (by kernel_rfl)
def Jzo(k:Nat): Ent:=J1q.e 39 (@J9s k)
def JkR:Sh:=⟨[.g [.s J4]],some ([],[.g [.s (.pr .str (.sl kI)),.s J5],.g [.a kI,.a kI]]),none⟩
def JG7(k:Nat): Cxt:=⟨[JCX k,Jzo k],[],[],[(6,(.of [(0,1),(1,1),(2,1),(3,1),(4,2),(5,0),(6,0)] .done))]⟩
def JsA(k:Nat){R:Type}(x0:J3)(K:(J7->J9->Int->Int->Option R)): Option R:=J9V k x0 (fun y4=>cond (!y4) (K [] [] 11 0) (J9s k x0 0 [] [] 0 0 (fun y5 y6 y7 y8 y9 y10=>cond (y9 != 0) (K [] [] y9 y10) (K y7 y8 0 0))))
def Jao:=@JsA
theorem JG8(k:Nat): DOK Tryz.prog 17 (JkR.run (@Jao k)):=dok JkR (JG7 k) Tryz.f17 k (ok1 (JCW k) (ok1 (Jzn k) ok0)) (by kernel_rfl) (by kernel_rfl) fun R=>by kernel_rfl
def JG9(k:Nat): Ent:=JkR.e 17 (@Jao k)
def Jjn:Sh:=⟨[.s (.int .u8)],some ([],[.g [.s (.pr .str (.sl kI)),.s J5],.g [.a kI,.a kI]]),none⟩
abbrev JiV:Type 1:=(R:Type)->J6->(J7->J9->Int->Int->Option R)->Option R
def JCY(k:Nat): Cxt:=⟨[JG9 k,JCR k],[],[],[(3,(.of [(0,1),(1,2),(2,0),(3,0)] .done))]⟩
def Jqq(k:Nat){R:Type}(x0:J6)(K:(J7->J9->Int->Int->Option R)): Option R:=J9T k x0 (fun y4 y5 y6=>cond (y5 != 0) (K [] [] y5 y6) (Jao k y4 K))
def J7L:=@Jqq
theorem JCZ(k:Nat): DOK Tryz.prog 12 (Jjn.run (@J7L k)):=dok Jjn (JCY k) Tryz.f12 k (ok1 (JG8 k) (ok1 (JCQ k) ok0)) (by kernel_rfl) (by kernel_rfl) fun R=>by kernel_rfl
def Jcu:Sh:=⟨[.s (.int .u8)],some ([],[.a .bool]),none⟩
def Jo5(k:Nat)(J3h:JiL)(ZV:J7n)(J7N:JiV)(ZZ:J7F)(Zy:J7m): Cxt:=⟨[Jen.e 10 J3h,Jeb.e 11 ZV,Jjn.e 12 J7N,J0p.e 13 ZZ,J4T.e 14 Zy],[],[],[]⟩
def Jha(k:Nat)(J3h:JiL)(ZV:J7n)(J7N:JiV)(ZZ:J7F)(Zy:J7m){R:Type}(x0:J6)(K:(Bool->Option R)): Option R:=cond (decide ((x0.length:Int)>6000)) (J3h R K) (ZV R x0 (fun y4 y5 y6 y7=>J7N R x0 (fun y8 y9 y10 y11=>ZZ R y4 y5 y8 y9 (fun y12=>cond ((cond y12 ((y6 == y10)&&(y7 == y11)) false) == true) (cond ((y6 != 0) == false) (Zy R y4 y5 (fun y13=>cond ((y13 == 0) == true) (J3h R K) (K false))) (J3h R K)) (K false)))))
theorem JyH(k:Nat)(J3h:JiL)(ZV:J7n)(J7N:JiV)(ZZ:J7F)(Zy:J7m)(R:Type): Jcu.at (Jo5 k J3h ZV J7N ZZ Zy) k Tryz.f3 R=@Jha k J3h ZV J7N ZZ Zy R:=by kernel_rfl
def J6D(k:Nat){R:Type}:= @Jha k (@J7G k) (@J2c k) (@J7L k) (@J2i k) (@J2a k) R
theorem JyI(k:Nat): DOK Tryz.prog 3 (Jcu.run (@J6D k)):=dok Jcu (Jo5 k (@J7G k) (@J2c k) (@J7L k) (@J2i k) (@J2a k)) Tryz.f3 k (ok1 (JCF k) (ok1 (Jpr k) (ok1 (JCZ k) (ok1 (Jr5 k) (ok1 (Jpl k) ok0))))) (by kernel_rfl) (by kernel_rfl) fun R=>JyH k (@J7G k) (@J2c k) (@J7L k) (@J2i k) (@J2a k) R
section
open Go
theorem J1{p:Prop}[Decidable p](h:p): decide p=true:=decide_eq_true h
theorem J2{p:Prop}[Decidable p](h:¬ p): decide p=false:=decide_eq_false h
theorem Jl{a b:Int}(h:a=b): (a == b)=true:=by simp[h]
theorem Jh{a b:Int}(h:a≠b): (a == b)=false:=by simp[h]
theorem Jm{a b:Int}(h:a≠b): (a != b)=true:=by simp[h]
theorem Jn{a b:Int}(h:a=b): (a != b)=false:=by simp[h]
theorem Ja{i n:Int}(h1:0≤i)(h2:i<n): inb i n=true:=by simp[inb,h1,h2]
theorem Jg{l r n:Int}(h1:0≤l)(h2:l≤r)(h3:r≤n): bnd l r n=true:=by simp[bnd,h1,h2,h3]
theorem J8{x:Int}(h1 : -9223372036854775808≤x)(h2:x≤9223372036854775807): IntKind.i64.wrap x=x:=by
 simp[IntKind.wrap,IntKind.bits,IntKind.signed];omega
theorem Ji{x:Int}(h1:0≤x)(h2:x<256): IntKind.u8.wrap x=x:=by
 simp[IntKind.wrap,IntKind.bits,IntKind.signed];omega
theorem Yc{n m b:Nat}(h1:n+m≤9223372036854775807)(h2:(n+m)*b≤140737488355328): Ju n m b=true:=by
 simp[Ju,J1f,h1,h2]
theorem Q4(n:Nat): (n:Int)+1=((n+1:Nat):Int):=by omega
theorem Jk(b:Bool): (b == true)=b:=by cases b<;>rfl
theorem Jj(b:Bool): (b == false) = !b:=by cases b<;>rfl
theorem Jb(n:Nat): ((n:Nat):Int).toNat=n:=by omega
theorem JE{α : Type}{s:List α}{n:Nat}(h:s.drop n=[]): s.length≤n:=by simpa using h
theorem Jz{α : Type}{s r:List α}{c : α}{n:Nat}(h:s.drop n=c::r): n<s.length∧(∀ d,s.getD n d=c)∧s.drop (n+1)=r:=by
 have hlt:n<s.length:=by
  refine Classical.byContradiction fun hno => ?_
  rw[List.drop_eq_nil_of_le (by omega)]at h;cases h
 have h1:s.drop n=s[n]::s.drop (n+1):=by rw[List.drop_eq_getElem_cons hlt]
 rw[h1]at h
 injection h with h2 h3
 exact⟨hlt,fun d=>by simp[List.getD,hlt,h2],h3⟩
theorem J5z{α : Type}(s:List α)(n:Nat): cut s (n:Int) (s.length:Int)=s.drop n:=by simp[cut]
theorem J12{α : Type}(s:List α)(n:Nat): cut s 0 (n:Int)=s.take n:=by simp[cut]
end
section
open Go
abbrev Pce:=Int×(Int×(Int×(List UInt8×Bool)))
abbrev Nd:=Int×(Int×(List UInt8×(Bool×(List (List UInt8)×List Int))))
abbrev kPc:Kd := .pr (.int .i64) (.pr (.int .i64) (.pr (.int .i64) (.pr .str .bool)))
abbrev kNd:Kd := .pr (.int .i64) (.pr (.int .i64) (.pr .str (.pr .bool (.pr (.sl .str) (.sl (.int .i64))))))
def Qt(t:List UInt8): List (List UInt8)->Bool
 |[]=>false
 |q::r=>(t == q) || Qt t r
def Zl(l:List Pce)(kd col:Int): Bool :=
 match l with
 |[]=>false
 |x::_=>(x.1 == kd)&&(x.2.2.1 == col)
def J09(l:List Pce)(col:Int): Bool :=
 match l with
 |[]=>false
 |y::_=>decide (col<y.2.2.1)
abbrev RsD:=(Int×Int) ⊕ (List Pce×List Nd)
mutual
def Uh:Nat->List Pce->List Nd->Nat->RsD
 |0,_,_,_ => .inl (0,0)
 |_+1,[],_,_ => .inl (0,0)
 |f+1,x::r,nd,d=>bif decide (x.1<1) || decide (x.1>3)then .inl (6,x.2.1)else bif decide (24<d)then .inl (8,x.2.1)else bif decide (2000≤nd.length)then .inl (9,x.2.1)else
  bif x.1 == 3 then .inr (r,nd++[(1,x.2.1,x.2.2.2.1,x.2.2.2.2,[],[])])
  else kidsS f x.1 x.2.1 x.2.2.1 nd.length d (x::r) (nd++[(0,x.2.1,[],false,[],[])]) [] []
def kidsS:Nat->Int->Int->Int->Nat->Nat->List Pce->List Nd->List (List UInt8)->List Int->RsD
 |0,_,_,_,_,_,_,_,_,_ => .inl (0,0)
 |f+1,kd,ln,col,n,d,l,nd,keys,kids=>bif Zl l kd col then(match l with
  |[] => .inl (0,0)
  |x::r=>bif kd == 2&&Qt x.2.2.2.1 keys then .inl (7,x.2.1)else bif J09 r x.2.2.1 then(match Uh f r nd (d+1)with
   |.inl e => .inl e
   |.inr (l',nd')=>kidsS f kd ln col n d l' nd' (bif kd == 2 then keys++[x.2.2.2.1]else keys) (kids++[(nd.length:Int)]))
   else .inl (10,x.2.1))
  else .inr (l,nd.set n (bif kd == 2 then 3 else 2,ln,[],false,keys,kids))
end
theorem Jap(f:Nat)(kd ln col:Int)(n d:Nat)(l:List Pce)(nd:List Nd)(keys:List (List UInt8))(kids:List Int): kidsS (f+1) kd ln col n d l nd keys kids=bif Zl l kd col then(match l with
 |[] => .inl (0,0)
 |x::r=>bif kd == 2&&Qt x.2.2.2.1 keys then .inl (7,x.2.1)else bif J09 r x.2.2.1 then(match Uh f r nd (d+1)with
  |.inl e => .inl e
  |.inr (l',nd')=>kidsS f kd ln col n d l' nd' (bif kd == 2 then keys++[x.2.2.2.1]else keys) (kids++[(nd.length:Int)]))
  else .inl (10,x.2.1))
 else .inr (l,nd.set n (bif kd == 2 then 3 else 2,ln,[],false,keys,kids)):=by rw[kidsS.eq_def]
theorem JeY{l:List Pce}{kd col:Int}(h:Zl l kd col=true): ∃ x r,l=x::r∧x.1=kd∧x.2.2.1=col:=by
 cases l with
 |nil=>cases h
 |cons x r =>
  simp only[Zl,Bool.and_eq_true]at h
  exact⟨x,r,rfl,eq_of_beq h.1,eq_of_beq h.2⟩
theorem JIc{nd nd':List Nd}{n m:Nat}(h:nd'.take m=nd)(hm:nd.length=m)(hn:n≤m): nd'.take n=nd.take n:=by
 rw[←h,List.take_take,Nat.min_eq_left hn]
theorem JlG:∀ f:Nat,
 (∀ l nd d l' nd',Uh f l nd d = .inr (l',nd')->nd.length≤2000->l'.length<l.length∧nd.length<nd'.length∧nd'.length≤2000∧nd'.take nd.length=nd) ∧
 (∀ kd ln col n d l nd keys kids l' nd',kidsS f kd ln col n d l nd keys kids = .inr (l',nd')->n<nd.length->nd.length≤2000->l'.length≤l.length∧nd.length≤nd'.length∧nd'.length≤2000∧nd'.take n=nd.take n∧(Zl l kd col=true->l'.length<l.length)):=by
 intro f
 induction f with
 |zero=>exact⟨fun l nd d l' nd' h=>(by rw[Uh]at h;cases h),fun kd ln col n d l nd keys kids l' nd' h=>(by rw[kidsS]at h;cases h)⟩
 |succ f ih =>
  obtain⟨ihb,ihk⟩:=ih
  constructor
  ·intro l nd d l' nd' h hl
   cases l with
   |nil=>rw[Uh]at h;cases h
   |cons x r =>
    rw[Uh]at h
    cases h1:(decide (x.1<1) || decide (x.1>3))with
    |true=>rw[h1,cond_true]at h;cases h
    |false =>
     rw[h1,cond_false]at h
     cases h2:decide (24<d)with
     |true=>rw[h2,cond_true]at h;cases h
     |false =>
      rw[h2,cond_false]at h
      by_cases h3:2000≤nd.length
      ·rw[J1 h3,cond_true]at h;cases h
      ·rw[J2 h3,cond_false]at h
       cases h4:x.1 == 3 with
       |true =>
        rw[h4,cond_true]at h
        cases h
        refine⟨by simp,by simp,by simp;omega,by simp⟩
       |false =>
        rw[h4,cond_false]at h
        obtain⟨g1,g2,g3,g4,g5⟩:=ihk _ _ _ _ _ _ _ _ _ _ _ h (by simp) (by simp;omega)
        have hn:Zl (x::r) x.1 x.2.2.1=true:=by simp[Zl]
        refine⟨g5 hn,by simp at g2;omega,g3,by rw[g4];simp⟩
  ·intro kd ln col n d l nd keys kids l' nd' h hn hl
   rw[Jap]at h
   cases h1:Zl l kd col with
   |false =>
    rw[h1,cond_false]at h
    cases h
    exact⟨Nat.le_refl _,by simp,by simpa using hl,by rw[List.take_set_of_le (Nat.le_refl _)],fun hh=>by cases hh⟩
   |true =>
    obtain⟨x,r,rfl,_,_⟩:=JeY h1
    rw[h1,cond_true]at h
    dsimp only at h
    cases h2:(kd == 2&&Qt x.2.2.2.1 keys)with
    |true=>rw[h2,cond_true]at h;cases h
    |false =>
     rw[h2,cond_false]at h
     cases h3:J09 r x.2.2.1 with
     |false=>rw[h3,cond_false]at h;cases h
     |true =>
      rw[h3,cond_true]at h
      cases hb:Uh f r nd (d+1)with
      |inl e=>rw[hb]at h;cases h
      |inr p =>
       obtain⟨l1,nd1⟩:=p
       rw[hb]at h
       dsimp only at h
       obtain⟨b1,b2,b3,b4⟩:=ihb _ _ _ _ _ hb hl
       obtain⟨g1,g2,g3,g4,_⟩:=ihk _ _ _ _ _ _ _ _ _ _ _ h (by omega) b3
       have e:=JIc b4 rfl (Nat.le_of_lt hn)
       refine⟨by simp;omega,by omega,g3,by rw[g4,e],fun _=>by simp;omega⟩
def Jgp{R:Type}(K:List Pce->List Nd->Option R)(E:Int->Int->Option R): RsD->Option R
 |.inl e=>E e.1 e.2
 |.inr p=>K p.1 p.2
theorem JaC{α : Type}(x : α)(r:List α): inb 0 ((x::r).length:Int)=true:=Ja (by omega) (by simp<;>omega)
theorem JrW(k:Nat){R:Type}(l:List Pce)(nd:List Nd)(kd col:Int)(K:List Pce->List Nd->Bool->Option R): J75 k l nd kd col K=K l nd (Zl l kd col):=by
 unfold J75 JoD
 cases l with
 |nil=>rfl
 |cons x r =>
  have h1:decide (((x::r).length:Int)>0)=true:=J1 (by simp<;>omega)
  have h2:=JaC x r
  simp only[h1,h2,Bool.or_true,cond_true]
  have:∀ z,(x::r).getD (Int.toNat 0) z=x:=fun _=>rfl
  simp only[this,Zl]
  cases x.1 == kd<;>rfl
theorem Jkp(k:Nat){R:Type}(x:Pce)(r:List Pce)(nd:List Nd)(hr:r.length≤100000)(K:List Pce->List Nd->Int->Int->Int->List UInt8->Bool->Option R): J4v k (x::r) nd K=K r nd x.1 x.2.1 x.2.2.1 x.2.2.2.1 x.2.2.2.2:=by
 unfold J4v JoG
 have h2:=JaC x r
 have h3:bnd 1 ((x::r).length:Int) ((x::r).length:Int)=true:=Jg (by omega) (by simp;omega) (by omega)
 have h4:cut (x::r) 1 ((x::r).length:Int)=r:=by simp[cut]
 have h5:∀ z,(x::r).getD (Int.toNat 0) z=x:=fun _=>rfl
 simp only[h2,h3,h4,h5,cond_true]
theorem JGa(k:Nat){R:Type}(keys:List (List UInt8))(hk:keys.length≤1000000)(t:List UInt8)(K:Int->Option R)(b:Bool->Option R)(hb:∀ i:Int,K i=b (decide (i≥0))): ∀(n:Nat) (q:List (List UInt8)) (i:Nat),keys.drop i=q->i≤keys.length->q.length<n ->
 J1U k n keys t (keys.length:Int) (i:Int) K=b (Qt t q):=by
 intro n
 induction n with
 |zero=>intro q i _ _ h;omega
 |succ n ih =>
  intro q i hq hi hn
  rw[J1U]
  unfold J9d
  cases q with
  |nil =>
   have:=JE hq
   have hd:decide ((i:Int)<(keys.length:Int))=false:=J2 (by omega)
   rw[hd,cond_false,hb];rfl
  |cons c q =>
   obtain⟨h1,h2,h3⟩:=Jz hq
   simp(disch:=omega)only[J1,Ja,cond_true,h2,Jb,J8,Q4]
   rw[Qt]
   cases hc:t == c with
   |true =>
    rw[cond_true,hb,Bool.true_or]
    have:decide ((i:Int)≥0)=true:=J1 (by omega)
    rw[this]
   |false =>
    rw[cond_false,Bool.false_or]
    exact ih q (i+1) h3 (by omega) (by simp at hn;omega)
theorem JFd(k:Nat){R:Type}(keys:List (List UInt8))(hk:keys.length≤1000000)(hk2:keys.length<k)(t:List UInt8)(K:Bool->Option R): J2Q k keys t K=K (Qt t keys):=by
 unfold J2Q JgF J2R JbH
 exact JGa k keys hk t _ K (fun _=>rfl) k keys 0 rfl (by omega) hk2
theorem J8T{T R:Type}(x:T)(f:T->Option R): SH x f=f x:=rfl
theorem Jre(k:Nat){R:Type}(r:List Pce)(nd:List Nd)(a ln col:Int)(t:List UInt8)(q:Bool)(d:Nat)(hd:d≤1000)(K:List Pce->List Nd->Int->Option R)(E:Int->Int->Option R):
 FR_doc_parser_under (k+1) R r nd a ln col t q (d:Int) K (fun _ _ a b=>E a b)=bif J09 r col then U8 k R r nd ((d+1:Nat):Int) K (fun _ _ a b=>E a b)else E 10 ln:=by
 rw[FR_doc_parser_under]
 unfold JhF
 have hw:IntKind.i64.wrap ((d:Int)+1)=((d+1:Nat):Int):=by rw[J8 (by omega) (by omega)];omega
 cases r with
 |nil=>rfl
 |cons y r =>
  have h1:((((y::r).length:Nat):Int) == 0)=false:=Jh (by simp;omega)
  have h2:=JaC y r
  have h5:∀ z,(y::r).getD (Int.toNat 0) z=y:=fun _=>rfl
  simp only[h1,h2,h5,hw,Bool.or_true,cond_true,cond_false,J09]
  by_cases h:y.2.2.1≤col
  ·rw[J1 h,J2 (by omega)];rfl
  ·rw[J2 h,J1 (by omega)];rfl
theorem Jmd{nd nd':List Nd}{n:Nat}(h:nd'.take nd.length=nd)(hn:n<nd.length)(z:Nd): nd'.getD n z=nd.getD n z:=by
 have:nd[n]? = nd'[n]? := by
  conv=>lhs;rw[←h]
  rw[List.getElem?_take,if_pos hn]
 rw[List.getD,List.getD,this]
theorem Jjo{nd:List Nd}{n:Nat}(hn:n<nd.length)(x z:Nd): (nd.set n x).getD n z=x:=by
 rw[List.getD,List.getElem?_set_self hn];rfl
theorem JId{R:Type}: ∀(f k:Nat),3*f+20100≤k ->
 (∀(l:List Pce) (nd:List Nd) (d:Nat) (K:List Pce->List Nd->Int->Option R) (E:Int->Int->Option R),l≠[]->2*l.length+2≤f->l.length≤20000->nd.length≤2000->d≤25 ->
  U8 k R l nd (d:Int) K (fun _ _ a b=>E a b)=Jgp (fun l' nd'=>K l' nd' (nd.length:Int)) E (Uh f l nd d)) ∧
 (∀(m:Nat) (l:List Pce) (nd:List Nd) (ln col:Int) (n d:Nat) (kids:List Int) (K:List Pce->List Nd->Option R) (E:Int->Int->Option R),f≤m->2*l.length+1≤f->l.length+kids.length≤20001->nd.length≤2000->d≤24->n<nd.length->(∀ z,nd.getD n z=(0,ln,[],false,[],[])) ->
  J6u k (U8 k) (FR_doc_parser_list k) (FR_doc_parser_pairs k) (FR_doc_parser_under k) m l nd (n:Int) col (d:Int) kids K (fun _ _ a b=>E a b)=Jgp K E (kidsS f 1 ln col n d l nd [] kids)) ∧
 (∀(m:Nat) (l:List Pce) (nd:List Nd) (ln col:Int) (n d:Nat) (keys:List (List UInt8)) (kids:List Int) (K:List Pce->List Nd->Option R) (E:Int->Int->Option R),f≤m->2*l.length+1≤f->l.length+kids.length≤20001->l.length+keys.length≤20001->nd.length≤2000->d≤24->n<nd.length->(∀ z,nd.getD n z=(0,ln,[],false,[],[])) ->
  J6r k (U8 k) (FR_doc_parser_list k) (FR_doc_parser_pairs k) (FR_doc_parser_under k) m l nd (n:Int) col (d:Int) keys kids K (fun _ _ a b=>E a b)=Jgp K E (kidsS f 2 ln col n d l nd keys kids)):=by
 intro f
 induction f with
 |zero=>exact fun k hk=>⟨fun l nd d K E hl h=>(by omega),fun m l nd ln col n d kids K E _ h=>(by omega),fun m l nd ln col n d keys kids K E _ h=>(by omega)⟩
 |succ f ih =>
  intro k hk
  refine⟨?_,?_,?_⟩
  ·intro l nd d K E hl hf hl3 hnd hd
   obtain⟨k1,rfl⟩:∃ k1,k=k1+1+1:=⟨k-2,by omega⟩
   cases l with
   |nil=>exact absurd rfl hl
   |cons x r =>
    rw[U8]
    unfold JhE
    have h2:=JaC x r
    have h5:∀ z,(x::r).getD (Int.toNat 0) z=x:=fun _=>rfl
    have hg:∀(a b:Int) (E':Int->Int->Option R),J0q (k1+1) a b E'=E' a b:=fun _ _ _=>rfl
    simp only[h2,h5,hg,cond_true,J8T]
    rw[Uh]
    have c1:(bif decide (x.1<1)then true else decide (x.1>3))=(decide (x.1<1) || decide (x.1>3)):=by cases decide (x.1<1)<;>rfl
    rw[c1]
    cases h1:(decide (x.1<1) || decide (x.1>3))with
    |true=>rfl
    |false =>
     rw[cond_false,cond_false]
     by_cases hd24:24<d
     ·rw[J1 hd24,J1 (by omega:(d:Int)>24)];rfl
     ·rw[J2 hd24,J2 (by omega:¬ (d:Int)>24),cond_false,cond_false]
      by_cases h3:2000≤nd.length
      ·rw[J1 h3,J1 (by omega:(nd.length:Int)≥2000)];rfl
      ·have hf1:∀ z:Nd,Ju nd.length [z].length 88=true:=fun z=>Yc (by simp;omega) (by simp;omega)
       rw[J2 h3,J2 (by omega:¬ (nd.length:Int)≥2000),cond_false,cond_false,hf1,cond_true]
       cases h4:x.1 == 3 with
       |true =>
        have hi:inb (nd.length:Int) ((nd++[((0:Int),(x.2.1,(([]:List UInt8),(false,(([]:List (List UInt8)),([]:List Int))))))]).length:Int)=true:=Ja (by omega) (by simp;omega)
        rw[cond_true,cond_true,Jkp _ x r _ (by simp at hl3;omega),hi,cond_true]
        have:∀ y z:Nd,(nd++[y]).set (nd.length:Int).toNat z=nd++[z]:=by intro y z;simp
        rw[this];rfl
       |false =>
        rw[cond_false,cond_false]
        have hx0:∀ z,(nd++[((0:Int),(x.2.1,(([]:List UInt8),(false,(([]:List (List UInt8)),([]:List Int))))))]).getD nd.length z=(0,x.2.1,[],false,[],[]):=by intro z;simp[List.getD]
        obtain⟨_,ihl,ihp⟩:=ih k1 (by omega)
        have hlen:2*(x::r).length+1≤f:=by omega
        cases h6:x.1 == 1 with
        |true =>
         have e1:=eq_of_beq h6
         rw[cond_true,FR_doc_parser_list]
         unfold Jdn
         have:=ihl k1 (x::r) (nd++[(0,x.2.1,[],false,[],[])]) x.2.1 x.2.2.1 nd.length d [] (fun l' nd'=>K l' nd' (nd.length:Int)) E (by omega) hlen (by simp at hl3 ⊢;omega) (by simp;omega) (by omega) (by simp) hx0
         rw[e1]
         exact this
        |false =>
         have e1:x.1=2:=by
          simp only[Bool.or_eq_false_iff,decide_eq_false_iff_not]at h1
          have n1:x.1≠3:=by simpa using h4
          have n2:x.1≠1:=by simpa using h6
          omega
         rw[cond_false,FR_doc_parser_pairs]
         unfold JcY
         have:=ihp k1 (x::r) (nd++[(0,x.2.1,[],false,[],[])]) x.2.1 x.2.2.1 nd.length d [] [] (fun l' nd'=>K l' nd' (nd.length:Int)) E (by omega) hlen (by simp at hl3 ⊢;omega) (by simp at hl3 ⊢;omega) (by simp;omega) (by omega) (by simp) hx0
         rw[e1]
         exact this
  ·intro m l nd ln col n d kids K E hm hf hlk hnd hd hn hz
   obtain⟨m,rfl⟩:∃ m',m=m'+1:=⟨m-1,by omega⟩
   obtain⟨k1,rfl⟩:∃ k1,k=k1+1:=⟨k-1,by omega⟩
   rw[J6u]
   unfold JgW
   rw[JrW,Jap]
   cases h1:Zl l 1 col with
   |false =>
    have hi:inb (n:Int) (nd.length:Int)=true:=Ja (by omega) (by omega)
    have hi2:∀ y:Nd,inb (n:Int) ((nd.set n y).length:Int)=true:=fun y=>Ja (by omega) (by rw[List.length_set];omega)
    simp only[cond_false,hi,hi2,cond_true,J8T,Jb,hz,Jjo hn,List.set_set]
    rfl
   |true =>
    obtain⟨x,r,rfl,hx1,hx2⟩:=JeY h1
    simp only[List.length_cons]at hf hlk
    have hc1:((1:Int) == 2&&Qt x.2.2.2.1 [])=false:=rfl
    rw[cond_true,cond_true,Jkp _ x r _ (by omega)]
    dsimp only
    rw[hc1,cond_false]
    rw[Jre k1 r nd x.1 x.2.1 x.2.2.1 x.2.2.2.1 x.2.2.2.2 d (by omega)]
    cases h3:J09 r x.2.2.1 with
    |false=>rfl
    |true =>
     rw[cond_true,cond_true]
     have hr0:r≠[]:=fun e=>by subst e;cases h3
     rw[(ih k1 (by omega)).1 r nd (d+1) _ E hr0 (by omega) (by omega) hnd (by omega)]
     cases hb:Uh f r nd (d+1)with
     |inl e=>rfl
     |inr p =>
      obtain⟨l',nd'⟩:=p
      obtain⟨b1,b2,b3,b4⟩:=(JlG f).1 _ _ _ _ _ hb hnd
      have hf8:Ju kids.length [(nd.length:Int)].length 8=true:=Yc (by simp;omega) (by simp;omega)
      show(bif Ju kids.length [(nd.length:Int)].length 8 then _ else none)=_
      rw[hf8,cond_true]
      exact(ih (k1+1) (by omega)).2.1 m l' nd' ln col n d _ K E (by omega) (by omega) (by simp;omega) b3 hd (by omega) (fun z=>by rw[Jmd b4 hn];exact hz z)
  ·intro m l nd ln col n d keys kids K E hm hf hlk hlk2 hnd hd hn hz
   obtain⟨m,rfl⟩:∃ m',m=m'+1:=⟨m-1,by omega⟩
   obtain⟨k1,rfl⟩:∃ k1,k=k1+1:=⟨k-1,by omega⟩
   rw[J6r]
   unfold JgS
   rw[JrW,Jap]
   cases h1:Zl l 2 col with
   |false =>
    have hi:inb (n:Int) (nd.length:Int)=true:=Ja (by omega) (by omega)
    simp only[cond_false,hi,cond_true,J8T,Jb,hz,Jjo hn,List.set_set]
    rfl
   |true =>
    obtain⟨x,r,rfl,hx1,hx2⟩:=JeY h1
    simp only[List.length_cons]at hf hlk hlk2
    have hc1:((2:Int) == 2&&Qt x.2.2.2.1 keys)=Qt x.2.2.2.1 keys:=rfl
    rw[cond_true,cond_true,Jkp _ x r _ (by omega)]
    dsimp only
    rw[hc1,JFd _ keys (by omega) (by omega)]
    cases h2:Qt x.2.2.2.1 keys with
    |true=>rfl
    |false =>
     have hf16:Ju keys.length [x.2.2.2.1].length 16=true:=Yc (by simp;omega) (by simp;omega)
     rw[cond_false,cond_false,hf16,cond_true]
     rw[Jre k1 r nd x.1 x.2.1 x.2.2.1 x.2.2.2.1 x.2.2.2.2 d (by omega)]
     cases h3:J09 r x.2.2.1 with
     |false=>rfl
     |true =>
      rw[cond_true,cond_true]
      have hr0:r≠[]:=fun e=>by subst e;cases h3
      rw[(ih k1 (by omega)).1 r nd (d+1) _ E hr0 (by omega) (by omega) hnd (by omega)]
      cases hb:Uh f r nd (d+1)with
      |inl e=>rfl
      |inr p =>
       obtain⟨l',nd'⟩:=p
       obtain⟨b1,b2,b3,b4⟩:=(JlG f).1 _ _ _ _ _ hb hnd
       have hf8:Ju kids.length [(nd.length:Int)].length 8=true:=Yc (by simp;omega) (by simp;omega)
       show(bif Ju kids.length [(nd.length:Int)].length 8 then _ else none)=_
       rw[hf8,cond_true]
       exact(ih (k1+1) (by omega)).2.2 m l' nd' ln col n d _ _ K E (by omega) (by omega) (by simp;omega) (by simp;omega) b3 hd (by omega) (fun z=>by rw[Jmd b4 hn];exact hz z)
end
section
open Go
abbrev RK(R:Type):= List Pce->Int->List Nd->Int->Int->Int->Option R
def Jnk{R:Type}(V:Option R)(K:RK R)(L:List Pce)(nd:List Nd)(n:Int): RsD->Prop
 |.inl e=>e.1≠0∧∃(a:Nat) (nd':List Nd) (z:Int),nd.length≤nd'.length∧V=K L (a:Int) nd' e.1 e.2 z
 |.inr p=>∃ a:Nat,L.drop a=p.1∧a≤L.length∧V=K L (a:Int) p.2 0 0 n
theorem JaN(k:Nat){R:Type}(L:List Pce)(a:Int)(nd:List Nd)(y kd ln:Int)(K:List Pce->Int->List Nd->Int->Int->Option R): J1o k L a nd 0 y kd ln K=K L a nd kd ln:=rfl
theorem JaD{L l:List Pce}{x:Pce}{a:Nat}(h:L.drop a=x::l): inb (a:Int) (L.length:Int)=true∧(∀ z,L.getD a z=x)∧L.drop (a+1)=l∧a<L.length:=by
 obtain⟨h1,h2,h3⟩:=Jz h
 exact⟨Ja (by omega) (by omega),h2,h3,h1⟩
theorem JEe(k:Nat){R:Type}(L r:List Pce)(a:Nat)(hr:L.drop a=r)(ha:a≤L.length)(nd:List Nd)(kd ln col:Int)(t:List UInt8)(q:Bool)(d:Nat)(hd:d≤1000)(K:RK R):
 FR_ref10_reader_under (k+1) R L (a:Int) nd 0 0 kd ln col t q (d:Int) K=bif J09 r col then Ut k R L (a:Int) nd 0 0 ((d+1:Nat):Int) K else K L (a:Int) nd 10 ln 0:=by
 rw[FR_ref10_reader_under]
 unfold Jh8
 have hw:IntKind.i64.wrap ((d:Int)+1)=((d+1:Nat):Int):=by rw[J8 (by omega) (by omega)];omega
 cases r with
 |nil =>
  have:=JE hr
  have h1:decide ((a:Int)≥(L.length:Int))=true:=J1 (by omega)
  simp only[h1,J09,JaN,cond_true,cond_false]
  rfl
 |cons y r =>
  obtain⟨h1,h2,h3,h4⟩:=JaD hr
  have h5:decide ((a:Int)≥(L.length:Int))=false:=J2 (by omega)
  simp only[h1,h5,h2,hw,Bool.or_true,cond_true,cond_false,J09,Jb,JaN]
  by_cases h:y.2.2.1≤col
  ·rw[J1 h,J2 (by omega)];rfl
  ·rw[J2 h,J1 (by omega)];rfl
theorem JGV(k:Nat){R:Type}(X1)(X2)(J:List Pce->Int->List Nd->Int->Int->Int->Int->Int->Int->List UInt8->Bool->Int->List (List UInt8)->List Int->Option R)(K:RK R)(L:List Pce)(a:Int)(nd:List Nd)(s5 s6 s7 s8:Int)(s9:List UInt8)(s10:Bool)(s11:Int)(keys:List (List UInt8))(hk:keys.length≤100000)(kids:List Int)(s14 s15 s16:Int)(t:List UInt8)(s18:Bool):
 ∀(n:Nat) (q:List (List UInt8)) (i:Nat),keys.drop i=q->i≤keys.length->q.length<n ->
 J41 k X1 X2 J n L a nd 0 0 s5 s6 s7 s8 s9 s10 s11 keys kids s14 s15 s16 t s18 (i:Int) K =
  bif Qt t q then K L a nd 7 s15 0 else X2 R L a nd 0 0 s14 s15 s16 t s18 s5 fun y25 y26 y27 y28 y29 y30=>bif Ju kids.length [y30].length 8 then J y25 y26 y27 y28 y29 s5 s6 s7 s8 s9 s10 s11 (keys++[t]) (kids++[y30])else none:=by
 intro n
 induction n with
 |zero=>intro q i _ _ h;omega
 |succ n ih =>
  intro q i hq hi hn
  rw[J41]
  unfold JgN
  cases q with
  |nil =>
   have:=JE hq
   have hd:decide ((i:Int)<(keys.length:Int))=false:=J2 (by omega)
   have hf:Ju keys.length [t].length 16=true:=Yc (by simp;omega) (by simp;omega)
   rw[hd,cond_false,hf,cond_true];rfl
  |cons c q =>
   obtain⟨h1,h2,h3⟩:=Jz hq
   simp(disch:=omega)only[J1,Ja,cond_true,h2,Jb,J8,Q4,JaN]
   rw[Qt]
   have hsym:(c == t)=(t == c):=by
    cases h:t == c with
    |true=>rw[eq_of_beq h];simp
    |false =>
     have:t≠c:=by simpa using h
     simpa using Ne.symm this
   rw[hsym]
   cases hc:t == c with
   |true=>rw[cond_true,Bool.true_or,cond_true]
   |false =>
    rw[cond_false,Bool.false_or]
    exact ih q (i+1) h3 (by omega) (by simp at hn;omega)
theorem JrX(k:Nat){R:Type}(X1)(X2)(K:RK R)(L:List Pce)(a:Nat)(nd:List Nd)(f1 f2:Int)(hf:f1≠0)(s5 kd ln col:Int)(t:List UInt8)(q:Bool)(n:Nat)(hn:n<nd.length)(keys:List (List UInt8))(kids:List Int)(m:Nat):
 ∃ nd' z,nd.length≤nd'.length∧J0f k X1 X2 (m+1) L (a:Int) nd f1 f2 s5 kd ln col t q (n:Int) keys kids K=K L (a:Int) nd' f1 f2 z:=by
 rw[J0f]
 unfold J9f
 have h0:(f1 == 0)=false:=by simpa using hf
 have hi:inb (n:Int) (nd.length:Int)=true:=Ja (by omega) (by omega)
 have hi2:∀ y:Nd,inb (n:Int) ((nd.set n y).length:Int)=true:=fun y=>Ja (by omega) (by rw[List.length_set];omega)
 have g1:(!decide ((a:Int)<(L.length:Int)) == true || inb (a:Int) (L.length:Int))=true:=by
  by_cases h:(a:Int)<(L.length:Int)
  ·rw[Ja (by omega) h,Bool.or_true]
  ·rw[J2 h];rfl
 have g2:∀ b:Bool,(!(bif decide ((a:Int)<(L.length:Int))then b else false) == true || inb (a:Int) (L.length:Int))=true:=by
  intro b
  by_cases h:(a:Int)<(L.length:Int)
  ·rw[Ja (by omega) h,Bool.or_true]
  ·rw[J2 h];rfl
 have g3:∀ b:Bool,(bif b then(f1 == 0)else false)=false:=by intro b;rw[h0];cases b<;>rfl
 simp only[g1,g2,g3,hi,hi2,cond_true,cond_false,J8T,Jb,List.set_set]
 cases kd == 2 with
 |true=>exact⟨_,_,by simp,rfl⟩
 |false=>exact⟨_,_,by simp,rfl⟩
theorem JIe{R:Type}(L:List Pce)(hL:L.length≤20000): ∀(f k:Nat),3*f+20100≤k ->
 (∀(l:List Pce) (nd:List Nd) (d a:Nat) (K:RK R),L.drop a=l->a≤L.length->l≠[]->2*l.length+2≤f->nd.length≤2000->d≤25 ->
  Jnk (Ut k R L (a:Int) nd 0 0 (d:Int) K) K L nd (nd.length:Int) (Uh f l nd d)) ∧
 (∀(m:Nat) (l:List Pce) (nd:List Nd) (kd ln col:Int) (n d a:Nat) (t:List UInt8) (q:Bool) (keys:List (List UInt8)) (kids:List Int) (K:RK R),f≤m->2*l.length+1≤f->L.drop a=l->a≤L.length->l.length+kids.length≤20001->l.length+keys.length≤20001->nd.length≤2000->d≤24->n<nd.length ->
  (kd=1∧keys=[]∨kd=2)->(∀ z,nd.getD n z=(0,ln,[],false,[],[])) ->
  Jnk (J0f k (Ut k) (FR_ref10_reader_under k) m L (a:Int) nd 0 0 (d:Int) kd ln col t q (n:Int) keys kids K) K L nd (n:Int) (kidsS f kd ln col n d l nd keys kids)):=by
 intro f
 induction f with
 |zero=>exact fun k hk=>⟨fun l nd d a K _ _ hl h=>(by omega),fun m l nd kd ln col n d a t q keys kids K _ h=>(by omega)⟩
 |succ f ih =>
  intro k hk
  refine⟨?_,?_⟩
  ·intro l nd d a K hla ha hl hf hnd hd
   obtain⟨k1,rfl⟩:∃ k1,k=k1+1:=⟨k-1,by omega⟩
   cases l with
   |nil=>exact absurd rfl hl
   |cons x r =>
    obtain⟨i1,g1,g2,g3⟩:=JaD hla
    have hll:(x::r).length=L.length-a:=by rw[←hla,List.length_drop]
    rw[Ut]
    unfold Jcs
    simp only[i1,g1,Jb,cond_true,J8T,JaN]
    rw[Uh]
    have c1:(bif bif x.1 != 3 then x.1 != 1 else false then x.1 != 2 else false)=(decide (x.1<1) || decide (x.1>3)):=by
     by_cases e3:x.1=3
     ·rw[e3];rfl
     ·by_cases e1:x.1=1
      ·rw[e1];rfl
      ·by_cases e2:x.1=2
       ·rw[e2];rfl
       ·have n3:(x.1 != 3)=true:=by simpa using e3
        have n1:(x.1 != 1)=true:=by simpa using e1
        have n2:(x.1 != 2)=true:=by simpa using e2
        rw[n3,n1,n2]
        by_cases hlt:x.1<1
        ·rw[J1 hlt];rfl
        ·rw[J2 hlt,J1 (by omega)];rfl
    rw[c1]
    cases h1:(decide (x.1<1) || decide (x.1>3))with
    |true=>exact⟨by show _≠(0:Int);simp,a,nd,0,Nat.le_refl _,rfl⟩
    |false =>
     rw[cond_false,cond_false]
     by_cases hd24:24<d
     ·rw[J1 hd24,J1 (by omega:(d:Int)>24)]
      exact⟨by show _≠(0:Int);simp,a,nd,0,Nat.le_refl _,rfl⟩
     ·rw[J2 hd24,J2 (by omega:¬ (d:Int)>24),cond_false,cond_false]
      by_cases h3:2000≤nd.length
      ·rw[J1 h3,J1 (by omega:(nd.length:Int)≥2000)]
       exact⟨by show _≠(0:Int);simp,a,nd,0,Nat.le_refl _,rfl⟩
      ·have hf1:∀ z:Nd,Ju nd.length [z].length 88=true:=fun z=>Yc (by simp;omega) (by simp;omega)
       rw[J2 h3,J2 (by omega:¬ (nd.length:Int)≥2000),cond_false,cond_false,hf1,cond_true]
       have hset:∀ y z:Nd,(nd++[y]).set nd.length z=nd++[z]:=by intro y z;simp
       have hget:∀ y z:Nd,(nd++[y]).getD nd.length z=y:=by intro y z;simp[List.getD]
       have hlen:∀ y:Nd,inb (nd.length:Int) ((nd++[y]).length:Int)=true:=fun y=>Ja (by omega) (by simp;omega)
       have hw:IntKind.i64.wrap ((a:Int)+1)=((a+1:Nat):Int):=by rw[J8 (by omega) (by omega)];omega
       cases h4:x.1 == 3 with
       |true =>
        simp only[cond_true,hlen,hset,hget,hw]
        exact⟨a+1,g2,by omega,rfl⟩
       |false =>
        rw[cond_false,cond_false]
        have hx0:∀ z,(nd++[((0:Int),(x.2.1,(([]:List UInt8),(false,(([]:List (List UInt8)),([]:List Int))))))]).getD nd.length z=(0,x.2.1,[],false,[],[]):=by intro z;simp[List.getD]
        have hkd:(x.1=1∧([]:List (List UInt8))=[]∨x.1=2):=by
         simp only[Bool.or_eq_false_iff,decide_eq_false_iff_not]at h1
         have n1:x.1≠3:=by simpa using h4
         by_cases e1:x.1=1
         ·exact .inl ⟨e1,rfl⟩
         ·exact .inr (by omega)
        have:=(ih k1 (by omega)).2 k1 (x::r) (nd++[(0,x.2.1,[],false,[],[])]) x.1 x.2.1 x.2.2.1 nd.length d a x.2.2.2.1 x.2.2.2.2 [] [] K (by omega) (by omega) hla ha (by simp at hll ⊢;omega) (by simp at hll ⊢;omega) (by simp;omega) (by omega) (by simp) hkd hx0
        revert this
        cases kidsS f x.1 x.2.1 x.2.2.1 nd.length d (x::r) (nd++[(0,x.2.1,[],false,[],[])]) [] []with
        |inl e =>
         rintro⟨e0,a',nd',z,hle,hv⟩
         exact⟨e0,a',nd',z,by simp at hle;omega,hv⟩
        |inr p=>exact fun h=>h
  ·intro m l nd kd ln col n d a t q keys kids K hm hf hla ha hlk hlk2 hnd hd hn hkd hz
   obtain⟨m,rfl⟩:∃ m',m=m'+1:=⟨m-1,by omega⟩
   obtain⟨k1,rfl⟩:∃ k1,k=k1+1:=⟨k-1,by omega⟩
   have hi:inb (n:Int) (nd.length:Int)=true:=Ja (by omega) (by omega)
   have hi2:∀ y:Nd,inb (n:Int) ((nd.set n y).length:Int)=true:=fun y=>Ja (by omega) (by rw[List.length_set];omega)
   rw[J0f]
   unfold J9f
   rw[Jap]
   have hsp:(bif kd == 2 then(3:Int)else 2)=if kd=2 then 3 else 2:=by
    by_cases e:kd=2
    ·rw[e];rfl
    ·have:(kd == 2)=false:=by simpa using e
     rw[this,if_neg e];rfl
   cases h1:Zl l kd col with
   |false =>
    have c0:(!decide ((a:Int)<(L.length:Int)) == true || inb (a:Int) (L.length:Int))=true:=by
     by_cases h:(a:Int)<(L.length:Int)
     ·rw[Ja (by omega) h,Bool.or_true]
     ·rw[J2 h];rfl
    have c2:∀ b:Bool,(!(bif decide ((a:Int)<(L.length:Int))then b else false) == true || inb (a:Int) (L.length:Int))=true:=by
     intro b
     by_cases h:(a:Int)<(L.length:Int)
     ·rw[Ja (by omega) h,Bool.or_true]
     ·rw[J2 h];rfl
    have c3:(bif bif bif decide ((a:Int)<(L.length:Int))then(L.getD a (Kd.zero kPc)).1 == kd else false then(L.getD a (Kd.zero kPc)).2.2.1 == col else false then(0:Int) == 0 else false)=false:=by
     cases l with
     |nil =>
      have:=JE hla
      rw[J2 (by omega)];rfl
     |cons x r =>
      obtain⟨i1,g1,g2,g3⟩:=JaD hla
      rw[J1 (by omega),cond_true,g1]
      simp only[Zl,Bool.and_eq_false_iff]at h1
      rcases h1 with h1|h1<;>rw[h1]
      ·rfl
      ·cases x.1 == kd<;>rfl
    simp only[c0,c2,Jb,c3,cond_true,cond_false,hi,hi2,J8T,hz,Jjo hn,List.set_set]
    rcases hkd with⟨rfl,rfl⟩|rfl
    ·exact⟨a,hla,ha,rfl⟩
    ·exact⟨a,hla,ha,rfl⟩
   |true =>
    obtain⟨x,r,rfl,hx1,hx2⟩:=JeY h1
    obtain⟨i1,g1,g2,g3⟩:=JaD hla
    simp only[List.length_cons]at hf hlk hlk2
    have hrl:r.length=L.length-(a+1):=by rw[←g2,List.length_drop]
    have d1:decide ((a:Int)<(L.length:Int))=true:=J1 (by omega)
    have hw:IntKind.i64.wrap ((a:Int)+1)=((a+1:Nat):Int):=by rw[J8 (by omega) (by omega)];omega
    have q1:(x.1 == kd)=true:=by rw[hx1];simp
    have q2:(x.2.2.1 == col)=true:=by rw[hx2];simp
    have q3:((0:Int) == 0)=true:=rfl
    obtain⟨m1,rfl⟩:∃ m1,m=m1+1:=⟨m-1,by omega⟩
    simp only[d1,i1,g1,Jb,q1,q2,q3,hw,Bool.or_true,cond_true]
    have tail:∀ keys',(kd=1∧keys'=[]∨kd=2)->r.length+keys'.length≤20001 ->
     Jnk (FR_ref10_reader_under (k1+1) R L ((a+1:Nat):Int) nd 0 0 x.1 x.2.1 x.2.2.1 x.2.2.2.1 x.2.2.2.2 (d:Int) fun y19 y20 y21 y22 y23 y24=>bif Ju kids.length [y24].length 8 then J0f (k1+1) (Ut (k1+1)) (FR_ref10_reader_under (k1+1)) (m1+1) y19 y20 y21 y22 y23 (d:Int) kd ln col t q (n:Int) keys' (kids++[y24]) K else none) K L nd (n:Int)
      (bif J09 r x.2.2.1 then(match Uh f r nd (d+1)with
       |.inl e => .inl e
       |.inr (l',nd')=>kidsS f kd ln col n d l' nd' keys' (kids++[(nd.length:Int)]))
      else .inl (10,x.2.1)):=by
     intro keys' hk' hl'
     rw[JEe k1 L r (a+1) g2 (by omega) nd _ _ _ _ _ d (by omega)]
     have hf8:∀ z:Int,Ju kids.length [z].length 8=true:=fun z=>Yc (by simp;omega) (by simp;omega)
     cases h3:J09 r x.2.2.1 with
     |false =>
      rw[cond_false,cond_false,hf8,cond_true]
      obtain⟨nd',z,e1,e2⟩:=JrX (k1+1) (Ut (k1+1)) (FR_ref10_reader_under (k1+1)) K L (a+1) nd 10 x.2.1 (by decide) (d:Int) kd ln col t q n hn keys' (kids++[0]) m1
      exact⟨by show _≠(0:Int);simp,a+1,nd',z,e1,e2⟩
     |true =>
      rw[cond_true,cond_true]
      have hr0:r≠[]:=fun e=>by subst e;cases h3
      have hb:=(ih k1 (by omega)).1 r nd (d+1) (a+1) (fun y19 y20 y21 y22 y23 y24=>bif Ju kids.length [y24].length 8 then J0f (k1+1) (Ut (k1+1)) (FR_ref10_reader_under (k1+1)) (m1+1) y19 y20 y21 y22 y23 (d:Int) kd ln col t q (n:Int) keys' (kids++[y24]) K else none) g2 (by omega) hr0 (by omega) hnd (by omega)
      have hinv:=(JlG f).1 r nd (d+1)
      revert hb hinv
      cases Uh f r nd (d+1)with
      |inl e =>
       rintro⟨e0,a',nd',z,hle,hv⟩ _
       rw[hv]
       dsimp only
       rw[hf8,cond_true]
       obtain⟨nd2,z2,e1,e2⟩:=JrX (k1+1) (Ut (k1+1)) (FR_ref10_reader_under (k1+1)) K L a' nd' e.1 e.2 e0 (d:Int) kd ln col t q n (by omega) keys' (kids++[z]) m1
       exact⟨e0,a',nd2,z2,by omega,e2⟩
      |inr p =>
       obtain⟨l',nd'⟩:=p
       rintro⟨a',h5,h6,hv⟩ hinv
       obtain⟨b1,b2,b3,b4⟩:=hinv l' nd' rfl hnd
       rw[hv]
       dsimp only
       rw[hf8,cond_true]
       have:=(ih (k1+1) (by omega)).2 (m1+1) l' nd' kd ln col n d a' t q keys' (kids++[(nd.length:Int)]) K (by omega) (by omega) h5 h6 (by simp;omega) (by omega) b3 hd (by omega) hk' (fun z=>by rw[Jmd b4 hn];exact hz z)
       revert this
       cases kidsS f kd ln col n d l' nd' keys' (kids++[(nd.length:Int)])with
       |inl e =>
        rintro⟨e0,a2,nd2,z,hle,hv2⟩
        exact⟨e0,a2,nd2,z,by omega,hv2⟩
       |inr p=>exact fun h=>h
    rcases hkd with⟨rfl,rfl⟩|rfl
    ·have t0:=tail [] (.inl ⟨rfl,rfl⟩) (by simp;omega)
     have e12:((1:Int) == 2)=false:=rfl
     simp only[e12,cond_false,Bool.false_and]
     exact t0
    ·have e12:((2:Int) == 2)=true:=rfl
     have hkl:=JGV (k1+1) (R:=R) (Ut (k1+1)) (FR_ref10_reader_under (k1+1)) (fun s0 s1 s2 s3 s4 s5 s6 s7 s8 s9 s10 s11 s12 s13=>J0f (k1+1) (Ut (k1+1)) (FR_ref10_reader_under (k1+1)) (m1+1) s0 s1 s2 s3 s4 s5 s6 s7 s8 s9 s10 s11 s12 s13 K) K L ((a+1:Nat):Int) nd (d:Int) 2 ln col t q (n:Int) keys (by omega) kids x.1 x.2.1 x.2.2.1 x.2.2.2.1 x.2.2.2.2 (k1+1) keys 0 rfl (by omega) (by omega)
     have hz0:((0:Nat):Int)=0:=rfl
     rw[hz0]at hkl
     simp only[e12,cond_true,Bool.true_and]
     rw[hkl]
     cases h2:Qt x.2.2.2.1 keys with
     |true =>
      rw[cond_true,cond_true]
      exact⟨by show _≠(0:Int);simp,a+1,nd,0,Nat.le_refl _,rfl⟩
     |false =>
      rw[cond_false,cond_false]
      exact tail (keys++[x.2.2.2.1]) (.inr rfl) (by simp;omega)
end
section
open Go
abbrev RsO:=(Int×Int) ⊕ (List Nd)
def ofS(l:List Pce): RsO :=
 match l with
 |[] => .inl (10,1)
 |x::r=>match Uh (2*(r.length+1)+2) (x::r) [] 1 with
  |.inl e => .inl e
  |.inr p=>match p.1 with
   |[] => .inr p.2
   |y::_ => .inl (6,y.2.1)
def J95{R:Type}(K:List Nd->Int->Int->Option R): RsO->Option R
 |.inl e=>K [] e.1 e.2
 |.inr nd=>K nd 0 0
theorem JGW(k:Nat){R:Type}(l:List Pce)(hl:l.length≤20000)(hk:6*l.length+21000≤k)(K:List Nd->Int->Int->Option R): JaB k l K=J95 K (ofS l):=by
 unfold JaB JlF
 cases l with
 |nil=>rfl
 |cons x r =>
  have h0:((((x::r).length:Nat):Int) == 0)=false:=Jh (by simp;omega)
  rw[h0,cond_false]
  simp only[List.length_cons]at hl hk
  have:=(JId (R:=R) (2*(r.length+1)+2) k (by omega)).1 (x::r) [] 1 (fun y4 y5 y6 =>
   bif decide (((y4.length:Nat):Int)>0)then
    bif inb 0 ((y4.length:Nat):Int)then
     J0q k 6 (y4.getD (Int.toNat 0) (Kd.zero kPc)).2.1 fun y7 y8=>J58 k [] 0 0 y7 y8 fun y9 y10 y11=>K y9 y10 y11
    else none
   else Ja6 k y5 0 0 fun y7 y8 y9=>K y7 y8 y9) (fun a b=>K [] a b) (by simp) (by simp) (by simp;omega) (by simp) (by omega)
  refine Eq.trans this ?_
  rw[ofS]
  cases Uh (2*(r.length+1)+2) (x::r) [] 1 with
  |inl e=>rfl
  |inr p =>
   obtain⟨l',nd'⟩:=p
   cases l' with
   |nil=>rfl
   |cons y r' =>
    have h1:decide ((((y::r').length:Nat):Int)>0)=true:=J1 (by simp<;>omega)
    have h2:=JaC y r'
    simp only[Jgp,h1,h2,cond_true]
    rfl
theorem JFe(k:Nat){R:Type}(l:List Pce)(hl:l.length≤20000)(hk:6*l.length+21000≤k)(K:List Nd->Int->Int->Option R): Jan k l K=J95 K (ofS l):=by
 unfold Jan Jsy
 cases l with
 |nil=>rfl
 |cons x r =>
  have h0:((((x::r).length:Nat):Int) == 0)=false:=Jh (by simp;omega)
  rw[h0,cond_false]
  simp only[List.length_cons]at hl hk
  have:=(JIe (R:=R) (x::r) (by simp;omega) (2*(r.length+1)+2) k (by omega)).1 (x::r) [] 1 0 (fun y4 y5 y6 y7 y8 y9 =>
   bif bif y7 == 0 then decide (y5<(((x::r).length:Nat):Int))else false then
    bif inb y5 (((x::r).length:Nat):Int)then
     J1o k y4 y5 y6 y7 y8 6 ((x::r).getD y5.toNat (Kd.zero kPc)).2.1 fun y10 y11 y12 y13 y14=>bif y13 != 0 then K [] y13 y14 else K y12 0 0
    else none
   else bif y7 != 0 then K [] y7 y8 else K y6 0 0) rfl (by omega) (by simp) (by simp) (by simp) (by omega)
  rw[ofS]
  revert this
  cases Uh (2*(r.length+1)+2) (x::r) [] 1 with
  |inl e =>
   rintro⟨e0,a,nd',z,_,hv⟩
   refine Eq.trans hv ?_
   have e1:(e.1 == 0)=false:=by simpa using e0
   have e2:(e.1 != 0)=true:=by simpa using e0
   simp only[e1,e2,cond_true,cond_false]
   rfl
  |inr p =>
   obtain⟨l',nd'⟩:=p
   rintro⟨a,h1,h2,hv⟩
   refine Eq.trans hv ?_
   have q0:((0:Int) == 0)=true:=rfl
   have q1:((0:Int) != 0)=false:=rfl
   have q2:((6:Int) != 0)=true:=rfl
   cases l' with
   |nil =>
    have:=JE h1
    have hd:decide ((a:Int)<(((x::r).length:Nat):Int))=false:=J2 (by omega)
    simp only[q0,q1,hd,cond_true,cond_false]
    rfl
   |cons y r' =>
    obtain⟨i1,g1,g2,g3⟩:=JaD h1
    have hd:decide ((a:Int)<(((x::r).length:Nat):Int))=true:=J1 (by omega)
    simp only[q0,hd,i1,g1,Jb,cond_true,JaN,q2]
    rfl
end
section
open Go
def J3N(x:Int): Bool :=
 (decide (x≥97)&&decide (x≤122)) || (decide (x≥65)&&decide (x≤90)) || (decide (x≥48)&&decide (x≤57)) || x == 95 || x == 45 || x == 46
def sgn(c:UInt8): Bool:=J3N (c.toNat:Int)
theorem JFf(k:Nat){R:Type}(x:Int)(K:Bool->Option R): Jal k x K=K (J3N x):=by
 unfold Jal Jsr J3N
 congr 1
 simp only[Bool.cond_true_left,Bool.cond_false_right]
theorem Jqr(k:Nat){R:Type}(x:Int)(K:Bool->Option R): J7U k x K=K (J3N x):=by
 unfold J7U Jr6 J3N
 congr 1
 simp only[Bool.cond_true_left,Bool.cond_false_right]
theorem JpE(k:Nat){R:Type}(s:List UInt8)(K:Bool->Option R)(hs:s.length≤4611686018427387904): ∀(t:List UInt8) (n m:Nat),s.drop n=t->t.length<m->n≤s.length ->
 J4F k m s (s.length:Int) (n:Int) K=K (t.all sgn && !(s == []))
 |t,n,0,_,hm,_=>by omega
 |[],n,m+1,hd,hm,hn=>by
  have:=JE hd
  rw[J4F,JdD]
  simp(disch:=omega)only[J1,J2,Jl,Jh,Jm,Jn,Ja,Jg,J8,Ji,cond_true,cond_false,Bool.not_true,Bool.not_false,Bool.true_or,Bool.or_true,Bool.false_or,Bool.or_false,Bool.true_and,Bool.and_true,Bool.false_and,Bool.and_false,Jk,Jj,Jb]
  simp
 |c::r,n,m+1,hd,hm,hn=>by
  obtain⟨hlt,hc,hr⟩:=Jz hd
  rw[J4F,JdD]
  simp(disch:=omega)only[J1,J2,Jl,Jh,Jm,Jn,Ja,Jg,J8,Ji,cond_true,cond_false,Bool.not_true,Bool.not_false,Bool.true_or,Bool.or_true,Bool.false_or,Bool.or_false,Bool.true_and,Bool.and_true,Bool.false_and,Bool.and_false,Jk,Jj,Jb,hc,JFf,Q4]
  rw[JpE k s K hs r (n+1) m hr (by simp at hm;omega) (by omega)]
  have e:J3N (c.toNat:Int)=sgn c:=rfl
  rw[e]
  cases h:sgn c<;>simp[h]
theorem JjV(k:Nat){R:Type}(s:List UInt8)(K:Bool->Option R)(hk:s.length<k)(hs:s.length≤4611686018427387904): J85 k s K=K (s.all sgn && !(s == [])):=by
 unfold J85 Jkd
 exact JpE k s K hs s 0 k rfl hk (Nat.zero_le _)
theorem JHs(s:List UInt8)(c:Int): ∀(n:Nat),(∀ i,i<n->(s.getD i 0 == UInt8.ofNat c.toNat)=false)->n<s.length->(s.getD n 0 == UInt8.ofNat c.toNat)=true->YW s c=n:=by
 intro n h1 h2 h3
 unfold YW
 have:(List.range s.length).find? (fun i=>s.getD i 0 == UInt8.ofNat c.toNat)=some n:=by
  rw[List.find?_range_eq_some]
  exact⟨h3,by simpa using h2,fun j hj=>by simpa using h1 j hj⟩
 rw[this]
theorem JHt(s:List UInt8)(c:Int)(h:∀ i,i<s.length->(s.getD i 0 == UInt8.ofNat c.toNat)=false): YW s c = -1:=by
 unfold YW
 have:(List.range s.length).find? (fun i=>s.getD i 0 == UInt8.ofNat c.toNat)=none:=by
  rw[List.find?_range_eq_none]
  intro i hi
  simpa using h i hi
 rw[this]
def Jp(c:UInt8): List UInt8->Nat
 |[]=>0
 |x::r=>bif x == c then 0 else Jp c r+1
theorem Jfy(c:UInt8): ∀ s:List UInt8,Jp c s≤s.length
 |[]=>Nat.le_refl _
 |x::r=>by
  rw[Jp]
  cases h:x == c with
  |true=>simp
  |false=>have:=Jfy c r;simp;omega
theorem Jme(c:UInt8): ∀(s:List UInt8) (i:Nat),i<Jp c s->(s.getD i 0 == c)=false
 |[],i,h=>by simp[Jp]at h
 |x::r,i,h=>by
  rw[Jp]at h
  cases hx:x == c with
  |true=>rw[hx]at h;simp at h
  |false =>
   rw[hx,cond_false]at h
   cases i with
   |zero=>simpa using hx
   |succ i=>simpa using Jme c r i (by omega)
theorem J8E(c:UInt8): ∀(s:List UInt8),Jp c s<s.length->(s.getD (Jp c s) 0 == c)=true
 |[],h=>by simp at h
 |x::r,h=>by
  rw[Jp]at h ⊢
  cases hx:x == c with
  |true=>simpa using hx
  |false =>
   rw[hx,cond_false]at h
   rw[cond_false]
   simpa using J8E c r (by simpa using h)
theorem JfP(s:List UInt8)(c:UInt8): YW s (c.toNat:Int)=if Jp c s<s.length then(Jp c s:Int)else -1:=by
 have e:UInt8.ofNat ((c.toNat:Int)).toNat=c:=by simp
 split
 ·next h=>exact JHs s _ _ (fun i hi=>by rw[e];exact Jme c s i hi) h (by rw[e];exact J8E c s h)
 ·next h=>exact JHt s _ fun i hi=>by rw[e];exact Jme c s i (by have:=Jfy c s;omega)
theorem Jvo(k:Nat){R:Type}(s:List UInt8)(c:UInt8)(K:List UInt8->List UInt8->Bool->Option R)(hs:s.length≤4611686018427387904):
 J3d k s c K=if Jp c s<s.length then K (s.take (Jp c s)) (s.drop (Jp c s+1)) true else K s [] false:=by
 unfold J3d Jq0 JeM JrA Jef JpZ J9w Jol JgU
 have h1:(([c].length:Nat):Int)=1:=by simp
 have h2:[c].getD (Int.toNat 0) 0=c:=rfl
 simp only[h1,h2,JfP]
 cases hcs:([c] == s)with
 |true =>
  have:s=[c]:=by simpa using (beq_iff_eq.1 hcs).symm
  subst this
  simp(disch:=omega)only[J1,J2,Jl,Jh,Jm,Jn,Ja,Jg,J8,Ji,cond_true,cond_false,Bool.not_true,Bool.not_false,Bool.true_or,Bool.or_true,Bool.false_or,Bool.or_false,Bool.true_and,Bool.and_true,Bool.false_and,Bool.and_false,Jk,Jj,Jb,bnd,J8]
  simp[Jp,cut,J8]
 |false =>
  simp(disch:=omega)only[J1,J2,Jl,Jh,Jm,Jn,Ja,Jg,J8,Ji,cond_true,cond_false,Bool.not_true,Bool.not_false,Bool.true_or,Bool.or_true,Bool.false_or,Bool.or_false,Bool.true_and,Bool.and_true,Bool.false_and,Bool.and_false,Jk,Jj,Jb]
  split
  ·next h =>
   have:((Jp c s:Nat):Int)+1=((Jp c s+1:Nat):Int):=by omega
   simp(disch:=omega)only[J1,J2,Jl,Jh,Jm,Jn,Ja,Jg,J8,Ji,cond_true,cond_false,Bool.not_true,Bool.not_false,Bool.true_or,Bool.or_true,Bool.false_or,Bool.or_false,Bool.true_and,Bool.and_true,Bool.false_and,Bool.and_false,Jk,Jj,Jb,this,J5z,J12]
  ·next h =>
   simp(disch:=omega)only[J1,J2,Jl,Jh,Jm,Jn,Ja,Jg,J8,Ji,cond_true,cond_false,Bool.not_true,Bool.not_false,Bool.true_or,Bool.or_true,Bool.false_or,Bool.or_false,Bool.true_and,Bool.and_true,Bool.false_and,Bool.and_false,Jk,Jj,Jb]
end
section
open Go
def dsh:List UInt8->Bool
 |[]=>false
 |[c]=>c == 45
 |c::d::_=>c == 45&&d == 32
theorem QA(c:UInt8)(n:Nat)(hn:n<256): ((c.toNat:Int) == (n:Int))=(c == UInt8.ofNat n):=by
 rw[Bool.eq_iff_iff]
 simp only[beq_iff_eq]
 constructor
 ·intro h
  have:c.toNat=n:=by omega
  rw[←this];simp
 ·intro h
  rw[h]
  have:(UInt8.ofNat n).toNat=n:=by simp;omega
  rw[this]
theorem J5H(c:UInt8)(n:Nat)(hn:n<256): ((c.toNat:Int) != (n:Int)) = !(c == UInt8.ofNat n):=by
 rw[bne,QA c n hn]
theorem Jit(k:Nat){R:Type}(s:List UInt8)(K:Bool->Option R): J4X k s K=K (dsh s):=by
 unfold J4X Jpv
 have e45:∀ c:UInt8,((c.toNat:Int) == 45)=(c == 45):=fun c=>QA c 45 (by omega)
 have e32:∀ c:UInt8,((c.toNat:Int) == 32)=(c == 32):=fun c=>QA c 32 (by omega)
 match s with
 |[]=>simp[dsh,inb]
 |[c] =>
  simp[dsh,inb,e45]
 |c::d::r =>
  have h1:decide (((c::d::r).length:Int)>0)=true:=J1 (by simp;omega)
  have h2:inb 0 ((c::d::r).length:Int)=true:=Ja (by omega) (by simp;omega)
  have h3:inb 1 ((c::d::r).length:Int)=true:=Ja (by omega) (by simp;omega)
  have h4:(((c::d::r).length:Int) == 1)=false:=Jh (by simp;omega)
  simp only[h1,h2,h3,h4,J1,J2,Jl,Jh,Jm,Jn,Ja,Jg,J8,Ji,cond_true,cond_false,Bool.not_true,Bool.not_false,Bool.true_or,Bool.or_true,Bool.false_or,Bool.or_false,Bool.true_and,Bool.and_true,Bool.false_and,Bool.and_false,Jk,Jj,Jb]
  simp[dsh,e45,e32]
theorem JrY(k:Nat){R:Type}(s:List UInt8)(K:Bool->Option R): J3o k s K=K (dsh s):=by
 unfold J3o Jss JcA Jo8 J70 JhS
 match s with
 |[]=>simp[dsh,bnd,cut]
 |[c] =>
  simp only[dsh]
  cases h:c == 45 with
  |true=>have:=beq_iff_eq.1 h;subst this;simp
  |false =>
   have h':([c] == [45])=false:=by simpa using h
   simp[h',bnd,cut]
 |c::d::r =>
  have h0:((c::d::r) == [45])=false:=by simp
  have h1:decide (((c::d::r).length:Int)≥(([45,32]:List UInt8).length:Int))=true:=J1 (by simp;omega)
  have h2:bnd 0 (([45,32]:List UInt8).length:Int) ((c::d::r).length:Int)=true:=Jg (by omega) (by simp) (by simp;omega)
  simp only[h0,h1,h2,J1,J2,Jl,Jh,Jm,Jn,Ja,Jg,J8,Ji,cond_true,cond_false,Bool.not_true,Bool.not_false,Bool.true_or,Bool.or_true,Bool.false_or,Bool.or_false,Bool.true_and,Bool.and_true,Bool.false_and,Bool.and_false,Jk,Jj,Jb,J12]
  simp[dsh]
def J3O:List UInt8->Bool
 |[]=>true
 |d::_=>d == 32
def kS(s:List UInt8): Nat :=
 match s.drop (s.takeWhile sgn).length with
 |[]=>0
 |c::r=>bif (c == 58)&&J3O r then(s.takeWhile sgn).length else 0
theorem JmC(s:List UInt8): (s.takeWhile sgn).length≤s.length:=(List.takeWhile_prefix _).length_le
theorem JfQ{s:List UInt8}(h:s.drop (s.takeWhile sgn).length=[]): kS s=0:=by unfold kS;rw[h]
theorem Jg8{s r:List UInt8}{c:UInt8}(h:s.drop (s.takeWhile sgn).length=c::r): kS s=bif (c == 58)&&J3O r then(s.takeWhile sgn).length else 0:=by
 unfold kS;rw[h]
theorem Jbb(s:List UInt8): kS s≤s.length:=by
 have:=JmC s
 cases h:s.drop (s.takeWhile sgn).length with
 |nil=>rw[JfQ h];omega
 |cons c r =>
  rw[Jg8 h]
  cases((c == 58)&&J3O r)<;>simp only[cond_true,cond_false]<;>omega
theorem JfR(s:List UInt8): ∀ i,i<(s.takeWhile sgn).length->sgn (s.getD i 0)=true:=by
 induction s with
 |nil=>intro i h;simp at h
 |cons c r ih =>
  intro i h
  rw[List.takeWhile_cons]at h
  split at h
  ·next hc =>
   cases i with
   |zero=>simpa using hc
   |succ i=>simpa using ih i (by simpa using h)
  ·simp at h
theorem JIW(s:List UInt8){c:UInt8}{r:List UInt8}(h:s.drop (s.takeWhile sgn).length=c::r): sgn c=false:=by
 induction s with
 |nil=>simp at h
 |cons a t ih =>
  rw[List.takeWhile_cons]at h
  split at h
  ·next ha=>exact ih (by simpa using h)
  ·next ha =>
   simp only[List.length_nil,List.drop_zero,List.cons.injEq]at h
   rw[←h.1];simpa using ha
theorem JmZ:sgn 58=false:=by decide
theorem JuF(c:UInt8): ∀(s:List UInt8) (n:Nat),n<s.length->(∀ i,i<n->(s.getD i 0 == c)=false)->(s.getD n 0 == c)=true->Jp c s=n
 |[],n,h,_,_=>by simp at h
 |x::r,0,h,_,h2=>by
  have:(x == c)=true:=by simpa using h2
  rw[Jp,this];rfl
 |x::r,n+1,h,h1,h2=>by
  have h0:(x == c)=false:=by simpa using h1 0 (by omega)
  rw[Jp,h0,cond_false,JuF c r n (by simpa using h) (fun i hi=>by simpa using h1 (i+1) (by omega)) (by simpa using h2)]
theorem JEf(s:List UInt8)(n:Nat)(h:∀ i,i<n->sgn (s.getD i 0)=true)(hn:n≤s.length): (s.take n).all sgn=true:=by
 rw[List.all_eq_true]
 intro c hc
 obtain⟨i,hi,e⟩:=List.getElem_of_mem hc
 have hi2:i<n:=by simp at hi;omega
 have:=h i hi2
 have h3:s.getD i 0=c:=by
  rw[List.getElem_take]at e
  simp[List.getD,show i<s.length by omega,e]
 rwa [h3]at this
theorem JsB(k:Nat){R:Type}(s:List UInt8)(K:List UInt8->Option R)(hk:s.length<k)(hs:s.length≤4611686018427387904): J2o k s K=K (s.take (kS s)):=by
 unfold J2o Jth
 rw[Jvo k s 58 _ hs]
 have hn:=JmC s
 cases h:s.drop (s.takeWhile sgn).length with
 |nil =>
  have hlen:=JE h
  rw[JfQ h,List.take_zero]
  split
  ·next hu =>
   exfalso
   have h1:=JfR s (Jp 58 s) (by omega)
   have h2:=J8E 58 s hu
   rw[beq_iff_eq.1 h2,JmZ]at h1
   cases h1
  ·rfl
 |cons c r =>
  obtain⟨hlt,hc,hr⟩:=Jz h
  rw[Jg8 h]
  by_cases hc58:c=58
  ·subst hc58
   have hu:Jp 58 s=(s.takeWhile sgn).length:=by
    refine JuF 58 s _ hlt (fun i hi => ?_) (by rw[hc];rfl)
    have h1:=JfR s i hi
    cases hb:s.getD i 0 == 58 with
    |false=>rfl
    |true=>rw[beq_iff_eq.1 hb,JmZ]at h1;cases h1
   rw[hu,if_pos hlt,hr]
   have hall:=JEf s _ (JfR s) hn
   simp only[J1,J2,Jl,Jh,Jm,Jn,Ja,Jg,J8,Ji,cond_true,cond_false,Bool.not_true,Bool.not_false,Bool.true_or,Bool.or_true,Bool.false_or,Bool.or_false,Bool.true_and,Bool.and_true,Bool.false_and,Bool.and_false,Jk,Jj,Jb]
   rw[JjV k _ _ (by rw[List.length_take];omega) (by rw[List.length_take];omega),hall]
   by_cases h0:(s.takeWhile sgn).length=0
   ·rw[h0]
    simp
   ·have hne:(s.take (s.takeWhile sgn).length == [])=false:=by
     cases hb:s.take (s.takeWhile sgn).length == []with
     |false=>rfl
     |true =>
      have:=congrArg List.length (beq_iff_eq.1 hb)
      rw[List.length_take,List.length_nil]at this
      omega
    rw[hne]
    cases r with
    |nil=>simp[J3O]
    |cons d r =>
     have e32:∀ c:UInt8,((c.toNat:Int) == 32)=(c == 32):=fun c=>QA c 32 (by omega)
     have hi:inb 0 ((d::r).length:Int)=true:=Ja (by omega) (by rw[List.length_cons];omega)
     simp only[hi,J1,J2,Jl,Jh,Jm,Jn,Ja,Jg,J8,Ji,cond_true,cond_false,Bool.not_true,Bool.not_false,Bool.true_or,Bool.or_true,Bool.false_or,Bool.or_false,Bool.true_and,Bool.and_true,Bool.false_and,Bool.and_false,Jk,Jj,Jb]
     simp[bne,e32,J3O]
     cases d == 32<;>simp
  ·have hb:(c == 58)=false:=by simpa using hc58
   rw[hb]
   simp only[J1,J2,Jl,Jh,Jm,Jn,Ja,Jg,J8,Ji,cond_true,cond_false,Bool.not_true,Bool.not_false,Bool.true_or,Bool.or_true,Bool.false_or,Bool.or_false,Bool.true_and,Bool.and_true,Bool.false_and,Bool.and_false,Jk,Jj,Jb,List.take_zero]
   split
   ·next hu =>
    have hgt:(s.takeWhile sgn).length<Jp 58 s:=by
     refine Classical.byContradiction fun hno => ?_
     by_cases he:Jp 58 s=(s.takeWhile sgn).length
     ·have h2:=J8E 58 s hu
      rw[he,hc]at h2
      rw[hb]at h2;cases h2
     ·have h1:=JfR s (Jp 58 s) (by omega)
      have h2:=J8E 58 s hu
      rw[beq_iff_eq.1 h2,JmZ]at h1
      cases h1
    have hall:(s.take (Jp 58 s)).all sgn=false:=by
     cases hq:(s.take (Jp 58 s)).all sgn with
     |false=>rfl
     |true =>
      rw[List.all_eq_true]at hq
      have hm:c∈s.take (Jp 58 s):=by
       have:(s.take (Jp 58 s))[(s.takeWhile sgn).length]? = some c:=by
        rw[List.getElem?_take,if_pos hgt]
        have:=hc 0
        simp[List.getD,hlt]at this
        simp[hlt,this]
       exact List.mem_of_getElem? this
      have h1:=hq c hm
      rw[JIW s h]at h1;cases h1
    rw[JjV k _ _ (by rw[List.length_take];omega) (by rw[List.length_take];omega),hall]
    simp
   ·rfl
theorem JoS(k:Nat){R:Type}(s:List UInt8)(K:Int->Option R)(hs:s.length≤4611686018427387904): ∀(t:List UInt8) (n m:Nat),s.drop n=t->t.length<m->n≤s.length->n+(t.takeWhile sgn).length=(s.takeWhile sgn).length ->
 J4o k m s (n:Int) K=K (kS s:Int)
 |t,n,0,_,hm,_,_=>by omega
 |[],n,m+1,hd,hm,hn,hw=>by
  have:=JE hd
  have hw:n=(s.takeWhile sgn).length:=by simpa using hw
  rw[JfQ (by rw[←hw];exact hd)]
  rw[J4o,Jd2]
  simp(disch:=omega)only[J1,J2,Jl,Jh,Jm,Jn,Ja,Jg,J8,Ji,cond_true,cond_false,Bool.not_true,Bool.not_false,Bool.true_or,Bool.or_true,Bool.false_or,Bool.or_false,Bool.true_and,Bool.and_true,Bool.false_and,Bool.and_false,Jk,Jj,Jb]
  by_cases h0:n=0
  ·subst h0;simp
  ·simp(disch:=omega)only[J1,J2,Jl,Jh,Jm,Jn,Ja,Jg,J8,Ji,cond_true,cond_false,Bool.not_true,Bool.not_false,Bool.true_or,Bool.or_true,Bool.false_or,Bool.or_false,Bool.true_and,Bool.and_true,Bool.false_and,Bool.and_false,Jk,Jj,Jb];rfl
 |c::r,n,m+1,hd,hm,hn,hw=>by
  obtain⟨hlt,hc,hr⟩:=Jz hd
  rw[J4o,Jd2]
  simp(disch:=omega)only[J1,J2,Jl,Jh,Jm,Jn,Ja,Jg,J8,Ji,cond_true,cond_false,Bool.not_true,Bool.not_false,Bool.true_or,Bool.or_true,Bool.false_or,Bool.or_false,Bool.true_and,Bool.and_true,Bool.false_and,Bool.and_false,Jk,Jj,Jb,hc,Jqr,Q4]
  have e:J3N (c.toNat:Int)=sgn c:=rfl
  rw[e]
  cases h:sgn c with
  |true =>
   rw[cond_true]
   exact JoS k s K hs r (n+1) m hr (by simp at hm;omega) (by omega) (by rw[List.takeWhile_cons,h]at hw;simp at hw;omega)
  |false =>
   have hw:n=(s.takeWhile sgn).length:=by rw[List.takeWhile_cons,h]at hw;simpa using hw
   rw[cond_false,Jg8 (by rw[←hw];exact hd),←hw]
   have e58:((c.toNat:Int) != 58) = !(c == 58):=J5H c 58 (by omega)
   rw[e58]
   by_cases h0:n=0
   ·subst h0
    simp
   ·simp(disch:=omega)only[J1,J2,Jl,Jh,Jm,Jn,Ja,Jg,J8,Ji,cond_true,cond_false,Bool.not_true,Bool.not_false,Bool.true_or,Bool.or_true,Bool.false_or,Bool.or_false,Bool.true_and,Bool.and_true,Bool.false_and,Bool.and_false,Jk,Jj,Jb]
    cases hb:c == 58 with
    |false=>simp
    |true =>
     cases r with
     |nil =>
      have:=JE hr
      simp(disch:=omega)only[J1,J2,Jl,Jh,Jm,Jn,Ja,Jg,J8,Ji,cond_true,cond_false,Bool.not_true,Bool.not_false,Bool.true_or,Bool.or_true,Bool.false_or,Bool.or_false,Bool.true_and,Bool.and_true,Bool.false_and,Bool.and_false,Jk,Jj,Jb,J3O]
     |cons d r' =>
      obtain⟨hlt2,hd2,_⟩:=Jz hr
      have e32:((d.toNat:Int) != 32) = !(d == 32):=J5H d 32 (by omega)
      simp(disch:=omega)only[J1,J2,Jl,Jh,Jm,Jn,Ja,Jg,J8,Ji,cond_true,cond_false,Bool.not_true,Bool.not_false,Bool.true_or,Bool.or_true,Bool.false_or,Bool.or_false,Bool.true_and,Bool.and_true,Bool.false_and,Bool.and_false,Jk,Jj,Jb,hd2,e32,J3O]
      cases d == 32<;>simp
theorem JpF(k:Nat){R:Type}(s:List UInt8)(K:Int->Option R)(hk:s.length<k)(hs:s.length≤4611686018427387904): J3f k s K=K (kS s:Int):=by
 unfold J3f Jji
 exact JoS k s K hs s 0 k rfl hk (Nat.zero_le _) (by simp)
def nb(s:List UInt8): Nat:=(s.takeWhile (· == 32)).length
theorem J8U(s:List UInt8): nb s≤s.length:=(List.takeWhile_prefix _).length_le
theorem JuG(c:UInt8)(r:List UInt8): nb (c::r)=bif c == 32 then nb r+1 else 0:=by
 unfold nb
 rw[List.takeWhile_cons]
 cases c == 32<;>simp
theorem JoI(k:Nat){R:Type}(s:List UInt8)(a:Nat)(K:Int->Option R)(hs:s.length≤4611686018427387904): ∀(t:List UInt8) (n m:Nat),s.drop (a+n)=t->t.length<m->a+n≤s.length ->
 J4d k m s (a:Int) (n:Int) K=K ((n+nb t:Nat):Int)
 |t,n,0,_,hm,_=>by omega
 |[],n,m+1,hd,hm,hn=>by
  have:=JE hd
  rw[J4d,JcE]
  simp(disch:=omega)only[J1,J2,Jl,Jh,Jm,Jn,Ja,Jg,J8,Ji,cond_true,cond_false,Bool.not_true,Bool.not_false,Bool.true_or,Bool.or_true,Bool.false_or,Bool.or_false,Bool.true_and,Bool.and_true,Bool.false_and,Bool.and_false,Jk,Jj,Jb]
  rfl
 |c::r,n,m+1,hd,hm,hn=>by
  obtain⟨hlt,hc,hr⟩:=Jz hd
  have e32:((c.toNat:Int) == 32)=(c == 32):=QA c 32 (by omega)
  have ea:((a:Int)+(n:Int))=((a+n:Nat):Int):=by omega
  rw[J4d,JcE,ea]
  simp(disch:=omega)only[J1,J2,Jl,Jh,Jm,Jn,Ja,Jg,J8,Ji,cond_true,cond_false,Bool.not_true,Bool.not_false,Bool.true_or,Bool.or_true,Bool.false_or,Bool.or_false,Bool.true_and,Bool.and_true,Bool.false_and,Bool.and_false,Jk,Jj,Jb,hc,e32,Q4]
  rw[JuG]
  cases c == 32 with
  |true =>
   rw[cond_true,cond_true,JoI k s a K hs r (n+1) m (by rw[←hr];congr 1) (by simp at hm;omega) (by omega)]
   congr 2
   omega
  |false=>simp
theorem Jiu(k:Nat){R:Type}(s:List UInt8)(a:Nat)(K:Int->Option R)(hk:s.length<k)(ha:a≤s.length)(hs:s.length≤4611686018427387904): J4W k s (a:Int) K=K (nb (s.drop a):Int):=by
 unfold J4W JiN
 have:=JoI k s a K hs (s.drop a) 0 k rfl (by simp;omega) (by omega)
 simpa using this
theorem Jqs(k:Nat){R:Type}(x0 x1:Int)(s:List UInt8)(x4:List (Int×(Int×(Int×(List UInt8×Bool)))))(K:Int->Int->List UInt8->Int->List (Int×(Int×(Int×(List UInt8×Bool))))->List UInt8->Option R)(hs:s.length≤4611686018427387904): ∀(t:List UInt8) (n m:Nat),s.drop n=t->t.length<m->n≤s.length ->
 J46 k m x0 x1 s (n:Int) x4 K=K x0 x1 s ((n+nb t:Nat):Int) x4 (t.drop (nb t))
 |t,n,0,_,hm,_=>by omega
 |[],n,m+1,hd,hm,hn=>by
  have:=JE hd
  rw[J46,Jcd]
  simp(disch:=omega)only[J1,J2,Jl,Jh,Jm,Jn,Ja,Jg,J8,Ji,cond_true,cond_false,Bool.not_true,Bool.not_false,Bool.true_or,Bool.or_true,Bool.false_or,Bool.or_false,Bool.true_and,Bool.and_true,Bool.false_and,Bool.and_false,Jk,Jj,Jb,J5z,hd]
  rfl
 |c::r,n,m+1,hd,hm,hn=>by
  obtain⟨hlt,hc,hr⟩:=Jz hd
  have e32:((c.toNat:Int) == 32)=(c == 32):=QA c 32 (by omega)
  rw[J46,Jcd]
  simp(disch:=omega)only[J1,J2,Jl,Jh,Jm,Jn,Ja,Jg,J8,Ji,cond_true,cond_false,Bool.not_true,Bool.not_false,Bool.true_or,Bool.or_true,Bool.false_or,Bool.or_false,Bool.true_and,Bool.and_true,Bool.false_and,Bool.and_false,Jk,Jj,Jb,hc,e32,Q4,J5z,hd]
  rw[JuG]
  cases c == 32 with
  |true =>
   rw[cond_true,cond_true,Jqs k x0 x1 s x4 K hs r (n+1) m hr (by simp at hm;omega) (by omega)]
   rw[show n+1+nb r=n+(nb r+1) by omega]
   rfl
  |false=>simp
theorem Jkq(k:Nat){R:Type}(x0 x1:Int)(s:List UInt8)(n:Nat)(x4:List (Int×(Int×(Int×(List UInt8×Bool)))))(K:Int->Int->List UInt8->Int->List (Int×(Int×(Int×(List UInt8×Bool))))->List UInt8->Option R)(hk:s.length<k)(hn:n≤s.length)(hs:s.length≤4611686018427387904):
 J23 k x0 x1 s (n:Int) x4 K=K x0 x1 s ((n+nb (s.drop n):Nat):Int) x4 ((s.drop n).drop (nb (s.drop n))):=by
 unfold J23 Jic
 exact Jqs k x0 x1 s x4 K hs (s.drop n) n k rfl (by simp;omega) hn
end
section
open Go
theorem JHu(n:Nat): (n:Int)+2=((n+2:Nat):Int):=by omega
theorem JaE(a b:Nat): (a:Int)+(b:Int)=((a+b:Nat):Int):=by omega
theorem Jvp(P:UInt8->Bool)(h:(List.range 256).all (fun n=>P (UInt8.ofNat n))=true)(c:UInt8): P c=true:=by
 rw[List.all_eq_true]at h
 have:=h c.toNat (List.mem_range.2 c.toNat_lt)
 simpa using this
theorem J3j(l:List UInt8)(c:UInt8): Js l++[(c.toNat:Int)]=Js (l++[c]):=by simp[Js]
theorem J28(l:List UInt8): Q5 (Js l)=l:=by
 unfold Q5 Js
 rw[List.map_map]
 conv=>rhs;rw[←List.map_id l]
 congr 1
 funext c
 simp
theorem Jrf:∀ l:List UInt8,J3M (Js l)=true
 |[]=>rfl
 |c::r=>by
  have h1:=c.toNat_lt
  have:=Jrf r
  rw[Js]at this ⊢
  rw[List.map_cons,J3M,this]
  simp
  omega
theorem Y8(l:List UInt8): (Js l).length=l.length:=by simp[Js]
theorem JeE(k:Nat){R:Type}(l:List UInt8)(c:UInt8)(x:Int)(K:List Int->Option R)(hx:x=(c.toNat:Int))(hl:l.length≤10000000): J2S k (Js l) x K=K (Js (l++[c])):=by
 subst hx
 unfold J2S JnD JgK
 dsimp only
 rw[Yc (by rw[Y8];simp;omega) (by rw[Y8];simp;omega),cond_true,J3j]
theorem Jlh(k:Nat){R:Type}(l:List UInt8)(K:List Int->List UInt8->Option R): J6l k (Js l) K=K (Js l) l:=by
 unfold J6l
 rw[Jrf,cond_true,J28]
def J0D(c:UInt8): Option Nat:=bif decide (48≤c.toNat)&&decide (c.toNat≤57)then some (c.toNat-48)else bif decide (97≤c.toNat)&&decide (c.toNat≤102)then some (c.toNat-87)else none
def J3P(c:UInt8): Int:=match J0D c with|some x=>(x:Int)|none => -1
def hexL:List UInt8:=[48,49,50,51,52,53,54,55,56,57,97,98,99,100,101,102]
theorem JuH(c:UInt8): YW hexL (c.toNat:Int)=J3P c:=by
 have:=Jvp (fun c=>(if Jp c hexL<hexL.length then(Jp c hexL:Int)else -1) == J3P c) (by kernel_rfl) c
 rw[JfP]
 exact beq_iff_eq.1 this
theorem JHv(k:Nat){R:Type}(c:UInt8)(K:Int->Option R): J3g k (c.toNat:Int) K=K (J3P c):=by
 have h1:=c.toNat_lt
 unfold J3g Jql J3P J0D
 by_cases h2:48≤c.toNat∧c.toNat≤57
 ·simp(disch:=omega)only[J1,J2,Jl,Jh,Jm,Jn,Ja,Jg,J8,Ji,cond_true,cond_false,Bool.not_true,Bool.not_false,Bool.true_or,Bool.or_true,Bool.false_or,Bool.or_false,Bool.true_and,Bool.and_true,Bool.false_and,Bool.and_false,Jk,Jj,Jb]
  congr 1
  omega
 ·by_cases h3:97≤c.toNat∧c.toNat≤102
  ·have e1:(decide ((c.toNat:Int)≥48)&&decide ((c.toNat:Int)≤57))=false:=by simp;omega
   have e2:(decide (48≤c.toNat)&&decide (c.toNat≤57))=false:=by simp;omega
   have e3:(bif decide ((c.toNat:Int)≥48)then decide ((c.toNat:Int)≤57)else false)=false:=by rw[Bool.cond_false_right];exact e1
   rw[e2,e3]
   simp(disch:=omega)only[J1,J2,Jl,Jh,Jm,Jn,Ja,Jg,J8,Ji,cond_true,cond_false,Bool.not_true,Bool.not_false,Bool.true_or,Bool.or_true,Bool.false_or,Bool.or_false,Bool.true_and,Bool.and_true,Bool.false_and,Bool.and_false,Jk,Jj,Jb]
   congr 1
   omega
  ·have e1:(decide ((c.toNat:Int)≥48)&&decide ((c.toNat:Int)≤57))=false:=by simp;omega
   have e2:(decide (48≤c.toNat)&&decide (c.toNat≤57))=false:=by simp;omega
   have e3:(bif decide ((c.toNat:Int)≥48)then decide ((c.toNat:Int)≤57)else false)=false:=by rw[Bool.cond_false_right];exact e1
   have f1:(decide ((c.toNat:Int)≥97)&&decide ((c.toNat:Int)≤102))=false:=by simp;omega
   have f2:(decide (97≤c.toNat)&&decide (c.toNat≤102))=false:=by simp;omega
   have f3:(bif decide ((c.toNat:Int)≥97)then decide ((c.toNat:Int)≤102)else false)=false:=by rw[Bool.cond_false_right];exact f1
   rw[e2,e3,f2,f3]
   rfl
theorem JaO{c:UInt8}{x:Nat}(h:J0D c=some x): x<16:=by
 have h1:=c.toNat_lt
 unfold J0D at h
 cases h2:(decide (48≤c.toNat)&&decide (c.toNat≤57))with
 |true =>
  rw[h2]at h
  simp at h h2
  omega
 |false =>
  rw[h2,cond_false]at h
  cases h3:(decide (97≤c.toNat)&&decide (c.toNat≤102))with
  |true =>
   rw[h3]at h
   simp at h h3
   omega
  |false=>rw[h3]at h;cases h
def tak:List UInt8->Option (UInt8×Nat)
 |[]=>none
 |c::r=>bif c == 92 then some (c,1)else bif c == 34 then some (c,1)else bif c == 110 then some (10,1)else bif c == 116 then some (9,1)else bif c == 120 then
  (match r with
  |a::b::_=>match J0D a,J0D b with
   |some x,some y=>some (UInt8.ofNat (16*x+y),3)
   |_,_=>none
  |_=>none)
  else none
theorem JIX{s:List UInt8}{c:UInt8}{m:Nat}(h:tak s=some (c,m)): 1≤m∧m≤s.length:=by
 unfold tak at h
 split at h
 ·cases h
 ·next a r =>
  cases h1:a == 92<;>rw[h1]at h<;>simp only[cond_true,cond_false]at h
  ·cases h2:a == 34<;>rw[h2]at h<;>simp only[cond_true,cond_false]at h
   ·cases h3:a == 110<;>rw[h3]at h<;>simp only[cond_true,cond_false]at h
    ·cases h4:a == 116<;>rw[h4]at h<;>simp only[cond_true,cond_false]at h
     ·cases h5:a == 120<;>rw[h5]at h<;>simp only[cond_true,cond_false]at h
      ·cases h
      ·split at h
       ·split at h
        ·cases h;simp
        ·cases h
       ·cases h
     ·cases h;simp
    ·cases h;simp
   ·cases h;simp
  ·cases h;simp
abbrev Pc:=Int×(Int×(Int×(List UInt8×Bool)))
theorem J8w(k:Nat){R:Type}(x0 x1:Int)(x2:List UInt8)(x3:Int)(x4:List Pc)(kd:Int)(K:Int->Int->List UInt8->Int->List Pc->Option R)(E:Int->Int->List UInt8->Int->List Pc->Int->Int->Option R):
 Y5 k x0 x1 x2 x3 x4 kd K E=E x0 x1 x2 x3 x4 kd x0:=rfl
theorem Jrg(k:Nat){R:Type}(s:List UInt8)(c:Int)(K:Int->Option R): Zw k s c K=K (YW s c):=rfl
theorem Jfe{c:UInt8}(h:J0D c=none): J3P c = -1:=by unfold J3P;rw[h]
theorem Jav{c:UInt8}{x:Nat}(h:J0D c=some x): J3P c=(x:Int):=by unfold J3P;rw[h]
theorem JuI(x y:Nat)(hx:x<16)(hy:y<16): IntKind.u8.wrap (IntKind.i64.wrap (IntKind.i64.wrap (16*(x:Int))+(y:Int)))=((UInt8.ofNat (16*x+y)).toNat:Int):=by
 simp(disch:=omega)only[J8,Ji]
 rw[UInt8.toNat_ofNat']
 omega
theorem JEg(k:Nat){R:Type}(x0 x1:Int)(x2:List UInt8)(x3:Int)(x4:List Pc)(s:List UInt8)(hs:s.length≤10000000)(K:Int->Int->List UInt8->Int->List Pc->Int->Int->Option R)(E:Int->Int->List UInt8->Int->List Pc->Int->Int->Option R):
 J9A k x0 x1 x2 x3 x4 s K E=match tak s with
  |some (c,m)=>K x0 x1 x2 x3 x4 (c.toNat:Int) (m:Int)
  |none=>E x0 x1 x2 x3 x4 3 x0:=by
 unfold J9A JoC
 simp only[J8w]
 cases s with
 |nil=>rfl
 |cons c r =>
  have h0:((c::r) == ([]:List UInt8))=false:=rfl
  have hi:inb 0 ((c::r).length:Int)=true:=Ja (by omega) (by rw[List.length_cons];omega)
  have hg:(c::r).getD (Int.toNat 0) 0=c:=rfl
  have e1:((c.toNat:Int) == 92)=(c == 92):=QA c 92 (by omega)
  have e2:((c.toNat:Int) == 34)=(c == 34):=QA c 34 (by omega)
  have e3:((c.toNat:Int) == 110)=(c == 110):=QA c 110 (by omega)
  have e4:((c.toNat:Int) == 116)=(c == 116):=QA c 116 (by omega)
  have e5:((c.toNat:Int) == 120)=(c == 120):=QA c 120 (by omega)
  simp only[h0,hi,hg,e1,e2,e3,e4,e5,cond_true,cond_false,tak,Jrg]
  cases h1:c == 92
  case true=>rfl
  simp only[cond_false]
  cases h2:c == 34
  case true=>rfl
  simp only[cond_false]
  cases h3:c == 110
  case true=>rfl
  simp only[cond_false]
  cases h4:c == 116
  case true=>rfl
  simp only[cond_false]
  cases h5:c == 120
  case false=>rfl
  simp only[cond_true]
  match r with
  |[]=>rfl
  |[a]=>rfl
  |a::b::t =>
   have g1:decide (((c::a::b::t).length:Int)<3)=false:=J2 (by simp;omega)
   have i1:inb 1 ((c::a::b::t).length:Int)=true:=Ja (by omega) (by simp;omega)
   have i2:inb 2 ((c::a::b::t).length:Int)=true:=Ja (by omega) (by simp;omega)
   have j1:(c::a::b::t).getD (Int.toNat 1) 0=a:=rfl
   have j2:(c::a::b::t).getD (Int.toNat 2) 0=b:=rfl
   have k1:=JuH a
   have k2:=JuH b
   unfold hexL at k1 k2
   simp only[g1,i1,i2,j1,j2,cond_true,cond_false,k1,k2]
   cases ha:J0D a with
   |none=>rw[Jfe ha];rfl
   |some x =>
    cases hb:J0D b with
    |none =>
     rw[Jav ha,Jfe hb]
     have:=JaO ha
     simp(disch:=omega)only[J1,J2,Jl,Jh,Jm,Jn,Ja,Jg,J8,Ji,cond_true,cond_false,Bool.not_true,Bool.not_false,Bool.true_or,Bool.or_true,Bool.false_or,Bool.or_false,Bool.true_and,Bool.and_true,Bool.false_and,Bool.and_false,Jk,Jj,Jb]
    |some y =>
     have h1:=JaO ha
     have h2:=JaO hb
     rw[Jav ha,Jav hb]
     simp(disch:=omega)only[J2,cond_false,JuI]
     rfl
def sgl:List UInt8->List UInt8->Option (List UInt8×List UInt8)
 |_,[]=>none
 |acc,[c]=>bif c == 39 then some (acc,[])else none
 |acc,c::d::r=>bif c == 39 then(bif d == 39 then sgl (acc++[39]) r else some (acc,d::r))else sgl (acc++[c]) (d::r)
theorem Jtn(acc:List UInt8)(c:UInt8)(r:List UInt8)(h:(c == 39)=false): sgl acc (c::r)=sgl (acc++[c]) r:=by
 cases r with
 |nil=>simp[sgl,h]
 |cons d r=>rw[sgl,h,cond_false]
theorem JmD:∀ {acc t a r},sgl acc t=some (a,r)->r.length<t.length
 |_,[],_,_,h=>by simp[sgl]at h
 |acc,[c],a,r,h=>by
  rw[sgl]at h
  cases hc:c == 39 with
  |true=>rw[hc]at h;cases h;simp
  |false=>rw[hc]at h;cases h
 |acc,c::d::t,a,r,h=>by
  rw[sgl]at h
  cases hc:c == 39 with
  |true =>
   rw[hc,cond_true]at h
   cases hd:d == 39 with
   |true=>rw[hd,cond_true]at h;have:=JmD h;simp;omega
   |false=>rw[hd]at h;cases h;simp
  |false=>rw[hc,cond_false]at h;have:=JmD h;simp at this ⊢;omega
theorem Jiv(k:Nat){R:Type}(x0 x1:Int)(x2:List UInt8)(x3:Int)(x4:List Pc)(s:List UInt8)(hs:s.length≤1000000)(K:Int->Int->List UInt8->Int->List Pc->List UInt8->Int->Option R)(E:Int->Int->List UInt8->Int->List Pc->Int->Int->Option R):
 ∀(m:Nat) (t:List UInt8) (n:Nat) (acc:List UInt8),s.drop n=t->t.length<m->n≤s.length->acc.length≤n->J44 k m x0 x1 x2 x3 x4 s (Js acc) (n:Int) K E=match sgl acc t with
  |some (a,r)=>K x0 x1 x2 x3 x4 a ((s.length-r.length:Nat):Int)
  |none=>E x0 x1 x2 x3 x4 3 x0
 |0,t,n,acc,_,hm,_,_=>by omega
 |m+1,[],n,acc,hd,hm,hn,ha=>by
  have:=JE hd
  rw[J44,Jc0]
  simp(disch:=omega)only[J1,J2,Jl,Jh,Jm,Jn,Ja,Jg,J8,Ji,cond_true,cond_false,Bool.not_true,Bool.not_false,Bool.true_or,Bool.or_true,Bool.false_or,Bool.or_false,Bool.true_and,Bool.and_true,Bool.false_and,Bool.and_false,Jk,Jj,Jb,J8w]
  rfl
 |m+1,c::t,n,acc,hd,hm,hn,ha=>by
  obtain⟨hlt,hc,hr⟩:=Jz hd
  have e39:((c.toNat:Int) != 39) = !(c == 39):=J5H c 39 (by omega)
  simp only[List.length_cons]at hm
  rw[J44,Jc0]
  simp(disch:=omega)only[J1,J2,Jl,Jh,Jm,Jn,Ja,Jg,J8,Ji,cond_true,cond_false,Bool.not_true,Bool.not_false,Bool.true_or,Bool.or_true,Bool.false_or,Bool.or_false,Bool.true_and,Bool.and_true,Bool.false_and,Bool.and_false,Jk,Jj,Jb,hc,e39,Q4]
  cases hb:c == 39 with
  |false =>
   simp only[Bool.not_false,cond_true]
   rw[JeE k acc c _ _ rfl (by omega),Jtn acc c t hb]
   exact Jiv k x0 x1 x2 x3 x4 s hs K E m t (n+1) (acc++[c]) hr (by omega) (by omega) (by simp;omega)
  |true =>
   have:=beq_iff_eq.1 hb
   subst this
   simp only[Bool.not_true,cond_false]
   cases t with
   |nil =>
    have h1:=JE hr
    simp(disch:=omega)only[J1,J2,Jl,Jh,Jm,Jn,Ja,Jg,J8,Ji,cond_true,cond_false,Bool.not_true,Bool.not_false,Bool.true_or,Bool.or_true,Bool.false_or,Bool.or_false,Bool.true_and,Bool.and_true,Bool.false_and,Bool.and_false,Jk,Jj,Jb,Jlh,sgl]
    have:s.length=n+1:=by omega
    simp[this]
   |cons d r =>
    obtain⟨hlt2,hd2,hr2⟩:=Jz hr
    have e39':((d.toNat:Int) != 39) = !(d == 39):=J5H d 39 (by omega)
    simp(disch:=omega)only[J1,J2,Jl,Jh,Jm,Jn,Ja,Jg,J8,Ji,cond_true,cond_false,Bool.not_true,Bool.not_false,Bool.true_or,Bool.or_true,Bool.false_or,Bool.or_false,Bool.true_and,Bool.and_true,Bool.false_and,Bool.and_false,Jk,Jj,Jb,hd2,e39',sgl,hb]
    cases hdb:d == 39 with
    |true =>
     simp only[Bool.not_true,cond_false,cond_true]
     rw[JeE k acc 39 39 _ rfl (by omega)]
     simp only[List.length_cons]at hm
     exact Jiv k x0 x1 x2 x3 x4 s hs K E m r (n+1+1) (acc++[39]) hr2 (by omega) (by omega) (by simp;omega)
    |false =>
     simp only[Bool.not_false,cond_true,cond_false,Jlh]
     have:s.length-(d::r).length=n+1:=by
      have:=congrArg List.length hr
      rw[List.length_drop]at this
      omega
     rw[this]
theorem JD0(k:Nat){R:Type}(x0 x1:Int)(x2:List UInt8)(x3:Int)(x4:List Pc)(c:UInt8)(t:List UInt8)(hs:(c::t).length≤1000000)(hk:(c::t).length<k)(K:Int->Int->List UInt8->Int->List Pc->List UInt8->Int->Option R)(E:Int->Int->List UInt8->Int->List Pc->Int->Int->Option R):
 J6S k x0 x1 x2 x3 x4 (c::t) K E=match sgl [] t with
  |some (a,r)=>K x0 x1 x2 x3 x4 a (((c::t).length-r.length:Nat):Int)
  |none=>E x0 x1 x2 x3 x4 3 x0:=by
 unfold J6S JhC
 exact Jiv k x0 x1 x2 x3 x4 (c::t) hs K E k t 1 [] rfl (by simp at hk;omega) (by simp) (by simp)
def dbl:Nat->List UInt8->List UInt8->Option (List UInt8×List UInt8)
 |0,_,_=>none
 |_+1,_,[]=>none
 |n+1,acc,c::r=>bif c == 34 then some (acc,r)else bif c == 92 then(match tak r with
  |some (d,m)=>dbl n (acc++[d]) (r.drop m)
  |none=>none)else dbl n (acc++[c]) r
theorem JmE:∀ {n acc t a r},dbl n acc t=some (a,r)->r.length<t.length
 |0,_,_,_,_,h=>by simp[dbl]at h
 |n+1,_,[],_,_,h=>by simp[dbl]at h
 |n+1,acc,c::t,a,r,h=>by
  rw[dbl]at h
  cases hc:c == 34 with
  |true=>rw[hc]at h;cases h;simp
  |false =>
   rw[hc,cond_false]at h
   cases hd:c == 92 with
   |true =>
    rw[hd,cond_true]at h
    split at h
    ·next d m _=>have:=JmE h;simp at this ⊢;omega
    ·cases h
   |false=>rw[hd,cond_false]at h;have:=JmE h;simp;omega
theorem Jiw(k:Nat){R:Type}(x0 x1:Int)(x2:List UInt8)(x3:Int)(x4:List Pc)(s:List UInt8)(hs:s.length≤1000000)(K:Int->Int->List UInt8->Int->List Pc->List UInt8->Int->Option R)(E:Int->Int->List UInt8->Int->List Pc->Int->Int->Option R):
 ∀(m:Nat) (t:List UInt8) (n f:Nat) (acc:List UInt8),s.drop n=t->t.length<m->n≤s.length->acc.length≤n->t.length<f->J43 k m x0 x1 x2 x3 x4 s (Js acc) (n:Int) K E=match dbl f acc t with
  |some (a,r)=>K x0 x1 x2 x3 x4 a ((s.length-r.length:Nat):Int)
  |none=>E x0 x1 x2 x3 x4 3 x0
 |0,t,n,f,acc,_,hm,_,_,_=>by omega
 |m+1,t,n,0,acc,_,_,_,_,hf=>by omega
 |m+1,[],n,f+1,acc,hd,hm,hn,ha,hf=>by
  have:=JE hd
  rw[J43,JbY]
  simp(disch:=omega)only[J1,J2,Jl,Jh,Jm,Jn,Ja,Jg,J8,Ji,cond_true,cond_false,Bool.not_true,Bool.not_false,Bool.true_or,Bool.or_true,Bool.false_or,Bool.or_false,Bool.true_and,Bool.and_true,Bool.false_and,Bool.and_false,Jk,Jj,Jb,J8w]
  rfl
 |m+1,c::t,n,f+1,acc,hd,hm,hn,ha,hf=>by
  obtain⟨hlt,hc,hr⟩:=Jz hd
  have e34:((c.toNat:Int) == 34)=(c == 34):=QA c 34 (by omega)
  have e92:((c.toNat:Int) == 92)=(c == 92):=QA c 92 (by omega)
  simp only[List.length_cons]at hm hf
  have hlen:=congrArg List.length hr
  rw[List.length_drop]at hlen
  rw[J43,JbY,dbl]
  simp(disch:=omega)only[J1,J2,Jl,Jh,Jm,Jn,Ja,Jg,J8,Ji,cond_true,cond_false,Bool.not_true,Bool.not_false,Bool.true_or,Bool.or_true,Bool.false_or,Bool.or_false,Bool.true_and,Bool.and_true,Bool.false_and,Bool.and_false,Jk,Jj,Jb,hc,e34,e92,Q4,Jlh,J5z,hr]
  cases hb:c == 34 with
  |true =>
   simp only[cond_true]
   have:s.length-t.length=n+1:=by omega
   rw[this]
  |false =>
   simp only[cond_false]
   cases hb2:c == 92 with
   |true =>
    simp only[cond_true]
    rw[JEg k x0 x1 x2 x3 x4 t (by omega)]
    cases ht:tak t with
    |none=>rfl
    |some p =>
     obtain⟨d,q⟩:=p
     obtain⟨h1,h2⟩:=JIX ht
     simp only[]
     rw[JeE k acc d _ _ rfl (by omega)]
     simp(disch:=omega)only[JaE,Q4,J8]
     exact Jiw k x0 x1 x2 x3 x4 s hs K E m (t.drop q) (n+q+1) f (acc++[d]) (by rw[←hr,List.drop_drop];congr 1;omega) (by simp;omega) (by omega) (by simp;omega) (by simp;omega)
   |false =>
    simp only[cond_false]
    rw[JeE k acc c _ _ rfl (by omega)]
    exact Jiw k x0 x1 x2 x3 x4 s hs K E m t (n+1) f (acc++[c]) hr (by omega) (by omega) (by simp;omega) (by omega)
theorem JD1(k:Nat){R:Type}(x0 x1:Int)(x2:List UInt8)(x3:Int)(x4:List Pc)(c:UInt8)(t:List UInt8)(hs:(c::t).length≤1000000)(hk:(c::t).length<k)(K:Int->Int->List UInt8->Int->List Pc->List UInt8->Int->Option R)(E:Int->Int->List UInt8->Int->List Pc->Int->Int->Option R):
 J6Q k x0 x1 x2 x3 x4 (c::t) K E=match dbl (t.length+1) [] t with
  |some (a,r)=>K x0 x1 x2 x3 x4 a (((c::t).length-r.length:Nat):Int)
  |none=>E x0 x1 x2 x3 x4 3 x0:=by
 unfold J6Q JhB
 exact Jiw k x0 x1 x2 x3 x4 (c::t) hs K E k t 1 (t.length+1) [] rfl (by simp at hk;omega) (by simp) (by simp) (by omega)
end
section
open Go
def sgL:List UInt8:=[91,93,123,125,38,42,33,124,62,37,64,44,63,96]
def J2J(c:UInt8): Bool:=sgL.any (· == c)
theorem JIY(c:UInt8): decide (YW sgL (c.toNat:Int)≥0)=J2J c:=by
 have:=Jvp (fun c=>decide ((if Jp c sgL<sgL.length then(Jp c sgL:Int)else -1)≥0) == J2J c) (by kernel_rfl) c
 rw[JfP]
 exact beq_iff_eq.1 this
theorem JpG(k:Nat){R:Type}(c:UInt8)(K:Bool->Option R): ∀(t:List UInt8) (n m:Nat),sgL.drop n=t->t.length<m->n≤14->J4I k m (c.toNat:Int) (n:Int) K=K (t.any (· == c))
 |t,n,0,_,hm,_=>by omega
 |[],n,m+1,hd,hm,hn=>by
  have:=JE hd
  have h14:sgL.length=14:=rfl
  rw[J4I,JdM]
  simp(disch:=omega)only[J1,J2,Jl,Jh,Jm,Jn,Ja,Jg,J8,Ji,cond_true,cond_false,Bool.not_true,Bool.not_false,Bool.true_or,Bool.or_true,Bool.false_or,Bool.or_false,Bool.true_and,Bool.and_true,Bool.false_and,Bool.and_false,Jk,Jj,Jb]
  rfl
 |d::r,n,m+1,hd,hm,hn=>by
  obtain⟨hlt,hc,hr⟩:=Jz hd
  have h14:sgL.length=14:=rfl
  have h14':([91,93,123,125,38,42,33,124,62,37,64,44,63,96]:List UInt8).length=14:=rfl
  have hc:∀ e,([91,93,123,125,38,42,33,124,62,37,64,44,63,96]:List UInt8).getD n e=d:=hc
  have e:((d.toNat:Int) == (c.toNat:Int))=(d == c):=by
   rw[Bool.eq_iff_iff]
   simp only[beq_iff_eq]
   constructor
   ·intro h;exact UInt8.toNat_inj.1 (by omega)
   ·intro h;rw[h]
  rw[J4I,JdM]
  simp(disch:=omega)only[J1,J2,Jl,Jh,Jm,Jn,Ja,Jg,J8,Ji,cond_true,cond_false,Bool.not_true,Bool.not_false,Bool.true_or,Bool.or_true,Bool.false_or,Bool.or_false,Bool.true_and,Bool.and_true,Bool.false_and,Bool.and_false,Jk,Jj,Jb,hc,e,Q4,h14']
  rw[JpG k c K r (n+1) m hr (by simp at hm;omega) (by omega)]
  cases hb:d == c<;>simp[hb]
theorem JEh(k:Nat){R:Type}(c:UInt8)(K:Bool->Option R)(hk:14<k): J5f k (c.toNat:Int) K=K (J2J c):=by
 unfold J5f Jkk
 exact JpG k c K sgL 0 k rfl (by simpa [sgL]using hk) (by omega)
theorem JhO(k:Nat){R:Type}(s:List UInt8)(hs:s.length≤1000000)(K:List UInt8->Bool->Option R):
 ∀(m:Nat) (t:List UInt8) (n:Nat) (acc:List UInt8),s.drop n=t->t.length<m->n≤s.length->acc.length≤n->J1s k m s (Js acc) 39 (n:Int) K=match sgl acc t with
  |some (a,r)=>K a (r == [])
  |none=>K [] false
 |0,t,n,acc,_,hm,_,_=>by omega
 |m+1,[],n,acc,hd,hm,hn,ha=>by
  have:=JE hd
  rw[J1s,J6X]
  simp(disch:=omega)only[J1,J2,Jl,Jh,Jm,Jn,Ja,Jg,J8,Ji,cond_true,cond_false,Bool.not_true,Bool.not_false,Bool.true_or,Bool.or_true,Bool.false_or,Bool.or_false,Bool.true_and,Bool.and_true,Bool.false_and,Bool.and_false,Jk,Jj,Jb]
  rfl
 |m+1,c::t,n,acc,hd,hm,hn,ha=>by
  obtain⟨hlt,hc,hr⟩:=Jz hd
  have e39:((c.toNat:Int) == 39)=(c == 39):=QA c 39 (by omega)
  have f1:Ju (Js acc).length 1 1=true:=Yc (by rw[Y8];omega) (by rw[Y8];omega)
  simp only[List.length_cons]at hm
  rw[J1s,J6X]
  simp(disch:=omega)only[J1,J2,Jl,Jh,Jm,Jn,Ja,Jg,J8,Ji,cond_true,cond_false,Bool.not_true,Bool.not_false,Bool.true_or,Bool.or_true,Bool.false_or,Bool.or_false,Bool.true_and,Bool.and_true,Bool.false_and,Bool.and_false,Jk,Jj,Jb,hc,e39,Q4,J28,List.length_singleton,f1]
  cases hb:c == 39 with
  |false =>
   simp only[cond_false,cond_true]
   rw[J3j,Jtn acc c t hb]
   exact JhO k s hs K m t (n+1) (acc++[c]) hr (by omega) (by omega) (by simp;omega)
  |true =>
   have:=beq_iff_eq.1 hb
   subst this
   simp only[cond_true]
   cases t with
   |nil =>
    have h1:=JE hr
    simp(disch:=omega)only[J1,J2,Jl,Jh,Jm,Jn,Ja,Jg,J8,Ji,cond_true,cond_false,Bool.not_true,Bool.not_false,Bool.true_or,Bool.or_true,Bool.false_or,Bool.or_false,Bool.true_and,Bool.and_true,Bool.false_and,Bool.and_false,Jk,Jj,Jb,sgl]
    rfl
   |cons d r =>
    obtain⟨hlt2,hd2,hr2⟩:=Jz hr
    have e39':((d.toNat:Int) == 39)=(d == 39):=QA d 39 (by omega)
    simp(disch:=omega)only[J1,J2,Jl,Jh,Jm,Jn,Ja,Jg,J8,Ji,cond_true,cond_false,Bool.not_true,Bool.not_false,Bool.true_or,Bool.or_true,Bool.false_or,Bool.or_false,Bool.true_and,Bool.and_true,Bool.false_and,Bool.and_false,Jk,Jj,Jb,hd2,e39',sgl,hb]
    cases hdb:d == 39 with
    |true =>
     simp only[cond_true]
     simp only[List.length_cons]at hm
     have e:Js acc++[(39:Int)]=Js (acc++[39]):=J3j acc 39
     rw[e]
     exact JhO k s hs K m r (n+1+1) (acc++[39]) hr2 (by omega) (by omega) (by simp;omega)
    |false =>
     simp only[cond_false]
     rfl
theorem J4q(k:Nat){R:Type}(s:List UInt8)(hs:s.length≤1000000)(K:List UInt8->Bool->Option R):
 ∀(m:Nat) (t:List UInt8) (n f:Nat) (acc:List UInt8),s.drop n=t->t.length<m->n≤s.length->acc.length≤n->t.length<f->J1s k m s (Js acc) 34 (n:Int) K=match dbl f acc t with
  |some (a,r)=>K a (r == [])
  |none=>K [] false
 |0,t,n,f,acc,_,hm,_,_,_=>by omega
 |m+1,t,n,0,acc,_,_,_,_,hf=>by omega
 |m+1,[],n,f+1,acc,hd,hm,hn,ha,hf=>by
  have:=JE hd
  rw[J1s,J6X]
  simp(disch:=omega)only[J1,J2,Jl,Jh,Jm,Jn,Ja,Jg,J8,Ji,cond_true,cond_false,Bool.not_true,Bool.not_false,Bool.true_or,Bool.or_true,Bool.false_or,Bool.or_false,Bool.true_and,Bool.and_true,Bool.false_and,Bool.and_false,Jk,Jj,Jb]
  rfl
 |m+1,c::t,n,f+1,acc,hd,hm,hn,ha,hf=>by
  obtain⟨hlt,hc,hr⟩:=Jz hd
  have e34:((c.toNat:Int) == 34)=(c == 34):=QA c 34 (by omega)
  have e92:((c.toNat:Int) != 92) = !(c == 92):=J5H c 92 (by omega)
  have f1:Ju (Js acc).length 1 1=true:=Yc (by rw[Y8];omega) (by rw[Y8];omega)
  have hlen:=congrArg List.length hr
  rw[List.length_drop]at hlen
  simp only[List.length_cons]at hm hf
  rw[J1s,J6X,dbl]
  simp(disch:=omega)only[J1,J2,Jl,Jh,Jm,Jn,Ja,Jg,J8,Ji,cond_true,cond_false,Bool.not_true,Bool.not_false,Bool.true_or,Bool.or_true,Bool.false_or,Bool.or_false,Bool.true_and,Bool.and_true,Bool.false_and,Bool.and_false,Jk,Jj,Jb,hc,e34,e92,Q4,JHu,J28,List.length_singleton,f1]
  cases hb:c == 34 with
  |true =>
   simp only[cond_true]
   cases t with
   |nil=>have h1:=JE hr;simp(disch:=omega)only[J1,J2,Jl,Jh,Jm,Jn,Ja,Jg,J8,Ji,cond_true,cond_false,Bool.not_true,Bool.not_false,Bool.true_or,Bool.or_true,Bool.false_or,Bool.or_false,Bool.true_and,Bool.and_true,Bool.false_and,Bool.and_false,Jk,Jj,Jb];rfl
   |cons d r =>
    have:s.length-(n+1)=r.length+1:=by simpa using hlen
    simp(disch:=omega)only[J1,J2,Jl,Jh,Jm,Jn,Ja,Jg,J8,Ji,cond_true,cond_false,Bool.not_true,Bool.not_false,Bool.true_or,Bool.or_true,Bool.false_or,Bool.or_false,Bool.true_and,Bool.and_true,Bool.false_and,Bool.and_false,Jk,Jj,Jb];rfl
  |false =>
   simp only[cond_false]
   cases hb2:c == 92 with
   |false =>
    simp only[Bool.not_false,cond_false,cond_true]
    rw[J3j]
    exact J4q k s hs K m t (n+1) f (acc++[c]) hr (by omega) (by omega) (by simp;omega) (by omega)
   |true =>
    simp only[Bool.not_true,cond_false,cond_true]
    cases t with
    |nil =>
     have h1:=JE hr
     simp(disch:=omega)only[J1,J2,Jl,Jh,Jm,Jn,Ja,Jg,J8,Ji,cond_true,cond_false,Bool.not_true,Bool.not_false,Bool.true_or,Bool.or_true,Bool.false_or,Bool.or_false,Bool.true_and,Bool.and_true,Bool.false_and,Bool.and_false,Jk,Jj,Jb,tak]
    |cons d r =>
     obtain⟨hlt2,hd2,hr2⟩:=Jz hr
     have e1:((d.toNat:Int) == 92)=(d == 92):=QA d 92 (by omega)
     have e2:((d.toNat:Int) == 34)=(d == 34):=QA d 34 (by omega)
     have e3:((d.toNat:Int) == 110)=(d == 110):=QA d 110 (by omega)
     have e4:((d.toNat:Int) == 116)=(d == 116):=QA d 116 (by omega)
     have e5:((d.toNat:Int) == 120)=(d == 120):=QA d 120 (by omega)
     simp only[List.length_cons]at hm hf hlen
     simp(disch:=omega)only[J1,J2,Jl,Jh,Jm,Jn,Ja,Jg,J8,Ji,cond_true,cond_false,Bool.not_true,Bool.not_false,Bool.true_or,Bool.or_true,Bool.false_or,Bool.or_false,Bool.true_and,Bool.and_true,Bool.false_and,Bool.and_false,Jk,Jj,Jb,hd2,e1,e2,e3,e4,e5,tak,J3j]
     cases h1:d == 92 with
     |true =>
      simp only[cond_true]
      exact J4q k s hs K m r (n+1+1) f (acc++[d]) hr2 (by omega) (by omega) (by simp;omega) (by omega)
     |false =>
     cases h2:d == 34 with
     |true =>
      simp only[cond_true,cond_false]
      exact J4q k s hs K m r (n+1+1) f (acc++[d]) hr2 (by omega) (by omega) (by simp;omega) (by omega)
     |false =>
     cases h3:d == 110 with
     |true =>
      simp only[cond_true,cond_false]
      have e:Js acc++[(10:Int)]=Js (acc++[10]):=J3j acc 10
      rw[e]
      exact J4q k s hs K m r (n+1+1) f (acc++[10]) hr2 (by omega) (by omega) (by simp;omega) (by omega)
     |false =>
     cases h4:d == 116 with
     |true =>
      simp only[cond_true,cond_false]
      have e:Js acc++[(9:Int)]=Js (acc++[9]):=J3j acc 9
      rw[e]
      exact J4q k s hs K m r (n+1+1) f (acc++[9]) hr2 (by omega) (by omega) (by simp;omega) (by omega)
     |false =>
     cases h5:d == 120 with
     |false=>simp only[cond_true,cond_false]
     |true =>
      simp only[cond_true,cond_false]
      match r,hr2,hm,hf,hlen with
      |[],hr2,hm,hf,hlen =>
       simp only[List.length_nil]at hlen
       simp(disch:=omega)only[J1,J2,Jl,Jh,Jm,Jn,Ja,Jg,J8,Ji,cond_true,cond_false,Bool.not_true,Bool.not_false,Bool.true_or,Bool.or_true,Bool.false_or,Bool.or_false,Bool.true_and,Bool.and_true,Bool.false_and,Bool.and_false,Jk,Jj,Jb]
      |[a],hr2,hm,hf,hlen =>
       simp only[List.length_cons,List.length_nil]at hlen
       simp(disch:=omega)only[J1,J2,Jl,Jh,Jm,Jn,Ja,Jg,J8,Ji,cond_true,cond_false,Bool.not_true,Bool.not_false,Bool.true_or,Bool.or_true,Bool.false_or,Bool.or_false,Bool.true_and,Bool.and_true,Bool.false_and,Bool.and_false,Jk,Jj,Jb]
      |a::b::r,hr2,hm,hf,hlen =>
       obtain⟨hlt3,ha3,hr3⟩:=Jz hr2
       obtain⟨hlt4,hb4,hr4⟩:=Jz hr3
       simp only[List.length_cons]at hlen hm hf
       have hb4':∀ e,s.getD (n+1+2) e=b:=hb4
       simp(disch:=omega)only[J1,J2,Jl,Jh,Jm,Jn,Ja,Jg,J8,Ji,cond_true,cond_false,Bool.not_true,Bool.not_false,Bool.true_or,Bool.or_true,Bool.false_or,Bool.or_false,Bool.true_and,Bool.and_true,Bool.false_and,Bool.and_false,Jk,Jj,Jb,ha3,hb4',JHv]
       cases hxa:J0D a with
       |none =>
        rw[Jfe hxa]
        simp(disch:=omega)only[J1,J2,Jl,Jh,Jm,Jn,Ja,Jg,J8,Ji,cond_true,cond_false,Bool.not_true,Bool.not_false,Bool.true_or,Bool.or_true,Bool.false_or,Bool.or_false,Bool.true_and,Bool.and_true,Bool.false_and,Bool.and_false,Jk,Jj,Jb]
       |some x =>
        have hx16:=JaO hxa
        rw[Jav hxa]
        simp(disch:=omega)only[J1,J2,Jl,Jh,Jm,Jn,Ja,Jg,J8,Ji,cond_true,cond_false,Bool.not_true,Bool.not_false,Bool.true_or,Bool.or_true,Bool.false_or,Bool.or_false,Bool.true_and,Bool.and_true,Bool.false_and,Bool.and_false,Jk,Jj,Jb]
        cases hxb:J0D b with
        |none =>
         rw[Jfe hxb]
         simp(disch:=omega)only[J1,J2,Jl,Jh,Jm,Jn,Ja,Jg,J8,Ji,cond_true,cond_false,Bool.not_true,Bool.not_false,Bool.true_or,Bool.or_true,Bool.false_or,Bool.or_false,Bool.true_and,Bool.and_true,Bool.false_and,Bool.and_false,Jk,Jj,Jb]
        |some y =>
         have hy16:=JaO hxb
         have eb:IntKind.u8.wrap (IntKind.i64.wrap (16*(x:Int)+(y:Int)))=((UInt8.ofNat (16*x+y)).toNat:Int):=by
          rw[←JuI x y hx16 hy16]
          simp(disch:=omega)only[J8]
         rw[Jav hxb,eb]
         simp(disch:=omega)only[J1,J2,Jl,Jh,Jm,Jn,Ja,Jg,J8,Ji,cond_true,cond_false,Bool.not_true,Bool.not_false,Bool.true_or,Bool.or_true,Bool.false_or,Bool.or_false,Bool.true_and,Bool.and_true,Bool.false_and,Bool.and_false,Jk,Jj,Jb,J3j]
         exact J4q k s hs K m r (n+1+2+1) f (acc++[UInt8.ofNat (16*x+y)]) hr4 (by omega) (by omega) (by simp;omega) (by omega)
theorem JpH(k:Nat){R:Type}(c:UInt8)(t:List UInt8)(hs:(c::t).length≤1000000)(hk:(c::t).length<k)(K:List UInt8->Bool->Option R):
 (c=39->J2f k (c::t) K=match sgl [] t with
  |some (a,r)=>K a (r == [])
  |none=>K [] false) ∧
 (c=34->J2f k (c::t) K=match dbl (t.length+1) [] t with
  |some (a,r)=>K a (r == [])
  |none=>K [] false):=by
 have hi:inb 0 ((c::t).length:Int)=true:=Ja (by omega) (by rw[List.length_cons];omega)
 have hg:(c::t).getD (Int.toNat 0) 0=c:=rfl
 simp only[List.length_cons]at hk
 constructor
 ·intro h
  subst h
  unfold J2f Jep
  simp only[hi,hg,cond_true]
  exact JhO k (39::t) hs K k t 1 [] rfl (by omega) (by simp) (by simp)
 ·intro h
  subst h
  unfold J2f Jep
  simp only[hi,hg,cond_true]
  exact J4q k (34::t) hs K k t 1 (t.length+1) [] rfl (by omega) (by simp) (by simp) (by omega)
end
section
open Go
abbrev Res:=List Pc×(Int×Int)
def YG(no col:Int)(out:List Pc): Option (List UInt8×List UInt8)->Res
 |none=>([],3,no)
 |some (a,r)=>bif !(r == [])then([],3,no)else bif decide (200<a.length)then([],4,no)else(out++[(3,no,col,a,true)],0,0)
def Yg(no ind:Int)(at_:Nat)(s:List UInt8)(out:List Pc): Res :=
 match s with
 |[]=>(out,0,0)
 |c::t=>bif c == 39 then YG no (ind+at_) out (sgl [] t)else bif c == 34 then YG no (ind+at_) out (dbl (t.length+1) [] t)
  else bif J2J c || (dsh (c::t) || decide (0<kS (c::t)))then([],4,no)else bif decide (200<(c::t).length)then([],4,no)else(out++[(3,no,ind+at_,c::t,false)],0,0)
def J0E(no ind:Int)(at_:Nat)(s:List UInt8)(out:List Pc): Res :=
 bif decide (0<kS s)then bif decide (64<kS s)then([],5,no)
  else Yg no ind (at_+(kS s+1)+nb (s.drop (kS s+1))) ((s.drop (kS s+1)).drop (nb (s.drop (kS s+1)))) (out++[(2,no,ind+at_,s.take (kS s),false)])
 else Yg no ind at_ s out
def Yh(no ind:Int): Nat->Nat->List UInt8->List Pc->Res
 |0,_,_,out=>(out,0,0)
 |f+1,at_,s,out=>bif dsh s then Yh no ind f (at_+1+nb (s.drop 1)) ((s.drop 1).drop (nb (s.drop 1))) (out++[(1,no,ind+at_,[],false)])else J0E no ind at_ s out
def U7(no ind:Int)(s:List UInt8): Res :=
 bif decide (ind<0) || decide (16384<ind)then([],6,no)else Yh no ind (s.length+1) (nb s) (s.drop (nb s)) []
def J96{R:Type}(K1:List Pc->Option R)(E1:Int->Int->Option R)(r:Res): Option R:=bif r.2.1 == 0 then K1 r.1 else E1 r.2.1 r.2.2
theorem Jff (k:Nat) {R:Type} (x0 x1:Int) (x2:List UInt8) (n:Nat) (x4:List Pc) (kd:Int) (t:List UInt8) (q:Bool) (b:Nat) (K:Int->Int->List UInt8->Int->List Pc->Option R)
 (h0:0≤x1) (h1:x1≤16384) (hn:n≤1000000) (hb:b≤1000000) (hx:x4.length≤1000000) :
 J0Q k x0 x1 x2 (n:Int) x4 kd t q (b:Int) K=K x0 x1 x2 ((n+b:Nat):Int) (x4++[(kd,x0,x1+(n:Int),t,q)]):=by
 unfold J0Q JoA
 rw[Yc (by simp;omega) (by simp;omega)]
 simp(disch:=omega)only[J1,J2,Jl,Jh,Jm,Jn,Ja,Jg,J8,Ji,cond_true,cond_false,Bool.not_true,Bool.not_false,Bool.true_or,Bool.or_true,Bool.false_or,Bool.or_false,Bool.true_and,Bool.and_true,Bool.false_and,Bool.and_false,Jk,Jj,Jb,JaE]
theorem JFg (k:Nat) {R:Type} (no ind:Int) (text:List UInt8) (n:Nat) (out:List Pc) (c:UInt8) (t:List UInt8) (K1:List Pc->Option R) (E1:Int->Int->Option R)
 (h0:0≤ind) (h1:ind≤16384) (hn:n≤1000000) (ho:out.length≤1000000) (hs:(c::t).length≤1000000) (hk:(c::t).length<k) :
 J3a k no ind text (n:Int) out (c::t) (fun _ _ _ _ o=>K1 o) (fun _ _ _ _ _ a b=>E1 a b)=J96 K1 E1 (Yg no ind n (c::t) out):=by
 have hi:inb 0 ((c::t).length:Int)=true:=Ja (by omega) (by rw[List.length_cons];omega)
 have hg:(c::t).getD (Int.toNat 0) 0=c:=rfl
 have e39:((c.toNat:Int) == 39)=(c == 39):=QA c 39 (by omega)
 have e34:((c.toNat:Int) == 34)=(c == 34):=QA c 34 (by omega)
 have hq:=JIY c
 unfold sgL at hq
 have quoted:∀(x:Option (List UInt8×List UInt8)),(∀ a r,x=some (a,r)->r.length<t.length+1)->(match x with
  |some (a,r)=>(fun(y10 y11:Int) (y12:List UInt8) (y13:Int) (y14:List Pc) (y15:List UInt8) (y16:Int) =>
   bif y16 != ((c::t).length:Int)then E1 3 y10
   else bif decide ((y15.length:Int)>200)then E1 4 y10
    else J0Q k y10 y11 y12 y13 y14 3 y15 true y16 fun y17 y18 y19 y20 y21=>K1 y21) no ind text (n:Int) out a (((c::t).length-r.length:Nat):Int)
  |none=>E1 3 no)=J96 K1 E1 (YG no (ind+n) out x):=by
  intro x hx
  cases x with
  |none=>rfl
  |some p =>
   obtain⟨a,r⟩:=p
   have hr:=hx a r rfl
   simp only[YG]
   simp only[List.length_cons]at hs hk ⊢
   cases hre:r == []with
   |true =>
    have:r=[]:=beq_iff_eq.1 hre
    subst this
    simp only[List.length_nil,Nat.sub_zero]
    simp(disch:=omega)only[J1,J2,Jl,Jh,Jm,Jn,Ja,Jg,J8,Ji,cond_true,cond_false,Bool.not_true,Bool.not_false,Bool.true_or,Bool.or_true,Bool.false_or,Bool.or_false,Bool.true_and,Bool.and_true,Bool.false_and,Bool.and_false,Jk,Jj,Jb]
    by_cases ha:200<a.length
    ·simp(disch:=omega)only[J1,J2,Jl,Jh,Jm,Jn,Ja,Jg,J8,Ji,cond_true,cond_false,Bool.not_true,Bool.not_false,Bool.true_or,Bool.or_true,Bool.false_or,Bool.or_false,Bool.true_and,Bool.and_true,Bool.false_and,Bool.and_false,Jk,Jj,Jb];rfl
    ·simp(disch:=omega)only[J1,J2,Jl,Jh,Jm,Jn,Ja,Jg,J8,Ji,cond_true,cond_false,Bool.not_true,Bool.not_false,Bool.true_or,Bool.or_true,Bool.false_or,Bool.or_false,Bool.true_and,Bool.and_true,Bool.false_and,Bool.and_false,Jk,Jj,Jb]
     rw[Jff k no ind text n out 3 a true (t.length+1) _ h0 h1 hn (by omega) ho]
     rfl
   |false =>
    have hr0:r.length≠0:=fun e=>by rw[List.eq_nil_of_length_eq_zero e]at hre;cases hre
    simp(disch:=omega)only[J1,J2,Jl,Jh,Jm,Jn,Ja,Jg,J8,Ji,cond_true,cond_false,Bool.not_true,Bool.not_false,Bool.true_or,Bool.or_true,Bool.false_or,Bool.or_false,Bool.true_and,Bool.and_true,Bool.false_and,Bool.and_false,Jk,Jj,Jb]
    rfl
 unfold J3a Jid
 simp only[hi,hg,e39,e34,J8w,cond_true,Jrg,hq,Yg]
 cases h39:c == 39 with
 |true =>
  simp only[cond_true]
  rw[JD0 k no ind text n out c t hs hk]
  exact quoted (sgl [] t) fun a r h=>by have:=JmD h;omega
 |false =>
  simp only[cond_false]
  cases h34:c == 34 with
  |true =>
   simp only[cond_true]
   rw[JD1 k no ind text n out c t hs hk]
   exact quoted (dbl (t.length+1) [] t) fun a r h=>by have:=JmE h;omega
  |false =>
   simp only[cond_false,JrY]
   have hky:∀ K:List UInt8->Option R,J2o k (c::t) K=K ((c::t).take (kS (c::t))):=fun K=>JsB k (c::t) K hk (by omega)
   simp only[hky]
   have hkl:=Jbb (c::t)
   have hne:(((c::t).take (kS (c::t))) == [])=decide (kS (c::t)=0):=by
    rw[Bool.eq_iff_iff]
    simp only[beq_iff_eq,decide_eq_true_eq]
    constructor
    ·intro h
     have:=congrArg List.length h
     rw[List.length_take,List.length_nil]at this
     simp only[List.length_cons]at this hkl
     omega
    ·intro h;rw[h,List.take_zero]
   rw[hne]
   cases h1':J2J c with
   |true=>rfl
   |false =>
    simp only[J1,J2,Jl,Jh,Jm,Jn,Ja,Jg,J8,Ji,cond_true,cond_false,Bool.not_true,Bool.not_false,Bool.true_or,Bool.or_true,Bool.false_or,Bool.or_false,Bool.true_and,Bool.and_true,Bool.false_and,Bool.and_false,Jk,Jj,Jb]
    cases h2':dsh (c::t)with
    |true=>rfl
    |false =>
     simp only[J1,J2,Jl,Jh,Jm,Jn,Ja,Jg,J8,Ji,cond_true,cond_false,Bool.not_true,Bool.not_false,Bool.true_or,Bool.or_true,Bool.false_or,Bool.or_false,Bool.true_and,Bool.and_true,Bool.false_and,Bool.and_false,Jk,Jj,Jb]
     by_cases h3:kS (c::t)=0
     ·simp(disch:=omega)only[J1,J2,Jl,Jh,Jm,Jn,Ja,Jg,J8,Ji,cond_true,cond_false,Bool.not_true,Bool.not_false,Bool.true_or,Bool.or_true,Bool.false_or,Bool.or_false,Bool.true_and,Bool.and_true,Bool.false_and,Bool.and_false,Jk,Jj,Jb]
      by_cases h4:200<(c::t).length
      ·simp(disch:=omega)only[J1,J2,Jl,Jh,Jm,Jn,Ja,Jg,J8,Ji,cond_true,cond_false,Bool.not_true,Bool.not_false,Bool.true_or,Bool.or_true,Bool.false_or,Bool.or_false,Bool.true_and,Bool.and_true,Bool.false_and,Bool.and_false,Jk,Jj,Jb];rfl
      ·simp(disch:=omega)only[J1,J2,Jl,Jh,Jm,Jn,Ja,Jg,J8,Ji,cond_true,cond_false,Bool.not_true,Bool.not_false,Bool.true_or,Bool.or_true,Bool.false_or,Bool.or_false,Bool.true_and,Bool.and_true,Bool.false_and,Bool.and_false,Jk,Jj,Jb]
       rw[Jff k no ind text n out 3 (c::t) false (c::t).length _ h0 h1 hn hs ho]
       rfl
     ·simp(disch:=omega)only[J1,J2,Jl,Jh,Jm,Jn,Ja,Jg,J8,Ji,cond_true,cond_false,Bool.not_true,Bool.not_false,Bool.true_or,Bool.or_true,Bool.false_or,Bool.or_false,Bool.true_and,Bool.and_true,Bool.false_and,Bool.and_false,Jk,Jj,Jb];rfl
end
section
open Go
theorem Jmf{s:List UInt8}(h:0<kS s): kS s+1≤s.length:=by
 have h1:=JmC s
 cases hd:s.drop (s.takeWhile sgn).length with
 |nil=>rw[JfQ hd]at h;omega
 |cons c r =>
  obtain⟨hlt,_,_⟩:=Jz hd
  rw[Jg8 hd]at h ⊢
  cases hb:((c == 58)&&J3O r)<;>rw[hb]at h<;>simp only[cond_true,cond_false]at h ⊢ <;> omega
theorem JHw(s:List UInt8): ((s.take (kS s)) == [])=decide (kS s=0):=by
 have hkl:=Jbb s
 rw[Bool.eq_iff_iff]
 simp only[beq_iff_eq,decide_eq_true_eq]
 constructor
 ·intro h
  have:=congrArg List.length h
  rw[List.length_take,List.length_nil]at this
  omega
 ·intro h;rw[h,List.take_zero]
theorem JsC (k:Nat) {R:Type} (no ind:Int) (text:List UInt8) (n:Nat) (s:List UInt8) (out:List Pc) (K1:List Pc->Option R) (E1:Int->Int->Option R)
 (h0:0≤ind) (h1:ind≤16384) (ht:text.length≤1000000) (hk:text.length+20<k) (hs:text.drop n=s) (hn:n≤text.length) (ho:out.length≤n) :
 (bif !(s == [])then J3a k no ind text (n:Int) out s (fun _ _ _ _ o=>K1 o) (fun _ _ _ _ _ a b=>E1 a b)else K1 out)=J96 K1 E1 (Yg no ind n s out):=by
 have hl:=congrArg List.length hs
 rw[List.length_drop]at hl
 cases s with
 |nil=>rfl
 |cons c t =>
  have:((c::t) == ([]:List UInt8))=false:=rfl
  rw[this,Bool.not_false,cond_true]
  exact JFg k no ind text n out c t K1 E1 h0 h1 (by omega) (by omega) (by omega) (by omega)
theorem Jrh (k:Nat) {R:Type} (no ind:Int) (text:List UInt8) (K1:List Pc->Option R) (E1:Int->Int->Option R)
 (h0:0≤ind) (h1:ind≤16384) (ht:text.length≤1000000) (hk:text.length+20<k) :
 ∀(m:Nat) (s:List UInt8) (n f:Nat) (out:List Pc),text.drop n=s->s.length<m->n≤text.length->out.length≤n->s.length<f ->
  J48 k m no ind text (n:Int) out s (fun _ _ _ _ o=>K1 o) (fun _ _ _ _ _ a b=>E1 a b)=J96 K1 E1 (Yh no ind f n s out)
 |0,s,n,f,out,_,hm,_,_,_=>by omega
 |m+1,s,n,0,out,_,_,_,_,hf=>by omega
 |m+1,s,n,f+1,out,hs,hm,hn,ho,hf=>by
  have hl:=congrArg List.length hs
  rw[List.length_drop]at hl
  rw[J48,Jh7,Yh,JrY]
  cases hd:dsh s with
  |true =>
   simp only[cond_true]
   cases s with
   |nil=>cases hd
   |cons c t =>
    simp only[List.length_cons]at hm hf hl
    obtain⟨hlt,_,hr⟩:=Jz hs
    refine Eq.trans (Jff k no ind text n out 1 [] false 1 _ h0 h1 (by omega) (by omega) (by omega)) ?_
    rw[Jkq k no ind text (n+1) _ _ (by omega) (by omega) (by omega)]
    rw[hr]
    have:=J8U t
    exact Jrh k no ind text K1 E1 h0 h1 ht hk m (t.drop (nb t)) (n+1+nb t) f _ (by rw[←hr,List.drop_drop]) (by rw[List.length_drop];omega) (by omega) (by simp;omega) (by rw[List.length_drop];omega)
  |false =>
   simp only[cond_false]
   rw[JsB k s _ (by omega) (by omega),JHw,J0E]
   simp only[J8w]
   have hkl:=Jbb s
   by_cases hz:kS s=0
   ·simp(disch:=omega)only[J1,J2,Jl,Jh,Jm,Jn,Ja,Jg,J8,Ji,cond_true,cond_false,Bool.not_true,Bool.not_false,Bool.true_or,Bool.or_true,Bool.false_or,Bool.or_false,Bool.true_and,Bool.and_true,Bool.false_and,Bool.and_false,Jk,Jj,Jb]
    exact JsC k no ind text n s out K1 E1 h0 h1 ht hk hs hn ho
   ·have hkr:=Jmf (s:=s) (by omega)
    have hlen:(s.take (kS s)).length=kS s:=by rw[List.length_take];omega
    simp(disch:=omega)only[J1,J2,Jl,Jh,Jm,Jn,Ja,Jg,J8,Ji,cond_true,cond_false,Bool.not_true,Bool.not_false,Bool.true_or,Bool.or_true,Bool.false_or,Bool.or_false,Bool.true_and,Bool.and_true,Bool.false_and,Bool.and_false,Jk,Jj,Jb,hlen]
    by_cases h64:64<kS s
    ·simp(disch:=omega)only[J1,J2,Jl,Jh,Jm,Jn,Ja,Jg,J8,Ji,cond_true,cond_false,Bool.not_true,Bool.not_false,Bool.true_or,Bool.or_true,Bool.false_or,Bool.or_false,Bool.true_and,Bool.and_true,Bool.false_and,Bool.and_false,Jk,Jj,Jb];rfl
    ·simp(disch:=omega)only[J1,J2,Jl,Jh,Jm,Jn,Ja,Jg,J8,Ji,cond_true,cond_false,Bool.not_true,Bool.not_false,Bool.true_or,Bool.or_true,Bool.false_or,Bool.or_false,Bool.true_and,Bool.and_true,Bool.false_and,Bool.and_false,Jk,Jj,Jb,Q4]
     rw[Jff k no ind text n out 2 _ false (kS s+1) _ h0 h1 (by omega) (by omega) (by omega)]
     rw[Jkq k no ind text (n+(kS s+1)) _ _ (by omega) (by omega) (by omega)]
     have hr:text.drop (n+(kS s+1))=s.drop (kS s+1):=by rw[←hs,List.drop_drop]
     rw[hr]
     have:=J8U (s.drop (kS s+1))
     rw[List.length_drop]at this
     exact JsC k no ind text (n+(kS s+1)+nb (s.drop (kS s+1))) _ _ K1 E1 h0 h1 ht hk (by rw[←hr,List.drop_drop]) (by omega) (by simp;omega)
theorem JsD(k:Nat){R:Type}(no ind:Int)(s:List UInt8)(K:List Pc->Int->Int->Option R)(ht:s.length≤1000000)(hk:s.length+20<k):
 J8m k no ind s K=K (U7 no ind s).1 (U7 no ind s).2.1 (U7 no ind s).2.2:=by
 unfold J8m Jle J9N Jj9 J9O Jja JdW Jio
 simp only[J8w]
 have fin:∀ r:Res,(r.2.1=0->r.2.2=0)->(r.2.1≠0->r.1=[])->J96 (fun o=>K o 0 0) (fun a b=>K [] a b) r=K r.1 r.2.1 r.2.2:=by
  intro r h1 h2
  unfold J96
  by_cases h:r.2.1=0
  ·rw[h1 h,h];rfl
  ·rw[h2 h,Jh h];rfl
 have okQ:∀(col:Int) (out:List Pc) x,((YG no col out x).2.1=0->(YG no col out x).2.2=0)∧((YG no col out x).2.1≠0->(YG no col out x).1=[]):=by
  intro col out x
  unfold YG
  split
  ·simp
  ·next a r =>
   cases !(r == [])<;>simp only[cond_true,cond_false]
   ·cases decide (200<a.length)<;>simp
   ·simp
 have okT:∀ n s out,((Yg no ind n s out).2.1=0->(Yg no ind n s out).2.2=0)∧((Yg no ind n s out).2.1≠0->(Yg no ind n s out).1=[]):=by
  intro n s out
  unfold Yg
  split
  ·simp
  ·next c t =>
   cases c == 39<;>simp only[cond_true,cond_false]
   ·cases c == 34<;>simp only[cond_true,cond_false]
    ·cases(J2J c || (dsh (c::t) || decide (0<kS (c::t))))<;>simp only[cond_true,cond_false]
     ·cases decide (200<(c::t).length)<;>simp
     ·simp
    ·exact okQ _ _ _
   ·exact okQ _ _ _
 have okE:∀ n s out,((J0E no ind n s out).2.1=0->(J0E no ind n s out).2.2=0)∧((J0E no ind n s out).2.1≠0->(J0E no ind n s out).1=[]):=by
  intro n s out
  unfold J0E
  cases decide (0<kS s)<;>simp only[cond_true,cond_false]
  ·exact okT _ _ _
  ·cases decide (64<kS s)<;>simp only[cond_true,cond_false]
   ·exact okT _ _ _
   ·simp
 have okR:∀ f n s out,((Yh no ind f n s out).2.1=0->(Yh no ind f n s out).2.2=0)∧((Yh no ind f n s out).2.1≠0->(Yh no ind f n s out).1=[]):=by
  intro f
  induction f with
  |zero=>intro n s out;simp[Yh]
  |succ f ih =>
   intro n s out
   rw[Yh]
   cases dsh s<;>simp only[cond_true,cond_false]
   ·exact okE _ _ _
   ·exact ih _ _ _
 by_cases hi:ind<0∨16384<ind
 ·have e1:(bif decide (ind<0)then true else decide (ind>16384))=true:=by
   rw[Bool.cond_true_left]
   simp
   omega
  have e2:(decide (ind<0) || decide (16384<ind))=true:=by simp;omega
  rw[e1,cond_true]
  unfold U7
  rw[e2]
  rfl
 ·have e1:(bif decide (ind<0)then true else decide (ind>16384))=false:=by
   rw[Bool.cond_true_left]
   simp
   omega
  have e2:(decide (ind<0) || decide (16384<ind))=false:=by simp;omega
  rw[e1,cond_false]
  unfold U7
  rw[e2,cond_false]
  have:=Jkq k no ind s 0 [] (fun y10 y11 y12 y13 y14 y15=>J48 k k y10 y11 y12 y13 y14 y15 (fun _ _ _ _ o=>K o 0 0) (fun _ _ _ _ _ a b=>K [] a b)) (by omega) (by omega) (by omega)
  refine Eq.trans this ?_
  simp only[List.drop_zero,Nat.zero_add]
  have hnb:=J8U s
  rw[Jrh k no ind s (fun o=>K o 0 0) (fun a b=>K [] a b) (by omega) (by omega) ht hk k (s.drop (nb s)) (nb s) (s.length+1) [] rfl (by rw[List.length_drop];omega) hnb (by simp) (by rw[List.length_drop];omega)]
  exact fin _ (okR _ _ _ _).1 (okR _ _ _ _).2
end
section
open Go
theorem JIf{α : Type}(s:List α)(n j:Nat): cut s (n:Int) ((n+j:Nat):Int)=(s.drop n).take j:=by
 simp only[cut,Jb]
 rw[List.drop_take]
 congr 1
 omega
theorem JpI (k:Nat) {R:Type} (no ind:Int) (text:List UInt8) (K:List Pc->Int->Int->Option R)
 (h0:0≤ind) (h1:ind≤16384) (ht:text.length≤1000000) (hk:text.length+20<k) :
 ∀(m:Nat) (s:List UInt8) (n f:Nat) (out:List Pc),text.drop n=s->s.length<m->n≤text.length->out.length≤n->s.length<f ->
  J7j k m no ind text 0 0 out text (n:Int) K=K (Yh no ind f n s out).1 (Yh no ind f n s out).2.1 (Yh no ind f n s out).2.2
 |0,s,n,f,out,_,hm,_,_,_=>by omega
 |m+1,s,n,0,out,_,_,_,_,hf=>by omega
 |m+1,s,n,f+1,out,hs,hm,hn,ho,hf=>by
  have hl:=congrArg List.length hs
  rw[List.length_drop]at hl
  rw[J7j,Jih,Yh]
  simp(disch:=omega)only[Jg,cond_true,J5z,hs,Jit]
  cases hd:dsh s with
  |true =>
   simp only[cond_true]
   cases s with
   |nil=>cases hd
   |cons c t =>
    simp only[List.length_cons]at hm hf hl
    obtain⟨hlt,_,hr⟩:=Jz hs
    have f1:∀ x:Pc,Ju out.length [x].length 48=true:=fun x=>Yc (by simp;omega) (by simp;omega)
    simp(disch:=omega)only[f1,cond_true,J8,Q4]
    rw[Jiu k text (n+1) _ (by omega) (by omega) (by omega),hr]
    have:=J8U t
    simp(disch:=omega)only[J8,JaE]
    exact JpI k no ind text K h0 h1 ht hk m (t.drop (nb t)) (n+1+nb t) f _ (by rw[←hr,List.drop_drop]) (by rw[List.length_drop];omega) (by omega) (by simp;omega) (by rw[List.length_drop];omega)
  |false =>
   simp only[cond_false]
   rw[JpF k s _ (by omega) (by omega),J0E]
   have hkl:=Jbb s
   have tail:∀(a:Nat) (s:List UInt8) (out:List Pc),text.drop a=s->a≤text.length->out.length≤1000000 ->
    (bif decide ((a:Int)≥(text.length:Int))then K out 0 0
     else bif inb (a:Int) (text.length:Int)then
      bif bif ((text.getD a 0).toNat:Int) == 39 then true else((text.getD a 0).toNat:Int) == 34 then
       J2f k s fun y14 y15 =>
        bif !y15 then K [] 3 no else bif decide ((y14.length:Int)>200)then K [] 4 no else
         bif Ju out.length 1 48 then K (out++[(3,no,ind+(a:Int),y14,true)]) 0 0 else none
      else J5f k ((text.getD a 0).toNat:Int) fun y14 =>
       bif y14 == false then bif dsh s == false then J3f k s fun y16=>bif decide (y16>0)then K [] 4 no else bif decide ((s.length:Int)>200)then K [] 4 no else
        bif Ju out.length 1 48 then K (out++[(3,no,ind+(a:Int),s,false)]) 0 0 else none
        else K [] 4 no
       else K [] 4 no
      else none)=K (Yg no ind a s out).1 (Yg no ind a s out).2.1 (Yg no ind a s out).2.2:=by
    intro a s out hs ha hout
    have hl:=congrArg List.length hs
    rw[List.length_drop]at hl
    cases s with
    |nil =>
     have:=JE hs
     simp(disch:=omega)only[J1,cond_true,Yg]
    |cons c t =>
     obtain⟨hlt,hc,_⟩:=Jz hs
     have e39:((c.toNat:Int) == 39)=(c == 39):=QA c 39 (by omega)
     have e34:((c.toNat:Int) == 34)=(c == 34):=QA c 34 (by omega)
     have f1:Ju out.length 1 48=true:=Yc (by omega) (by omega)
     have hkc:=Jbb (c::t)
     have quoted:∀ x:Option (List UInt8×List UInt8),(match x with
      |some (a',r)=>(fun(y14:List UInt8) (y15:Bool)=>bif !y15 then K [] 3 no else bif decide ((y14.length:Int)>200)then K [] 4 no else K (out++[(3,no,ind+(a:Int),y14,true)]) 0 0) a' (r == [])
      |none=>K [] 3 no)=K (YG no (ind+a) out x).1 (YG no (ind+a) out x).2.1 (YG no (ind+a) out x).2.2:=by
      intro x
      cases x with
      |none=>rfl
      |some p =>
       obtain⟨a',r⟩:=p
       simp only[YG]
       cases r == []with
       |false=>rfl
       |true =>
        simp only[Bool.not_true,cond_false]
        by_cases h2:200<a'.length
        ·simp(disch:=omega)only[J1,J2,Jl,Jh,Jm,Jn,Ja,Jg,J8,Ji,cond_true,cond_false,Bool.not_true,Bool.not_false,Bool.true_or,Bool.or_true,Bool.false_or,Bool.or_false,Bool.true_and,Bool.and_true,Bool.false_and,Bool.and_false,Jk,Jj,Jb]
        ·simp(disch:=omega)only[J1,J2,Jl,Jh,Jm,Jn,Ja,Jg,J8,Ji,cond_true,cond_false,Bool.not_true,Bool.not_false,Bool.true_or,Bool.or_true,Bool.false_or,Bool.or_false,Bool.true_and,Bool.and_true,Bool.false_and,Bool.and_false,Jk,Jj,Jb]
     simp(disch:=omega)only[J2,Ja,hc,e39,e34,f1,cond_true,cond_false,Yg]
     cases h39:c == 39 with
     |true =>
      simp only[cond_true]
      rw[(JpH k c t (by omega) (by omega) _).1 (beq_iff_eq.1 h39)]
      exact(by rw[←quoted];cases sgl [] t<;>rfl)
     |false =>
      simp only[cond_false]
      cases h34:c == 34 with
      |true =>
       simp only[cond_true]
       rw[(JpH k c t (by omega) (by omega) _).2 (beq_iff_eq.1 h34)]
       exact(by rw[←quoted];cases dbl (t.length+1) [] t<;>rfl)
      |false =>
       simp only[cond_false]
       rw[JEh k c _ (by omega)]
       cases J2J c with
       |true=>rfl
       |false =>
        cases dsh (c::t)with
        |true=>rfl
        |false =>
         simp only[J1,J2,Jl,Jh,Jm,Jn,Ja,Jg,J8,Ji,cond_true,cond_false,Bool.not_true,Bool.not_false,Bool.true_or,Bool.or_true,Bool.false_or,Bool.or_false,Bool.true_and,Bool.and_true,Bool.false_and,Bool.and_false,Jk,Jj,Jb]
         rw[JpF k (c::t) _ (by omega) (by omega)]
         by_cases h3:kS (c::t)=0
         ·simp(disch:=omega)only[J1,J2,Jl,Jh,Jm,Jn,Ja,Jg,J8,Ji,cond_true,cond_false,Bool.not_true,Bool.not_false,Bool.true_or,Bool.or_true,Bool.false_or,Bool.or_false,Bool.true_and,Bool.and_true,Bool.false_and,Bool.and_false,Jk,Jj,Jb]
          by_cases h4:200<(c::t).length
          ·simp(disch:=omega)only[J1,J2,Jl,Jh,Jm,Jn,Ja,Jg,J8,Ji,cond_true,cond_false,Bool.not_true,Bool.not_false,Bool.true_or,Bool.or_true,Bool.false_or,Bool.or_false,Bool.true_and,Bool.and_true,Bool.false_and,Bool.and_false,Jk,Jj,Jb]
          ·simp(disch:=omega)only[J1,J2,Jl,Jh,Jm,Jn,Ja,Jg,J8,Ji,cond_true,cond_false,Bool.not_true,Bool.not_false,Bool.true_or,Bool.or_true,Bool.false_or,Bool.or_false,Bool.true_and,Bool.and_true,Bool.false_and,Bool.and_false,Jk,Jj,Jb]
         ·simp(disch:=omega)only[J1,J2,Jl,Jh,Jm,Jn,Ja,Jg,J8,Ji,cond_true,cond_false,Bool.not_true,Bool.not_false,Bool.true_or,Bool.or_true,Bool.false_or,Bool.or_false,Bool.true_and,Bool.and_true,Bool.false_and,Bool.and_false,Jk,Jj,Jb]
   by_cases hz:kS s=0
   ·have:=tail n s out hs hn (by omega)
    have e0:decide (0<kS s)=false:=J2 (by omega)
    rw[e0,cond_false,←this]
    simp(disch:=omega)only[J2,cond_false,Jb,J8,List.length_singleton,Jg,cond_true,Bool.or_true]
    by_cases hge:text.length≤n
    ·simp(disch:=omega)only[J1,cond_true]
    ·simp(disch:=omega)only[J2,cond_false,Ja,cond_true,Bool.or_true,Jit,hd]
   ·have hkr:=Jmf (s:=s) (by omega)
    have e0:decide (0<kS s)=true:=J1 (by omega)
    rw[e0,cond_true]
    by_cases h64:64<kS s
    ·simp(disch:=omega)only[J1,J2,Jl,Jh,Jm,Jn,Ja,Jg,J8,Ji,cond_true,cond_false,Bool.not_true,Bool.not_false,Bool.true_or,Bool.or_true,Bool.false_or,Bool.or_false,Bool.true_and,Bool.and_true,Bool.false_and,Bool.and_false,Jk,Jj,Jb]
    ·have e64:decide (64<kS s)=false:=J2 h64
     rw[e64,cond_false]
     have hnb:=J8U (s.drop (kS s+1))
     rw[List.length_drop]at hnb
     have hr:text.drop (n+kS s+1)=s.drop (kS s+1):=by rw[←hs,List.drop_drop];congr 1
     have f1:Ju out.length 1 48=true:=Yc (by omega) (by omega)
     simp(disch:=omega)only[J1,J2,cond_false,cond_true,J8,JaE,Q4,Jg,List.length_singleton,f1,JIf,hs]
     rw[Jiu k text (n+kS s+1) _ (by omega) (by omega) (by omega),hr]
     simp(disch:=omega)only[J8,JaE]
     have e1:n+(kS s+1)+nb (s.drop (kS s+1))=n+kS s+1+nb (s.drop (kS s+1)):=by omega
     rw[e1]
     have hta:text.drop (n+kS s+1+nb (s.drop (kS s+1)))=(s.drop (kS s+1)).drop (nb (s.drop (kS s+1))):=by rw[←hr,List.drop_drop,hr]
     have:=tail (n+kS s+1+nb (s.drop (kS s+1))) _ (out++[(2,no,ind+(n:Int),s.take (kS s),false)]) hta (by omega) (by simp;omega)
     rw[←this]
     generalize n+kS s+1+nb (s.drop (kS s+1))=a at hta ⊢
     have hal:a≤text.length∨text.length<a:=by omega
     by_cases hge:text.length≤a
     ·simp(disch:=omega)only[J1,cond_true]
     ·simp(disch:=omega)only[J2,cond_false,Ja,cond_true,Bool.or_true,Jg,J5z,hta,Jit,Jb]
theorem JjW(k:Nat){R:Type}(no ind:Int)(s:List UInt8)(K:List Pc->Int->Int->Option R)(ht:s.length≤1000000)(hk:s.length+20<k):
 J89 k no ind s K=K (U7 no ind s).1 (U7 no ind s).2.1 (U7 no ind s).2.2:=by
 unfold J89 Jkl U7
 by_cases hi:ind<0∨16384<ind
 ·have e1:(bif decide (ind<0)then true else decide (ind>16384))=true:=by
   rw[Bool.cond_true_left]
   simp
   omega
  have e2:(decide (ind<0) || decide (16384<ind))=true:=by simp;omega
  rw[e1,e2]
  rfl
 ·have e1:(bif decide (ind<0)then true else decide (ind>16384))=false:=by
   rw[Bool.cond_true_left]
   simp
   omega
  have e2:(decide (ind<0) || decide (16384<ind))=false:=by simp;omega
  rw[e1,e2]
  simp only[cond_false]
  refine Eq.trans (Jiu k s 0 _ (by omega) (by omega) (by omega)) ?_
  rw[List.drop_zero]
  have hnb:=J8U s
  exact JpI k no ind s K (by omega) (by omega) ht hk k (s.drop (nb s)) (nb s) (s.length+1) [] rfl (by rw[List.length_drop];omega) hnb (by simp) (by rw[List.length_drop];omega)
end
section
open Go
theorem Ju0(no col:Int)(out:List Pc)(x:Option (List UInt8×List UInt8)): (YG no col out x).1.length≤out.length+1:=by
 unfold YG
 split
 ·simp
 ·next a r =>
  cases !(r == [])<;>simp only[cond_true,cond_false]
  ·cases decide (200<a.length)<;>simp
  ·simp
theorem Ju1(no ind:Int)(n:Nat)(s:List UInt8)(out:List Pc): (Yg no ind n s out).1.length≤out.length+s.length:=by
 unfold Yg
 split
 ·simp
 ·next c t =>
  have h1:=Ju0 no (ind+n) out (sgl [] t)
  have h2:=Ju0 no (ind+n) out (dbl (t.length+1) [] t)
  have h3:(c::t).length=t.length+1:=rfl
  cases c == 39<;>simp only[cond_true,cond_false]
  ·cases c == 34<;>simp only[cond_true,cond_false]
   ·cases(J2J c || (dsh (c::t) || decide (0<kS (c::t))))<;>simp only[cond_true,cond_false]
    ·cases decide (200<(c::t).length)<;>simp
    ·simp
   ·omega
  ·omega
theorem JHx(no ind:Int)(n:Nat)(s:List UInt8)(out:List Pc): (J0E no ind n s out).1.length≤out.length+s.length:=by
 unfold J0E
 by_cases h:0<kS s
 ·rw[J1 h,cond_true]
  have:=Jmf h
  cases decide (64<kS s)<;>simp only[cond_true,cond_false]
  ·refine Nat.le_trans (Ju1 _ _ _ _ _) ?_
   simp
   omega
  ·simp
 ·rw[J2 h,cond_false];exact Ju1 _ _ _ _ _
theorem Ju2(no ind:Int): ∀(f n:Nat) (s:List UInt8) (out:List Pc),(Yh no ind f n s out).1.length≤out.length+s.length
 |0,n,s,out=>by simp[Yh]
 |f+1,n,s,out=>by
  rw[Yh]
  cases h:dsh s with
  |false=>exact JHx _ _ _ _ _
  |true =>
   rw[cond_true]
   refine Nat.le_trans (Ju2 no ind f _ _ _) ?_
   cases s with
   |nil=>cases h
   |cons c t=>simp;omega
theorem JlH(no ind:Int)(s:List UInt8): (U7 no ind s).1.length≤s.length:=by
 unfold U7
 cases(decide (ind<0) || decide (16384<ind))with
 |true=>simp
 |false =>
  rw[cond_false]
  refine Nat.le_trans (Ju2 _ _ _ _ _ _) ?_
  simp
abbrev Ln:=Int×(Int×List UInt8)
def QX:List Ln->List Pc->Res
 |[],out=>(out,0,0)
 |l::r,out=>bif (U7 l.1 l.2.1 l.2.2).2.1 != 0 then([],(U7 l.1 l.2.1 l.2.2).2.1,(U7 l.1 l.2.1 l.2.2).2.2)else QX r (out++(U7 l.1 l.2.1 l.2.2).1)
def QC:List Ln->Nat
 |[]=>0
 |l::r=>l.2.2.length+QC r
theorem Jli:∀ {ls:List Ln} {l:Ln},l∈ls->l.2.2.length≤QC ls
 |a::r,l,h=>by
  rw[QC]
  rcases List.mem_cons.1 h with rfl|h
  ·omega
  ·have:=Jli h;omega
 |[],l,h=>by cases h
theorem Jri(k:Nat){R:Type}(a b:Int)(ls:List Ln)(K:List Pc->Int->Int->Option R)(hl:ls.length≤1000000)(hk:QC ls+20<k)(ht:QC ls≤1000000):
 ∀(t:List Ln) (n m:Nat) (out:List Pc),ls.drop n=t->t.length<m->n≤ls.length->out.length+QC t≤1000000->J4V k m a b out ls (ls.length:Int) (n:Int) K=K (QX t out).1 (QX t out).2.1 (QX t out).2.2
 |t,n,0,out,_,hm,_,_=>by omega
 |[],n,m+1,out,hd,hm,hn,ho=>by
  have:=JE hd
  rw[J4V,Jea]
  simp(disch:=omega)only[J1,J2,Jl,Jh,Jm,Jn,Ja,Jg,J8,Ji,cond_true,cond_false,Bool.not_true,Bool.not_false,Bool.true_or,Bool.or_true,Bool.false_or,Bool.or_false,Bool.true_and,Bool.and_true,Bool.false_and,Bool.and_false,Jk,Jj,Jb]
  rfl
 |c::r,n,m+1,out,hd,hm,hn,ho=>by
  obtain⟨hlt,hc,hr⟩:=Jz hd
  rw[QC]at ho
  have hmem:c∈ls:=by
   have:=hc c
   rw[List.getD_eq_getElem?_getD,List.getElem?_eq_getElem hlt]at this
   exact this ▸ List.getElem_mem hlt
  have hcl:=Jli hmem
  have hrl:=JlH c.1 c.2.1 c.2.2
  rw[J4V,Jea]
  simp(disch:=omega)only[J1,Ja,cond_true,hc,Jb]
  rw[JsD k c.1 c.2.1 c.2.2 _ (by omega) (by omega),QX]
  cases(U7 c.1 c.2.1 c.2.2).2.1 != 0 with
  |true=>rfl
  |false =>
   simp only[cond_false]
   rw[Yc (by omega) (by omega),cond_true]
   simp(disch:=omega)only[J8,Q4]
   exact Jri k a b ls K hl hk ht r (n+1) m _ hr (by simp at hm;omega) (by omega) (by simp;omega)
theorem JGb(k:Nat){R:Type}(ls:List Ln)(K:List Pc->Int->Int->Option R)(hl:ls.length≤1000000)(hk:QC ls+20<k)(hk2:ls.length<k)(ht:QC ls≤1000000): Jau k ls K=K (QX ls []).1 (QX ls []).2.1 (QX ls []).2.2:=by
 unfold Jau Jlg
 exact Jri k 0 0 ls K hl hk ht ls 0 k [] rfl hk2 (Nat.zero_le _) (by simpa using ht)
theorem JoJ(k:Nat){R:Type}(a b:Int)(ls:List Ln)(K:List Pc->Int->Int->Option R)(hl:ls.length≤1000000)(hk:QC ls+20<k)(ht:QC ls≤1000000):
 ∀(t:List Ln) (n m:Nat) (out:List Pc),ls.drop n=t->t.length<m->n≤ls.length->out.length+QC t≤1000000->J4e k m ls a b out (n:Int) K=K (QX t out).1 (QX t out).2.1 (QX t out).2.2
 |t,n,0,out,_,hm,_,_=>by omega
 |[],n,m+1,out,hd,hm,hn,ho=>by
  have:=JE hd
  rw[J4e,JcG]
  simp(disch:=omega)only[J1,J2,Jl,Jh,Jm,Jn,Ja,Jg,J8,Ji,cond_true,cond_false,Bool.not_true,Bool.not_false,Bool.true_or,Bool.or_true,Bool.false_or,Bool.or_false,Bool.true_and,Bool.and_true,Bool.false_and,Bool.and_false,Jk,Jj,Jb]
  rfl
 |c::r,n,m+1,out,hd,hm,hn,ho=>by
  obtain⟨hlt,hc,hr⟩:=Jz hd
  rw[QC]at ho
  have hmem:c∈ls:=by
   have:=hc c
   rw[List.getD_eq_getElem?_getD,List.getElem?_eq_getElem hlt]at this
   exact this ▸ List.getElem_mem hlt
  have hcl:=Jli hmem
  have hrl:=JlH c.1 c.2.1 c.2.2
  rw[J4e,JcG]
  simp(disch:=omega)only[J1,Ja,cond_true,hc,Jb]
  rw[JjW k c.1 c.2.1 c.2.2 _ (by omega) (by omega),QX]
  cases(U7 c.1 c.2.1 c.2.2).2.1 != 0 with
  |true=>rfl
  |false =>
   simp only[cond_false]
   rw[Yc (by omega) (by omega),cond_true]
   simp(disch:=omega)only[J8,Q4]
   exact JoJ k a b ls K hl hk ht r (n+1) m _ hr (by simp at hm;omega) (by omega) (by simp;omega)
theorem JBm(k:Nat){R:Type}(ls:List Ln)(K:List Pc->Int->Int->Option R)(hl:ls.length≤1000000)(hk:QC ls+20<k)(hk2:ls.length<k)(ht:QC ls≤1000000): J9J k ls K=K (QX ls []).1 (QX ls []).2.1 (QX ls []).2.2:=by
 unfold J9J JiP
 exact JoJ k 0 0 ls K hl hk ht ls 0 k [] rfl hk2 (Nat.zero_le _) (by simpa using ht)
end
section
open Go
theorem JuJ(c d:UInt8): ((c.toNat:Int) == (d.toNat:Int))=(c == d):=by
 rw[Bool.eq_iff_iff]
 simp only[beq_iff_eq]
 constructor
 ·intro h;exact UInt8.toNat_inj.1 (by omega)
 ·intro h;rw[h]
theorem Jfg(c d:UInt8): ((c.toNat:Int) != (d.toNat:Int)) = !(c == d):=by rw[bne,JuJ]
end
section
open Go
theorem JEi(l:List UInt8)(n:Nat): (Js l).drop n=Js (l.drop n):=by simp[Js,List.map_drop]
theorem JEj(l:List UInt8)(n:Nat): (Js l).take n=Js (l.take n):=by simp[Js,List.map_take]
theorem JHy{x:List Int}(h:∀ y∈x,(0:Int)≤y∧y≤255): ∃ t,x=Js t:=by
 refine⟨Q5 x,?_⟩
 unfold Q5 Js
 rw[List.map_map]
 symm
 refine(List.map_congr_left fun y hy => ?_).trans (List.map_id x)
 have:=h y hy
 simp only[Function.comp,UInt8.toNat_ofNat',id]
 omega
end
section
open Go
def spl:List UInt8->List (List UInt8)
 |[]=>[[]]
 |x::r=>bif x == 10 then[]::spl r else(match spl r with
  |p::ps=>(x::p)::ps
  |[]=>[[x]])
theorem Jfh:∀ s:List UInt8,spl s=if Jp 10 s<s.length then s.take (Jp 10 s)::spl (s.drop (Jp 10 s+1))else[s]
 |[]=>rfl
 |x::r=>by
  rw[spl,Jp]
  cases h:x == 10 with
  |true=>simp
  |false =>
   rw[cond_false,cond_false,Jfh r]
   by_cases hl:Jp 10 r<r.length
   ·rw[if_pos hl,if_pos (by simpa using hl)]
    rfl
   ·rw[if_neg hl,if_neg (by simpa using hl)]
theorem JsE:∀ s:List UInt8,s.count 10=if Jp 10 s<s.length then(s.drop (Jp 10 s+1)).count 10+1 else 0
 |[]=>rfl
 |x::r=>by
  rw[List.count_cons,Jp]
  cases h:x == 10 with
  |true=>simp
  |false =>
   rw[cond_false,JsE r]
   simp only[Bool.false_eq_true,if_false,Nat.add_zero]
   by_cases hl:Jp 10 r<r.length
   ·rw[if_pos hl,if_pos (by simpa using hl)]
    simp
   ·rw[if_neg hl,if_neg (by simpa using hl)]
theorem JHz(k:Nat){R:Type}(s:List UInt8)(K:Int->Option R): J9Q k (Js s) 10 K=K (if Jp 10 s<s.length then(Jp 10 s:Int)else -1):=by
 have:J9Q k (Js s) 10 K=K (YW (Q5 (Js s)) 10):=rfl
 rw[this,J28]
 have:=JfP s 10
 rw[←this];rfl
theorem Ju3{α : Type}(l:List α)(i:Nat)(x : α)(h:i<l.length): (l.set i x).take (i+1)=l.take i++[x]:=by
 rw[List.take_add_one,List.take_set_of_le (Nat.le_refl _)]
 simp[h]
theorem JD2(k:Nat){R:Type}(K:List (List Int)->Option R): ∀(n:Nat) (s:List UInt8) (i c:Nat) (arr:List (List Int)),s.count 10=c->arr.length=i+c+1->c<n->s.length+i+c≤1000000 ->
 J6x k n (Js s) 10 0 ((i+c:Nat):Int) arr (i:Int) K=K (arr.take i++(spl s).map Js):=by
 intro n
 induction n with
 |zero=>intro s i c arr _ _ h;omega
 |succ n ih =>
  intro s i c arr hc ha hn hl
  rw[J6x]
  unfold Jh0
  rw[JsE]at hc
  by_cases hu:Jp 10 s<s.length
  ·rw[if_pos hu]at hc
   obtain⟨c',rfl⟩:∃ c',c=c'+1:=⟨c-1,by omega⟩
   rw[JHz,if_pos hu,Jfh,if_pos hu]
   have hd:decide ((i:Int)<((i+(c'+1):Nat):Int))=true:=J1 (by omega)
   have hu0:decide ((Jp 10 s:Int)<0)=false:=J2 (by omega)
   have w0:IntKind.i64.wrap ((Jp 10 s:Int)+0)=(Jp 10 s:Int):=by rw[J8 (by omega) (by omega)];omega
   have w1:IntKind.i64.wrap ((Jp 10 s:Int)+(([10]:List Int).length:Int))=((Jp 10 s+1:Nat):Int):=by rw[J8 (by simp;omega) (by simp;omega)];simp
   have w2:IntKind.i64.wrap ((i:Int)+1)=((i+1:Nat):Int):=by rw[J8 (by omega) (by omega)];omega
   have b1:bnd 0 (Jp 10 s:Int) (Jp 10 s:Int)=true:=Jg (by omega) (by omega) (by omega)
   have d1:decide ((Jp 10 s:Int)≤((Js s).length:Int))=true:=J1 (by rw[Y8];omega)
   have i1:inb (i:Int) (arr.length:Int)=true:=Ja (by omega) (by omega)
   have b2:bnd ((Jp 10 s+1:Nat):Int) ((Js s).length:Int) ((Js s).length:Int)=true:=Jg (by omega) (by rw[Y8];omega) (by omega)
   simp only[hd,hu0,w0,w1,w2,b1,d1,i1,b2,cond_true,cond_false,Bool.and_true,Bool.and_self]
   rw[J5z,J12,JEi,JEj,Jb]
   have e:((i+(c'+1):Nat):Int)=(((i+1)+c':Nat):Int):=by omega
   rw[e,ih _ (i+1) c' _ (by omega) (by rw[List.length_set];omega) (by omega) (by rw[List.length_drop];omega),Ju3 _ _ _ (by omega)]
   simp
  ·rw[if_neg hu]at hc
   subst hc
   rw[Jfh,if_neg hu]
   have hd:decide ((i:Int)<((i+0:Nat):Int))=false:=J2 (by omega)
   have w2:IntKind.i64.wrap ((i:Int)+1)=((i+1:Nat):Int):=by rw[J8 (by omega) (by omega)];omega
   have i1:inb (i:Int) (arr.length:Int)=true:=Ja (by omega) (by omega)
   have b2:∀ z,bnd 0 ((i+1:Nat):Int) ((arr.set (i:Int).toNat z).length:Int)=true:=fun z=>Jg (by omega) (by omega) (by rw[List.length_set];omega)
   simp only[hd,w2,i1,b2,cond_true,cond_false]
   rw[J12,Jb,Ju3 _ _ _ (by omega)]
   rfl
theorem JHA(k:Nat){R:Type}(s:List UInt8)(hs:s.length≤100000)(hk:s.length<k)(K:List (List Int)->Option R): J9R k (Js s) 10 K=K ((spl s).map Js):=by
 unfold J9R Jqd JdI Jie
 have hcl:s.count 10≤s.length:=List.count_le_length
 have hcnt:J9P k (Js s) 10=fun(K:Int->Option R)=>K ((s.count 10:Nat):Int):=by
  funext K
  have:J9P k (Js s) 10 K=K (Jnj (Q5 (Js s)) 10):=rfl
  rw[this,J28];rfl
 rw[hcnt,Y8]
 have z0:((-1:Int) == 0)=false:=rfl
 have z1:decide ((-1:Int)<0)=true:=rfl
 have w1:IntKind.i64.wrap (((s.count 10:Nat):Int)+1)=((s.count 10+1:Nat):Int):=by rw[J8 (by omega) (by omega)];omega
 have w2:IntKind.i64.wrap ((s.length:Int)+1)=((s.length+1:Nat):Int):=by rw[J8 (by omega) (by omega)];omega
 have hmin:(if((s.length+1:Nat):Int)<((s.count 10+1:Nat):Int)then((s.length+1:Nat):Int)else((s.count 10+1:Nat):Int))=((s.count 10+1:Nat):Int):=by
  rw[if_neg (by omega)]
 simp only[z0,z1,cond_true,cond_false,w1,w2,hmin]
 have hm:mkB ((s.count 10+1:Nat):Int) ((s.count 10+1:Nat):Int) 24=true:=by
  simp only[mkB,Bool.and_eq_true,decide_eq_true_eq];omega
 have w3:IntKind.i64.wrap (((s.count 10+1:Nat):Int)-1)=((0+s.count 10:Nat):Int):=by rw[J8 (by omega) (by omega)];omega
 rw[hm,cond_true,w3]
 have:=JD2 k K k s 0 (s.count 10) (zeros (Kd.int IntKind.u8).sl ((s.count 10+1:Nat):Int)) rfl (by simp[zeros]) (by omega) (by omega)
 exact this
end
section
open Go
theorem JsF(s:ByteArray)(i:Nat)(h:(s.get! i).toNat<128): Utf8.decode s i=((s.get! i).toNat,1):=by
 unfold Utf8.decode
 simp only[Nat.add_zero]
 rw[if_pos (by omega)]
theorem JrZ(s:ByteArray)(i:Nat)(h:128≤(s.get! i).toNat): 128≤(Utf8.decode s i).1∧∀ j,i<j->j<i+(Utf8.decode s i).2->128≤(s.get! j).toNat:=by
 have ct:∀ k,(decide (i+k<s.size)&&((s.get! (i+k)).toNat / 64 == 2))=true->128≤(s.get! (i+k)).toNat:=by
  intro k hk
  simp only[Bool.and_eq_true,beq_iff_eq]at hk
  omega
 unfold Utf8.decode
 simp only[Nat.add_zero]
 rw[if_neg (by omega)]
 split
 ·next h1 =>
  simp only[Bool.and_eq_true]at h1
  have c1:=ct 1 (by simpa using h1.2)
  split
  ·next h2 =>
   refine⟨h2,fun j j1 j2 => ?_⟩
   obtain rfl:j=i+1:=by omega
   exact c1
  ·exact⟨by decide,fun j j1 j2=>by omega⟩
 ·split
  ·next h1 =>
   simp only[Bool.and_eq_true]at h1
   have c1:=ct 1 (by simpa using h1.1.2)
   have c2:=ct 2 (by simpa using h1.2)
   split
   ·next h2 =>
    simp only[Bool.and_eq_true,decide_eq_true_eq]at h2
    refine⟨by omega,fun j j1 j2 => ?_⟩
    rcases(show j=i+1∨j=i+2 by omega)with rfl|rfl
    ·exact c1
    ·exact c2
   ·exact⟨by decide,fun j j1 j2=>by omega⟩
  ·split
   ·next h1 =>
    simp only[Bool.and_eq_true]at h1
    have c1:=ct 1 (by simpa using h1.1.1.2)
    have c2:=ct 2 (by simpa using h1.1.2)
    have c3:=ct 3 (by simpa using h1.2)
    split
    ·next h2 =>
     simp only[Bool.and_eq_true,decide_eq_true_eq]at h2
     refine⟨by omega,fun j j1 j2 => ?_⟩
     rcases(show j=i+1∨j=i+2∨j=i+3 by omega)with rfl|rfl|rfl
     ·exact c1
     ·exact c2
     ·exact c3
    ·exact⟨by decide,fun j j1 j2=>by omega⟩
   ·exact⟨by decide,fun j j1 j2=>by omega⟩
theorem JfS(l:List UInt8)(i:Nat)(h:i<l.length): (⟨l.toArray⟩:ByteArray).get! i=l.getD i 0:=by
 show(l.toArray)[i]! = _
 rw[getElem!_pos l.toArray i (by simpa using h)]
 simp[List.getD,h]
end
section
open Go
def bad(c:UInt8): Bool:=J1h c.toNat
theorem Jlj{n:Nat}(h:128≤n): J1h n=false:=by
 have h1:decide ((n:Int)≥0)=true:=J1 (by omega)
 have h2:decide ((n:Int)<32)=false:=J2 (by omega)
 have h3:((n:Int) == 127)=false:=Jh (by omega)
 rw[J1h,h1,h2,h3];rfl
theorem Ju4(l:List UInt8)(p:UInt8->Bool): ∀(w pos:Nat),(∀ j,pos≤j->j<pos+w->j<l.length->p (l.getD j 0)=false)->(l.drop pos).any p=(l.drop (pos+w)).any p
 |0,pos,h=>rfl
 |w+1,pos,h=>by
  rw[show pos+(w+1)=(pos+1)+w by omega,←Ju4 l p w (pos+1) fun j h1 h2 h3=>h j (by omega) (by omega) h3]
  by_cases hl:pos<l.length
  ·rw[List.drop_eq_getElem_cons hl,List.any_cons]
   have:=h pos (Nat.le_refl _) (by omega) hl
   simp only[List.getD,List.getElem?_eq_getElem hl,Option.getD_some]at this
   rw[this,Bool.false_or]
  ·rw[List.drop_eq_nil_of_le (by omega),List.drop_eq_nil_of_le (by omega)]
theorem JlI(l:List UInt8): ∀(f pos:Nat),l.length≤pos+f->decide (Lib.idxFuncFrom J1h true ⟨l.toArray⟩ f pos≥0)=(l.drop pos).any bad
 |0,pos,h=>by
  rw[List.drop_eq_nil_of_le (by omega)]
  rfl
 |f+1,pos,h=>by
  rw[Lib.idxFuncFrom]
  have hsz:(⟨l.toArray⟩:ByteArray).size=l.length:=rfl
  rw[hsz]
  by_cases hl:pos<l.length
  ·rw[if_pos hl]
   have hg:=JfS l pos hl
   by_cases hb:(l.getD pos 0).toNat<128
   ·rw[JsF _ _ (by rw[hg];exact hb),hg]
    have hd:l.drop pos=l.getD pos 0::l.drop (pos+1):=by
     rw[List.drop_eq_getElem_cons hl];simp[List.getD,hl]
    rw[hd,List.any_cons]
    cases ho:J1h (l.getD pos 0).toNat with
    |true =>
     have:bad (l.getD pos 0)=true:=ho
     rw[this,if_pos rfl]
     simp
    |false =>
     have:bad (l.getD pos 0)=false:=ho
     rw[this,if_neg (by simp),JlI l f (pos+1) (by omega),Bool.false_or]
   ·obtain⟨r1,r2⟩:=JrZ ⟨l.toArray⟩ pos (by rw[hg];omega)
    rw[Jlj r1,if_neg (by simp),JlI l f _ (by have:=Lib.width_pos ⟨l.toArray⟩ pos;omega)]
    symm
    refine Ju4 l bad _ pos fun j j1 j2 j3 => ?_
    by_cases hj:j=pos
    ·subst hj;exact Jlj (by omega)
    ·have:=r2 j (by omega) j2
     rw[JfS l j j3]at this
     exact Jlj this
  ·rw[if_neg hl,List.drop_eq_nil_of_le (by omega)]
   rfl
theorem JGc(l:List UInt8): decide (JfO l≥0)=l.any bad:=JlI l l.length 0 (by omega)
end
section
open Go
def qS(c:UInt8): List UInt8->Nat->Option Nat
 |[],_=>none
 |[x],i=>bif c == 34&&x == 92 then none else bif !(x == c)then none else some i
 |x::y::r,i=>bif c == 34&&x == 92 then qS c r (i+2)else bif !(x == c)then qS c (y::r) (i+1)else bif c == 39&&y == c then qS c r (i+2)else some i
def qK{R:Type}(K:Int->Bool->Option R)(d:Int): Option Nat->Option R
 |some j=>K (j+d) true
 |none=>K 0 false
theorem J5Q(c:UInt8): ((c.toNat:Int) == 34)=(c == 34):=QA c 34 (by omega)
theorem J5R(c:UInt8): ((c.toNat:Int) == 39)=(c == 39):=QA c 39 (by omega)
theorem Jg9(c:UInt8): ((c.toNat:Int) == 92)=(c == 92):=QA c 92 (by omega)
theorem Jn0(c:UInt8): ((c.toNat:Int) == 35)=(c == 35):=QA c 35 (by omega)
theorem Jbc(c:UInt8): ((c.toNat:Int) == 32)=(c == 32):=QA c 32 (by omega)
theorem JJD(c:UInt8): ((c.toNat:Int) != 32) = !(c == 32):=J5H c 32 (by omega)
theorem Jfi(c:UInt8): ∀(r:List UInt8) (i j:Nat),qS c r i=some j->i≤j∧j<i+r.length
 |[],i,j,h=>by cases h
 |[x],i,j,h=>by
  unfold qS at h
  cases h1:(c == 34&&x == 92)<;>rw[h1]at h<;>simp only[cond_true,cond_false]at h
  ·cases h2:(x == c)<;>rw[h2]at h<;>simp at h
   simp;omega
  ·cases h
 |x::y::r,i,j,h=>by
  unfold qS at h
  cases h1:(c == 34&&x == 92)<;>rw[h1]at h<;>simp only[cond_true,cond_false]at h
  ·cases h2:(x == c)<;>rw[h2]at h<;>simp only[Bool.not_true,Bool.not_false,cond_true,cond_false]at h
   ·have:=Jfi c (y::r) _ _ h
    simp at this ⊢;omega
   ·cases h3:(c == 39&&y == c)<;>rw[h3]at h<;>simp only[cond_true,cond_false]at h
    ·cases h;simp
    ·have:=Jfi c r _ _ h
     simp at this ⊢;omega
  ·have:=Jfi c r _ _ h
   simp at this ⊢;omega
theorem JAT(k:Nat){R:Type}(s:List UInt8)(c:UInt8)(hs:s.length≤1000000)(K:Int->Bool->Option R): ∀(n:Nat) (r:List UInt8) (i:Nat),s.drop i=r->i≤s.length+1->r.length<n ->
 J6T k n s (c.toNat:Int) (i:Int) K=qK K 0 (qS c r i):=by
 intro n
 induction n with
 |zero=>intro r i _ _ h;omega
 |succ n ih =>
  intro r i hr hi hn
  rw[J6T]
  unfold JhD
  match r,hr,hn with
  |[],hr,hn =>
   have:=JE hr
   simp(disch:=omega)only[J1,J2,Jl,Jh,Jm,Jn,Ja,Jg,J8,Ji,cond_true,cond_false,Bool.not_true,Bool.not_false,Bool.true_or,Bool.or_true,Bool.false_or,Bool.or_false,Bool.true_and,Bool.and_true,Bool.false_and,Bool.and_false,Jk,Jj,Jb,qS,qK]
  |[x],hr,hn =>
   obtain⟨h1,h2,h3⟩:=Jz hr
   have h4:=JE h3
   simp(disch:=omega)only[J1,J2,Jl,Jh,Jm,Jn,Ja,Jg,J8,Ji,cond_true,cond_false,Bool.not_true,Bool.not_false,Bool.true_or,Bool.or_true,Bool.false_or,Bool.or_false,Bool.true_and,Bool.and_true,Bool.false_and,Bool.and_false,Jk,Jj,Jb,h2,J5Q,Jg9,J5R,Jfg]
   have e1:=ih [] (i+1) h3 (by omega) (by simp at hn ⊢;omega)
   have e2:=ih [] (i+2) (by rw[List.drop_eq_nil_of_le (by omega)]) (by omega) (by simp at hn ⊢;omega)
   have c1:((i:Int)+1)=((i+1:Nat):Int):=by omega
   have c2:((i:Int)+1+1)=((i+2:Nat):Int):=by omega
   rw[c2,c1,e1,e2]
   unfold qS
   have h5:decide (((i+1:Nat):Int)<(s.length:Int))=false:=J2 (by omega)
   cases h6:(c == 34)<;>cases h7:(x == 92)<;>cases h8:(x == c)<;>cases h9:(c == 39)<;>simp[h5,qS,qK]
  |x::y::r,hr,hn =>
   obtain⟨h1,h2,h3⟩:=Jz hr
   obtain⟨g1,g2,g3⟩:=Jz h3
   simp(disch:=omega)only[J1,J2,Jl,Jh,Jm,Jn,Ja,Jg,J8,Ji,cond_true,cond_false,Bool.not_true,Bool.not_false,Bool.true_or,Bool.or_true,Bool.false_or,Bool.or_false,Bool.true_and,Bool.and_true,Bool.false_and,Bool.and_false,Jk,Jj,Jb,h2,J5Q,Jg9,J5R,Jfg]
   have e1:=ih (y::r) (i+1) h3 (by omega) (by simp at hn ⊢;omega)
   have e2:=ih r (i+2) g3 (by omega) (by simp at hn ⊢;omega)
   have c1:((i:Int)+1)=((i+1:Nat):Int):=by omega
   have c2:((i:Int)+1+1)=((i+2:Nat):Int):=by omega
   rw[c2,c1,e1,e2,Jb,g2,JuJ]
   rw[qS]
   cases h6:(c == 34)<;>cases h7:(x == 92)<;>cases h8:(x == c)<;>cases h9:(c == 39)<;>cases h10:(y == c)<;>simp[qK]
theorem JAq(k:Nat){R:Type}(s:List UInt8)(c:UInt8)(hs:s.length≤1000000)(K:Int->Bool->Option R): ∀(n:Nat) (r:List UInt8) (i:Nat),s.drop i=r->i≤s.length+1->r.length<n ->
 J6G k n s (c.toNat:Int) (i:Int) K=qK K 1 (qS c r i):=by
 intro n
 induction n with
 |zero=>intro r i _ _ h;omega
 |succ n ih =>
  intro r i hr hi hn
  rw[J6G]
  unfold Jhk
  match r,hr,hn with
  |[],hr,hn =>
   have:=JE hr
   simp(disch:=omega)only[J1,J2,Jl,Jh,Jm,Jn,Ja,Jg,J8,Ji,cond_true,cond_false,Bool.not_true,Bool.not_false,Bool.true_or,Bool.or_true,Bool.false_or,Bool.or_false,Bool.true_and,Bool.and_true,Bool.false_and,Bool.and_false,Jk,Jj,Jb,qS,qK]
  |[x],hr,hn =>
   obtain⟨h1,h2,h3⟩:=Jz hr
   have h4:=JE h3
   simp(disch:=omega)only[J1,J2,Jl,Jh,Jm,Jn,Ja,Jg,J8,Ji,cond_true,cond_false,Bool.not_true,Bool.not_false,Bool.true_or,Bool.or_true,Bool.false_or,Bool.or_false,Bool.true_and,Bool.and_true,Bool.false_and,Bool.and_false,Jk,Jj,Jb,h2,J5Q,Jg9,J5R,Jfg]
   have e1:=ih [] (i+1) h3 (by omega) (by simp at hn ⊢;omega)
   have e2:=ih [] (i+2) (by rw[List.drop_eq_nil_of_le (by omega)]) (by omega) (by simp at hn ⊢;omega)
   have c1:((i:Int)+1)=((i+1:Nat):Int):=by omega
   have c2:((i:Int)+1+1)=((i+2:Nat):Int):=by omega
   rw[c2,c1,e1,e2]
   unfold qS
   have h5:decide (((i+1:Nat):Int)<(s.length:Int))=false:=J2 (by omega)
   cases h6:(c == 34)<;>cases h7:(x == 92)<;>cases h8:(x == c)<;>cases h9:(c == 39)<;>simp[h5,qS,qK]
  |x::y::r,hr,hn =>
   obtain⟨h1,h2,h3⟩:=Jz hr
   obtain⟨g1,g2,g3⟩:=Jz h3
   simp(disch:=omega)only[J1,J2,Jl,Jh,Jm,Jn,Ja,Jg,J8,Ji,cond_true,cond_false,Bool.not_true,Bool.not_false,Bool.true_or,Bool.or_true,Bool.false_or,Bool.or_false,Bool.true_and,Bool.and_true,Bool.false_and,Bool.and_false,Jk,Jj,Jb,h2,J5Q,Jg9,J5R,Jfg]
   have e1:=ih (y::r) (i+1) h3 (by omega) (by simp at hn ⊢;omega)
   have e2:=ih r (i+2) g3 (by omega) (by simp at hn ⊢;omega)
   have c1:((i:Int)+1)=((i+1:Nat):Int):=by omega
   have c2:((i:Int)+1+1)=((i+2:Nat):Int):=by omega
   rw[c2,c1,e1,e2,Jb,g2]
   rw[qS]
   cases h9:(c == 39)with
   |false=>cases h6:(c == 34)<;>cases h7:(x == 92)<;>cases h8:(x == c)<;>simp[qK]
   |true =>
    have:=beq_iff_eq.1 h9
    subst this
    cases h7:(x == 92)<;>cases h8:(x == 39)<;>cases h10:(y == 39)<;>simp[qK]
def qAt(s:List UInt8)(i:Nat): Option Nat:=qS (s.getD i 0) (s.drop (i+1)) (i+1)
theorem JpJ(k:Nat){R:Type}(s:List UInt8)(i:Nat)(hs:s.length≤1000000)(hi:i<s.length)(hk:s.length<k)(K:Int->Bool->Option R): J7E k s i K=qK K 0 (qAt s i):=by
 unfold J7E Jjb
 simp(disch:=omega)only[J1,J2,Jl,Jh,Jm,Jn,Ja,Jg,J8,Ji,cond_true,cond_false,Bool.not_true,Bool.not_false,Bool.true_or,Bool.or_true,Bool.false_or,Bool.or_false,Bool.true_and,Bool.and_true,Bool.false_and,Bool.and_false,Jk,Jj,Jb]
 rw[Q4,JAT k s _ hs K k _ (i+1) rfl (by omega) (by rw[List.length_drop];omega)]
 rfl
theorem JBn(k:Nat){R:Type}(s:List UInt8)(i:Nat)(hs:s.length≤1000000)(hi:i<s.length)(hk:s.length<k)(K:Int->Bool->Option R): J9I k s i K=qK K 1 (qAt s i):=by
 unfold J9I JiM
 simp(disch:=omega)only[J1,J2,Jl,Jh,Jm,Jn,Ja,Jg,J8,Ji,cond_true,cond_false,Bool.not_true,Bool.not_false,Bool.true_or,Bool.or_true,Bool.false_or,Bool.or_false,Bool.true_and,Bool.and_true,Bool.false_and,Bool.and_false,Jk,Jj,Jb]
 rw[Q4,JAq k s _ hs K k _ (i+1) rfl (by omega) (by rw[List.length_drop];omega)]
 rfl
theorem Jlk{s:List UInt8}{i j:Nat}(h:qAt s i=some j): i<j∧j<s.length:=by
 have:=Jfi _ _ _ _ h
 rw[List.length_drop]at this
 omega
end
section
open Go
def rt(l:List UInt8): List UInt8:=(l.reverse.dropWhile (· == 32)).reverse
theorem JIZ:rt []=[]:=rfl
theorem Jvq(l:List UInt8)(x:UInt8): rt (l++[x])=bif x == 32 then rt l else l++[x]:=by
 unfold rt
 rw[List.reverse_append,List.reverse_singleton,List.singleton_append,List.dropWhile_cons]
 cases x == 32<;>simp
theorem JGX(l:List UInt8)(x d:UInt8): (l++[x]).getD l.length d=x:=by simp[List.getD]
theorem JGd(k:Nat){R:Type}(K:List UInt8->Option R): ∀(n:Nat) (l:List UInt8),l.length≤1000000->l.length<n->J6b k n l 32 K=K (rt l):=by
 intro n
 induction n with
 |zero=>intro l _ h;omega
 |succ n ih =>
  intro l hl hn
  rw[J6b]
  unfold JgJ
  rcases List.eq_nil_or_concat l with rfl|⟨l',x,rfl⟩
  ·simp[JIZ]
  ·rw[List.concat_eq_append]at *
   have hlen:(l'++[x]).length=l'.length+1:=by simp
   rw[hlen]at hl hn
   simp(disch:=omega)only[J1,J2,Jl,Jh,Jm,Jn,Ja,Jg,J8,Ji,cond_true,cond_false,Bool.not_true,Bool.not_false,Bool.true_or,Bool.or_true,Bool.false_or,Bool.or_false,Bool.true_and,Bool.and_true,Bool.false_and,Bool.and_false,Jk,Jj,Jb,hlen]
   have e1:(((l'.length+1:Nat):Int)-1)=(l'.length:Int):=by omega
   simp(disch:=omega)only[J1,J2,Jl,Jh,Jm,Jn,Ja,Jg,J8,Ji,cond_true,cond_false,Bool.not_true,Bool.not_false,Bool.true_or,Bool.or_true,Bool.false_or,Bool.or_false,Bool.true_and,Bool.and_true,Bool.false_and,Bool.and_false,Jk,Jj,Jb,e1,JGX,Jbc]
   rw[J12,List.take_left' rfl,ih l' (by omega) (by omega),Jvq]
   cases x == 32<;>rfl
theorem JlJ(k:Nat){R:Type}(l:List UInt8)(hl:l.length≤1000000)(hk:l.length<k)(K:List UInt8->Option R): J6F k l 32 K=K (rt l):=by
 unfold J6F Joa Jc1 JgR
 cases l with
 |nil=>rfl
 |cons x r =>
  have e2:(((([32]:List UInt8).getD (Int.toNat 0) 0).toNat:Nat):Int)=32:=rfl
  simp only[e2,show((x::r) == ([]:List UInt8))=false from rfl,show(([32]:List UInt8) == [])=false from rfl,show((([32]:List UInt8).length:Int) == 1)=true from rfl,show decide ((32:Int)<128)=true from rfl,cond_false,cond_true]
  exact JGd k K k _ hl hk
def J5S(s:List UInt8)(i:Nat): Bool:=i == 0 || s.getD (i-1) 0 == 32
def stS(s:List UInt8): Nat->Nat->Option Nat
 |0,_=>some s.length
 |n+1,i=>bif Nat.ble s.length i then some s.length else
  bif !J5S s i then stS s n (i+1)else
  bif s.getD i 0 == 35 then some i else
  bif s.getD i 0 == 39 || s.getD i 0 == 34 then(match qAt s i with
   |some j=>stS s n (j+1)
   |none=>none)else stS s n (i+1)
def stK{R:Type}(s:List UInt8)(K:List UInt8->Bool->Option R): Option Nat->Option R
 |some e=>K (rt (s.take e)) true
 |none=>K [] false
theorem Jn1{a b:Nat}(h:b<a): Nat.ble a b=false:=by
 cases hb:Nat.ble a b with
 |false=>rfl
 |true=>have:=Nat.le_of_ble_eq_true hb;omega
theorem Jn2{a b:Nat}(h:a≤b): Nat.ble a b=true:=Nat.ble_eq_true_of_le h
theorem JBo(k:Nat){R:Type}(s:List UInt8)(hs:s.length≤1000000)(hk:s.length<k)(K:List UInt8->Bool->Option R): ∀(n i:Nat),i≤s.length->s.length<i+n ->
 J1t k n s (s.length:Int) (i:Int) K=stK s K (stS s n i):=by
 intro n
 induction n with
 |zero=>intro i _ h;omega
 |succ n ih =>
  intro i hi hn
  rw[J1t]
  unfold JhZ
  by_cases h:i<s.length
  ·have hb:=Jn1 h
   rw[stS,hb,cond_false]
   have st1:=ih (i+1) (by omega) (by omega)
   have c1:((i:Int)+1)=((i+1:Nat):Int):=by omega
   have hg:bnd 0 (i:Int) (s.length:Int)=true:=Jg (by omega) (by omega) (by omega)
   have hcut:(cut s 0 (i:Int)).length≤1000000∧(cut s 0 (i:Int)).length<k:=by rw[J12,List.length_take];omega
   have tail:(bif (s.getD i 0:UInt8) == 35 then K (rt (s.take i)) true else bif (s.getD i 0:UInt8) == 39 then qK (fun y7 y8=>bif !y8 then K [] false else J1t k n s (s.length:Int) (IntKind.i64.wrap (y7+1)) K) 0 (qAt s i)else bif (s.getD i 0:UInt8) == 34 then qK (fun y7 y8=>bif !y8 then K [] false else J1t k n s (s.length:Int) (IntKind.i64.wrap (y7+1)) K) 0 (qAt s i)else J1t k n s (s.length:Int) ((i+1:Nat):Int) K) =
    stK s K (bif s.getD i 0 == 35 then some i else bif s.getD i 0 == 39 || s.getD i 0 == 34 then(match qAt s i with|some j=>stS s n (j+1)|none=>none)else stS s n (i+1)):=by
    have hq:qK (fun y7 y8=>bif !y8 then K [] false else J1t k n s (s.length:Int) (IntKind.i64.wrap (y7+1)) K) 0 (qAt s i)=stK s K (match qAt s i with|some j=>stS s n (j+1)|none=>none):=by
     cases hqa:qAt s i with
     |none=>rfl
     |some j =>
      have hj:=Jlk hqa
      simp only[qK,Bool.not_true,cond_false]
      have e:IntKind.i64.wrap ((j:Int)+0+1)=((j+1:Nat):Int):=by rw[J8 (by omega) (by omega)];omega
      rw[e,ih (j+1) (by omega) (by omega)]
    rw[hq,st1]
    cases(s.getD i 0 == 35)<;>cases(s.getD i 0 == 39)<;>cases(s.getD i 0 == 34)<;>rfl
   by_cases h0:i=0
   ·subst h0
    have hf:J5S s 0=true:=rfl
    rw[hf]
    simp(disch:=omega)only[J1,J2,Jl,Jh,Jm,Jn,Ja,Jg,J8,Ji,cond_true,cond_false,Bool.not_true,Bool.not_false,Bool.true_or,Bool.or_true,Bool.false_or,Bool.or_false,Bool.true_and,Bool.and_true,Bool.false_and,Bool.and_false,Jk,Jj,Jb,Jn0,J5R,J5Q]
    rw[JlJ k _ hcut.1 hcut.2,J12,JpJ k s 0 hs h hk]
    rw[←tail]
    rfl
   ·have e0:((i:Int)-1)=((i-1:Nat):Int):=by omega
    have hf:J5S s i=(s.getD (i-1) 0 == 32):=by
     have:(i == 0)=false:=by simpa using h0
     simp[J5S,this]
    rw[hf]
    simp(disch:=omega)only[J1,J2,Jl,Jh,Jm,Jn,Ja,Jg,J8,Ji,cond_true,cond_false,Bool.not_true,Bool.not_false,Bool.true_or,Bool.or_true,Bool.false_or,Bool.or_false,Bool.true_and,Bool.and_true,Bool.false_and,Bool.and_false,Jk,Jj,Jb,e0,Jn0,J5R,J5Q,JJD]
    rw[JlJ k _ hcut.1 hcut.2,J12,JpJ k s i hs h hk,c1]
    cases hx:(s.getD (i-1) 0 == 32)with
    |false=>rw[Bool.not_false,cond_true,cond_true];exact st1
    |true =>
     rw[Bool.not_true,cond_false,cond_false,←tail]
  ·have hi':i=s.length:=by omega
   subst hi'
   have hcut:(cut s 0 (s.length:Int)).length≤1000000∧(cut s 0 (s.length:Int)).length<k:=by rw[J12,List.length_take];omega
   rw[stS,Jn2 (Nat.le_refl _),cond_true]
   simp(disch:=omega)only[J1,J2,Jl,Jh,Jm,Jn,Ja,Jg,J8,Ji,cond_true,cond_false,Bool.not_true,Bool.not_false,Bool.true_or,Bool.or_true,Bool.false_or,Bool.or_false,Bool.true_and,Bool.and_true,Bool.false_and,Bool.and_false,Jk,Jj,Jb]
   rw[JlJ k _ hcut.1 hcut.2,J12]
   rfl
theorem Jqt(k:Nat){R:Type}(s:List UInt8)(hs:s.length≤1000000)(hk:s.length<k)(K:List UInt8->Bool->Option R): J7R k s K=stK s K (stS s k 0):=by
 unfold J7R JjH
 exact JBo k s hs hk K k 0 (by omega) (by omega)
end
section
open Go
theorem JD3{s:List UInt8}{e:Nat}(h:e<s.length): s.take (e+1)=s.take e++[s.getD e 0]:=by
 rw[List.take_add_one,List.getElem?_eq_getElem h]
 simp[List.getD,h]
theorem Jp8(k:Nat){R:Type}(s:List UInt8)(hs:s.length≤1000000)(K:List UInt8->Bool->Option R): ∀(n e:Nat),e≤s.length->e<n ->
 J4l k n s (e:Int) K=K (rt (s.take e)) true:=by
 intro n
 induction n with
 |zero=>intro e _ h;omega
 |succ n ih =>
  intro e he hn
  rw[J4l]
  unfold JhM
  cases e with
  |zero =>
   simp(disch:=omega)only[J1,J2,Jl,Jh,Jm,Jn,Ja,Jg,J8,Ji,cond_true,cond_false,Bool.not_true,Bool.not_false,Bool.true_or,Bool.or_true,Bool.false_or,Bool.or_false,Bool.true_and,Bool.and_true,Bool.false_and,Bool.and_false,Jk,Jj,Jb]
   rfl
  |succ e =>
   have e1:(((e+1:Nat):Int)-1)=(e:Int):=by omega
   simp(disch:=omega)only[J1,J2,Jl,Jh,Jm,Jn,Ja,Jg,J8,Ji,cond_true,cond_false,Bool.not_true,Bool.not_false,Bool.true_or,Bool.or_true,Bool.false_or,Bool.or_false,Bool.true_and,Bool.and_true,Bool.false_and,Bool.and_false,Jk,Jj,Jb,e1,Jbc]
   rw[J12,JD3 (by omega),Jvq,ih e (by omega) (by omega)]
   cases(s.getD e 0 == 32)<;>rfl
theorem JAU(k:Nat){R:Type}(s:List UInt8)(hs:s.length≤1000000)(hk:s.length<k)(K:List UInt8->Bool->Option R): ∀(n i:Nat),i≤s.length->s.length<i+n ->
 J1Z k n s (s.length:Int) (i:Int) K=stK s K (stS s n i):=by
 intro n
 induction n with
 |zero=>intro i _ h;omega
 |succ n ih =>
  intro i hi hn
  rw[J1Z]
  unfold J9v
  by_cases h:i<s.length
  ·have hb:=Jn1 h
   rw[stS,hb,cond_false]
   have st1:=ih (i+1) (by omega) (by omega)
   have c1:((i:Int)+1)=((i+1:Nat):Int):=by omega
   have hfr:(bif (i:Int) == 0 then true else((s.getD (IntKind.i64.wrap ((i:Int)-1)).toNat 0).toNat:Int) == 32)=J5S s i:=by
    by_cases h0:i=0
    ·subst h0;rfl
    ·have e0:((i:Int)-1)=((i-1:Nat):Int):=by omega
     have e2:(i == 0)=false:=by simpa using h0
     simp(disch:=omega)only[J1,J2,Jl,Jh,Jm,Jn,Ja,Jg,J8,Ji,cond_true,cond_false,Bool.not_true,Bool.not_false,Bool.true_or,Bool.or_true,Bool.false_or,Bool.or_false,Bool.true_and,Bool.and_true,Bool.false_and,Bool.and_false,Jk,Jj,Jb,e0,Jbc]
     rw[J5S,e2,Bool.false_or]
   have hin:(!((i:Int) == 0) == false || inb (IntKind.i64.wrap ((i:Int)-1)) (s.length:Int))=true:=by
    by_cases h0:i=0
    ·subst h0;rfl
    ·simp(disch:=omega)only[J1,J2,Jl,Jh,Jm,Jn,Ja,Jg,J8,Ji,cond_true,cond_false,Bool.not_true,Bool.not_false,Bool.true_or,Bool.or_true,Bool.false_or,Bool.or_false,Bool.true_and,Bool.and_true,Bool.false_and,Bool.and_false,Jk,Jj,Jb]
   have hash:J1Z k n s (i:Int) (i:Int) K=K (rt (s.take i)) true:=by
    obtain⟨m,rfl⟩:∃ m,n=m+1:=⟨n-1,by omega⟩
    rw[J1Z]
    unfold J9v
    simp(disch:=omega)only[J1,J2,Jl,Jh,Jm,Jn,Ja,Jg,J8,Ji,cond_true,cond_false,Bool.not_true,Bool.not_false,Bool.true_or,Bool.or_true,Bool.false_or,Bool.or_false,Bool.true_and,Bool.and_true,Bool.false_and,Bool.and_false,Jk,Jj,Jb]
    exact Jp8 k s hs K k i (by omega) (by omega)
   rw[hfr,hin]
   simp(disch:=omega)only[J1,J2,Jl,Jh,Jm,Jn,Ja,Jg,J8,Ji,cond_true,cond_false,Bool.not_true,Bool.not_false,Bool.true_or,Bool.or_true,Bool.false_or,Bool.or_false,Bool.true_and,Bool.and_true,Bool.false_and,Bool.and_false,Jk,Jj,Jb,Jn0,J5R,J5Q]
   rw[hash,JBn k s i hs h hk,c1,st1]
   have hq:qK (fun y8 y9=>bif !y9 then K [] false else J1Z k n s (s.length:Int) y8 K) 1 (qAt s i)=stK s K (match qAt s i with|some j=>stS s n (j+1)|none=>none):=by
    cases hqa:qAt s i with
    |none=>rfl
    |some j =>
     have hj:=Jlk hqa
     simp only[qK,Bool.not_true,cond_false]
     have e:((j:Int)+1)=((j+1:Nat):Int):=by omega
     rw[e,ih (j+1) (by omega) (by omega)]
   rw[hq]
   cases J5S s i<;>cases(s.getD i 0 == 35)<;>cases(s.getD i 0 == 39)<;>cases(s.getD i 0 == 34)<;>rfl
  ·have hi':i=s.length:=by omega
   subst hi'
   rw[stS,Jn2 (Nat.le_refl _),cond_true]
   simp(disch:=omega)only[J1,J2,Jl,Jh,Jm,Jn,Ja,Jg,J8,Ji,cond_true,cond_false,Bool.not_true,Bool.not_false,Bool.true_or,Bool.or_true,Bool.false_or,Bool.or_false,Bool.true_and,Bool.and_true,Bool.false_and,Bool.and_false,Jk,Jj,Jb]
   exact Jp8 k s hs K k s.length (by omega) (by omega)
theorem JpK(k:Nat){R:Type}(s:List UInt8)(hs:s.length≤1000000)(hk:s.length<k)(K:List UInt8->Bool->Option R): J51 k s K=stK s K (stS s k 0):=by
 unfold J51 Jjg
 exact JAU k s hs hk K k 0 (by omega) (by omega)
end
end Go.Proofs.YtabkhphoacmcdaaGreatDoor.Pvm
end
