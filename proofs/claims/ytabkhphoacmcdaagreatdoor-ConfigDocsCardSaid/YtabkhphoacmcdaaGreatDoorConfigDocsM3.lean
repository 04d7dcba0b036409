/- For every document d the Go function ConfigDocs of turncocklaw17 returns true. -/
import Derived.Test.YtabkhphoacmcdaaGreatDoorChecked
import Derived.WalkKit
import Derived.WalkSpells
import Derived.WalkLawsBesides
import Derived.Lib.Builder
import Derived.Lib.AppendStr
import Derived.Lib.UnsafeStr
import Derived.Laws.Externs
import Derived.Shelf.RegionOpenPlain
import Derived.Deep.Heap
import Derived.Shelf.Strings.Repeat
import Derived.Lib.Bytealg
import Derived.Shelf.GgClosure.StringsIndexFuncTop
import Derived.Shelf.Strings.FuncGrows
import Derived.Test.YtabkhphoacmcdaaGreatDoorConfigDocsM0
import Derived.Test.YtabkhphoacmcdaaGreatDoorConfigDocsM1
import Derived.Test.YtabkhphoacmcdaaGreatDoorConfigDocsM2
set_option linter.unusedVariables false
set_option linter.unusedSimpArgs false
set_option linter.unusedSectionVars false
noncomputable section
set_option maxRecDepth 1000000
set_option maxHeartbeats 0
namespace Go.Proofs.YtabkhphoacmcdaaGreatDoor.Pvm
open Go Go.Proofs
def h_config_reader_domain:Sh:=⟨[.o 1 79 0 [.s kdT72,.w 21 64 (.pr .str (.sl kI)),.w 51 57 kdT56,.a .flt],.a kI],some ([.o 1 79 0 [.s kdT72,.w 21 64 (.pr .str (.sl kI)),.w 51 57 kdT56,.a .flt]],[]),some ([.o 1 79 0 [.s kdT72,.w 21 64 (.pr .str (.sl kI)),.w 51 57 kdT56,.a .flt]],[.i 29 (.g [.a kI,.a kI])])⟩
abbrev wq4q:Type 1:=(R:Type)→(List dT72)→(List ((List UInt8)×(List Int)))→(List dT56)→Nat→Int→((List dT72)→(List ((List UInt8)×(List Int)))→(List dT56)→Nat→Option R)→((List dT72)→(List ((List UInt8)×(List Int)))→(List dT56)→Nat→Int→Int→Option R)→Option R
def wqg6(k:Nat)(wqf:wq2s)(wq9:wq1m)(wq7:wq19)(wq5:wq16)(wqe:wq2d)(wq1h:wq3d)(wqp:wq2r): Cxt:=⟨[h_config_gives.e 69 wqf,h_field_Seen_Known.e 70 wq9,h_config_reader_must.e 73 wq7,h_config_reader_fault.e 75 wq5,h_config_reader_name.e 126 wqe,h_slices_ContainsFunc___api_Domain_api_Domain_domain.e 127 wq1h,h_config_reader_list.e 129 wqp],[1],[],[(5,(.of [(0,1),(1,1),(2,1),(3,1),(4,1),(5,1),(6,1),(7,1),(8,0),(9,0),(10,1),(11,1),(12,1),(13,0)] .done)),(7,(.of [(0,1),(1,1),(2,1),(3,1),(5,1),(6,1),(7,1),(8,1),(12,1),(4,1),(9,1),(10,1),(11,1),(13,1),(14,1),(15,0)] .done))]⟩
def wqbk(k:Nat)(wqf:wq2s)(wq9:wq1m)(wq7:wq19)(wq5:wq16)(wqe:wq2d)(wq1h:wq3d)(wqp:wq2r){R:Type}(x0:(List dT72))(x1:(List ((List UInt8)×(List Int))))(x2:(List dT56))(x3:Nat)(x4:Int)(K:((List dT72)→(List ((List UInt8)×(List Int)))→(List dT56)→Nat→Option R))(E:((List dT72)→(List ((List UInt8)×(List Int)))→(List dT56)→Nat→Int→Int→Option R)): Option R:=wq9 R x0 x4 [[100,111,109,97,105,110],[100,101,115,99,114,105,112,116,111,114,115]] (fun y9 y10=>wqf R y9 y10 (fun y11=>wq7 R x0 x4 [100,111,109,97,105,110] (fun y12=>wqe R x0 y12 (fun y13=>wq1h R x1 y13 (fun y14 y15=>cond y15 (wq5 R x0 y12 7 (fun y16 y17=>E x0 x1 x2 x3 y16 y17)) (cond (fits x1.length (@List.length (@Kd.T (@Kd.pr Kd.str (@Kd.sl kI))) [(y14,[])]) 40) (wqp R x0 (x1++[(y14,[])]) x2 x3 x4 (@Go.IntKind.wrap Go.IntKind.i64 (((x1++[(y14,[])]).length:Int)-1)) (@Neg.neg Int @Int.instNegInt (1:Int)) 1 (fun y16 y17 y18 y19 y20=>cond (inb (@Go.IntKind.wrap Go.IntKind.i64 ((y17.length:Int)-1)) (y17.length:Int)) (@SH (@List (@Kd.T (@Kd.pr Kd.str (@Kd.sl kI)))) R (List.set y17 (@Go.IntKind.wrap Go.IntKind.i64 ((y17.length:Int)-1)).toNat ((y17.getD (@Go.IntKind.wrap Go.IntKind.i64 ((y17.length:Int)-1)).toNat (Kd.zero (@Kd.pr Kd.str (@Kd.sl kI)))).1,y20)) (fun y21=>K y16 y21 y18 y19)) none) E) none))) (fun y13 y14=>E x0 x1 x2 x3 y13 y14)) (fun y12 y13=>E x0 x1 x2 x3 y12 y13)) (fun y11 y12=>E x0 x1 x2 x3 y11 y12))
theorem wqnc(k:Nat)(wqf:wq2s)(wq9:wq1m)(wq7:wq19)(wq5:wq16)(wqe:wq2d)(wq1h:wq3d)(wqp:wq2r)(R:Type): h_config_reader_domain.at (wqg6 k wqf wq9 wq7 wq5 wqe wq1h wqp) k Tryz.f76 R=@wqbk k wqf wq9 wq7 wq5 wqe wq1h wqp R:=by kernel_rfl
def wq31(k:Nat){R:Type}:= @wqbk k (@wq14 k) (@wqy k) (@wqu k) (@wqi k) (@wq1f k) (@wq1g k) (@wqad k) R
theorem wqnd(k:Nat): DOK Tryz.prog 76 (h_config_reader_domain.run (@wq31 k)):=dok h_config_reader_domain (wqg6 k (@wq14 k) (@wqy k) (@wqu k) (@wqi k) (@wq1f k) (@wq1g k) (@wqad k)) Tryz.f76 k (ok1 (wq7i k) (ok1 (wqby k) (ok1 (wqa8 k) (ok1 (wq7e k) (ok1 (wqd8 k) (ok1 (wq85 k) (ok1 (wqqt k) ok0))))))) (by kernel_rfl) (by kernel_rfl) fun R=>wqnc k (@wq14 k) (@wqy k) (@wqu k) (@wqi k) (@wq1f k) (@wq1g k) (@wqad k) R
def h_config_reader_root:Sh:=⟨[.o 1 79 0 [.s kdT72,.w 21 64 (.pr .str (.sl kI)),.w 51 57 kdT56,.a .flt]],some ([.o 1 79 0 [.s kdT72,.w 21 64 (.pr .str (.sl kI)),.w 51 57 kdT56,.a .flt]],[]),some ([.o 1 79 0 [.s kdT72,.w 21 64 (.pr .str (.sl kI)),.w 51 57 kdT56,.a .flt]],[.i 29 (.g [.a kI,.a kI])])⟩
def u_config_reader_root_1005:Cu:=⟨1,[0,30,31,32],[.o 1 79 0 [.s kdT72,.w 21 64 (.pr .str (.sl kI)),.w 51 57 kdT56,.a .flt],.r 1 0,.s kI,.a kI,.a kI]⟩
def wqae(k:Nat)(wqf:wq2s)(wq9:wq1m)(wqq:wq3g)(wqb:wq29)(wq7:wq19)(wq1y:wq55)(wq5:wq16)(wq1r:wq4q): Cxt:=⟨[h_config_gives.e 69 wqf,h_field_Seen_Known.e 70 wq9,h_ratio_Parse.e 71 wqq,h_config_reader_ratio.e 72 wqb,h_config_reader_must.e 73 wq7,h_config_reader_items.e 74 wq1y,h_config_reader_fault.e 75 wq5,h_config_reader_domain.e 76 wq1r],[1],[(1005,u_config_reader_root_1005.spec)],[]⟩
def wq6v(k:Nat)(wqf:wq2s)(wq9:wq1m)(wqq:wq3g)(wqb:wq29)(wq7:wq19)(wq1y:wq55)(wq5:wq16)(wq1r:wq4q){R:Type}(E1005:((List dT72)→(List ((List UInt8)×(List Int)))→(List dT56)→Nat→(List Int)→Int→Int→Option R))(s0:(List dT72))(s1:(List ((List UInt8)×(List Int))))(s2:(List dT56))(s3:Nat)(s4:(List Int))(s5 s6:Int)(K:((List dT72)→(List ((List UInt8)×(List Int)))→(List dT56)→Nat→Option R))(E:((List dT72)→(List ((List UInt8)×(List Int)))→(List dT56)→Nat→Int→Int→Option R)): Option R:=cond (decide (s6<s5)) (cond (inb s6 (s4.length:Int)) (cond (decide (s6≥16)) (wq5 R s0 (s4.getD s6.toNat kI.zero) 9 (fun y12 y13=>E s0 s1 s2 s3 y12 y13)) (wq1r R s0 s1 s2 s3 (s4.getD s6.toNat kI.zero) (fun y12 y13 y14 y15=>E1005 y12 y13 y14 y15 s4 s5 (@Go.IntKind.wrap Go.IntKind.i64 (s6+1))) E)) none) (K s0 s1 s2 s3)
def wqaf(k:Nat)(wqf:wq2s)(wq9:wq1m)(wqq:wq3g)(wqb:wq29)(wq7:wq19)(wq1y:wq55)(wq5:wq16)(wq1r:wq4q){R:Type}(E1005:((List dT72)→(List ((List UInt8)×(List Int)))→(List dT56)→Nat→(List Int)→Int→Int→Option R))(x0:(List dT72))(x1:(List ((List UInt8)×(List Int))))(x2:(List dT56))(x3:Nat)(K:((List dT72)→(List ((List UInt8)×(List Int)))→(List dT56)→Nat→Option R))(E:((List dT72)→(List ((List UInt8)×(List Int)))→(List dT56)→Nat→Int→Int→Option R)): Option R:=wq9 R x0 0 [[110,101,97,114],[100,111,109,97,105,110,115]] (fun y9 y10=>wqf R y9 y10 (fun y11=>wqq R [48,46,56] (fun y12 y13=>wqb R x0 0 [110,101,97,114] y12 (fun y14=>wq7 R x0 0 [100,111,109,97,105,110,115] (fun y15=>wq1y R x0 0 [100,111,109,97,105,110,115] (fun y16=>E1005 x0 x1 x2 y14 y16 (y16.length:Int) 0) (fun y16 y17=>E x0 x1 x2 y14 y16 y17)) (fun y15 y16=>E x0 x1 x2 y14 y15 y16)) (fun y14 y15=>E x0 x1 x2 y12 y14 y15))) (fun y11 y12=>E x0 x1 x2 x3 y11 y12))
def wq3k(k:Nat)(wqf:wq2s)(wq9:wq1m)(wqq:wq3g)(wqb:wq29)(wq7:wq19)(wq1y:wq55)(wq5:wq16)(wq1r:wq4q){R:Type}: Nat→(List dT72)→(List ((List UInt8)×(List Int)))→(List dT56)→Nat→(List Int)→Int→Int→((List dT72)→(List ((List UInt8)×(List Int)))→(List dT56)→Nat→Option R)→((List dT72)→(List ((List UInt8)×(List Int)))→(List dT56)→Nat→Int→Int→Option R)→Option R
 |0,_,_,_,_,_,_,_,_,_=>none
 |n+1,s0,s1,s2,s3,s4,s5,s6,K,E=>wq6v k wqf wq9 wqq wqb wq7 wq1y wq5 wq1r (fun s0 s1 s2 s3 s4 s5 s6=>wq3k k wqf wq9 wqq wqb wq7 wq1y wq5 wq1r n s0 s1 s2 s3 s4 s5 s6 K E) s0 s1 s2 s3 s4 s5 s6 K E
theorem wqi6(k:Nat)(wqf:wq2s)(wq9:wq1m)(wqq:wq3g)(wqb:wq29)(wq7:wq19)(wq1y:wq55)(wq5:wq16)(wq1r:wq4q){R:Type}: ∀(I:Nat→St→Option R) (n:Nat),h_config_reader_root.lp u_config_reader_root_1005 (wqae k wqf wq9 wqq wqb wq7 wq1y wq5 wq1r).cx k Tryz.f37 1005 [1,1,1,1,1,0] I n=wq3k k wqf wq9 wqq wqb wq7 wq1y wq5 wq1r n:=h_config_reader_root.lok u_config_reader_root_1005 (B:=wq6v k wqf wq9 wqq wqb wq7 wq1y wq5 wq1r) (L:=wq3k k wqf wq9 wqq wqb wq7 wq1y wq5 wq1r) (fun I=>by kernel_rfl) (fun I=>by kernel_rfl) (fun n=>by kernel_rfl) (fun _ _ _ _=>rfl)
theorem wqqu(k:Nat)(wqf:wq2s)(wq9:wq1m)(wqq:wq3g)(wqb:wq29)(wq7:wq19)(wq1y:wq55)(wq5:wq16)(wq1r:wq4q)(R:Type): h_config_reader_root.at (wqae k wqf wq9 wqq wqb wq7 wq1y wq5 wq1r) k Tryz.f37 R=h_config_reader_root.glue (l:=h_config_reader_root.ps) (u:=u_config_reader_root_1005.fs) (fun E1005=>@wqaf k wqf wq9 wqq wqb wq7 wq1y wq5 wq1r R E1005) (h_config_reader_root.lp u_config_reader_root_1005 (wqae k wqf wq9 wqq wqb wq7 wq1y wq5 wq1r).cx k Tryz.f37 1005 [1,1,1,1,1,0] (fun _ _=>none) k):=by kernel_rfl
def wq86(k:Nat){R:Type}(x0:(List dT72))(x1:(List ((List UInt8)×(List Int))))(x2:(List dT56))(x3:Nat)(K:((List dT72)→(List ((List UInt8)×(List Int)))→(List dT56)→Nat→Option R))(E:((List dT72)→(List ((List UInt8)×(List Int)))→(List dT56)→Nat→Int→Int→Option R)): Option R:=wqaf k (@wq14 k) (@wqy k) (@wq3i k) (@wq17 k) (@wqu k) (@wq2q k) (@wqi k) (@wq31 k) (fun s0 s1 s2 s3 s4 s5 s6=>wq3k k (@wq14 k) (@wqy k) (@wq3i k) (@wq17 k) (@wqu k) (@wq2q k) (@wqi k) (@wq31 k) k s0 s1 s2 s3 s4 s5 s6 K E) x0 x1 x2 x3 K E
theorem wqqv(k:Nat): DOK Tryz.prog 37 (h_config_reader_root.run (@wq86 k)):=dok h_config_reader_root (wqae k (@wq14 k) (@wqy k) (@wq3i k) (@wq17 k) (@wqu k) (@wq2q k) (@wqi k) (@wq31 k)) Tryz.f37 k (ok1 (wq7i k) (ok1 (wqby k) (ok1 (wqn8 k) (ok1 (wqgy k) (ok1 (wqa8 k) (ok1 (wqgw k) (ok1 (wq7e k) (ok1 (wqnd k) ok0)))))))) (by kernel_rfl) (by kernel_rfl) fun R=>h_config_reader_root.f1 u_config_reader_root_1005 (wqaf k (@wq14 k) (@wqy k) (@wq3i k) (@wq17 k) (@wqu k) (@wq2q k) (@wqi k) (@wq31 k)) (wqqu k (@wq14 k) (@wqy k) (@wq3i k) (@wq17 k) (@wqu k) (@wq2q k) (@wqi k) (@wq31 k) R) (wqi6 k (@wq14 k) (@wqy k) (@wq3i k) (@wq17 k) (@wqu k) (@wq2q k) (@wqi k) (@wq31 k) (fun _ _=>none) k) (by kernel_rfl)
def h_lex_sign:Sh:=⟨[.a (.int .u8)],some ([],[.a .bool]),none⟩
def wq1ge(k:Nat): Cxt:=⟨[],[],[],[]⟩
def wq16b(k:Nat){R:Type}(x0:Int)(K:(Bool→Option R)): Option R:=K (cond (cond (cond (cond (cond (cond (decide (x0≥97)) (decide (x0≤122)) false) true (cond (decide (x0≥65)) (decide (x0≤90)) false)) true (cond (decide (x0≥48)) (decide (x0≤57)) false)) true (x0 == 95)) true (x0 == 45)) true (x0 == 46))
def wqne:=@wq16b
theorem wq1gf(k:Nat): DOK Tryz.prog 235 (h_lex_sign.run (@wqne k)):=dok h_lex_sign (wq1ge k) Tryz.f235 k ok0 (by kernel_rfl) (by kernel_rfl) fun R=>by kernel_rfl
def wq1gg(k:Nat): Ent:=h_lex_sign.e 235 (@wqne k)
def h_lex_Signs:Sh:=⟨[.a .str],some ([],[.a .bool]),none⟩
def u_lex_Signs_1002:Cu:=⟨0,[0,5,6],[.a .str,.a kI,.a kI]⟩
def wq12l(k:Nat): Cxt:=⟨[wq1gg k],[],[(1002,u_lex_Signs_1002.spec)],[]⟩
def wqe6(k:Nat){R:Type}(E1002:((List UInt8)→Int→Int→Option R))(s0:(List UInt8))(s1 s2:Int)(K:(Bool→Option R)): Option R:=cond (decide (s2<s1)) (cond (inb s2 (s0.length:Int)) (wqne k ((s0.getD s2.toNat 0).toNat:Int) (fun y7=>cond (!y7) (K false) (E1002 s0 s1 (@Go.IntKind.wrap Go.IntKind.i64 (s2+1))))) none) (K (!(s0 == [])))
def wquq(k:Nat){R:Type}(E1002:((List UInt8)→Int→Int→Option R))(x0:(List UInt8))(K:(Bool→Option R)): Option R:=E1002 x0 (x0.length:Int) 0
def wq87(k:Nat){R:Type}: Nat→(List UInt8)→Int→Int→(Bool→Option R)→Option R
 |0,_,_,_,_=>none
 |n+1,s0,s1,s2,K=>wqe6 k (fun s0 s1 s2=>wq87 k n s0 s1 s2 K) s0 s1 s2 K
theorem wqs7(k:Nat){R:Type}: ∀(I:Nat→St→Option R) (n:Nat),h_lex_Signs.lp u_lex_Signs_1002 (wq12l k).cx k Tryz.f202 1002 [1,0,1,0] I n=wq87 k n:=h_lex_Signs.lok u_lex_Signs_1002 (B:=wqe6 k) (L:=wq87 k) (fun I=>by kernel_rfl) (fun I=>by kernel_rfl) (fun n=>by kernel_rfl) (fun _ _ _ _=>rfl)
def wqhm(k:Nat){R:Type}(x0:(List UInt8))(K:(Bool→Option R)): Option R:=wquq k (fun s0 s1 s2=>wq87 k k s0 s1 s2 K) x0 K
theorem wq12m(k:Nat): DOK Tryz.prog 202 (h_lex_Signs.run (@wqhm k)):=dok h_lex_Signs (wq12l k) Tryz.f202 k (ok1 (wq1gf k) ok0) (by kernel_rfl) (by kernel_rfl) fun R=>h_lex_Signs.f1 u_lex_Signs_1002 (wquq k) (by kernel_rfl) (wqs7 k (fun _ _=>none) k) (by kernel_rfl)
def wq12n(k:Nat): Ent:=h_lex_Signs.e 202 (@wqhm k)
def h_show_apart:Sh:=⟨[.s .str],some ([],[.a .bool]),none⟩
def u_show_apart_1003:Cu:=⟨0,[3,7,8,9],[.m 73 .one .bool,.s .str,.a kI,.a kI]⟩
def wqz7(k:Nat): Cxt:=⟨[wq12n k],[],[(1003,u_show_apart_1003.spec)],[]⟩
def wqcv(k:Nat){R:Type}(E1003:((List (List UInt8×Bool))→(List (List UInt8))→Int→Int→Option R))(s0:(List (List UInt8×Bool)))(s1:(List (List UInt8)))(s2 s3:Int)(K:(Bool→Option R)): Option R:=cond (decide (s3<s2)) (cond (inb s3 (s1.length:Int)) (wqhm k (s1.getD s3.toNat Kd.str.zero) (fun y8=>cond ((cond (!y8) true (decide (((s1.getD s3.toNat Kd.str.zero).length:Int)>64))) == false) (cond (mget Kd.bool (s1.getD s3.toNat Kd.str.zero) s0) (K false) (E1003 (mset Kd.bool (s1.getD s3.toNat Kd.str.zero) true s0) s1 s2 (@Go.IntKind.wrap Go.IntKind.i64 (s3+1)))) (K false))) none) (K true)
def wqqw(k:Nat){R:Type}(E1003:((List (List UInt8×Bool))→(List (List UInt8))→Int→Int→Option R))(x0:(List (List UInt8)))(K:(Bool→Option R)): Option R:=E1003 [] x0 (x0.length:Int) 0
def wq78(k:Nat){R:Type}: Nat→(List (List UInt8×Bool))→(List (List UInt8))→Int→Int→(Bool→Option R)→Option R
 |0,_,_,_,_,_=>none
 |n+1,s0,s1,s2,s3,K=>wqcv k (fun s0 s1 s2 s3=>wq78 k n s0 s1 s2 s3 K) s0 s1 s2 s3 K
theorem wqqx(k:Nat){R:Type}: ∀(I:Nat→St→Option R) (n:Nat),h_show_apart.lp u_show_apart_1003 (wqz7 k).cx k Tryz.f165 1003 [1,1,0,1,0] I n=wq78 k n:=h_show_apart.lok u_show_apart_1003 (B:=wqcv k) (L:=wq78 k) (fun I=>by kernel_rfl) (fun I=>by kernel_rfl) (fun n=>by kernel_rfl) (fun _ _ _ _=>rfl)
def wqi7(k:Nat){R:Type}(x0:(List (List UInt8)))(K:(Bool→Option R)): Option R:=wqqw k (fun s0 s1 s2 s3=>wq78 k k s0 s1 s2 s3 K) x0 K
theorem wq19f(k:Nat): DOK Tryz.prog 165 (h_show_apart.run (@wqi7 k)):=dok h_show_apart (wqz7 k) Tryz.f165 k (ok1 (wq12m k) ok0) (by kernel_rfl) (by kernel_rfl) fun R=>h_show_apart.f1 u_show_apart_1003 (wqqw k) (by kernel_rfl) (wqqx k (fun _ _=>none) k) (by kernel_rfl)
def wq19g(k:Nat): Ent:=h_show_apart.e 165 (@wqi7 k)
def wqw0:List LS:=[.obj 1 [.sl (.pr (.int .i64) (.pr (.int .i64) (.pr (.int .i64) (.pr .str .bool))))],.obj 2 [.any,.any]]
def wqw1(k:Nat): CTab:=CTab.nil
def wqi8{R:Type}(K:((List dT156)→Int→Int→Option R)): Out→Option R
 |.ret [] [(1,.var 110 [.v (.sl (.pr (.int .i64) (.pr (.int .i64) (.pr (.int .i64) (.pr .str .bool))))) y0]),(2,.var 29 [.v (.int .i64) y1,.v (.int .i64) y2])]=>K y0 y1 y2
 |_=>none
def wqs8:RetSpec:=⟨[],[(1,.obj 1 [.sl (.pr (.int .i64) (.pr (.int .i64) (.pr (.int .i64) (.pr .str .bool))))]),(2,.obj 2 [.any,.any])],[]⟩
def wqz8:List (Nat×CutSpec):=[]
def wqx5:List (Nat×Plan):=[(7,(.of [(0,2),(1,0),(2,0)] .done))]
def wql8(k:Nat): Ctx:=⟨tyT,wqz8,wqw1 k,[],[1,2],wqx5,@SH⟩
def wqe7:Code:=Tryz.f149.body.getD .skip
def wqnf(k:Nat){R:Type}(x0:(List dT156))(x1 x2:Int)(K:((List dT156)→Int→Int→Option R)): Option R:=K x0 x1 x2
theorem wqz9(k:Nat){R:Type}(I:Nat→St→Option R)(x0:(List dT156))(x1 x2:Int)(K:((List dT156)→Int→Int→Option R)): fnCK (wql8 k) k (at_ [1] wqe7) 12 [] wqs8 [.ptr 1 0,.ptr 2 0] 5 (.nilif) [(1,.var 110 [.v (.sl (.pr (.int .i64) (.pr (.int .i64) (.pr (.int .i64) (.pr .str .bool))))) x0]),(2,.var 29 [.v (.int .i64) x1,.v (.int .i64) x2])] (wqi8 K)=wqnf k x0 x1 x2 K:=by kernel_rfl
def wqg7(k:Nat){R:Type}(x0:(List dT156))(x1 x2:Int)(K:((List dT156)→Int→Int→Option R)): Option R:=wqnf k x0 x1 x2 K
theorem wqza(k:Nat){R:Type}(x0:(List dT156))(x1 x2:Int)(K:((List dT156)→Int→Int→Option R)): fnCK (wql8 k) k (at_ [1] wqe7) 12 [] wqs8 [.ptr 1 0,.ptr 2 0] 5 (.nilif) [(1,.var 110 [.v (.sl (.pr (.int .i64) (.pr (.int .i64) (.pr (.int .i64) (.pr .str .bool))))) x0]),(2,.var 29 [.v (.int .i64) x1,.v (.int .i64) x2])] (wqi8 K)=wqg7 k x0 x1 x2 K:=by
 exact wqz9 k (fun _ _=>none) x0 x1 x2 K
def wqpy(k:Nat){R:Type}: PV→List PV→List (Nm×HObj)→(Out→Option R)→Option R
 |.nilif,[.ptr 1 0,.ptr 2 0],[(1,.var 110 [.v (.sl (.pr (.int .i64) (.pr (.int .i64) (.pr (.int .i64) (.pr .str .bool))))) x0]),(2,.var 29 [.v (.int .i64) x1,.v (.int .i64) x2])],K=>wqg7 k x0 x1 x2 (fun y0 y1 y2=>K (.ret [] [(1,.var 110 [.v (.sl (.pr (.int .i64) (.pr (.int .i64) (.pr (.int .i64) (.pr .str .bool))))) y0]),(2,.var 29 [.v (.int .i64) y1,.v (.int .i64) y2])]))
 |_,_,_,_=>none
theorem wqzb(k:Nat): (wqw1 k).Ok Tryz.prog:=CTab.nil_ok
theorem wq13v(k:Nat){rec:PV}{ps:List PV}{hp:List (Nm×HObj)}{R:Type}{K:Out→Option R}{r:R}(h:wqpy k rec ps hp K=some r): DoesToD Tryz.prog 149 rec ps hp fun out=>K out=some r:=by
 unfold wqpy at h
 split at h
 ·rw[←wqza]at h
  have:=wq12d (P:=Tryz.prog) (cx:=wql8 k) (f:=149) ⟨tyT_ok,wqzb k,fun _ _=>rfl⟩ (by kernel_rfl) (fn:=Tryz.f149) (id:=0) (ops:=opsAt (at_ [0] wqe7)) (c:=at_ [1] wqe7) (by kernel_rfl) (by kernel_rfl) (by kernel_rfl) (rs:=[]) (by kernel_rfl) (by kernel_rfl) h
  exact this.mono fun out ho=>by
   unfold wqi8 at ho
   split at ho<;>first|exact ho|cases ho
 ·cases h
def wqw2(k:Nat): CTab:=CTab.nil
def wqi9{R:Type}(K:((List dT156)→Int→Int→Option R)): Out→Option R
 |.ret [] [(1,.var 110 [.v (.sl (.pr (.int .i64) (.pr (.int .i64) (.pr (.int .i64) (.pr .str .bool))))) y0]),(2,.var 29 [.v (.int .i64) y1,.v (.int .i64) y2])]=>K y0 y1 y2
 |_=>none
def wqs9:RetSpec:=⟨[],[(1,.obj 1 [.sl (.pr (.int .i64) (.pr (.int .i64) (.pr (.int .i64) (.pr .str .bool))))]),(2,.obj 2 [.any,.any])],[]⟩
def wqzc:List (Nat×CutSpec):=[]
def wqx6:List (Nat×Plan):=[(7,(.of [(0,2),(1,0),(2,0)] .done))]
def wql9(k:Nat): Ctx:=⟨tyT,wqzc,wqw2 k,[],[1,2],wqx6,@SH⟩
def wqe8:Code:=Tryz.f149.body.getD .skip
def wqng(k:Nat){R:Type}(x0:(List dT156))(x1 x2 x3 x4:Int)(K:((List dT156)→Int→Int→Option R)): Option R:=K [] x3 x4
theorem wqzd(k:Nat){R:Type}(I:Nat→St→Option R)(x0:(List dT156))(x1 x2 x3 x4:Int)(K:((List dT156)→Int→Int→Option R)): fnCK (wql9 k) k (at_ [1] wqe8) 12 [] wqs9 [.ptr 1 0,.ptr 2 0] 5 (.ifc 29 (.agg [.v (.int .i64) x3,.v (.int .i64) x4])) [(1,.var 110 [.v (.sl (.pr (.int .i64) (.pr (.int .i64) (.pr (.int .i64) (.pr .str .bool))))) x0]),(2,.var 29 [.v (.int .i64) x1,.v (.int .i64) x2])] (wqi9 K)=wqng k x0 x1 x2 x3 x4 K:=by kernel_rfl
def wqg8(k:Nat){R:Type}(x0:(List dT156))(x1 x2 x3 x4:Int)(K:((List dT156)→Int→Int→Option R)): Option R:=wqng k x0 x1 x2 x3 x4 K
theorem wqze(k:Nat){R:Type}(x0:(List dT156))(x1 x2 x3 x4:Int)(K:((List dT156)→Int→Int→Option R)): fnCK (wql9 k) k (at_ [1] wqe8) 12 [] wqs9 [.ptr 1 0,.ptr 2 0] 5 (.ifc 29 (.agg [.v (.int .i64) x3,.v (.int .i64) x4])) [(1,.var 110 [.v (.sl (.pr (.int .i64) (.pr (.int .i64) (.pr (.int .i64) (.pr .str .bool))))) x0]),(2,.var 29 [.v (.int .i64) x1,.v (.int .i64) x2])] (wqi9 K)=wqg8 k x0 x1 x2 x3 x4 K:=by
 exact wqzd k (fun _ _=>none) x0 x1 x2 x3 x4 K
def wqpz(k:Nat){R:Type}: PV→List PV→List (Nm×HObj)→(Out→Option R)→Option R
 |.ifc 29 (.agg [.v (.int .i64) x3,.v (.int .i64) x4]),[.ptr 1 0,.ptr 2 0],[(1,.var 110 [.v (.sl (.pr (.int .i64) (.pr (.int .i64) (.pr (.int .i64) (.pr .str .bool))))) x0]),(2,.var 29 [.v (.int .i64) x1,.v (.int .i64) x2])],K=>wqg8 k x0 x1 x2 x3 x4 (fun y0 y1 y2=>K (.ret [] [(1,.var 110 [.v (.sl (.pr (.int .i64) (.pr (.int .i64) (.pr (.int .i64) (.pr .str .bool))))) y0]),(2,.var 29 [.v (.int .i64) y1,.v (.int .i64) y2])]))
 |_,_,_,_=>none
theorem wqzf(k:Nat): (wqw2 k).Ok Tryz.prog:=CTab.nil_ok
theorem wq13w(k:Nat){rec:PV}{ps:List PV}{hp:List (Nm×HObj)}{R:Type}{K:Out→Option R}{r:R}(h:wqpz k rec ps hp K=some r): DoesToD Tryz.prog 149 rec ps hp fun out=>K out=some r:=by
 unfold wqpz at h
 split at h
 ·rw[←wqze]at h
  have:=wq12d (P:=Tryz.prog) (cx:=wql9 k) (f:=149) ⟨tyT_ok,wqzf k,fun _ _=>rfl⟩ (by kernel_rfl) (fn:=Tryz.f149) (id:=0) (ops:=opsAt (at_ [0] wqe8)) (c:=at_ [1] wqe8) (by kernel_rfl) (by kernel_rfl) (by kernel_rfl) (rs:=[]) (by kernel_rfl) (by kernel_rfl) h
  exact this.mono fun out ho=>by
   unfold wqi9 at ho
   split at ho<;>first|exact ho|cases ho
 ·cases h
def h_strings_HasPrefix:Sh:=⟨[.a .str,.a .str],some ([],[.a .bool]),none⟩
def wqsa(k:Nat): Cxt:=⟨[wqmc k],[],[],[]⟩
def wqix(k:Nat){R:Type}(x0 x1:(List UInt8))(K:(Bool→Option R)): Option R:=wq8x k x0 x1 K
def wqb7:=@wqix
theorem wqsb(k:Nat): DOK Tryz.prog 41 (h_strings_HasPrefix.run (@wqb7 k)):=dok h_strings_HasPrefix (wqsa k) Tryz.f41 k (ok1 (wqmb k) ok0) (by kernel_rfl) (by kernel_rfl) fun R=>by kernel_rfl
def wqsc(k:Nat): Ent:=h_strings_HasPrefix.e 41 (@wqb7 k)
def h_lex_dash:Sh:=⟨[.a .str],some ([],[.a .bool]),none⟩
abbrev wqur:Type 1:=(R:Type)→(List UInt8)→(Bool→Option R)→Option R
def wq1gh(k:Nat): Cxt:=⟨[wqsc k],[],[],[]⟩
def wq16c(k:Nat){R:Type}(x0:(List UInt8))(K:(Bool→Option R)): Option R:=cond ((x0 == [(45:UInt8)]) == false) (wqb7 k x0 [45,32] K) (K true)
def wqg9:=@wq16c
theorem wq16d(k:Nat): DOK Tryz.prog 193 (h_lex_dash.run (@wqg9 k)):=dok h_lex_dash (wq1gh k) Tryz.f193 k (ok1 (wqsb k) ok0) (by kernel_rfl) (by kernel_rfl) fun R=>by kernel_rfl
def wq1gi(k:Nat): Ent:=h_lex_dash.e 193 (@wqg9 k)
def h_lex_key:Sh:=⟨[.a .str],some ([],[.a .str]),none⟩
abbrev wqzg:Type 1:=(R:Type)→(List UInt8)→((List UInt8)→Option R)→Option R
def wq1in(k:Nat): Cxt:=⟨[wq166 k,wq12n k],[],[],[]⟩
def wq1cb(k:Nat){R:Type}(x0:(List UInt8))(K:((List UInt8)→Option R)): Option R:=wqa2 k x0 58 (fun y4 y5 y6=>cond ((!y6) == false) (wqhm k y4 (fun y7=>cond ((!(((!y7) == false)&&((!(y5 == [])) == true))) || (inb 0 (y5.length:Int))) (cond (cond (!y7) true (cond (!(y5 == [])) (((y5.getD (Int.toNat 0) 0).toNat:Int) != 32) false)) (K []) (K y4)) none)) (K []))
def wqh6:=@wq1cb
theorem wq1cc(k:Nat): DOK Tryz.prog 195 (h_lex_key.run (@wqh6 k)):=dok h_lex_key (wq1in k) Tryz.f195 k (ok1 (wqvy k) (ok1 (wq12m k) ok0)) (by kernel_rfl) (by kernel_rfl) fun R=>by kernel_rfl
def wq1io(k:Nat): Ent:=h_lex_key.e 195 (@wqh6 k)
def h_lex_lexer_gives:Sh:=⟨[.o 1 200 0 [.a kI,.a kI,.a .str,.a kI,.w 21 157 kdT156],.a kI],some ([.o 1 200 0 [.a kI,.a kI,.a .str,.a kI,.w 21 157 kdT156]],[]),some ([.o 1 200 0 [.a kI,.a kI,.a .str,.a kI,.w 21 157 kdT156]],[.i 29 (.g [.a kI,.a kI])])⟩
abbrev wqf7:Type 1:=(R:Type)→Int→Int→(List UInt8)→Int→(List dT156)→Int→(Int→Int→(List UInt8)→Int→(List dT156)→Option R)→(Int→Int→(List UInt8)→Int→(List dT156)→Int→Int→Option R)→Option R
def wqx7(k:Nat): Cxt:=⟨[],[1],[],[]⟩
def wqx8(k:Nat){R:Type}(x0 x1:Int)(x2:(List UInt8))(x3:Int)(x4:(List dT156))(x5:Int)(K:(Int→Int→(List UInt8)→Int→(List dT156)→Option R))(E:(Int→Int→(List UInt8)→Int→(List dT156)→Int→Int→Option R)): Option R:=E x0 x1 x2 x3 x4 x5 x0
def wq2b:=@wqx8
theorem wqat(k:Nat): DOK Tryz.prog 191 (h_lex_lexer_gives.run (@wq2b k)):=dok h_lex_lexer_gives (wqx7 k) Tryz.f191 k ok0 (by kernel_rfl) (by kernel_rfl) fun R=>by kernel_rfl
def wqcw(k:Nat): Ent:=h_lex_lexer_gives.e 191 (@wq2b k)
def h_lex_lexer_piece:Sh:=⟨[.o 1 200 0 [.a kI,.a kI,.a .str,.a kI,.w 21 157 kdT156],.a kI,.a .str,.a .bool,.a kI],some ([.o 1 200 0 [.a kI,.a kI,.a .str,.a kI,.w 21 157 kdT156]],[]),none⟩
abbrev wqf8:Type 1:=(R:Type)→Int→Int→(List UInt8)→Int→(List dT156)→Int→(List UInt8)→Bool→Int→(Int→Int→(List UInt8)→Int→(List dT156)→Option R)→Option R
def wqx9(k:Nat): Cxt:=⟨[],[1],[],[(0,(.of [(0,1),(1,1),(2,1),(3,1),(5,1),(6,1),(7,1),(8,1),(9,1),(11,1),(12,1),(13,1),(14,1),(16,1),(17,1),(18,1),(21,1),(22,1),(4,1),(10,1),(15,1),(19,1),(20,1),(23,1),(24,0),(25,0),(26,1),(27,1),(28,0)] .done))]⟩
def wqmf(k:Nat){R:Type}(x0 x1:Int)(x2:(List UInt8))(x3:Int)(x4:(List dT156))(x5:Int)(x6:(List UInt8))(x7:Bool)(x8:Int)(K:(Int→Int→(List UInt8)→Int→(List dT156)→Option R)): Option R:=cond (fits x4.length (@List.length (@Kd.T kdT156) [(x5,(x0,((@Go.IntKind.wrap Go.IntKind.i64 (x1+x3)),(x6,x7))))]) 48) (K x0 x1 x2 (@Go.IntKind.wrap Go.IntKind.i64 (x3+x8)) (x4++[(x5,(x0,((@Go.IntKind.wrap Go.IntKind.i64 (x1+x3)),(x6,x7))))])) none
def wq44:=@wqmf
theorem wqmg(k:Nat): DOK Tryz.prog 194 (h_lex_lexer_piece.run (@wq44 k)):=dok h_lex_lexer_piece (wqx9 k) Tryz.f194 k ok0 (by kernel_rfl) (by kernel_rfl) fun R=>by kernel_rfl
def wqxa(k:Nat): Ent:=h_lex_lexer_piece.e 194 (@wq44 k)
def h_lex_lexer_rest:Sh:=⟨[.o 1 200 0 [.a kI,.a kI,.a .str,.a kI,.w 21 157 kdT156]],some ([.o 1 200 0 [.a kI,.a kI,.a .str,.a kI,.w 21 157 kdT156]],[.a .str]),none⟩
def u_lex_lexer_rest_1001:Cu:=⟨1,[0],[.o 1 200 0 [.a kI,.a kI,.a .str,.a kI,.w 21 157 kdT156],.r 1 0]⟩
def wqnh(k:Nat): Cxt:=⟨[],[1],[(1001,u_lex_lexer_rest_1001.spec)],[(1,(.of [(0,1),(1,1),(2,1),(4,1),(5,1),(6,1),(7,1),(3,1),(8,1),(9,1),(10,1),(11,1),(12,1),(13,1),(14,1),(15,1),(17,1),(18,1),(19,1),(16,1),(20,1),(21,1),(22,1),(23,1)] .done)),(3,(.of [(0,1),(1,1),(2,1),(3,1),(5,1),(6,1),(7,1),(4,1),(8,1),(9,1),(10,1)] .done))]⟩
def wq9q(k:Nat){R:Type}(E1001:(Int→Int→(List UInt8)→Int→(List dT156)→Option R))(s0 s1:Int)(s2:(List UInt8))(s3:Int)(s4:(List dT156))(K:(Int→Int→(List UInt8)→Int→(List dT156)→(List UInt8)→Option R)): Option R:=cond ((!((decide (s3<(s2.length:Int))) == true)) || (inb s3 (s2.length:Int))) (cond (cond (decide (s3<(s2.length:Int))) (((s2.getD s3.toNat 0).toNat:Int) == 32) false) (E1001 s0 s1 s2 (@Go.IntKind.wrap Go.IntKind.i64 (s3+1)) s4) (cond (bnd s3 (s2.length:Int) (s2.length:Int)) (K s0 s1 s2 s3 s4 (cut s2 s3 (s2.length:Int))) none)) none
def wqia(k:Nat){R:Type}(E1001:(Int→Int→(List UInt8)→Int→(List dT156)→Option R))(x0 x1:Int)(x2:(List UInt8))(x3:Int)(x4:(List dT156))(K:(Int→Int→(List UInt8)→Int→(List dT156)→(List UInt8)→Option R)): Option R:=E1001 x0 x1 x2 x3 x4
def wq4n(k:Nat){R:Type}: Nat→Int→Int→(List UInt8)→Int→(List dT156)→(Int→Int→(List UInt8)→Int→(List dT156)→(List UInt8)→Option R)→Option R
 |0,_,_,_,_,_,_=>none
 |n+1,s0,s1,s2,s3,s4,K=>wq9q k (fun s0 s1 s2 s3 s4=>wq4n k n s0 s1 s2 s3 s4 K) s0 s1 s2 s3 s4 K
theorem wqla(k:Nat){R:Type}: ∀(I:Nat→St→Option R) (n:Nat),h_lex_lexer_rest.lp u_lex_lexer_rest_1001 (wqnh k).cx k Tryz.f192 1001 [1,0,0] I n=wq4n k n:=h_lex_lexer_rest.lok u_lex_lexer_rest_1001 (B:=wq9q k) (L:=wq4n k) (fun I=>by kernel_rfl) (fun I=>by kernel_rfl) (fun n=>by kernel_rfl) (fun _ _ _ _=>rfl)
def wq5h(k:Nat){R:Type}(x0 x1:Int)(x2:(List UInt8))(x3:Int)(x4:(List dT156))(K:(Int→Int→(List UInt8)→Int→(List dT156)→(List UInt8)→Option R)): Option R:=wqia k (fun s0 s1 s2 s3 s4=>wq4n k k s0 s1 s2 s3 s4 K) x0 x1 x2 x3 x4 K
theorem wqzh(k:Nat): DOK Tryz.prog 192 (h_lex_lexer_rest.run (@wq5h k)):=dok h_lex_lexer_rest (wqnh k) Tryz.f192 k ok0 (by kernel_rfl) (by kernel_rfl) fun R=>h_lex_lexer_rest.f1 u_lex_lexer_rest_1001 (wqia k) (by kernel_rfl) (wqla k (fun _ _=>none) k) (by kernel_rfl)
def wqzi(k:Nat): Ent:=h_lex_lexer_rest.e 192 (@wq5h k)
def h_strings_IndexByte:Sh:=⟨[.a .str,.a (.int .u8)],some ([],[.a kI]),none⟩
abbrev wqdb:Type 1:=(R:Type)→(List UInt8)→Int→(Int→Option R)→Option R
def wqsd(k:Nat): Cxt:=⟨[wqma k],[],[],[]⟩
def wqse(k:Nat){R:Type}(x0:(List UInt8))(x1:Int)(K:(Int→Option R)): Option R:=wqar k x0 x1 K
def wq2v:=@wqse
theorem wqiy(k:Nat): DOK Tryz.prog 231 (h_strings_IndexByte.run (@wq2v k)):=dok h_strings_IndexByte (wqsd k) Tryz.f231 k (ok1 (wqm9 k) ok0) (by kernel_rfl) (by kernel_rfl) fun R=>by kernel_rfl
def wqsf(k:Nat): Ent:=h_strings_IndexByte.e 231 (@wq2v k)
def h_lex_lexer_taken:Sh:=⟨[.o 1 200 0 [.a kI,.a kI,.a .str,.a kI,.w 21 157 kdT156],.a .str],some ([.o 1 200 0 [.a kI,.a kI,.a .str,.a kI,.w 21 157 kdT156]],[.a (.int .u8),.a kI]),some ([.o 1 200 0 [.a kI,.a kI,.a .str,.a kI,.w 21 157 kdT156]],[.i 29 (.g [.a kI,.a kI])])⟩
def wqxb(k:Nat): Cxt:=⟨[wqcw k,wqsf k],[1],[],[(14,(.of [(0,1),(1,1),(3,1),(4,1),(2,0),(5,0),(6,1),(7,1)] .done))]⟩
def wqmh(k:Nat){R:Type}(x0 x1:Int)(x2:(List UInt8))(x3:Int)(x4:(List dT156))(x5:(List UInt8))(K E:(Int→Int→(List UInt8)→Int→(List dT156)→Int→Int→Option R)): Option R:=cond (x5 == []) (wq2b k x0 x1 x2 x3 x4 3 (fun y10 y11 y12 y13 y14=>cond (inb 0 (x5.length:Int)) (cond (((x5.getD (Int.toNat 0) 0).toNat:Int) == 92) (cond (inb 0 (x5.length:Int)) (K y10 y11 y12 y13 y14 ((x5.getD (Int.toNat 0) 0).toNat:Int) 1) none) (cond (((x5.getD (Int.toNat 0) 0).toNat:Int) == 34) (cond (inb 0 (x5.length:Int)) (K y10 y11 y12 y13 y14 ((x5.getD (Int.toNat 0) 0).toNat:Int) 1) none) (cond (((x5.getD (Int.toNat 0) 0).toNat:Int) == 110) (K y10 y11 y12 y13 y14 10 1) (cond (((x5.getD (Int.toNat 0) 0).toNat:Int) == 116) (K y10 y11 y12 y13 y14 9 1) (cond (((x5.getD (Int.toNat 0) 0).toNat:Int) == 120) (cond (decide ((x5.length:Int)<3)) (wq2b k y10 y11 y12 y13 y14 3 (fun y15 y16 y17 y18 y19=>cond (inb 1 (x5.length:Int)) (cond (inb 2 (x5.length:Int)) (wq2v k [48,49,50,51,52,53,54,55,56,57,97,98,99,100,101,102] ((x5.getD (Int.toNat 1) 0).toNat:Int) (fun y20=>wq2v k [48,49,50,51,52,53,54,55,56,57,97,98,99,100,101,102] ((x5.getD (Int.toNat 2) 0).toNat:Int) (fun y21=>cond (cond (decide (y20<0)) true (decide (y21<0))) (wq2b k y15 y16 y17 y18 y19 3 (fun y22 y23 y24 y25 y26=>K y22 y23 y24 y25 y26 (@Go.IntKind.wrap Go.IntKind.u8 (@Go.IntKind.wrap Go.IntKind.i64 ((@Go.IntKind.wrap Go.IntKind.i64 ((16:Int)*y20))+y21))) 3) E) (K y15 y16 y17 y18 y19 (@Go.IntKind.wrap Go.IntKind.u8 (@Go.IntKind.wrap Go.IntKind.i64 ((@Go.IntKind.wrap Go.IntKind.i64 ((16:Int)*y20))+y21))) 3)))) none) none) E) (cond (inb 1 (x5.length:Int)) (cond (inb 2 (x5.length:Int)) (wq2v k [48,49,50,51,52,53,54,55,56,57,97,98,99,100,101,102] ((x5.getD (Int.toNat 1) 0).toNat:Int) (fun y15=>wq2v k [48,49,50,51,52,53,54,55,56,57,97,98,99,100,101,102] ((x5.getD (Int.toNat 2) 0).toNat:Int) (fun y16=>cond (cond (decide (y15<0)) true (decide (y16<0))) (wq2b k y10 y11 y12 y13 y14 3 (fun y17 y18 y19 y20 y21=>K y17 y18 y19 y20 y21 (@Go.IntKind.wrap Go.IntKind.u8 (@Go.IntKind.wrap Go.IntKind.i64 ((@Go.IntKind.wrap Go.IntKind.i64 ((16:Int)*y15))+y16))) 3) E) (K y10 y11 y12 y13 y14 (@Go.IntKind.wrap Go.IntKind.u8 (@Go.IntKind.wrap Go.IntKind.i64 ((@Go.IntKind.wrap Go.IntKind.i64 ((16:Int)*y15))+y16))) 3)))) none) none)) (wq2b k y10 y11 y12 y13 y14 3 (fun y15 y16 y17 y18 y19=>K y15 y16 y17 y18 y19 0 0) E)))))) none) E) (cond (inb 0 (x5.length:Int)) (cond (((x5.getD (Int.toNat 0) 0).toNat:Int) == 92) (cond (inb 0 (x5.length:Int)) (K x0 x1 x2 x3 x4 ((x5.getD (Int.toNat 0) 0).toNat:Int) 1) none) (cond (((x5.getD (Int.toNat 0) 0).toNat:Int) == 34) (cond (inb 0 (x5.length:Int)) (K x0 x1 x2 x3 x4 ((x5.getD (Int.toNat 0) 0).toNat:Int) 1) none) (cond (((x5.getD (Int.toNat 0) 0).toNat:Int) == 110) (K x0 x1 x2 x3 x4 10 1) (cond (((x5.getD (Int.toNat 0) 0).toNat:Int) == 116) (K x0 x1 x2 x3 x4 9 1) (cond (((x5.getD (Int.toNat 0) 0).toNat:Int) == 120) (cond (decide ((x5.length:Int)<3)) (wq2b k x0 x1 x2 x3 x4 3 (fun y10 y11 y12 y13 y14=>cond (inb 1 (x5.length:Int)) (cond (inb 2 (x5.length:Int)) (wq2v k [48,49,50,51,52,53,54,55,56,57,97,98,99,100,101,102] ((x5.getD (Int.toNat 1) 0).toNat:Int) (fun y15=>wq2v k [48,49,50,51,52,53,54,55,56,57,97,98,99,100,101,102] ((x5.getD (Int.toNat 2) 0).toNat:Int) (fun y16=>cond (cond (decide (y15<0)) true (decide (y16<0))) (wq2b k y10 y11 y12 y13 y14 3 (fun y17 y18 y19 y20 y21=>K y17 y18 y19 y20 y21 (@Go.IntKind.wrap Go.IntKind.u8 (@Go.IntKind.wrap Go.IntKind.i64 ((@Go.IntKind.wrap Go.IntKind.i64 ((16:Int)*y15))+y16))) 3) E) (K y10 y11 y12 y13 y14 (@Go.IntKind.wrap Go.IntKind.u8 (@Go.IntKind.wrap Go.IntKind.i64 ((@Go.IntKind.wrap Go.IntKind.i64 ((16:Int)*y15))+y16))) 3)))) none) none) E) (cond (inb 1 (x5.length:Int)) (cond (inb 2 (x5.length:Int)) (wq2v k [48,49,50,51,52,53,54,55,56,57,97,98,99,100,101,102] ((x5.getD (Int.toNat 1) 0).toNat:Int) (fun y10=>wq2v k [48,49,50,51,52,53,54,55,56,57,97,98,99,100,101,102] ((x5.getD (Int.toNat 2) 0).toNat:Int) (fun y11=>cond (cond (decide (y10<0)) true (decide (y11<0))) (wq2b k x0 x1 x2 x3 x4 3 (fun y12 y13 y14 y15 y16=>K y12 y13 y14 y15 y16 (@Go.IntKind.wrap Go.IntKind.u8 (@Go.IntKind.wrap Go.IntKind.i64 ((@Go.IntKind.wrap Go.IntKind.i64 ((16:Int)*y10))+y11))) 3) E) (K x0 x1 x2 x3 x4 (@Go.IntKind.wrap Go.IntKind.u8 (@Go.IntKind.wrap Go.IntKind.i64 ((@Go.IntKind.wrap Go.IntKind.i64 ((16:Int)*y10))+y11))) 3)))) none) none)) (wq2b k x0 x1 x2 x3 x4 3 (fun y10 y11 y12 y13 y14=>K y10 y11 y12 y13 y14 0 0) E)))))) none)
def wqau:=@wqmh
theorem wqxc(k:Nat): DOK Tryz.prog 255 (h_lex_lexer_taken.run (@wqau k)):=dok h_lex_lexer_taken (wqxb k) Tryz.f255 k (ok1 (wqat k) (ok1 (wqiy k) ok0)) (by kernel_rfl) (by kernel_rfl) fun R=>by kernel_rfl
def wqxd(k:Nat): Ent:=h_lex_lexer_taken.e 255 (@wqau k)
end Go.Proofs.YtabkhphoacmcdaaGreatDoor.Pvm
set_option maxHeartbeats 2000000
set_option maxRecDepth 100000
namespace Go.Proofs.YtabkhphoacmcdaaGreatDoor.Pvm
open Go Go.Proofs Go.RowKit
theorem wq19h (b g cap:Nat) (p:Value) (l:List UInt8) (cur:Array Value) (w:World) (hbk:w.heap[b]? = some (.cells #[p,.slice (some ⟨g,0,none⟩) l.length cap] 89 (0,0))) (h0:l≠[])
 (hg:w.heap[g]? = some (.cells cur 5 (0,0))) (hnc:l.length≤cap) (hcm:cap≤maxLen) (hcs:cur.size=cap) (htake:∀(j:Nat) (x:UInt8),l[j]? = some x→w.cell? ⟨g,j,none⟩=some (.int .u8 x.toNat)) :
 Calls Tryz.prog 45 #[.pointer (some ⟨b,0,none⟩)] w fun e w'=>e = .returned (.string ⟨l.toArray⟩)∧w'=w.drew.freeze ⟨g,0,none⟩ l.length:=by
 have hl0:l.length≠0:=by simpa using h0
 have mixed:Tryz.prog.follows .mixedOrders=true:=by kernel_rfl
 have t86:Tryz.prog.underlying 140=some (.pointer 5):=by kernel_rfl
 have c1:w.drew.cell? ⟨b,1,none⟩=some (.slice (some ⟨g,0,none⟩) l.length cap):=by
  have:w.drew.heap[b]? = some (.cells #[p,.slice (some ⟨g,0,none⟩) l.length cap] 89 (0,0)):=hbk
  rw[Lib.cell_of_heap this];rfl
 have hSD:(Builtin.unsafeSliceData_ #[22] 140 #[.slice (some ⟨g,0,none⟩) l.length cap]).run Tryz.prog w.drew = .ok (.pointer (some ⟨g,0,none⟩)) w.drew :=
  Lib.run_unsafeSliceData_row _ _ _ _ _ _ (by omega)
 have hUS:(Builtin.unsafeString_ #[140,3] 9 #[.pointer (some ⟨g,0,none⟩),.int .i64 l.length]).run Tryz.prog w.drew = .ok (.string ⟨l.toArray⟩) (w.drew.freeze ⟨g,0,none⟩ l.length):=by
  refine Lib.run_unsafeString_row w.drew 140 3 9 5 t86 (by kernel_rfl) g cur.size (by have hg':w.drew.heap[g]? = some (.cells cur 5 (0,0)):=hg;simp[World.shape?,hg']) l h0 (by omega) (by unfold maxLen at hcm;omega) ?_
  intro j x hx
  have:=htake j x hx
  rw[show(⟨g,0,none⟩:Addr).add j=⟨g,j,none⟩ by simp[Addr.add];omega]
  exact this
 go_enter Tryz.func45,Tryz.ntmps45
 go_wp2
 go_region_o
 all_goals (go_wp2;go_ret;exact⟨rfl,rfl⟩)
theorem wq1gj(W:World)(q:Option Addr): (Builtin.unsafeString_ #[140,3] 9 #[.pointer q,.int .i64 0]).run Tryz.prog W = .ok (.string .empty) W :=
 Lib.run_unsafeString_none W _ _ _ q
theorem wq1gk(b:Nat)(p:Value)(w:World)(hbk:w.heap[b]? = some (.cells #[p,.slice none 0 0] 89 (0,0))):
 Calls Tryz.prog 45 #[.pointer (some ⟨b,0,none⟩)] w fun e w'=>e = .returned (.string ⟨#[]⟩)∧w'=w.drew:=by
 have hUS:=wq1gj
 have mixed:Tryz.prog.follows .mixedOrders=true:=by kernel_rfl
 have c1:w.drew.cell? ⟨b,1,none⟩=some (.slice none 0 0):=by
  have:w.drew.heap[b]? = some (.cells #[p,.slice none 0 0] 89 (0,0)):=hbk
  rw[Lib.cell_of_heap this];rfl
 have hSD:(Builtin.unsafeSliceData_ #[22] 140 #[.slice none 0 0]).run Tryz.prog w.drew = .ok (.pointer none) w.drew:=rfl
 go_enter Tryz.func45,Tryz.ntmps45
 go_wp2
 go_region_o
 all_goals (go_wp2;go_ret;exact⟨rfl,rfl⟩)
theorem wq1dm(b g cap:Nat)(p:Value)(w:World)(hc0:cap≠0)(hbk:w.heap[b]? = some (.cells #[p,.slice (some ⟨g,0,none⟩) 0 cap] 89 (0,0))):
 Calls Tryz.prog 45 #[.pointer (some ⟨b,0,none⟩)] w fun e w'=>e = .returned (.string ⟨#[]⟩)∧w'=w.drew:=by
 have hUS:=wq1gj
 have mixed:Tryz.prog.follows .mixedOrders=true:=by kernel_rfl
 have c1:w.drew.cell? ⟨b,1,none⟩=some (.slice (some ⟨g,0,none⟩) 0 cap):=by
  have:w.drew.heap[b]? = some (.cells #[p,.slice (some ⟨g,0,none⟩) 0 cap] 89 (0,0)):=hbk
  rw[Lib.cell_of_heap this];rfl
 have hSD:(Builtin.unsafeSliceData_ #[22] 140 #[.slice (some ⟨g,0,none⟩) 0 cap]).run Tryz.prog w.drew = .ok (.pointer (some ⟨g,0,none⟩)) w.drew :=
  Lib.run_unsafeSliceData_row _ _ _ _ _ _ hc0
 clear hc0
 go_enter Tryz.func45,Tryz.ntmps45
 go_wp2
 go_region_o
 all_goals (go_wp2;go_ret;exact⟨rfl,rfl⟩)
theorem wq16e(b g:Nat)(p:Value)(cur:Array Value)(w:World)(hbk:w.heap[b]? = some (.cells #[p,.slice (some ⟨g,0,none⟩) 0 0] 89 (0,0)))(hg:w.heap[g]? = some (.cells cur 5 (0,0))):
 Calls Tryz.prog 45 #[.pointer (some ⟨b,0,none⟩)] w fun e w'=>e = .returned (.string ⟨#[]⟩)∧∃ o,w'=(w.alloc o).drew:=by
 have hUS:=wq1gj
 have hlt:b<w.heap.size:=(Array.getElem?_eq_some_iff.1 hbk).1
 have mixed:Tryz.prog.follows .mixedOrders=true:=by kernel_rfl
 have c1:w.drew.cell? ⟨b,1,none⟩=some (.slice (some ⟨g,0,none⟩) 0 0):=by
  have:w.drew.heap[b]? = some (.cells #[p,.slice (some ⟨g,0,none⟩) 0 0] 89 (0,0)):=hbk
  rw[Lib.cell_of_heap this];rfl
 have hSD:(Builtin.unsafeSliceData_ #[22] 140 #[.slice (some ⟨g,0,none⟩) 0 0]).run Tryz.prog w.drew = .ok (.pointer (some ⟨w.drew.heap.size,0,none⟩)) (w.drew.alloc (.view ⟨g,0,none⟩ 5)) :=
  Lib.run_unsafeSliceData_zero w.drew _ _ 5 (by kernel_rfl) ⟨g,0,none⟩ 0 (5,cur.size) (by have hg':w.drew.heap[g]? = some (.cells cur 5 (0,0)):=hg;simp[World.shape?,hg'])
 have c2:(w.drew.alloc (.view ⟨g,0,none⟩ 5)).cell? ⟨b,1,none⟩=some (.slice (some ⟨g,0,none⟩) 0 0):=by
  have:(w.drew.alloc (.view ⟨g,0,none⟩ 5)).heap[b]? = _:=(Lib.alloc_old w.drew _ b hlt).trans hbk
  rw[Lib.cell_of_heap this];rfl
 have c3:(w.alloc (.view ⟨g,0,none⟩ 5)).drew.cell? ⟨b,1,none⟩=some (.slice (some ⟨g,0,none⟩) 0 0):=c2
 have c0:w.cell? ⟨b,1,none⟩=some (.slice (some ⟨g,0,none⟩) 0 0):=c1
 go_enter Tryz.func45,Tryz.ntmps45
 go_wp2
 go_region_o
 all_goals (go_wp2;go_ret;exact⟨rfl,_,rfl⟩)
def allB:List Int→Bool
 |[]=>true
 |x::r=>decide (0≤x)&&decide (x<256)&&allB r
def wqcn:List LS:=[.obj 1 [.nps 1 0,.own 21 5 (.int .u8)]]
def wq4j(k:Nat){R:Type}(x0:List Int)(K:List Int→List UInt8→Option R): Option R:=bif allB x0 then K x0 (wq62 x0)else none
def wq6i(k:Nat){R:Type}: List PV→List (Nm×HObj)→(Out→Option R)→Option R
 |[.ptr 1 0],[(21,.row 5 (.int .u8) x0),(1,.var 89 [.nps 1 0,.row 21])],K=>wq4j k x0 (fun y0 y1=>K (.ret [.v .str y1] [(1,.var 89 [.nps 1 0,.v (.sl (.int .u8)) y0])]))
 |_,_,_=>none
theorem wqga(vs:Array Value)(w:World): (callFunc 45 vs).run Tryz.prog w = .ok (.enter 45 vs) w:=by
 have h1:Tryz.prog.funcs[45]? = some Tryz.f45:=by kernel_rfl
 have h2:(Tryz.f45.name == "runtime.NumGoroutine")=false:=by kernel_rfl
 have h3:Tryz.f45.body.isNone=false:=by kernel_rfl
 unfold callFunc
 rw[Sem.run_bind]
 have e2:(program).run Tryz.prog w = .ok Tryz.prog w:=rfl
 rw[e2,Result.andThen_ok,h1]
 simp only[h2,h3,Bool.false_eq_true,if_false]
 rfl
theorem wq1je:∀ {l:List Int},allB l=true→∀(i:Nat) (y:Int),l[i]? = some y→0≤y∧y<256
 |[],_,i,y,h=>by simp at h
 |x::r,hb,0,y,h=>by
  simp only[allB,Bool.and_eq_true,decide_eq_true_eq]at hb
  simp at h;subst h;exact hb.1
 |x::r,hb,i+1,y,h=>by
  simp only[allB,Bool.and_eq_true]at hb
  exact wq1je hb.2 i y (by simpa using h)
theorem wq19i {G:Gh} {w w':World} {x0:List Int} {HP:List (Nm×HObj)} (hHP:HP=[(21,.row 5 (.int .u8) x0),(1,.var 89 [.nps 1 0,.row 21])])
 (obj:∀ n o,mkH HP n=some o→RO (mkH HP) G w n o) (dis:Dis (mkH HP) G w) (hblk:∀ b,b<w.heap.size→(∀ g,(G.rv 21).ownBlock=some g→b≠g)→w'.heap[b]? = w.heap[b]?)
 (hcell:∀ g o,(G.rv 21).ownBlock=some g→w'.cell? ⟨g,o,none⟩=w.cell? ⟨g,o,none⟩) (grow:w.heap.size≤w'.heap.size) (os:w'.os=w.os) (tape:w'.tape=w.tape) (out:w'.output=w.output) :
 Fin HP [(1,.var 89 [.nps 1 0,.v (.sl (.int .u8)) x0])] G w G w':=by
 have l1:mkH HP 1=some (.var 89 [.nps 1 0,.row 21]):=by subst hHP;rfl
 have l2:mkH HP 21=some (.row 5 (.int .u8) x0):=by subst hHP;rfl
 generalize hHS:[((1:Nm),HObj.var 89 [.nps 1 0,.v (.sl (.int .u8)) x0])]=HS
 have m1:mkH HS 1=some (.var 89 [.nps 1 0,.v (.sl (.int .u8)) x0]):=by subst hHS;rfl
 have mo:∀ n o,mkH HS n=some o→n=1:=by
  intro n o h
  subst hHS
  simp only[mkH,look]at h
  cases hb:Nat.beq 1 n with
  |true=>exact(Nat.eq_of_beq_eq_true hb).symm
  |false=>rw[hb]at h;cases h
 have bk1:blkOf (mkH HP) G 1=some (G.bk 1):=by simp[blkOf,l1]
 have bk2:blkOf (mkH HP) G 21=(G.rv 21).ownBlock:=by simp[blkOf,l2]
 have ck1:blkOf (mkH HS) G 1=some (G.bk 1):=by simp[blkOf,m1]
 have ck:∀ n b,blkOf (mkH HS) G n=some b→n=1∧b=G.bk 1:=by
  intro n b h
  cases hn:mkH HS n with
  |none=>simp[blkOf,hn]at h
  |some o=>have:=mo n o hn;subst this;rw[ck1]at h;cases h;exact⟨rfl,rfl⟩
 have hne:∀ g,(G.rv 21).ownBlock=some g→G.bk 1≠g:=fun g hg e=>by
  have:=dis.inj 1 21 g (by rw[bk1,e]) (by rw[bk2,hg])
  cases this
 obtain⟨vs,hw,q1,t1,rfl,hq1,q2,t2,rfl,hq2,rfl⟩:=obj 1 _ l1
 obtain⟨rfl,_⟩:=hq2
 have hlt:G.bk 1<w.heap.size:=(Array.getElem?_eq_some_iff.1 hw).1
 have hw':w'.heap[G.bk 1]? = some (.cells [q1,G.rv 21].toArray 89 (0,0)):=by rw[hblk _ hlt hne];exact hw
 have hdat:RD w' (okB (mkH HS) G) (.sl (.int .u8)) x0 [G.rv 21]:=by
  have hro:=obj 21 _ l2
  obtain⟨us,hown,hr,_⟩:=hro
  rcases hown.2 with⟨hv,hn⟩|⟨g,cap,cur,hv,_,hgb,hnc,hcm,hcs,_⟩
  ·exact⟨none,0,by rw[hv,hn],by omega,.inl (List.eq_nil_of_length_eq_zero hn)⟩
  ·have hgo:(G.rv 21).ownBlock=some g:=by rw[hv];rfl
   refine⟨_,cap,by rw[hv],hnc,.inr ⟨_,rfl,?_,?_,?_⟩⟩
   ·refine⟨fun n hn => ?_,fun hx=>dis.xo 21 g (by rw[bk2,hgo]) hx⟩
    obtain⟨_,e⟩:=ck n g hn
    exact hne g hgo e.symm
   ·have:g<w.heap.size:=(Array.getElem?_eq_some_iff.1 hgb).1
    exact Nat.lt_of_lt_of_le this grow
   ·intro i y hy
    obtain⟨c,hc,hu⟩:=hr.get i y hy
    refine⟨c,hc,fun j u hj => ?_⟩
    have:=hown.cells hgo _ _ (hu j u hj)
    rw[Addr.add_lit]at this ⊢
    rw[hcell g _ hgo]
    exact this
 refine⟨fun n o hn => ?_,fun n m b h1 h2=>(ck n b h1).1.trans (ck m b h2).1.symm,fun n t cs hn o ho => ?_,fun n ag V es hn o ho=>(wqrs (by rw[hHP];rfl) hn).elim,fun b hb hf=>hblk b hb fun g hg e=>hf 21 (by rw[bk2,hg,e]),rfl,fun n b hn => .inl ⟨1,by rw[(ck n b hn).2];exact bk1⟩,grow,os,tape,out⟩
 ·have:=mo n o hn;subst this
  rw[m1]at hn;cases hn
  refine⟨_,hw',_,_,rfl,?_,_,_,rfl,hdat,rfl⟩
  rcases hq1 with h|⟨h,_⟩
  ·exact .inl h
  ·exact .inr ⟨h,_,_,m1⟩
 ·have e1:=mo n o ho
  subst e1
  have e2:mkH HS 1=some o:=ho
  have e3:mkH HP 1=some (.var t cs):=hn
  rw[m1]at e2;rw[l1]at e3;cases e2;cases e3
  exact⟨⟨_,rfl⟩,rfl⟩
theorem wqe9(k:Nat){ps:List PV}{hp:List (Nm×HObj)}{R:Type}{K:Out→Option R}{r:R}(h:wq6i k ps hp K=some r): DoesTo Tryz.prog 45 ps hp fun out=>K out=some r:=by
 unfold wq6i at h
 split at h
 ·next x0 =>
  intro G w vals hr obj dis
  unfold wq4j at h
  cases hb:allB x0 with
  |false=>rw[hb]at h;cases h
  |true =>
   rw[hb,cond_true]at h
   obtain⟨v0,l0,rfl,h0,rfl⟩:=hr
   obtain⟨rfl,_⟩:=h0
   generalize hHP:[(21,HObj.row 5 (.int .u8) x0),(1,.var 89 [.nps 1 0,.row 21])]=HP at *
   have l1:mkH HP 1=some (.var 89 [.nps 1 0,.row 21]):=by subst hHP;rfl
   have l2:mkH HP 21=some (.row 5 (.int .u8) x0):=by subst hHP;rfl
   show Does _ _ #[_] _ _
   unfold Does
   rw[wqga]
   obtain⟨vs,hw,q1,t1,rfl,hq1,q2,t2,rfl,hq2,rfl⟩:=obj 1 _ l1
   obtain⟨rfl,_⟩:=hq2
   have hro:=obj 21 _ l2
   obtain⟨us,hown,hrd,_⟩:=hro
   have fin:∀ {e:Ending} {w':World},e = .returned (.string ⟨(wq62 x0).toArray⟩)→(∀ b,b<w.heap.size→(∀ g,(G.rv 21).ownBlock=some g→b≠g)→w'.heap[b]? = w.heap[b]?)→(∀ g o,(G.rv 21).ownBlock=some g→w'.cell? ⟨g,o,none⟩=w.cell? ⟨g,o,none⟩)→w.heap.size≤w'.heap.size→w'.os=w.os→w'.tape=w.tape→w'.output=w.output →
    ∃ out,K out=some r∧∃ G',OutIs G' w' e out∧Fin HP out.hs G w G' w':=by
    intro e w' he h1 h2 h3 h4 h5 h6
    exact⟨_,h,G,⟨_,he,rfl⟩,wq19i hHP.symm obj dis h1 h2 h3 h4 h5 h6⟩
   rcases hown.2 with⟨hv,hn⟩|⟨g,cap,cur,hv,_,hgb,hnc,hcm,hcs,htk⟩
   ·have hx:x0=[]:=List.eq_nil_of_length_eq_zero hn
    subst hx
    rw[hv]at hw
    refine Calls.mono (wq1gk (G.bk 1) q1 w hw) fun e w' hh => ?_
    obtain⟨rfl,rfl⟩:=hh
    exact fin rfl (fun _ _ _=>rfl) (fun _ _ _=>rfl) (Nat.le_refl _) rfl rfl rfl
   ·have hgo:(G.rv 21).ownBlock=some g:=by rw[hv];rfl
    rw[hv]at hw
    by_cases hx:x0=[]
    ·subst hx
     by_cases hc0:cap=0
     ·subst hc0
      refine Calls.mono (wq16e (G.bk 1) g q1 cur w hw hgb) fun e w' hh => ?_
      obtain⟨rfl,o,rfl⟩:=hh
      have hold:∀ b,b<w.heap.size→(w.alloc o).drew.heap[b]? = w.heap[b]? := fun b hb=>Lib.alloc_old w _ b hb
      refine fin rfl (fun b hb _=>hold b hb) (fun g' o' hg' => ?_) (by have:=World.size_alloc w o;show _≤(w.alloc o).heap.size;omega) rfl rfl rfl
      rw[hgo]at hg';cases hg'
      exact World.cell?_of_block (hold g (Array.getElem?_eq_some_iff.1 hgb).1)
     ·refine Calls.mono (wq1dm (G.bk 1) g cap q1 w hc0 hw) fun e w' hh => ?_
      obtain⟨rfl,rfl⟩:=hh
      exact fin rfl (fun _ _ _=>rfl) (fun _ _ _=>rfl) (Nat.le_refl _) rfl rfl rfl
    ·have hlen:(wq62 x0).length=x0.length:=by simp[wq62]
     have hbytes:∀(j:Nat) (x:UInt8),(wq62 x0)[j]? = some x→w.cell? ⟨g,j,none⟩=some (.int .u8 x.toNat):=by
      intro j x hj
      have hjl:j<x0.length:=by rw[←hlen];exact(List.getElem?_eq_some_iff.1 hj).1
      have hy:x0[j]? = some x0[j]:=by simp[hjl]
      obtain⟨c,hc,hu⟩:=hrd.get j _ hy
      have hc:c=[.int .u8 x0[j]]:=hc
      have h9:=hown.cells hgo _ _ (hu 0 (.int .u8 x0[j]) (by rw[hc];rfl))
      rw[Addr.add_lit]at h9
      have hj2:x=UInt8.ofNat (x0[j]).toNat:=by
       simp only[wq62,List.getElem?_map,hy,Option.map_some,Option.some.injEq]at hj
       exact hj.symm
      obtain⟨h10,h11⟩:=wq1je hb j _ hy
      have:((x.toNat:Nat):Int)=x0[j]:=by
       rw[hj2,UInt8.toNat_ofNat']
       omega
      rw[this]
      have e0:0+(j*Kd.sz (.int .u8)+0)=j:=by simp[Kd.sz]
      rw[e0]at h9
      exact h9
     rw[←hlen]at hw
     have hne:wq62 x0≠[]:=by intro e;rw[e]at hlen;exact hx (List.eq_nil_of_length_eq_zero hlen.symm)
     refine Calls.mono (wq19h (G.bk 1) g cap q1 (wq62 x0) cur w hw hne hgb (by omega) hcm (by simpa [Kd.sz]using hcs) hbytes) fun e w' hh => ?_
     obtain⟨rfl,rfl⟩:=hh
     have hfz:∀ b,b≠g→(w.drew.freeze ⟨g,0,none⟩ (wq62 x0).length).heap[b]? = w.heap[b]? := by
      intro b hb
      unfold World.freeze
      split
      ·rfl
      ·show(w.heap.modify g _)[b]? = _
       rw[Array.getElem?_modify,if_neg (Ne.symm hb)]
     refine fin rfl (fun b _ hb=>hfz b (hb g hgo)) (fun g' o' hg' => ?_) ?_ ?_ ?_ ?_
     ·rw[hgo]at hg';cases hg'
      unfold World.freeze
      split
      ·rfl
      ·simp only[World.cell?,World.drew,Array.getElem?_modify,if_true,hgb,Option.map_some]
     all_goals
      unfold World.freeze
      split
      ·first|rfl|exact Nat.le_refl _
      ·first|rfl|(show w.heap.size≤(w.heap.modify g _).size;rw[Array.size_modify];exact Nat.le_refl _)
 ·cases h
end Go.Proofs.YtabkhphoacmcdaaGreatDoor.Pvm
set_option maxHeartbeats 1000000
namespace Go.Proofs.YtabkhphoacmcdaaGreatDoor.Pvm
open Go Go.Proofs Go.RowKit
theorem wq13x(b:Nat)(w:World)(h0:w.cell? ⟨b,0,none⟩=some (.pointer (some ⟨b,0,none⟩))):
 Calls Tryz.prog 89 #[.pointer (some ⟨b,0,none⟩)] w fun e w'=>e = .returned (.tuple #[])∧w'=w:=by
 have t76:Tryz.prog.underlying 87=some (.pointer 89):=by kernel_rfl
 have hs:(Tryz.prog.info? 89).isSome=true:=by kernel_rfl
 obtain⟨j,hj⟩:=Option.isSome_iff_exists.1 hs
 go_enter Tryz.func89,Tryz.ntmps89
 go_wp2
 rw[Lib.run_neq_ptr_same w _ t76 hj]
 go_wp2
 go_end0
 exact⟨rfl,rfl⟩
theorem wq118(b:Nat)(w:World)(h0:w.cell? ⟨b,0,none⟩=some (.pointer none))(hsh:w.shape? b=some (89,2))(hfz:w.frozen? ⟨b,0,none⟩=false):
 Calls Tryz.prog 89 #[.pointer (some ⟨b,0,none⟩)] w fun e w'=>e = .returned (.tuple #[])∧w'=w.setCell ⟨b,0,none⟩ (.pointer (some ⟨b,0,none⟩)):=by
 have t76:Tryz.prog.underlying 87=some (.pointer 89):=by kernel_rfl
 have t89:Tryz.prog.underlying 184=some .unsafePointer:=by kernel_rfl
 have hs:(Tryz.prog.info? 89).map (·.size)=some 2:=by kernel_rfl
 obtain⟨j,hj,hjs⟩:=Option.map_eq_some_iff.1 hs
 have hlies:liesAt Tryz.prog Tryz.prog.depth 89 (2 / Tryz.prog.cellsOf 89) 0 89 1=true:=by kernel_rfl
 go_enter Tryz.func89,Tryz.ntmps89
 go_wp2
 rw[Lib.run_to_unsafe w ⟨b,0,none⟩ t76 t89 hj (by rw[hjs];decide) hsh (Nat.zero_lt_succ 1)]
 simp only[Result.andThen]
 rw[Oper.upon_value]
 go_wp2
 rw[run_callFunc_extern Tryz.func137 (by kernel_rfl) (by kernel_rfl) (by kernel_rfl) (e:=Extern.AbiNoEscape.same) (by kernel_rfl)]
 rw[Lib.run_noEscape]
 simp only[Result.andThen]
 rw[Oper.upon_value]
 go_wp2
 rw[Lib.run_from_unsafe w ⟨b,0,none⟩ t89 t76 hj hsh hlies]
 simp only[Result.andThen]
 rw[Oper.upon_value]
 go_wp2
 go_end0
 exact⟨rfl,rfl⟩
end Go.Proofs.YtabkhphoacmcdaaGreatDoor.Pvm
set_option maxRecDepth 1000000
namespace Go.Proofs.YtabkhphoacmcdaaGreatDoor.Pvm
open Go Go.Proofs
def wqh7:List LS:=[.obj 1 [.nps 1 0,.own 21 5 (.int .u8)]]
def wq8s(k:Nat){R:Type}(x0:List Int)(K:List Int→Option R): Option R:=K x0
def wq7m(k:Nat){R:Type}: List PV→List (Nm×HObj)→(Out→Option R)→Option R
 |[.ptr 1 0],[(21,.row 5 (.int .u8) x0),(1,.var 89 [.nps 1 0,.row 21])],K=>wq8s k x0 (fun y0=>K (.ret [] [(21,.row 5 (.int .u8) y0),(1,.var 89 [.nps 1 0,.row 21])]))
 |_,_,_=>none
theorem wqea(vs:Array Value)(w:World): (callFunc 89 vs).run Tryz.prog w = .ok (.enter 89 vs) w:=by
 have h1:Tryz.prog.funcs[89]? = some Tryz.f89:=by kernel_rfl
 have h2:(Tryz.f89.name == "runtime.NumGoroutine")=false:=by kernel_rfl
 have h3:Tryz.f89.body.isNone=false:=by kernel_rfl
 unfold callFunc
 rw[Sem.run_bind]
 have e2:(program).run Tryz.prog w = .ok Tryz.prog w:=rfl
 rw[e2,Result.andThen_ok,h1]
 simp only[h2,h3,Bool.false_eq_true,if_false]
 rfl
theorem wqir(k:Nat){ps:List PV}{hp:List (Nm×HObj)}{R:Type}{K:Out→Option R}{r:R}(h:wq7m k ps hp K=some r): DoesTo Tryz.prog 89 ps hp fun out=>K out=some r:=by
 unfold wq7m at h
 split at h
 ·next x0 =>
  intro G w vals hr obj dis
  obtain⟨v0,l0,rfl,h0,rfl⟩:=hr
  obtain⟨rfl,_⟩:=h0
  generalize hHP:[(21,HObj.row 5 (.int .u8) x0),(1,.var 89 [.nps 1 0,.row 21])]=HP at *
  have hK:K (.ret [] HP)=some r:=by subst hHP;exact h
  have l1:mkH HP 1=some (.var 89 [.nps 1 0,.row 21]):=by subst hHP;rfl
  have hob:=obj 1 _ l1
  obtain⟨vs,hw,q1,t1,rfl,hq1,q2,t2,rfl,hq2,rfl⟩:=hob
  show Does _ _ #[_] _ _
  unfold Does
  rw[wqea]
  have hcell:w.cell? ⟨G.bk 1,0,none⟩=some q1:=by simp[World.cell?,hw]
  have hlt:G.bk 1<w.heap.size:=(Array.getElem?_eq_some_iff.1 hw).1
  rcases hq1 with rfl|⟨rfl,_⟩
  ·refine Calls.mono (wq118 (G.bk 1) w hcell (by simp[World.shape?,hw]) (by simp[World.frozen?,hw])) fun e w' hh => ?_
   obtain⟨rfl,rfl⟩:=hh
   have oth:∀ b,b≠G.bk 1→(w.setCell ⟨G.bk 1,0,none⟩ (.pointer (some ⟨G.bk 1,0,none⟩))).heap[b]? = w.heap[b]? := fun b hb=>Go.Deep.blk_setCell_other w _ _ b hb
   have bk1:blkOf (mkH HP) G 1=some (G.bk 1):=by simp[blkOf,l1]
   have C:Carry (mkH HP) G w (mkH HP) G (w.setCell ⟨G.bk 1,0,none⟩ (.pointer (some ⟨G.bk 1,0,none⟩))) .row :=
    ⟨fun b ho _=>⟨ho,oth b fun e=>ho.1 1 (by rw[bk1,e])⟩,fun n t cs hn=>⟨⟨cs,hn⟩,rfl⟩,fun n ag V es hn=>⟨⟨es,hn⟩,rfl⟩,fun b hx _=>⟨.inr hx,oth b fun e=>dis.xo 1 b (by rw[bk1,e]) hx⟩,fun n e K xs hn=>⟨⟨rfl,e,K,xs,hn⟩,fun m hm=>by cases hm;exact⟨e,xs,hn,Nat.le_refl _⟩⟩⟩
   have hq2':=RV.carry C _ _ hq2
   refine⟨.ret [] HP,hK,G,⟨_,rfl,⟨[],rfl,rfl⟩⟩,⟨fun n o hn => ?_,dis.inj,fun n t cs hn o ho => ?_,fun n ag V es hn o ho=>(wqrs (by rw[←hHP];rfl) hn).elim,fun b hb hf=>oth b fun e=>hf 1 (by rw[bk1,e]),rfl,fun n b hb => .inl ⟨n,hb⟩,by simp[World.setCell],rfl,rfl,rfl⟩⟩
   ·by_cases hn1:n=1
    ·subst hn1
     rw[show mkH (Out.hs (.ret [] HP)) 1=some (.var 89 [.nps 1 0,.row 21])from l1]at hn
     cases hn
     refine⟨[.pointer (some ⟨G.bk 1,0,none⟩),q2],?_,_,_,rfl,.inr ⟨rfl,89,_,l1⟩,_,_,rfl,hq2',rfl⟩
     have hw2:=(Array.getElem?_eq_some_iff.1 hw).2
     simp only[World.setCell,Array.getElem?_modify,if_pos,hw]
     simp
    ·have hne:∀ b,blkOf (mkH HP) G n=some b→b≠G.bk 1:=fun b hb e=>hn1 (dis.inj n 1 b hb (by rw[bk1,e]))
     have:=RO.carry C hn (obj n o hn) (fun b hb=>oth b (hne b hb)) rfl rfl
     rwa [wqje]at this
   ·have e1:look HP n=some o:=ho
    rw[hn]at e1;cases e1
    exact⟨⟨cs,rfl⟩,rfl⟩
  ·refine Calls.mono (wq13x (G.bk 1) w hcell) fun e w' hh => ?_
   obtain⟨rfl,rfl⟩:=hh
   refine⟨.ret [] HP,hK,G,⟨_,rfl,⟨[],rfl,rfl⟩⟩,⟨obj,dis.inj,fun n t cs hn o ho => ?_,fun n ag V es hn o ho=>(wqrs (by rw[←hHP];rfl) hn).elim,fun _ _ _=>rfl,rfl,fun n b hb => .inl ⟨n,hb⟩,Nat.le_refl _,rfl,rfl,rfl⟩⟩
   have e1:look HP n=some o:=ho
   rw[hn]at e1;cases e1
   exact⟨⟨cs,rfl⟩,rfl⟩
 ·cases h
end Go.Proofs.YtabkhphoacmcdaaGreatDoor.Pvm
set_option maxHeartbeats 0
namespace Go.Proofs.YtabkhphoacmcdaaGreatDoor.Pvm
open Go Go.Proofs
def h_strings_Builder_WriteByte:Sh:=⟨[.o 1 89 0 [.p 1 0,.w 21 5 (.int .u8)],.a (.int .u8)],some ([.o 1 89 0 [.p 1 0,.w 21 5 (.int .u8)]],[.ni]),none⟩
def wqis(k:Nat): Cxt:=⟨[⟨89,wqh7,wq7m k⟩],[1],[],[]⟩
def wqc8(k:Nat){R:Type}(x0:(List Int))(x1:Int)(K:((List Int)→Option R)): Option R:=wq8s k x0 (fun y5=>cond (fits y5.length (@List.length (@Kd.T (@Kd.int Go.IntKind.u8)) [x1]) 1) (K (y5++[x1])) none)
def wq37:=@wqc8
theorem wqc9(k:Nat): DOK Tryz.prog 254 (h_strings_Builder_WriteByte.run (@wq37 k)):=dok h_strings_Builder_WriteByte (wqis k) Tryz.f254 k (ok1 (fun _ _ _ _ _ h=>wqir k h) ok0) (by kernel_rfl) (by kernel_rfl) fun R=>by kernel_rfl
def wqca(k:Nat): Ent:=h_strings_Builder_WriteByte.e 254 (@wq37 k)
def h_lex_lexer_double:Sh:=⟨[.o 1 200 0 [.a kI,.a kI,.a .str,.a kI,.w 21 157 kdT156],.a .str],some ([.o 1 200 0 [.a kI,.a kI,.a .str,.a kI,.w 21 157 kdT156]],[.a .str,.a kI]),some ([.o 1 200 0 [.a kI,.a kI,.a .str,.a kI,.w 21 157 kdT156]],[.i 29 (.g [.a kI,.a kI])])⟩
abbrev wqeb:Type 1:=(R:Type)→Int→Int→(List UInt8)→Int→(List dT156)→(List UInt8)→(Int→Int→(List UInt8)→Int→(List dT156)→(List UInt8)→Int→Option R)→(Int→Int→(List UInt8)→Int→(List dT156)→Int→Int→Option R)→Option R
def u_lex_lexer_double_1003:Cu:=⟨1,[0,1,6,7],[.o 1 200 0 [.a kI,.a kI,.a .str,.a kI,.w 21 157 kdT156],.r 1 0,.a .str,.o 16 89 0 [.p 16 0,.w 36 5 (.int .u8)],.a kI]⟩
def wqk5(k:Nat): Cxt:=⟨[⟨45,wqcn,wq6i k⟩,wqcw k,wqca k,wqxd k],[1],[(1003,u_lex_lexer_double_1003.spec)],[]⟩
def wq8k(k:Nat){R:Type}(E1003:(Int→Int→(List UInt8)→Int→(List dT156)→(List UInt8)→(List Int)→Int→Option R))(s0 s1:Int)(s2:(List UInt8))(s3:Int)(s4:(List dT156))(s5:(List UInt8))(s6:(List Int))(s7:Int)(K:(Int→Int→(List UInt8)→Int→(List dT156)→(List UInt8)→Int→Option R))(E:(Int→Int→(List UInt8)→Int→(List dT156)→Int→Int→Option R)): Option R:=cond (decide (s7<(s5.length:Int))) (cond (inb s7 (s5.length:Int)) (cond (((s5.getD s7.toNat 0).toNat:Int) == 34) (wq4j k s6 (fun y13 y14=>K s0 s1 s2 s3 s4 y14 (@Go.IntKind.wrap Go.IntKind.i64 (s7+1)))) (cond (((s5.getD s7.toNat 0).toNat:Int) == 92) (cond (bnd (@Go.IntKind.wrap Go.IntKind.i64 (s7+1)) (s5.length:Int) (s5.length:Int)) (wqau k s0 s1 s2 s3 s4 (cut s5 (@Go.IntKind.wrap Go.IntKind.i64 (s7+1)) (s5.length:Int)) (fun y13 y14 y15 y16 y17 y18 y19=>wq37 k s6 y18 (fun y20=>E1003 y13 y14 y15 y16 y17 s5 y20 (@Go.IntKind.wrap Go.IntKind.i64 ((@Go.IntKind.wrap Go.IntKind.i64 (s7+y19))+1)))) E) none) (cond (inb s7 (s5.length:Int)) (wq37 k s6 ((s5.getD s7.toNat 0).toNat:Int) (fun y13=>E1003 s0 s1 s2 s3 s4 s5 y13 (@Go.IntKind.wrap Go.IntKind.i64 (s7+1)))) none))) none) (wq2b k s0 s1 s2 s3 s4 3 (fun y13 y14 y15 y16 y17=>K y13 y14 y15 y16 y17 [] 0) E)
def wqf9(k:Nat){R:Type}(E1003:(Int→Int→(List UInt8)→Int→(List dT156)→(List UInt8)→(List Int)→Int→Option R))(x0 x1:Int)(x2:(List UInt8))(x3:Int)(x4:(List dT156))(x5:(List UInt8))(K:(Int→Int→(List UInt8)→Int→(List dT156)→(List UInt8)→Int→Option R))(E:(Int→Int→(List UInt8)→Int→(List dT156)→Int→Int→Option R)): Option R:=E1003 x0 x1 x2 x3 x4 x5 [] 1
def wq4a(k:Nat){R:Type}: Nat→Int→Int→(List UInt8)→Int→(List dT156)→(List UInt8)→(List Int)→Int→(Int→Int→(List UInt8)→Int→(List dT156)→(List UInt8)→Int→Option R)→(Int→Int→(List UInt8)→Int→(List dT156)→Int→Int→Option R)→Option R
 |0,_,_,_,_,_,_,_,_,_,_=>none
 |n+1,s0,s1,s2,s3,s4,s5,s6,s7,K,E=>wq8k k (fun s0 s1 s2 s3 s4 s5 s6 s7=>wq4a k n s0 s1 s2 s3 s4 s5 s6 s7 K E) s0 s1 s2 s3 s4 s5 s6 s7 K E
theorem wqjj(k:Nat){R:Type}: ∀(I:Nat→St→Option R) (n:Nat),h_lex_lexer_double.lp u_lex_lexer_double_1003 (wqk5 k).cx k Tryz.f230 1003 [1,1,0,1,0] I n=wq4a k n:=h_lex_lexer_double.lok u_lex_lexer_double_1003 (B:=wq8k k) (L:=wq4a k) (fun I=>by kernel_rfl) (fun I=>by kernel_rfl) (fun n=>by kernel_rfl) (fun _ _ _ _=>rfl)
def wq7r(k:Nat){R:Type}(x0 x1:Int)(x2:(List UInt8))(x3:Int)(x4:(List dT156))(x5:(List UInt8))(K:(Int→Int→(List UInt8)→Int→(List dT156)→(List UInt8)→Int→Option R))(E:(Int→Int→(List UInt8)→Int→(List dT156)→Int→Int→Option R)): Option R:=wqf9 k (fun s0 s1 s2 s3 s4 s5 s6 s7=>wq4a k k s0 s1 s2 s3 s4 s5 s6 s7 K E) x0 x1 x2 x3 x4 x5 K E
theorem wqus(k:Nat): DOK Tryz.prog 230 (h_lex_lexer_double.run (@wq7r k)):=dok h_lex_lexer_double (wqk5 k) Tryz.f230 k (ok1 (fun _ _ _ _ _ h=>wqe9 k h) (ok1 (wqat k) (ok1 (wqc9 k) (ok1 (wqxc k) ok0)))) (by kernel_rfl) (by kernel_rfl) fun R=>h_lex_lexer_double.f1 u_lex_lexer_double_1003 (wqf9 k) (by kernel_rfl) (wqjj k (fun _ _=>none) k) (by kernel_rfl)
def h_lex_lexer_single:Sh:=⟨[.o 1 200 0 [.a kI,.a kI,.a .str,.a kI,.w 21 157 kdT156],.a .str],some ([.o 1 200 0 [.a kI,.a kI,.a .str,.a kI,.w 21 157 kdT156]],[.a .str,.a kI]),some ([.o 1 200 0 [.a kI,.a kI,.a .str,.a kI,.w 21 157 kdT156]],[.i 29 (.g [.a kI,.a kI])])⟩
abbrev wqec:Type 1:=(R:Type)→Int→Int→(List UInt8)→Int→(List dT156)→(List UInt8)→(Int→Int→(List UInt8)→Int→(List dT156)→(List UInt8)→Int→Option R)→(Int→Int→(List UInt8)→Int→(List dT156)→Int→Int→Option R)→Option R
def u_lex_lexer_single_1003:Cu:=⟨1,[0,1,6,7],[.o 1 200 0 [.a kI,.a kI,.a .str,.a kI,.w 21 157 kdT156],.r 1 0,.a .str,.o 16 89 0 [.p 16 0,.w 36 5 (.int .u8)],.a kI]⟩
def wqk6(k:Nat): Cxt:=⟨[⟨45,wqcn,wq6i k⟩,wqcw k,wqca k],[1],[(1003,u_lex_lexer_single_1003.spec)],[]⟩
def wq8l(k:Nat){R:Type}(E1003:(Int→Int→(List UInt8)→Int→(List dT156)→(List UInt8)→(List Int)→Int→Option R))(s0 s1:Int)(s2:(List UInt8))(s3:Int)(s4:(List dT156))(s5:(List UInt8))(s6:(List Int))(s7:Int)(K:(Int→Int→(List UInt8)→Int→(List dT156)→(List UInt8)→Int→Option R))(E:(Int→Int→(List UInt8)→Int→(List dT156)→Int→Int→Option R)): Option R:=cond (decide (s7<(s5.length:Int))) (cond (inb s7 (s5.length:Int)) (cond (((s5.getD s7.toNat 0).toNat:Int) != 39) (cond (inb s7 (s5.length:Int)) (wq37 k s6 ((s5.getD s7.toNat 0).toNat:Int) (fun y13=>E1003 s0 s1 s2 s3 s4 s5 y13 (@Go.IntKind.wrap Go.IntKind.i64 (s7+1)))) none) (cond ((!((decide ((@Go.IntKind.wrap Go.IntKind.i64 (s7+1))≥(s5.length:Int))) == false)) || (inb (@Go.IntKind.wrap Go.IntKind.i64 (s7+1)) (s5.length:Int))) (cond (cond (decide ((@Go.IntKind.wrap Go.IntKind.i64 (s7+1))≥(s5.length:Int))) true (((s5.getD (@Go.IntKind.wrap Go.IntKind.i64 (s7+1)).toNat 0).toNat:Int) != 39)) (wq4j k s6 (fun y13 y14=>K s0 s1 s2 s3 s4 y14 (@Go.IntKind.wrap Go.IntKind.i64 (s7+1)))) (wq37 k s6 39 (fun y13=>E1003 s0 s1 s2 s3 s4 s5 y13 (@Go.IntKind.wrap Go.IntKind.i64 ((@Go.IntKind.wrap Go.IntKind.i64 (s7+1))+1))))) none)) none) (wq2b k s0 s1 s2 s3 s4 3 (fun y13 y14 y15 y16 y17=>K y13 y14 y15 y16 y17 [] 0) E)
def wqfa(k:Nat){R:Type}(E1003:(Int→Int→(List UInt8)→Int→(List dT156)→(List UInt8)→(List Int)→Int→Option R))(x0 x1:Int)(x2:(List UInt8))(x3:Int)(x4:(List dT156))(x5:(List UInt8))(K:(Int→Int→(List UInt8)→Int→(List dT156)→(List UInt8)→Int→Option R))(E:(Int→Int→(List UInt8)→Int→(List dT156)→Int→Int→Option R)): Option R:=E1003 x0 x1 x2 x3 x4 x5 [] 1
def wq4b(k:Nat){R:Type}: Nat→Int→Int→(List UInt8)→Int→(List dT156)→(List UInt8)→(List Int)→Int→(Int→Int→(List UInt8)→Int→(List dT156)→(List UInt8)→Int→Option R)→(Int→Int→(List UInt8)→Int→(List dT156)→Int→Int→Option R)→Option R
 |0,_,_,_,_,_,_,_,_,_,_=>none
 |n+1,s0,s1,s2,s3,s4,s5,s6,s7,K,E=>wq8l k (fun s0 s1 s2 s3 s4 s5 s6 s7=>wq4b k n s0 s1 s2 s3 s4 s5 s6 s7 K E) s0 s1 s2 s3 s4 s5 s6 s7 K E
theorem wqjk(k:Nat){R:Type}: ∀(I:Nat→St→Option R) (n:Nat),h_lex_lexer_single.lp u_lex_lexer_single_1003 (wqk6 k).cx k Tryz.f229 1003 [1,1,0,1,0] I n=wq4b k n:=h_lex_lexer_single.lok u_lex_lexer_single_1003 (B:=wq8l k) (L:=wq4b k) (fun I=>by kernel_rfl) (fun I=>by kernel_rfl) (fun n=>by kernel_rfl) (fun _ _ _ _=>rfl)
def wq7s(k:Nat){R:Type}(x0 x1:Int)(x2:(List UInt8))(x3:Int)(x4:(List dT156))(x5:(List UInt8))(K:(Int→Int→(List UInt8)→Int→(List dT156)→(List UInt8)→Int→Option R))(E:(Int→Int→(List UInt8)→Int→(List dT156)→Int→Int→Option R)): Option R:=wqfa k (fun s0 s1 s2 s3 s4 s5 s6 s7=>wq4b k k s0 s1 s2 s3 s4 s5 s6 s7 K E) x0 x1 x2 x3 x4 x5 K E
theorem wqut(k:Nat): DOK Tryz.prog 229 (h_lex_lexer_single.run (@wq7s k)):=dok h_lex_lexer_single (wqk6 k) Tryz.f229 k (ok1 (fun _ _ _ _ _ h=>wqe9 k h) (ok1 (wqat k) (ok1 (wqc9 k) ok0))) (by kernel_rfl) (by kernel_rfl) fun R=>h_lex_lexer_single.f1 u_lex_lexer_single_1003 (wqfa k) (by kernel_rfl) (wqjk k (fun _ _=>none) k) (by kernel_rfl)
def h_lex_lexer_text:Sh:=⟨[.o 1 200 0 [.a kI,.a kI,.a .str,.a kI,.w 21 157 kdT156],.a .str],some ([.o 1 200 0 [.a kI,.a kI,.a .str,.a kI,.w 21 157 kdT156]],[]),some ([.o 1 200 0 [.a kI,.a kI,.a .str,.a kI,.w 21 157 kdT156]],[.i 29 (.g [.a kI,.a kI])])⟩
def wqni(k:Nat)(wq1c:wqf7)(wqkl:wqur)(wq15:wqf8)(wqoz:wqzg)(wq7v:wqec)(wq7w:wqeb)(wq71:wqdb): Cxt:=⟨[h_lex_lexer_gives.e 191 wq1c,h_lex_dash.e 193 wqkl,h_lex_lexer_piece.e 194 wq15,h_lex_key.e 195 wqoz,h_lex_lexer_single.e 229 wq7v,h_lex_lexer_double.e 230 wq7w,h_strings_IndexByte.e 231 wq71],[1],[],[]⟩
def wqib(k:Nat)(wq1c:wqf7)(wqkl:wqur)(wq15:wqf8)(wqoz:wqzg)(wq7v:wqec)(wq7w:wqeb)(wq71:wqdb){R:Type}(x0 x1:Int)(x2:(List UInt8))(x3:Int)(x4:(List dT156))(x5:(List UInt8))(K:(Int→Int→(List UInt8)→Int→(List dT156)→Option R))(E:(Int→Int→(List UInt8)→Int→(List dT156)→Int→Int→Option R)): Option R:=cond (inb 0 (x5.length:Int)) (cond (((x5.getD (Int.toNat 0) 0).toNat:Int) == 39) (wq7v R x0 x1 x2 x3 x4 x5 (fun y10 y11 y12 y13 y14 y15 y16=>cond (y16 != (x5.length:Int)) (wq1c R y10 y11 y12 y13 y14 3 (fun y17 y18 y19 y20 y21=>cond (decide ((y15.length:Int)>200)) (wq1c R y17 y18 y19 y20 y21 4 (fun y22 y23 y24 y25 y26=>wq15 R y22 y23 y24 y25 y26 3 y15 true y16 K) E) (wq15 R y17 y18 y19 y20 y21 3 y15 true y16 K)) E) (cond (decide ((y15.length:Int)>200)) (wq1c R y10 y11 y12 y13 y14 4 (fun y17 y18 y19 y20 y21=>wq15 R y17 y18 y19 y20 y21 3 y15 true y16 K) E) (wq15 R y10 y11 y12 y13 y14 3 y15 true y16 K))) E) (cond (((x5.getD (Int.toNat 0) 0).toNat:Int) == 34) (wq7w R x0 x1 x2 x3 x4 x5 (fun y10 y11 y12 y13 y14 y15 y16=>cond (y16 != (x5.length:Int)) (wq1c R y10 y11 y12 y13 y14 3 (fun y17 y18 y19 y20 y21=>cond (decide ((y15.length:Int)>200)) (wq1c R y17 y18 y19 y20 y21 4 (fun y22 y23 y24 y25 y26=>wq15 R y22 y23 y24 y25 y26 3 y15 true y16 K) E) (wq15 R y17 y18 y19 y20 y21 3 y15 true y16 K)) E) (cond (decide ((y15.length:Int)>200)) (wq1c R y10 y11 y12 y13 y14 4 (fun y17 y18 y19 y20 y21=>wq15 R y17 y18 y19 y20 y21 3 y15 true y16 K) E) (wq15 R y10 y11 y12 y13 y14 3 y15 true y16 K))) E) (cond (inb 0 (x5.length:Int)) (wq71 R [91,93,123,125,38,42,33,124,62,37,64,44,63,96] ((x5.getD (Int.toNat 0) 0).toNat:Int) (fun y10=>cond ((decide (y10≥0)) == false) (wqkl R x5 (fun y11=>cond (y11 == false) (wqoz R x5 (fun y12=>cond (!(y12 == [])) (wq1c R x0 x1 x2 x3 x4 4 (fun y13 y14 y15 y16 y17=>cond ((x5.length:Int) != (x5.length:Int)) (wq1c R y13 y14 y15 y16 y17 3 (fun y18 y19 y20 y21 y22=>cond (decide ((x5.length:Int)>200)) (wq1c R y18 y19 y20 y21 y22 4 (fun y23 y24 y25 y26 y27=>wq15 R y23 y24 y25 y26 y27 3 x5 false (x5.length:Int) K) E) (wq15 R y18 y19 y20 y21 y22 3 x5 false (x5.length:Int) K)) E) (cond (decide ((x5.length:Int)>200)) (wq1c R y13 y14 y15 y16 y17 4 (fun y18 y19 y20 y21 y22=>wq15 R y18 y19 y20 y21 y22 3 x5 false (x5.length:Int) K) E) (wq15 R y13 y14 y15 y16 y17 3 x5 false (x5.length:Int) K))) E) (cond ((x5.length:Int) != (x5.length:Int)) (wq1c R x0 x1 x2 x3 x4 3 (fun y13 y14 y15 y16 y17=>cond (decide ((x5.length:Int)>200)) (wq1c R y13 y14 y15 y16 y17 4 (fun y18 y19 y20 y21 y22=>wq15 R y18 y19 y20 y21 y22 3 x5 false (x5.length:Int) K) E) (wq15 R y13 y14 y15 y16 y17 3 x5 false (x5.length:Int) K)) E) (cond (decide ((x5.length:Int)>200)) (wq1c R x0 x1 x2 x3 x4 4 (fun y13 y14 y15 y16 y17=>wq15 R y13 y14 y15 y16 y17 3 x5 false (x5.length:Int) K) E) (wq15 R x0 x1 x2 x3 x4 3 x5 false (x5.length:Int) K))))) (wq1c R x0 x1 x2 x3 x4 4 (fun y12 y13 y14 y15 y16=>cond ((x5.length:Int) != (x5.length:Int)) (wq1c R y12 y13 y14 y15 y16 3 (fun y17 y18 y19 y20 y21=>cond (decide ((x5.length:Int)>200)) (wq1c R y17 y18 y19 y20 y21 4 (fun y22 y23 y24 y25 y26=>wq15 R y22 y23 y24 y25 y26 3 x5 false (x5.length:Int) K) E) (wq15 R y17 y18 y19 y20 y21 3 x5 false (x5.length:Int) K)) E) (cond (decide ((x5.length:Int)>200)) (wq1c R y12 y13 y14 y15 y16 4 (fun y17 y18 y19 y20 y21=>wq15 R y17 y18 y19 y20 y21 3 x5 false (x5.length:Int) K) E) (wq15 R y12 y13 y14 y15 y16 3 x5 false (x5.length:Int) K))) E))) (wq1c R x0 x1 x2 x3 x4 4 (fun y11 y12 y13 y14 y15=>cond ((x5.length:Int) != (x5.length:Int)) (wq1c R y11 y12 y13 y14 y15 3 (fun y16 y17 y18 y19 y20=>cond (decide ((x5.length:Int)>200)) (wq1c R y16 y17 y18 y19 y20 4 (fun y21 y22 y23 y24 y25=>wq15 R y21 y22 y23 y24 y25 3 x5 false (x5.length:Int) K) E) (wq15 R y16 y17 y18 y19 y20 3 x5 false (x5.length:Int) K)) E) (cond (decide ((x5.length:Int)>200)) (wq1c R y11 y12 y13 y14 y15 4 (fun y16 y17 y18 y19 y20=>wq15 R y16 y17 y18 y19 y20 3 x5 false (x5.length:Int) K) E) (wq15 R y11 y12 y13 y14 y15 3 x5 false (x5.length:Int) K))) E))) none))) none
theorem wqzj(k:Nat)(wq1c:wqf7)(wqkl:wqur)(wq15:wqf8)(wqoz:wqzg)(wq7v:wqec)(wq7w:wqeb)(wq71:wqdb)(R:Type): h_lex_lexer_text.at (wqni k wq1c wqkl wq15 wqoz wq7v wq7w wq71) k Tryz.f196 R=@wqib k wq1c wqkl wq15 wqoz wq7v wq7w wq71 R:=by kernel_rfl
def wq6p(k:Nat){R:Type}:= @wqib k (@wq2b k) (@wqg9 k) (@wq44 k) (@wqh6 k) (@wq7s k) (@wq7r k) (@wq2v k) R
theorem wqzk(k:Nat): DOK Tryz.prog 196 (h_lex_lexer_text.run (@wq6p k)):=dok h_lex_lexer_text (wqni k (@wq2b k) (@wqg9 k) (@wq44 k) (@wqh6 k) (@wq7s k) (@wq7r k) (@wq2v k)) Tryz.f196 k (ok1 (wqat k) (ok1 (wq16d k) (ok1 (wqmg k) (ok1 (wq1cc k) (ok1 (wqut k) (ok1 (wqus k) (ok1 (wqiy k) ok0))))))) (by kernel_rfl) (by kernel_rfl) fun R=>wqzj k (@wq2b k) (@wqg9 k) (@wq44 k) (@wqh6 k) (@wq7s k) (@wq7r k) (@wq2v k) R
def wqzl(k:Nat): Ent:=h_lex_lexer_text.e 196 (@wq6p k)
def h_lex_lexer_row:Sh:=⟨[.o 1 200 0 [.a kI,.a kI,.a .str,.a kI,.w 21 157 kdT156]],some ([.o 1 200 0 [.a kI,.a kI,.a .str,.a kI,.w 21 157 kdT156]],[]),some ([.o 1 200 0 [.a kI,.a kI,.a .str,.a kI,.w 21 157 kdT156]],[.i 29 (.g [.a kI,.a kI])])⟩
def u_lex_lexer_row_1003:Cu:=⟨1,[0,2],[.o 1 200 0 [.a kI,.a kI,.a .str,.a kI,.w 21 157 kdT156],.r 1 0,.a .str]⟩
def wqq0(k:Nat): Cxt:=⟨[wqcw k,wqzi k,wq1gi k,wqxa k,wq1io k,wqzl k],[1],[(1003,u_lex_lexer_row_1003.spec)],[]⟩
def wqdc(k:Nat){R:Type}(E1003:(Int→Int→(List UInt8)→Int→(List dT156)→(List UInt8)→Option R))(s0 s1:Int)(s2:(List UInt8))(s3:Int)(s4:(List dT156))(s5:(List UInt8))(K:(Int→Int→(List UInt8)→Int→(List dT156)→Option R))(E:(Int→Int→(List UInt8)→Int→(List dT156)→Int→Int→Option R)): Option R:=wqg9 k s5 (fun y11=>cond y11 (wq44 k s0 s1 s2 s3 s4 1 [] false 1 (fun y12 y13 y14 y15 y16=>wq5h k y12 y13 y14 y15 y16 E1003)) (wqh6 k s5 (fun y12=>cond (!(y12 == [])) (cond (decide ((y12.length:Int)>64)) (wq2b k s0 s1 s2 s3 s4 5 (fun y13 y14 y15 y16 y17=>wq44 k y13 y14 y15 y16 y17 2 y12 false (@Go.IntKind.wrap Go.IntKind.i64 ((y12.length:Int)+1)) (fun y18 y19 y20 y21 y22=>wq5h k y18 y19 y20 y21 y22 (fun y23 y24 y25 y26 y27 y28=>cond (!(y28 == [])) (wq6p k y23 y24 y25 y26 y27 y28 K E) (K y23 y24 y25 y26 y27)))) E) (wq44 k s0 s1 s2 s3 s4 2 y12 false (@Go.IntKind.wrap Go.IntKind.i64 ((y12.length:Int)+1)) (fun y13 y14 y15 y16 y17=>wq5h k y13 y14 y15 y16 y17 (fun y18 y19 y20 y21 y22 y23=>cond (!(y23 == [])) (wq6p k y18 y19 y20 y21 y22 y23 K E) (K y18 y19 y20 y21 y22))))) (cond (!(s5 == [])) (wq6p k s0 s1 s2 s3 s4 s5 K E) (K s0 s1 s2 s3 s4)))))
def wqjl(k:Nat){R:Type}(E1003:(Int→Int→(List UInt8)→Int→(List dT156)→(List UInt8)→Option R))(x0 x1:Int)(x2:(List UInt8))(x3:Int)(x4:(List dT156))(K:(Int→Int→(List UInt8)→Int→(List dT156)→Option R))(E:(Int→Int→(List UInt8)→Int→(List dT156)→Int→Int→Option R)): Option R:=cond (cond (decide (x1<0)) true (decide (x1>16384))) (wq2b k x0 x1 x2 x3 x4 6 (fun y10 y11 y12 y13 y14=>wq5h k y10 y11 y12 y13 y14 E1003) E) (wq5h k x0 x1 x2 x3 x4 E1003)
def wq4z(k:Nat){R:Type}: Nat→Int→Int→(List UInt8)→Int→(List dT156)→(List UInt8)→(Int→Int→(List UInt8)→Int→(List dT156)→Option R)→(Int→Int→(List UInt8)→Int→(List dT156)→Int→Int→Option R)→Option R
 |0,_,_,_,_,_,_,_,_=>none
 |n+1,s0,s1,s2,s3,s4,s5,K,E=>wqdc k (fun s0 s1 s2 s3 s4 s5=>wq4z k n s0 s1 s2 s3 s4 s5 K E) s0 s1 s2 s3 s4 s5 K E
theorem wqmo(k:Nat){R:Type}: ∀(I:Nat→St→Option R) (n:Nat),h_lex_lexer_row.lp u_lex_lexer_row_1003 (wqq0 k).cx k Tryz.f150 1003 [1,1,0,0] I n=wq4z k n:=h_lex_lexer_row.lok u_lex_lexer_row_1003 (B:=wqdc k) (L:=wq4z k) (fun I=>by kernel_rfl) (fun I=>by kernel_rfl) (fun n=>by kernel_rfl) (fun _ _ _ _=>rfl)
def wqfw(k:Nat){R:Type}(x0 x1:Int)(x2:(List UInt8))(x3:Int)(x4:(List dT156))(K:(Int→Int→(List UInt8)→Int→(List dT156)→Option R))(E:(Int→Int→(List UInt8)→Int→(List dT156)→Int→Int→Option R)): Option R:=wqjl k (fun s0 s1 s2 s3 s4 s5=>wq4z k k s0 s1 s2 s3 s4 s5 K E) x0 x1 x2 x3 x4 K E
theorem wq119(k:Nat): DOK Tryz.prog 150 (h_lex_lexer_row.run (@wqfw k)):=dok h_lex_lexer_row (wqq0 k) Tryz.f150 k (ok1 (wqat k) (ok1 (wqzh k) (ok1 (wq16d k) (ok1 (wqmg k) (ok1 (wq1cc k) (ok1 (wqzk k) ok0)))))) (by kernel_rfl) (by kernel_rfl) fun R=>h_lex_lexer_row.f1 u_lex_lexer_row_1003 (wqjl k) (by kernel_rfl) (wqmo k (fun _ _=>none) k) (by kernel_rfl)
def wq12o:List LS:=[.ag [.any,.any,.any]]
def wq1cd(k:Nat): CTab:=(CTab.add 150 h_lex_lexer_row.sig (h_lex_lexer_row.run (@wqfw k)) CTab.nil)
def wqqy{R:Type}(K:((List dT156)→Int→Int→Option R)): Out→Option R
 |.ret [.v (.sl (.pr (.int .i64) (.pr (.int .i64) (.pr (.int .i64) (.pr .str .bool))))) y0,.agg [.v (.int .i64) y1,.v (.int .i64) y2]] []=>K y0 y1 y2
 |_=>none
def wq16f:RetSpec:=⟨[.sl (.pr (.int .i64) (.pr (.int .i64) (.pr (.int .i64) (.pr .str .bool)))),.ag [.any,.any]],[],[]⟩
def wq19j:List (Nat×CutSpec):=[]
def wq16g:List (Nat×Plan):=[]
def wqzm(k:Nat): Ctx:=⟨tyT,wq19j,wq1cd k,[2,3],[],wq16g,@SH⟩
def wqag:Code:=Tryz.f100.body.getD .skip
def wqlb(k:Nat){R:Type}: PV→List PV→List (Nm×HObj)→(Out→Option R)→Option R
 |.nilif,[.ptr 1 0,.ptr 2 0],[(1,.var 110 [.v (.sl (.pr (.int .i64) (.pr (.int .i64) (.pr (.int .i64) (.pr .str .bool))))) x0]),(2,.var 29 [.v (.int .i64) x1,.v (.int .i64) x2])],K=>wqg7 k x0 x1 x2 (fun y0 y1 y2=>K (.ret [] [(1,.var 110 [.v (.sl (.pr (.int .i64) (.pr (.int .i64) (.pr (.int .i64) (.pr .str .bool))))) y0]),(2,.var 29 [.v (.int .i64) y1,.v (.int .i64) y2])]))
 |.ifc 29 (.agg [.v (.int .i64) x3,.v (.int .i64) x4]),[.ptr 1 0,.ptr 2 0],[(1,.var 110 [.v (.sl (.pr (.int .i64) (.pr (.int .i64) (.pr (.int .i64) (.pr .str .bool))))) x0]),(2,.var 29 [.v (.int .i64) x1,.v (.int .i64) x2])],K=>wqg8 k x0 x1 x2 x3 x4 (fun y0 y1 y2=>K (.ret [] [(1,.var 110 [.v (.sl (.pr (.int .i64) (.pr (.int .i64) (.pr (.int .i64) (.pr .str .bool))))) y0]),(2,.var 29 [.v (.int .i64) y1,.v (.int .i64) y2])]))
 |_,_,_,_=>none
def wq13y(k:Nat){R:Type}(x0 x1:Int)(x2:(List UInt8))(K:((List dT156)→Int→Int→Option R)): Option R:=wqfw k x0 x1 x2 0 [] (fun y6 y7 y8 y9 y10=>wqg7 k y10 0 0 K) (fun y6 y7 y8 y9 y10 y11 y12=>wqg8 k [] 0 0 y11 y12 K)
theorem wq19k(k:Nat){R:Type}(I:Nat→St→Option R)(x0 x1:Int)(x2:(List UInt8))(K:((List dT156)→Int→Int→Option R)): fnDK (wqzm k) k [300,400] [at_ [0] wqag] (opsAt (at_ [1,0] wqag)) (at_ [1,1] wqag) 16 [.cell 2 110,.cell 3 29] wq16f (wqlb k) wqw0 [(300,0),(400,0)] [.agg [.v (.int .i64) x0,.v (.int .i64) x1,.v .str x2]] [] (wqqy K)=wq13y k x0 x1 x2 K:=by kernel_rfl
def wqop(k:Nat){R:Type}(x0 x1:Int)(x2:(List UInt8))(K:((List dT156)→Int→Int→Option R)): Option R:=wq13y k x0 x1 x2 K
theorem wq19l(k:Nat){R:Type}(x0 x1:Int)(x2:(List UInt8))(K:((List dT156)→Int→Int→Option R)): fnDK (wqzm k) k [300,400] [at_ [0] wqag] (opsAt (at_ [1,0] wqag)) (at_ [1,1] wqag) 16 [.cell 2 110,.cell 3 29] wq16f (wqlb k) wqw0 [(300,0),(400,0)] [.agg [.v (.int .i64) x0,.v (.int .i64) x1,.v .str x2]] [] (wqqy K)=wqop k x0 x1 x2 K:=by
 exact wq19k k (fun _ _=>none) x0 x1 x2 K
def wqoq(k:Nat){R:Type}: List PV→List (Nm×HObj)→(Out→Option R)→Option R
 |[.agg [.v (.int .i64) x0,.v (.int .i64) x1,.v .str x2]],[],K=>wqop k x0 x1 x2 (fun y0 y1 y2=>K (.ret [.v (.sl (.pr (.int .i64) (.pr (.int .i64) (.pr (.int .i64) (.pr .str .bool))))) y0,.agg [.v (.int .i64) y1,.v (.int .i64) y2]] []))
 |_,_,_=>none
theorem wq19m(k:Nat): (wq1cd k).Ok Tryz.prog:=(wq12e (wq119 k) CTab.nil_ok)
theorem wq11a(k:Nat){R:Type}(rec:PV)(ps:List PV)(hp:List (Nm×HObj))(K:Out→Option R)(r:R)(h:wqlb k rec ps hp K=some r): DoesToD Tryz.prog 149 rec ps hp fun out=>K out=some r:=by
 unfold wqlb at h
 split at h
 ·exact wq13v k h
 ·exact wq13w k h
 ·cases h
theorem wq1ce(k:Nat){ps:List PV}{hp:List (Nm×HObj)}{R:Type}{K:Out→Option R}{r:R}(h:wqoq k ps hp K=some r): DoesTo Tryz.prog 100 ps hp fun out=>K out=some r:=by
 unfold wqoq at h
 split at h
 ·rw[←wq19l]at h
  have:=wq1g0 (P:=Tryz.prog) (cx:=wqzm k) (f:=100) ⟨tyT_ok,wq19m k,fun _ _=>rfl⟩ (by kernel_rfl) (fn:=Tryz.f100) (id:=1) (pre:=[at_ [0] wqag]) (rest:=at_ [1,1] wqag) (ops:=opsAt (at_ [1,0] wqag)) (by kernel_rfl) (by kernel_rfl) (by kernel_rfl) (rs:=[.cell 2 110,.cell 3 29]) (by kernel_rfl) (by kernel_rfl) (by kernel_rfl) (g:=149) (s:=5) (xs:=[.tmp 2,.tmp 3]) (by kernel_rfl) (Invokes.of (fn:=Tryz.f149) (by kernel_rfl) (c:=Tryz.f149.body.getD .skip) (by kernel_rfl) (by kernel_rfl)) (wq11a k) h
  exact this.mono fun out ho=>by
   unfold wqqy at ho
   split at ho<;>first|exact ho|cases ho
 ·cases h
def h_line_quoted:Sh:=⟨[.a .str,.a kI],some ([],[.a kI,.a .bool]),none⟩
def u_line_quoted_1003:Cu:=⟨0,[0,6,7],[.a .str,.a (.int .u8),.a kI]⟩
def wqw3(k:Nat): Cxt:=⟨[],[],[(1003,u_line_quoted_1003.spec)],[]⟩
def wqfb(k:Nat){R:Type}(E1003:((List UInt8)→Int→Int→Option R))(s0:(List UInt8))(s1 s2:Int)(K:(Int→Bool→Option R)): Option R:=cond (decide (s2<(s0.length:Int))) (cond ((!((s1 == 34) == true)) || (inb s2 (s0.length:Int))) (cond (cond (s1 == 34) (((s0.getD s2.toNat 0).toNat:Int) == 92) false) (E1003 s0 s1 (@Go.IntKind.wrap Go.IntKind.i64 ((@Go.IntKind.wrap Go.IntKind.i64 (s2+1))+1))) (cond (inb s2 (s0.length:Int)) (cond (((s0.getD s2.toNat 0).toNat:Int) != s1) (E1003 s0 s1 (@Go.IntKind.wrap Go.IntKind.i64 (s2+1))) (cond ((!((cond (s1 == 39) (decide ((@Go.IntKind.wrap Go.IntKind.i64 (s2+1))<(s0.length:Int))) false) == true)) || (inb (@Go.IntKind.wrap Go.IntKind.i64 (s2+1)) (s0.length:Int))) (cond (cond (cond (s1 == 39) (decide ((@Go.IntKind.wrap Go.IntKind.i64 (s2+1))<(s0.length:Int))) false) (((s0.getD (@Go.IntKind.wrap Go.IntKind.i64 (s2+1)).toNat 0).toNat:Int) == s1) false) (E1003 s0 s1 (@Go.IntKind.wrap Go.IntKind.i64 ((@Go.IntKind.wrap Go.IntKind.i64 (s2+1))+1))) (K s2 true)) none)) none)) none) (K 0 false)
def wqnj(k:Nat){R:Type}(E1003:((List UInt8)→Int→Int→Option R))(x0:(List UInt8))(x1:Int)(K:(Int→Bool→Option R)): Option R:=cond (inb x1 (x0.length:Int)) (E1003 x0 ((x0.getD x1.toNat 0).toNat:Int) (@Go.IntKind.wrap Go.IntKind.i64 (x1+1))) none
def wq7t(k:Nat){R:Type}: Nat→(List UInt8)→Int→Int→(Int→Bool→Option R)→Option R
 |0,_,_,_,_=>none
 |n+1,s0,s1,s2,K=>wqfb k (fun s0 s1 s2=>wq7t k n s0 s1 s2 K) s0 s1 s2 K
theorem wqp7(k:Nat){R:Type}: ∀(I:Nat→St→Option R) (n:Nat),h_line_quoted.lp u_line_quoted_1003 (wqw3 k).cx k Tryz.f147 1003 [1,1,0,1,0] I n=wq7t k n:=h_line_quoted.lok u_line_quoted_1003 (B:=wqfb k) (L:=wq7t k) (fun I=>by kernel_rfl) (fun I=>by kernel_rfl) (fun n=>by kernel_rfl) (fun _ _ _ _=>rfl)
def wqdo(k:Nat){R:Type}(x0:(List UInt8))(x1:Int)(K:(Int→Bool→Option R)): Option R:=wqnj k (fun s0 s1 s2=>wq7t k k s0 s1 s2 K) x0 x1 K
theorem wq16h(k:Nat): DOK Tryz.prog 147 (h_line_quoted.run (@wqdo k)):=dok h_line_quoted (wqw3 k) Tryz.f147 k ok0 (by kernel_rfl) (by kernel_rfl) fun R=>h_line_quoted.f1 u_line_quoted_1003 (wqnj k) (by kernel_rfl) (wqp7 k (fun _ _=>none) k) (by kernel_rfl)
def wq16i(k:Nat): Ent:=h_line_quoted.e 147 (@wqdo k)
def h_strings_trimRightByte:Sh:=⟨[.a .str,.a (.int .u8)],some ([],[.a .str]),none⟩
def u_strings_trimRightByte_1001:Cu:=⟨0,[0,1],[.a .str,.a (.int .u8)]⟩
def wqew(k:Nat): Cxt:=⟨[],[],[(1001,u_strings_trimRightByte_1001.spec)],[]⟩
def wq88(k:Nat){R:Type}(E1001:((List UInt8)→Int→Option R))(s0:(List UInt8))(s1:Int)(K:((List UInt8)→Option R)): Option R:=cond ((!((decide ((s0.length:Int)>0)) == true)) || (inb (@Go.IntKind.wrap Go.IntKind.i64 ((s0.length:Int)-1)) (s0.length:Int))) (cond (cond (decide ((s0.length:Int)>0)) (((s0.getD (@Go.IntKind.wrap Go.IntKind.i64 ((s0.length:Int)-1)).toNat 0).toNat:Int) == s1) false) (cond (bnd 0 (@Go.IntKind.wrap Go.IntKind.i64 ((s0.length:Int)-1)) (s0.length:Int)) (E1001 (cut s0 0 (@Go.IntKind.wrap Go.IntKind.i64 ((s0.length:Int)-1))) s1) none) (K s0)) none
def wqb4(k:Nat){R:Type}(E1001:((List UInt8)→Int→Option R))(x0:(List UInt8))(x1:Int)(K:((List UInt8)→Option R)): Option R:=E1001 x0 x1
def wq40(k:Nat){R:Type}: Nat→(List UInt8)→Int→((List UInt8)→Option R)→Option R
 |0,_,_,_=>none
 |n+1,s0,s1,K=>wq88 k (fun s0 s1=>wq40 k n s0 s1 K) s0 s1 K
theorem wqgb(k:Nat){R:Type}: ∀(I:Nat→St→Option R) (n:Nat),h_strings_trimRightByte.lp u_strings_trimRightByte_1001 (wqew k).cx k Tryz.f188 1001 [1,0,0] I n=wq40 k n:=h_strings_trimRightByte.lok u_strings_trimRightByte_1001 (B:=wq88 k) (L:=wq40 k) (fun I=>by kernel_rfl) (fun I=>by kernel_rfl) (fun n=>by kernel_rfl) (fun _ _ _ _=>rfl)
def wq8m(k:Nat){R:Type}(x0:(List UInt8))(x1:Int)(K:((List UInt8)→Option R)): Option R:=wqb4 k (fun s0 s1=>wq40 k k s0 s1 K) x0 x1 K
theorem wqmp(k:Nat): DOK Tryz.prog 188 (h_strings_trimRightByte.run (@wq8m k)):=dok h_strings_trimRightByte (wqew k) Tryz.f188 k ok0 (by kernel_rfl) (by kernel_rfl) fun R=>h_strings_trimRightByte.f1 u_strings_trimRightByte_1001 (wqb4 k) (by kernel_rfl) (wqgb k (fun _ _=>none) k) (by kernel_rfl)
def wqmq(k:Nat): Ent:=h_strings_trimRightByte.e 188 (@wq8m k)
def h_strings_TrimRight:Sh:=⟨[.a .str,.j],some ([],[.a .str]),none⟩
def wqsg(k:Nat): Cxt:=⟨[wqmq k],[],[],[]⟩
def wqiz(k:Nat){R:Type}(x0:(List UInt8))(x1:UInt8)(K:((List UInt8)→Option R)): Option R:=cond (cond (x0 == []) true ([x1] == [])) (K x0) (cond (cond ((@List.length UInt8 [x1]:Int) == 1) (decide (((([x1]).getD (Int.toNat 0) 0).toNat:Int)<128)) false) (wq8m k x0 ((([x1]).getD (Int.toNat 0) 0).toNat:Int) K) none)
def wq6w:=@wqiz
theorem wqsh(k:Nat): DOK Tryz.prog 148 (h_strings_TrimRight.run (@wq6w k)):=dok h_strings_TrimRight (wqsg k) Tryz.f148 k (ok1 (wqmp k) ok0) (by kernel_rfl) (by kernel_rfl) fun R=>by kernel_rfl
def wqsi(k:Nat): Ent:=h_strings_TrimRight.e 148 (@wq6w k)
def h_line_Strip:Sh:=⟨[.a .str],some ([],[.a .str,.a .bool]),none⟩
def u_line_Strip_1003:Cu:=⟨0,[0,4,5],[.a .str,.a kI,.a kI]⟩
def wqzn(k:Nat): Cxt:=⟨[wq16i k,wqsi k],[],[(1003,u_line_Strip_1003.spec)],[]⟩
def wqgo(k:Nat){R:Type}(E1003:((List UInt8)→Int→Int→Option R))(s0:(List UInt8))(s1 s2:Int)(K:((List UInt8)→Bool→Option R)): Option R:=cond (decide (s2<(s0.length:Int))) (cond ((!((decide (s2>0)) == true)) || (inb (@Go.IntKind.wrap Go.IntKind.i64 (s2-1)) (s0.length:Int))) (cond (cond (decide (s2>0)) (((s0.getD (@Go.IntKind.wrap Go.IntKind.i64 (s2-1)).toNat 0).toNat:Int) != 32) false) (E1003 s0 s1 (@Go.IntKind.wrap Go.IntKind.i64 (s2+1))) (cond (inb s2 (s0.length:Int)) (cond (((s0.getD s2.toNat 0).toNat:Int) == 35) (cond (bnd 0 s2 (s0.length:Int)) (wq6w k (cut s0 0 s2) 32 (fun y7=>K y7 true)) none) (cond (((s0.getD s2.toNat 0).toNat:Int) == 39) (wqdo k s0 s2 (fun y7 y8=>cond (!y8) (K [] false) (E1003 s0 s1 (@Go.IntKind.wrap Go.IntKind.i64 (y7+1))))) (cond (((s0.getD s2.toNat 0).toNat:Int) == 34) (wqdo k s0 s2 (fun y7 y8=>cond (!y8) (K [] false) (E1003 s0 s1 (@Go.IntKind.wrap Go.IntKind.i64 (y7+1))))) (E1003 s0 s1 (@Go.IntKind.wrap Go.IntKind.i64 (s2+1)))))) none)) none) (cond (bnd 0 s1 (s0.length:Int)) (wq6w k (cut s0 0 s1) 32 (fun y7=>K y7 true)) none)
def wqqz(k:Nat){R:Type}(E1003:((List UInt8)→Int→Int→Option R))(x0:(List UInt8))(K:((List UInt8)→Bool→Option R)): Option R:=E1003 x0 (x0.length:Int) 0
def wq4g(k:Nat){R:Type}: Nat→(List UInt8)→Int→Int→((List UInt8)→Bool→Option R)→Option R
 |0,_,_,_,_=>none
 |n+1,s0,s1,s2,K=>wqgo k (fun s0 s1 s2=>wq4g k n s0 s1 s2 K) s0 s1 s2 K
theorem wqr0(k:Nat){R:Type}: ∀(I:Nat→St→Option R) (n:Nat),h_line_Strip.lp u_line_Strip_1003 (wqzn k).cx k Tryz.f99 1003 [1,0,1,1,0,1,0] I n=wq4g k n:=h_line_Strip.lok u_line_Strip_1003 (B:=wqgo k) (L:=wq4g k) (fun I=>by kernel_rfl) (fun I=>by kernel_rfl) (fun n=>by kernel_rfl) (fun _ _ _ _=>rfl)
def wqfc(k:Nat){R:Type}(x0:(List UInt8))(K:((List UInt8)→Bool→Option R)): Option R:=wqqz k (fun s0 s1 s2=>wq4g k k s0 s1 s2 K) x0 K
theorem wqzo(k:Nat): DOK Tryz.prog 99 (h_line_Strip.run (@wqfc k)):=dok h_line_Strip (wqzn k) Tryz.f99 k (ok1 (wq16h k) (ok1 (wqsh k) ok0)) (by kernel_rfl) (by kernel_rfl) fun R=>h_line_Strip.f1 u_line_Strip_1003 (wqqz k) (by kernel_rfl) (wqr0 k (fun _ _=>none) k) (by kernel_rfl)
def wqzp(k:Nat): Ent:=h_line_Strip.e 99 (@wqfc k)
def h_show_plain:Sh:=⟨[.a .str],some ([],[.a .bool]),none⟩
def u_show_plain_1002:Cu:=⟨0,[0,9,10],[.a .str,.a kI,.a kI]⟩
def wqzq(k:Nat): Cxt:=⟨[wqzp k,⟨100,wq12o,wqoq k⟩],[],[(1002,u_show_plain_1002.spec)],[]⟩
def wqcx(k:Nat){R:Type}(E1002:((List UInt8)→Int→Int→Option R))(s0:(List UInt8))(s1 s2:Int)(K:(Bool→Option R)): Option R:=cond (decide (s2<s1)) (cond (inb s2 (s0.length:Int)) (cond ((!((decide (((s0.getD s2.toNat 0).toNat:Int)<32)) == false)) || (inb s2 (s0.length:Int))) (cond (cond (decide (((s0.getD s2.toNat 0).toNat:Int)<32)) true (((s0.getD s2.toNat 0).toNat:Int) == 127)) (K false) (E1002 s0 s1 (@Go.IntKind.wrap Go.IntKind.i64 (s2+1)))) none) none) (wqfc k s0 (fun y7 y8=>cond (cond (cond (s0 == []) true (!y8)) true (!(y7 == s0))) (K false) (wqop k 0 0 s0 (fun y9 y10 y11=>cond ((!((cond (y10 == 0) ((y9.length:Int) == 1) false) == true)) || (inb 0 (y9.length:Int))) (cond ((!((cond (cond (y10 == 0) ((y9.length:Int) == 1) false) ((y9.getD (Int.toNat 0) kdT156.zero).1 == 3) false) == true)) || (inb 0 (y9.length:Int))) (cond ((!((cond (cond (cond (y10 == 0) ((y9.length:Int) == 1) false) ((y9.getD (Int.toNat 0) kdT156.zero).1 == 3) false) (((((y9.getD (Int.toNat 0) kdT156.zero).2).2).2).1 == s0) false) == true)) || (inb 0 (y9.length:Int))) (K (cond (cond (cond (cond (y10 == 0) ((y9.length:Int) == 1) false) ((y9.getD (Int.toNat 0) kdT156.zero).1 == 3) false) (((((y9.getD (Int.toNat 0) kdT156.zero).2).2).2).1 == s0) false) (!((((y9.getD (Int.toNat 0) kdT156.zero).2).2).2).2) false)) none) none) none))))
def wqr1(k:Nat){R:Type}(E1002:((List UInt8)→Int→Int→Option R))(x0:(List UInt8))(K:(Bool→Option R)): Option R:=E1002 x0 (x0.length:Int) 0
def wq79(k:Nat){R:Type}: Nat→(List UInt8)→Int→Int→(Bool→Option R)→Option R
 |0,_,_,_,_=>none
 |n+1,s0,s1,s2,K=>wqcx k (fun s0 s1 s2=>wq79 k n s0 s1 s2 K) s0 s1 s2 K
theorem wqr2(k:Nat){R:Type}: ∀(I:Nat→St→Option R) (n:Nat),h_show_plain.lp u_show_plain_1002 (wqzq k).cx k Tryz.f164 1002 [1,0,1,0] I n=wq79 k n:=h_show_plain.lok u_show_plain_1002 (B:=wqcx k) (L:=wq79 k) (fun I=>by kernel_rfl) (fun I=>by kernel_rfl) (fun n=>by kernel_rfl) (fun _ _ _ _=>rfl)
def wqic(k:Nat){R:Type}(x0:(List UInt8))(K:(Bool→Option R)): Option R:=wqr1 k (fun s0 s1 s2=>wq79 k k s0 s1 s2 K) x0 K
theorem wq19n(k:Nat): DOK Tryz.prog 164 (h_show_plain.run (@wqic k)):=dok h_show_plain (wqzq k) Tryz.f164 k (ok1 (wqzo k) (ok1 (fun _ _ _ _ _ h=>wq1ce k h) ok0)) (by kernel_rfl) (by kernel_rfl) fun R=>h_show_plain.f1 u_show_plain_1002 (wqr1 k) (by kernel_rfl) (wqr2 k (fun _ _=>none) k) (by kernel_rfl)
def wq19o(k:Nat): Ent:=h_show_plain.e 164 (@wqic k)
def h_show_may:Sh:=⟨[.g [.a kI,.a kI,.a .str,.a .bool,.s .str,.s kI]],some ([],[.a .bool]),none⟩
def wq1gl(k:Nat): Cxt:=⟨[wq19o k,wq19g k],[],[],[]⟩
def wq16j(k:Nat){R:Type}(x0 x1:Int)(x2:(List UInt8))(x3:Bool)(x4:(List (List UInt8)))(x5:(List Int))(K:(Bool→Option R)): Option R:=cond (x0 == 1) (cond ((cond (cond ((x4.length:Int) == 0) ((x5.length:Int) == 0) false) (decide ((x2.length:Int)≤200)) false) == true) (cond (x3 == false) (wqic k x2 K) (K true)) (K false)) (cond (x0 == 2) (K (cond (cond (cond (x2 == []) (!x3) false) ((x4.length:Int) == 0) false) (decide ((x5.length:Int)>0)) false)) (cond (x0 == 3) (cond ((cond (cond (cond (x2 == []) (!x3) false) (decide ((x5.length:Int)>0)) false) ((x4.length:Int) == (x5.length:Int)) false) == true) (wqi7 k x4 K) (K false)) (K false)))
def wqnk:=@wq16j
theorem wq1gm(k:Nat): DOK Tryz.prog 111 (h_show_may.run (@wqnk k)):=dok h_show_may (wq1gl k) Tryz.f111 k (ok1 (wq19n k) (ok1 (wq19f k) ok0)) (by kernel_rfl) (by kernel_rfl) fun R=>by kernel_rfl
def wq1gn(k:Nat): Ent:=h_show_may.e 111 (@wqnk k)
def h_show_walk:Sh:=⟨[.g [.s kdT72],.a kI,.a kI],some ([],[.a kI]),none⟩
abbrev wqdd:Type 1:=(R:Type)→(List dT72)→Int→Int→(Int→Option R)→Option R
def u_show_walk_1005:Cu:=⟨0,[2,3,7,35,36,37],[.a kI,.o 13 38 0 [.s kdT72],.a kI,.s kI,.a kI,.a kI]⟩
def wqor(k:Nat)(wq5q:wqdd): Cxt:=⟨[h_show_walk.e 68 wq5q,wq1gn k],[],[(1005,u_show_walk_1005.spec)],[]⟩
def wqed(k:Nat)(wq5q:wqdd){R:Type}(E1005:(Int→(List dT72)→Int→(List Int)→Int→Int→Option R))(s0:Int)(s1:(List dT72))(s2:Int)(s3:(List Int))(s4 s5:Int)(K:(Int→Option R)): Option R:=cond (decide (s5<s4)) (cond (inb s5 (s3.length:Int)) (cond ((s3.getD s5.toNat kI.zero) != s2) (K (@Neg.neg Int @Int.instNegInt (1:Int))) (wq5q R s1 (s3.getD s5.toNat kI.zero) (@Go.IntKind.wrap Go.IntKind.i64 (s0+1)) (fun y10=>cond (decide (y10<0)) (K (@Neg.neg Int @Int.instNegInt (1:Int))) (E1005 s0 s1 y10 s3 s4 (@Go.IntKind.wrap Go.IntKind.i64 (s5+1)))))) none) (K s2)
def wqk7(k:Nat)(wq5q:wqdd){R:Type}(E1005:(Int→(List dT72)→Int→(List Int)→Int→Int→Option R))(x0:(List dT72))(x1 x2:Int)(K:(Int→Option R)): Option R:=cond ((!((cond (decide (x1≥(x0.length:Int))) true (decide (x2>24))) == false)) || (inb x1 (x0.length:Int))) (cond ((cond (decide (x1≥(x0.length:Int))) true (decide (x2>24))) == false) (wqnk k (x0.getD x1.toNat kdT72.zero).1 ((x0.getD x1.toNat kdT72.zero).2).1 (((x0.getD x1.toNat kdT72.zero).2).2).1 ((((x0.getD x1.toNat kdT72.zero).2).2).2).1 (((((x0.getD x1.toNat kdT72.zero).2).2).2).2).1 (((((x0.getD x1.toNat kdT72.zero).2).2).2).2).2 (fun y7=>cond (!y7) (K (@Neg.neg Int @Int.instNegInt (1:Int))) (cond (inb x1 (x0.length:Int)) (E1005 x2 x0 (@Go.IntKind.wrap Go.IntKind.i64 (x1+1)) (((((x0.getD x1.toNat kdT72.zero).2).2).2).2).2 (((((((x0.getD x1.toNat kdT72.zero).2).2).2).2).2).length:Int) 0) none))) (K (@Neg.neg Int @Int.instNegInt (1:Int)))) none
def wq89(k:Nat)(wq5q:wqdd){R:Type}: Nat→Int→(List dT72)→Int→(List Int)→Int→Int→(Int→Option R)→Option R
 |0,_,_,_,_,_,_,_=>none
 |n+1,s0,s1,s2,s3,s4,s5,K=>wqed k wq5q (fun s0 s1 s2 s3 s4 s5=>wq89 k wq5q n s0 s1 s2 s3 s4 s5 K) s0 s1 s2 s3 s4 s5 K
theorem wqsj(k:Nat)(wq5q:wqdd){R:Type}: ∀(I:Nat→St→Option R) (n:Nat),h_show_walk.lp u_show_walk_1005 (wqor k wq5q).cx k Tryz.f68 1005 [1,1,1,0,1,0] I n=wq89 k wq5q n:=h_show_walk.lok u_show_walk_1005 (B:=wqed k wq5q) (L:=wq89 k wq5q) (fun I=>by kernel_rfl) (fun I=>by kernel_rfl) (fun n=>by kernel_rfl) (fun _ _ _ _=>rfl)
theorem wq1dn(k:Nat)(wq5q:wqdd)(R:Type): h_show_walk.at (wqor k wq5q) k Tryz.f68 R=h_show_walk.glue (l:=h_show_walk.ps) (u:=u_show_walk_1005.fs) (fun E1005=>@wqk7 k wq5q R E1005) (h_show_walk.lp u_show_walk_1005 (wqor k wq5q).cx k Tryz.f68 1005 [1,1,1,0,1,0] (fun _ _=>none) k):=by kernel_rfl
def wq8a:Nat→wqdd
 |0,_,_,_,_,_=>none
 |k+1,R,x0,x1,x2,K=>wqk7 k (wq8a k) (fun s0 s1 s2 s3 s4 s5=>wq89 k (wq8a k) k s0 s1 s2 s3 s4 s5 K) x0 x1 x2 K
def wqos(k:Nat){R:Type}(x0:(List dT72))(x1 x2:Int)(K:(Int→Option R)): Option R:=wq8a k R x0 x1 x2 K
theorem wq19p(k:Nat): DOK Tryz.prog 68 (h_show_walk.run (wq8a k)):=by
 induction k with
 |zero=>exact h_show_walk.ok0 fun R=>by kernel_rfl
 |succ k ih =>
  have ih_show_walk:=ih
  exact dok h_show_walk (wqor k (wq8a k)) Tryz.f68 k (ok1 ih_show_walk (ok1 (wq1gm k) ok0)) (by kernel_rfl) (by kernel_rfl) fun R=>h_show_walk.f1 u_show_walk_1005 (wqk7 k (wq8a k)) (wq1dn k (wq8a k) R) (wqsj k (wq8a k) (fun _ _=>none) k) (by kernel_rfl)
theorem wq1do(k:Nat): DOK Tryz.prog 68 (h_show_walk.run (@wqos k)):=(wq19p k)
def wq1dp(k:Nat): Ent:=h_show_walk.e 68 (@wqos k)
def h_show_Check:Sh:=⟨[.g [.s kdT72]],some ([],[.a kI]),none⟩
def wq19q(k:Nat): Cxt:=⟨[wq1dp k],[],[],[(1,(.of [(0,1),(1,1),(2,1),(3,1),(4,1),(5,1),(6,1),(7,1),(8,1),(9,1),(10,1),(13,1),(11,1),(14,2),(15,1),(12,0),(16,1),(17,1)] .done))]⟩
def wqzr(k:Nat){R:Type}(x0:(List dT72))(K:(Int→Option R)): Option R:=cond ((cond (decide ((x0.length:Int)<1)) true (decide ((x0.length:Int)>2000))) == false) (wqos k x0 0 1 (fun y4=>cond (y4 != (x0.length:Int)) (K 1) (K 0))) (K 1)
def wqid:=@wqzr
theorem wq19r(k:Nat): DOK Tryz.prog 35 (h_show_Check.run (@wqid k)):=dok h_show_Check (wq19q k) Tryz.f35 k (ok1 (wq1do k) ok0) (by kernel_rfl) (by kernel_rfl) fun R=>by kernel_rfl
def wqnl:List LS:=[.ag [.sl (.pr (.int .i64) (.pr (.int .i64) (.pr .str (.pr .bool (.pr (.sl .str) (.sl (.int .i64)))))))]]
def wq12p(k:Nat): CTab:=(CTab.add 35 h_show_Check.sig (h_show_Check.run (@wqid k)) (CTab.add 37 h_config_reader_root.sig (h_config_reader_root.run (@wq86 k)) CTab.nil))
def wqlc{R:Type}(K:((List ((List UInt8)×(List Int)))→(List dT56)→Int→Int→Option R)): Out→Option R
 |.ret [.agg [.v (.sl (.pr .str (.sl (.int .i64)))) y0,.v (.sl (.pr .str (.pr .str (.pr .bool (.pr (.int .i64) (.pr (.int .i64) (.pr .bool (.pr (.pr .str (.pr (.int .i64) (.pr (.int .i64) (.pr .flt (.pr .bool .bool))))) (.sl (.int .i64)))))))))) y1],.agg [.v (.int .i64) y2,.v (.int .i64) y3]] []=>K y0 y1 y2 y3
 |_=>none
def wqzs:RetSpec:=⟨[.ag [.sl (.pr .str (.sl (.int .i64))),.sl (.pr .str (.pr .str (.pr .bool (.pr (.int .i64) (.pr (.int .i64) (.pr .bool (.pr (.pr .str (.pr (.int .i64) (.pr (.int .i64) (.pr .flt (.pr .bool .bool))))) (.sl (.int .i64)))))))))],.ag [.any,.any]],[],[]⟩
def wq13z:List (Nat×CutSpec):=[]
def wq11b:List (Nat×Plan):=[]
def wqr3(k:Nat): Ctx:=⟨tyT,wq13z,wq12p k,[2,3],[],wq11b,@SH⟩
def wq4u:Code:=Tryz.f16.body.getD .skip
def wqh8(k:Nat){R:Type}: PV→List PV→List (Nm×HObj)→(Out→Option R)→Option R
 |.nilif,[.ptr 1 0,.ptr 2 0],[(1,.var 27 [.v (.sl (.pr .str (.sl (.int .i64)))) x0,.v (.sl (.pr .str (.pr .str (.pr .bool (.pr (.int .i64) (.pr (.int .i64) (.pr .bool (.pr (.pr .str (.pr (.int .i64) (.pr (.int .i64) (.pr .flt (.pr .bool .bool))))) (.sl (.int .i64)))))))))) x1]),(2,.var 29 [.v (.int .i64) x2,.v (.int .i64) x3])],K=>wqck k x0 x1 x2 x3 (fun y0 y1 y2 y3=>K (.ret [] [(1,.var 27 [.v (.sl (.pr .str (.sl (.int .i64)))) y0,.v (.sl (.pr .str (.pr .str (.pr .bool (.pr (.int .i64) (.pr (.int .i64) (.pr .bool (.pr (.pr .str (.pr (.int .i64) (.pr (.int .i64) (.pr .flt (.pr .bool .bool))))) (.sl (.int .i64)))))))))) y1]),(2,.var 29 [.v (.int .i64) y2,.v (.int .i64) y3])]))
 |.ifc 29 (.agg [.v (.int .i64) x4,.v (.int .i64) x5]),[.ptr 1 0,.ptr 2 0],[(1,.var 27 [.v (.sl (.pr .str (.sl (.int .i64)))) x0,.v (.sl (.pr .str (.pr .str (.pr .bool (.pr (.int .i64) (.pr (.int .i64) (.pr .bool (.pr (.pr .str (.pr (.int .i64) (.pr (.int .i64) (.pr .flt (.pr .bool .bool))))) (.sl (.int .i64)))))))))) x1]),(2,.var 29 [.v (.int .i64) x2,.v (.int .i64) x3])],K=>wqcl k x0 x1 x2 x3 x4 x5 (fun y0 y1 y2 y3=>K (.ret [] [(1,.var 27 [.v (.sl (.pr .str (.sl (.int .i64)))) y0,.v (.sl (.pr .str (.pr .str (.pr .bool (.pr (.int .i64) (.pr (.int .i64) (.pr .bool (.pr (.pr .str (.pr (.int .i64) (.pr (.int .i64) (.pr .flt (.pr .bool .bool))))) (.sl (.int .i64)))))))))) y1]),(2,.var 29 [.v (.int .i64) y2,.v (.int .i64) y3])]))
 |_,_,_,_=>none
def wquu(k:Nat){R:Type}(x0:(List dT72))(K:((List ((List UInt8)×(List Int)))→(List dT56)→Int→Int→Option R)): Option R:=wqid k x0 (fun y4=>cond (y4 != 0) (K [] [] 11 0) (wq86 k x0 [] [] 0 (fun y5 y6 y7 y8=>wqck k y6 y7 0 0 K) (fun y5 y6 y7 y8 y9 y10=>wqcl k [] [] 0 0 y9 y10 K)))
theorem wq140(k:Nat){R:Type}(I:Nat→St→Option R)(x0:(List dT72))(K:((List ((List UInt8)×(List Int)))→(List dT56)→Int→Int→Option R)): fnDK (wqr3 k) k [300,400] [at_ [0] wq4u,at_ [1,0] wq4u] (opsAt (at_ [1,1,0] wq4u)) (at_ [1,1,1] wq4u) 22 [.cell 2 27,.cell 3 29] wqzs (wqh8 k) wqps [(300,0),(400,0)] [.agg [.v (.sl (.pr (.int .i64) (.pr (.int .i64) (.pr .str (.pr .bool (.pr (.sl .str) (.sl (.int .i64)))))))) x0]] [] (wqlc K)=wquu k x0 K:=by kernel_rfl
def wq9v(k:Nat){R:Type}(x0:(List dT72))(K:((List ((List UInt8)×(List Int)))→(List dT56)→Int→Int→Option R)): Option R:=wquu k x0 K
theorem wq141(k:Nat){R:Type}(x0:(List dT72))(K:((List ((List UInt8)×(List Int)))→(List dT56)→Int→Int→Option R)): fnDK (wqr3 k) k [300,400] [at_ [0] wq4u,at_ [1,0] wq4u] (opsAt (at_ [1,1,0] wq4u)) (at_ [1,1,1] wq4u) 22 [.cell 2 27,.cell 3 29] wqzs (wqh8 k) wqps [(300,0),(400,0)] [.agg [.v (.sl (.pr (.int .i64) (.pr (.int .i64) (.pr .str (.pr .bool (.pr (.sl .str) (.sl (.int .i64)))))))) x0]] [] (wqlc K)=wq9v k x0 K:=by
 exact wq140 k (fun _ _=>none) x0 K
def wqgc(k:Nat){R:Type}: List PV→List (Nm×HObj)→(Out→Option R)→Option R
 |[.agg [.v (.sl (.pr (.int .i64) (.pr (.int .i64) (.pr .str (.pr .bool (.pr (.sl .str) (.sl (.int .i64)))))))) x0]],[],K=>wq9v k x0 (fun y0 y1 y2 y3=>K (.ret [.agg [.v (.sl (.pr .str (.sl (.int .i64)))) y0,.v (.sl (.pr .str (.pr .str (.pr .bool (.pr (.int .i64) (.pr (.int .i64) (.pr .bool (.pr (.pr .str (.pr (.int .i64) (.pr (.int .i64) (.pr .flt (.pr .bool .bool))))) (.sl (.int .i64)))))))))) y1],.agg [.v (.int .i64) y2,.v (.int .i64) y3]] []))
 |_,_,_=>none
theorem wq142(k:Nat): (wq12p k).Ok Tryz.prog:=(wq12e (wq19r k) (wq12e (wqqv k) CTab.nil_ok))
theorem wqxe(k:Nat){R:Type}(rec:PV)(ps:List PV)(hp:List (Nm×HObj))(K:Out→Option R)(r:R)(h:wqh8 k rec ps hp K=some r): DoesToD Tryz.prog 36 rec ps hp fun out=>K out=some r:=by
 unfold wqh8 at h
 split at h
 ·exact wqz0 k h
 ·exact wqz1 k h
 ·cases h
theorem wquv(k:Nat){ps:List PV}{hp:List (Nm×HObj)}{R:Type}{K:Out→Option R}{r:R}(h:wqgc k ps hp K=some r): DoesTo Tryz.prog 16 ps hp fun out=>K out=some r:=by
 unfold wqgc at h
 split at h
 ·rw[←wq141]at h
  have:=wq1g0 (P:=Tryz.prog) (cx:=wqr3 k) (f:=16) ⟨tyT_ok,wq142 k,fun _ _=>rfl⟩ (by kernel_rfl) (fn:=Tryz.f16) (id:=3) (pre:=[at_ [0] wq4u,at_ [1,0] wq4u]) (rest:=at_ [1,1,1] wq4u) (ops:=opsAt (at_ [1,1,0] wq4u)) (by kernel_rfl) (by kernel_rfl) (by kernel_rfl) (rs:=[.cell 2 27,.cell 3 29]) (by kernel_rfl) (by kernel_rfl) (by kernel_rfl) (g:=36) (s:=10) (xs:=[.tmp 2,.tmp 3]) (by kernel_rfl) (Invokes.of (fn:=Tryz.f36) (by kernel_rfl) (c:=Tryz.f36.body.getD .skip) (by kernel_rfl) (by kernel_rfl)) (wqxe k) h
  exact this.mono fun out ho=>by
   unfold wqlc at ho
   split at ho<;>first|exact ho|cases ho
 ·cases h
def wqh9(wq6f:(R:Type)→(List dT72)→((List ((List UInt8)×(List Int)))→(List dT56)→Int→Int→Option R)→Option R){R:Type}: List PV→List (Nm×HObj)→(Out→Option R)→Option R
 |[.agg [.v (.sl (.pr (.int .i64) (.pr (.int .i64) (.pr .str (.pr .bool (.pr (.sl .str) (.sl (.int .i64)))))))) x0]],[],K=>wq6f R x0 (fun y0 y1 y2 y3=>K (.ret [.agg [.v (.sl (.pr .str (.sl (.int .i64)))) y0,.v (.sl (.pr .str (.pr .str (.pr .bool (.pr (.int .i64) (.pr (.int .i64) (.pr .bool (.pr (.pr .str (.pr (.int .i64) (.pr (.int .i64) (.pr .flt (.pr .bool .bool))))) (.sl (.int .i64)))))))))) y1],.agg [.v (.int .i64) y2,.v (.int .i64) y3]] []))
 |_,_,_=>none
def h_cmp_isNaN_float64:Sh:=⟨[.a .flt],some ([],[.a .bool]),none⟩
def wqsk(k:Nat): Cxt:=⟨[],[],[],[]⟩
def wqsl(k:Nat){R:Type}(x0:Nat)(K:(Bool→Option R)): Option R:=K (@fltIs @Go.BinOp.neq x0 x0)
def wqb8:=@wqsl
theorem wqsm(k:Nat): DOK Tryz.prog 247 (h_cmp_isNaN_float64.run (@wqb8 k)):=dok h_cmp_isNaN_float64 (wqsk k) Tryz.f247 k ok0 (by kernel_rfl) (by kernel_rfl) fun R=>by kernel_rfl
def wqsn(k:Nat): Ent:=h_cmp_isNaN_float64.e 247 (@wqb8 k)
def h_cmp_Compare_float64:Sh:=⟨[.a .flt,.a .flt],some ([],[.a kI]),none⟩
abbrev wqbl:Type 1:=(R:Type)→Nat→Nat→(Int→Option R)→Option R
def wqp8(k:Nat): Cxt:=⟨[wqsn k],[],[],[]⟩
def wqp9(k:Nat){R:Type}(x0 x1:Nat)(K:(Int→Option R)): Option R:=wqb8 k x0 (fun y5=>wqb8 k x1 (fun y6=>cond y5 (cond y6 (K 0) (K (@Neg.neg Int @Int.instNegInt (1:Int)))) (cond y6 (K 1) (cond (@fltIs @Go.BinOp.lss x0 x1) (K (@Neg.neg Int @Int.instNegInt (1:Int))) (cond (@fltIs @Go.BinOp.gtr x0 x1) (K 1) (K 0))))))
def wq5p:=@wqp9
theorem wqgz(k:Nat): DOK Tryz.prog 217 (h_cmp_Compare_float64.run (@wq5p k)):=dok h_cmp_Compare_float64 (wqp8 k) Tryz.f217 k (ok1 (wqsm k) ok0) (by kernel_rfl) (by kernel_rfl) fun R=>by kernel_rfl
def wqpa(k:Nat): Ent:=h_cmp_Compare_float64.e 217 (@wq5p k)
def h_cmp_isNaN_int:Sh:=⟨[.a kI],some ([],[.a .bool]),none⟩
def wq11c(k:Nat): Cxt:=⟨[],[],[],[]⟩
def wq11d(k:Nat){R:Type}(x0:Int)(K:(Bool→Option R)): Option R:=K (x0 != x0)
def wqfx:=@wq11d
theorem wq11e(k:Nat): DOK Tryz.prog 246 (h_cmp_isNaN_int.run (@wqfx k)):=dok h_cmp_isNaN_int (wq11c k) Tryz.f246 k ok0 (by kernel_rfl) (by kernel_rfl) fun R=>by kernel_rfl
def wq11f(k:Nat): Ent:=h_cmp_isNaN_int.e 246 (@wqfx k)
def h_cmp_Compare_int:Sh:=⟨[.a kI,.a kI],some ([],[.a kI]),none⟩
abbrev wqfd:Type 1:=(R:Type)→Int→Int→(Int→Option R)→Option R
def wqxf(k:Nat): Cxt:=⟨[wq11f k],[],[],[]⟩
def wqxg(k:Nat){R:Type}(x0 x1:Int)(K:(Int→Option R)): Option R:=wqfx k x0 (fun y5=>wqfx k x1 (fun y6=>cond y5 (cond y6 (K 0) (K (@Neg.neg Int @Int.instNegInt (1:Int)))) (cond y6 (K 1) (cond (decide (x0<x1)) (K (@Neg.neg Int @Int.instNegInt (1:Int))) (cond (decide (x0>x1)) (K 1) (K 0))))))
def wqcy:=@wqxg
theorem wqxh(k:Nat): DOK Tryz.prog 216 (h_cmp_Compare_int.run (@wqcy k)):=dok h_cmp_Compare_int (wqxf k) Tryz.f216 k (ok1 (wq11e k) ok0) (by kernel_rfl) (by kernel_rfl) fun R=>by kernel_rfl
def h_math_Signbit:Sh:=⟨[.a .flt],some ([],[.a .bool]),none⟩
abbrev wq3r:Type 1:=(R:Type)→Nat→(Bool→Option R)→Option R
def wq143(k:Nat): Cxt:=⟨[⟨170,wqd9,wq80 k⟩],[],[],[]⟩
def wqso(k:Nat){R:Type}(x0:Nat)(K:(Bool→Option R)): Option R:=wq56 k x0 (fun y4=>K (decide ((@Go.IntKind.wrap Go.IntKind.i64 y4)<0)))
def wq3h:=@wqso
theorem wqha(k:Nat): DOK Tryz.prog 161 (h_math_Signbit.run (@wq3h k)):=dok h_math_Signbit (wq143 k) Tryz.f161 k (ok1 (fun _ _ _ _ _ h=>wqf3 k h) ok0) (by kernel_rfl) (by kernel_rfl) fun R=>by kernel_rfl
def wq144(k:Nat): Ent:=h_math_Signbit.e 161 (@wq3h k)
def h_ratio_place:Sh:=⟨[.a .flt],some ([],[.a kI]),none⟩
abbrev wqld:Type 1:=(R:Type)→Nat→(Int→Option R)→Option R
def wq16k(k:Nat): Cxt:=⟨[wqqn k,wqpa k],[],[],[]⟩
def wq16l(k:Nat){R:Type}(x0:Nat)(K:(Int→Option R)): Option R:=wq3f k x0 (fun y4=>cond y4 (K 2) (wq5p k x0 0 K))
def wqj0:=@wq16l
theorem wq16m(k:Nat): DOK Tryz.prog 215 (h_ratio_place.run (@wqj0 k)):=dok h_ratio_place (wq16k k) Tryz.f215 k (ok1 (wqi0 k) (ok1 (wqgz k) ok0)) (by kernel_rfl) (by kernel_rfl) fun R=>by kernel_rfl
def h_ratio_Order:Sh:=⟨[.a .flt,.a .flt],some ([],[.a kI]),none⟩
def wqw4(k:Nat)(wqs:wq3r)(wqbr:wqld)(wq92:wqfd)(wq5r:wqbl): Cxt:=⟨[h_math_Signbit.e 161 wqs,h_ratio_place.e 215 wqbr,h_cmp_Compare_int.e 216 wq92,h_cmp_Compare_float64.e 217 wq5r],[],[],[]⟩
def wqw5(k:Nat)(wqs:wq3r)(wqbr:wqld)(wq92:wqfd)(wq5r:wqbl){R:Type}(x0 x1:Nat)(K:(Int→Option R)): Option R:=wqbr R x0 (fun y5=>wqbr R x1 (fun y6=>cond (y5 != y6) (wq92 R y5 y6 K) (cond (y5 == 2) (K 0) (cond (y5 != 0) (wq5r R x0 x1 K) (wqs R x0 (fun y7=>wqs R x1 (fun y8=>cond (y7 == y8) (K 0) (cond y7 (K (@Neg.neg Int @Int.instNegInt (1:Int))) (K 1)))))))))
theorem wq16n(k:Nat)(wqs:wq3r)(wqbr:wqld)(wq92:wqfd)(wq5r:wqbl)(R:Type): h_ratio_Order.at (wqw4 k wqs wqbr wq92 wq5r) k Tryz.f181 R=@wqw5 k wqs wqbr wq92 wq5r R:=by kernel_rfl
def wqgd(k:Nat){R:Type}:= @wqw5 k (@wq3h k) (@wqj0 k) (@wqcy k) (@wq5p k) R
theorem wqw6(k:Nat): DOK Tryz.prog 181 (h_ratio_Order.run (@wqgd k)):=dok h_ratio_Order (wqw4 k (@wq3h k) (@wqj0 k) (@wqcy k) (@wq5p k)) Tryz.f181 k (ok1 (wqha k) (ok1 (wq16m k) (ok1 (wqxh k) (ok1 (wqgz k) ok0)))) (by kernel_rfl) (by kernel_rfl) fun R=>wq16n k (@wq3h k) (@wqj0 k) (@wqcy k) (@wq5p k) R
def wqw7(k:Nat): Ent:=h_ratio_Order.e 181 (@wqgd k)
def h_ratio_Same:Sh:=⟨[.a .flt,.a .flt],some ([],[.a .bool]),none⟩
abbrev wq5v:Type 1:=(R:Type)→Nat→Nat→(Bool→Option R)→Option R
def wq19s(k:Nat): Cxt:=⟨[wqw7 k],[],[],[]⟩
def wq19t(k:Nat){R:Type}(x0 x1:Nat)(K:(Bool→Option R)): Option R:=wqgd k x0 x1 (fun y5=>K (y5 == 0))
def wq7a:=@wq19t
theorem wqr4(k:Nat): DOK Tryz.prog 140 (h_ratio_Same.run (@wq7a k)):=dok h_ratio_Same (wq19s k) Tryz.f140 k (ok1 (wqw6 k) ok0) (by kernel_rfl) (by kernel_rfl) fun R=>by kernel_rfl
def wq19u(k:Nat): Ent:=h_ratio_Same.e 140 (@wq7a k)
def h_math_IsInf:Sh:=⟨[.a .flt,.a kI],some ([],[.a .bool]),none⟩
abbrev wqnm:Type 1:=(R:Type)→Nat→Int→(Bool→Option R)→Option R
def wq19v(k:Nat): Cxt:=⟨[wq1g6 k],[],[],[]⟩
def wq19w(k:Nat){R:Type}(x0:Nat)(x1:Int)(K:(Bool→Option R)): Option R:=cond (x1 == 0) (wq6o k x0 (fun y5=>K (@fltIs @Go.BinOp.gtr y5 (9218868437227405311:Nat)))) (cond (decide (x1<0)) (K (@fltIs @Go.BinOp.gtr (@fltNeg x0) (9218868437227405311:Nat))) (K (@fltIs @Go.BinOp.gtr x0 (9218868437227405311:Nat))))
def wqle:=@wq19w
theorem wq19x(k:Nat): DOK Tryz.prog 212 (h_math_IsInf.run (@wqle k)):=dok h_math_IsInf (wq19v k) Tryz.f212 k (ok1 (wqrx k) ok0) (by kernel_rfl) (by kernel_rfl) fun R=>by kernel_rfl
end Go.Proofs.YtabkhphoacmcdaaGreatDoor.Pvm
namespace Go.Proofs
open Go.Shelf
def Tryz.laysLaysn105_ren:Go.Shelf.Ren:=⟨fun|105=>19|212=>40|99=>41|165=>42|166=>43|170=>44|169=>45|263=>86|264=>87|206=>88|240=>89|241=>90|276=>137|277=>138|n=>n,fun|9=>9|3=>3|4=>4|20=>20|0=>0|46=>83|109=>84|5=>5|72=>89|76=>93|51=>134|146=>135|53=>137|148=>138|70=>87|37=>22|75=>92|127=>140|164=>184|80=>96|n=>n,fun|n=>n⟩
theorem Tryz.laysLaysn105:Go.Proofs.Lays.n105 Tryz.prog Tryz.laysLaysn105_ren:={
 mixed:=by kernel_rfl
 f99:=Tryz.func41.trans (congrArg some (by kernel_rfl))
 f105:=Tryz.func19.trans (congrArg some (by kernel_rfl))
 f165:=Tryz.func42.trans (congrArg some (by kernel_rfl))
 f166:=Tryz.func43.trans (congrArg some (by kernel_rfl))
 f169:=Tryz.func45.trans (congrArg some (by kernel_rfl))
 f170:=Tryz.func44.trans (congrArg some (by kernel_rfl))
 f206:=Tryz.func88.trans (congrArg some (by kernel_rfl))
 f212:=Tryz.func40.trans (congrArg some (by kernel_rfl))
 f240:=Tryz.func89.trans (congrArg some (by kernel_rfl))
 f241:=Tryz.func90.trans (congrArg some (by kernel_rfl))
 f263:=Tryz.func86.trans (congrArg some (by kernel_rfl))
 f264:=Tryz.func87.trans (congrArg some (by kernel_rfl))
 f276:=Tryz.func137.trans (congrArg some (by kernel_rfl))
 f277:=Tryz.func138.trans (congrArg some (by kernel_rfl))
 t0:=Tryz.underlying0
 a0:=Tryz.isAgg0
 z0:=Tryz.sizeOf0
 v0:=Tryz.zeroValue0
 t3:=Tryz.underlying3
 a3:=Tryz.isAgg3
 z3:=Tryz.sizeOf3
 v3:=Tryz.zeroValue3
 t4:=Tryz.underlying4
 a4:=Tryz.isAgg4
 z4:=Tryz.sizeOf4
 v4:=Tryz.zeroValue4
 t5:=Tryz.underlying5
 a5:=Tryz.isAgg5
 z5:=Tryz.sizeOf5
 v5:=Tryz.zeroValue5
 t9:=Tryz.underlying9
 a9:=Tryz.isAgg9
 z9:=Tryz.sizeOf9
 v9:=Tryz.zeroValue9
 t20:=Tryz.underlying20
 a20:=Tryz.isAgg20
 z20:=Tryz.sizeOf20
 v20:=Tryz.zeroValue20
 t37:=Tryz.underlying22
 a37:=Tryz.isAgg22
 z37:=Tryz.sizeOf22
 v37:=Tryz.zeroValue22
 t46:=Tryz.underlying83
 a46:=Tryz.isAgg83
 z46:=Tryz.sizeOf83
 v46:=Tryz.zeroValue83
 t51:=Tryz.underlying134
 a51:=Tryz.isAgg134
 z51:=Tryz.sizeOf134
 v51:=Tryz.zeroValue134
 t53:=Tryz.underlying137
 a53:=Tryz.isAgg137
 z53:=Tryz.sizeOf137
 v53:=Tryz.zeroValue137
 t70:=Tryz.underlying87
 a70:=Tryz.isAgg87
 z70:=Tryz.sizeOf87
 v70:=Tryz.zeroValue87
 t72:=Tryz.underlying89
 a72:=Tryz.isAgg89
 z72:=Tryz.sizeOf89
 v72:=Tryz.zeroValue89
 t75:=Tryz.underlying92
 a75:=Tryz.isAgg92
 z75:=Tryz.sizeOf92
 v75:=Tryz.zeroValue92
 t76:=Tryz.underlying93
 a76:=Tryz.isAgg93
 z76:=Tryz.sizeOf93
 v76:=Tryz.zeroValue93
 t109:=Tryz.underlying84
 a109:=Tryz.isAgg84
 z109:=Tryz.sizeOf84
 v109:=Tryz.zeroValue84
 t127:=Tryz.underlying140
 a127:=Tryz.isAgg140
 z127:=Tryz.sizeOf140
 v127:=Tryz.zeroValue140
 t146:=Tryz.underlying135
 a146:=Tryz.isAgg135
 z146:=Tryz.sizeOf135
 v146:=Tryz.zeroValue135
 t148:=Tryz.underlying138
 a148:=Tryz.isAgg138
 z148:=Tryz.sizeOf138
 v148:=Tryz.zeroValue138
 t164:=Tryz.underlying184
 a164:=Tryz.isAgg184
 z164:=Tryz.sizeOf184
 v164:=Tryz.zeroValue184 }
theorem Tryz.extra105:Builder.Extra Tryz.prog Tryz.laysLaysn105_ren where
 sizeBuilder:=by kernel_rfl
 liesBuilder:=by kernel_rfl
 t5:=Tryz.underlying5
 a5:=Tryz.isAgg5
 z5:=Tryz.sizeOf5
 v5:=Tryz.zeroValue5
 infoByte:=by kernel_rfl
 cellsByte:=by kernel_rfl
 sizeByte:=by kernel_rfl
 neB5:=by decide
end Go.Proofs
namespace Go.Proofs.YtabkhphoacmcdaaGreatDoor.Pvm
open Go Go.Proofs Go.RowKit Go.Shelf
def repS(s:List UInt8)(n:Nat): List UInt8:=Lib.repeatL s n
def wquw:List LS:=[.any,.any]
def wqie(k:Nat){R:Type}(x0:List UInt8)(x1:Int)(K:List UInt8→Option R): Option R:=bif decide (0≤x1)&&decide (x1≤1000000)&&decide (x0.length≤1000000)then K (repS x0 x1.toNat)else none
def wqfe(k:Nat){R:Type}: List PV→List (Nm×HObj)→(Out→Option R)→Option R
 |[.v .str x0,.v (.int .i64) x1],[],K=>wqie k x0 x1 (fun y0=>K (.ret [.v .str y0] []))
 |_,_,_=>none
theorem wqzt(k:Nat){ps:List PV}{hp:List (Nm×HObj)}{R:Type}{K:Out→Option R}{r:R}(h:wqfe k ps hp K=some r): DoesTo Tryz.prog 19 ps hp fun out=>K out=some r:=by
 unfold wqfe at h
 split at h
 ·next x0 x1 =>
  intro G w vals hr obj dis
  obtain⟨v0,l0,rfl,h0,v1,l1,rfl,h1,rfl⟩:=hr
  have e0:v0 = .string ⟨x0.toArray⟩:=by simpa [RV,RD]using h0
  have e1:v1 = .int .i64 x1:=by simpa [RV,RD]using h1
  subst e0 e1
  unfold wqie at h
  cases hx:(decide (0≤x1)&&decide (x1≤1000000)&&decide (x0.length≤1000000))with
  |false=>rw[hx]at h;cases h
  |true =>
   rw[hx,cond_true]at h
   simp only[Bool.and_eq_true,decide_eq_true_eq]at hx
   obtain⟨⟨g0,g1⟩,g2⟩:=hx
   obtain⟨n,rfl⟩:∃ n:Nat,x1=(n:Int):=⟨x1.toNat,(Int.toNat_of_nonneg g0).symm⟩
   have hn:n≤1000000:=by
    have:(n:Int)≤1000000:=g1
    omega
   have hsz:(⟨x0.toArray⟩:ByteArray).size=x0.length:=by simp[ByteArray.size]
   have hmul:x0.length*n≤1000000*1000000:=Nat.mul_le_mul g2 hn
   have c:=Any.strings_Repeat Tryz.laysLaysn105 Tryz.extra105 ⟨x0.toArray⟩ n w (by omega) (by rw[hsz];omega)
   show Does _ _ #[_,_] _ _
   unfold Does
   rw[enters (P:=Tryz.prog) (fn:=Tryz.f19) (c:=Tryz.f19.body.getD .skip) (by kernel_rfl) (by kernel_rfl) (by kernel_rfl)]
   refine Calls.mono c fun e w' hh => ?_
   obtain⟨rfl,b⟩:=hh
   exact⟨.ret [.v .str (repS x0 n)] [],h,G,⟨_,rfl,rfl⟩,wq1c5 b⟩
 ·cases h
end Go.Proofs.YtabkhphoacmcdaaGreatDoor.Pvm
namespace Go.Proofs.YtabkhphoacmcdaaGreatDoor.Pvm
open Go Go.Proofs
def h_ratio_fill:Sh:=⟨[.a kI,.a kI],some ([],[.a .str]),none⟩
abbrev wq5w:Type 1:=(R:Type)→Int→Int→((List UInt8)→Option R)→Option R
def wq19y(k:Nat): Cxt:=⟨[⟨19,wquw,wqfe k⟩,wqz5 k],[],[],[]⟩
def wq19z(k:Nat){R:Type}(x0 x1:Int)(K:((List UInt8)→Option R)): Option R:=wq4w k x0 (fun y5=>wqie k [48] (cond true (@ite (@Kd.T kI) ((0:Int)>(@Go.IntKind.wrap Go.IntKind.i64 (x1-(y5.length:Int)))) (@Int.decLt (@Go.IntKind.wrap Go.IntKind.i64 (x1-(y5.length:Int))) (0:Int)) (0:Int) (@Go.IntKind.wrap Go.IntKind.i64 (x1-(y5.length:Int)))) (@ite (@Kd.T kI) ((0:Int)<(@Go.IntKind.wrap Go.IntKind.i64 (x1-(y5.length:Int)))) (@Int.decLt (0:Int) (@Go.IntKind.wrap Go.IntKind.i64 (x1-(y5.length:Int)))) (0:Int) (@Go.IntKind.wrap Go.IntKind.i64 (x1-(y5.length:Int))))) (fun y6=>cond (joins y6 y5) (K (y6++y5)) none))
def wq9i:=@wq19z
theorem wqzu(k:Nat): DOK Tryz.prog 234 (h_ratio_fill.run (@wq9i k)):=dok h_ratio_fill (wq19y k) Tryz.f234 k (ok1 (fun _ _ _ _ _ h=>wqzt k h) (ok1 (wqkz k) ok0)) (by kernel_rfl) (by kernel_rfl) fun R=>by kernel_rfl
def h_ratio_Text:Sh:=⟨[.a .flt],some ([],[.a .str]),none⟩
abbrev wq98:Type 1:=(R:Type)→Nat→((List UInt8)→Option R)→Option R
def wqzv(k:Nat)(wq6e:wqdm)(wqs:wq3r)(wq25:wq64)(wqdk:wqnm)(wq1s:wq5t)(wq1t:wq5w): Cxt:=⟨[h_math_IsNaN.e 134 wq6e,h_math_Signbit.e 161 wqs,h_math_Abs.e 172 wq25,h_math_IsInf.e 212 wqdk,h_num_Digits.e 233 wq1s,h_ratio_fill.e 234 wq1t],[],[],[]⟩
def wqzw(k:Nat)(wq6e:wqdm)(wqs:wq3r)(wq25:wq64)(wqdk:wqnm)(wq1s:wq5t)(wq1t:wq5w){R:Type}(x0:Nat)(K:((List UInt8)→Option R)): Option R:=wq6e R x0 (fun y4=>cond y4 (K [110,97,110]) (wqdk R x0 1 (fun y5=>cond y5 (K [105,110,102]) (wqdk R x0 (@Neg.neg Int @Int.instNegInt (1:Int)) (fun y6=>cond y6 (K [45,105,110,102]) (wqs R x0 (fun y7=>cond y7 (wq25 R x0 (fun y8=>cond (@fltIs @Go.BinOp.geq y8 (4845873199050653696:Nat)) (K ([45]++[98,105,103])) (cond (@fltIn Go.IntKind.i64 y8) (cond (@Option.isSome Nat (@fltAr @Go.BinOp.sub y8 (@fltOf (@Option.getD Int (@fltI y8) (0:Int))))) (cond (@Option.isSome Nat (@fltAr @Go.BinOp.mul (@Option.getD Nat (@fltAr @Go.BinOp.sub y8 (@fltOf (@Option.getD Int (@fltI y8) (0:Int)))) (0:Nat)) (4652007308841189376:Nat))) (cond (@fltIn Go.IntKind.i64 (@Option.getD Nat (@fltAr @Go.BinOp.mul (@Option.getD Nat (@fltAr @Go.BinOp.sub y8 (@fltOf (@Option.getD Int (@fltI y8) (0:Int)))) (0:Nat)) (4652007308841189376:Nat)) (0:Nat))) (wq1s R (@Option.getD Int (@fltI y8) (0:Int)) (fun y9=>cond (joins [45] y9) (cond (joins ([45]++y9) [46]) (wq1t R (cond false (@ite (@Kd.T kI) ((999:Int)>(@Option.getD Int (@fltI (@Option.getD Nat (@fltAr @Go.BinOp.mul (@Option.getD Nat (@fltAr @Go.BinOp.sub y8 (@fltOf (@Option.getD Int (@fltI y8) (0:Int)))) (0:Nat)) (4652007308841189376:Nat)) (0:Nat))) (0:Int))) (@Int.decLt (@Option.getD Int (@fltI (@Option.getD Nat (@fltAr @Go.BinOp.mul (@Option.getD Nat (@fltAr @Go.BinOp.sub y8 (@fltOf (@Option.getD Int (@fltI y8) (0:Int)))) (0:Nat)) (4652007308841189376:Nat)) (0:Nat))) (0:Int)) (999:Int)) (999:Int) (@Option.getD Int (@fltI (@Option.getD Nat (@fltAr @Go.BinOp.mul (@Option.getD Nat (@fltAr @Go.BinOp.sub y8 (@fltOf (@Option.getD Int (@fltI y8) (0:Int)))) (0:Nat)) (4652007308841189376:Nat)) (0:Nat))) (0:Int))) (@ite (@Kd.T kI) ((999:Int)<(@Option.getD Int (@fltI (@Option.getD Nat (@fltAr @Go.BinOp.mul (@Option.getD Nat (@fltAr @Go.BinOp.sub y8 (@fltOf (@Option.getD Int (@fltI y8) (0:Int)))) (0:Nat)) (4652007308841189376:Nat)) (0:Nat))) (0:Int))) (@Int.decLt (999:Int) (@Option.getD Int (@fltI (@Option.getD Nat (@fltAr @Go.BinOp.mul (@Option.getD Nat (@fltAr @Go.BinOp.sub y8 (@fltOf (@Option.getD Int (@fltI y8) (0:Int)))) (0:Nat)) (4652007308841189376:Nat)) (0:Nat))) (0:Int))) (999:Int) (@Option.getD Int (@fltI (@Option.getD Nat (@fltAr @Go.BinOp.mul (@Option.getD Nat (@fltAr @Go.BinOp.sub y8 (@fltOf (@Option.getD Int (@fltI y8) (0:Int)))) (0:Nat)) (4652007308841189376:Nat)) (0:Nat))) (0:Int)))) 3 (fun y10=>cond (joins (([45]++y9)++[46]) y10) (K ((([45]++y9)++[46])++y10)) none)) none) none)) none) none) none) none))) (wq25 R x0 (fun y8=>cond (@fltIs @Go.BinOp.geq y8 (4845873199050653696:Nat)) (K ([]++[98,105,103])) (cond (@fltIn Go.IntKind.i64 y8) (cond (@Option.isSome Nat (@fltAr @Go.BinOp.sub y8 (@fltOf (@Option.getD Int (@fltI y8) (0:Int))))) (cond (@Option.isSome Nat (@fltAr @Go.BinOp.mul (@Option.getD Nat (@fltAr @Go.BinOp.sub y8 (@fltOf (@Option.getD Int (@fltI y8) (0:Int)))) (0:Nat)) (4652007308841189376:Nat))) (cond (@fltIn Go.IntKind.i64 (@Option.getD Nat (@fltAr @Go.BinOp.mul (@Option.getD Nat (@fltAr @Go.BinOp.sub y8 (@fltOf (@Option.getD Int (@fltI y8) (0:Int)))) (0:Nat)) (4652007308841189376:Nat)) (0:Nat))) (wq1s R (@Option.getD Int (@fltI y8) (0:Int)) (fun y9=>cond (joins [] y9) (cond (joins ([]++y9) [46]) (wq1t R (cond false (@ite (@Kd.T kI) ((999:Int)>(@Option.getD Int (@fltI (@Option.getD Nat (@fltAr @Go.BinOp.mul (@Option.getD Nat (@fltAr @Go.BinOp.sub y8 (@fltOf (@Option.getD Int (@fltI y8) (0:Int)))) (0:Nat)) (4652007308841189376:Nat)) (0:Nat))) (0:Int))) (@Int.decLt (@Option.getD Int (@fltI (@Option.getD Nat (@fltAr @Go.BinOp.mul (@Option.getD Nat (@fltAr @Go.BinOp.sub y8 (@fltOf (@Option.getD Int (@fltI y8) (0:Int)))) (0:Nat)) (4652007308841189376:Nat)) (0:Nat))) (0:Int)) (999:Int)) (999:Int) (@Option.getD Int (@fltI (@Option.getD Nat (@fltAr @Go.BinOp.mul (@Option.getD Nat (@fltAr @Go.BinOp.sub y8 (@fltOf (@Option.getD Int (@fltI y8) (0:Int)))) (0:Nat)) (4652007308841189376:Nat)) (0:Nat))) (0:Int))) (@ite (@Kd.T kI) ((999:Int)<(@Option.getD Int (@fltI (@Option.getD Nat (@fltAr @Go.BinOp.mul (@Option.getD Nat (@fltAr @Go.BinOp.sub y8 (@fltOf (@Option.getD Int (@fltI y8) (0:Int)))) (0:Nat)) (4652007308841189376:Nat)) (0:Nat))) (0:Int))) (@Int.decLt (999:Int) (@Option.getD Int (@fltI (@Option.getD Nat (@fltAr @Go.BinOp.mul (@Option.getD Nat (@fltAr @Go.BinOp.sub y8 (@fltOf (@Option.getD Int (@fltI y8) (0:Int)))) (0:Nat)) (4652007308841189376:Nat)) (0:Nat))) (0:Int))) (999:Int) (@Option.getD Int (@fltI (@Option.getD Nat (@fltAr @Go.BinOp.mul (@Option.getD Nat (@fltAr @Go.BinOp.sub y8 (@fltOf (@Option.getD Int (@fltI y8) (0:Int)))) (0:Nat)) (4652007308841189376:Nat)) (0:Nat))) (0:Int)))) 3 (fun y10=>cond (joins (([]++y9)++[46]) y10) (K ((([]++y9)++[46])++y10)) none)) none) none)) none) none) none) none))))))))))
theorem wq1a0(k:Nat)(wq6e:wqdm)(wqs:wq3r)(wq25:wq64)(wqdk:wqnm)(wq1s:wq5t)(wq1t:wq5w)(R:Type): h_ratio_Text.at (wqzv k wq6e wqs wq25 wqdk wq1s wq1t) k Tryz.f232 R=@wqzw k wq6e wqs wq25 wqdk wq1s wq1t R:=by kernel_rfl
def wqde(k:Nat){R:Type}:= @wqzw k (@wq3f k) (@wq3h k) (@wq6o k) (@wqle k) (@wq4w k) (@wq9i k) R
theorem wq1a1(k:Nat): DOK Tryz.prog 232 (h_ratio_Text.run (@wqde k)):=dok h_ratio_Text (wqzv k (@wq3f k) (@wq3h k) (@wq6o k) (@wqle k) (@wq4w k) (@wq9i k)) Tryz.f232 k (ok1 (wqi0 k) (ok1 (wqha k) (ok1 (wqrx k) (ok1 (wq19x k) (ok1 (wqkz k) (ok1 (wqzu k) ok0)))))) (by kernel_rfl) (by kernel_rfl) fun R=>wq1a0 k (@wq3f k) (@wq3h k) (@wq6o k) (@wqle k) (@wq4w k) (@wq9i k) R
def h_ratio_Write:Sh:=⟨[.a .flt],some ([],[.a .str,.a .bool]),none⟩
def u_ratio_Write_1011:Cu:=⟨0,[0,5,6,7],[.a .flt,.a .str,.a .flt,.a kI]⟩
def u_ratio_Write_1015:Cu:=⟨0,[0,5,6,7,8,9],[.a .flt,.a .str,.a .flt,.a kI,.a kI,.a kI]⟩
def wqdp(k:Nat)(wqq:wq3g)(wq1x:wq76)(wq1o:wq5v)(wqs:wq3r)(wq25:wq64)(wq2p:wq98)(wq1s:wq5t)(wq1t:wq5w): Cxt:=⟨[h_ratio_Parse.e 71 wqq,h_ratio_ten.e 121 wq1x,h_ratio_Same.e 140 wq1o,h_math_Signbit.e 161 wqs,h_math_Abs.e 172 wq25,h_ratio_Text.e 232 wq2p,h_num_Digits.e 233 wq1s,h_ratio_fill.e 234 wq1t],[],[(1011,u_ratio_Write_1011.spec),(1015,u_ratio_Write_1015.spec)],[]⟩
def wqff(k:Nat)(wqq:wq3g)(wq1x:wq76)(wq1o:wq5v)(wqs:wq3r)(wq25:wq64)(wq2p:wq98)(wq1s:wq5t)(wq1t:wq5w){R:Type}(E1015:(Nat→(List UInt8)→Nat→Int→Int→Int→Option R))(s0:Nat)(s1:(List UInt8))(s2:Nat)(s3:Int)(K:((List UInt8)→Bool→Option R)): Option R:=cond (decide (s3≤6)) (wq1x R s3 (fun y9=>cond (@Option.isSome Nat (@fltAr @Go.BinOp.mul s2 (@fltOf y9))) (cond (@fltIn Go.IntKind.i64 (@Option.getD Nat (@fltAr @Go.BinOp.mul s2 (@fltOf y9)) (0:Nat))) (E1015 s0 s1 s2 s3 (@Option.getD Int (@fltI (@Option.getD Nat (@fltAr @Go.BinOp.mul s2 (@fltOf y9)) (0:Nat))) (0:Int)) (cond true (@ite (@Kd.T kI) ((0:Int)>(@Go.IntKind.wrap Go.IntKind.i64 ((@Option.getD Int (@fltI (@Option.getD Nat (@fltAr @Go.BinOp.mul s2 (@fltOf y9)) (0:Nat))) (0:Int))-1))) (@Int.decLt (@Go.IntKind.wrap Go.IntKind.i64 ((@Option.getD Int (@fltI (@Option.getD Nat (@fltAr @Go.BinOp.mul s2 (@fltOf y9)) (0:Nat))) (0:Int))-1)) (0:Int)) (0:Int) (@Go.IntKind.wrap Go.IntKind.i64 ((@Option.getD Int (@fltI (@Option.getD Nat (@fltAr @Go.BinOp.mul s2 (@fltOf y9)) (0:Nat))) (0:Int))-1))) (@ite (@Kd.T kI) ((0:Int)<(@Go.IntKind.wrap Go.IntKind.i64 ((@Option.getD Int (@fltI (@Option.getD Nat (@fltAr @Go.BinOp.mul s2 (@fltOf y9)) (0:Nat))) (0:Int))-1))) (@Int.decLt (0:Int) (@Go.IntKind.wrap Go.IntKind.i64 ((@Option.getD Int (@fltI (@Option.getD Nat (@fltAr @Go.BinOp.mul s2 (@fltOf y9)) (0:Nat))) (0:Int))-1))) (0:Int) (@Go.IntKind.wrap Go.IntKind.i64 ((@Option.getD Int (@fltI (@Option.getD Nat (@fltAr @Go.BinOp.mul s2 (@fltOf y9)) (0:Nat))) (0:Int))-1))))) none) none)) (K [] false)
def wqk8(k:Nat)(wqq:wq3g)(wq1x:wq76)(wq1o:wq5v)(wqs:wq3r)(wq25:wq64)(wq2p:wq98)(wq1s:wq5t)(wq1t:wq5w){R:Type}(E1011:(Nat→(List UInt8)→Nat→Int→Option R))(E1015:(Nat→(List UInt8)→Nat→Int→Int→Int→Option R))(s0:Nat)(s1:(List UInt8))(s2:Nat)(s3 s4 s5:Int)(K:((List UInt8)→Bool→Option R)): Option R:=cond (decide (s5≤(@Go.IntKind.wrap Go.IntKind.i64 (s4+1)))) (wq1x R s3 (fun y11=>cond (y11 != 0) (wq1s R (@Go.IntKind.wrap Go.IntKind.i64 (Int.tdiv s5 y11)) (fun y12=>cond (joins s1 y12) (cond (decide (s3>0)) (wq1x R s3 (fun y13=>cond (y13 != 0) (wq1t R (Int.tmod s5 y13) s3 (fun y14=>cond (joins [46] y14) (cond (joins (s1++y12) ([46]++y14)) (wqq R ((s1++y12)++([46]++y14)) (fun y15 y16=>cond (y16 == true) (wq1o R s0 y15 (fun y17=>cond y17 (K ((s1++y12)++([46]++y14)) true) (E1015 s0 s1 s2 s3 s4 (@Go.IntKind.wrap Go.IntKind.i64 (s5+1))))) (E1015 s0 s1 s2 s3 s4 (@Go.IntKind.wrap Go.IntKind.i64 (s5+1))))) none) none)) none)) (wqq R (s1++y12) (fun y13 y14=>cond (y14 == true) (wq1o R s0 y13 (fun y15=>cond y15 (K (s1++y12) true) (E1015 s0 s1 s2 s3 s4 (@Go.IntKind.wrap Go.IntKind.i64 (s5+1))))) (E1015 s0 s1 s2 s3 s4 (@Go.IntKind.wrap Go.IntKind.i64 (s5+1)))))) none)) none)) (E1011 s0 s1 s2 (@Go.IntKind.wrap Go.IntKind.i64 (s3+1)))
def wqnn(k:Nat)(wqq:wq3g)(wq1x:wq76)(wq1o:wq5v)(wqs:wq3r)(wq25:wq64)(wq2p:wq98)(wq1s:wq5t)(wq1t:wq5w){R:Type}(E1011:(Nat→(List UInt8)→Nat→Int→Option R))(x0:Nat)(K:((List UInt8)→Bool→Option R)): Option R:=wq2p R x0 (fun y6=>cond (cond (cond (y6 == [(110:UInt8),97,110]) true (y6 == [(105:UInt8),110,102])) true (y6 == [(45:UInt8),105,110,102])) (K y6 true) (wqs R x0 (fun y7=>cond y7 (wq25 R x0 (fun y8=>wq1x R 9 (fun y9=>cond (@fltIs @Go.BinOp.geq y8 (@fltOf y9)) (K [] false) (E1011 x0 [45] y8 0)))) (wq25 R x0 (fun y8=>wq1x R 9 (fun y9=>cond (@fltIs @Go.BinOp.geq y8 (@fltOf y9)) (K [] false) (E1011 x0 [] y8 0)))))))
def wq9w(k:Nat)(wqq:wq3g)(wq1x:wq76)(wq1o:wq5v)(wqs:wq3r)(wq25:wq64)(wq2p:wq98)(wq1s:wq5t)(wq1t:wq5w){R:Type}(J1011:(Nat→(List UInt8)→Nat→Int→Option R)): Nat→Nat→(List UInt8)→Nat→Int→Int→Int→((List UInt8)→Bool→Option R)→Option R
 |0,_,_,_,_,_,_,_=>none
 |n+1,s0,s1,s2,s3,s4,s5,K=>wqk8 k wqq wq1x wq1o wqs wq25 wq2p wq1s wq1t J1011 (fun s0 s1 s2 s3 s4 s5=>wq9w k wqq wq1x wq1o wqs wq25 wq2p wq1s wq1t J1011 n s0 s1 s2 s3 s4 s5 K) s0 s1 s2 s3 s4 s5 K
theorem wqpb(k:Nat)(wqq:wq3g)(wq1x:wq76)(wq1o:wq5v)(wqs:wq3r)(wq25:wq64)(wq2p:wq98)(wq1s:wq5t)(wq1t:wq5w){R:Type}: ∀(I:Nat→St→Option R) (n:Nat),h_ratio_Write.lp u_ratio_Write_1015 (wqdp k wqq wq1x wq1o wqs wq25 wq2p wq1s wq1t).cx k Tryz.f201 1015 [1,1,1,1,1,1,0,1,0,0,1,0,0,1,1,0] I n=wq9w k wqq wq1x wq1o wqs wq25 wq2p wq1s wq1t (u_ratio_Write_1011.cur (I 1011)) n:=h_ratio_Write.lokA u_ratio_Write_1015 (fun I J=>wqk8 k wqq wq1x wq1o wqs wq25 wq2p wq1s wq1t (u_ratio_Write_1011.cur (I 1011)) J) (fun I=>wq9w k wqq wq1x wq1o wqs wq25 wq2p wq1s wq1t (u_ratio_Write_1011.cur (I 1011))) (fun I f=>by kernel_rfl) (fun I=>by kernel_rfl) (fun I=>by kernel_rfl) (fun I n=>by kernel_rfl) (fun _ _ _ _=>rfl)
def wqc0(k:Nat)(wqq:wq3g)(wq1x:wq76)(wq1o:wq5v)(wqs:wq3r)(wq25:wq64)(wq2p:wq98)(wq1s:wq5t)(wq1t:wq5w){R:Type}: Nat→Nat→(List UInt8)→Nat→Int→((List UInt8)→Bool→Option R)→Option R
 |0,_,_,_,_,_=>none
 |n+1,s0,s1,s2,s3,K=>wqff k wqq wq1x wq1o wqs wq25 wq2p wq1s wq1t (fun s0 s1 s2 s3 s4 s5=>wq9w k wqq wq1x wq1o wqs wq25 wq2p wq1s wq1t (fun s0 s1 s2 s3=>wqc0 k wqq wq1x wq1o wqs wq25 wq2p wq1s wq1t n s0 s1 s2 s3 K) k s0 s1 s2 s3 s4 s5 K) s0 s1 s2 s3 K
theorem wqpc(k:Nat)(wqq:wq3g)(wq1x:wq76)(wq1o:wq5v)(wqs:wq3r)(wq25:wq64)(wq2p:wq98)(wq1s:wq5t)(wq1t:wq5w){R:Type}: ∀(I:Nat→St→Option R) (n:Nat),h_ratio_Write.lp u_ratio_Write_1011 (wqdp k wqq wq1x wq1o wqs wq25 wq2p wq1s wq1t).cx k Tryz.f201 1011 [1,1,1,1,1,1,0,1,0] I n=wqc0 k wqq wq1x wq1o wqs wq25 wq2p wq1s wq1t n:=h_ratio_Write.lokA u_ratio_Write_1011 (fun I J=>h_ratio_Write.glue (l:=u_ratio_Write_1011.fs) (u:=u_ratio_Write_1015.fs) (fun E1015=>wqff k wqq wq1x wq1o wqs wq25 wq2p wq1s wq1t E1015) (wq9w k wqq wq1x wq1o wqs wq25 wq2p wq1s wq1t J k)) (fun I=>wqc0 k wqq wq1x wq1o wqs wq25 wq2p wq1s wq1t ) (fun I f=>by kernel_rfl) (fun I=>(show _=h_ratio_Write.glue (l:=u_ratio_Write_1011.fs) (u:=u_ratio_Write_1015.fs) (fun E1015=>wqff k wqq wq1x wq1o wqs wq25 wq2p wq1s wq1t E1015) (h_ratio_Write.lp u_ratio_Write_1015 (wqdp k wqq wq1x wq1o wqs wq25 wq2p wq1s wq1t).cx k Tryz.f201 1015 [1,1,1,1,1,1,0,1,0,0,1,0,0,1,1,0] I k) by kernel_rfl).trans (by rw[wqpb])) (fun I=>by kernel_rfl) (fun I n=>by kernel_rfl) (fun _ _ _ _=>rfl)
theorem wq16o(k:Nat)(wqq:wq3g)(wq1x:wq76)(wq1o:wq5v)(wqs:wq3r)(wq25:wq64)(wq2p:wq98)(wq1s:wq5t)(wq1t:wq5w)(R:Type): h_ratio_Write.at (wqdp k wqq wq1x wq1o wqs wq25 wq2p wq1s wq1t) k Tryz.f201 R=h_ratio_Write.glue (l:=h_ratio_Write.ps) (u:=u_ratio_Write_1011.fs) (fun E1011=>@wqnn k wqq wq1x wq1o wqs wq25 wq2p wq1s wq1t R E1011) (h_ratio_Write.lp u_ratio_Write_1011 (wqdp k wqq wq1x wq1o wqs wq25 wq2p wq1s wq1t).cx k Tryz.f201 1011 [1,1,1,1,1,1,0,1,0] (fun _ _=>none) k):=by kernel_rfl
def wqno(k:Nat){R:Type}(x0:Nat)(K:((List UInt8)→Bool→Option R)): Option R:=wqnn k (@wq3i k) (@wq7p k) (@wq7a k) (@wq3h k) (@wq6o k) (@wqde k) (@wq4w k) (@wq9i k) (fun s0 s1 s2 s3=>wqc0 k (@wq3i k) (@wq7p k) (@wq7a k) (@wq3h k) (@wq6o k) (@wqde k) (@wq4w k) (@wq9i k) k s0 s1 s2 s3 K) x0 K
theorem wq16p(k:Nat): DOK Tryz.prog 201 (h_ratio_Write.run (@wqno k)):=dok h_ratio_Write (wqdp k (@wq3i k) (@wq7p k) (@wq7a k) (@wq3h k) (@wq6o k) (@wqde k) (@wq4w k) (@wq9i k)) Tryz.f201 k (ok1 (wqn8 k) (ok1 (wq12h k) (ok1 (wqr4 k) (ok1 (wqha k) (ok1 (wqrx k) (ok1 (wq1a1 k) (ok1 (wqkz k) (ok1 (wqzu k) ok0)))))))) (by kernel_rfl) (by kernel_rfl) fun R=>h_ratio_Write.f1 u_ratio_Write_1011 (wqnn k (@wq3i k) (@wq7p k) (@wq7a k) (@wq3h k) (@wq6o k) (@wqde k) (@wq4w k) (@wq9i k)) (wq16o k (@wq3i k) (@wq7p k) (@wq7a k) (@wq3h k) (@wq6o k) (@wqde k) (@wq4w k) (@wq9i k) R) (wqpc k (@wq3i k) (@wq7p k) (@wq7a k) (@wq3h k) (@wq6o k) (@wqde k) (@wq4w k) (@wq9i k) (fun _ _=>none) k) (by kernel_rfl)
def wq16q(k:Nat): Ent:=h_ratio_Write.e 201 (@wqno k)
def h_rule_near:Sh:=⟨[.a .flt],some ([],[.a .bool]),none⟩
abbrev wqr5:Type 1:=(R:Type)→Nat→(Bool→Option R)→Option R
def wq1dq(k:Nat): Cxt:=⟨[wqw7 k,wq16q k],[],[],[]⟩
def wq1dr(k:Nat){R:Type}(x0:Nat)(K:(Bool→Option R)): Option R:=wqno k x0 (fun y4 y5=>cond (y5 == true) (wqgd k x0 0 (fun y6=>cond ((decide (y6≥0)) == true) (wqgd k x0 4607182418800017408 (fun y7=>K (decide (y7≤0)))) (K false))) (K false))
def wqot:=@wq1dr
theorem wq1ds(k:Nat): DOK Tryz.prog 163 (h_rule_near.run (@wqot k)):=dok h_rule_near (wq1dq k) Tryz.f163 k (ok1 (wqw6 k) (ok1 (wq16p k) ok0)) (by kernel_rfl) (by kernel_rfl) fun R=>by kernel_rfl
def h_unit_Secs:Sh:=⟨[.a kI],some ([],[.a kI]),none⟩
abbrev wqr6:Type 1:=(R:Type)→Int→(Int→Option R)→Option R
def wq1dt(k:Nat): Cxt:=⟨[],[],[],[]⟩
def wq1du(k:Nat){R:Type}(x0:Int)(K:(Int→Option R)): Option R:=cond (cond (decide (x0<1)) true (decide (x0>4))) (K 0) (cond (inb x0 (([(0:Int),1,60,3600,86400]).length:Int)) (K (([(0:Int),1,60,3600,86400]).getD x0.toNat kI.zero)) none)
def wqou:=@wq1du
theorem wq1dv(k:Nat): DOK Tryz.prog 162 (h_unit_Secs.run (@wqou k)):=dok h_unit_Secs (wq1dt k) Tryz.f162 k ok0 (by kernel_rfl) (by kernel_rfl) fun R=>by kernel_rfl
def h_rule_Check:Sh:=⟨[.g [.a .str,.a kI,.a kI,.a .flt,.a .bool,.a .bool]],some ([],[.a kI]),none⟩
def wqzx(k:Nat)(wqdu:wqql)(wq1o:wq5v)(wqhn:wqr6)(wqho:wqr5): Cxt:=⟨[h_desc_Name.e 33 wqdu,h_ratio_Same.e 140 wq1o,h_unit_Secs.e 162 wqhn,h_rule_near.e 163 wqho],[],[],[]⟩
def wqzy(k:Nat)(wqdu:wqql)(wq1o:wq5v)(wqhn:wqr6)(wqho:wqr5){R:Type}(x0:(List UInt8))(x1 x2:Int)(x3:Nat)(x4 x5:Bool)(K:(Int→Option R)): Option R:=wqhn R x1 (fun y9=>cond ((cond (cond (decide (y9>0)) (decide (x2≥0)) false) (decide (x2≤4294967295)) false) == true) (wqho R x3 (fun y10=>cond x5 (cond ((cond (x1 == 0) (x2 == 0) false) == true) (wq1o R x3 0 (fun y11=>cond ((!y11) == false) (cond ((!(x0 == [])) == true) (wqdu R x0 (fun y12=>cond (!y12) (K 1) (K 0))) (K 0)) (K 1))) (K 1)) (cond ((!y10) == false) (cond ((!(x0 == [])) == true) (wqdu R x0 (fun y11=>cond (!y11) (K 1) (K 0))) (K 0)) (K 1)))) (cond x5 (cond ((cond (x1 == 0) (x2 == 0) false) == true) (wq1o R x3 0 (fun y10=>cond ((!y10) == false) (cond ((!(x0 == [])) == true) (wqdu R x0 (fun y11=>cond (!y11) (K 1) (K 0))) (K 0)) (K 1))) (K 1)) (K 1)))
theorem wq1a2(k:Nat)(wqdu:wqql)(wq1o:wq5v)(wqhn:wqr6)(wqho:wqr5)(R:Type): h_rule_Check.at (wqzx k wqdu wq1o wqhn wqho) k Tryz.f109 R=@wqzy k wqdu wq1o wqhn wqho R:=by kernel_rfl
def wqr7(k:Nat){R:Type}:= @wqzy k (@wqaz k) (@wq7a k) (@wqou k) (@wqot k) R
theorem wq1a3(k:Nat): DOK Tryz.prog 109 (h_rule_Check.run (@wqr7 k)):=dok h_rule_Check (wqzx k (@wqaz k) (@wq7a k) (@wqou k) (@wqot k)) Tryz.f109 k (ok1 (wqon k) (ok1 (wqr4 k) (ok1 (wq1dv k) (ok1 (wq1ds k) ok0)))) (by kernel_rfl) (by kernel_rfl) fun R=>wq1a2 k (@wqaz k) (@wq7a k) (@wqou k) (@wqot k) R
def wq1a4(k:Nat): Ent:=h_rule_Check.e 109 (@wqr7 k)
def h_rule_Same:Sh:=⟨[.g [.a .str,.a kI,.a kI,.a .flt,.a .bool,.a .bool],.g [.a .str,.a kI,.a kI,.a .flt,.a .bool,.a .bool]],some ([],[.a .bool]),none⟩
def wq1dw(k:Nat): Cxt:=⟨[wq19u k],[],[],[]⟩
def wq1dx(k:Nat){R:Type}(x0:(List UInt8))(x1 x2:Int)(x3:Nat)(x4 x5:Bool)(x6:(List UInt8))(x7 x8:Int)(x9:Nat)(x10 x11:Bool)(K:(Bool→Option R)): Option R:=wq7a k x3 x9 (fun y15=>K (cond y15 ((x0 == x6)&&((x1 == x7)&&((x2 == x8)&&((@fltIs @Go.BinOp.eql (0:Nat) (0:Nat))&&((x4 == x10)&&(x5 == x11)))))) false))
def wqov:=@wq1dx
theorem wq12q(k:Nat): DOK Tryz.prog 92 (h_rule_Same.run (@wqov k)):=dok h_rule_Same (wq1dw k) Tryz.f92 k (ok1 (wqr4 k) ok0) (by kernel_rfl) (by kernel_rfl) fun R=>by kernel_rfl
def wq12r(k:Nat): Ent:=h_rule_Same.e 92 (@wqov k)
def h_config_may:Sh:=⟨[.g [.a .str,.a .str,.a .bool,.a kI,.a kI,.a .bool,.a .str,.a kI,.a kI,.a .flt,.a .bool,.a .bool,.s kI],.a kI,.a kI],some ([],[.a .bool]),none⟩
def wq1a5(k:Nat): Cxt:=⟨[wqui k,wq12r k,wq1a4 k],[],[],[]⟩
def wq1a6(k:Nat){R:Type}(x0 x1:(List UInt8))(x2:Bool)(x3 x4:Int)(x5:Bool)(x6:(List UInt8))(x7 x8:Int)(x9:Nat)(x10 x11:Bool)(x12:(List Int))(x13 x14:Int)(K:(Bool→Option R)): Option R:=cond ((cond (x3 != x13) true (x4 != x14)) == false) (wqaz k x0 (fun y18=>cond (cond (cond (!y18) true (decide ((x1.length:Int)>128))) true (cond x2 (!(x1 == [])) false)) (K false) (cond x5 (wqr7 k x6 x7 x8 x9 x10 x11 (fun y19=>K (y19 == 0))) (wqov k x6 x7 x8 x9 x10 x11 [] 0 0 0 false false K)))) (K false)
def wqr8:=@wq1a6
theorem wq1a7(k:Nat): DOK Tryz.prog 64 (h_config_may.run (@wqr8 k)):=dok h_config_may (wq1a5 k) Tryz.f64 k (ok1 (wqon k) (ok1 (wq12q k) (ok1 (wq1a3 k) ok0))) (by kernel_rfl) (by kernel_rfl) fun R=>by kernel_rfl
def wq1a8(k:Nat): Ent:=h_config_may.e 64 (@wqr8 k)
def h_config_walk_1:Sh:=⟨[.a kI,.o 11 27 0 [.s (.pr .str (.sl kI)),.s kdT56],.o 12 57 0 [.a .str,.a .str,.a .bool,.a kI,.a kI,.a .bool,.a .str,.a kI,.a kI,.a .flt,.a .bool,.a .bool,.s kI]],some ([.o 11 27 0 [.s (.pr .str (.sl kI)),.s kdT56],.o 12 57 0 [.a .str,.a .str,.a .bool,.a kI,.a kI,.a .bool,.a .str,.a kI,.a kI,.a .flt,.a .bool,.a .bool,.s kI]],[.a .bool]),none⟩
def wq11g(k:Nat): Cxt:=⟨[wqna k],[11,12],[],[(1,(.of [(0,1),(2,1),(1,1),(3,1),(4,1),(5,1),(6,0),(7,1)] .done))]⟩
def wq11h(k:Nat){R:Type}(x0:Int)(x1:(List ((List UInt8)×(List Int))))(x2:(List dT56))(x3 x4:(List UInt8))(x5:Bool)(x6 x7:Int)(x8:Bool)(x9:(List UInt8))(x10 x11:Int)(x12:Nat)(x13 x14:Bool)(x15:(List Int))(K:((List ((List UInt8)×(List Int)))→(List dT56)→(List UInt8)→(List UInt8)→Bool→Int→Int→Bool→(List UInt8)→Int→Int→Nat→Bool→Bool→(List Int)→Bool→Option R)): Option R:=cond (inb x0 (x2.length:Int)) (wqg4 k (x2.getD x0.toNat kdT56.zero).1 ((x2.getD x0.toNat kdT56.zero).2).1 (((x2.getD x0.toNat kdT56.zero).2).2).1 ((((x2.getD x0.toNat kdT56.zero).2).2).2).1 (((((x2.getD x0.toNat kdT56.zero).2).2).2).2).1 ((((((x2.getD x0.toNat kdT56.zero).2).2).2).2).2).1 ((((((((x2.getD x0.toNat kdT56.zero).2).2).2).2).2).2).1).1 (((((((((x2.getD x0.toNat kdT56.zero).2).2).2).2).2).2).1).2).1 ((((((((((x2.getD x0.toNat kdT56.zero).2).2).2).2).2).2).1).2).2).1 (((((((((((x2.getD x0.toNat kdT56.zero).2).2).2).2).2).2).1).2).2).2).1 ((((((((((((x2.getD x0.toNat kdT56.zero).2).2).2).2).2).2).1).2).2).2).2).1 ((((((((((((x2.getD x0.toNat kdT56.zero).2).2).2).2).2).2).1).2).2).2).2).2 (((((((x2.getD x0.toNat kdT56.zero).2).2).2).2).2).2).2 x3 x4 x5 x6 x7 x8 x9 x10 x11 x12 x13 x14 x15 (fun y19=>K x1 x2 x3 x4 x5 x6 x7 x8 x9 x10 x11 x12 x13 x14 x15 y19)) none
def wqjm:=@wq11h
theorem wq11i(k:Nat): DOK Tryz.prog 66 (h_config_walk_1.run (@wqjm k)):=dok h_config_walk_1 (wq11g k) Tryz.f66 k (ok1 (wqn9 k) ok0) (by kernel_rfl) (by kernel_rfl) fun R=>by kernel_rfl
def wq11j(k:Nat): Ent:=h_config_walk_1.e 66 (@wqjm k)
def h_slices_IndexFunc___int_int_walk:Sh:=⟨[.s kI,.c 66 [.o 300 27 0 [.s (.pr .str (.sl kI)),.s kdT56],.o 301 57 0 [.a .str,.a .str,.a .bool,.a kI,.a kI,.a .bool,.a .str,.a kI,.a kI,.a .flt,.a .bool,.a .bool,.s kI]]],some ([.o 300 27 0 [.s (.pr .str (.sl kI)),.s kdT56],.o 301 57 0 [.a .str,.a .str,.a .bool,.a kI,.a kI,.a .bool,.a .str,.a kI,.a kI,.a .flt,.a .bool,.a .bool,.s kI]],[.a kI]),none⟩
def u_slices_IndexFunc___int_int_walk_1002:Cu:=⟨2,[0,1,7,8],[.o 300 27 0 [.s (.pr .str (.sl kI)),.s kdT56],.o 301 57 0 [.a .str,.a .str,.a .bool,.a kI,.a kI,.a .bool,.a .str,.a kI,.a kI,.a .flt,.a .bool,.a .bool,.s kI],.s kI,.c 66 [.r 300 0,.r 301 0],.a kI,.a kI]⟩
def wq9o(k:Nat): Cxt:=⟨[wq11j k],[300,301],[(1002,u_slices_IndexFunc___int_int_walk_1002.spec)],[]⟩
def wq7g(k:Nat){R:Type}(E1002:((List ((List UInt8)×(List Int)))→(List dT56)→(List UInt8)→(List UInt8)→Bool→Int→Int→Bool→(List UInt8)→Int→Int→Nat→Bool→Bool→(List Int)→(List Int)→Int→Int→Option R))(s0:(List ((List UInt8)×(List Int))))(s1:(List dT56))(s2 s3:(List UInt8))(s4:Bool)(s5 s6:Int)(s7:Bool)(s8:(List UInt8))(s9 s10:Int)(s11:Nat)(s12 s13:Bool)(s14 s15:(List Int))(s16 s17:Int)(K:((List ((List UInt8)×(List Int)))→(List dT56)→(List UInt8)→(List UInt8)→Bool→Int→Int→Bool→(List UInt8)→Int→Int→Nat→Bool→Bool→(List Int)→Int→Option R)): Option R:=cond (decide (s17<s16)) (cond (inb s17 (s15.length:Int)) (wqjm k (s15.getD s17.toNat kI.zero) s0 s1 s2 s3 s4 s5 s6 s7 s8 s9 s10 s11 s12 s13 s14 (fun y22 y23 y24 y25 y26 y27 y28 y29 y30 y31 y32 y33 y34 y35 y36 y37=>cond y37 (K y22 y23 y24 y25 y26 y27 y28 y29 y30 y31 y32 y33 y34 y35 y36 s17) (E1002 y22 y23 y24 y25 y26 y27 y28 y29 y30 y31 y32 y33 y34 y35 y36 s15 s16 (@Go.IntKind.wrap Go.IntKind.i64 (s17+1))))) none) (K s0 s1 s2 s3 s4 s5 s6 s7 s8 s9 s10 s11 s12 s13 s14 (@Neg.neg Int @Int.instNegInt (1:Int)))
def wq9p(k:Nat){R:Type}(E1002:((List ((List UInt8)×(List Int)))→(List dT56)→(List UInt8)→(List UInt8)→Bool→Int→Int→Bool→(List UInt8)→Int→Int→Nat→Bool→Bool→(List Int)→(List Int)→Int→Int→Option R))(x0:(List Int))(x1:(List ((List UInt8)×(List Int))))(x2:(List dT56))(x3 x4:(List UInt8))(x5:Bool)(x6 x7:Int)(x8:Bool)(x9:(List UInt8))(x10 x11:Int)(x12:Nat)(x13 x14:Bool)(x15:(List Int))(K:((List ((List UInt8)×(List Int)))→(List dT56)→(List UInt8)→(List UInt8)→Bool→Int→Int→Bool→(List UInt8)→Int→Int→Nat→Bool→Bool→(List Int)→Int→Option R)): Option R:=E1002 x1 x2 x3 x4 x5 x6 x7 x8 x9 x10 x11 x12 x13 x14 x15 x0 (x0.length:Int) 0
def wq3w(k:Nat){R:Type}: Nat→(List ((List UInt8)×(List Int)))→(List dT56)→(List UInt8)→(List UInt8)→Bool→Int→Int→Bool→(List UInt8)→Int→Int→Nat→Bool→Bool→(List Int)→(List Int)→Int→Int→((List ((List UInt8)×(List Int)))→(List dT56)→(List UInt8)→(List UInt8)→Bool→Int→Int→Bool→(List UInt8)→Int→Int→Nat→Bool→Bool→(List Int)→Int→Option R)→Option R
 |0,_,_,_,_,_,_,_,_,_,_,_,_,_,_,_,_,_,_,_=>none
 |n+1,s0,s1,s2,s3,s4,s5,s6,s7,s8,s9,s10,s11,s12,s13,s14,s15,s16,s17,K=>wq7g k (fun s0 s1 s2 s3 s4 s5 s6 s7 s8 s9 s10 s11 s12 s13 s14 s15 s16 s17=>wq3w k n s0 s1 s2 s3 s4 s5 s6 s7 s8 s9 s10 s11 s12 s13 s14 s15 s16 s17 K) s0 s1 s2 s3 s4 s5 s6 s7 s8 s9 s10 s11 s12 s13 s14 s15 s16 s17 K
theorem wqbg(k:Nat){R:Type}: ∀(I:Nat→St→Option R) (n:Nat),h_slices_IndexFunc___int_int_walk.lp u_slices_IndexFunc___int_int_walk_1002 (wq9o k).cx k Tryz.f110 1002 [1,0,1,0] I n=wq3w k n:=h_slices_IndexFunc___int_int_walk.lok u_slices_IndexFunc___int_int_walk_1002 (B:=wq7g k) (L:=wq3w k) (fun I=>by kernel_rfl) (fun I=>by kernel_rfl) (fun n=>by kernel_rfl) (fun _ _ _ _=>rfl)
def wq60(k:Nat){R:Type}(x0:(List Int))(x1:(List ((List UInt8)×(List Int))))(x2:(List dT56))(x3 x4:(List UInt8))(x5:Bool)(x6 x7:Int)(x8:Bool)(x9:(List UInt8))(x10 x11:Int)(x12:Nat)(x13 x14:Bool)(x15:(List Int))(K:((List ((List UInt8)×(List Int)))→(List dT56)→(List UInt8)→(List UInt8)→Bool→Int→Int→Bool→(List UInt8)→Int→Int→Nat→Bool→Bool→(List Int)→Int→Option R)): Option R:=wq9p k (fun s0 s1 s2 s3 s4 s5 s6 s7 s8 s9 s10 s11 s12 s13 s14 s15 s16 s17=>wq3w k k s0 s1 s2 s3 s4 s5 s6 s7 s8 s9 s10 s11 s12 s13 s14 s15 s16 s17 K) x0 x1 x2 x3 x4 x5 x6 x7 x8 x9 x10 x11 x12 x13 x14 x15 K
theorem wqeu(k:Nat): DOK Tryz.prog 110 (h_slices_IndexFunc___int_int_walk.run (@wq60 k)):=dok h_slices_IndexFunc___int_int_walk (wq9o k) Tryz.f110 k (ok1 (wq11i k) ok0) (by kernel_rfl) (by kernel_rfl) fun R=>h_slices_IndexFunc___int_int_walk.f1 u_slices_IndexFunc___int_int_walk_1002 (wq9p k) (by kernel_rfl) (wqbg k (fun _ _=>none) k) (by kernel_rfl)
def wqev(k:Nat): Ent:=h_slices_IndexFunc___int_int_walk.e 110 (@wq60 k)
def h_slices_ContainsFunc___int_int_walk:Sh:=⟨[.s kI,.c 66 [.o 300 27 0 [.s (.pr .str (.sl kI)),.s kdT56],.o 301 57 0 [.a .str,.a .str,.a .bool,.a kI,.a kI,.a .bool,.a .str,.a kI,.a kI,.a .flt,.a .bool,.a .bool,.s kI]]],some ([.o 300 27 0 [.s (.pr .str (.sl kI)),.s kdT56],.o 301 57 0 [.a .str,.a .str,.a .bool,.a kI,.a kI,.a .bool,.a .str,.a kI,.a kI,.a .flt,.a .bool,.a .bool,.s kI]],[.a .bool]),none⟩
def wqdf(k:Nat): Cxt:=⟨[wqev k],[300,301],[],[]⟩
def wqdg(k:Nat){R:Type}(x0:(List Int))(x1:(List ((List UInt8)×(List Int))))(x2:(List dT56))(x3 x4:(List UInt8))(x5:Bool)(x6 x7:Int)(x8:Bool)(x9:(List UInt8))(x10 x11:Int)(x12:Nat)(x13 x14:Bool)(x15:(List Int))(K:((List ((List UInt8)×(List Int)))→(List dT56)→(List UInt8)→(List UInt8)→Bool→Int→Int→Bool→(List UInt8)→Int→Int→Nat→Bool→Bool→(List Int)→Bool→Option R)): Option R:=wq60 k x0 x1 x2 x3 x4 x5 x6 x7 x8 x9 x10 x11 x12 x13 x14 x15 (fun y19 y20 y21 y22 y23 y24 y25 y26 y27 y28 y29 y30 y31 y32 y33 y34=>K y19 y20 y21 y22 y23 y24 y25 y26 y27 y28 y29 y30 y31 y32 y33 (decide (y34≥0)))
def wq50:=@wqdg
theorem wqdh(k:Nat): DOK Tryz.prog 65 (h_slices_ContainsFunc___int_int_walk.run (@wq50 k)):=dok h_slices_ContainsFunc___int_int_walk (wqdf k) Tryz.f65 k (ok1 (wqeu k) ok0) (by kernel_rfl) (by kernel_rfl) fun R=>by kernel_rfl
def wqdi(k:Nat): Ent:=h_slices_ContainsFunc___int_int_walk.e 65 (@wq50 k)
def h_config_walk:Sh:=⟨[.g [.s (.pr .str (.sl kI)),.s kdT56],.s kI,.a kI,.a kI,.a kI,.a kI],some ([],[.a kI]),none⟩
abbrev wqah:Type 1:=(R:Type)→(List ((List UInt8)×(List Int)))→(List dT56)→(List Int)→Int→Int→Int→Int→(Int→Option R)→Option R
def u_config_walk_1002:Cu:=⟨0,[1,2,3,4,5,6,16,17,18],[.s kI,.a kI,.a kI,.a kI,.a kI,.o 16 27 0 [.s (.pr .str (.sl kI)),.s kdT56],.s kI,.a kI,.a kI]⟩
def wqj1(k:Nat)(wq48:wqah): Cxt:=⟨[h_config_walk.e 34 wq48,wq1a8 k,wqdi k],[],[(1002,u_config_walk_1002.spec)],[]⟩
def wqk9(k:Nat)(wq48:wqah){R:Type}(E1002:((List Int)→Int→Int→Int→Int→(List ((List UInt8)×(List Int)))→(List dT56)→(List Int)→Int→Int→Option R))(s0:(List Int))(s1 s2 s3 s4:Int)(s5:(List ((List UInt8)×(List Int))))(s6:(List dT56))(s7:(List Int))(s8 s9:Int)(K:(Int→Option R)): Option R:=cond (decide (s9<s8)) (cond (inb s9 (s7.length:Int)) (cond ((!((cond (cond ((s7.getD s9.toNat kI.zero) != s3) true (decide ((s7.getD s9.toNat kI.zero)≥(s6.length:Int)))) true (decide (s4>8))) == false)) || (inb (s7.getD s9.toNat kI.zero) (s6.length:Int))) (cond ((cond (cond ((s7.getD s9.toNat kI.zero) != s3) true (decide ((s7.getD s9.toNat kI.zero)≥(s6.length:Int)))) true (decide (s4>8))) == false) (wqr8 k (s6.getD (s7.getD s9.toNat kI.zero).toNat kdT56.zero).1 ((s6.getD (s7.getD s9.toNat kI.zero).toNat kdT56.zero).2).1 (((s6.getD (s7.getD s9.toNat kI.zero).toNat kdT56.zero).2).2).1 ((((s6.getD (s7.getD s9.toNat kI.zero).toNat kdT56.zero).2).2).2).1 (((((s6.getD (s7.getD s9.toNat kI.zero).toNat kdT56.zero).2).2).2).2).1 ((((((s6.getD (s7.getD s9.toNat kI.zero).toNat kdT56.zero).2).2).2).2).2).1 ((((((((s6.getD (s7.getD s9.toNat kI.zero).toNat kdT56.zero).2).2).2).2).2).2).1).1 (((((((((s6.getD (s7.getD s9.toNat kI.zero).toNat kdT56.zero).2).2).2).2).2).2).1).2).1 ((((((((((s6.getD (s7.getD s9.toNat kI.zero).toNat kdT56.zero).2).2).2).2).2).2).1).2).2).1 (((((((((((s6.getD (s7.getD s9.toNat kI.zero).toNat kdT56.zero).2).2).2).2).2).2).1).2).2).2).1 ((((((((((((s6.getD (s7.getD s9.toNat kI.zero).toNat kdT56.zero).2).2).2).2).2).2).1).2).2).2).2).1 ((((((((((((s6.getD (s7.getD s9.toNat kI.zero).toNat kdT56.zero).2).2).2).2).2).2).1).2).2).2).2).2 (((((((s6.getD (s7.getD s9.toNat kI.zero).toNat kdT56.zero).2).2).2).2).2).2).2 s1 s2 (fun y14=>cond (!y14) (K (@Neg.neg Int @Int.instNegInt (1:Int))) (cond (inb (s7.getD s9.toNat kI.zero) (s6.length:Int)) (cond (bnd 0 s9 (s0.length:Int)) (wq50 k (cut s0 0 s9) s5 s6 (s6.getD (s7.getD s9.toNat kI.zero).toNat kdT56.zero).1 ((s6.getD (s7.getD s9.toNat kI.zero).toNat kdT56.zero).2).1 (((s6.getD (s7.getD s9.toNat kI.zero).toNat kdT56.zero).2).2).1 ((((s6.getD (s7.getD s9.toNat kI.zero).toNat kdT56.zero).2).2).2).1 (((((s6.getD (s7.getD s9.toNat kI.zero).toNat kdT56.zero).2).2).2).2).1 ((((((s6.getD (s7.getD s9.toNat kI.zero).toNat kdT56.zero).2).2).2).2).2).1 ((((((((s6.getD (s7.getD s9.toNat kI.zero).toNat kdT56.zero).2).2).2).2).2).2).1).1 (((((((((s6.getD (s7.getD s9.toNat kI.zero).toNat kdT56.zero).2).2).2).2).2).2).1).2).1 ((((((((((s6.getD (s7.getD s9.toNat kI.zero).toNat kdT56.zero).2).2).2).2).2).2).1).2).2).1 (((((((((((s6.getD (s7.getD s9.toNat kI.zero).toNat kdT56.zero).2).2).2).2).2).2).1).2).2).2).1 ((((((((((((s6.getD (s7.getD s9.toNat kI.zero).toNat kdT56.zero).2).2).2).2).2).2).1).2).2).2).2).1 ((((((((((((s6.getD (s7.getD s9.toNat kI.zero).toNat kdT56.zero).2).2).2).2).2).2).1).2).2).2).2).2 (((((((s6.getD (s7.getD s9.toNat kI.zero).toNat kdT56.zero).2).2).2).2).2).2).2 (fun y15 y16 y17 y18 y19 y20 y21 y22 y23 y24 y25 y26 y27 y28 y29 y30=>cond y30 (K (@Neg.neg Int @Int.instNegInt (1:Int))) (wq48 R y15 y16 y29 s1 (s7.getD s9.toNat kI.zero) (@Go.IntKind.wrap Go.IntKind.i64 ((s7.getD s9.toNat kI.zero)+1)) (@Go.IntKind.wrap Go.IntKind.i64 (s4+1)) (fun y31=>cond (decide (y31<0)) (K (@Neg.neg Int @Int.instNegInt (1:Int))) (E1002 s0 s1 s2 y31 s4 y15 y16 s7 s8 (@Go.IntKind.wrap Go.IntKind.i64 (s9+1))))))) none) none))) (K (@Neg.neg Int @Int.instNegInt (1:Int)))) none) none) (K s3)
def wqnp(k:Nat)(wq48:wqah){R:Type}(E1002:((List Int)→Int→Int→Int→Int→(List ((List UInt8)×(List Int)))→(List dT56)→(List Int)→Int→Int→Option R))(x0:(List ((List UInt8)×(List Int))))(x1:(List dT56))(x2:(List Int))(x3 x4 x5 x6:Int)(K:(Int→Option R)): Option R:=E1002 x2 x3 x4 x5 x6 x0 x1 x2 (x2.length:Int) 0
def wqc1(k:Nat)(wq48:wqah){R:Type}: Nat→(List Int)→Int→Int→Int→Int→(List ((List UInt8)×(List Int)))→(List dT56)→(List Int)→Int→Int→(Int→Option R)→Option R
 |0,_,_,_,_,_,_,_,_,_,_,_=>none
 |n+1,s0,s1,s2,s3,s4,s5,s6,s7,s8,s9,K=>wqk9 k wq48 (fun s0 s1 s2 s3 s4 s5 s6 s7 s8 s9=>wqc1 k wq48 n s0 s1 s2 s3 s4 s5 s6 s7 s8 s9 K) s0 s1 s2 s3 s4 s5 s6 s7 s8 s9 K
theorem wqpd(k:Nat)(wq48:wqah){R:Type}: ∀(I:Nat→St→Option R) (n:Nat),h_config_walk.lp u_config_walk_1002 (wqj1 k wq48).cx k Tryz.f34 1002 [1,0,1,0] I n=wqc1 k wq48 n:=h_config_walk.lok u_config_walk_1002 (B:=wqk9 k wq48) (L:=wqc1 k wq48) (fun I=>by kernel_rfl) (fun I=>by kernel_rfl) (fun n=>by kernel_rfl) (fun _ _ _ _=>rfl)
theorem wq16r(k:Nat)(wq48:wqah)(R:Type): h_config_walk.at (wqj1 k wq48) k Tryz.f34 R=h_config_walk.glue (l:=h_config_walk.ps) (u:=u_config_walk_1002.fs) (fun E1002=>@wqnp k wq48 R E1002) (h_config_walk.lp u_config_walk_1002 (wqj1 k wq48).cx k Tryz.f34 1002 [1,0,1,0] (fun _ _=>none) k):=by kernel_rfl
def wq99:Nat→wqah
 |0,_,_,_,_,_,_,_,_,_=>none
 |k+1,R,x0,x1,x2,x3,x4,x5,x6,K=>wqnp k (wq99 k) (fun s0 s1 s2 s3 s4 s5 s6 s7 s8 s9=>wqc1 k (wq99 k) k s0 s1 s2 s3 s4 s5 s6 s7 s8 s9 K) x0 x1 x2 x3 x4 x5 x6 K
def wqnq(k:Nat){R:Type}(x0:(List ((List UInt8)×(List Int))))(x1:(List dT56))(x2:(List Int))(x3 x4 x5 x6:Int)(K:(Int→Option R)): Option R:=wq99 k R x0 x1 x2 x3 x4 x5 x6 K
theorem wq145(k:Nat): DOK Tryz.prog 34 (h_config_walk.run (wq99 k)):=by
 induction k with
 |zero=>exact h_config_walk.ok0 fun R=>by kernel_rfl
 |succ k ih =>
  have ih_config_walk:=ih
  exact dok h_config_walk (wqj1 k (wq99 k)) Tryz.f34 k (ok1 ih_config_walk (ok1 (wq1a7 k) (ok1 (wqdh k) ok0))) (by kernel_rfl) (by kernel_rfl) fun R=>h_config_walk.f1 u_config_walk_1002 (wqnp k (wq99 k)) (wq16r k (wq99 k) R) (wqpd k (wq99 k) (fun _ _=>none) k) (by kernel_rfl)
theorem wq16s(k:Nat): DOK Tryz.prog 34 (h_config_walk.run (@wqnq k)):=(wq145 k)
def wq16t(k:Nat): Ent:=h_config_walk.e 34 (@wqnq k)
def h_config_Check:Sh:=⟨[.g [.s (.pr .str (.sl kI)),.s kdT56]],some ([],[.a kI]),none⟩
abbrev wqjn:Type 1:=(R:Type)→(List ((List UInt8)×(List Int)))→(List dT56)→(Int→Option R)→Option R
def u_config_Check_1006:Cu:=⟨0,[1,3,4,25,26,27],[.o 11 27 0 [.s (.pr .str (.sl kI)),.s kdT56],.m 73 .one .bool,.a kI,.s (.pr .str (.sl kI)),.a kI,.a kI]⟩
def wqsp(k:Nat): Cxt:=⟨[wqui k,wq16t k],[],[(1006,u_config_Check_1006.spec)],[]⟩
def wqj2(k:Nat){R:Type}(E1006:((List ((List UInt8)×(List Int)))→(List dT56)→(List (List UInt8×Bool))→Int→(List ((List UInt8)×(List Int)))→Int→Int→Option R))(s0:(List ((List UInt8)×(List Int))))(s1:(List dT56))(s2:(List (List UInt8×Bool)))(s3:Int)(s4:(List ((List UInt8)×(List Int))))(s5 s6:Int)(K:(Int→Option R)): Option R:=cond (decide (s6<s5)) (cond (inb s6 (s4.length:Int)) (cond ((mget Kd.bool (s4.getD s6.toNat (Kd.zero (@Kd.pr Kd.str (@Kd.sl kI)))).1 s2) == false) (wqaz k (s4.getD s6.toNat (Kd.zero (@Kd.pr Kd.str (@Kd.sl kI)))).1 (fun y11=>cond (!y11) (K 1) (wqnq k s0 s1 (s4.getD s6.toNat (Kd.zero (@Kd.pr Kd.str (@Kd.sl kI)))).2 s6 (@Neg.neg Int @Int.instNegInt (1:Int)) s3 1 (fun y12=>cond (decide (y12<0)) (K 1) (E1006 s0 s1 (mset Kd.bool (s4.getD s6.toNat (Kd.zero (@Kd.pr Kd.str (@Kd.sl kI)))).1 true s2) y12 s4 s5 (@Go.IntKind.wrap Go.IntKind.i64 (s6+1))))))) (K 1)) none) (cond (s3 != (s1.length:Int)) (K 1) (K 0))
def wqsq(k:Nat){R:Type}(E1006:((List ((List UInt8)×(List Int)))→(List dT56)→(List (List UInt8×Bool))→Int→(List ((List UInt8)×(List Int)))→Int→Int→Option R))(x0:(List ((List UInt8)×(List Int))))(x1:(List dT56))(K:(Int→Option R)): Option R:=cond (cond (cond (decide ((x0.length:Int)<1)) true (decide ((x0.length:Int)>16))) true (decide ((x1.length:Int)>500))) (K 1) (E1006 x0 x1 [] 0 x0 (x0.length:Int) 0)
def wqb9(k:Nat){R:Type}: Nat→(List ((List UInt8)×(List Int)))→(List dT56)→(List (List UInt8×Bool))→Int→(List ((List UInt8)×(List Int)))→Int→Int→(Int→Option R)→Option R
 |0,_,_,_,_,_,_,_,_=>none
 |n+1,s0,s1,s2,s3,s4,s5,s6,K=>wqj2 k (fun s0 s1 s2 s3 s4 s5 s6=>wqb9 k n s0 s1 s2 s3 s4 s5 s6 K) s0 s1 s2 s3 s4 s5 s6 K
theorem wqnr(k:Nat){R:Type}: ∀(I:Nat→St→Option R) (n:Nat),h_config_Check.lp u_config_Check_1006 (wqsp k).cx k Tryz.f14 1006 [1,1,1,1,0,1,0] I n=wqb9 k n:=h_config_Check.lok u_config_Check_1006 (B:=wqj2 k) (L:=wqb9 k) (fun I=>by kernel_rfl) (fun I=>by kernel_rfl) (fun n=>by kernel_rfl) (fun _ _ _ _=>rfl)
def wqhb(k:Nat){R:Type}(x0:(List ((List UInt8)×(List Int))))(x1:(List dT56))(K:(Int→Option R)): Option R:=wqsq k (fun s0 s1 s2 s3 s4 s5 s6=>wqb9 k k s0 s1 s2 s3 s4 s5 s6 K) x0 x1 K
theorem wq146(k:Nat): DOK Tryz.prog 14 (h_config_Check.run (@wqhb k)):=dok h_config_Check (wqsp k) Tryz.f14 k (ok1 (wqon k) (ok1 (wq16s k) ok0)) (by kernel_rfl) (by kernel_rfl) fun R=>h_config_Check.f1 u_config_Check_1006 (wqsq k) (by kernel_rfl) (wqnr k (fun _ _=>none) k) (by kernel_rfl)
def wqzz:List LS:=[.obj 1 [.sl (.pr (.int .i64) (.pr (.int .i64) (.pr .str (.pr .bool (.pr (.sl .str) (.sl (.int .i64)))))))],.obj 2 [.any,.any]]
def wq100(k:Nat): CTab:=CTab.nil
def wqjo{R:Type}(K:((List dT72)→Int→Int→Option R)): Out→Option R
 |.ret [] [(1,.var 38 [.v (.sl (.pr (.int .i64) (.pr (.int .i64) (.pr .str (.pr .bool (.pr (.sl .str) (.sl (.int .i64)))))))) y0]),(2,.var 29 [.v (.int .i64) y1,.v (.int .i64) y2])]=>K y0 y1 y2
 |_=>none
def wqw8:RetSpec:=⟨[],[(1,.obj 1 [.sl (.pr (.int .i64) (.pr (.int .i64) (.pr .str (.pr .bool (.pr (.sl .str) (.sl (.int .i64)))))))]),(2,.obj 2 [.any,.any])],[]⟩
def wq11k:List (Nat×CutSpec):=[]
def wq101:List (Nat×Plan):=[(7,(.of [(0,1),(1,2),(2,0),(3,0)] .done))]
def wqns(k:Nat): Ctx:=⟨tyT,wq11k,wq100 k,[],[1,2],wq101,@SH⟩
def wqfy:Code:=Tryz.f101.body.getD .skip
def wq102(k:Nat){R:Type}(x0:(List dT72))(x1 x2:Int)(K:((List dT72)→Int→Int→Option R)): Option R:=K x0 x1 x2
theorem wq11l(k:Nat){R:Type}(I:Nat→St→Option R)(x0:(List dT72))(x1 x2:Int)(K:((List dT72)→Int→Int→Option R)): fnCK (wqns k) k (at_ [1] wqfy) 13 [] wqw8 [.ptr 1 0,.ptr 2 0] 5 (.nilif) [(1,.var 38 [.v (.sl (.pr (.int .i64) (.pr (.int .i64) (.pr .str (.pr .bool (.pr (.sl .str) (.sl (.int .i64)))))))) x0]),(2,.var 29 [.v (.int .i64) x1,.v (.int .i64) x2])] (wqjo K)=wq102 k x0 x1 x2 K:=by kernel_rfl
def wqlf(k:Nat){R:Type}(x0:(List dT72))(x1 x2:Int)(K:((List dT72)→Int→Int→Option R)): Option R:=wq102 k x0 x1 x2 K
theorem wq11m(k:Nat){R:Type}(x0:(List dT72))(x1 x2:Int)(K:((List dT72)→Int→Int→Option R)): fnCK (wqns k) k (at_ [1] wqfy) 13 [] wqw8 [.ptr 1 0,.ptr 2 0] 5 (.nilif) [(1,.var 38 [.v (.sl (.pr (.int .i64) (.pr (.int .i64) (.pr .str (.pr .bool (.pr (.sl .str) (.sl (.int .i64)))))))) x0]),(2,.var 29 [.v (.int .i64) x1,.v (.int .i64) x2])] (wqjo K)=wqlf k x0 x1 x2 K:=by
 exact wq11l k (fun _ _=>none) x0 x1 x2 K
def wqsr(k:Nat){R:Type}: PV→List PV→List (Nm×HObj)→(Out→Option R)→Option R
 |.nilif,[.ptr 1 0,.ptr 2 0],[(1,.var 38 [.v (.sl (.pr (.int .i64) (.pr (.int .i64) (.pr .str (.pr .bool (.pr (.sl .str) (.sl (.int .i64)))))))) x0]),(2,.var 29 [.v (.int .i64) x1,.v (.int .i64) x2])],K=>wqlf k x0 x1 x2 (fun y0 y1 y2=>K (.ret [] [(1,.var 38 [.v (.sl (.pr (.int .i64) (.pr (.int .i64) (.pr .str (.pr .bool (.pr (.sl .str) (.sl (.int .i64)))))))) y0]),(2,.var 29 [.v (.int .i64) y1,.v (.int .i64) y2])]))
 |_,_,_,_=>none
theorem wq11n(k:Nat): (wq100 k).Ok Tryz.prog:=CTab.nil_ok
theorem wq16u(k:Nat){rec:PV}{ps:List PV}{hp:List (Nm×HObj)}{R:Type}{K:Out→Option R}{r:R}(h:wqsr k rec ps hp K=some r): DoesToD Tryz.prog 101 rec ps hp fun out=>K out=some r:=by
 unfold wqsr at h
 split at h
 ·rw[←wq11m]at h
  have:=wq12d (P:=Tryz.prog) (cx:=wqns k) (f:=101) ⟨tyT_ok,wq11n k,fun _ _=>rfl⟩ (by kernel_rfl) (fn:=Tryz.f101) (id:=0) (ops:=opsAt (at_ [0] wqfy)) (c:=at_ [1] wqfy) (by kernel_rfl) (by kernel_rfl) (by kernel_rfl) (rs:=[]) (by kernel_rfl) (by kernel_rfl) h
  exact this.mono fun out ho=>by
   unfold wqjo at ho
   split at ho<;>first|exact ho|cases ho
 ·cases h
def wq103(k:Nat): CTab:=CTab.nil
def wqjp{R:Type}(K:((List dT72)→Int→Int→Option R)): Out→Option R
 |.ret [] [(1,.var 38 [.v (.sl (.pr (.int .i64) (.pr (.int .i64) (.pr .str (.pr .bool (.pr (.sl .str) (.sl (.int .i64)))))))) y0]),(2,.var 29 [.v (.int .i64) y1,.v (.int .i64) y2])]=>K y0 y1 y2
 |_=>none
def wqw9:RetSpec:=⟨[],[(1,.obj 1 [.sl (.pr (.int .i64) (.pr (.int .i64) (.pr .str (.pr .bool (.pr (.sl .str) (.sl (.int .i64)))))))]),(2,.obj 2 [.any,.any])],[]⟩
def wq11o:List (Nat×CutSpec):=[]
def wq104:List (Nat×Plan):=[(7,(.of [(0,1),(1,2),(2,0),(3,0)] .done))]
def wqnt(k:Nat): Ctx:=⟨tyT,wq11o,wq103 k,[],[1,2],wq104,@SH⟩
def wqfz:Code:=Tryz.f101.body.getD .skip
def wq105(k:Nat){R:Type}(x0:(List dT72))(x1 x2 x3 x4:Int)(K:((List dT72)→Int→Int→Option R)): Option R:=K [] x3 x4
theorem wq11p(k:Nat){R:Type}(I:Nat→St→Option R)(x0:(List dT72))(x1 x2 x3 x4:Int)(K:((List dT72)→Int→Int→Option R)): fnCK (wqnt k) k (at_ [1] wqfz) 13 [] wqw9 [.ptr 1 0,.ptr 2 0] 5 (.ifc 29 (.agg [.v (.int .i64) x3,.v (.int .i64) x4])) [(1,.var 38 [.v (.sl (.pr (.int .i64) (.pr (.int .i64) (.pr .str (.pr .bool (.pr (.sl .str) (.sl (.int .i64)))))))) x0]),(2,.var 29 [.v (.int .i64) x1,.v (.int .i64) x2])] (wqjp K)=wq105 k x0 x1 x2 x3 x4 K:=by kernel_rfl
def wqfg(k:Nat){R:Type}(x0:(List dT72))(x1 x2 x3 x4:Int)(K:((List dT72)→Int→Int→Option R)): Option R:=wq105 k x0 x1 x2 x3 x4 K
theorem wq11q(k:Nat){R:Type}(x0:(List dT72))(x1 x2 x3 x4:Int)(K:((List dT72)→Int→Int→Option R)): fnCK (wqnt k) k (at_ [1] wqfz) 13 [] wqw9 [.ptr 1 0,.ptr 2 0] 5 (.ifc 29 (.agg [.v (.int .i64) x3,.v (.int .i64) x4])) [(1,.var 38 [.v (.sl (.pr (.int .i64) (.pr (.int .i64) (.pr .str (.pr .bool (.pr (.sl .str) (.sl (.int .i64)))))))) x0]),(2,.var 29 [.v (.int .i64) x1,.v (.int .i64) x2])] (wqjp K)=wqfg k x0 x1 x2 x3 x4 K:=by
 exact wq11p k (fun _ _=>none) x0 x1 x2 x3 x4 K
def wqss(k:Nat){R:Type}: PV→List PV→List (Nm×HObj)→(Out→Option R)→Option R
 |.ifc 29 (.agg [.v (.int .i64) x3,.v (.int .i64) x4]),[.ptr 1 0,.ptr 2 0],[(1,.var 38 [.v (.sl (.pr (.int .i64) (.pr (.int .i64) (.pr .str (.pr .bool (.pr (.sl .str) (.sl (.int .i64)))))))) x0]),(2,.var 29 [.v (.int .i64) x1,.v (.int .i64) x2])],K=>wqfg k x0 x1 x2 x3 x4 (fun y0 y1 y2=>K (.ret [] [(1,.var 38 [.v (.sl (.pr (.int .i64) (.pr (.int .i64) (.pr .str (.pr .bool (.pr (.sl .str) (.sl (.int .i64)))))))) y0]),(2,.var 29 [.v (.int .i64) y1,.v (.int .i64) y2])]))
 |_,_,_,_=>none
theorem wq11r(k:Nat): (wq103 k).Ok Tryz.prog:=CTab.nil_ok
theorem wq16v(k:Nat){rec:PV}{ps:List PV}{hp:List (Nm×HObj)}{R:Type}{K:Out→Option R}{r:R}(h:wqss k rec ps hp K=some r): DoesToD Tryz.prog 101 rec ps hp fun out=>K out=some r:=by
 unfold wqss at h
 split at h
 ·rw[←wq11q]at h
  have:=wq12d (P:=Tryz.prog) (cx:=wqnt k) (f:=101) ⟨tyT_ok,wq11r k,fun _ _=>rfl⟩ (by kernel_rfl) (fn:=Tryz.f101) (id:=0) (ops:=opsAt (at_ [0] wqfz)) (c:=at_ [1] wqfz) (by kernel_rfl) (by kernel_rfl) (by kernel_rfl) (rs:=[]) (by kernel_rfl) (by kernel_rfl) h
  exact this.mono fun out ho=>by
   unfold wqjp at ho
   split at ho<;>first|exact ho|cases ho
 ·cases h
def h_doc_gives:Sh:=⟨[.a kI,.a kI],none,some ([],[.i 29 (.g [.a kI,.a kI])])⟩
def wq1dy(k:Nat): Cxt:=⟨[],[],[],[]⟩
def wq1dz(k:Nat){R:Type}(x0 x1:Int)(E:(Int→Int→Option R)): Option R:=E x0 x1
def wqb0:=@wq1dz
theorem wqow(k:Nat): DOK Tryz.prog 102 (h_doc_gives.run (@wqb0 k)):=dok h_doc_gives (wq1dy k) Tryz.f102 k ok0 (by kernel_rfl) (by kernel_rfl) fun R=>by kernel_rfl
def wqux(k:Nat): Ent:=h_doc_gives.e 102 (@wqb0 k)
def h_doc_parser_next:Sh:=⟨[.o 1 155 0 [.s kdT156,.w 21 73 kdT72],.a kI,.a kI],some ([.o 1 155 0 [.s kdT156,.w 21 73 kdT72]],[.a .bool]),none⟩
def wqxi(k:Nat): Cxt:=⟨[],[1],[],[]⟩
def wqxj(k:Nat){R:Type}(x0:(List dT156))(x1:(List dT72))(x2 x3:Int)(K:((List dT156)→(List dT72)→Bool→Option R)): Option R:=cond ((!((decide ((x0.length:Int)>0)) == true)) || (inb 0 (x0.length:Int))) (cond ((!((cond (decide ((x0.length:Int)>0)) ((x0.getD (Int.toNat 0) kdT156.zero).1 == x2) false) == true)) || (inb 0 (x0.length:Int))) (K x0 x1 (cond (cond (decide ((x0.length:Int)>0)) ((x0.getD (Int.toNat 0) kdT156.zero).1 == x2) false) ((((x0.getD (Int.toNat 0) kdT156.zero).2).2).1 == x3) false)) none) none
def wqcz:=@wqxj
theorem wqmi(k:Nat): DOK Tryz.prog 197 (h_doc_parser_next.run (@wqcz k)):=dok h_doc_parser_next (wqxi k) Tryz.f197 k ok0 (by kernel_rfl) (by kernel_rfl) fun R=>by kernel_rfl
def wqmj(k:Nat): Ent:=h_doc_parser_next.e 197 (@wqcz k)
def h_doc_parser_take:Sh:=⟨[.o 1 155 0 [.s kdT156,.w 21 73 kdT72]],some ([.o 1 155 0 [.s kdT156,.w 21 73 kdT72]],[.g [.a kI,.a kI,.a kI,.a .str,.a .bool]]),none⟩
def wqxk(k:Nat): Cxt:=⟨[],[1],[],[]⟩
def wqxl(k:Nat){R:Type}(x0:(List dT156))(x1:(List dT72))(K:((List dT156)→(List dT72)→Int→Int→Int→(List UInt8)→Bool→Option R)): Option R:=cond (inb 0 (x0.length:Int)) (cond (bnd 1 (x0.length:Int) (x0.length:Int)) (K (cut x0 1 (x0.length:Int)) x1 (x0.getD (Int.toNat 0) kdT156.zero).1 ((x0.getD (Int.toNat 0) kdT156.zero).2).1 (((x0.getD (Int.toNat 0) kdT156.zero).2).2).1 ((((x0.getD (Int.toNat 0) kdT156.zero).2).2).2).1 ((((x0.getD (Int.toNat 0) kdT156.zero).2).2).2).2) none) none
def wqav:=@wqxl
theorem wqgp(k:Nat): DOK Tryz.prog 151 (h_doc_parser_take.run (@wqav k)):=dok h_doc_parser_take (wqxk k) Tryz.f151 k ok0 (by kernel_rfl) (by kernel_rfl) fun R=>by kernel_rfl
def wqgq(k:Nat): Ent:=h_doc_parser_take.e 151 (@wqav k)
def h_doc_parser_block:Sh:=⟨[.o 1 155 0 [.s kdT156,.w 21 73 kdT72],.a kI],some ([.o 1 155 0 [.s kdT156,.w 21 73 kdT72]],[.a kI]),some ([.o 1 155 0 [.s kdT156,.w 21 73 kdT72]],[.i 29 (.g [.a kI,.a kI])])⟩
abbrev wq1u:Type 1:=(R:Type)→(List dT156)→(List dT72)→Int→((List dT156)→(List dT72)→Int→Option R)→((List dT156)→(List dT72)→Int→Int→Option R)→Option R
def h_doc_parser_list:Sh:=⟨[.o 1 155 0 [.s kdT156,.w 21 73 kdT72],.a kI,.a kI,.a kI],some ([.o 1 155 0 [.s kdT156,.w 21 73 kdT72]],[]),some ([.o 1 155 0 [.s kdT156,.w 21 73 kdT72]],[.i 29 (.g [.a kI,.a kI])])⟩
abbrev wq23:Type 1:=(R:Type)→(List dT156)→(List dT72)→Int→Int→Int→((List dT156)→(List dT72)→Option R)→((List dT156)→(List dT72)→Int→Int→Option R)→Option R
def h_doc_parser_pairs:Sh:=⟨[.o 1 155 0 [.s kdT156,.w 21 73 kdT72],.a kI,.a kI,.a kI],some ([.o 1 155 0 [.s kdT156,.w 21 73 kdT72]],[]),some ([.o 1 155 0 [.s kdT156,.w 21 73 kdT72]],[.i 29 (.g [.a kI,.a kI])])⟩
abbrev wq1v:Type 1:=(R:Type)→(List dT156)→(List dT72)→Int→Int→Int→((List dT156)→(List dT72)→Option R)→((List dT156)→(List dT72)→Int→Int→Option R)→Option R
def h_doc_parser_under:Sh:=⟨[.o 1 155 0 [.s kdT156,.w 21 73 kdT72],.g [.a kI,.a kI,.a kI,.a .str,.a .bool],.a kI],some ([.o 1 155 0 [.s kdT156,.w 21 73 kdT72]],[.a kI]),some ([.o 1 155 0 [.s kdT156,.w 21 73 kdT72]],[.i 29 (.g [.a kI,.a kI])])⟩
abbrev wq1w:Type 1:=(R:Type)→(List dT156)→(List dT72)→Int→Int→Int→(List UInt8)→Bool→Int→((List dT156)→(List dT72)→Int→Option R)→((List dT156)→(List dT72)→Int→Int→Option R)→Option R
def wqka(k:Nat)(wqg:wq1u)(wqk:wq23)(wqh:wq1v)(wqd:wq1w): Cxt:=⟨[wqux k,wqgq k,h_doc_parser_list.e 152 wqk,h_doc_parser_pairs.e 153 wqh],[1],[],[(9,(.of [(0,1),(1,1),(2,1),(3,1),(4,1),(6,1),(5,1),(7,1),(8,1),(9,0),(10,0),(11,1),(12,1),(13,1),(14,0)] .done)),(14,(.of [(0,1),(1,1),(2,1),(3,1),(5,1),(6,1),(8,1),(10,1),(4,1),(7,1),(9,1),(11,1),(12,1),(13,1),(14,0)] .done))]⟩
def wqkb(k:Nat)(wqg:wq1u)(wqk:wq23)(wqh:wq1v)(wqd:wq1w){R:Type}(x0:(List dT156))(x1:(List dT72))(x2:Int)(K:((List dT156)→(List dT72)→Int→Option R))(E:((List dT156)→(List dT72)→Int→Int→Option R)): Option R:=cond (inb 0 (x0.length:Int)) (cond (cond (decide ((x0.getD (Int.toNat 0) kdT156.zero).1<1)) true (decide ((x0.getD (Int.toNat 0) kdT156.zero).1>3))) (wqb0 k 6 ((x0.getD (Int.toNat 0) kdT156.zero).2).1 (fun y7 y8=>E x0 x1 y7 y8)) (cond (decide (x2>24)) (wqb0 k 8 ((x0.getD (Int.toNat 0) kdT156.zero).2).1 (fun y7 y8=>E x0 x1 y7 y8)) (cond (decide ((x1.length:Int)≥2000)) (wqb0 k 9 ((x0.getD (Int.toNat 0) kdT156.zero).2).1 (fun y7 y8=>E x0 x1 y7 y8)) (cond (fits x1.length (@List.length (@Kd.T kdT72) [((0:(@Kd.T kI)),(((x0.getD (Int.toNat 0) kdT156.zero).2).1,([],(false,([],[])))))]) 88) (cond ((x0.getD (Int.toNat 0) kdT156.zero).1 == 3) (wqav k x0 (x1++[(0,(((x0.getD (Int.toNat 0) kdT156.zero).2).1,([],(false,([],[])))))]) (fun y7 y8 y9 y10 y11 y12 y13=>cond (inb (x1.length:Int) (y8.length:Int)) (@SH (@List (@Kd.T kdT72)) R (List.set y8 (x1.length:Int).toNat (1,(((x0.getD (Int.toNat 0) kdT156.zero).2).1,(((((x0.getD (Int.toNat 0) kdT156.zero).2).2).2).1,(((((x0.getD (Int.toNat 0) kdT156.zero).2).2).2).2,([],[])))))) (fun y14=>K y7 y14 (x1.length:Int))) none)) (cond ((x0.getD (Int.toNat 0) kdT156.zero).1 == 1) (wqk R x0 (x1++[(0,(((x0.getD (Int.toNat 0) kdT156.zero).2).1,([],(false,([],[])))))]) (x1.length:Int) (((x0.getD (Int.toNat 0) kdT156.zero).2).2).1 x2 (fun y7 y8=>K y7 y8 (x1.length:Int)) E) (wqh R x0 (x1++[(0,(((x0.getD (Int.toNat 0) kdT156.zero).2).1,([],(false,([],[])))))]) (x1.length:Int) (((x0.getD (Int.toNat 0) kdT156.zero).2).2).1 x2 (fun y7 y8=>K y7 y8 (x1.length:Int)) E))) none)))) none
theorem wquy(k:Nat)(wqg:wq1u)(wqk:wq23)(wqh:wq1v)(wqd:wq1w)(R:Type): h_doc_parser_block.at (wqka k wqg wqk wqh wqd) k Tryz.f103 R=@wqkb k wqg wqk wqh wqd R:=by kernel_rfl
def u_doc_parser_list_1001:Cu:=⟨1,[0,1,2,3,8],[.o 1 155 0 [.s kdT156,.w 21 73 kdT72],.r 1 0,.a kI,.a kI,.a kI,.w 100008 3 kI]⟩
def wqd0(k:Nat)(wqg:wq1u)(wqk:wq23)(wqh:wq1v)(wqd:wq1w): Cxt:=⟨[wqgq k,wqmj k,h_doc_parser_under.e 198 wqd],[1],[(1001,u_doc_parser_list_1001.spec)],[(3,(.of [(0,1),(1,1),(2,1),(3,1),(5,1),(6,1),(7,1),(8,1),(9,1),(11,1),(12,1),(4,1),(10,1),(13,1),(14,1),(15,0),(16,1),(17,1),(18,0)] .done))]⟩
def wqge(k:Nat)(wqg:wq1u)(wqk:wq23)(wqh:wq1v)(wqd:wq1w){R:Type}(E1001:((List dT156)→(List dT72)→Int→Int→Int→(List Int)→Option R))(s0:(List dT156))(s1:(List dT72))(s2 s3 s4:Int)(s5:(List Int))(K:((List dT156)→(List dT72)→Option R))(E:((List dT156)→(List dT72)→Int→Int→Option R)): Option R:=wqcz k s0 s1 1 s3 (fun y11 y12 y13=>cond y13 (wqav k y11 y12 (fun y14 y15 y16 y17 y18 y19 y20=>wqd R y14 y15 y16 y17 y18 y19 y20 s4 (fun y21 y22 y23=>cond (fits s5.length (@List.length (@Kd.T kI) [y23]) 8) (E1001 y21 y22 s2 s3 s4 (s5++[y23])) none) E)) (cond (inb s2 (y12.length:Int)) (@SH (@List (@Kd.T kdT72)) R (List.set y12 s2.toNat (2,(((y12.getD s2.toNat kdT72.zero).2).1,((((y12.getD s2.toNat kdT72.zero).2).2).1,(((((y12.getD s2.toNat kdT72.zero).2).2).2).1,((((((y12.getD s2.toNat kdT72.zero).2).2).2).2).1,(((((y12.getD s2.toNat kdT72.zero).2).2).2).2).2)))))) (fun y14=>cond (inb s2 (y14.length:Int)) (@SH (@List (@Kd.T kdT72)) R (List.set y14 s2.toNat ((y14.getD s2.toNat kdT72.zero).1,(((y14.getD s2.toNat kdT72.zero).2).1,((((y14.getD s2.toNat kdT72.zero).2).2).1,(((((y14.getD s2.toNat kdT72.zero).2).2).2).1,((((((y14.getD s2.toNat kdT72.zero).2).2).2).2).1,s5)))))) (fun y15=>K y11 y15)) none)) none))
def wqgr(k:Nat)(wqg:wq1u)(wqk:wq23)(wqh:wq1v)(wqd:wq1w){R:Type}(E1001:((List dT156)→(List dT72)→Int→Int→Int→(List Int)→Option R))(x0:(List dT156))(x1:(List dT72))(x2 x3 x4:Int)(K:((List dT156)→(List dT72)→Option R))(E:((List dT156)→(List dT72)→Int→Int→Option R)): Option R:=E1001 x0 x1 x2 x3 x4 []
def wq9a(k:Nat)(wqg:wq1u)(wqk:wq23)(wqh:wq1v)(wqd:wq1w){R:Type}: Nat→(List dT156)→(List dT72)→Int→Int→Int→(List Int)→((List dT156)→(List dT72)→Option R)→((List dT156)→(List dT72)→Int→Int→Option R)→Option R
 |0,_,_,_,_,_,_,_,_=>none
 |n+1,s0,s1,s2,s3,s4,s5,K,E=>wqge k wqg wqk wqh wqd (fun s0 s1 s2 s3 s4 s5=>wq9a k wqg wqk wqh wqd n s0 s1 s2 s3 s4 s5 K E) s0 s1 s2 s3 s4 s5 K E
theorem wqkc(k:Nat)(wqg:wq1u)(wqk:wq23)(wqh:wq1v)(wqd:wq1w){R:Type}: ∀(I:Nat→St→Option R) (n:Nat),h_doc_parser_list.lp u_doc_parser_list_1001 (wqd0 k wqg wqk wqh wqd).cx k Tryz.f152 1001 [1,0,0] I n=wq9a k wqg wqk wqh wqd n:=h_doc_parser_list.lok u_doc_parser_list_1001 (B:=wqge k wqg wqk wqh wqd) (L:=wq9a k wqg wqk wqh wqd) (fun I=>by kernel_rfl) (fun I=>by kernel_rfl) (fun n=>by kernel_rfl) (fun _ _ _ _=>rfl)
theorem wqxm(k:Nat)(wqg:wq1u)(wqk:wq23)(wqh:wq1v)(wqd:wq1w)(R:Type): h_doc_parser_list.at (wqd0 k wqg wqk wqh wqd) k Tryz.f152 R=h_doc_parser_list.glue (l:=h_doc_parser_list.ps) (u:=u_doc_parser_list_1001.fs) (fun E1001=>@wqgr k wqg wqk wqh wqd R E1001) (h_doc_parser_list.lp u_doc_parser_list_1001 (wqd0 k wqg wqk wqh wqd).cx k Tryz.f152 1001 [1,0,0] (fun _ _=>none) k):=by kernel_rfl
def u_doc_parser_pairs_1002:Cu:=⟨1,[0,1,2,3,8,9],[.o 1 155 0 [.s kdT156,.w 21 73 kdT72],.r 1 0,.a kI,.a kI,.a kI,.w 100008 9 .str,.w 100009 3 kI]⟩
def wqc2(k:Nat)(wqg:wq1u)(wqk:wq23)(wqh:wq1v)(wqd:wq1w): Cxt:=⟨[wqux k,wq9n k,wqgq k,wqmj k,h_doc_parser_under.e 198 wqd],[1],[(1002,u_doc_parser_pairs_1002.spec)],[]⟩
def wqex(k:Nat)(wqg:wq1u)(wqk:wq23)(wqh:wq1v)(wqd:wq1w){R:Type}(E1002:((List dT156)→(List dT72)→Int→Int→Int→(List (List UInt8))→(List Int)→Option R))(s0:(List dT156))(s1:(List dT72))(s2 s3 s4:Int)(s5:(List (List UInt8)))(s6:(List Int))(K:((List dT156)→(List dT72)→Option R))(E:((List dT156)→(List dT72)→Int→Int→Option R)): Option R:=wqcz k s0 s1 2 s3 (fun y12 y13 y14=>cond y14 (wqav k y12 y13 (fun y15 y16 y17 y18 y19 y20 y21=>wq39 k s5 y20 (fun y22=>cond y22 (wqb0 k 7 y18 (fun y23 y24=>E y15 y16 y23 y24)) (cond (fits s5.length (@List.length (@Kd.T Kd.str) [y20]) 16) (wqd R y15 y16 y17 y18 y19 y20 y21 s4 (fun y23 y24 y25=>cond (fits s6.length (@List.length (@Kd.T kI) [y25]) 8) (E1002 y23 y24 s2 s3 s4 (s5++[y20]) (s6++[y25])) none) E) none)))) (cond (inb s2 (y13.length:Int)) (@SH (@List (@Kd.T kdT72)) R (List.set y13 s2.toNat (3,(((y13.getD s2.toNat kdT72.zero).2).1,((((y13.getD s2.toNat kdT72.zero).2).2).1,(((((y13.getD s2.toNat kdT72.zero).2).2).2).1,((((((y13.getD s2.toNat kdT72.zero).2).2).2).2).1,(((((y13.getD s2.toNat kdT72.zero).2).2).2).2).2)))))) (fun y15=>@SH (@List (@Kd.T kdT72)) R (List.set y15 s2.toNat ((y15.getD s2.toNat kdT72.zero).1,(((y15.getD s2.toNat kdT72.zero).2).1,((((y15.getD s2.toNat kdT72.zero).2).2).1,(((((y15.getD s2.toNat kdT72.zero).2).2).2).1,(s5,(((((y15.getD s2.toNat kdT72.zero).2).2).2).2).2)))))) (fun y16=>@SH (@List (@Kd.T kdT72)) R (List.set y16 s2.toNat ((y16.getD s2.toNat kdT72.zero).1,(((y16.getD s2.toNat kdT72.zero).2).1,((((y16.getD s2.toNat kdT72.zero).2).2).1,(((((y16.getD s2.toNat kdT72.zero).2).2).2).1,((((((y16.getD s2.toNat kdT72.zero).2).2).2).2).1,s6)))))) (fun y17=>K y12 y17)))) none))
def wqfh(k:Nat)(wqg:wq1u)(wqk:wq23)(wqh:wq1v)(wqd:wq1w){R:Type}(E1002:((List dT156)→(List dT72)→Int→Int→Int→(List (List UInt8))→(List Int)→Option R))(x0:(List dT156))(x1:(List dT72))(x2 x3 x4:Int)(K:((List dT156)→(List dT72)→Option R))(E:((List dT156)→(List dT72)→Int→Int→Option R)): Option R:=E1002 x0 x1 x2 x3 x4 [] []
def wq8n(k:Nat)(wqg:wq1u)(wqk:wq23)(wqh:wq1v)(wqd:wq1w){R:Type}: Nat→(List dT156)→(List dT72)→Int→Int→Int→(List (List UInt8))→(List Int)→((List dT156)→(List dT72)→Option R)→((List dT156)→(List dT72)→Int→Int→Option R)→Option R
 |0,_,_,_,_,_,_,_,_,_=>none
 |n+1,s0,s1,s2,s3,s4,s5,s6,K,E=>wqex k wqg wqk wqh wqd (fun s0 s1 s2 s3 s4 s5 s6=>wq8n k wqg wqk wqh wqd n s0 s1 s2 s3 s4 s5 s6 K E) s0 s1 s2 s3 s4 s5 s6 K E
theorem wqjq(k:Nat)(wqg:wq1u)(wqk:wq23)(wqh:wq1v)(wqd:wq1w){R:Type}: ∀(I:Nat→St→Option R) (n:Nat),h_doc_parser_pairs.lp u_doc_parser_pairs_1002 (wqc2 k wqg wqk wqh wqd).cx k Tryz.f153 1002 [1,1,0,0] I n=wq8n k wqg wqk wqh wqd n:=h_doc_parser_pairs.lok u_doc_parser_pairs_1002 (B:=wqex k wqg wqk wqh wqd) (L:=wq8n k wqg wqk wqh wqd) (fun I=>by kernel_rfl) (fun I=>by kernel_rfl) (fun n=>by kernel_rfl) (fun _ _ _ _=>rfl)
theorem wquz(k:Nat)(wqg:wq1u)(wqk:wq23)(wqh:wq1v)(wqd:wq1w)(R:Type): h_doc_parser_pairs.at (wqc2 k wqg wqk wqh wqd) k Tryz.f153 R=h_doc_parser_pairs.glue (l:=h_doc_parser_pairs.ps) (u:=u_doc_parser_pairs_1002.fs) (fun E1002=>@wqfh k wqg wqk wqh wqd R E1002) (h_doc_parser_pairs.lp u_doc_parser_pairs_1002 (wqc2 k wqg wqk wqh wqd).cx k Tryz.f153 1002 [1,1,0,0] (fun _ _=>none) k):=by kernel_rfl
def wqkd(k:Nat)(wqg:wq1u)(wqk:wq23)(wqh:wq1v)(wqd:wq1w): Cxt:=⟨[wqux k,h_doc_parser_block.e 103 wqg],[1],[],[(1,(.of [(0,1),(1,1),(2,1),(3,1),(4,1),(5,1),(6,1),(7,1),(8,1),(9,1),(14,1),(10,1),(11,1),(12,1),(13,1),(15,1),(16,1),(17,1)] .done))]⟩
def wqke(k:Nat)(wqg:wq1u)(wqk:wq23)(wqh:wq1v)(wqd:wq1w){R:Type}(x0:(List dT156))(x1:(List dT72))(x2 x3 x4:Int)(x5:(List UInt8))(x6:Bool)(x7:Int)(K:((List dT156)→(List dT72)→Int→Option R))(E:((List dT156)→(List dT72)→Int→Int→Option R)): Option R:=cond ((!(((x0.length:Int) == 0) == false)) || (inb 0 (x0.length:Int))) (cond (cond ((x0.length:Int) == 0) true (decide ((((x0.getD (Int.toNat 0) kdT156.zero).2).2).1≤x4))) (wqb0 k 10 x3 (fun y12 y13=>E x0 x1 y12 y13)) (wqg R x0 x1 (@Go.IntKind.wrap Go.IntKind.i64 (x7+1)) K E)) none
theorem wqv0(k:Nat)(wqg:wq1u)(wqk:wq23)(wqh:wq1v)(wqd:wq1w)(R:Type): h_doc_parser_under.at (wqkd k wqg wqk wqh wqd) k Tryz.f198 R=@wqke k wqg wqk wqh wqd R:=by kernel_rfl
mutual
def wq1n:Nat→wq1u
 |0,_,_,_,_,_,_=>none
 |k+1,R,x0,x1,x2,K,E=>wqkb k (wq1n k) (FR_doc_parser_list k) (FR_doc_parser_pairs k) (FR_doc_parser_under k) x0 x1 x2 K E
def FR_doc_parser_list:Nat→wq23
 |0,_,_,_,_,_,_,_,_=>none
 |k+1,R,x0,x1,x2,x3,x4,K,E=>wqgr k (wq1n k) (FR_doc_parser_list k) (FR_doc_parser_pairs k) (FR_doc_parser_under k) (fun s0 s1 s2 s3 s4 s5=>wq9a k (wq1n k) (FR_doc_parser_list k) (FR_doc_parser_pairs k) (FR_doc_parser_under k) k s0 s1 s2 s3 s4 s5 K E) x0 x1 x2 x3 x4 K E
def FR_doc_parser_pairs:Nat→wq1v
 |0,_,_,_,_,_,_,_,_=>none
 |k+1,R,x0,x1,x2,x3,x4,K,E=>wqfh k (wq1n k) (FR_doc_parser_list k) (FR_doc_parser_pairs k) (FR_doc_parser_under k) (fun s0 s1 s2 s3 s4 s5 s6=>wq8n k (wq1n k) (FR_doc_parser_list k) (FR_doc_parser_pairs k) (FR_doc_parser_under k) k s0 s1 s2 s3 s4 s5 s6 K E) x0 x1 x2 x3 x4 K E
def FR_doc_parser_under:Nat→wq1w
 |0,_,_,_,_,_,_,_,_,_,_,_=>none
 |k+1,R,x0,x1,x2,x3,x4,x5,x6,x7,K,E=>wqke k (wq1n k) (FR_doc_parser_list k) (FR_doc_parser_pairs k) (FR_doc_parser_under k) x0 x1 x2 x3 x4 x5 x6 x7 K E
end
def wqfi(k:Nat){R:Type}(x0:(List dT156))(x1:(List dT72))(x2:Int)(K:((List dT156)→(List dT72)→Int→Option R))(E:((List dT156)→(List dT72)→Int→Int→Option R)): Option R:=wq1n k R x0 x1 x2 K E
theorem wqst(k:Nat): DOK Tryz.prog 103 (h_doc_parser_block.run (wq1n k))∧DOK Tryz.prog 152 (h_doc_parser_list.run (FR_doc_parser_list k))∧DOK Tryz.prog 153 (h_doc_parser_pairs.run (FR_doc_parser_pairs k))∧DOK Tryz.prog 198 (h_doc_parser_under.run (FR_doc_parser_under k)):=by
 induction k with
 |zero=>exact⟨h_doc_parser_block.ok0 fun R=>by kernel_rfl,h_doc_parser_list.ok0 fun R=>by kernel_rfl,h_doc_parser_pairs.ok0 fun R=>by kernel_rfl,h_doc_parser_under.ok0 fun R=>by kernel_rfl⟩
 |succ k ih =>
  obtain⟨ih_doc_parser_block,ih_doc_parser_list,ih_doc_parser_pairs,ih_doc_parser_under⟩:=ih
  exact⟨dok h_doc_parser_block (wqka k (wq1n k) (FR_doc_parser_list k) (FR_doc_parser_pairs k) (FR_doc_parser_under k)) Tryz.f103 k (ok1 (wqow k) (ok1 (wqgp k) (ok1 ih_doc_parser_list (ok1 ih_doc_parser_pairs ok0)))) (by kernel_rfl) (by kernel_rfl) fun R=>wquy k (wq1n k) (FR_doc_parser_list k) (FR_doc_parser_pairs k) (FR_doc_parser_under k) R,dok h_doc_parser_list (wqd0 k (wq1n k) (FR_doc_parser_list k) (FR_doc_parser_pairs k) (FR_doc_parser_under k)) Tryz.f152 k (ok1 (wqgp k) (ok1 (wqmi k) (ok1 ih_doc_parser_under ok0))) (by kernel_rfl) (by kernel_rfl) fun R=>h_doc_parser_list.f1 u_doc_parser_list_1001 (wqgr k (wq1n k) (FR_doc_parser_list k) (FR_doc_parser_pairs k) (FR_doc_parser_under k)) (wqxm k (wq1n k) (FR_doc_parser_list k) (FR_doc_parser_pairs k) (FR_doc_parser_under k) R) (wqkc k (wq1n k) (FR_doc_parser_list k) (FR_doc_parser_pairs k) (FR_doc_parser_under k) (fun _ _=>none) k) (by kernel_rfl),dok h_doc_parser_pairs (wqc2 k (wq1n k) (FR_doc_parser_list k) (FR_doc_parser_pairs k) (FR_doc_parser_under k)) Tryz.f153 k (ok1 (wqow k) (ok1 (wq9m k) (ok1 (wqgp k) (ok1 (wqmi k) (ok1 ih_doc_parser_under ok0))))) (by kernel_rfl) (by kernel_rfl) fun R=>h_doc_parser_pairs.f1 u_doc_parser_pairs_1002 (wqfh k (wq1n k) (FR_doc_parser_list k) (FR_doc_parser_pairs k) (FR_doc_parser_under k)) (wquz k (wq1n k) (FR_doc_parser_list k) (FR_doc_parser_pairs k) (FR_doc_parser_under k) R) (wqjq k (wq1n k) (FR_doc_parser_list k) (FR_doc_parser_pairs k) (FR_doc_parser_under k) (fun _ _=>none) k) (by kernel_rfl),dok h_doc_parser_under (wqkd k (wq1n k) (FR_doc_parser_list k) (FR_doc_parser_pairs k) (FR_doc_parser_under k)) Tryz.f198 k (ok1 (wqow k) (ok1 ih_doc_parser_block ok0)) (by kernel_rfl) (by kernel_rfl) fun R=>wqv0 k (wq1n k) (FR_doc_parser_list k) (FR_doc_parser_pairs k) (FR_doc_parser_under k) R⟩
theorem wqv1(k:Nat): DOK Tryz.prog 103 (h_doc_parser_block.run (@wqfi k)):=(wqst k).1
end Go.Proofs.YtabkhphoacmcdaaGreatDoor.Pvm
namespace Go.Proofs.YtabkhphoacmcdaaGreatDoor.Pvm
open Go Go.Proofs
def wq1go:List LS:=[.sl (.pr (.int .i64) (.pr (.int .i64) (.pr (.int .i64) (.pr .str .bool))))]
def wq1gp(k:Nat): CTab:=(CTab.add 102 h_doc_gives.sig (h_doc_gives.run (@wqb0 k)) (CTab.add 103 h_doc_parser_block.sig (h_doc_parser_block.run (@wqfi k)) CTab.nil))
def wqv2{R:Type}(K:((List dT72)→Int→Int→Option R)): Out→Option R
 |.ret [.agg [.v (.sl (.pr (.int .i64) (.pr (.int .i64) (.pr .str (.pr .bool (.pr (.sl .str) (.sl (.int .i64)))))))) y0],.agg [.v (.int .i64) y1,.v (.int .i64) y2]] []=>K y0 y1 y2
 |_=>none
def wq1cf:RetSpec:=⟨[.ag [.sl (.pr (.int .i64) (.pr (.int .i64) (.pr .str (.pr .bool (.pr (.sl .str) (.sl (.int .i64)))))))],.ag [.any,.any]],[],[]⟩
def wq1e0:List (Nat×CutSpec):=[]
def wq1a9:List (Nat×Plan):=[]
def wq147(k:Nat): Ctx:=⟨tyT,wq1e0,wq1gp k,[2,3],[],wq1a9,@SH⟩
def wqc3:Code:=Tryz.f59.body.getD .skip
def wqox(k:Nat){R:Type}: PV→List PV→List (Nm×HObj)→(Out→Option R)→Option R
 |.nilif,[.ptr 1 0,.ptr 2 0],[(1,.var 38 [.v (.sl (.pr (.int .i64) (.pr (.int .i64) (.pr .str (.pr .bool (.pr (.sl .str) (.sl (.int .i64)))))))) x0]),(2,.var 29 [.v (.int .i64) x1,.v (.int .i64) x2])],K=>wqlf k x0 x1 x2 (fun y0 y1 y2=>K (.ret [] [(1,.var 38 [.v (.sl (.pr (.int .i64) (.pr (.int .i64) (.pr .str (.pr .bool (.pr (.sl .str) (.sl (.int .i64)))))))) y0]),(2,.var 29 [.v (.int .i64) y1,.v (.int .i64) y2])]))
 |.ifc 29 (.agg [.v (.int .i64) x3,.v (.int .i64) x4]),[.ptr 1 0,.ptr 2 0],[(1,.var 38 [.v (.sl (.pr (.int .i64) (.pr (.int .i64) (.pr .str (.pr .bool (.pr (.sl .str) (.sl (.int .i64)))))))) x0]),(2,.var 29 [.v (.int .i64) x1,.v (.int .i64) x2])],K=>wqfg k x0 x1 x2 x3 x4 (fun y0 y1 y2=>K (.ret [] [(1,.var 38 [.v (.sl (.pr (.int .i64) (.pr (.int .i64) (.pr .str (.pr .bool (.pr (.sl .str) (.sl (.int .i64)))))))) y0]),(2,.var 29 [.v (.int .i64) y1,.v (.int .i64) y2])]))
 |_,_,_,_=>none
def wq1gq(k:Nat){R:Type}(x0:(List dT156))(K:((List dT72)→Int→Int→Option R)): Option R:=cond ((x0.length:Int) == 0) (wqb0 k 10 1 (fun y4 y5=>wqfg k [] 0 0 y4 y5 K)) (wqfi k x0 [] 1 (fun y4 y5 y6=>cond (decide ((y4.length:Int)>0)) (cond (inb 0 (y4.length:Int)) (wqb0 k 6 ((y4.getD (Int.toNat 0) kdT156.zero).2).1 (fun y7 y8=>wqfg k [] 0 0 y7 y8 K)) none) (wqlf k y5 0 0 K)) (fun y4 y5 y6 y7=>wqfg k [] 0 0 y6 y7 K))
theorem wq1e1(k:Nat){R:Type}(I:Nat→St→Option R)(x0:(List dT156))(K:((List dT72)→Int→Int→Option R)): fnDK (wq147 k) k [300,400] [at_ [0] wqc3] (opsAt (at_ [1,0] wqc3)) (at_ [1,1] wqc3) 34 [.cell 2 38,.cell 3 29] wq1cf (wqox k) wqzz [(300,0),(400,0)] [.v (.sl (.pr (.int .i64) (.pr (.int .i64) (.pr (.int .i64) (.pr .str .bool))))) x0] [] (wqv2 K)=wq1gq k x0 K:=by kernel_rfl
def wq1aa(k:Nat){R:Type}(x0:(List dT156))(K:((List dT72)→Int→Int→Option R)): Option R:=wq1gq k x0 K
theorem wq1e2(k:Nat){R:Type}(x0:(List dT156))(K:((List dT72)→Int→Int→Option R)): fnDK (wq147 k) k [300,400] [at_ [0] wqc3] (opsAt (at_ [1,0] wqc3)) (at_ [1,1] wqc3) 34 [.cell 2 38,.cell 3 29] wq1cf (wqox k) wqzz [(300,0),(400,0)] [.v (.sl (.pr (.int .i64) (.pr (.int .i64) (.pr (.int .i64) (.pr .str .bool))))) x0] [] (wqv2 K)=wq1aa k x0 K:=by
 exact wq1e1 k (fun _ _=>none) x0 K
def wq106(k:Nat){R:Type}: List PV→List (Nm×HObj)→(Out→Option R)→Option R
 |[.v (.sl (.pr (.int .i64) (.pr (.int .i64) (.pr (.int .i64) (.pr .str .bool))))) x0],[],K=>wq1aa k x0 (fun y0 y1 y2=>K (.ret [.agg [.v (.sl (.pr (.int .i64) (.pr (.int .i64) (.pr .str (.pr .bool (.pr (.sl .str) (.sl (.int .i64)))))))) y0],.agg [.v (.int .i64) y1,.v (.int .i64) y2]] []))
 |_,_,_=>none
theorem wq1e3(k:Nat): (wq1gp k).Ok Tryz.prog:=(wq12e (wqow k) (wq12e (wqv1 k) CTab.nil_ok))
theorem wq148(k:Nat){R:Type}(rec:PV)(ps:List PV)(hp:List (Nm×HObj))(K:Out→Option R)(r:R)(h:wqox k rec ps hp K=some r): DoesToD Tryz.prog 101 rec ps hp fun out=>K out=some r:=by
 unfold wqox at h
 split at h
 ·exact wq16u k h
 ·exact wq16v k h
 ·cases h
theorem wq1kk(k:Nat){ps:List PV}{hp:List (Nm×HObj)}{R:Type}{K:Out→Option R}{r:R}(h:wq106 k ps hp K=some r): DoesTo Tryz.prog 59 ps hp fun out=>K out=some r:=by
 unfold wq106 at h
 split at h
 ·rw[←wq1e2]at h
  have:=wq1g0 (P:=Tryz.prog) (cx:=wq147 k) (f:=59) ⟨tyT_ok,wq1e3 k,fun _ _=>rfl⟩ (by kernel_rfl) (fn:=Tryz.f59) (id:=1) (pre:=[at_ [0] wqc3]) (rest:=at_ [1,1] wqc3) (ops:=opsAt (at_ [1,0] wqc3)) (by kernel_rfl) (by kernel_rfl) (by kernel_rfl) (rs:=[.cell 2 38,.cell 3 29]) (by kernel_rfl) (by kernel_rfl) (by kernel_rfl) (g:=101) (s:=5) (xs:=[.tmp 2,.tmp 3]) (by kernel_rfl) (Invokes.of (fn:=Tryz.f101) (by kernel_rfl) (c:=Tryz.f101.body.getD .skip) (by kernel_rfl) (by kernel_rfl)) (wq148 k) h
  exact this.mono fun out ho=>by
   unfold wqv2 at ho
   split at ho<;>first|exact ho|cases ho
 ·cases h
def h_lex_All:Sh:=⟨[.s kdT150],some ([],[.s kdT156,.g [.a kI,.a kI]]),none⟩
def u_lex_All_1003:Cu:=⟨0,[3,4,9,10,11],[.o 13 29 0 [.a kI,.a kI],.w 100004 157 kdT156,.s kdT150,.a kI,.a kI]⟩
def wq1cg(k:Nat): Cxt:=⟨[⟨100,wq12o,wqoq k⟩],[],[(1003,u_lex_All_1003.spec)],[(7,(.of [(1,1),(0,1),(2,0)] .done))]⟩
def wqsu(k:Nat){R:Type}(E1003:(Int→Int→(List dT156)→(List dT150)→Int→Int→Option R))(s0 s1:Int)(s2:(List dT156))(s3:(List dT150))(s4 s5:Int)(K:((List dT156)→Int→Int→Option R)): Option R:=cond (decide (s5<s4)) (cond (inb s5 (s3.length:Int)) (wqop k (s3.getD s5.toNat kdT150.zero).1 ((s3.getD s5.toNat kdT150.zero).2).1 ((s3.getD s5.toNat kdT150.zero).2).2 (fun y10 y11 y12=>cond (y11 != 0) (K [] y11 y12) (cond (fits s2.length y10.length 48) (E1003 s0 s1 (s2++y10) s3 s4 (@Go.IntKind.wrap Go.IntKind.i64 (s5+1))) none))) none) (K s2 0 0)
def wq1ch(k:Nat){R:Type}(E1003:(Int→Int→(List dT156)→(List dT150)→Int→Int→Option R))(x0:(List dT150))(K:((List dT156)→Int→Int→Option R)): Option R:=E1003 0 0 [] x0 (x0.length:Int) 0
def wqhc(k:Nat){R:Type}: Nat→Int→Int→(List dT156)→(List dT150)→Int→Int→((List dT156)→Int→Int→Option R)→Option R
 |0,_,_,_,_,_,_,_=>none
 |n+1,s0,s1,s2,s3,s4,s5,K=>wqsu k (fun s0 s1 s2 s3 s4 s5=>wqhc k n s0 s1 s2 s3 s4 s5 K) s0 s1 s2 s3 s4 s5 K
theorem wqxn(k:Nat){R:Type}: ∀(I:Nat→St→Option R) (n:Nat),h_lex_All.lp u_lex_All_1003 (wq1cg k).cx k Tryz.f58 1003 [1,1,0,1,0] I n=wqhc k n:=h_lex_All.lok u_lex_All_1003 (B:=wqsu k) (L:=wqhc k) (fun I=>by kernel_rfl) (fun I=>by kernel_rfl) (fun n=>by kernel_rfl) (fun _ _ _ _=>rfl)
def wq149(k:Nat){R:Type}(x0:(List dT150))(K:((List dT156)→Int→Int→Option R)): Option R:=wq1ch k (fun s0 s1 s2 s3 s4 s5=>wqhc k k s0 s1 s2 s3 s4 s5 K) x0 K
theorem wq1ip(k:Nat): DOK Tryz.prog 58 (h_lex_All.run (@wq149 k)):=dok h_lex_All (wq1cg k) Tryz.f58 k (ok1 (fun _ _ _ _ _ h=>wq1ce k h) ok0) (by kernel_rfl) (by kernel_rfl) fun R=>h_lex_All.f1 u_lex_All_1003 (wq1ch k) (by kernel_rfl) (wqxn k (fun _ _=>none) k) (by kernel_rfl)
def wq1iq(k:Nat): Ent:=h_lex_All.e 58 (@wq149 k)
def cntB(s:List UInt8)(c:UInt8): Int:=Lib.countByte s c
def wq14a:List LS:=[.sl (.int .u8),.any]
def wq107(k:Nat){R:Type}(x0:List Int)(x1:Int)(K:Int→Option R): Option R:=K (cntB (wq62 x0) (UInt8.ofNat x1.toNat))
def wqlg(k:Nat){R:Type}: List PV→List (Nm×HObj)→(Out→Option R)→Option R
 |[.v (.sl (.int .u8)) x0,.v (.int .u8) x1],[],K=>wq107 k x0 x1 (fun y0=>K (.ret [.v (.int .i64) y0] []))
 |_,_,_=>none
theorem wq1ab(k:Nat){ps:List PV}{hp:List (Nm×HObj)}{R:Type}{K:Out→Option R}{r:R}(h:wqlg k ps hp K=some r): DoesTo Tryz.prog 220 ps hp fun out=>K out=some r:=by
 unfold wqlg at h
 split at h
 ·next x0 x1 =>
  intro G w vals hr obj dis
  obtain⟨v0,l0,rfl,h0,v1,l1,rfl,h1,rfl⟩:=hr
  have e1:v1 = .int .u8 x1:=by simpa [RV,RD]using h1
  subst e1
  have hb:=wq1g4 (P:=Tryz.prog) h0
  have hrun:(callFunc 220 #[v0,.int .u8 x1]).run Tryz.prog w = .ok (.value (.int .i64 (cntB (wq62 x0) (UInt8.ofNat x1.toNat)))) w:=by
   refine wq1c7 (fn:=Tryz.f220) (g:=Extern.BytealgCount.count) (by kernel_rfl) (by kernel_rfl) (by kernel_rfl) (by kernel_rfl) (by kernel_rfl) _ w ?_
   have hs:=Lib.run_countString (P:=Tryz.prog) ⟨(wq62 x0).toArray⟩ x1 w
   change Sem.run Tryz.prog (do
    let b ←Extern.Bytes.bytesOf v0
    let c' ←Extern.Bytes.asByte (.int .u8 x1)
    pure (goInt (b.foldl (fun n x=>if x == c' then n+1 else n) (0:Nat)))) w=_
   change Sem.run Tryz.prog (do
    let b ←Extern.Bytes.bytesOf (.string ⟨(wq62 x0).toArray⟩)
    let c' ←Extern.Bytes.asByte (.int .u8 x1)
    pure (goInt (b.foldl (fun n x=>if x == c' then n+1 else n) (0:Nat)))) w=_ at hs
   rw[Sem.run_bind]at hs ⊢
   rw[hb]
   exact hs
  show Does _ _ #[_,_] _ _
  unfold Does
  rw[hrun]
  exact⟨.ret [.v (.int .i64) _] [],h,G,⟨_,rfl,rfl⟩,wq13t⟩
 ·cases h
def h_bytes_Count:Sh:=⟨[.s (.int .u8),.k (.int .u8)],some ([],[.a kI]),none⟩
def wq16w(k:Nat): Cxt:=⟨[⟨220,wq14a,wqlg k⟩],[],[],[]⟩
def wq16x(k:Nat){R:Type}(x0:(List Int))(x1:Int)(K:(Int→Option R)): Option R:=wq107 k x0 (([x1]).getD (Int.toNat 0) (Kd.zero (@Kd.int Go.IntKind.u8))) K
def wqnu:=@wq16x
theorem wq16y(k:Nat): DOK Tryz.prog 183 (h_bytes_Count.run (@wqnu k)):=dok h_bytes_Count (wq16w k) Tryz.f183 k (ok1 (fun _ _ _ _ _ h=>wq1ab k h) ok0) (by kernel_rfl) (by kernel_rfl) fun R=>by kernel_rfl
def wq16z(k:Nat): Ent:=h_bytes_Count.e 183 (@wqnu k)
def wqv3:List LS:=[.sl (.int .u8),.any]
def wqnv(k:Nat){R:Type}(x0:List Int)(x1:Int)(K:Int→Option R): Option R:=K (wqi3 (wq62 x0) x1)
def wqfj(k:Nat){R:Type}: List PV→List (Nm×HObj)→(Out→Option R)→Option R
 |[.v (.sl (.int .u8)) x0,.v (.int .u8) x1],[],K=>wqnv k x0 x1 (fun y0=>K (.ret [.v (.int .i64) y0] []))
 |_,_,_=>none
theorem wq108(k:Nat){ps:List PV}{hp:List (Nm×HObj)}{R:Type}{K:Out→Option R}{r:R}(h:wqfj k ps hp K=some r): DoesTo Tryz.prog 250 ps hp fun out=>K out=some r:=by
 unfold wqfj at h
 split at h
 ·next x0 x1 =>
  intro G w vals hr obj dis
  obtain⟨v0,l0,rfl,h0,v1,l1,rfl,h1,rfl⟩:=hr
  have e1:v1 = .int .u8 x1:=by simpa [RV,RD]using h1
  subst e1
  have hb:=wq1g4 (P:=Tryz.prog) h0
  have hrun:(callFunc 250 #[v0,.int .u8 x1]).run Tryz.prog w = .ok (.value (.int .i64 (wqi3 (wq62 x0) x1))) w:=by
   refine wq1c7 (fn:=Tryz.f250) (g:=Extern.BytealgIndexByte.indexByte) (by kernel_rfl) (by kernel_rfl) (by kernel_rfl) (by kernel_rfl) (by kernel_rfl) _ w ?_
   have hs:=wq12i (P:=Tryz.prog) (wq62 x0) x1 w
   change Sem.run Tryz.prog (do
    let b ←Extern.Bytes.bytesOf v0
    let c ←Extern.Bytes.asByte (.int .u8 x1)
    match(List.range b.size).find? fun i=>b[i]! == c with
    |some i=>pure (goInt i)
    |none=>pure (goInt (-1))) w=_
   change Sem.run Tryz.prog (do
    let b ←Extern.Bytes.bytesOf (.string ⟨(wq62 x0).toArray⟩)
    let c ←Extern.Bytes.asByte (.int .u8 x1)
    match(List.range b.size).find? fun i=>b[i]! == c with
    |some i=>pure (goInt i)
    |none=>pure (goInt (-1))) w=_ at hs
   rw[Sem.run_bind]at hs ⊢
   rw[hb]
   exact hs
  show Does _ _ #[_,_] _ _
  unfold Does
  rw[hrun]
  exact⟨.ret [.v (.int .i64) _] [],h,G,⟨_,rfl,rfl⟩,wq13t⟩
 ·cases h
def h_bytes_IndexByte:Sh:=⟨[.s (.int .u8),.a (.int .u8)],some ([],[.a kI]),none⟩
abbrev wqfk:Type 1:=(R:Type)→(List Int)→Int→(Int→Option R)→Option R
def wqxo(k:Nat): Cxt:=⟨[⟨250,wqv3,wqfj k⟩],[],[],[]⟩
def wqxp(k:Nat){R:Type}(x0:(List Int))(x1:Int)(K:(Int→Option R)): Option R:=wqnv k x0 x1 K
def wqd1:=@wqxp
theorem wqxq(k:Nat): DOK Tryz.prog 221 (h_bytes_IndexByte.run (@wqd1 k)):=dok h_bytes_IndexByte (wqxo k) Tryz.f221 k (ok1 (fun _ _ _ _ _ h=>wq108 k h) ok0) (by kernel_rfl) (by kernel_rfl) fun R=>by kernel_rfl
def h_bytes_Index:Sh:=⟨[.s (.int .u8),.k (.int .u8)],some ([],[.a kI]),none⟩
def wqwa(k:Nat)(wq93:wqfk): Cxt:=⟨[h_bytes_IndexByte.e 221 wq93],[],[],[]⟩
def wqwb(k:Nat)(wq93:wqfk){R:Type}(x0:(List Int))(x1:Int)(K:(Int→Option R)): Option R:=wq93 R x0 (([x1]).getD (Int.toNat 0) (Kd.zero (@Kd.int Go.IntKind.u8))) K
theorem wq170(k:Nat)(wq93:wqfk)(R:Type): h_bytes_Index.at (wqwa k wq93) k Tryz.f184 R=@wqwb k wq93 R:=by kernel_rfl
def wqnw(k:Nat){R:Type}:= @wqwb k (@wqd1 k) R
theorem wq171(k:Nat): DOK Tryz.prog 184 (h_bytes_Index.run (@wqnw k)):=dok h_bytes_Index (wqwa k (@wqd1 k)) Tryz.f184 k (ok1 (wqxq k) ok0) (by kernel_rfl) (by kernel_rfl) fun R=>wq170 k (@wqd1 k) R
def wq172(k:Nat): Ent:=h_bytes_Index.e 184 (@wqnw k)
def h_bytes_genSplit:Sh:=⟨[.s (.int .u8),.k (.int .u8),.a kI,.a kI],some ([],[.s (.sl (.int .u8))]),none⟩
def u_bytes_genSplit_1011:Cu:=⟨0,[0,1,2,3,9,10],[.s (.int .u8),.k (.int .u8),.a kI,.a kI,.w 100009 22 (.sl (.int .u8)),.a kI]⟩
def wqnx(k:Nat): Cxt:=⟨[wq16z k,wq172 k],[],[(1011,u_bytes_genSplit_1011.spec)],[]⟩
def wqh0(k:Nat){R:Type}(E1011:((List Int)→Int→Int→Int→(List (List Int))→Int→Option R))(s0:(List Int))(s1 s2 s3:Int)(s4:(List (List Int)))(s5:Int)(K:((List (List Int))→Option R)): Option R:=cond (decide (s5<s3)) (wqnw k s0 s1 (fun y10=>cond (decide (y10<0)) (cond (inb s5 (s4.length:Int)) (cond (bnd 0 (@Go.IntKind.wrap Go.IntKind.i64 (s5+1)) ((List.set s4 s5.toNat s0).length:Int)) (K (cut (List.set s4 s5.toNat s0) 0 (@Go.IntKind.wrap Go.IntKind.i64 (s5+1)))) none) none) (cond ((bnd 0 (@Go.IntKind.wrap Go.IntKind.i64 (y10+s2)) (@Go.IntKind.wrap Go.IntKind.i64 (y10+s2)))&&(decide ((@Go.IntKind.wrap Go.IntKind.i64 (y10+s2))≤(s0.length:Int)))) (cond (inb s5 (s4.length:Int)) (cond (bnd (@Go.IntKind.wrap Go.IntKind.i64 (y10+(@List.length (@Kd.T (@Kd.int Go.IntKind.u8)) [s1]:Int))) (s0.length:Int) (s0.length:Int)) (E1011 (cut s0 (@Go.IntKind.wrap Go.IntKind.i64 (y10+(@List.length (@Kd.T (@Kd.int Go.IntKind.u8)) [s1]:Int))) (s0.length:Int)) s1 s2 s3 (List.set s4 s5.toNat (cut s0 0 (@Go.IntKind.wrap Go.IntKind.i64 (y10+s2)))) (@Go.IntKind.wrap Go.IntKind.i64 (s5+1))) none) none) none))) (cond (inb s5 (s4.length:Int)) (cond (bnd 0 (@Go.IntKind.wrap Go.IntKind.i64 (s5+1)) ((List.set s4 s5.toNat s0).length:Int)) (K (cut (List.set s4 s5.toNat s0) 0 (@Go.IntKind.wrap Go.IntKind.i64 (s5+1)))) none) none)
def wqny(k:Nat){R:Type}(E1011:((List Int)→Int→Int→Int→(List (List Int))→Int→Option R))(x0:(List Int))(x1 x2 x3:Int)(K:((List (List Int))→Option R)): Option R:=cond (x3 == 0) (K []) (cond (decide (x3<0)) (wqnu k x0 x1 (fun y8=>cond (mkB (cond false (@ite (@Kd.T kI) ((@Go.IntKind.wrap Go.IntKind.i64 ((x0.length:Int)+1))>(@Go.IntKind.wrap Go.IntKind.i64 (y8+1))) (@Int.decLt (@Go.IntKind.wrap Go.IntKind.i64 (y8+1)) (@Go.IntKind.wrap Go.IntKind.i64 ((x0.length:Int)+1))) (@Go.IntKind.wrap Go.IntKind.i64 ((x0.length:Int)+1)) (@Go.IntKind.wrap Go.IntKind.i64 (y8+1))) (@ite (@Kd.T kI) ((@Go.IntKind.wrap Go.IntKind.i64 ((x0.length:Int)+1))<(@Go.IntKind.wrap Go.IntKind.i64 (y8+1))) (@Int.decLt (@Go.IntKind.wrap Go.IntKind.i64 ((x0.length:Int)+1)) (@Go.IntKind.wrap Go.IntKind.i64 (y8+1))) (@Go.IntKind.wrap Go.IntKind.i64 ((x0.length:Int)+1)) (@Go.IntKind.wrap Go.IntKind.i64 (y8+1)))) (cond false (@ite (@Kd.T kI) ((@Go.IntKind.wrap Go.IntKind.i64 ((x0.length:Int)+1))>(@Go.IntKind.wrap Go.IntKind.i64 (y8+1))) (@Int.decLt (@Go.IntKind.wrap Go.IntKind.i64 (y8+1)) (@Go.IntKind.wrap Go.IntKind.i64 ((x0.length:Int)+1))) (@Go.IntKind.wrap Go.IntKind.i64 ((x0.length:Int)+1)) (@Go.IntKind.wrap Go.IntKind.i64 (y8+1))) (@ite (@Kd.T kI) ((@Go.IntKind.wrap Go.IntKind.i64 ((x0.length:Int)+1))<(@Go.IntKind.wrap Go.IntKind.i64 (y8+1))) (@Int.decLt (@Go.IntKind.wrap Go.IntKind.i64 ((x0.length:Int)+1)) (@Go.IntKind.wrap Go.IntKind.i64 (y8+1))) (@Go.IntKind.wrap Go.IntKind.i64 ((x0.length:Int)+1)) (@Go.IntKind.wrap Go.IntKind.i64 (y8+1)))) 24) (E1011 x0 x1 x2 (@Go.IntKind.wrap Go.IntKind.i64 ((cond false (@ite (@Kd.T kI) ((@Go.IntKind.wrap Go.IntKind.i64 ((x0.length:Int)+1))>(@Go.IntKind.wrap Go.IntKind.i64 (y8+1))) (@Int.decLt (@Go.IntKind.wrap Go.IntKind.i64 (y8+1)) (@Go.IntKind.wrap Go.IntKind.i64 ((x0.length:Int)+1))) (@Go.IntKind.wrap Go.IntKind.i64 ((x0.length:Int)+1)) (@Go.IntKind.wrap Go.IntKind.i64 (y8+1))) (@ite (@Kd.T kI) ((@Go.IntKind.wrap Go.IntKind.i64 ((x0.length:Int)+1))<(@Go.IntKind.wrap Go.IntKind.i64 (y8+1))) (@Int.decLt (@Go.IntKind.wrap Go.IntKind.i64 ((x0.length:Int)+1)) (@Go.IntKind.wrap Go.IntKind.i64 (y8+1))) (@Go.IntKind.wrap Go.IntKind.i64 ((x0.length:Int)+1)) (@Go.IntKind.wrap Go.IntKind.i64 (y8+1))))-1)) (zeros (@Kd.sl (@Kd.int Go.IntKind.u8)) (cond false (@ite (@Kd.T kI) ((@Go.IntKind.wrap Go.IntKind.i64 ((x0.length:Int)+1))>(@Go.IntKind.wrap Go.IntKind.i64 (y8+1))) (@Int.decLt (@Go.IntKind.wrap Go.IntKind.i64 (y8+1)) (@Go.IntKind.wrap Go.IntKind.i64 ((x0.length:Int)+1))) (@Go.IntKind.wrap Go.IntKind.i64 ((x0.length:Int)+1)) (@Go.IntKind.wrap Go.IntKind.i64 (y8+1))) (@ite (@Kd.T kI) ((@Go.IntKind.wrap Go.IntKind.i64 ((x0.length:Int)+1))<(@Go.IntKind.wrap Go.IntKind.i64 (y8+1))) (@Int.decLt (@Go.IntKind.wrap Go.IntKind.i64 ((x0.length:Int)+1)) (@Go.IntKind.wrap Go.IntKind.i64 (y8+1))) (@Go.IntKind.wrap Go.IntKind.i64 ((x0.length:Int)+1)) (@Go.IntKind.wrap Go.IntKind.i64 (y8+1))))) 0) none)) (cond (mkB (cond false (@ite (@Kd.T kI) ((@Go.IntKind.wrap Go.IntKind.i64 ((x0.length:Int)+1))>x3) (@Int.decLt x3 (@Go.IntKind.wrap Go.IntKind.i64 ((x0.length:Int)+1))) (@Go.IntKind.wrap Go.IntKind.i64 ((x0.length:Int)+1)) x3) (@ite (@Kd.T kI) ((@Go.IntKind.wrap Go.IntKind.i64 ((x0.length:Int)+1))<x3) (@Int.decLt (@Go.IntKind.wrap Go.IntKind.i64 ((x0.length:Int)+1)) x3) (@Go.IntKind.wrap Go.IntKind.i64 ((x0.length:Int)+1)) x3)) (cond false (@ite (@Kd.T kI) ((@Go.IntKind.wrap Go.IntKind.i64 ((x0.length:Int)+1))>x3) (@Int.decLt x3 (@Go.IntKind.wrap Go.IntKind.i64 ((x0.length:Int)+1))) (@Go.IntKind.wrap Go.IntKind.i64 ((x0.length:Int)+1)) x3) (@ite (@Kd.T kI) ((@Go.IntKind.wrap Go.IntKind.i64 ((x0.length:Int)+1))<x3) (@Int.decLt (@Go.IntKind.wrap Go.IntKind.i64 ((x0.length:Int)+1)) x3) (@Go.IntKind.wrap Go.IntKind.i64 ((x0.length:Int)+1)) x3)) 24) (E1011 x0 x1 x2 (@Go.IntKind.wrap Go.IntKind.i64 ((cond false (@ite (@Kd.T kI) ((@Go.IntKind.wrap Go.IntKind.i64 ((x0.length:Int)+1))>x3) (@Int.decLt x3 (@Go.IntKind.wrap Go.IntKind.i64 ((x0.length:Int)+1))) (@Go.IntKind.wrap Go.IntKind.i64 ((x0.length:Int)+1)) x3) (@ite (@Kd.T kI) ((@Go.IntKind.wrap Go.IntKind.i64 ((x0.length:Int)+1))<x3) (@Int.decLt (@Go.IntKind.wrap Go.IntKind.i64 ((x0.length:Int)+1)) x3) (@Go.IntKind.wrap Go.IntKind.i64 ((x0.length:Int)+1)) x3))-1)) (zeros (@Kd.sl (@Kd.int Go.IntKind.u8)) (cond false (@ite (@Kd.T kI) ((@Go.IntKind.wrap Go.IntKind.i64 ((x0.length:Int)+1))>x3) (@Int.decLt x3 (@Go.IntKind.wrap Go.IntKind.i64 ((x0.length:Int)+1))) (@Go.IntKind.wrap Go.IntKind.i64 ((x0.length:Int)+1)) x3) (@ite (@Kd.T kI) ((@Go.IntKind.wrap Go.IntKind.i64 ((x0.length:Int)+1))<x3) (@Int.decLt (@Go.IntKind.wrap Go.IntKind.i64 ((x0.length:Int)+1)) x3) (@Go.IntKind.wrap Go.IntKind.i64 ((x0.length:Int)+1)) x3))) 0) none))
def wq9r(k:Nat){R:Type}: Nat→(List Int)→Int→Int→Int→(List (List Int))→Int→((List (List Int))→Option R)→Option R
 |0,_,_,_,_,_,_,_=>none
 |n+1,s0,s1,s2,s3,s4,s5,K=>wqh0 k (fun s0 s1 s2 s3 s4 s5=>wq9r k n s0 s1 s2 s3 s4 s5 K) s0 s1 s2 s3 s4 s5 K
theorem wqlh(k:Nat){R:Type}: ∀(I:Nat→St→Option R) (n:Nat),h_bytes_genSplit.lp u_bytes_genSplit_1011 (wqnx k).cx k Tryz.f141 1011 [1,1,1,1,1,1,1,1,0,0] I n=wq9r k n:=h_bytes_genSplit.lok u_bytes_genSplit_1011 (B:=wqh0 k) (L:=wq9r k) (fun I=>by kernel_rfl) (fun I=>by kernel_rfl) (fun n=>by kernel_rfl) (fun _ _ _ _=>rfl)
def wqif(k:Nat){R:Type}(x0:(List Int))(x1 x2 x3:Int)(K:((List (List Int))→Option R)): Option R:=wqny k (fun s0 s1 s2 s3 s4 s5=>wq9r k k s0 s1 s2 s3 s4 s5 K) x0 x1 x2 x3 K
theorem wq109(k:Nat): DOK Tryz.prog 141 (h_bytes_genSplit.run (@wqif k)):=dok h_bytes_genSplit (wqnx k) Tryz.f141 k (ok1 (wq16y k) (ok1 (wq171 k) ok0)) (by kernel_rfl) (by kernel_rfl) fun R=>h_bytes_genSplit.f1 u_bytes_genSplit_1011 (wqny k) (by kernel_rfl) (wqlh k (fun _ _=>none) k) (by kernel_rfl)
def wq10a(k:Nat): Ent:=h_bytes_genSplit.e 141 (@wqif k)
def h_bytes_Split:Sh:=⟨[.s (.int .u8),.k (.int .u8)],some ([],[.s (.sl (.int .u8))]),none⟩
def wq173(k:Nat): Cxt:=⟨[wq10a k],[],[],[]⟩
def wq174(k:Nat){R:Type}(x0:(List Int))(x1:Int)(K:((List (List Int))→Option R)): Option R:=wqif k x0 x1 0 (@Neg.neg Int @Int.instNegInt (1:Int)) K
def wqnz:=@wq174
theorem wq175(k:Nat): DOK Tryz.prog 95 (h_bytes_Split.run (@wqnz k)):=dok h_bytes_Split (wq173 k) Tryz.f95 k (ok1 (wq109 k) ok0) (by kernel_rfl) (by kernel_rfl) fun R=>by kernel_rfl
def wq176(k:Nat): Ent:=h_bytes_Split.e 95 (@wqnz k)
def h_line_odd:Sh:=⟨[.a (.int .i32)],some ([],[.a .bool]),none⟩
def wq1gr(k:Nat): Cxt:=⟨[],[],[],[]⟩
def wq1gs(k:Nat){R:Type}(x0:Int)(K:(Bool→Option R)): Option R:=K (cond (cond (decide (x0≥0)) (decide (x0<32)) false) true (x0 == 127))
def wq177:=@wq1gs
theorem wq178(k:Nat): DOK Tryz.prog 97 (h_line_odd.run (@wq177 k)):=dok h_line_odd (wq1gr k) Tryz.f97 k ok0 (by kernel_rfl) (by kernel_rfl) fun R=>by kernel_rfl
def wq1gt(k:Nat): Ent:=h_line_odd.e 97 (@wq177 k)
end Go.Proofs.YtabkhphoacmcdaaGreatDoor.Pvm
namespace Go.Proofs
open Go.Shelf
def Tryz.laysLaysGwn15_ren:Go.Shelf.Ren:=⟨fun|15=>96|20=>142|n=>n,fun|9=>9|23=>146|3=>3|4=>4|0=>0|21=>21|n=>n,fun|n=>n⟩
theorem Tryz.laysLaysGwn15:Go.Proofs.LaysGw.n15 Tryz.prog Tryz.laysLaysGwn15_ren:={
 mixed:=by kernel_rfl
 f15:=Tryz.func96.trans (congrArg some (by kernel_rfl))
 f20:=Tryz.func142.trans (congrArg some (by kernel_rfl))
 t0:=Tryz.underlying0
 a0:=Tryz.isAgg0
 z0:=Tryz.sizeOf0
 v0:=Tryz.zeroValue0
 i0:=by kernel_rfl
 t3:=Tryz.underlying3
 a3:=Tryz.isAgg3
 z3:=Tryz.sizeOf3
 v3:=Tryz.zeroValue3
 i3:=by kernel_rfl
 t4:=Tryz.underlying4
 a4:=Tryz.isAgg4
 z4:=Tryz.sizeOf4
 v4:=Tryz.zeroValue4
 i4:=by kernel_rfl
 t9:=Tryz.underlying9
 a9:=Tryz.isAgg9
 z9:=Tryz.sizeOf9
 v9:=Tryz.zeroValue9
 i9:=by kernel_rfl
 t21:=Tryz.underlying21
 a21:=Tryz.isAgg21
 z21:=Tryz.sizeOf21
 v21:=Tryz.zeroValue21
 i21:=by kernel_rfl
 t23:=Tryz.underlying146
 a23:=Tryz.isAgg146
 z23:=Tryz.sizeOf146
 v23:=Tryz.zeroValue146
 i23:=by kernel_rfl }
end Go.Proofs
namespace Go.Proofs.YtabkhphoacmcdaaGreatDoor.Pvm
open Go Go.Proofs Go.RowKit Go.Shelf
def oddP(n:Nat): Bool:=cond (cond (decide ((n:Int)≥0)) (decide ((n:Int)<32)) false) true ((n:Int) == 127)
def idxOdd(s:List UInt8): Int:=Lib.idxFunc oddP true ⟨s.toArray⟩
def wqpe:List LS:=[.any,.clo []]
def wqj3(k:Nat){R:Type}(x0:List UInt8)(K:Int→Option R): Option R:=K (idxOdd x0)
def wqci(k:Nat){R:Type}: List PV→List (Nm×HObj)→(Out→Option R)→Option R
 |[.v .str x0,.clo 97 []],[],K=>wqj3 k x0 (fun y0=>K (.ret [.v (.int .i64) y0] []))
 |_,_,_=>none
theorem wq1ir(w:World): PredGrows Tryz.prog 97 #[] oddP w:=by
 intro W x hx hb
 exact wq1c4 (P:=Tryz.prog) (f:=97) (fn:=Tryz.f97) (c:=Tryz.f97.body.getD .skip) (by kernel_rfl) (by kernel_rfl) (by kernel_rfl) (ps:=[.v (.int .i32) (x:Int)]) (b:=oddP x)
  (wq178 0 _ _ _ lawK (oddP x) rfl) (vals:=[.int .i32 (x:Int)]) ⟨_,[],rfl,rfl,rfl⟩
theorem wqsv(k:Nat){ps:List PV}{hp:List (Nm×HObj)}{R:Type}{K:Out→Option R}{r:R}(h:wqci k ps hp K=some r): DoesTo Tryz.prog 96 ps hp fun out=>K out=some r:=by
 unfold wqci at h
 split at h
 ·next x0 =>
  intro G w vals hr obj dis
  obtain⟨v0,l0,rfl,h0,v1,l1,rfl,h1,rfl⟩:=hr
  have e0:v0 = .string ⟨x0.toArray⟩:=by simpa [RV,RD]using h0
  obtain⟨vs,e1,hvs⟩:=h1
  obtain rfl:vs=[]:=hvs
  subst e0 e1
  have c:=Any.strings_IndexFunc_grows Tryz.laysLaysGwn15 97 #[] (enters (P:=Tryz.prog) (fn:=Tryz.f97) (c:=Tryz.f97.body.getD .skip) (by kernel_rfl) (by kernel_rfl) (by kernel_rfl)) oddP ⟨x0.toArray⟩ w (wq1ir w)
  show Does _ _ #[_,_] _ _
  unfold Does
  rw[enters (P:=Tryz.prog) (fn:=Tryz.f96) (c:=Tryz.f96.body.getD .skip) (by kernel_rfl) (by kernel_rfl) (by kernel_rfl)]
  refine Calls.mono c fun e w' hh => ?_
  obtain⟨rfl,b⟩:=hh
  exact⟨.ret [.v (.int .i64) (idxOdd x0)] [],h,G,⟨_,rfl,rfl⟩,wq1c5 b⟩
 ·cases h
end Go.Proofs.YtabkhphoacmcdaaGreatDoor.Pvm
namespace Go.Proofs.YtabkhphoacmcdaaGreatDoor.Pvm
open Go Go.Proofs
def h_strings_trimLeftByte:Sh:=⟨[.a .str,.a (.int .u8)],some ([],[.a .str]),none⟩
def u_strings_trimLeftByte_1001:Cu:=⟨0,[0,1],[.a .str,.a (.int .u8)]⟩
def wqgf(k:Nat): Cxt:=⟨[],[],[(1001,u_strings_trimLeftByte_1001.spec)],[]⟩
def wqcb(k:Nat){R:Type}(E1001:((List UInt8)→Int→Option R))(s0:(List UInt8))(s1:Int)(K:((List UInt8)→Option R)): Option R:=cond ((!((decide ((s0.length:Int)>0)) == true)) || (inb 0 (s0.length:Int))) (cond (cond (decide ((s0.length:Int)>0)) (((s0.getD (Int.toNat 0) 0).toNat:Int) == s1) false) (cond (bnd 1 (s0.length:Int) (s0.length:Int)) (E1001 (cut s0 1 (s0.length:Int)) s1) none) (K s0)) none
def wqgg(k:Nat){R:Type}(E1001:((List UInt8)→Int→Option R))(x0:(List UInt8))(x1:Int)(K:((List UInt8)→Option R)): Option R:=E1001 x0 x1
def wq61(k:Nat){R:Type}: Nat→(List UInt8)→Int→((List UInt8)→Option R)→Option R
 |0,_,_,_=>none
 |n+1,s0,s1,K=>wqcb k (fun s0 s1=>wq61 k n s0 s1 K) s0 s1 K
theorem wqgs(k:Nat){R:Type}: ∀(I:Nat→St→Option R) (n:Nat),h_strings_trimLeftByte.lp u_strings_trimLeftByte_1001 (wqgf k).cx k Tryz.f143 1001 [1,0,0] I n=wq61 k n:=h_strings_trimLeftByte.lok u_strings_trimLeftByte_1001 (B:=wqcb k) (L:=wq61 k) (fun I=>by kernel_rfl) (fun I=>by kernel_rfl) (fun n=>by kernel_rfl) (fun _ _ _ _=>rfl)
def wqbm(k:Nat){R:Type}(x0:(List UInt8))(x1:Int)(K:((List UInt8)→Option R)): Option R:=wqgg k (fun s0 s1=>wq61 k k s0 s1 K) x0 x1 K
theorem wqo0(k:Nat): DOK Tryz.prog 143 (h_strings_trimLeftByte.run (@wqbm k)):=dok h_strings_trimLeftByte (wqgf k) Tryz.f143 k ok0 (by kernel_rfl) (by kernel_rfl) fun R=>h_strings_trimLeftByte.f1 u_strings_trimLeftByte_1001 (wqgg k) (by kernel_rfl) (wqgs k (fun _ _=>none) k) (by kernel_rfl)
def wqo1(k:Nat): Ent:=h_strings_trimLeftByte.e 143 (@wqbm k)
def h_strings_TrimLeft:Sh:=⟨[.a .str,.j],some ([],[.a .str]),none⟩
def wqv4(k:Nat): Cxt:=⟨[wqo1 k],[],[],[]⟩
def wqv5(k:Nat){R:Type}(x0:(List UInt8))(x1:UInt8)(K:((List UInt8)→Option R)): Option R:=cond (cond (x0 == []) true ([x1] == [])) (K x0) (cond (cond ((@List.length UInt8 [x1]:Int) == 1) (decide (((([x1]).getD (Int.toNat 0) 0).toNat:Int)<128)) false) (wqbm k x0 ((([x1]).getD (Int.toNat 0) 0).toNat:Int) K) none)
def wqfl:=@wqv5
theorem wqv6(k:Nat): DOK Tryz.prog 98 (h_strings_TrimLeft.run (@wqfl k)):=dok h_strings_TrimLeft (wqv4 k) Tryz.f98 k (ok1 (wqo0 k) ok0) (by kernel_rfl) (by kernel_rfl) fun R=>by kernel_rfl
def wqv7(k:Nat): Ent:=h_strings_TrimLeft.e 98 (@wqfl k)
def h_line_Lines:Sh:=⟨[.s (.int .u8)],some ([],[.s kdT150,.g [.a kI,.a kI]]),none⟩
def u_line_Lines_1005:Cu:=⟨0,[3,4,17,18,19],[.o 13 29 0 [.a kI,.a kI],.w 100004 151 kdT150,.s (.sl (.int .u8)),.a kI,.a kI]⟩
def wq10b(k:Nat): Cxt:=⟨[wq176 k,⟨96,wqpe,wqci k⟩,wq1gt k,wqv7 k,wqzp k],[],[(1005,u_line_Lines_1005.spec)],[]⟩
def wqmk(k:Nat){R:Type}(E1005:(Int→Int→(List dT150)→(List (List Int))→Int→Int→Option R))(s0 s1:Int)(s2:(List dT150))(s3:(List (List Int)))(s4 s5:Int)(K:((List dT150)→Int→Int→Option R)): Option R:=cond (decide (s5<s4)) (cond (inb s5 (s3.length:Int)) (wqj3 k (wq62 (s3.getD s5.toNat (Kd.zero (@Kd.sl (@Kd.int Go.IntKind.u8))))) (fun y10=>cond (decide (y10≥0)) (K [] 2 (@Go.IntKind.wrap Go.IntKind.i64 (s5+1))) (wqfl k (wq62 (s3.getD s5.toNat (Kd.zero (@Kd.sl (@Kd.int Go.IntKind.u8))))) 32 (fun y11=>wqfc k y11 (fun y12 y13=>cond (!y13) (K [] 3 (@Go.IntKind.wrap Go.IntKind.i64 (s5+1))) (cond (!(y12 == [])) (cond (fits s2.length (@List.length (@Kd.T kdT150) [((@Go.IntKind.wrap Go.IntKind.i64 (s5+1)),((@Go.IntKind.wrap Go.IntKind.i64 (((wq62 (s3.getD s5.toNat (Kd.zero (@Kd.sl (@Kd.int Go.IntKind.u8))))).length:Int)-(y11.length:Int))),y12))]) 32) (E1005 s0 s1 (s2++[((@Go.IntKind.wrap Go.IntKind.i64 (s5+1)),((@Go.IntKind.wrap Go.IntKind.i64 (((wq62 (s3.getD s5.toNat (Kd.zero (@Kd.sl (@Kd.int Go.IntKind.u8))))).length:Int)-(y11.length:Int))),y12))]) s3 s4 (@Go.IntKind.wrap Go.IntKind.i64 (s5+1))) none) (E1005 s0 s1 s2 s3 s4 (@Go.IntKind.wrap Go.IntKind.i64 (s5+1))))))))) none) (K s2 0 0)
def wq10c(k:Nat){R:Type}(E1005:(Int→Int→(List dT150)→(List (List Int))→Int→Int→Option R))(x0:(List Int))(K:((List dT150)→Int→Int→Option R)): Option R:=cond (decide ((x0.length:Int)>16384)) (K [] 1 1) (wqnz k x0 10 (fun y5=>E1005 0 0 [] y5 (y5.length:Int) 0))
def wqd2(k:Nat){R:Type}: Nat→Int→Int→(List dT150)→(List (List Int))→Int→Int→((List dT150)→Int→Int→Option R)→Option R
 |0,_,_,_,_,_,_,_=>none
 |n+1,s0,s1,s2,s3,s4,s5,K=>wqmk k (fun s0 s1 s2 s3 s4 s5=>wqd2 k n s0 s1 s2 s3 s4 s5 K) s0 s1 s2 s3 s4 s5 K
theorem wqr9(k:Nat){R:Type}: ∀(I:Nat→St→Option R) (n:Nat),h_line_Lines.lp u_line_Lines_1005 (wq10b k).cx k Tryz.f57 1005 [1,1,1,0,1,0] I n=wqd2 k n:=h_line_Lines.lok u_line_Lines_1005 (B:=wqmk k) (L:=wqd2 k) (fun I=>by kernel_rfl) (fun I=>by kernel_rfl) (fun n=>by kernel_rfl) (fun _ _ _ _=>rfl)
def wqra(k:Nat){R:Type}(x0:(List Int))(K:((List dT150)→Int→Int→Option R)): Option R:=wq10c k (fun s0 s1 s2 s3 s4 s5=>wqd2 k k s0 s1 s2 s3 s4 s5 K) x0 K
theorem wq1ac(k:Nat): DOK Tryz.prog 57 (h_line_Lines.run (@wqra k)):=dok h_line_Lines (wq10b k) Tryz.f57 k (ok1 (wq175 k) (ok1 (fun _ _ _ _ _ h=>wqsv k h) (ok1 (wq178 k) (ok1 (wqv6 k) (ok1 (wqzo k) ok0))))) (by kernel_rfl) (by kernel_rfl) fun R=>h_line_Lines.f1 u_line_Lines_1005 (wq10c k) (by kernel_rfl) (wqr9 k (fun _ _=>none) k) (by kernel_rfl)
def wq1ad(k:Nat): Ent:=h_line_Lines.e 57 (@wqra k)
def h_doc_Parse:Sh:=⟨[.s (.int .u8)],some ([],[.g [.s kdT72],.g [.a kI,.a kI]]),none⟩
def wq1e4(k:Nat): Cxt:=⟨[wq1ad k,wq1iq k,⟨59,wq1go,wq106 k⟩],[],[],[(3,(.of [(0,1),(1,2),(2,0),(3,0)] .done)),(6,(.of [(0,1),(1,2),(2,0),(3,0)] .done))]⟩
def wq1e5(k:Nat){R:Type}(x0:(List Int))(K:((List dT72)→Int→Int→Option R)): Option R:=wqra k x0 (fun y4 y5 y6=>cond (y5 != 0) (K [] y5 y6) (wq149 k y4 (fun y7 y8 y9=>cond (y8 != 0) (K [] y8 y9) (wq1aa k y7 K))))
def wqv8:=@wq1e5
theorem wq1e6(k:Nat): DOK Tryz.prog 29 (h_doc_Parse.run (@wqv8 k)):=dok h_doc_Parse (wq1e4 k) Tryz.f29 k (ok1 (wq1ac k) (ok1 (wq1ip k) (ok1 (fun _ _ _ _ _ h=>wq1kk k h) ok0))) (by kernel_rfl) (by kernel_rfl) fun R=>by kernel_rfl
def wq1e7(k:Nat): Ent:=h_doc_Parse.e 29 (@wqv8 k)
def h_config_Parse:Sh:=⟨[.s (.int .u8)],some ([],[.g [.s (.pr .str (.sl kI)),.s kdT56],.g [.a kI,.a kI]]),none⟩
abbrev wqjr:Type 1:=(R:Type)→(List Int)→((List ((List UInt8)×(List Int)))→(List dT56)→Int→Int→Option R)→Option R
def wq14b(k:Nat): Cxt:=⟨[⟨16,wqnl,wqgc k⟩,wq1e7 k],[],[],[(3,(.of [(0,1),(1,2),(2,0),(3,0)] .done))]⟩
def wq14c(k:Nat){R:Type}(x0:(List Int))(K:((List ((List UInt8)×(List Int)))→(List dT56)→Int→Int→Option R)): Option R:=wqv8 k x0 (fun y4 y5 y6=>cond (y5 != 0) (K [] [] y5 y6) (wq9v k y4 K))
def wqhd:=@wq14c
theorem wq14d(k:Nat): DOK Tryz.prog 11 (h_config_Parse.run (@wqhd k)):=dok h_config_Parse (wq14b k) Tryz.f11 k (ok1 (fun _ _ _ _ _ h=>wquv k h) (ok1 (wq1e6 k) ok0)) (by kernel_rfl) (by kernel_rfl) fun R=>by kernel_rfl
def h_slices_Equal___int_int:Sh:=⟨[.s kI,.s kI],some ([],[.a .bool]),none⟩
def u_slices_Equal___int_int_1004:Cu:=⟨0,[0,1,12,13],[.s kI,.s kI,.a kI,.a kI]⟩
def wqee(k:Nat): Cxt:=⟨[],[],[(1004,u_slices_Equal___int_int_1004.spec)],[(6,(.of [(0,1),(1,1),(2,1),(4,1),(5,1),(6,1),(3,1),(7,1),(8,1)] .done))]⟩
def wqba(k:Nat){R:Type}(E1004:((List Int)→(List Int)→Int→Int→Option R))(s0 s1:(List Int))(s2 s3:Int)(K:(Bool→Option R)): Option R:=cond (decide (s3<s2)) (cond (inb s3 (s0.length:Int)) (cond (inb s3 (s1.length:Int)) (cond ((s0.getD s3.toNat kI.zero) != (s1.getD s3.toNat kI.zero)) (K false) (E1004 s0 s1 s2 (@Go.IntKind.wrap Go.IntKind.i64 (s3+1)))) none) none) (K true)
def wqef(k:Nat){R:Type}(E1004:((List Int)→(List Int)→Int→Int→Option R))(x0 x1:(List Int))(K:(Bool→Option R)): Option R:=cond ((x0.length:Int) != (x1.length:Int)) (K false) (E1004 x0 x1 (x0.length:Int) 0)
def wq59(k:Nat){R:Type}: Nat→(List Int)→(List Int)→Int→Int→(Bool→Option R)→Option R
 |0,_,_,_,_,_=>none
 |n+1,s0,s1,s2,s3,K=>wqba k (fun s0 s1 s2 s3=>wq59 k n s0 s1 s2 s3 K) s0 s1 s2 s3 K
theorem wqfm(k:Nat){R:Type}: ∀(I:Nat→St→Option R) (n:Nat),h_slices_Equal___int_int.lp u_slices_Equal___int_int_1004 (wqee k).cx k Tryz.f50 1004 [1,1,0,1,0] I n=wq59 k n:=h_slices_Equal___int_int.lok u_slices_Equal___int_int_1004 (B:=wqba k) (L:=wq59 k) (fun I=>by kernel_rfl) (fun I=>by kernel_rfl) (fun n=>by kernel_rfl) (fun _ _ _ _=>rfl)
def wq7n(k:Nat){R:Type}(x0 x1:(List Int))(K:(Bool→Option R)): Option R:=wqef k (fun s0 s1 s2 s3=>wq59 k k s0 s1 s2 s3 K) x0 x1 K
theorem wqeg(k:Nat): DOK Tryz.prog 50 (h_slices_Equal___int_int.run (@wq7n k)):=dok h_slices_Equal___int_int (wqee k) Tryz.f50 k ok0 (by kernel_rfl) (by kernel_rfl) fun R=>h_slices_Equal___int_int.f1 u_slices_Equal___int_int_1004 (wqef k) (by kernel_rfl) (wqfm k (fun _ _=>none) k) (by kernel_rfl)
def wqeh(k:Nat): Ent:=h_slices_Equal___int_int.e 50 (@wq7n k)
def h_config_Same_1:Sh:=⟨[.g [.a .str,.s kI],.g [.a .str,.s kI]],some ([],[.a .bool]),none⟩
abbrev wqig:Type 1:=(R:Type)→(List UInt8)→(List Int)→(List UInt8)→(List Int)→(Bool→Option R)→Option R
def wq11s(k:Nat): Cxt:=⟨[wqeh k],[],[],[]⟩
def wq11t(k:Nat){R:Type}(x0:(List UInt8))(x1:(List Int))(x2:(List UInt8))(x3:(List Int))(K:(Bool→Option R)): Option R:=cond ((x0 == x2) == true) (wq7n k x1 x3 K) (K false)
def wqb1:=@wq11t
theorem wqq1(k:Nat): DOK Tryz.prog 49 (h_config_Same_1.run (@wqb1 k)):=dok h_config_Same_1 (wq11s k) Tryz.f49 k (ok1 (wqeg k) ok0) (by kernel_rfl) (by kernel_rfl) fun R=>by kernel_rfl
def wq11u(k:Nat): Ent:=h_config_Same_1.e 49 (@wqb1 k)
def h_config_branches:Sh:=⟨[.g [.a .str,.a .str,.a .bool,.a kI,.a kI,.a .bool,.a .str,.a kI,.a kI,.a .flt,.a .bool,.a .bool,.s kI],.g [.a .str,.a .str,.a .bool,.a kI,.a kI,.a .bool,.a .str,.a kI,.a kI,.a .flt,.a .bool,.a .bool,.s kI]],some ([],[.a .bool]),none⟩
abbrev wqfn:Type 1:=(R:Type)→(List UInt8)→(List UInt8)→Bool→Int→Int→Bool→(List UInt8)→Int→Int→Nat→Bool→Bool→(List Int)→(List UInt8)→(List UInt8)→Bool→Int→Int→Bool→(List UInt8)→Int→Int→Nat→Bool→Bool→(List Int)→(Bool→Option R)→Option R
def wqxr(k:Nat): Cxt:=⟨[wqeh k,wqna k,wq12r k],[],[],[]⟩
def wqxs(k:Nat){R:Type}(x0 x1:(List UInt8))(x2:Bool)(x3 x4:Int)(x5:Bool)(x6:(List UInt8))(x7 x8:Int)(x9:Nat)(x10 x11:Bool)(x12:(List Int))(x13 x14:(List UInt8))(x15:Bool)(x16 x17:Int)(x18:Bool)(x19:(List UInt8))(x20 x21:Int)(x22:Nat)(x23 x24:Bool)(x25:(List Int))(K:(Bool→Option R)): Option R:=wqg4 k x0 x1 x2 x3 x4 x5 x6 x7 x8 x9 x10 x11 x12 x13 x14 x15 x16 x17 x18 x19 x20 x21 x22 x23 x24 x25 (fun y29=>cond ((cond (cond (cond y29 (x3 == x16) false) (x4 == x17) false) (x5 == x18) false) == true) (wqov k x6 x7 x8 x9 x10 x11 x19 x20 x21 x22 x23 x24 (fun y30=>cond (y30 == true) (wq7n k x12 x25 K) (K false))) (K false))
def wq8y:=@wqxs
theorem wqml(k:Nat): DOK Tryz.prog 53 (h_config_branches.run (@wq8y k)):=dok h_config_branches (wqxr k) Tryz.f53 k (ok1 (wqeg k) (ok1 (wqn9 k) (ok1 (wq12q k) ok0))) (by kernel_rfl) (by kernel_rfl) fun R=>by kernel_rfl
def wqxt(k:Nat): Ent:=h_config_branches.e 53 (@wq8y k)
def h_slices_EqualFunc___api_Branch___api_Branch_api_Branch_api_Branch:Sh:=⟨[.s kdT56,.s kdT56,.c 53 []],some ([],[.a .bool]),none⟩
abbrev wq2g:Type 1:=(R:Type)→(List dT56)→(List dT56)→(Bool→Option R)→Option R
def u_slices_EqualFunc___api_Branch___api_Branch_api_Branch_api_Branch_1004:Cu:=⟨0,[1,2,15,16,17],[.s kdT56,.c 53 [],.s kdT56,.a kI,.a kI]⟩
def wq3l(k:Nat): Cxt:=⟨[wqxt k],[],[(1004,u_slices_EqualFunc___api_Branch___api_Branch_api_Branch_api_Branch_1004.spec)],[]⟩
def wq3a(k:Nat){R:Type}(E1004:((List dT56)→(List dT56)→Int→Int→Option R))(s0 s1:(List dT56))(s2 s3:Int)(K:(Bool→Option R)): Option R:=cond (decide (s3<s2)) (cond (inb s3 (s1.length:Int)) (cond (inb s3 (s0.length:Int)) (wq8y k (s1.getD s3.toNat kdT56.zero).1 ((s1.getD s3.toNat kdT56.zero).2).1 (((s1.getD s3.toNat kdT56.zero).2).2).1 ((((s1.getD s3.toNat kdT56.zero).2).2).2).1 (((((s1.getD s3.toNat kdT56.zero).2).2).2).2).1 ((((((s1.getD s3.toNat kdT56.zero).2).2).2).2).2).1 ((((((((s1.getD s3.toNat kdT56.zero).2).2).2).2).2).2).1).1 (((((((((s1.getD s3.toNat kdT56.zero).2).2).2).2).2).2).1).2).1 ((((((((((s1.getD s3.toNat kdT56.zero).2).2).2).2).2).2).1).2).2).1 (((((((((((s1.getD s3.toNat kdT56.zero).2).2).2).2).2).2).1).2).2).2).1 ((((((((((((s1.getD s3.toNat kdT56.zero).2).2).2).2).2).2).1).2).2).2).2).1 ((((((((((((s1.getD s3.toNat kdT56.zero).2).2).2).2).2).2).1).2).2).2).2).2 (((((((s1.getD s3.toNat kdT56.zero).2).2).2).2).2).2).2 (s0.getD s3.toNat kdT56.zero).1 ((s0.getD s3.toNat kdT56.zero).2).1 (((s0.getD s3.toNat kdT56.zero).2).2).1 ((((s0.getD s3.toNat kdT56.zero).2).2).2).1 (((((s0.getD s3.toNat kdT56.zero).2).2).2).2).1 ((((((s0.getD s3.toNat kdT56.zero).2).2).2).2).2).1 ((((((((s0.getD s3.toNat kdT56.zero).2).2).2).2).2).2).1).1 (((((((((s0.getD s3.toNat kdT56.zero).2).2).2).2).2).2).1).2).1 ((((((((((s0.getD s3.toNat kdT56.zero).2).2).2).2).2).2).1).2).2).1 (((((((((((s0.getD s3.toNat kdT56.zero).2).2).2).2).2).2).1).2).2).2).1 ((((((((((((s0.getD s3.toNat kdT56.zero).2).2).2).2).2).2).1).2).2).2).2).1 ((((((((((((s0.getD s3.toNat kdT56.zero).2).2).2).2).2).2).1).2).2).2).2).2 (((((((s0.getD s3.toNat kdT56.zero).2).2).2).2).2).2).2 (fun y8=>cond (!y8) (K false) (E1004 s0 s1 s2 (@Go.IntKind.wrap Go.IntKind.i64 (s3+1))))) none) none) (K true)
def wq3m(k:Nat){R:Type}(E1004:((List dT56)→(List dT56)→Int→Int→Option R))(x0 x1:(List dT56))(K:(Bool→Option R)): Option R:=cond ((x0.length:Int) != (x1.length:Int)) (K false) (E1004 x1 x0 (x0.length:Int) 0)
def wq1i(k:Nat){R:Type}: Nat→(List dT56)→(List dT56)→Int→Int→(Bool→Option R)→Option R
 |0,_,_,_,_,_=>none
 |n+1,s0,s1,s2,s3,K=>wq3a k (fun s0 s1 s2 s3=>wq1i k n s0 s1 s2 s3 K) s0 s1 s2 s3 K
theorem wq4k(k:Nat){R:Type}: ∀(I:Nat→St→Option R) (n:Nat),h_slices_EqualFunc___api_Branch___api_Branch_api_Branch_api_Branch.lp u_slices_EqualFunc___api_Branch___api_Branch_api_Branch_api_Branch_1004 (wq3l k).cx k Tryz.f52 1004 [1,1,0,1,0] I n=wq1i k n:=h_slices_EqualFunc___api_Branch___api_Branch_api_Branch_api_Branch.lok u_slices_EqualFunc___api_Branch___api_Branch_api_Branch_api_Branch_1004 (B:=wq3a k) (L:=wq1i k) (fun I=>by kernel_rfl) (fun I=>by kernel_rfl) (fun n=>by kernel_rfl) (fun _ _ _ _=>rfl)
def wq1p(k:Nat){R:Type}(x0 x1:(List dT56))(K:(Bool→Option R)): Option R:=wq3m k (fun s0 s1 s2 s3=>wq1i k k s0 s1 s2 s3 K) x0 x1 K
theorem wq5b(k:Nat): DOK Tryz.prog 52 (h_slices_EqualFunc___api_Branch___api_Branch_api_Branch_api_Branch.run (@wq1p k)):=dok h_slices_EqualFunc___api_Branch___api_Branch_api_Branch_api_Branch (wq3l k) Tryz.f52 k (ok1 (wqml k) ok0) (by kernel_rfl) (by kernel_rfl) fun R=>h_slices_EqualFunc___api_Branch___api_Branch_api_Branch_api_Branch.f1 u_slices_EqualFunc___api_Branch___api_Branch_api_Branch_api_Branch_1004 (wq3m k) (by kernel_rfl) (wq4k k (fun _ _=>none) k) (by kernel_rfl)
def h_slices_EqualFunc___api_Domain___api_Domain_api_Domain_api_Domain:Sh:=⟨[.s (.pr .str (.sl kI)),.s (.pr .str (.sl kI)),.c 49 []],some ([],[.a .bool]),none⟩
abbrev wq2h:Type 1:=(R:Type)→(List ((List UInt8)×(List Int)))→(List ((List UInt8)×(List Int)))→(Bool→Option R)→Option R
def u_slices_EqualFunc___api_Domain___api_Domain_api_Domain_api_Domain_1004:Cu:=⟨0,[1,2,15,16,17],[.s (.pr .str (.sl kI)),.c 49 [],.s (.pr .str (.sl kI)),.a kI,.a kI]⟩
def wq3n(k:Nat): Cxt:=⟨[wq11u k],[],[(1004,u_slices_EqualFunc___api_Domain___api_Domain_api_Domain_api_Domain_1004.spec)],[]⟩
def wq3b(k:Nat){R:Type}(E1004:((List ((List UInt8)×(List Int)))→(List ((List UInt8)×(List Int)))→Int→Int→Option R))(s0 s1:(List ((List UInt8)×(List Int))))(s2 s3:Int)(K:(Bool→Option R)): Option R:=cond (decide (s3<s2)) (cond (inb s3 (s1.length:Int)) (cond (inb s3 (s0.length:Int)) (wqb1 k (s1.getD s3.toNat (Kd.zero (@Kd.pr Kd.str (@Kd.sl kI)))).1 (s1.getD s3.toNat (Kd.zero (@Kd.pr Kd.str (@Kd.sl kI)))).2 (s0.getD s3.toNat (Kd.zero (@Kd.pr Kd.str (@Kd.sl kI)))).1 (s0.getD s3.toNat (Kd.zero (@Kd.pr Kd.str (@Kd.sl kI)))).2 (fun y8=>cond (!y8) (K false) (E1004 s0 s1 s2 (@Go.IntKind.wrap Go.IntKind.i64 (s3+1))))) none) none) (K true)
def wq3o(k:Nat){R:Type}(E1004:((List ((List UInt8)×(List Int)))→(List ((List UInt8)×(List Int)))→Int→Int→Option R))(x0 x1:(List ((List UInt8)×(List Int))))(K:(Bool→Option R)): Option R:=cond ((x0.length:Int) != (x1.length:Int)) (K false) (E1004 x1 x0 (x0.length:Int) 0)
def wq1j(k:Nat){R:Type}: Nat→(List ((List UInt8)×(List Int)))→(List ((List UInt8)×(List Int)))→Int→Int→(Bool→Option R)→Option R
 |0,_,_,_,_,_=>none
 |n+1,s0,s1,s2,s3,K=>wq3b k (fun s0 s1 s2 s3=>wq1j k n s0 s1 s2 s3 K) s0 s1 s2 s3 K
theorem wq4l(k:Nat){R:Type}: ∀(I:Nat→St→Option R) (n:Nat),h_slices_EqualFunc___api_Domain___api_Domain_api_Domain_api_Domain.lp u_slices_EqualFunc___api_Domain___api_Domain_api_Domain_api_Domain_1004 (wq3n k).cx k Tryz.f51 1004 [1,1,0,1,0] I n=wq1j k n:=h_slices_EqualFunc___api_Domain___api_Domain_api_Domain_api_Domain.lok u_slices_EqualFunc___api_Domain___api_Domain_api_Domain_api_Domain_1004 (B:=wq3b k) (L:=wq1j k) (fun I=>by kernel_rfl) (fun I=>by kernel_rfl) (fun n=>by kernel_rfl) (fun _ _ _ _=>rfl)
def wq1q(k:Nat){R:Type}(x0 x1:(List ((List UInt8)×(List Int))))(K:(Bool→Option R)): Option R:=wq3o k (fun s0 s1 s2 s3=>wq1j k k s0 s1 s2 s3 K) x0 x1 K
theorem wq5c(k:Nat): DOK Tryz.prog 51 (h_slices_EqualFunc___api_Domain___api_Domain_api_Domain_api_Domain.run (@wq1q k)):=dok h_slices_EqualFunc___api_Domain___api_Domain_api_Domain_api_Domain (wq3n k) Tryz.f51 k (ok1 (wqq1 k) ok0) (by kernel_rfl) (by kernel_rfl) fun R=>h_slices_EqualFunc___api_Domain___api_Domain_api_Domain_api_Domain.f1 u_slices_EqualFunc___api_Domain___api_Domain_api_Domain_api_Domain_1004 (wq3o k) (by kernel_rfl) (wq4l k (fun _ _=>none) k) (by kernel_rfl)
def h_config_Same:Sh:=⟨[.g [.s (.pr .str (.sl kI)),.s kdT56],.g [.s (.pr .str (.sl kI)),.s kdT56]],some ([],[.a .bool]),none⟩
abbrev wqli:Type 1:=(R:Type)→(List ((List UInt8)×(List Int)))→(List dT56)→(List ((List UInt8)×(List Int)))→(List dT56)→(Bool→Option R)→Option R
def wqwc(k:Nat)(wqcp:wqig)(wqv:wq2h)(wqw:wq2g)(wqay:wqfn): Cxt:=⟨[h_config_Same_1.e 49 wqcp,h_slices_EqualFunc___api_Domain___api_Domain_api_Domain_api_Domain.e 51 wqv,h_slices_EqualFunc___api_Branch___api_Branch_api_Branch_api_Branch.e 52 wqw,h_config_branches.e 53 wqay],[],[],[]⟩
def wqwd(k:Nat)(wqcp:wqig)(wqv:wq2h)(wqw:wq2g)(wqay:wqfn){R:Type}(x0:(List ((List UInt8)×(List Int))))(x1:(List dT56))(x2:(List ((List UInt8)×(List Int))))(x3:(List dT56))(K:(Bool→Option R)): Option R:=wqv R x0 x2 (fun y7=>cond (y7 == true) (wqw R x1 x3 K) (K false))
theorem wq179(k:Nat)(wqcp:wqig)(wqv:wq2h)(wqw:wq2g)(wqay:wqfn)(R:Type): h_config_Same.at (wqwc k wqcp wqv wqw wqay) k Tryz.f23 R=@wqwd k wqcp wqv wqw wqay R:=by kernel_rfl
def wqj4(k:Nat){R:Type}:= @wqwd k (@wqb1 k) (@wq1q k) (@wq1p k) (@wq8y k) R
theorem wq17a(k:Nat): DOK Tryz.prog 23 (h_config_Same.run (@wqj4 k)):=dok h_config_Same (wqwc k (@wqb1 k) (@wq1q k) (@wq1p k) (@wq8y k)) Tryz.f23 k (ok1 (wqq1 k) (ok1 (wq5c k) (ok1 (wq5b k) (ok1 (wqml k) ok0)))) (by kernel_rfl) (by kernel_rfl) fun R=>wq179 k (@wqb1 k) (@wq1q k) (@wq1p k) (@wq8y k) R
def h_ref1_Order:Sh:=⟨[.a .flt,.a .flt],some ([],[.a kI]),none⟩
def wq1ae(k:Nat): Cxt:=⟨[wqqn k,wq144 k],[],[],[]⟩
def wq10d(k:Nat){R:Type}(x0 x1:Nat)(K:(Int→Option R)): Option R:=wq3f k x0 (fun y5=>cond (y5 == false) (wq3f k x1 (fun y6=>cond y6 (wq3f k x0 (fun y7=>cond (y7 == true) (wq3f k x1 (fun y8=>cond y8 (K 0) (wq3f k x0 (fun y9=>cond y9 (K 1) (K (@Neg.neg Int @Int.instNegInt (1:Int))))))) (wq3f k x0 (fun y8=>cond y8 (K 1) (K (@Neg.neg Int @Int.instNegInt (1:Int))))))) (cond (@fltIs @Go.BinOp.lss x0 x1) (K (@Neg.neg Int @Int.instNegInt (1:Int))) (cond (@fltIs @Go.BinOp.gtr x0 x1) (K 1) (wq3h k x0 (fun y7=>wq3h k x1 (fun y8=>cond (y7 == y8) (K 0) (wq3h k x0 (fun y9=>cond y9 (K (@Neg.neg Int @Int.instNegInt (1:Int))) (K 1)))))))))) (wq3f k x0 (fun y6=>cond (y6 == true) (wq3f k x1 (fun y7=>cond y7 (K 0) (wq3f k x0 (fun y8=>cond y8 (K 1) (K (@Neg.neg Int @Int.instNegInt (1:Int))))))) (wq3f k x0 (fun y7=>cond y7 (K 1) (K (@Neg.neg Int @Int.instNegInt (1:Int))))))))
def wqlj:=@wq10d
theorem wq1af(k:Nat): DOK Tryz.prog 108 (h_ref1_Order.run (@wqlj k)):=dok h_ref1_Order (wq1ae k) Tryz.f108 k (ok1 (wqi0 k) (ok1 (wqha k) ok0)) (by kernel_rfl) (by kernel_rfl) fun R=>by kernel_rfl
def wq1ag(k:Nat): Ent:=h_ref1_Order.e 108 (@wqlj k)
def h_ref1_Alike:Sh:=⟨[.a .flt,.a .flt],some ([],[.a .bool]),none⟩
def wq1ah(k:Nat): Cxt:=⟨[wq1ag k],[],[],[]⟩
def wq10e(k:Nat){R:Type}(x0 x1:Nat)(K:(Bool→Option R)): Option R:=wqlj k x0 x1 (fun y5=>K (y5 == 0))
def wqih:=@wq10e
theorem wq1ai(k:Nat): DOK Tryz.prog 63 (h_ref1_Alike.run (@wqih k)):=dok h_ref1_Alike (wq1ah k) Tryz.f63 k (ok1 (wq1af k) ok0) (by kernel_rfl) (by kernel_rfl) fun R=>by kernel_rfl
def wq1aj(k:Nat): Ent:=h_ref1_Alike.e 63 (@wqih k)
def h_ref15_SameRule:Sh:=⟨[.g [.a .str,.a kI,.a kI,.a .flt,.a .bool,.a .bool],.g [.a .str,.a kI,.a kI,.a .flt,.a .bool,.a .bool]],some ([],[.a .bool]),none⟩
def wq10f(k:Nat): Cxt:=⟨[wq1aj k],[],[],[]⟩
def wqo2(k:Nat){R:Type}(x0:(List UInt8))(x1 x2:Int)(x3:Nat)(x4 x5:Bool)(x6:(List UInt8))(x7 x8:Int)(x9:Nat)(x10 x11:Bool)(K:(Bool→Option R)): Option R:=cond ((cond (cond (cond (cond (x0 == x6) (x1 == x7) false) (x2 == x8) false) (x4 == x10) false) (x5 == x11) false) == true) (wqih k x3 x9 K) (K false)
def wq9x:=@wqo2
theorem wq10g(k:Nat): DOK Tryz.prog 32 (h_ref15_SameRule.run (@wq9x k)):=dok h_ref15_SameRule (wq10f k) Tryz.f32 k (ok1 (wq1ai k) ok0) (by kernel_rfl) (by kernel_rfl) fun R=>by kernel_rfl
def wq10h(k:Nat): Ent:=h_ref15_SameRule.e 32 (@wq9x k)
def h_ref1_Ints:Sh:=⟨[.s kI,.s kI],some ([],[.a .bool]),none⟩
def u_ref1_Ints_1004:Cu:=⟨0,[0,1,5],[.s kI,.s kI,.a kI]⟩
def wq12s(k:Nat): Cxt:=⟨[],[],[(1004,u_ref1_Ints_1004.spec)],[(6,(.of [(0,1),(1,1),(2,1),(4,1),(5,1),(6,1),(3,1),(7,1),(8,1)] .done))]⟩
def wqei(k:Nat){R:Type}(E1004:((List Int)→(List Int)→Int→Option R))(s0 s1:(List Int))(s2:Int)(K:(Bool→Option R)): Option R:=cond (decide (s2<(s0.length:Int))) (cond (inb s2 (s0.length:Int)) (cond (inb s2 (s1.length:Int)) (cond ((s0.getD s2.toNat kI.zero) != (s1.getD s2.toNat kI.zero)) (K false) (E1004 s0 s1 (@Go.IntKind.wrap Go.IntKind.i64 (s2+1)))) none) none) (K true)
def wqv9(k:Nat){R:Type}(E1004:((List Int)→(List Int)→Int→Option R))(x0 x1:(List Int))(K:(Bool→Option R)): Option R:=cond ((x0.length:Int) != (x1.length:Int)) (K false) (E1004 x0 x1 0)
def wq8b(k:Nat){R:Type}: Nat→(List Int)→(List Int)→Int→(Bool→Option R)→Option R
 |0,_,_,_,_=>none
 |n+1,s0,s1,s2,K=>wqei k (fun s0 s1 s2=>wq8b k n s0 s1 s2 K) s0 s1 s2 K
theorem wqsw(k:Nat){R:Type}: ∀(I:Nat→St→Option R) (n:Nat),h_ref1_Ints.lp u_ref1_Ints_1004 (wq12s k).cx k Tryz.f31 1004 [1,1,0,1,0] I n=wq8b k n:=h_ref1_Ints.lok u_ref1_Ints_1004 (B:=wqei k) (L:=wq8b k) (fun I=>by kernel_rfl) (fun I=>by kernel_rfl) (fun n=>by kernel_rfl) (fun _ _ _ _=>rfl)
def wqfo(k:Nat){R:Type}(x0 x1:(List Int))(K:(Bool→Option R)): Option R:=wqv9 k (fun s0 s1 s2=>wq8b k k s0 s1 s2 K) x0 x1 K
theorem wq1e8(k:Nat): DOK Tryz.prog 31 (h_ref1_Ints.run (@wqfo k)):=dok h_ref1_Ints (wq12s k) Tryz.f31 k ok0 (by kernel_rfl) (by kernel_rfl) fun R=>h_ref1_Ints.f1 u_ref1_Ints_1004 (wqv9 k) (by kernel_rfl) (wqsw k (fun _ _=>none) k) (by kernel_rfl)
def wq1e9(k:Nat): Ent:=h_ref1_Ints.e 31 (@wqfo k)
def h_ref15_Same:Sh:=⟨[.g [.s (.pr .str (.sl kI)),.s kdT56],.g [.s (.pr .str (.sl kI)),.s kdT56]],some ([],[.a .bool]),none⟩
abbrev wqdq:Type 1:=(R:Type)→(List ((List UInt8)×(List Int)))→(List dT56)→(List ((List UInt8)×(List Int)))→(List dT56)→(Bool→Option R)→Option R
def u_ref15_Same_1004:Cu:=⟨0,[2,3,5],[.o 12 27 0 [.s (.pr .str (.sl kI)),.s kdT56],.o 13 27 0 [.s (.pr .str (.sl kI)),.s kdT56],.a kI]⟩
def u_ref15_Same_1009:Cu:=⟨0,[2,3,6],[.o 12 27 0 [.s (.pr .str (.sl kI)),.s kdT56],.o 13 27 0 [.s (.pr .str (.sl kI)),.s kdT56],.a kI]⟩
def wqlk(k:Nat): Cxt:=⟨[wq1e9 k,wq10h k],[],[(1004,u_ref15_Same_1004.spec),(1009,u_ref15_Same_1009.spec)],[(6,(.of [(0,1),(2,1),(6,1),(8,1),(1,1),(3,1),(4,1),(5,1),(7,1),(9,1),(10,1),(11,1),(12,1),(13,1),(14,1),(16,1),(20,1),(22,1),(15,1),(17,1),(18,1),(19,1),(21,1),(23,1),(24,1),(25,1),(26,0),(27,1),(28,1)] .done)),(11,(.of [(0,1),(2,1),(5,1),(7,1),(1,1),(3,1),(4,1),(6,2),(8,1),(9,2)] (.alt 10 (.of [(11,0),(12,0),(13,0)] .done) (.op 11 0 (.of [(10,0),(12,0),(13,0)] .done)))))]⟩
def wqaw(k:Nat){R:Type}(E1004 E1009:((List ((List UInt8)×(List Int)))→(List dT56)→(List ((List UInt8)×(List Int)))→(List dT56)→Int→Option R))(s0:(List ((List UInt8)×(List Int))))(s1:(List dT56))(s2:(List ((List UInt8)×(List Int))))(s3:(List dT56))(s4:Int)(K:(Bool→Option R)): Option R:=cond (decide (s4<(s0.length:Int))) (cond (inb s4 (s0.length:Int)) (cond (inb s4 (s2.length:Int)) (cond ((!((!((s0.getD s4.toNat (Kd.zero (@Kd.pr Kd.str (@Kd.sl kI)))).1 == (s2.getD s4.toNat (Kd.zero (@Kd.pr Kd.str (@Kd.sl kI)))).1)) == false)) || (inb s4 (s0.length:Int))) (cond ((!((!((s0.getD s4.toNat (Kd.zero (@Kd.pr Kd.str (@Kd.sl kI)))).1 == (s2.getD s4.toNat (Kd.zero (@Kd.pr Kd.str (@Kd.sl kI)))).1)) == false)) || (inb s4 (s2.length:Int))) (cond ((!((s0.getD s4.toNat (Kd.zero (@Kd.pr Kd.str (@Kd.sl kI)))).1 == (s2.getD s4.toNat (Kd.zero (@Kd.pr Kd.str (@Kd.sl kI)))).1)) == false) (wqfo k (s0.getD s4.toNat (Kd.zero (@Kd.pr Kd.str (@Kd.sl kI)))).2 (s2.getD s4.toNat (Kd.zero (@Kd.pr Kd.str (@Kd.sl kI)))).2 (fun y10=>cond (!y10) (K false) (E1004 s0 s1 s2 s3 (@Go.IntKind.wrap Go.IntKind.i64 (s4+1))))) (K false)) none) none) none) none) (E1009 s0 s1 s2 s3 0)
def wqfp(k:Nat){R:Type}(E1009:((List ((List UInt8)×(List Int)))→(List dT56)→(List ((List UInt8)×(List Int)))→(List dT56)→Int→Option R))(s0:(List ((List UInt8)×(List Int))))(s1:(List dT56))(s2:(List ((List UInt8)×(List Int))))(s3:(List dT56))(s4:Int)(K:(Bool→Option R)): Option R:=cond (decide (s4<(s1.length:Int))) (cond (inb s4 (s1.length:Int)) (cond (inb s4 (s3.length:Int)) (dupT (@Shp.b @Shp.o @Shp.o) (cond ((cond (cond (cond (cond (cond (!((s1.getD s4.toNat kdT56.zero).1 == (s3.getD s4.toNat kdT56.zero).1)) true (!(((s1.getD s4.toNat kdT56.zero).2).1 == ((s3.getD s4.toNat kdT56.zero).2).1))) true (!((((s1.getD s4.toNat kdT56.zero).2).2).1 == (((s3.getD s4.toNat kdT56.zero).2).2).1))) true (((((s1.getD s4.toNat kdT56.zero).2).2).2).1 != ((((s3.getD s4.toNat kdT56.zero).2).2).2).1)) true ((((((s1.getD s4.toNat kdT56.zero).2).2).2).2).1 != (((((s3.getD s4.toNat kdT56.zero).2).2).2).2).1)) true (!(((((((s1.getD s4.toNat kdT56.zero).2).2).2).2).2).1 == ((((((s3.getD s4.toNat kdT56.zero).2).2).2).2).2).1))) == false) (wq9x k ((((((((s1.getD s4.toNat kdT56.zero).2).2).2).2).2).2).1).1 (((((((((s1.getD s4.toNat kdT56.zero).2).2).2).2).2).2).1).2).1 ((((((((((s1.getD s4.toNat kdT56.zero).2).2).2).2).2).2).1).2).2).1 (((((((((((s1.getD s4.toNat kdT56.zero).2).2).2).2).2).2).1).2).2).2).1 ((((((((((((s1.getD s4.toNat kdT56.zero).2).2).2).2).2).2).1).2).2).2).2).1 ((((((((((((s1.getD s4.toNat kdT56.zero).2).2).2).2).2).2).1).2).2).2).2).2 ((((((((s3.getD s4.toNat kdT56.zero).2).2).2).2).2).2).1).1 (((((((((s3.getD s4.toNat kdT56.zero).2).2).2).2).2).2).1).2).1 ((((((((((s3.getD s4.toNat kdT56.zero).2).2).2).2).2).2).1).2).2).1 (((((((((((s3.getD s4.toNat kdT56.zero).2).2).2).2).2).2).1).2).2).2).1 ((((((((((((s3.getD s4.toNat kdT56.zero).2).2).2).2).2).2).1).2).2).2).2).1 ((((((((((((s3.getD s4.toNat kdT56.zero).2).2).2).2).2).2).1).2).2).2).2).2 (fun y10=>cond ((!y10) == false) (wqfo k (((((((s1.getD s4.toNat kdT56.zero).2).2).2).2).2).2).2 (((((((s3.getD s4.toNat kdT56.zero).2).2).2).2).2).2).2 (fun y11=>cond (!y11) (K false) (E1009 s0 s1 s2 s3 (@Go.IntKind.wrap Go.IntKind.i64 (s4+1))))) (K false))) (K false))) none) none) (K true)
def wq8z(k:Nat){R:Type}(E1009:((List ((List UInt8)×(List Int)))→(List dT56)→(List ((List UInt8)×(List Int)))→(List dT56)→Int→Option R))(s0:(List ((List UInt8)×(List Int))))(s1:(List dT56))(s2:(List ((List UInt8)×(List Int))))(s3:(List dT56))(s4:Int)(K:(Bool→Option R)): Option R:=cond (decide (s4<(s1.length:Int))) (cond (inb s4 (s1.length:Int)) (cond (inb s4 (s3.length:Int)) (cond ((cond (cond (cond (cond (cond (!((s1.getD s4.toNat kdT56.zero).1 == (s3.getD s4.toNat kdT56.zero).1)) true (!(((s1.getD s4.toNat kdT56.zero).2).1 == ((s3.getD s4.toNat kdT56.zero).2).1))) true (!((((s1.getD s4.toNat kdT56.zero).2).2).1 == (((s3.getD s4.toNat kdT56.zero).2).2).1))) true (((((s1.getD s4.toNat kdT56.zero).2).2).2).1 != ((((s3.getD s4.toNat kdT56.zero).2).2).2).1)) true ((((((s1.getD s4.toNat kdT56.zero).2).2).2).2).1 != (((((s3.getD s4.toNat kdT56.zero).2).2).2).2).1)) true (!(((((((s1.getD s4.toNat kdT56.zero).2).2).2).2).2).1 == ((((((s3.getD s4.toNat kdT56.zero).2).2).2).2).2).1))) == false) (wq9x k ((((((((s1.getD s4.toNat kdT56.zero).2).2).2).2).2).2).1).1 (((((((((s1.getD s4.toNat kdT56.zero).2).2).2).2).2).2).1).2).1 ((((((((((s1.getD s4.toNat kdT56.zero).2).2).2).2).2).2).1).2).2).1 (((((((((((s1.getD s4.toNat kdT56.zero).2).2).2).2).2).2).1).2).2).2).1 ((((((((((((s1.getD s4.toNat kdT56.zero).2).2).2).2).2).2).1).2).2).2).2).1 ((((((((((((s1.getD s4.toNat kdT56.zero).2).2).2).2).2).2).1).2).2).2).2).2 ((((((((s3.getD s4.toNat kdT56.zero).2).2).2).2).2).2).1).1 (((((((((s3.getD s4.toNat kdT56.zero).2).2).2).2).2).2).1).2).1 ((((((((((s3.getD s4.toNat kdT56.zero).2).2).2).2).2).2).1).2).2).1 (((((((((((s3.getD s4.toNat kdT56.zero).2).2).2).2).2).2).1).2).2).2).1 ((((((((((((s3.getD s4.toNat kdT56.zero).2).2).2).2).2).2).1).2).2).2).2).1 ((((((((((((s3.getD s4.toNat kdT56.zero).2).2).2).2).2).2).1).2).2).2).2).2 (fun y10=>cond ((!y10) == false) (wqfo k (((((((s1.getD s4.toNat kdT56.zero).2).2).2).2).2).2).2 (((((((s3.getD s4.toNat kdT56.zero).2).2).2).2).2).2).2 (fun y11=>cond (!y11) (K false) (E1009 s0 s1 s2 s3 (@Go.IntKind.wrap Go.IntKind.i64 (s4+1))))) (K false))) (K false)) none) none) (K true)
theorem wqpf(k:Nat){R:Type}: @wqfp k R=@wq8z k R:=by funext E1009 s0 s1 s2 s3 s4 K;unfold wqfp wq8z;simp only[wq1by,show ∀(R:Type) (a:Option R),both a a=a from fun R a=>by unfold both;exact if_pos rfl]
def wqrb(k:Nat){R:Type}(E1004:((List ((List UInt8)×(List Int)))→(List dT56)→(List ((List UInt8)×(List Int)))→(List dT56)→Int→Option R))(x0:(List ((List UInt8)×(List Int))))(x1:(List dT56))(x2:(List ((List UInt8)×(List Int))))(x3:(List dT56))(K:(Bool→Option R)): Option R:=cond (cond ((x0.length:Int) != (x2.length:Int)) true ((x1.length:Int) != (x3.length:Int))) (K false) (E1004 x0 x1 x2 x3 0)
def wq5x(k:Nat){R:Type}: Nat→(List ((List UInt8)×(List Int)))→(List dT56)→(List ((List UInt8)×(List Int)))→(List dT56)→Int→(Bool→Option R)→Option R
 |0,_,_,_,_,_,_=>none
 |n+1,s0,s1,s2,s3,s4,K=>wq8z k (fun s0 s1 s2 s3 s4=>wq5x k n s0 s1 s2 s3 s4 K) s0 s1 s2 s3 s4 K
theorem wqrc(k:Nat){R:Type}: ∀(I:Nat→St→Option R) (n:Nat),h_ref15_Same.lp u_ref15_Same_1009 (wqlk k).cx k Tryz.f13 1009 [1,1,1,0,1,0] I n=wq5x k n:=h_ref15_Same.lok u_ref15_Same_1009 (B:=wq8z k) (L:=wq5x k) (fun I=>(show _=wqfp k (u_ref15_Same_1009.cur (I 1009)) by kernel_rfl).trans (by simp only[wqpf])) (fun I=>by kernel_rfl) (fun n=>by kernel_rfl) (fun _ _ _ _=>rfl)
def wq7b(k:Nat){R:Type}: Nat→(List ((List UInt8)×(List Int)))→(List dT56)→(List ((List UInt8)×(List Int)))→(List dT56)→Int→(Bool→Option R)→Option R
 |0,_,_,_,_,_,_=>none
 |n+1,s0,s1,s2,s3,s4,K=>wqaw k (fun s0 s1 s2 s3 s4=>wq7b k n s0 s1 s2 s3 s4 K) (fun s0 s1 s2 s3 s4=>wq5x k k s0 s1 s2 s3 s4 K) s0 s1 s2 s3 s4 K
theorem wqrd(k:Nat){R:Type}: ∀(I:Nat→St→Option R) (n:Nat),h_ref15_Same.lp u_ref15_Same_1004 (wqlk k).cx k Tryz.f13 1004 [1,1,0,1,0] I n=wq7b k n:=h_ref15_Same.lokA u_ref15_Same_1004 (fun I J=>h_ref15_Same.glue (l:=u_ref15_Same_1004.fs) (u:=u_ref15_Same_1009.fs) (fun E1009=>wqaw k J E1009) (wq5x k k)) (fun I=>wq7b k ) (fun I f=>by kernel_rfl) (fun I=>(show _=h_ref15_Same.glue (l:=u_ref15_Same_1004.fs) (u:=u_ref15_Same_1009.fs) (fun E1009=>wqaw k (u_ref15_Same_1004.cur (I 1004)) E1009) (h_ref15_Same.lp u_ref15_Same_1009 (wqlk k).cx k Tryz.f13 1009 [1,1,1,0,1,0] I k) by kernel_rfl).trans (by rw[wqrc])) (fun I=>by kernel_rfl) (fun I n=>by kernel_rfl) (fun _ _ _ _=>rfl)
def wqai(k:Nat){R:Type}(x0:(List ((List UInt8)×(List Int))))(x1:(List dT56))(x2:(List ((List UInt8)×(List Int))))(x3:(List dT56))(K:(Bool→Option R)): Option R:=wqrb k (fun s0 s1 s2 s3 s4=>wq7b k k s0 s1 s2 s3 s4 K) x0 x1 x2 x3 K
theorem wq10i(k:Nat): DOK Tryz.prog 13 (h_ref15_Same.run (@wqai k)):=dok h_ref15_Same (wqlk k) Tryz.f13 k (ok1 (wq1e8 k) (ok1 (wq10g k) ok0)) (by kernel_rfl) (by kernel_rfl) fun R=>h_ref15_Same.f1 u_ref15_Same_1004 (wqrb k) (by kernel_rfl) (wqrd k (fun _ _=>none) k) (by kernel_rfl)
def h_law17_awake:Sh:=⟨[],some ([],[.a .bool]),none⟩
abbrev wqll:Type 1:=(R:Type)→(Bool→Option R)→Option R
def wqwe(k:Nat)(wqc7:wqjr)(wq6g:wqdq)(wqan:wqjn)(wq6f:(R:Type)→(List dT72)→((List ((List UInt8)×(List Int)))→(List dT56)→Int→Int→Option R)→Option R)(wqbs:wqli): Cxt:=⟨[h_config_Parse.e 11 wqc7,h_ref15_Same.e 13 wq6g,h_config_Check.e 14 wqan,⟨16,wqnl,wqh9 wq6f⟩,h_config_Same.e 23 wqbs],[],[],[]⟩
def wqwf(k:Nat)(wqc7:wqjr)(wq6g:wqdq)(wqan:wqjn)(wq6f:(R:Type)→(List dT72)→((List ((List UInt8)×(List Int)))→(List dT56)→Int→Int→Option R)→Option R)(wqbs:wqli){R:Type}(K:(Bool→Option R)): Option R:=wqc7 R [100,111,109,97,105,110,115,58,10,32,32,45,32,100,111,109,97,105,110,58,32,115,104,111,112,10,32,32,32,32,100,101,115,99,114,105,112,116,111,114,115,58,10,32,32,32,32,32,32,45,32,107,101,121,58,32,117,115,101,114,10,32,32,32,32,32,32,32,32,114,97,116,101,95,108,105,109,105,116,58,10,32,32,32,32,32,32,32,32,32,32,117,110,105,116,58,32,109,105,110,117,116,101,10,32,32,32,32,32,32,32,32,32,32,114,101,113,117,101,115,116,115,95,112,101,114,95,117,110,105,116,58,32,49,48,10] (fun y3 y4 y5 y6=>wq6f R [] (fun y7 y8 y9 y10=>cond (((y5 == 0)&&(y6 == 0)) == true) (wq6g R y3 y4 [([115,104,111,112],[0])] [([117,115,101,114],([],(true,(0,((@Neg.neg Int @Int.instNegInt (1:Int)),(true,(([],(2,(10,(4605380978949069210,(false,false))))),[])))))))] (fun y11=>cond (y11 == true) (wqan R y3 y4 (fun y12=>cond ((y12 == 0) == true) (wqan R [] [] (fun y13=>cond ((cond (y13 == 1) ((y9 == 11)&&(y10 == 0)) false) == true) (wqbs R y3 y4 [([115,104,111,112],[0])] [([117,115,101,114],([],(true,(0,((@Neg.neg Int @Int.instNegInt (1:Int)),(true,(([],(2,(10,(4605380978949069210,(false,false))))),[])))))))] (fun y14=>cond (y14 == true) (wqbs R y3 y4 [] [] (fun y15=>K (!y15))) (K false))) (K false))) (K false))) (K false))) (K false)))
theorem wq17b(k:Nat)(wqc7:wqjr)(wq6g:wqdq)(wqan:wqjn)(wq6f:(R:Type)→(List dT72)→((List ((List UInt8)×(List Int)))→(List dT56)→Int→Int→Option R)→Option R)(wqbs:wqli)(R:Type): h_law17_awake.at (wqwe k wqc7 wq6g wqan wq6f wqbs) k Tryz.f10 R=@wqwf k wqc7 wq6g wqan wq6f wqbs R:=by kernel_rfl
def wqdr(k:Nat){R:Type}:= @wqwf k (@wqhd k) (@wqai k) (@wqhb k) (@wq9v k) (@wqj4 k) R
theorem wq17c(k:Nat): DOK Tryz.prog 10 (h_law17_awake.run (@wqdr k)):=dok h_law17_awake (wqwe k (@wqhd k) (@wqai k) (@wqhb k) (@wq9v k) (@wqj4 k)) Tryz.f10 k (ok1 (wq14d k) (ok1 (wq10i k) (ok1 (wq146 k) (ok1 (fun _ _ _ _ _ h=>wquv k (by unfold wqh9 at h;unfold wqgc;exact h)) (ok1 (wq17a k) ok0))))) (by kernel_rfl) (by kernel_rfl) fun R=>wq17b k (@wqhd k) (@wqai k) (@wqhb k) (@wq9v k) (@wqj4 k) R
end Go.Proofs.YtabkhphoacmcdaaGreatDoor.Pvm
end
