/- For every number n and both values of domains the Go function ConfigMany returns true. -/
import Derived.Test.YtabkhphoacmcdaaGreatDoorChecked
import Derived.WalkKit
import Derived.WalkSpells
import Derived.WalkLawsBesides
import Derived.Lib.Builder
import Derived.Lib.AppendStr
import Derived.Lib.UnsafeStr
import Derived.Laws.Externs
import Derived.Shelf.RegionOpenPlain
import Derived.Deep.Heap
import Derived.Lib.Bytealg
import Derived.Shelf.GgClosure.StringsIndexFuncTop
import Derived.Shelf.Strings.FuncGrows
import Derived.Shelf.Strings.Repeat
import Derived.Test.YtabkhphoacmcdaaGreatDoorConfigManyM0
import Derived.Test.YtabkhphoacmcdaaGreatDoorConfigManyM1
import Derived.Test.YtabkhphoacmcdaaGreatDoorConfigManyM2
set_option linter.unusedVariables false
set_option linter.unusedSimpArgs false
set_option linter.unusedSectionVars false
noncomputable section
set_option maxRecDepth 1000000
set_option maxHeartbeats 0
namespace Go.Proofs.YtabkhphoacmcdaaGreatDoor.Pvm
open Go Go.Proofs
def h_config_reader_domain:Sh:=⟨[.o 1 79 0 [.s kdT72,.w 21 64 (.pr .str (.sl kI)),.w 51 57 kdT56,.a .flt],.a kI],some ([.o 1 79 0 [.s kdT72,.w 21 64 (.pr .str (.sl kI)),.w 51 57 kdT56,.a .flt]],[]),some ([.o 1 79 0 [.s kdT72,.w 21 64 (.pr .str (.sl kI)),.w 51 57 kdT56,.a .flt]],[.i 29 (.g [.a kI,.a kI])])⟩
abbrev wq3x:Type 1:=(R:Type)→(List dT72)→(List ((List UInt8)×(List Int)))→(List dT56)→Nat→Int→((List dT72)→(List ((List UInt8)×(List Int)))→(List dT56)→Nat→Option R)→((List dT72)→(List ((List UInt8)×(List Int)))→(List dT56)→Nat→Int→Int→Option R)→Option R
def wqdp(k:Nat)(wq9:wq29)(wq2:wq18)(wq1:wqx)(wq0:wqt)(wq8:wq1z)(wq12:wq2p)(wqg:wq27): Cxt:=⟨[h_config_gives.e 69 wq9,h_field_Seen_Known.e 70 wq2,h_config_reader_must.e 73 wq1,h_config_reader_fault.e 75 wq0,h_config_reader_name.e 126 wq8,h_slices_ContainsFunc___api_Domain_api_Domain_domain.e 127 wq12,h_config_reader_list.e 129 wqg],[1],[],[(5,(.of [(0,1),(1,1),(2,1),(3,1),(4,1),(5,1),(6,1),(7,1),(8,0),(9,0),(10,1),(11,1),(12,1),(13,0)] .done)),(7,(.of [(0,1),(1,1),(2,1),(3,1),(5,1),(6,1),(7,1),(8,1),(12,1),(4,1),(9,1),(10,1),(11,1),(13,1),(14,1),(15,0)] .done))]⟩
def wq9a(k:Nat)(wq9:wq29)(wq2:wq18)(wq1:wqx)(wq0:wqt)(wq8:wq1z)(wq12:wq2p)(wqg:wq27){R:Type}(x0:(List dT72))(x1:(List ((List UInt8)×(List Int))))(x2:(List dT56))(x3:Nat)(x4:Int)(K:((List dT72)→(List ((List UInt8)×(List Int)))→(List dT56)→Nat→Option R))(E:((List dT72)→(List ((List UInt8)×(List Int)))→(List dT56)→Nat→Int→Int→Option R)): Option R:=wq2 R x0 x4 [[100,111,109,97,105,110],[100,101,115,99,114,105,112,116,111,114,115]] (fun y9 y10=>wq9 R y9 y10 (fun y11=>wq1 R x0 x4 [100,111,109,97,105,110] (fun y12=>wq8 R x0 y12 (fun y13=>wq12 R x1 y13 (fun y14 y15=>cond y15 (wq0 R x0 y12 7 (fun y16 y17=>E x0 x1 x2 x3 y16 y17)) (cond (fits x1.length (@List.length (@Kd.T (@Kd.pr Kd.str (@Kd.sl kI))) [(y14,[])]) 40) (wqg R x0 (x1++[(y14,[])]) x2 x3 x4 (@Go.IntKind.wrap Go.IntKind.i64 (((x1++[(y14,[])]).length:Int)-1)) (@Neg.neg Int @Int.instNegInt (1:Int)) 1 (fun y16 y17 y18 y19 y20=>cond (inb (@Go.IntKind.wrap Go.IntKind.i64 ((y17.length:Int)-1)) (y17.length:Int)) (@SH (@List (@Kd.T (@Kd.pr Kd.str (@Kd.sl kI)))) R (List.set y17 (@Go.IntKind.wrap Go.IntKind.i64 ((y17.length:Int)-1)).toNat ((y17.getD (@Go.IntKind.wrap Go.IntKind.i64 ((y17.length:Int)-1)).toNat (Kd.zero (@Kd.pr Kd.str (@Kd.sl kI)))).1,y20)) (fun y21=>K y16 y21 y18 y19)) none) E) none))) (fun y13 y14=>E x0 x1 x2 x3 y13 y14)) (fun y12 y13=>E x0 x1 x2 x3 y12 y13)) (fun y11 y12=>E x0 x1 x2 x3 y11 y12))
theorem wqk0(k:Nat)(wq9:wq29)(wq2:wq18)(wq1:wqx)(wq0:wqt)(wq8:wq1z)(wq12:wq2p)(wqg:wq27)(R:Type): h_config_reader_domain.at (wqdp k wq9 wq2 wq1 wq0 wq8 wq12 wqg) k Tryz.f76 R=@wq9a k wq9 wq2 wq1 wq0 wq8 wq12 wqg R:=by kernel_rfl
def wq2f(k:Nat){R:Type}:= @wq9a k (@wqq k) (@wqn k) (@wqk k) (@wqc k) (@wq10 k) (@wq11 k) (@wq8b k) R
theorem wqk1(k:Nat): DOK Tryz.prog 76 (h_config_reader_domain.run (@wq2f k)):=dok h_config_reader_domain (wqdp k (@wqq k) (@wqn k) (@wqk k) (@wqc k) (@wq10 k) (@wq11 k) (@wq8b k)) Tryz.f76 k (ok1 (wq5w k) (ok1 (wq9o k) (ok1 (wq86 k) (ok1 (wq5s k) (ok1 (wqaz k) (ok1 (wq6j k) (ok1 (wqms k) ok0))))))) (by kernel_rfl) (by kernel_rfl) fun R=>wqk0 k (@wqq k) (@wqn k) (@wqk k) (@wqc k) (@wq10 k) (@wq11 k) (@wq8b k) R
def h_config_reader_root:Sh:=⟨[.o 1 79 0 [.s kdT72,.w 21 64 (.pr .str (.sl kI)),.w 51 57 kdT56,.a .flt]],some ([.o 1 79 0 [.s kdT72,.w 21 64 (.pr .str (.sl kI)),.w 51 57 kdT56,.a .flt]],[]),some ([.o 1 79 0 [.s kdT72,.w 21 64 (.pr .str (.sl kI)),.w 51 57 kdT56,.a .flt]],[.i 29 (.g [.a kI,.a kI])])⟩
def u_config_reader_root_1005:Cu:=⟨1,[0,30,31,32],[.o 1 79 0 [.s kdT72,.w 21 64 (.pr .str (.sl kI)),.w 51 57 kdT56,.a .flt],.r 1 0,.s kI,.a kI,.a kI]⟩
def wq8c(k:Nat)(wq9:wq29)(wq2:wq18)(wqh:wq2q)(wq5:wq1u)(wq1:wqx)(wq1k:wq4d)(wq0:wqt)(wq1d:wq3x): Cxt:=⟨[h_config_gives.e 69 wq9,h_field_Seen_Known.e 70 wq2,h_ratio_Parse.e 71 wqh,h_config_reader_ratio.e 72 wq5,h_config_reader_must.e 73 wq1,h_config_reader_items.e 74 wq1k,h_config_reader_fault.e 75 wq0,h_config_reader_domain.e 76 wq1d],[1],[(1005,u_config_reader_root_1005.spec)],[]⟩
def wq5e(k:Nat)(wq9:wq29)(wq2:wq18)(wqh:wq2q)(wq5:wq1u)(wq1:wqx)(wq1k:wq4d)(wq0:wqt)(wq1d:wq3x){R:Type}(E1005:((List dT72)→(List ((List UInt8)×(List Int)))→(List dT56)→Nat→(List Int)→Int→Int→Option R))(s0:(List dT72))(s1:(List ((List UInt8)×(List Int))))(s2:(List dT56))(s3:Nat)(s4:(List Int))(s5 s6:Int)(K:((List dT72)→(List ((List UInt8)×(List Int)))→(List dT56)→Nat→Option R))(E:((List dT72)→(List ((List UInt8)×(List Int)))→(List dT56)→Nat→Int→Int→Option R)): Option R:=cond (decide (s6<s5)) (cond (inb s6 (s4.length:Int)) (cond (decide (s6≥16)) (wq0 R s0 (s4.getD s6.toNat kI.zero) 9 (fun y12 y13=>E s0 s1 s2 s3 y12 y13)) (wq1d R s0 s1 s2 s3 (s4.getD s6.toNat kI.zero) (fun y12 y13 y14 y15=>E1005 y12 y13 y14 y15 s4 s5 (@Go.IntKind.wrap Go.IntKind.i64 (s6+1))) E)) none) (K s0 s1 s2 s3)
def wq8d(k:Nat)(wq9:wq29)(wq2:wq18)(wqh:wq2q)(wq5:wq1u)(wq1:wqx)(wq1k:wq4d)(wq0:wqt)(wq1d:wq3x){R:Type}(E1005:((List dT72)→(List ((List UInt8)×(List Int)))→(List dT56)→Nat→(List Int)→Int→Int→Option R))(x0:(List dT72))(x1:(List ((List UInt8)×(List Int))))(x2:(List dT56))(x3:Nat)(K:((List dT72)→(List ((List UInt8)×(List Int)))→(List dT56)→Nat→Option R))(E:((List dT72)→(List ((List UInt8)×(List Int)))→(List dT56)→Nat→Int→Int→Option R)): Option R:=wq2 R x0 0 [[110,101,97,114],[100,111,109,97,105,110,115]] (fun y9 y10=>wq9 R y9 y10 (fun y11=>wqh R [48,46,56] (fun y12 y13=>wq5 R x0 0 [110,101,97,114] y12 (fun y14=>wq1 R x0 0 [100,111,109,97,105,110,115] (fun y15=>wq1k R x0 0 [100,111,109,97,105,110,115] (fun y16=>E1005 x0 x1 x2 y14 y16 (y16.length:Int) 0) (fun y16 y17=>E x0 x1 x2 y14 y16 y17)) (fun y15 y16=>E x0 x1 x2 y14 y15 y16)) (fun y14 y15=>E x0 x1 x2 y12 y14 y15))) (fun y11 y12=>E x0 x1 x2 x3 y11 y12))
def wq2t(k:Nat)(wq9:wq29)(wq2:wq18)(wqh:wq2q)(wq5:wq1u)(wq1:wqx)(wq1k:wq4d)(wq0:wqt)(wq1d:wq3x){R:Type}: Nat→(List dT72)→(List ((List UInt8)×(List Int)))→(List dT56)→Nat→(List Int)→Int→Int→((List dT72)→(List ((List UInt8)×(List Int)))→(List dT56)→Nat→Option R)→((List dT72)→(List ((List UInt8)×(List Int)))→(List dT56)→Nat→Int→Int→Option R)→Option R
 |0,_,_,_,_,_,_,_,_,_=>none
 |n+1,s0,s1,s2,s3,s4,s5,s6,K,E=>wq5e k wq9 wq2 wqh wq5 wq1 wq1k wq0 wq1d (fun s0 s1 s2 s3 s4 s5 s6=>wq2t k wq9 wq2 wqh wq5 wq1 wq1k wq0 wq1d n s0 s1 s2 s3 s4 s5 s6 K E) s0 s1 s2 s3 s4 s5 s6 K E
theorem wqfd(k:Nat)(wq9:wq29)(wq2:wq18)(wqh:wq2q)(wq5:wq1u)(wq1:wqx)(wq1k:wq4d)(wq0:wqt)(wq1d:wq3x){R:Type}: ∀(I:Nat→St→Option R) (n:Nat),h_config_reader_root.lp u_config_reader_root_1005 (wq8c k wq9 wq2 wqh wq5 wq1 wq1k wq0 wq1d).cx k Tryz.f37 1005 [1,1,1,1,1,0] I n=wq2t k wq9 wq2 wqh wq5 wq1 wq1k wq0 wq1d n:=h_config_reader_root.lok u_config_reader_root_1005 (B:=wq5e k wq9 wq2 wqh wq5 wq1 wq1k wq0 wq1d) (L:=wq2t k wq9 wq2 wqh wq5 wq1 wq1k wq0 wq1d) (fun I=>by kernel_rfl) (fun I=>by kernel_rfl) (fun n=>by kernel_rfl) (fun _ _ _ _=>rfl)
theorem wqmt(k:Nat)(wq9:wq29)(wq2:wq18)(wqh:wq2q)(wq5:wq1u)(wq1:wqx)(wq1k:wq4d)(wq0:wqt)(wq1d:wq3x)(R:Type): h_config_reader_root.at (wq8c k wq9 wq2 wqh wq5 wq1 wq1k wq0 wq1d) k Tryz.f37 R=h_config_reader_root.glue (l:=h_config_reader_root.ps) (u:=u_config_reader_root_1005.fs) (fun E1005=>@wq8d k wq9 wq2 wqh wq5 wq1 wq1k wq0 wq1d R E1005) (h_config_reader_root.lp u_config_reader_root_1005 (wq8c k wq9 wq2 wqh wq5 wq1 wq1k wq0 wq1d).cx k Tryz.f37 1005 [1,1,1,1,1,0] (fun _ _=>none) k):=by kernel_rfl
def wq6k(k:Nat){R:Type}(x0:(List dT72))(x1:(List ((List UInt8)×(List Int))))(x2:(List dT56))(x3:Nat)(K:((List dT72)→(List ((List UInt8)×(List Int)))→(List dT56)→Nat→Option R))(E:((List dT72)→(List ((List UInt8)×(List Int)))→(List dT56)→Nat→Int→Int→Option R)): Option R:=wq8d k (@wqq k) (@wqn k) (@wq2r k) (@wqu k) (@wqk k) (@wq26 k) (@wqc k) (@wq2f k) (fun s0 s1 s2 s3 s4 s5 s6=>wq2t k (@wqq k) (@wqn k) (@wq2r k) (@wqu k) (@wqk k) (@wq26 k) (@wqc k) (@wq2f k) k s0 s1 s2 s3 s4 s5 s6 K E) x0 x1 x2 x3 K E
theorem wqmu(k:Nat): DOK Tryz.prog 37 (h_config_reader_root.run (@wq6k k)):=dok h_config_reader_root (wq8c k (@wqq k) (@wqn k) (@wq2r k) (@wqu k) (@wqk k) (@wq26 k) (@wqc k) (@wq2f k)) Tryz.f37 k (ok1 (wq5w k) (ok1 (wq9o k) (ok1 (wqjw k) (ok1 (wqef k) (ok1 (wq86 k) (ok1 (wqec k) (ok1 (wq5s k) (ok1 (wqk1 k) ok0)))))))) (by kernel_rfl) (by kernel_rfl) fun R=>h_config_reader_root.f1 u_config_reader_root_1005 (wq8d k (@wqq k) (@wqn k) (@wq2r k) (@wqu k) (@wqk k) (@wq26 k) (@wqc k) (@wq2f k)) (wqmt k (@wqq k) (@wqn k) (@wq2r k) (@wqu k) (@wqk k) (@wq26 k) (@wqc k) (@wq2f k) R) (wqfd k (@wqq k) (@wqn k) (@wq2r k) (@wqu k) (@wqk k) (@wq26 k) (@wqc k) (@wq2f k) (fun _ _=>none) k) (by kernel_rfl)
def h_lex_sign:Sh:=⟨[.a (.int .u8)],some ([],[.a .bool]),none⟩
def wq1aa(k:Nat): Cxt:=⟨[],[],[],[]⟩
def wq119(k:Nat){R:Type}(x0:Int)(K:(Bool→Option R)): Option R:=K (cond (cond (cond (cond (cond (cond (decide (x0≥97)) (decide (x0≤122)) false) true (cond (decide (x0≥65)) (decide (x0≤90)) false)) true (cond (decide (x0≥48)) (decide (x0≤57)) false)) true (x0 == 95)) true (x0 == 45)) true (x0 == 46))
def wqk2:=@wq119
theorem wq1ab(k:Nat): DOK Tryz.prog 235 (h_lex_sign.run (@wqk2 k)):=dok h_lex_sign (wq1aa k) Tryz.f235 k ok0 (by kernel_rfl) (by kernel_rfl) fun R=>by kernel_rfl
def wq1ac(k:Nat): Ent:=h_lex_sign.e 235 (@wqk2 k)
def h_lex_Signs:Sh:=⟨[.a .str],some ([],[.a .bool]),none⟩
def u_lex_Signs_1002:Cu:=⟨0,[0,5,6],[.a .str,.a kI,.a kI]⟩
def wqy0(k:Nat): Cxt:=⟨[wq1ac k],[],[(1002,u_lex_Signs_1002.spec)],[]⟩
def wqbx(k:Nat){R:Type}(E1002:((List UInt8)→Int→Int→Option R))(s0:(List UInt8))(s1 s2:Int)(K:(Bool→Option R)): Option R:=cond (decide (s2<s1)) (cond (inb s2 (s0.length:Int)) (wqk2 k ((s0.getD s2.toNat 0).toNat:Int) (fun y7=>cond (!y7) (K false) (E1002 s0 s1 (@Go.IntKind.wrap Go.IntKind.i64 (s2+1))))) none) (K (!(s0 == [])))
def wqqf(k:Nat){R:Type}(E1002:((List UInt8)→Int→Int→Option R))(x0:(List UInt8))(K:(Bool→Option R)): Option R:=E1002 x0 (x0.length:Int) 0
def wq6l(k:Nat){R:Type}: Nat→(List UInt8)→Int→Int→(Bool→Option R)→Option R
 |0,_,_,_,_=>none
 |n+1,s0,s1,s2,K=>wqbx k (fun s0 s1 s2=>wq6l k n s0 s1 s2 K) s0 s1 s2 K
theorem wqo6(k:Nat){R:Type}: ∀(I:Nat→St→Option R) (n:Nat),h_lex_Signs.lp u_lex_Signs_1002 (wqy0 k).cx k Tryz.f202 1002 [1,0,1,0] I n=wq6l k n:=h_lex_Signs.lok u_lex_Signs_1002 (B:=wqbx k) (L:=wq6l k) (fun I=>by kernel_rfl) (fun I=>by kernel_rfl) (fun n=>by kernel_rfl) (fun _ _ _ _=>rfl)
def wqew(k:Nat){R:Type}(x0:(List UInt8))(K:(Bool→Option R)): Option R:=wqqf k (fun s0 s1 s2=>wq6l k k s0 s1 s2 K) x0 K
theorem wqy1(k:Nat): DOK Tryz.prog 202 (h_lex_Signs.run (@wqew k)):=dok h_lex_Signs (wqy0 k) Tryz.f202 k (ok1 (wq1ab k) ok0) (by kernel_rfl) (by kernel_rfl) fun R=>h_lex_Signs.f1 u_lex_Signs_1002 (wqqf k) (by kernel_rfl) (wqo6 k (fun _ _=>none) k) (by kernel_rfl)
def wqy2(k:Nat): Ent:=h_lex_Signs.e 202 (@wqew k)
def h_show_apart:Sh:=⟨[.s .str],some ([],[.a .bool]),none⟩
def u_show_apart_1003:Cu:=⟨0,[3,7,8,9],[.m 73 .one .bool,.s .str,.a kI,.a kI]⟩
def wquj(k:Nat): Cxt:=⟨[wqy2 k],[],[(1003,u_show_apart_1003.spec)],[]⟩
def wqao(k:Nat){R:Type}(E1003:((List (List UInt8×Bool))→(List (List UInt8))→Int→Int→Option R))(s0:(List (List UInt8×Bool)))(s1:(List (List UInt8)))(s2 s3:Int)(K:(Bool→Option R)): Option R:=cond (decide (s3<s2)) (cond (inb s3 (s1.length:Int)) (wqew k (s1.getD s3.toNat Kd.str.zero) (fun y8=>cond ((cond (!y8) true (decide (((s1.getD s3.toNat Kd.str.zero).length:Int)>64))) == false) (cond (mget Kd.bool (s1.getD s3.toNat Kd.str.zero) s0) (K false) (E1003 (mset Kd.bool (s1.getD s3.toNat Kd.str.zero) true s0) s1 s2 (@Go.IntKind.wrap Go.IntKind.i64 (s3+1)))) (K false))) none) (K true)
def wqmv(k:Nat){R:Type}(E1003:((List (List UInt8×Bool))→(List (List UInt8))→Int→Int→Option R))(x0:(List (List UInt8)))(K:(Bool→Option R)): Option R:=E1003 [] x0 (x0.length:Int) 0
def wq5o(k:Nat){R:Type}: Nat→(List (List UInt8×Bool))→(List (List UInt8))→Int→Int→(Bool→Option R)→Option R
 |0,_,_,_,_,_=>none
 |n+1,s0,s1,s2,s3,K=>wqao k (fun s0 s1 s2 s3=>wq5o k n s0 s1 s2 s3 K) s0 s1 s2 s3 K
theorem wqmw(k:Nat){R:Type}: ∀(I:Nat→St→Option R) (n:Nat),h_show_apart.lp u_show_apart_1003 (wquj k).cx k Tryz.f165 1003 [1,1,0,1,0] I n=wq5o k n:=h_show_apart.lok u_show_apart_1003 (B:=wqao k) (L:=wq5o k) (fun I=>by kernel_rfl) (fun I=>by kernel_rfl) (fun n=>by kernel_rfl) (fun _ _ _ _=>rfl)
def wqfe(k:Nat){R:Type}(x0:(List (List UInt8)))(K:(Bool→Option R)): Option R:=wqmv k (fun s0 s1 s2 s3=>wq5o k k s0 s1 s2 s3 K) x0 K
theorem wq13t(k:Nat): DOK Tryz.prog 165 (h_show_apart.run (@wqfe k)):=dok h_show_apart (wquj k) Tryz.f165 k (ok1 (wqy1 k) ok0) (by kernel_rfl) (by kernel_rfl) fun R=>h_show_apart.f1 u_show_apart_1003 (wqmv k) (by kernel_rfl) (wqmw k (fun _ _=>none) k) (by kernel_rfl)
def wq13u(k:Nat): Ent:=h_show_apart.e 165 (@wqfe k)
def wqre:List LS:=[.obj 1 [.sl (.pr (.int .i64) (.pr (.int .i64) (.pr (.int .i64) (.pr .str .bool))))],.obj 2 [.any,.any]]
def wqrf(k:Nat): CTab:=CTab.nil
def wqff{R:Type}(K:((List dT156)→Int→Int→Option R)): Out→Option R
 |.ret [] [(1,.var 110 [.v (.sl (.pr (.int .i64) (.pr (.int .i64) (.pr (.int .i64) (.pr .str .bool))))) y0]),(2,.var 29 [.v (.int .i64) y1,.v (.int .i64) y2])]=>K y0 y1 y2
 |_=>none
def wqo7:RetSpec:=⟨[],[(1,.obj 1 [.sl (.pr (.int .i64) (.pr (.int .i64) (.pr (.int .i64) (.pr .str .bool))))]),(2,.obj 2 [.any,.any])],[]⟩
def wquk:List (Nat×CutSpec):=[]
def wqsh:List (Nat×Plan):=[(7,(.of [(0,2),(1,0),(2,0)] .done))]
def wqi9(k:Nat): Ctx:=⟨tyT,wquk,wqrf k,[],[1,2],wqsh,@SH⟩
def wqby:Code:=Tryz.f149.body.getD .skip
def wqk3(k:Nat){R:Type}(x0:(List dT156))(x1 x2:Int)(K:((List dT156)→Int→Int→Option R)): Option R:=K x0 x1 x2
theorem wqul(k:Nat){R:Type}(I:Nat→St→Option R)(x0:(List dT156))(x1 x2:Int)(K:((List dT156)→Int→Int→Option R)): fnCK (wqi9 k) k (at_ [1] wqby) 12 [] wqo7 [.ptr 1 0,.ptr 2 0] 5 (.nilif) [(1,.var 110 [.v (.sl (.pr (.int .i64) (.pr (.int .i64) (.pr (.int .i64) (.pr .str .bool))))) x0]),(2,.var 29 [.v (.int .i64) x1,.v (.int .i64) x2])] (wqff K)=wqk3 k x0 x1 x2 K:=by kernel_rfl
def wqdq(k:Nat){R:Type}(x0:(List dT156))(x1 x2:Int)(K:((List dT156)→Int→Int→Option R)): Option R:=wqk3 k x0 x1 x2 K
theorem wqum(k:Nat){R:Type}(x0:(List dT156))(x1 x2:Int)(K:((List dT156)→Int→Int→Option R)): fnCK (wqi9 k) k (at_ [1] wqby) 12 [] wqo7 [.ptr 1 0,.ptr 2 0] 5 (.nilif) [(1,.var 110 [.v (.sl (.pr (.int .i64) (.pr (.int .i64) (.pr (.int .i64) (.pr .str .bool))))) x0]),(2,.var 29 [.v (.int .i64) x1,.v (.int .i64) x2])] (wqff K)=wqdq k x0 x1 x2 K:=by
 exact wqul k (fun _ _=>none) x0 x1 x2 K
def wqm2(k:Nat){R:Type}: PV→List PV→List (Nm×HObj)→(Out→Option R)→Option R
 |.nilif,[.ptr 1 0,.ptr 2 0],[(1,.var 110 [.v (.sl (.pr (.int .i64) (.pr (.int .i64) (.pr (.int .i64) (.pr .str .bool))))) x0]),(2,.var 29 [.v (.int .i64) x1,.v (.int .i64) x2])],K=>wqdq k x0 x1 x2 (fun y0 y1 y2=>K (.ret [] [(1,.var 110 [.v (.sl (.pr (.int .i64) (.pr (.int .i64) (.pr (.int .i64) (.pr .str .bool))))) y0]),(2,.var 29 [.v (.int .i64) y1,.v (.int .i64) y2])]))
 |_,_,_,_=>none
theorem wqun(k:Nat): (wqrf k).Ok Tryz.prog:=CTab.nil_ok
theorem wqz8(k:Nat){rec:PV}{ps:List PV}{hp:List (Nm×HObj)}{R:Type}{K:Out→Option R}{r:R}(h:wqm2 k rec ps hp K=some r): DoesToD Tryz.prog 149 rec ps hp fun out=>K out=some r:=by
 unfold wqm2 at h
 split at h
 ·rw[←wqum]at h
  have:=wqxs (P:=Tryz.prog) (cx:=wqi9 k) (f:=149) ⟨tyT_ok,wqun k,fun _ _=>rfl⟩ (by kernel_rfl) (fn:=Tryz.f149) (id:=0) (ops:=opsAt (at_ [0] wqby)) (c:=at_ [1] wqby) (by kernel_rfl) (by kernel_rfl) (by kernel_rfl) (rs:=[]) (by kernel_rfl) (by kernel_rfl) h
  exact this.mono fun out ho=>by
   unfold wqff at ho
   split at ho<;>first|exact ho|cases ho
 ·cases h
def wqrg(k:Nat): CTab:=CTab.nil
def wqfg{R:Type}(K:((List dT156)→Int→Int→Option R)): Out→Option R
 |.ret [] [(1,.var 110 [.v (.sl (.pr (.int .i64) (.pr (.int .i64) (.pr (.int .i64) (.pr .str .bool))))) y0]),(2,.var 29 [.v (.int .i64) y1,.v (.int .i64) y2])]=>K y0 y1 y2
 |_=>none
def wqo8:RetSpec:=⟨[],[(1,.obj 1 [.sl (.pr (.int .i64) (.pr (.int .i64) (.pr (.int .i64) (.pr .str .bool))))]),(2,.obj 2 [.any,.any])],[]⟩
def wquo:List (Nat×CutSpec):=[]
def wqsi:List (Nat×Plan):=[(7,(.of [(0,2),(1,0),(2,0)] .done))]
def wqia(k:Nat): Ctx:=⟨tyT,wquo,wqrg k,[],[1,2],wqsi,@SH⟩
def wqbz:Code:=Tryz.f149.body.getD .skip
def wqk4(k:Nat){R:Type}(x0:(List dT156))(x1 x2 x3 x4:Int)(K:((List dT156)→Int→Int→Option R)): Option R:=K [] x3 x4
theorem wqup(k:Nat){R:Type}(I:Nat→St→Option R)(x0:(List dT156))(x1 x2 x3 x4:Int)(K:((List dT156)→Int→Int→Option R)): fnCK (wqia k) k (at_ [1] wqbz) 12 [] wqo8 [.ptr 1 0,.ptr 2 0] 5 (.ifc 29 (.agg [.v (.int .i64) x3,.v (.int .i64) x4])) [(1,.var 110 [.v (.sl (.pr (.int .i64) (.pr (.int .i64) (.pr (.int .i64) (.pr .str .bool))))) x0]),(2,.var 29 [.v (.int .i64) x1,.v (.int .i64) x2])] (wqfg K)=wqk4 k x0 x1 x2 x3 x4 K:=by kernel_rfl
def wqdr(k:Nat){R:Type}(x0:(List dT156))(x1 x2 x3 x4:Int)(K:((List dT156)→Int→Int→Option R)): Option R:=wqk4 k x0 x1 x2 x3 x4 K
theorem wquq(k:Nat){R:Type}(x0:(List dT156))(x1 x2 x3 x4:Int)(K:((List dT156)→Int→Int→Option R)): fnCK (wqia k) k (at_ [1] wqbz) 12 [] wqo8 [.ptr 1 0,.ptr 2 0] 5 (.ifc 29 (.agg [.v (.int .i64) x3,.v (.int .i64) x4])) [(1,.var 110 [.v (.sl (.pr (.int .i64) (.pr (.int .i64) (.pr (.int .i64) (.pr .str .bool))))) x0]),(2,.var 29 [.v (.int .i64) x1,.v (.int .i64) x2])] (wqfg K)=wqdr k x0 x1 x2 x3 x4 K:=by
 exact wqup k (fun _ _=>none) x0 x1 x2 x3 x4 K
def wqm3(k:Nat){R:Type}: PV→List PV→List (Nm×HObj)→(Out→Option R)→Option R
 |.ifc 29 (.agg [.v (.int .i64) x3,.v (.int .i64) x4]),[.ptr 1 0,.ptr 2 0],[(1,.var 110 [.v (.sl (.pr (.int .i64) (.pr (.int .i64) (.pr (.int .i64) (.pr .str .bool))))) x0]),(2,.var 29 [.v (.int .i64) x1,.v (.int .i64) x2])],K=>wqdr k x0 x1 x2 x3 x4 (fun y0 y1 y2=>K (.ret [] [(1,.var 110 [.v (.sl (.pr (.int .i64) (.pr (.int .i64) (.pr (.int .i64) (.pr .str .bool))))) y0]),(2,.var 29 [.v (.int .i64) y1,.v (.int .i64) y2])]))
 |_,_,_,_=>none
theorem wqur(k:Nat): (wqrg k).Ok Tryz.prog:=CTab.nil_ok
theorem wqz9(k:Nat){rec:PV}{ps:List PV}{hp:List (Nm×HObj)}{R:Type}{K:Out→Option R}{r:R}(h:wqm3 k rec ps hp K=some r): DoesToD Tryz.prog 149 rec ps hp fun out=>K out=some r:=by
 unfold wqm3 at h
 split at h
 ·rw[←wquq]at h
  have:=wqxs (P:=Tryz.prog) (cx:=wqia k) (f:=149) ⟨tyT_ok,wqur k,fun _ _=>rfl⟩ (by kernel_rfl) (fn:=Tryz.f149) (id:=0) (ops:=opsAt (at_ [0] wqbz)) (c:=at_ [1] wqbz) (by kernel_rfl) (by kernel_rfl) (by kernel_rfl) (rs:=[]) (by kernel_rfl) (by kernel_rfl) h
  exact this.mono fun out ho=>by
   unfold wqfg at ho
   split at ho<;>first|exact ho|cases ho
 ·cases h
def h_strings_HasPrefix:Sh:=⟨[.a .str,.a .str],some ([],[.a .bool]),none⟩
def wqo9(k:Nat): Cxt:=⟨[wqj1 k],[],[],[]⟩
def wqg1(k:Nat){R:Type}(x0 x1:(List UInt8))(K:(Bool→Option R)): Option R:=wq72 k x0 x1 K
def wq92:=@wqg1
theorem wqoa(k:Nat): DOK Tryz.prog 41 (h_strings_HasPrefix.run (@wq92 k)):=dok h_strings_HasPrefix (wqo9 k) Tryz.f41 k (ok1 (wqj0 k) ok0) (by kernel_rfl) (by kernel_rfl) fun R=>by kernel_rfl
def wqob(k:Nat): Ent:=h_strings_HasPrefix.e 41 (@wq92 k)
def h_lex_dash:Sh:=⟨[.a .str],some ([],[.a .bool]),none⟩
abbrev wqqg:Type 1:=(R:Type)→(List UInt8)→(Bool→Option R)→Option R
def wq1ad(k:Nat): Cxt:=⟨[wqob k],[],[],[]⟩
def wq11a(k:Nat){R:Type}(x0:(List UInt8))(K:(Bool→Option R)): Option R:=cond ((x0 == [(45:UInt8)]) == false) (wq92 k x0 [45,32] K) (K true)
def wqds:=@wq11a
theorem wq11b(k:Nat): DOK Tryz.prog 193 (h_lex_dash.run (@wqds k)):=dok h_lex_dash (wq1ad k) Tryz.f193 k (ok1 (wqoa k) ok0) (by kernel_rfl) (by kernel_rfl) fun R=>by kernel_rfl
def wq1ae(k:Nat): Ent:=h_lex_dash.e 193 (@wqds k)
def h_lex_key:Sh:=⟨[.a .str],some ([],[.a .str]),none⟩
abbrev wqus:Type 1:=(R:Type)→(List UInt8)→((List UInt8)→Option R)→Option R
def wq1cr(k:Nat): Cxt:=⟨[wq114 k,wqy2 k],[],[],[]⟩
def wq16g(k:Nat){R:Type}(x0:(List UInt8))(K:((List UInt8)→Option R)): Option R:=wq82 k x0 58 (fun y4 y5 y6=>cond ((!y6) == false) (wqew k y4 (fun y7=>cond ((!(((!y7) == false)&&((!(y5 == [])) == true))) || (inb 0 (y5.length:Int))) (cond (cond (!y7) true (cond (!(y5 == [])) (((y5.getD (Int.toNat 0) 0).toNat:Int) != 32) false)) (K []) (K y4)) none)) (K []))
def wqem:=@wq16g
theorem wq16h(k:Nat): DOK Tryz.prog 195 (h_lex_key.run (@wqem k)):=dok h_lex_key (wq1cr k) Tryz.f195 k (ok1 (wqrc k) (ok1 (wqy1 k) ok0)) (by kernel_rfl) (by kernel_rfl) fun R=>by kernel_rfl
def wq1cs(k:Nat): Ent:=h_lex_key.e 195 (@wqem k)
def h_lex_lexer_gives:Sh:=⟨[.o 1 200 0 [.a kI,.a kI,.a .str,.a kI,.w 21 157 kdT156],.a kI],some ([.o 1 200 0 [.a kI,.a kI,.a .str,.a kI,.w 21 157 kdT156]],[]),some ([.o 1 200 0 [.a kI,.a kI,.a .str,.a kI,.w 21 157 kdT156]],[.i 29 (.g [.a kI,.a kI])])⟩
abbrev wqcu:Type 1:=(R:Type)→Int→Int→(List UInt8)→Int→(List dT156)→Int→(Int→Int→(List UInt8)→Int→(List dT156)→Option R)→(Int→Int→(List UInt8)→Int→(List dT156)→Int→Int→Option R)→Option R
def wqsj(k:Nat): Cxt:=⟨[],[1],[],[]⟩
def wqsk(k:Nat){R:Type}(x0 x1:Int)(x2:(List UInt8))(x3:Int)(x4:(List dT156))(x5:Int)(K:(Int→Int→(List UInt8)→Int→(List dT156)→Option R))(E:(Int→Int→(List UInt8)→Int→(List dT156)→Int→Int→Option R)): Option R:=E x0 x1 x2 x3 x4 x5 x0
def wq1y:=@wqsk
theorem wq8p(k:Nat): DOK Tryz.prog 191 (h_lex_lexer_gives.run (@wq1y k)):=dok h_lex_lexer_gives (wqsj k) Tryz.f191 k ok0 (by kernel_rfl) (by kernel_rfl) fun R=>by kernel_rfl
def wqap(k:Nat): Ent:=h_lex_lexer_gives.e 191 (@wq1y k)
def h_lex_lexer_piece:Sh:=⟨[.o 1 200 0 [.a kI,.a kI,.a .str,.a kI,.w 21 157 kdT156],.a kI,.a .str,.a .bool,.a kI],some ([.o 1 200 0 [.a kI,.a kI,.a .str,.a kI,.w 21 157 kdT156]],[]),none⟩
abbrev wqcv:Type 1:=(R:Type)→Int→Int→(List UInt8)→Int→(List dT156)→Int→(List UInt8)→Bool→Int→(Int→Int→(List UInt8)→Int→(List dT156)→Option R)→Option R
def wqsl(k:Nat): Cxt:=⟨[],[1],[],[(0,(.of [(0,1),(1,1),(2,1),(3,1),(5,1),(6,1),(7,1),(8,1),(9,1),(11,1),(12,1),(13,1),(14,1),(16,1),(17,1),(18,1),(21,1),(22,1),(4,1),(10,1),(15,1),(19,1),(20,1),(23,1),(24,0),(25,0),(26,1),(27,1),(28,0)] .done))]⟩
def wqj4(k:Nat){R:Type}(x0 x1:Int)(x2:(List UInt8))(x3:Int)(x4:(List dT156))(x5:Int)(x6:(List UInt8))(x7:Bool)(x8:Int)(K:(Int→Int→(List UInt8)→Int→(List dT156)→Option R)): Option R:=cond (fits x4.length (@List.length (@Kd.T kdT156) [(x5,(x0,((@Go.IntKind.wrap Go.IntKind.i64 (x1+x3)),(x6,x7))))]) 48) (K x0 x1 x2 (@Go.IntKind.wrap Go.IntKind.i64 (x3+x8)) (x4++[(x5,(x0,((@Go.IntKind.wrap Go.IntKind.i64 (x1+x3)),(x6,x7))))])) none
def wq3d:=@wqj4
theorem wqj5(k:Nat): DOK Tryz.prog 194 (h_lex_lexer_piece.run (@wq3d k)):=dok h_lex_lexer_piece (wqsl k) Tryz.f194 k ok0 (by kernel_rfl) (by kernel_rfl) fun R=>by kernel_rfl
def wqsm(k:Nat): Ent:=h_lex_lexer_piece.e 194 (@wq3d k)
def h_lex_lexer_rest:Sh:=⟨[.o 1 200 0 [.a kI,.a kI,.a .str,.a kI,.w 21 157 kdT156]],some ([.o 1 200 0 [.a kI,.a kI,.a .str,.a kI,.w 21 157 kdT156]],[.a .str]),none⟩
def u_lex_lexer_rest_1001:Cu:=⟨1,[0],[.o 1 200 0 [.a kI,.a kI,.a .str,.a kI,.w 21 157 kdT156],.r 1 0]⟩
def wqk5(k:Nat): Cxt:=⟨[],[1],[(1001,u_lex_lexer_rest_1001.spec)],[(1,(.of [(0,1),(1,1),(2,1),(4,1),(5,1),(6,1),(7,1),(3,1),(8,1),(9,1),(10,1),(11,1),(12,1),(13,1),(14,1),(15,1),(17,1),(18,1),(19,1),(16,1),(20,1),(21,1),(22,1),(23,1)] .done)),(3,(.of [(0,1),(1,1),(2,1),(3,1),(5,1),(6,1),(7,1),(4,1),(8,1),(9,1),(10,1)] .done))]⟩
def wq7y(k:Nat){R:Type}(E1001:(Int→Int→(List UInt8)→Int→(List dT156)→Option R))(s0 s1:Int)(s2:(List UInt8))(s3:Int)(s4:(List dT156))(K:(Int→Int→(List UInt8)→Int→(List dT156)→(List UInt8)→Option R)): Option R:=cond ((!((decide (s3<(s2.length:Int))) == true)) || (inb s3 (s2.length:Int))) (cond (cond (decide (s3<(s2.length:Int))) (((s2.getD s3.toNat 0).toNat:Int) == 32) false) (E1001 s0 s1 s2 (@Go.IntKind.wrap Go.IntKind.i64 (s3+1)) s4) (cond (bnd s3 (s2.length:Int) (s2.length:Int)) (K s0 s1 s2 s3 s4 (cut s2 s3 (s2.length:Int))) none)) none
def wqfh(k:Nat){R:Type}(E1001:(Int→Int→(List UInt8)→Int→(List dT156)→Option R))(x0 x1:Int)(x2:(List UInt8))(x3:Int)(x4:(List dT156))(K:(Int→Int→(List UInt8)→Int→(List dT156)→(List UInt8)→Option R)): Option R:=E1001 x0 x1 x2 x3 x4
def wq3t(k:Nat){R:Type}: Nat→Int→Int→(List UInt8)→Int→(List dT156)→(Int→Int→(List UInt8)→Int→(List dT156)→(List UInt8)→Option R)→Option R
 |0,_,_,_,_,_,_=>none
 |n+1,s0,s1,s2,s3,s4,K=>wq7y k (fun s0 s1 s2 s3 s4=>wq3t k n s0 s1 s2 s3 s4 K) s0 s1 s2 s3 s4 K
theorem wqib(k:Nat){R:Type}: ∀(I:Nat→St→Option R) (n:Nat),h_lex_lexer_rest.lp u_lex_lexer_rest_1001 (wqk5 k).cx k Tryz.f192 1001 [1,0,0] I n=wq3t k n:=h_lex_lexer_rest.lok u_lex_lexer_rest_1001 (B:=wq7y k) (L:=wq3t k) (fun I=>by kernel_rfl) (fun I=>by kernel_rfl) (fun n=>by kernel_rfl) (fun _ _ _ _=>rfl)
def wq4n(k:Nat){R:Type}(x0 x1:Int)(x2:(List UInt8))(x3:Int)(x4:(List dT156))(K:(Int→Int→(List UInt8)→Int→(List dT156)→(List UInt8)→Option R)): Option R:=wqfh k (fun s0 s1 s2 s3 s4=>wq3t k k s0 s1 s2 s3 s4 K) x0 x1 x2 x3 x4 K
theorem wqut(k:Nat): DOK Tryz.prog 192 (h_lex_lexer_rest.run (@wq4n k)):=dok h_lex_lexer_rest (wqk5 k) Tryz.f192 k ok0 (by kernel_rfl) (by kernel_rfl) fun R=>h_lex_lexer_rest.f1 u_lex_lexer_rest_1001 (wqfh k) (by kernel_rfl) (wqib k (fun _ _=>none) k) (by kernel_rfl)
def wquu(k:Nat): Ent:=h_lex_lexer_rest.e 192 (@wq4n k)
def h_strings_IndexByte:Sh:=⟨[.a .str,.a (.int .u8)],some ([],[.a kI]),none⟩
abbrev wqb2:Type 1:=(R:Type)→(List UInt8)→Int→(Int→Option R)→Option R
def wqoc(k:Nat): Cxt:=⟨[wqiz k],[],[],[]⟩
def wqod(k:Nat){R:Type}(x0:(List UInt8))(x1:Int)(K:(Int→Option R)): Option R:=wq8n k x0 x1 K
def wq2b:=@wqod
theorem wqg2(k:Nat): DOK Tryz.prog 231 (h_strings_IndexByte.run (@wq2b k)):=dok h_strings_IndexByte (wqoc k) Tryz.f231 k (ok1 (wqiy k) ok0) (by kernel_rfl) (by kernel_rfl) fun R=>by kernel_rfl
def wqoe(k:Nat): Ent:=h_strings_IndexByte.e 231 (@wq2b k)
def h_lex_lexer_taken:Sh:=⟨[.o 1 200 0 [.a kI,.a kI,.a .str,.a kI,.w 21 157 kdT156],.a .str],some ([.o 1 200 0 [.a kI,.a kI,.a .str,.a kI,.w 21 157 kdT156]],[.a (.int .u8),.a kI]),some ([.o 1 200 0 [.a kI,.a kI,.a .str,.a kI,.w 21 157 kdT156]],[.i 29 (.g [.a kI,.a kI])])⟩
def wqsn(k:Nat): Cxt:=⟨[wqap k,wqoe k],[1],[],[(14,(.of [(0,1),(1,1),(3,1),(4,1),(2,0),(5,0),(6,1),(7,1)] .done))]⟩
def wqj6(k:Nat){R:Type}(x0 x1:Int)(x2:(List UInt8))(x3:Int)(x4:(List dT156))(x5:(List UInt8))(K E:(Int→Int→(List UInt8)→Int→(List dT156)→Int→Int→Option R)): Option R:=cond (x5 == []) (wq1y k x0 x1 x2 x3 x4 3 (fun y10 y11 y12 y13 y14=>cond (inb 0 (x5.length:Int)) (cond (((x5.getD (Int.toNat 0) 0).toNat:Int) == 92) (cond (inb 0 (x5.length:Int)) (K y10 y11 y12 y13 y14 ((x5.getD (Int.toNat 0) 0).toNat:Int) 1) none) (cond (((x5.getD (Int.toNat 0) 0).toNat:Int) == 34) (cond (inb 0 (x5.length:Int)) (K y10 y11 y12 y13 y14 ((x5.getD (Int.toNat 0) 0).toNat:Int) 1) none) (cond (((x5.getD (Int.toNat 0) 0).toNat:Int) == 110) (K y10 y11 y12 y13 y14 10 1) (cond (((x5.getD (Int.toNat 0) 0).toNat:Int) == 116) (K y10 y11 y12 y13 y14 9 1) (cond (((x5.getD (Int.toNat 0) 0).toNat:Int) == 120) (cond (decide ((x5.length:Int)<3)) (wq1y k y10 y11 y12 y13 y14 3 (fun y15 y16 y17 y18 y19=>cond (inb 1 (x5.length:Int)) (cond (inb 2 (x5.length:Int)) (wq2b k [48,49,50,51,52,53,54,55,56,57,97,98,99,100,101,102] ((x5.getD (Int.toNat 1) 0).toNat:Int) (fun y20=>wq2b k [48,49,50,51,52,53,54,55,56,57,97,98,99,100,101,102] ((x5.getD (Int.toNat 2) 0).toNat:Int) (fun y21=>cond (cond (decide (y20<0)) true (decide (y21<0))) (wq1y k y15 y16 y17 y18 y19 3 (fun y22 y23 y24 y25 y26=>K y22 y23 y24 y25 y26 (@Go.IntKind.wrap Go.IntKind.u8 (@Go.IntKind.wrap Go.IntKind.i64 ((@Go.IntKind.wrap Go.IntKind.i64 ((16:Int)*y20))+y21))) 3) E) (K y15 y16 y17 y18 y19 (@Go.IntKind.wrap Go.IntKind.u8 (@Go.IntKind.wrap Go.IntKind.i64 ((@Go.IntKind.wrap Go.IntKind.i64 ((16:Int)*y20))+y21))) 3)))) none) none) E) (cond (inb 1 (x5.length:Int)) (cond (inb 2 (x5.length:Int)) (wq2b k [48,49,50,51,52,53,54,55,56,57,97,98,99,100,101,102] ((x5.getD (Int.toNat 1) 0).toNat:Int) (fun y15=>wq2b k [48,49,50,51,52,53,54,55,56,57,97,98,99,100,101,102] ((x5.getD (Int.toNat 2) 0).toNat:Int) (fun y16=>cond (cond (decide (y15<0)) true (decide (y16<0))) (wq1y k y10 y11 y12 y13 y14 3 (fun y17 y18 y19 y20 y21=>K y17 y18 y19 y20 y21 (@Go.IntKind.wrap Go.IntKind.u8 (@Go.IntKind.wrap Go.IntKind.i64 ((@Go.IntKind.wrap Go.IntKind.i64 ((16:Int)*y15))+y16))) 3) E) (K y10 y11 y12 y13 y14 (@Go.IntKind.wrap Go.IntKind.u8 (@Go.IntKind.wrap Go.IntKind.i64 ((@Go.IntKind.wrap Go.IntKind.i64 ((16:Int)*y15))+y16))) 3)))) none) none)) (wq1y k y10 y11 y12 y13 y14 3 (fun y15 y16 y17 y18 y19=>K y15 y16 y17 y18 y19 0 0) E)))))) none) E) (cond (inb 0 (x5.length:Int)) (cond (((x5.getD (Int.toNat 0) 0).toNat:Int) == 92) (cond (inb 0 (x5.length:Int)) (K x0 x1 x2 x3 x4 ((x5.getD (Int.toNat 0) 0).toNat:Int) 1) none) (cond (((x5.getD (Int.toNat 0) 0).toNat:Int) == 34) (cond (inb 0 (x5.length:Int)) (K x0 x1 x2 x3 x4 ((x5.getD (Int.toNat 0) 0).toNat:Int) 1) none) (cond (((x5.getD (Int.toNat 0) 0).toNat:Int) == 110) (K x0 x1 x2 x3 x4 10 1) (cond (((x5.getD (Int.toNat 0) 0).toNat:Int) == 116) (K x0 x1 x2 x3 x4 9 1) (cond (((x5.getD (Int.toNat 0) 0).toNat:Int) == 120) (cond (decide ((x5.length:Int)<3)) (wq1y k x0 x1 x2 x3 x4 3 (fun y10 y11 y12 y13 y14=>cond (inb 1 (x5.length:Int)) (cond (inb 2 (x5.length:Int)) (wq2b k [48,49,50,51,52,53,54,55,56,57,97,98,99,100,101,102] ((x5.getD (Int.toNat 1) 0).toNat:Int) (fun y15=>wq2b k [48,49,50,51,52,53,54,55,56,57,97,98,99,100,101,102] ((x5.getD (Int.toNat 2) 0).toNat:Int) (fun y16=>cond (cond (decide (y15<0)) true (decide (y16<0))) (wq1y k y10 y11 y12 y13 y14 3 (fun y17 y18 y19 y20 y21=>K y17 y18 y19 y20 y21 (@Go.IntKind.wrap Go.IntKind.u8 (@Go.IntKind.wrap Go.IntKind.i64 ((@Go.IntKind.wrap Go.IntKind.i64 ((16:Int)*y15))+y16))) 3) E) (K y10 y11 y12 y13 y14 (@Go.IntKind.wrap Go.IntKind.u8 (@Go.IntKind.wrap Go.IntKind.i64 ((@Go.IntKind.wrap Go.IntKind.i64 ((16:Int)*y15))+y16))) 3)))) none) none) E) (cond (inb 1 (x5.length:Int)) (cond (inb 2 (x5.length:Int)) (wq2b k [48,49,50,51,52,53,54,55,56,57,97,98,99,100,101,102] ((x5.getD (Int.toNat 1) 0).toNat:Int) (fun y10=>wq2b k [48,49,50,51,52,53,54,55,56,57,97,98,99,100,101,102] ((x5.getD (Int.toNat 2) 0).toNat:Int) (fun y11=>cond (cond (decide (y10<0)) true (decide (y11<0))) (wq1y k x0 x1 x2 x3 x4 3 (fun y12 y13 y14 y15 y16=>K y12 y13 y14 y15 y16 (@Go.IntKind.wrap Go.IntKind.u8 (@Go.IntKind.wrap Go.IntKind.i64 ((@Go.IntKind.wrap Go.IntKind.i64 ((16:Int)*y10))+y11))) 3) E) (K x0 x1 x2 x3 x4 (@Go.IntKind.wrap Go.IntKind.u8 (@Go.IntKind.wrap Go.IntKind.i64 ((@Go.IntKind.wrap Go.IntKind.i64 ((16:Int)*y10))+y11))) 3)))) none) none)) (wq1y k x0 x1 x2 x3 x4 3 (fun y10 y11 y12 y13 y14=>K y10 y11 y12 y13 y14 0 0) E)))))) none)
def wq8q:=@wqj6
theorem wqso(k:Nat): DOK Tryz.prog 255 (h_lex_lexer_taken.run (@wq8q k)):=dok h_lex_lexer_taken (wqsn k) Tryz.f255 k (ok1 (wq8p k) (ok1 (wqg2 k) ok0)) (by kernel_rfl) (by kernel_rfl) fun R=>by kernel_rfl
def wqsp(k:Nat): Ent:=h_lex_lexer_taken.e 255 (@wq8q k)
end Go.Proofs.YtabkhphoacmcdaaGreatDoor.Pvm
set_option maxHeartbeats 2000000
set_option maxRecDepth 100000
namespace Go.Proofs.YtabkhphoacmcdaaGreatDoor.Pvm
open Go Go.Proofs Go.RowKit
theorem wq13v (b g cap:Nat) (p:Value) (l:List UInt8) (cur:Array Value) (w:World) (hbk:w.heap[b]? = some (.cells #[p,.slice (some ⟨g,0,none⟩) l.length cap] 89 (0,0))) (h0:l≠[])
 (hg:w.heap[g]? = some (.cells cur 5 (0,0))) (hnc:l.length≤cap) (hcm:cap≤maxLen) (hcs:cur.size=cap) (htake:∀(j:Nat) (x:UInt8),l[j]? = some x→w.cell? ⟨g,j,none⟩=some (.int .u8 x.toNat)) :
 Calls Tryz.prog 45 #[.pointer (some ⟨b,0,none⟩)] w fun e w'=>e = .returned (.string ⟨l.toArray⟩)∧w'=w.drew.freeze ⟨g,0,none⟩ l.length:=by
 have hl0:l.length≠0:=by simpa using h0
 have mixed:Tryz.prog.follows .mixedOrders=true:=by kernel_rfl
 have t86:Tryz.prog.underlying 140=some (.pointer 5):=by kernel_rfl
 have c1:w.drew.cell? ⟨b,1,none⟩=some (.slice (some ⟨g,0,none⟩) l.length cap):=by
  have:w.drew.heap[b]? = some (.cells #[p,.slice (some ⟨g,0,none⟩) l.length cap] 89 (0,0)):=hbk
  rw[Lib.cell_of_heap this];rfl
 have hSD:(Builtin.unsafeSliceData_ #[22] 140 #[.slice (some ⟨g,0,none⟩) l.length cap]).run Tryz.prog w.drew = .ok (.pointer (some ⟨g,0,none⟩)) w.drew :=
  Lib.run_unsafeSliceData_row _ _ _ _ _ _ (by omega)
 have hUS:(Builtin.unsafeString_ #[140,3] 9 #[.pointer (some ⟨g,0,none⟩),.int .i64 l.length]).run Tryz.prog w.drew = .ok (.string ⟨l.toArray⟩) (w.drew.freeze ⟨g,0,none⟩ l.length):=by
  refine Lib.run_unsafeString_row w.drew 140 3 9 5 t86 (by kernel_rfl) g cur.size (by have hg':w.drew.heap[g]? = some (.cells cur 5 (0,0)):=hg;simp[World.shape?,hg']) l h0 (by omega) (by unfold maxLen at hcm;omega) ?_
  intro j x hx
  have:=htake j x hx
  rw[show(⟨g,0,none⟩:Addr).add j=⟨g,j,none⟩ by simp[Addr.add];omega]
  exact this
 go_enter Tryz.func45,Tryz.ntmps45
 go_wp2
 go_region_o
 all_goals (go_wp2;go_ret;exact⟨rfl,rfl⟩)
theorem wq1af(W:World)(q:Option Addr): (Builtin.unsafeString_ #[140,3] 9 #[.pointer q,.int .i64 0]).run Tryz.prog W = .ok (.string .empty) W :=
 Lib.run_unsafeString_none W _ _ _ q
theorem wq1ag(b:Nat)(p:Value)(w:World)(hbk:w.heap[b]? = some (.cells #[p,.slice none 0 0] 89 (0,0))):
 Calls Tryz.prog 45 #[.pointer (some ⟨b,0,none⟩)] w fun e w'=>e = .returned (.string ⟨#[]⟩)∧w'=w.drew:=by
 have hUS:=wq1af
 have mixed:Tryz.prog.follows .mixedOrders=true:=by kernel_rfl
 have c1:w.drew.cell? ⟨b,1,none⟩=some (.slice none 0 0):=by
  have:w.drew.heap[b]? = some (.cells #[p,.slice none 0 0] 89 (0,0)):=hbk
  rw[Lib.cell_of_heap this];rfl
 have hSD:(Builtin.unsafeSliceData_ #[22] 140 #[.slice none 0 0]).run Tryz.prog w.drew = .ok (.pointer none) w.drew:=rfl
 go_enter Tryz.func45,Tryz.ntmps45
 go_wp2
 go_region_o
 all_goals (go_wp2;go_ret;exact⟨rfl,rfl⟩)
theorem wq17l(b g cap:Nat)(p:Value)(w:World)(hc0:cap≠0)(hbk:w.heap[b]? = some (.cells #[p,.slice (some ⟨g,0,none⟩) 0 cap] 89 (0,0))):
 Calls Tryz.prog 45 #[.pointer (some ⟨b,0,none⟩)] w fun e w'=>e = .returned (.string ⟨#[]⟩)∧w'=w.drew:=by
 have hUS:=wq1af
 have mixed:Tryz.prog.follows .mixedOrders=true:=by kernel_rfl
 have c1:w.drew.cell? ⟨b,1,none⟩=some (.slice (some ⟨g,0,none⟩) 0 cap):=by
  have:w.drew.heap[b]? = some (.cells #[p,.slice (some ⟨g,0,none⟩) 0 cap] 89 (0,0)):=hbk
  rw[Lib.cell_of_heap this];rfl
 have hSD:(Builtin.unsafeSliceData_ #[22] 140 #[.slice (some ⟨g,0,none⟩) 0 cap]).run Tryz.prog w.drew = .ok (.pointer (some ⟨g,0,none⟩)) w.drew :=
  Lib.run_unsafeSliceData_row _ _ _ _ _ _ hc0
 clear hc0
 go_enter Tryz.func45,Tryz.ntmps45
 go_wp2
 go_region_o
 all_goals (go_wp2;go_ret;exact⟨rfl,rfl⟩)
theorem wq11c(b g:Nat)(p:Value)(cur:Array Value)(w:World)(hbk:w.heap[b]? = some (.cells #[p,.slice (some ⟨g,0,none⟩) 0 0] 89 (0,0)))(hg:w.heap[g]? = some (.cells cur 5 (0,0))):
 Calls Tryz.prog 45 #[.pointer (some ⟨b,0,none⟩)] w fun e w'=>e = .returned (.string ⟨#[]⟩)∧∃ o,w'=(w.alloc o).drew:=by
 have hUS:=wq1af
 have hlt:b<w.heap.size:=(Array.getElem?_eq_some_iff.1 hbk).1
 have mixed:Tryz.prog.follows .mixedOrders=true:=by kernel_rfl
 have c1:w.drew.cell? ⟨b,1,none⟩=some (.slice (some ⟨g,0,none⟩) 0 0):=by
  have:w.drew.heap[b]? = some (.cells #[p,.slice (some ⟨g,0,none⟩) 0 0] 89 (0,0)):=hbk
  rw[Lib.cell_of_heap this];rfl
 have hSD:(Builtin.unsafeSliceData_ #[22] 140 #[.slice (some ⟨g,0,none⟩) 0 0]).run Tryz.prog w.drew = .ok (.pointer (some ⟨w.drew.heap.size,0,none⟩)) (w.drew.alloc (.view ⟨g,0,none⟩ 5)) :=
  Lib.run_unsafeSliceData_zero w.drew _ _ 5 (by kernel_rfl) ⟨g,0,none⟩ 0 (5,cur.size) (by have hg':w.drew.heap[g]? = some (.cells cur 5 (0,0)):=hg;simp[World.shape?,hg'])
 have c2:(w.drew.alloc (.view ⟨g,0,none⟩ 5)).cell? ⟨b,1,none⟩=some (.slice (some ⟨g,0,none⟩) 0 0):=by
  have:(w.drew.alloc (.view ⟨g,0,none⟩ 5)).heap[b]? = _:=(Lib.alloc_old w.drew _ b hlt).trans hbk
  rw[Lib.cell_of_heap this];rfl
 have c3:(w.alloc (.view ⟨g,0,none⟩ 5)).drew.cell? ⟨b,1,none⟩=some (.slice (some ⟨g,0,none⟩) 0 0):=c2
 have c0:w.cell? ⟨b,1,none⟩=some (.slice (some ⟨g,0,none⟩) 0 0):=c1
 go_enter Tryz.func45,Tryz.ntmps45
 go_wp2
 go_region_o
 all_goals (go_wp2;go_ret;exact⟨rfl,_,rfl⟩)
def allB:List Int→Bool
 |[]=>true
 |x::r=>decide (0≤x)&&decide (x<256)&&allB r
def wqag:List LS:=[.obj 1 [.nps 1 0,.own 21 5 (.int .u8)]]
def wq3q(k:Nat){R:Type}(x0:List Int)(K:List Int→List UInt8→Option R): Option R:=bif allB x0 then K x0 (wq4a x0)else none
def wq56(k:Nat){R:Type}: List PV→List (Nm×HObj)→(Out→Option R)→Option R
 |[.ptr 1 0],[(21,.row 5 (.int .u8) x0),(1,.var 89 [.nps 1 0,.row 21])],K=>wq3q k x0 (fun y0 y1=>K (.ret [.v .str y1] [(1,.var 89 [.nps 1 0,.v (.sl (.int .u8)) y0])]))
 |_,_,_=>none
theorem wqdt(vs:Array Value)(w:World): (callFunc 45 vs).run Tryz.prog w = .ok (.enter 45 vs) w:=by
 have h1:Tryz.prog.funcs[45]? = some Tryz.f45:=by kernel_rfl
 have h2:(Tryz.f45.name == "runtime.NumGoroutine")=false:=by kernel_rfl
 have h3:Tryz.f45.body.isNone=false:=by kernel_rfl
 unfold callFunc
 rw[Sem.run_bind]
 have e2:(program).run Tryz.prog w = .ok Tryz.prog w:=rfl
 rw[e2,Result.andThen_ok,h1]
 simp only[h2,h3,Bool.false_eq_true,if_false]
 rfl
theorem wq1dl:∀ {l:List Int},allB l=true→∀(i:Nat) (y:Int),l[i]? = some y→0≤y∧y<256
 |[],_,i,y,h=>by simp at h
 |x::r,hb,0,y,h=>by
  simp only[allB,Bool.and_eq_true,decide_eq_true_eq]at hb
  simp at h;subst h;exact hb.1
 |x::r,hb,i+1,y,h=>by
  simp only[allB,Bool.and_eq_true]at hb
  exact wq1dl hb.2 i y (by simpa using h)
theorem wq13w {G:Gh} {w w':World} {x0:List Int} {HP:List (Nm×HObj)} (hHP:HP=[(21,.row 5 (.int .u8) x0),(1,.var 89 [.nps 1 0,.row 21])])
 (obj:∀ n o,mkH HP n=some o→RO (mkH HP) G w n o) (dis:Dis (mkH HP) G w) (hblk:∀ b,b<w.heap.size→(∀ g,(G.rv 21).ownBlock=some g→b≠g)→w'.heap[b]? = w.heap[b]?)
 (hcell:∀ g o,(G.rv 21).ownBlock=some g→w'.cell? ⟨g,o,none⟩=w.cell? ⟨g,o,none⟩) (grow:w.heap.size≤w'.heap.size) (os:w'.os=w.os) (tape:w'.tape=w.tape) (out:w'.output=w.output) :
 Fin HP [(1,.var 89 [.nps 1 0,.v (.sl (.int .u8)) x0])] G w G w':=by
 have l1:mkH HP 1=some (.var 89 [.nps 1 0,.row 21]):=by subst hHP;rfl
 have l2:mkH HP 21=some (.row 5 (.int .u8) x0):=by subst hHP;rfl
 generalize hHS:[((1:Nm),HObj.var 89 [.nps 1 0,.v (.sl (.int .u8)) x0])]=HS
 have m1:mkH HS 1=some (.var 89 [.nps 1 0,.v (.sl (.int .u8)) x0]):=by subst hHS;rfl
 have mo:∀ n o,mkH HS n=some o→n=1:=by
  intro n o h
  subst hHS
  simp only[mkH,look]at h
  cases hb:Nat.beq 1 n with
  |true=>exact(Nat.eq_of_beq_eq_true hb).symm
  |false=>rw[hb]at h;cases h
 have bk1:blkOf (mkH HP) G 1=some (G.bk 1):=by simp[blkOf,l1]
 have bk2:blkOf (mkH HP) G 21=(G.rv 21).ownBlock:=by simp[blkOf,l2]
 have ck1:blkOf (mkH HS) G 1=some (G.bk 1):=by simp[blkOf,m1]
 have ck:∀ n b,blkOf (mkH HS) G n=some b→n=1∧b=G.bk 1:=by
  intro n b h
  cases hn:mkH HS n with
  |none=>simp[blkOf,hn]at h
  |some o=>have:=mo n o hn;subst this;rw[ck1]at h;cases h;exact⟨rfl,rfl⟩
 have hne:∀ g,(G.rv 21).ownBlock=some g→G.bk 1≠g:=fun g hg e=>by
  have:=dis.inj 1 21 g (by rw[bk1,e]) (by rw[bk2,hg])
  cases this
 obtain⟨vs,hw,q1,t1,rfl,hq1,q2,t2,rfl,hq2,rfl⟩:=obj 1 _ l1
 obtain⟨rfl,_⟩:=hq2
 have hlt:G.bk 1<w.heap.size:=(Array.getElem?_eq_some_iff.1 hw).1
 have hw':w'.heap[G.bk 1]? = some (.cells [q1,G.rv 21].toArray 89 (0,0)):=by rw[hblk _ hlt hne];exact hw
 have hdat:RD w' (okB (mkH HS) G) (.sl (.int .u8)) x0 [G.rv 21]:=by
  have hro:=obj 21 _ l2
  obtain⟨us,hown,hr,_⟩:=hro
  rcases hown.2 with⟨hv,hn⟩|⟨g,cap,cur,hv,_,hgb,hnc,hcm,hcs,_⟩
  ·exact⟨none,0,by rw[hv,hn],by omega,.inl (List.eq_nil_of_length_eq_zero hn)⟩
  ·have hgo:(G.rv 21).ownBlock=some g:=by rw[hv];rfl
   refine⟨_,cap,by rw[hv],hnc,.inr ⟨_,rfl,?_,?_,?_⟩⟩
   ·refine⟨fun n hn => ?_,fun hx=>dis.xo 21 g (by rw[bk2,hgo]) hx⟩
    obtain⟨_,e⟩:=ck n g hn
    exact hne g hgo e.symm
   ·have:g<w.heap.size:=(Array.getElem?_eq_some_iff.1 hgb).1
    exact Nat.lt_of_lt_of_le this grow
   ·intro i y hy
    obtain⟨c,hc,hu⟩:=hr.get i y hy
    refine⟨c,hc,fun j u hj => ?_⟩
    have:=hown.cells hgo _ _ (hu j u hj)
    rw[Addr.add_lit]at this ⊢
    rw[hcell g _ hgo]
    exact this
 refine⟨fun n o hn => ?_,fun n m b h1 h2=>(ck n b h1).1.trans (ck m b h2).1.symm,fun n t cs hn o ho => ?_,fun n ag V es hn o ho=>(wqnr (by rw[hHP];rfl) hn).elim,fun b hb hf=>hblk b hb fun g hg e=>hf 21 (by rw[bk2,hg,e]),rfl,fun n b hn => .inl ⟨1,by rw[(ck n b hn).2];exact bk1⟩,grow,os,tape,out⟩
 ·have:=mo n o hn;subst this
  rw[m1]at hn;cases hn
  refine⟨_,hw',_,_,rfl,?_,_,_,rfl,hdat,rfl⟩
  rcases hq1 with h|⟨h,_⟩
  ·exact .inl h
  ·exact .inr ⟨h,_,_,m1⟩
 ·have e1:=mo n o ho
  subst e1
  have e2:mkH HS 1=some o:=ho
  have e3:mkH HP 1=some (.var t cs):=hn
  rw[m1]at e2;rw[l1]at e3;cases e2;cases e3
  exact⟨⟨_,rfl⟩,rfl⟩
theorem wqc0(k:Nat){ps:List PV}{hp:List (Nm×HObj)}{R:Type}{K:Out→Option R}{r:R}(h:wq56 k ps hp K=some r): DoesTo Tryz.prog 45 ps hp fun out=>K out=some r:=by
 unfold wq56 at h
 split at h
 ·next x0 =>
  intro G w vals hr obj dis
  unfold wq3q at h
  cases hb:allB x0 with
  |false=>rw[hb]at h;cases h
  |true =>
   rw[hb,cond_true]at h
   obtain⟨v0,l0,rfl,h0,rfl⟩:=hr
   obtain⟨rfl,_⟩:=h0
   generalize hHP:[(21,HObj.row 5 (.int .u8) x0),(1,.var 89 [.nps 1 0,.row 21])]=HP at *
   have l1:mkH HP 1=some (.var 89 [.nps 1 0,.row 21]):=by subst hHP;rfl
   have l2:mkH HP 21=some (.row 5 (.int .u8) x0):=by subst hHP;rfl
   show Does _ _ #[_] _ _
   unfold Does
   rw[wqdt]
   obtain⟨vs,hw,q1,t1,rfl,hq1,q2,t2,rfl,hq2,rfl⟩:=obj 1 _ l1
   obtain⟨rfl,_⟩:=hq2
   have hro:=obj 21 _ l2
   obtain⟨us,hown,hrd,_⟩:=hro
   have fin:∀ {e:Ending} {w':World},e = .returned (.string ⟨(wq4a x0).toArray⟩)→(∀ b,b<w.heap.size→(∀ g,(G.rv 21).ownBlock=some g→b≠g)→w'.heap[b]? = w.heap[b]?)→(∀ g o,(G.rv 21).ownBlock=some g→w'.cell? ⟨g,o,none⟩=w.cell? ⟨g,o,none⟩)→w.heap.size≤w'.heap.size→w'.os=w.os→w'.tape=w.tape→w'.output=w.output →
    ∃ out,K out=some r∧∃ G',OutIs G' w' e out∧Fin HP out.hs G w G' w':=by
    intro e w' he h1 h2 h3 h4 h5 h6
    exact⟨_,h,G,⟨_,he,rfl⟩,wq13w hHP.symm obj dis h1 h2 h3 h4 h5 h6⟩
   rcases hown.2 with⟨hv,hn⟩|⟨g,cap,cur,hv,_,hgb,hnc,hcm,hcs,htk⟩
   ·have hx:x0=[]:=List.eq_nil_of_length_eq_zero hn
    subst hx
    rw[hv]at hw
    refine Calls.mono (wq1ag (G.bk 1) q1 w hw) fun e w' hh => ?_
    obtain⟨rfl,rfl⟩:=hh
    exact fin rfl (fun _ _ _=>rfl) (fun _ _ _=>rfl) (Nat.le_refl _) rfl rfl rfl
   ·have hgo:(G.rv 21).ownBlock=some g:=by rw[hv];rfl
    rw[hv]at hw
    by_cases hx:x0=[]
    ·subst hx
     by_cases hc0:cap=0
     ·subst hc0
      refine Calls.mono (wq11c (G.bk 1) g q1 cur w hw hgb) fun e w' hh => ?_
      obtain⟨rfl,o,rfl⟩:=hh
      have hold:∀ b,b<w.heap.size→(w.alloc o).drew.heap[b]? = w.heap[b]? := fun b hb=>Lib.alloc_old w _ b hb
      refine fin rfl (fun b hb _=>hold b hb) (fun g' o' hg' => ?_) (by have:=World.size_alloc w o;show _≤(w.alloc o).heap.size;omega) rfl rfl rfl
      rw[hgo]at hg';cases hg'
      exact World.cell?_of_block (hold g (Array.getElem?_eq_some_iff.1 hgb).1)
     ·refine Calls.mono (wq17l (G.bk 1) g cap q1 w hc0 hw) fun e w' hh => ?_
      obtain⟨rfl,rfl⟩:=hh
      exact fin rfl (fun _ _ _=>rfl) (fun _ _ _=>rfl) (Nat.le_refl _) rfl rfl rfl
    ·have hlen:(wq4a x0).length=x0.length:=by simp[wq4a]
     have hbytes:∀(j:Nat) (x:UInt8),(wq4a x0)[j]? = some x→w.cell? ⟨g,j,none⟩=some (.int .u8 x.toNat):=by
      intro j x hj
      have hjl:j<x0.length:=by rw[←hlen];exact(List.getElem?_eq_some_iff.1 hj).1
      have hy:x0[j]? = some x0[j]:=by simp[hjl]
      obtain⟨c,hc,hu⟩:=hrd.get j _ hy
      have hc:c=[.int .u8 x0[j]]:=hc
      have h9:=hown.cells hgo _ _ (hu 0 (.int .u8 x0[j]) (by rw[hc];rfl))
      rw[Addr.add_lit]at h9
      have hj2:x=UInt8.ofNat (x0[j]).toNat:=by
       simp only[wq4a,List.getElem?_map,hy,Option.map_some,Option.some.injEq]at hj
       exact hj.symm
      obtain⟨h10,h11⟩:=wq1dl hb j _ hy
      have:((x.toNat:Nat):Int)=x0[j]:=by
       rw[hj2,UInt8.toNat_ofNat']
       omega
      rw[this]
      have e0:0+(j*Kd.sz (.int .u8)+0)=j:=by simp[Kd.sz]
      rw[e0]at h9
      exact h9
     rw[←hlen]at hw
     have hne:wq4a x0≠[]:=by intro e;rw[e]at hlen;exact hx (List.eq_nil_of_length_eq_zero hlen.symm)
     refine Calls.mono (wq13v (G.bk 1) g cap q1 (wq4a x0) cur w hw hne hgb (by omega) hcm (by simpa [Kd.sz]using hcs) hbytes) fun e w' hh => ?_
     obtain⟨rfl,rfl⟩:=hh
     have hfz:∀ b,b≠g→(w.drew.freeze ⟨g,0,none⟩ (wq4a x0).length).heap[b]? = w.heap[b]? := by
      intro b hb
      unfold World.freeze
      split
      ·rfl
      ·show(w.heap.modify g _)[b]? = _
       rw[Array.getElem?_modify,if_neg (Ne.symm hb)]
     refine fin rfl (fun b _ hb=>hfz b (hb g hgo)) (fun g' o' hg' => ?_) ?_ ?_ ?_ ?_
     ·rw[hgo]at hg';cases hg'
      unfold World.freeze
      split
      ·rfl
      ·simp only[World.cell?,World.drew,Array.getElem?_modify,if_true,hgb,Option.map_some]
     all_goals
      unfold World.freeze
      split
      ·first|rfl|exact Nat.le_refl _
      ·first|rfl|(show w.heap.size≤(w.heap.modify g _).size;rw[Array.size_modify];exact Nat.le_refl _)
 ·cases h
end Go.Proofs.YtabkhphoacmcdaaGreatDoor.Pvm
set_option maxHeartbeats 1000000
namespace Go.Proofs.YtabkhphoacmcdaaGreatDoor.Pvm
open Go Go.Proofs Go.RowKit
theorem wqza(b:Nat)(w:World)(h0:w.cell? ⟨b,0,none⟩=some (.pointer (some ⟨b,0,none⟩))):
 Calls Tryz.prog 89 #[.pointer (some ⟨b,0,none⟩)] w fun e w'=>e = .returned (.tuple #[])∧w'=w:=by
 have t76:Tryz.prog.underlying 87=some (.pointer 89):=by kernel_rfl
 have hs:(Tryz.prog.info? 89).isSome=true:=by kernel_rfl
 obtain⟨j,hj⟩:=Option.isSome_iff_exists.1 hs
 go_enter Tryz.func89,Tryz.ntmps89
 go_wp2
 rw[Lib.run_neq_ptr_same w _ t76 hj]
 go_wp2
 go_end0
 exact⟨rfl,rfl⟩
theorem wqwi(b:Nat)(w:World)(h0:w.cell? ⟨b,0,none⟩=some (.pointer none))(hsh:w.shape? b=some (89,2))(hfz:w.frozen? ⟨b,0,none⟩=false):
 Calls Tryz.prog 89 #[.pointer (some ⟨b,0,none⟩)] w fun e w'=>e = .returned (.tuple #[])∧w'=w.setCell ⟨b,0,none⟩ (.pointer (some ⟨b,0,none⟩)):=by
 have t76:Tryz.prog.underlying 87=some (.pointer 89):=by kernel_rfl
 have t89:Tryz.prog.underlying 184=some .unsafePointer:=by kernel_rfl
 have hs:(Tryz.prog.info? 89).map (·.size)=some 2:=by kernel_rfl
 obtain⟨j,hj,hjs⟩:=Option.map_eq_some_iff.1 hs
 have hlies:liesAt Tryz.prog Tryz.prog.depth 89 (2 / Tryz.prog.cellsOf 89) 0 89 1=true:=by kernel_rfl
 go_enter Tryz.func89,Tryz.ntmps89
 go_wp2
 rw[Lib.run_to_unsafe w ⟨b,0,none⟩ t76 t89 hj (by rw[hjs];decide) hsh (Nat.zero_lt_succ 1)]
 simp only[Result.andThen]
 rw[Oper.upon_value]
 go_wp2
 rw[run_callFunc_extern Tryz.func137 (by kernel_rfl) (by kernel_rfl) (by kernel_rfl) (e:=Extern.AbiNoEscape.same) (by kernel_rfl)]
 rw[Lib.run_noEscape]
 simp only[Result.andThen]
 rw[Oper.upon_value]
 go_wp2
 rw[Lib.run_from_unsafe w ⟨b,0,none⟩ t89 t76 hj hsh hlies]
 simp only[Result.andThen]
 rw[Oper.upon_value]
 go_wp2
 go_end0
 exact⟨rfl,rfl⟩
end Go.Proofs.YtabkhphoacmcdaaGreatDoor.Pvm
set_option maxRecDepth 1000000
namespace Go.Proofs.YtabkhphoacmcdaaGreatDoor.Pvm
open Go Go.Proofs
def wqen:List LS:=[.obj 1 [.nps 1 0,.own 21 5 (.int .u8)]]
def wq6w(k:Nat){R:Type}(x0:List Int)(K:List Int→Option R): Option R:=K x0
def wq60(k:Nat){R:Type}: List PV→List (Nm×HObj)→(Out→Option R)→Option R
 |[.ptr 1 0],[(21,.row 5 (.int .u8) x0),(1,.var 89 [.nps 1 0,.row 21])],K=>wq6w k x0 (fun y0=>K (.ret [] [(21,.row 5 (.int .u8) y0),(1,.var 89 [.nps 1 0,.row 21])]))
 |_,_,_=>none
theorem wqc1(vs:Array Value)(w:World): (callFunc 89 vs).run Tryz.prog w = .ok (.enter 89 vs) w:=by
 have h1:Tryz.prog.funcs[89]? = some Tryz.f89:=by kernel_rfl
 have h2:(Tryz.f89.name == "runtime.NumGoroutine")=false:=by kernel_rfl
 have h3:Tryz.f89.body.isNone=false:=by kernel_rfl
 unfold callFunc
 rw[Sem.run_bind]
 have e2:(program).run Tryz.prog w = .ok Tryz.prog w:=rfl
 rw[e2,Result.andThen_ok,h1]
 simp only[h2,h3,Bool.false_eq_true,if_false]
 rfl
theorem wqfw(k:Nat){ps:List PV}{hp:List (Nm×HObj)}{R:Type}{K:Out→Option R}{r:R}(h:wq60 k ps hp K=some r): DoesTo Tryz.prog 89 ps hp fun out=>K out=some r:=by
 unfold wq60 at h
 split at h
 ·next x0 =>
  intro G w vals hr obj dis
  obtain⟨v0,l0,rfl,h0,rfl⟩:=hr
  obtain⟨rfl,_⟩:=h0
  generalize hHP:[(21,HObj.row 5 (.int .u8) x0),(1,.var 89 [.nps 1 0,.row 21])]=HP at *
  have hK:K (.ret [] HP)=some r:=by subst hHP;exact h
  have l1:mkH HP 1=some (.var 89 [.nps 1 0,.row 21]):=by subst hHP;rfl
  have hob:=obj 1 _ l1
  obtain⟨vs,hw,q1,t1,rfl,hq1,q2,t2,rfl,hq2,rfl⟩:=hob
  show Does _ _ #[_] _ _
  unfold Does
  rw[wqc1]
  have hcell:w.cell? ⟨G.bk 1,0,none⟩=some q1:=by simp[World.cell?,hw]
  have hlt:G.bk 1<w.heap.size:=(Array.getElem?_eq_some_iff.1 hw).1
  rcases hq1 with rfl|⟨rfl,_⟩
  ·refine Calls.mono (wqwi (G.bk 1) w hcell (by simp[World.shape?,hw]) (by simp[World.frozen?,hw])) fun e w' hh => ?_
   obtain⟨rfl,rfl⟩:=hh
   have oth:∀ b,b≠G.bk 1→(w.setCell ⟨G.bk 1,0,none⟩ (.pointer (some ⟨G.bk 1,0,none⟩))).heap[b]? = w.heap[b]? := fun b hb=>Go.Deep.blk_setCell_other w _ _ b hb
   have bk1:blkOf (mkH HP) G 1=some (G.bk 1):=by simp[blkOf,l1]
   have C:Carry (mkH HP) G w (mkH HP) G (w.setCell ⟨G.bk 1,0,none⟩ (.pointer (some ⟨G.bk 1,0,none⟩))) .row :=
    ⟨fun b ho _=>⟨ho,oth b fun e=>ho.1 1 (by rw[bk1,e])⟩,fun n t cs hn=>⟨⟨cs,hn⟩,rfl⟩,fun n ag V es hn=>⟨⟨es,hn⟩,rfl⟩,fun b hx _=>⟨.inr hx,oth b fun e=>dis.xo 1 b (by rw[bk1,e]) hx⟩,fun n e K xs hn=>⟨⟨rfl,e,K,xs,hn⟩,fun m hm=>by cases hm;exact⟨e,xs,hn,Nat.le_refl _⟩⟩⟩
   have hq2':=RV.carry C _ _ hq2
   refine⟨.ret [] HP,hK,G,⟨_,rfl,⟨[],rfl,rfl⟩⟩,⟨fun n o hn => ?_,dis.inj,fun n t cs hn o ho => ?_,fun n ag V es hn o ho=>(wqnr (by rw[←hHP];rfl) hn).elim,fun b hb hf=>oth b fun e=>hf 1 (by rw[bk1,e]),rfl,fun n b hb => .inl ⟨n,hb⟩,by simp[World.setCell],rfl,rfl,rfl⟩⟩
   ·by_cases hn1:n=1
    ·subst hn1
     rw[show mkH (Out.hs (.ret [] HP)) 1=some (.var 89 [.nps 1 0,.row 21])from l1]at hn
     cases hn
     refine⟨[.pointer (some ⟨G.bk 1,0,none⟩),q2],?_,_,_,rfl,.inr ⟨rfl,89,_,l1⟩,_,_,rfl,hq2',rfl⟩
     have hw2:=(Array.getElem?_eq_some_iff.1 hw).2
     simp only[World.setCell,Array.getElem?_modify,if_pos,hw]
     simp
    ·have hne:∀ b,blkOf (mkH HP) G n=some b→b≠G.bk 1:=fun b hb e=>hn1 (dis.inj n 1 b hb (by rw[bk1,e]))
     have:=RO.carry C hn (obj n o hn) (fun b hb=>oth b (hne b hb)) rfl rfl
     rwa [wqgf]at this
   ·have e1:look HP n=some o:=ho
    rw[hn]at e1;cases e1
    exact⟨⟨cs,rfl⟩,rfl⟩
  ·refine Calls.mono (wqza (G.bk 1) w hcell) fun e w' hh => ?_
   obtain⟨rfl,rfl⟩:=hh
   refine⟨.ret [] HP,hK,G,⟨_,rfl,⟨[],rfl,rfl⟩⟩,⟨obj,dis.inj,fun n t cs hn o ho => ?_,fun n ag V es hn o ho=>(wqnr (by rw[←hHP];rfl) hn).elim,fun _ _ _=>rfl,rfl,fun n b hb => .inl ⟨n,hb⟩,Nat.le_refl _,rfl,rfl,rfl⟩⟩
   have e1:look HP n=some o:=ho
   rw[hn]at e1;cases e1
   exact⟨⟨cs,rfl⟩,rfl⟩
 ·cases h
end Go.Proofs.YtabkhphoacmcdaaGreatDoor.Pvm
set_option maxHeartbeats 0
namespace Go.Proofs.YtabkhphoacmcdaaGreatDoor.Pvm
open Go Go.Proofs
def h_strings_Builder_WriteByte:Sh:=⟨[.o 1 89 0 [.p 1 0,.w 21 5 (.int .u8)],.a (.int .u8)],some ([.o 1 89 0 [.p 1 0,.w 21 5 (.int .u8)]],[.ni]),none⟩
def wqfx(k:Nat): Cxt:=⟨[⟨89,wqen,wq60 k⟩],[1],[],[]⟩
def wqa0(k:Nat){R:Type}(x0:(List Int))(x1:Int)(K:((List Int)→Option R)): Option R:=wq6w k x0 (fun y5=>cond (fits y5.length (@List.length (@Kd.T (@Kd.int Go.IntKind.u8)) [x1]) 1) (K (y5++[x1])) none)
def wq2k:=@wqa0
theorem wqa1(k:Nat): DOK Tryz.prog 254 (h_strings_Builder_WriteByte.run (@wq2k k)):=dok h_strings_Builder_WriteByte (wqfx k) Tryz.f254 k (ok1 (fun _ _ _ _ _ h=>wqfw k h) ok0) (by kernel_rfl) (by kernel_rfl) fun R=>by kernel_rfl
def wqa2(k:Nat): Ent:=h_strings_Builder_WriteByte.e 254 (@wq2k k)
def h_lex_lexer_double:Sh:=⟨[.o 1 200 0 [.a kI,.a kI,.a .str,.a kI,.w 21 157 kdT156],.a .str],some ([.o 1 200 0 [.a kI,.a kI,.a .str,.a kI,.w 21 157 kdT156]],[.a .str,.a kI]),some ([.o 1 200 0 [.a kI,.a kI,.a .str,.a kI,.w 21 157 kdT156]],[.i 29 (.g [.a kI,.a kI])])⟩
abbrev wqc2:Type 1:=(R:Type)→Int→Int→(List UInt8)→Int→(List dT156)→(List UInt8)→(Int→Int→(List UInt8)→Int→(List dT156)→(List UInt8)→Int→Option R)→(Int→Int→(List UInt8)→Int→(List dT156)→Int→Int→Option R)→Option R
def u_lex_lexer_double_1003:Cu:=⟨1,[0,1,6,7],[.o 1 200 0 [.a kI,.a kI,.a .str,.a kI,.w 21 157 kdT156],.r 1 0,.a .str,.o 16 89 0 [.p 16 0,.w 36 5 (.int .u8)],.a kI]⟩
def wqh6(k:Nat): Cxt:=⟨[⟨45,wqag,wq56 k⟩,wqap k,wqa2 k,wqsp k],[1],[(1003,u_lex_lexer_double_1003.spec)],[]⟩
def wq6r(k:Nat){R:Type}(E1003:(Int→Int→(List UInt8)→Int→(List dT156)→(List UInt8)→(List Int)→Int→Option R))(s0 s1:Int)(s2:(List UInt8))(s3:Int)(s4:(List dT156))(s5:(List UInt8))(s6:(List Int))(s7:Int)(K:(Int→Int→(List UInt8)→Int→(List dT156)→(List UInt8)→Int→Option R))(E:(Int→Int→(List UInt8)→Int→(List dT156)→Int→Int→Option R)): Option R:=cond (decide (s7<(s5.length:Int))) (cond (inb s7 (s5.length:Int)) (cond (((s5.getD s7.toNat 0).toNat:Int) == 34) (wq3q k s6 (fun y13 y14=>K s0 s1 s2 s3 s4 y14 (@Go.IntKind.wrap Go.IntKind.i64 (s7+1)))) (cond (((s5.getD s7.toNat 0).toNat:Int) == 92) (cond (bnd (@Go.IntKind.wrap Go.IntKind.i64 (s7+1)) (s5.length:Int) (s5.length:Int)) (wq8q k s0 s1 s2 s3 s4 (cut s5 (@Go.IntKind.wrap Go.IntKind.i64 (s7+1)) (s5.length:Int)) (fun y13 y14 y15 y16 y17 y18 y19=>wq2k k s6 y18 (fun y20=>E1003 y13 y14 y15 y16 y17 s5 y20 (@Go.IntKind.wrap Go.IntKind.i64 ((@Go.IntKind.wrap Go.IntKind.i64 (s7+y19))+1)))) E) none) (cond (inb s7 (s5.length:Int)) (wq2k k s6 ((s5.getD s7.toNat 0).toNat:Int) (fun y13=>E1003 s0 s1 s2 s3 s4 s5 y13 (@Go.IntKind.wrap Go.IntKind.i64 (s7+1)))) none))) none) (wq1y k s0 s1 s2 s3 s4 3 (fun y13 y14 y15 y16 y17=>K y13 y14 y15 y16 y17 [] 0) E)
def wqcw(k:Nat){R:Type}(E1003:(Int→Int→(List UInt8)→Int→(List dT156)→(List UInt8)→(List Int)→Int→Option R))(x0 x1:Int)(x2:(List UInt8))(x3:Int)(x4:(List dT156))(x5:(List UInt8))(K:(Int→Int→(List UInt8)→Int→(List dT156)→(List UInt8)→Int→Option R))(E:(Int→Int→(List UInt8)→Int→(List dT156)→Int→Int→Option R)): Option R:=E1003 x0 x1 x2 x3 x4 x5 [] 1
def wq3h(k:Nat){R:Type}: Nat→Int→Int→(List UInt8)→Int→(List dT156)→(List UInt8)→(List Int)→Int→(Int→Int→(List UInt8)→Int→(List dT156)→(List UInt8)→Int→Option R)→(Int→Int→(List UInt8)→Int→(List dT156)→Int→Int→Option R)→Option R
 |0,_,_,_,_,_,_,_,_,_,_=>none
 |n+1,s0,s1,s2,s3,s4,s5,s6,s7,K,E=>wq6r k (fun s0 s1 s2 s3 s4 s5 s6 s7=>wq3h k n s0 s1 s2 s3 s4 s5 s6 s7 K E) s0 s1 s2 s3 s4 s5 s6 s7 K E
theorem wqgk(k:Nat){R:Type}: ∀(I:Nat→St→Option R) (n:Nat),h_lex_lexer_double.lp u_lex_lexer_double_1003 (wqh6 k).cx k Tryz.f230 1003 [1,1,0,1,0] I n=wq3h k n:=h_lex_lexer_double.lok u_lex_lexer_double_1003 (B:=wq6r k) (L:=wq3h k) (fun I=>by kernel_rfl) (fun I=>by kernel_rfl) (fun n=>by kernel_rfl) (fun _ _ _ _=>rfl)
def wq66(k:Nat){R:Type}(x0 x1:Int)(x2:(List UInt8))(x3:Int)(x4:(List dT156))(x5:(List UInt8))(K:(Int→Int→(List UInt8)→Int→(List dT156)→(List UInt8)→Int→Option R))(E:(Int→Int→(List UInt8)→Int→(List dT156)→Int→Int→Option R)): Option R:=wqcw k (fun s0 s1 s2 s3 s4 s5 s6 s7=>wq3h k k s0 s1 s2 s3 s4 s5 s6 s7 K E) x0 x1 x2 x3 x4 x5 K E
theorem wqqh(k:Nat): DOK Tryz.prog 230 (h_lex_lexer_double.run (@wq66 k)):=dok h_lex_lexer_double (wqh6 k) Tryz.f230 k (ok1 (fun _ _ _ _ _ h=>wqc0 k h) (ok1 (wq8p k) (ok1 (wqa1 k) (ok1 (wqso k) ok0)))) (by kernel_rfl) (by kernel_rfl) fun R=>h_lex_lexer_double.f1 u_lex_lexer_double_1003 (wqcw k) (by kernel_rfl) (wqgk k (fun _ _=>none) k) (by kernel_rfl)
def h_lex_lexer_single:Sh:=⟨[.o 1 200 0 [.a kI,.a kI,.a .str,.a kI,.w 21 157 kdT156],.a .str],some ([.o 1 200 0 [.a kI,.a kI,.a .str,.a kI,.w 21 157 kdT156]],[.a .str,.a kI]),some ([.o 1 200 0 [.a kI,.a kI,.a .str,.a kI,.w 21 157 kdT156]],[.i 29 (.g [.a kI,.a kI])])⟩
abbrev wqc3:Type 1:=(R:Type)→Int→Int→(List UInt8)→Int→(List dT156)→(List UInt8)→(Int→Int→(List UInt8)→Int→(List dT156)→(List UInt8)→Int→Option R)→(Int→Int→(List UInt8)→Int→(List dT156)→Int→Int→Option R)→Option R
def u_lex_lexer_single_1003:Cu:=⟨1,[0,1,6,7],[.o 1 200 0 [.a kI,.a kI,.a .str,.a kI,.w 21 157 kdT156],.r 1 0,.a .str,.o 16 89 0 [.p 16 0,.w 36 5 (.int .u8)],.a kI]⟩
def wqh7(k:Nat): Cxt:=⟨[⟨45,wqag,wq56 k⟩,wqap k,wqa2 k],[1],[(1003,u_lex_lexer_single_1003.spec)],[]⟩
def wq6s(k:Nat){R:Type}(E1003:(Int→Int→(List UInt8)→Int→(List dT156)→(List UInt8)→(List Int)→Int→Option R))(s0 s1:Int)(s2:(List UInt8))(s3:Int)(s4:(List dT156))(s5:(List UInt8))(s6:(List Int))(s7:Int)(K:(Int→Int→(List UInt8)→Int→(List dT156)→(List UInt8)→Int→Option R))(E:(Int→Int→(List UInt8)→Int→(List dT156)→Int→Int→Option R)): Option R:=cond (decide (s7<(s5.length:Int))) (cond (inb s7 (s5.length:Int)) (cond (((s5.getD s7.toNat 0).toNat:Int) != 39) (cond (inb s7 (s5.length:Int)) (wq2k k s6 ((s5.getD s7.toNat 0).toNat:Int) (fun y13=>E1003 s0 s1 s2 s3 s4 s5 y13 (@Go.IntKind.wrap Go.IntKind.i64 (s7+1)))) none) (cond ((!((decide ((@Go.IntKind.wrap Go.IntKind.i64 (s7+1))≥(s5.length:Int))) == false)) || (inb (@Go.IntKind.wrap Go.IntKind.i64 (s7+1)) (s5.length:Int))) (cond (cond (decide ((@Go.IntKind.wrap Go.IntKind.i64 (s7+1))≥(s5.length:Int))) true (((s5.getD (@Go.IntKind.wrap Go.IntKind.i64 (s7+1)).toNat 0).toNat:Int) != 39)) (wq3q k s6 (fun y13 y14=>K s0 s1 s2 s3 s4 y14 (@Go.IntKind.wrap Go.IntKind.i64 (s7+1)))) (wq2k k s6 39 (fun y13=>E1003 s0 s1 s2 s3 s4 s5 y13 (@Go.IntKind.wrap Go.IntKind.i64 ((@Go.IntKind.wrap Go.IntKind.i64 (s7+1))+1))))) none)) none) (wq1y k s0 s1 s2 s3 s4 3 (fun y13 y14 y15 y16 y17=>K y13 y14 y15 y16 y17 [] 0) E)
def wqcx(k:Nat){R:Type}(E1003:(Int→Int→(List UInt8)→Int→(List dT156)→(List UInt8)→(List Int)→Int→Option R))(x0 x1:Int)(x2:(List UInt8))(x3:Int)(x4:(List dT156))(x5:(List UInt8))(K:(Int→Int→(List UInt8)→Int→(List dT156)→(List UInt8)→Int→Option R))(E:(Int→Int→(List UInt8)→Int→(List dT156)→Int→Int→Option R)): Option R:=E1003 x0 x1 x2 x3 x4 x5 [] 1
def wq3i(k:Nat){R:Type}: Nat→Int→Int→(List UInt8)→Int→(List dT156)→(List UInt8)→(List Int)→Int→(Int→Int→(List UInt8)→Int→(List dT156)→(List UInt8)→Int→Option R)→(Int→Int→(List UInt8)→Int→(List dT156)→Int→Int→Option R)→Option R
 |0,_,_,_,_,_,_,_,_,_,_=>none
 |n+1,s0,s1,s2,s3,s4,s5,s6,s7,K,E=>wq6s k (fun s0 s1 s2 s3 s4 s5 s6 s7=>wq3i k n s0 s1 s2 s3 s4 s5 s6 s7 K E) s0 s1 s2 s3 s4 s5 s6 s7 K E
theorem wqgl(k:Nat){R:Type}: ∀(I:Nat→St→Option R) (n:Nat),h_lex_lexer_single.lp u_lex_lexer_single_1003 (wqh7 k).cx k Tryz.f229 1003 [1,1,0,1,0] I n=wq3i k n:=h_lex_lexer_single.lok u_lex_lexer_single_1003 (B:=wq6s k) (L:=wq3i k) (fun I=>by kernel_rfl) (fun I=>by kernel_rfl) (fun n=>by kernel_rfl) (fun _ _ _ _=>rfl)
def wq67(k:Nat){R:Type}(x0 x1:Int)(x2:(List UInt8))(x3:Int)(x4:(List dT156))(x5:(List UInt8))(K:(Int→Int→(List UInt8)→Int→(List dT156)→(List UInt8)→Int→Option R))(E:(Int→Int→(List UInt8)→Int→(List dT156)→Int→Int→Option R)): Option R:=wqcx k (fun s0 s1 s2 s3 s4 s5 s6 s7=>wq3i k k s0 s1 s2 s3 s4 s5 s6 s7 K E) x0 x1 x2 x3 x4 x5 K E
theorem wqqi(k:Nat): DOK Tryz.prog 229 (h_lex_lexer_single.run (@wq67 k)):=dok h_lex_lexer_single (wqh7 k) Tryz.f229 k (ok1 (fun _ _ _ _ _ h=>wqc0 k h) (ok1 (wq8p k) (ok1 (wqa1 k) ok0))) (by kernel_rfl) (by kernel_rfl) fun R=>h_lex_lexer_single.f1 u_lex_lexer_single_1003 (wqcx k) (by kernel_rfl) (wqgl k (fun _ _=>none) k) (by kernel_rfl)
def h_lex_lexer_text:Sh:=⟨[.o 1 200 0 [.a kI,.a kI,.a .str,.a kI,.w 21 157 kdT156],.a .str],some ([.o 1 200 0 [.a kI,.a kI,.a .str,.a kI,.w 21 157 kdT156]],[]),some ([.o 1 200 0 [.a kI,.a kI,.a .str,.a kI,.w 21 157 kdT156]],[.i 29 (.g [.a kI,.a kI])])⟩
def wqk6(k:Nat)(wqy:wqcu)(wqhn:wqqg)(wqs:wqcv)(wqlb:wqus)(wq69:wqc3)(wq6a:wqc2)(wq5i:wqb2): Cxt:=⟨[h_lex_lexer_gives.e 191 wqy,h_lex_dash.e 193 wqhn,h_lex_lexer_piece.e 194 wqs,h_lex_key.e 195 wqlb,h_lex_lexer_single.e 229 wq69,h_lex_lexer_double.e 230 wq6a,h_strings_IndexByte.e 231 wq5i],[1],[],[]⟩
def wqfi(k:Nat)(wqy:wqcu)(wqhn:wqqg)(wqs:wqcv)(wqlb:wqus)(wq69:wqc3)(wq6a:wqc2)(wq5i:wqb2){R:Type}(x0 x1:Int)(x2:(List UInt8))(x3:Int)(x4:(List dT156))(x5:(List UInt8))(K:(Int→Int→(List UInt8)→Int→(List dT156)→Option R))(E:(Int→Int→(List UInt8)→Int→(List dT156)→Int→Int→Option R)): Option R:=cond (inb 0 (x5.length:Int)) (cond (((x5.getD (Int.toNat 0) 0).toNat:Int) == 39) (wq69 R x0 x1 x2 x3 x4 x5 (fun y10 y11 y12 y13 y14 y15 y16=>cond (y16 != (x5.length:Int)) (wqy R y10 y11 y12 y13 y14 3 (fun y17 y18 y19 y20 y21=>cond (decide ((y15.length:Int)>200)) (wqy R y17 y18 y19 y20 y21 4 (fun y22 y23 y24 y25 y26=>wqs R y22 y23 y24 y25 y26 3 y15 true y16 K) E) (wqs R y17 y18 y19 y20 y21 3 y15 true y16 K)) E) (cond (decide ((y15.length:Int)>200)) (wqy R y10 y11 y12 y13 y14 4 (fun y17 y18 y19 y20 y21=>wqs R y17 y18 y19 y20 y21 3 y15 true y16 K) E) (wqs R y10 y11 y12 y13 y14 3 y15 true y16 K))) E) (cond (((x5.getD (Int.toNat 0) 0).toNat:Int) == 34) (wq6a R x0 x1 x2 x3 x4 x5 (fun y10 y11 y12 y13 y14 y15 y16=>cond (y16 != (x5.length:Int)) (wqy R y10 y11 y12 y13 y14 3 (fun y17 y18 y19 y20 y21=>cond (decide ((y15.length:Int)>200)) (wqy R y17 y18 y19 y20 y21 4 (fun y22 y23 y24 y25 y26=>wqs R y22 y23 y24 y25 y26 3 y15 true y16 K) E) (wqs R y17 y18 y19 y20 y21 3 y15 true y16 K)) E) (cond (decide ((y15.length:Int)>200)) (wqy R y10 y11 y12 y13 y14 4 (fun y17 y18 y19 y20 y21=>wqs R y17 y18 y19 y20 y21 3 y15 true y16 K) E) (wqs R y10 y11 y12 y13 y14 3 y15 true y16 K))) E) (cond (inb 0 (x5.length:Int)) (wq5i R [91,93,123,125,38,42,33,124,62,37,64,44,63,96] ((x5.getD (Int.toNat 0) 0).toNat:Int) (fun y10=>cond ((decide (y10≥0)) == false) (wqhn R x5 (fun y11=>cond (y11 == false) (wqlb R x5 (fun y12=>cond (!(y12 == [])) (wqy R x0 x1 x2 x3 x4 4 (fun y13 y14 y15 y16 y17=>cond ((x5.length:Int) != (x5.length:Int)) (wqy R y13 y14 y15 y16 y17 3 (fun y18 y19 y20 y21 y22=>cond (decide ((x5.length:Int)>200)) (wqy R y18 y19 y20 y21 y22 4 (fun y23 y24 y25 y26 y27=>wqs R y23 y24 y25 y26 y27 3 x5 false (x5.length:Int) K) E) (wqs R y18 y19 y20 y21 y22 3 x5 false (x5.length:Int) K)) E) (cond (decide ((x5.length:Int)>200)) (wqy R y13 y14 y15 y16 y17 4 (fun y18 y19 y20 y21 y22=>wqs R y18 y19 y20 y21 y22 3 x5 false (x5.length:Int) K) E) (wqs R y13 y14 y15 y16 y17 3 x5 false (x5.length:Int) K))) E) (cond ((x5.length:Int) != (x5.length:Int)) (wqy R x0 x1 x2 x3 x4 3 (fun y13 y14 y15 y16 y17=>cond (decide ((x5.length:Int)>200)) (wqy R y13 y14 y15 y16 y17 4 (fun y18 y19 y20 y21 y22=>wqs R y18 y19 y20 y21 y22 3 x5 false (x5.length:Int) K) E) (wqs R y13 y14 y15 y16 y17 3 x5 false (x5.length:Int) K)) E) (cond (decide ((x5.length:Int)>200)) (wqy R x0 x1 x2 x3 x4 4 (fun y13 y14 y15 y16 y17=>wqs R y13 y14 y15 y16 y17 3 x5 false (x5.length:Int) K) E) (wqs R x0 x1 x2 x3 x4 3 x5 false (x5.length:Int) K))))) (wqy R x0 x1 x2 x3 x4 4 (fun y12 y13 y14 y15 y16=>cond ((x5.length:Int) != (x5.length:Int)) (wqy R y12 y13 y14 y15 y16 3 (fun y17 y18 y19 y20 y21=>cond (decide ((x5.length:Int)>200)) (wqy R y17 y18 y19 y20 y21 4 (fun y22 y23 y24 y25 y26=>wqs R y22 y23 y24 y25 y26 3 x5 false (x5.length:Int) K) E) (wqs R y17 y18 y19 y20 y21 3 x5 false (x5.length:Int) K)) E) (cond (decide ((x5.length:Int)>200)) (wqy R y12 y13 y14 y15 y16 4 (fun y17 y18 y19 y20 y21=>wqs R y17 y18 y19 y20 y21 3 x5 false (x5.length:Int) K) E) (wqs R y12 y13 y14 y15 y16 3 x5 false (x5.length:Int) K))) E))) (wqy R x0 x1 x2 x3 x4 4 (fun y11 y12 y13 y14 y15=>cond ((x5.length:Int) != (x5.length:Int)) (wqy R y11 y12 y13 y14 y15 3 (fun y16 y17 y18 y19 y20=>cond (decide ((x5.length:Int)>200)) (wqy R y16 y17 y18 y19 y20 4 (fun y21 y22 y23 y24 y25=>wqs R y21 y22 y23 y24 y25 3 x5 false (x5.length:Int) K) E) (wqs R y16 y17 y18 y19 y20 3 x5 false (x5.length:Int) K)) E) (cond (decide ((x5.length:Int)>200)) (wqy R y11 y12 y13 y14 y15 4 (fun y16 y17 y18 y19 y20=>wqs R y16 y17 y18 y19 y20 3 x5 false (x5.length:Int) K) E) (wqs R y11 y12 y13 y14 y15 3 x5 false (x5.length:Int) K))) E))) none))) none
theorem wquv(k:Nat)(wqy:wqcu)(wqhn:wqqg)(wqs:wqcv)(wqlb:wqus)(wq69:wqc3)(wq6a:wqc2)(wq5i:wqb2)(R:Type): h_lex_lexer_text.at (wqk6 k wqy wqhn wqs wqlb wq69 wq6a wq5i) k Tryz.f196 R=@wqfi k wqy wqhn wqs wqlb wq69 wq6a wq5i R:=by kernel_rfl
def wq59(k:Nat){R:Type}:= @wqfi k (@wq1y k) (@wqds k) (@wq3d k) (@wqem k) (@wq67 k) (@wq66 k) (@wq2b k) R
theorem wquw(k:Nat): DOK Tryz.prog 196 (h_lex_lexer_text.run (@wq59 k)):=dok h_lex_lexer_text (wqk6 k (@wq1y k) (@wqds k) (@wq3d k) (@wqem k) (@wq67 k) (@wq66 k) (@wq2b k)) Tryz.f196 k (ok1 (wq8p k) (ok1 (wq11b k) (ok1 (wqj5 k) (ok1 (wq16h k) (ok1 (wqqi k) (ok1 (wqqh k) (ok1 (wqg2 k) ok0))))))) (by kernel_rfl) (by kernel_rfl) fun R=>wquv k (@wq1y k) (@wqds k) (@wq3d k) (@wqem k) (@wq67 k) (@wq66 k) (@wq2b k) R
def wqux(k:Nat): Ent:=h_lex_lexer_text.e 196 (@wq59 k)
def h_lex_lexer_row:Sh:=⟨[.o 1 200 0 [.a kI,.a kI,.a .str,.a kI,.w 21 157 kdT156]],some ([.o 1 200 0 [.a kI,.a kI,.a .str,.a kI,.w 21 157 kdT156]],[]),some ([.o 1 200 0 [.a kI,.a kI,.a .str,.a kI,.w 21 157 kdT156]],[.i 29 (.g [.a kI,.a kI])])⟩
def u_lex_lexer_row_1003:Cu:=⟨1,[0,2],[.o 1 200 0 [.a kI,.a kI,.a .str,.a kI,.w 21 157 kdT156],.r 1 0,.a .str]⟩
def wqm4(k:Nat): Cxt:=⟨[wqap k,wquu k,wq1ae k,wqsm k,wq1cs k,wqux k],[1],[(1003,u_lex_lexer_row_1003.spec)],[]⟩
def wqb3(k:Nat){R:Type}(E1003:(Int→Int→(List UInt8)→Int→(List dT156)→(List UInt8)→Option R))(s0 s1:Int)(s2:(List UInt8))(s3:Int)(s4:(List dT156))(s5:(List UInt8))(K:(Int→Int→(List UInt8)→Int→(List dT156)→Option R))(E:(Int→Int→(List UInt8)→Int→(List dT156)→Int→Int→Option R)): Option R:=wqds k s5 (fun y11=>cond y11 (wq3d k s0 s1 s2 s3 s4 1 [] false 1 (fun y12 y13 y14 y15 y16=>wq4n k y12 y13 y14 y15 y16 E1003)) (wqem k s5 (fun y12=>cond (!(y12 == [])) (cond (decide ((y12.length:Int)>64)) (wq1y k s0 s1 s2 s3 s4 5 (fun y13 y14 y15 y16 y17=>wq3d k y13 y14 y15 y16 y17 2 y12 false (@Go.IntKind.wrap Go.IntKind.i64 ((y12.length:Int)+1)) (fun y18 y19 y20 y21 y22=>wq4n k y18 y19 y20 y21 y22 (fun y23 y24 y25 y26 y27 y28=>cond (!(y28 == [])) (wq59 k y23 y24 y25 y26 y27 y28 K E) (K y23 y24 y25 y26 y27)))) E) (wq3d k s0 s1 s2 s3 s4 2 y12 false (@Go.IntKind.wrap Go.IntKind.i64 ((y12.length:Int)+1)) (fun y13 y14 y15 y16 y17=>wq4n k y13 y14 y15 y16 y17 (fun y18 y19 y20 y21 y22 y23=>cond (!(y23 == [])) (wq59 k y18 y19 y20 y21 y22 y23 K E) (K y18 y19 y20 y21 y22))))) (cond (!(s5 == [])) (wq59 k s0 s1 s2 s3 s4 s5 K E) (K s0 s1 s2 s3 s4)))))
def wqgm(k:Nat){R:Type}(E1003:(Int→Int→(List UInt8)→Int→(List dT156)→(List UInt8)→Option R))(x0 x1:Int)(x2:(List UInt8))(x3:Int)(x4:(List dT156))(K:(Int→Int→(List UInt8)→Int→(List dT156)→Option R))(E:(Int→Int→(List UInt8)→Int→(List dT156)→Int→Int→Option R)): Option R:=cond (cond (decide (x1<0)) true (decide (x1>16384))) (wq1y k x0 x1 x2 x3 x4 6 (fun y10 y11 y12 y13 y14=>wq4n k y10 y11 y12 y13 y14 E1003) E) (wq4n k x0 x1 x2 x3 x4 E1003)
def wq47(k:Nat){R:Type}: Nat→Int→Int→(List UInt8)→Int→(List dT156)→(List UInt8)→(Int→Int→(List UInt8)→Int→(List dT156)→Option R)→(Int→Int→(List UInt8)→Int→(List dT156)→Int→Int→Option R)→Option R
 |0,_,_,_,_,_,_,_,_=>none
 |n+1,s0,s1,s2,s3,s4,s5,K,E=>wqb3 k (fun s0 s1 s2 s3 s4 s5=>wq47 k n s0 s1 s2 s3 s4 s5 K E) s0 s1 s2 s3 s4 s5 K E
theorem wqje(k:Nat){R:Type}: ∀(I:Nat→St→Option R) (n:Nat),h_lex_lexer_row.lp u_lex_lexer_row_1003 (wqm4 k).cx k Tryz.f150 1003 [1,1,0,0] I n=wq47 k n:=h_lex_lexer_row.lok u_lex_lexer_row_1003 (B:=wqb3 k) (L:=wq47 k) (fun I=>by kernel_rfl) (fun I=>by kernel_rfl) (fun n=>by kernel_rfl) (fun _ _ _ _=>rfl)
def wqdd(k:Nat){R:Type}(x0 x1:Int)(x2:(List UInt8))(x3:Int)(x4:(List dT156))(K:(Int→Int→(List UInt8)→Int→(List dT156)→Option R))(E:(Int→Int→(List UInt8)→Int→(List dT156)→Int→Int→Option R)): Option R:=wqgm k (fun s0 s1 s2 s3 s4 s5=>wq47 k k s0 s1 s2 s3 s4 s5 K E) x0 x1 x2 x3 x4 K E
theorem wqwj(k:Nat): DOK Tryz.prog 150 (h_lex_lexer_row.run (@wqdd k)):=dok h_lex_lexer_row (wqm4 k) Tryz.f150 k (ok1 (wq8p k) (ok1 (wqut k) (ok1 (wq11b k) (ok1 (wqj5 k) (ok1 (wq16h k) (ok1 (wquw k) ok0)))))) (by kernel_rfl) (by kernel_rfl) fun R=>h_lex_lexer_row.f1 u_lex_lexer_row_1003 (wqgm k) (by kernel_rfl) (wqje k (fun _ _=>none) k) (by kernel_rfl)
def wqy3:List LS:=[.ag [.any,.any,.any]]
def wq16i(k:Nat): CTab:=(CTab.add 150 h_lex_lexer_row.sig (h_lex_lexer_row.run (@wqdd k)) CTab.nil)
def wqmx{R:Type}(K:((List dT156)→Int→Int→Option R)): Out→Option R
 |.ret [.v (.sl (.pr (.int .i64) (.pr (.int .i64) (.pr (.int .i64) (.pr .str .bool))))) y0,.agg [.v (.int .i64) y1,.v (.int .i64) y2]] []=>K y0 y1 y2
 |_=>none
def wq11d:RetSpec:=⟨[.sl (.pr (.int .i64) (.pr (.int .i64) (.pr (.int .i64) (.pr .str .bool)))),.ag [.any,.any]],[],[]⟩
def wq13x:List (Nat×CutSpec):=[]
def wq11e:List (Nat×Plan):=[]
def wquy(k:Nat): Ctx:=⟨tyT,wq13x,wq16i k,[2,3],[],wq11e,@SH⟩
def wq8e:Code:=Tryz.f100.body.getD .skip
def wqic(k:Nat){R:Type}: PV→List PV→List (Nm×HObj)→(Out→Option R)→Option R
 |.nilif,[.ptr 1 0,.ptr 2 0],[(1,.var 110 [.v (.sl (.pr (.int .i64) (.pr (.int .i64) (.pr (.int .i64) (.pr .str .bool))))) x0]),(2,.var 29 [.v (.int .i64) x1,.v (.int .i64) x2])],K=>wqdq k x0 x1 x2 (fun y0 y1 y2=>K (.ret [] [(1,.var 110 [.v (.sl (.pr (.int .i64) (.pr (.int .i64) (.pr (.int .i64) (.pr .str .bool))))) y0]),(2,.var 29 [.v (.int .i64) y1,.v (.int .i64) y2])]))
 |.ifc 29 (.agg [.v (.int .i64) x3,.v (.int .i64) x4]),[.ptr 1 0,.ptr 2 0],[(1,.var 110 [.v (.sl (.pr (.int .i64) (.pr (.int .i64) (.pr (.int .i64) (.pr .str .bool))))) x0]),(2,.var 29 [.v (.int .i64) x1,.v (.int .i64) x2])],K=>wqdr k x0 x1 x2 x3 x4 (fun y0 y1 y2=>K (.ret [] [(1,.var 110 [.v (.sl (.pr (.int .i64) (.pr (.int .i64) (.pr (.int .i64) (.pr .str .bool))))) y0]),(2,.var 29 [.v (.int .i64) y1,.v (.int .i64) y2])]))
 |_,_,_,_=>none
def wqzb(k:Nat){R:Type}(x0 x1:Int)(x2:(List UInt8))(K:((List dT156)→Int→Int→Option R)): Option R:=wqdd k x0 x1 x2 0 [] (fun y6 y7 y8 y9 y10=>wqdq k y10 0 0 K) (fun y6 y7 y8 y9 y10 y11 y12=>wqdr k [] 0 0 y11 y12 K)
theorem wq13y(k:Nat){R:Type}(I:Nat→St→Option R)(x0 x1:Int)(x2:(List UInt8))(K:((List dT156)→Int→Int→Option R)): fnDK (wquy k) k [300,400] [at_ [0] wq8e] (opsAt (at_ [1,0] wq8e)) (at_ [1,1] wq8e) 16 [.cell 2 110,.cell 3 29] wq11d (wqic k) wqre [(300,0),(400,0)] [.agg [.v (.int .i64) x0,.v (.int .i64) x1,.v .str x2]] [] (wqmx K)=wqzb k x0 x1 x2 K:=by kernel_rfl
def wql2(k:Nat){R:Type}(x0 x1:Int)(x2:(List UInt8))(K:((List dT156)→Int→Int→Option R)): Option R:=wqzb k x0 x1 x2 K
theorem wq13z(k:Nat){R:Type}(x0 x1:Int)(x2:(List UInt8))(K:((List dT156)→Int→Int→Option R)): fnDK (wquy k) k [300,400] [at_ [0] wq8e] (opsAt (at_ [1,0] wq8e)) (at_ [1,1] wq8e) 16 [.cell 2 110,.cell 3 29] wq11d (wqic k) wqre [(300,0),(400,0)] [.agg [.v (.int .i64) x0,.v (.int .i64) x1,.v .str x2]] [] (wqmx K)=wql2 k x0 x1 x2 K:=by
 exact wq13y k (fun _ _=>none) x0 x1 x2 K
def wql3(k:Nat){R:Type}: List PV→List (Nm×HObj)→(Out→Option R)→Option R
 |[.agg [.v (.int .i64) x0,.v (.int .i64) x1,.v .str x2]],[],K=>wql2 k x0 x1 x2 (fun y0 y1 y2=>K (.ret [.v (.sl (.pr (.int .i64) (.pr (.int .i64) (.pr (.int .i64) (.pr .str .bool))))) y0,.agg [.v (.int .i64) y1,.v (.int .i64) y2]] []))
 |_,_,_=>none
theorem wq140(k:Nat): (wq16i k).Ok Tryz.prog:=(wqxt (wqwj k) CTab.nil_ok)
theorem wqwk(k:Nat){R:Type}(rec:PV)(ps:List PV)(hp:List (Nm×HObj))(K:Out→Option R)(r:R)(h:wqic k rec ps hp K=some r): DoesToD Tryz.prog 149 rec ps hp fun out=>K out=some r:=by
 unfold wqic at h
 split at h
 ·exact wqz8 k h
 ·exact wqz9 k h
 ·cases h
theorem wq16j(k:Nat){ps:List PV}{hp:List (Nm×HObj)}{R:Type}{K:Out→Option R}{r:R}(h:wql3 k ps hp K=some r): DoesTo Tryz.prog 100 ps hp fun out=>K out=some r:=by
 unfold wql3 at h
 split at h
 ·rw[←wq13z]at h
  have:=wq19v (P:=Tryz.prog) (cx:=wquy k) (f:=100) ⟨tyT_ok,wq140 k,fun _ _=>rfl⟩ (by kernel_rfl) (fn:=Tryz.f100) (id:=1) (pre:=[at_ [0] wq8e]) (rest:=at_ [1,1] wq8e) (ops:=opsAt (at_ [1,0] wq8e)) (by kernel_rfl) (by kernel_rfl) (by kernel_rfl) (rs:=[.cell 2 110,.cell 3 29]) (by kernel_rfl) (by kernel_rfl) (by kernel_rfl) (g:=149) (s:=5) (xs:=[.tmp 2,.tmp 3]) (by kernel_rfl) (Invokes.of (fn:=Tryz.f149) (by kernel_rfl) (c:=Tryz.f149.body.getD .skip) (by kernel_rfl) (by kernel_rfl)) (wqwk k) h
  exact this.mono fun out ho=>by
   unfold wqmx at ho
   split at ho<;>first|exact ho|cases ho
 ·cases h
def h_line_quoted:Sh:=⟨[.a .str,.a kI],some ([],[.a kI,.a .bool]),none⟩
def u_line_quoted_1003:Cu:=⟨0,[0,6,7],[.a .str,.a (.int .u8),.a kI]⟩
def wqrh(k:Nat): Cxt:=⟨[],[],[(1003,u_line_quoted_1003.spec)],[]⟩
def wqcy(k:Nat){R:Type}(E1003:((List UInt8)→Int→Int→Option R))(s0:(List UInt8))(s1 s2:Int)(K:(Int→Bool→Option R)): Option R:=cond (decide (s2<(s0.length:Int))) (cond ((!((s1 == 34) == true)) || (inb s2 (s0.length:Int))) (cond (cond (s1 == 34) (((s0.getD s2.toNat 0).toNat:Int) == 92) false) (E1003 s0 s1 (@Go.IntKind.wrap Go.IntKind.i64 ((@Go.IntKind.wrap Go.IntKind.i64 (s2+1))+1))) (cond (inb s2 (s0.length:Int)) (cond (((s0.getD s2.toNat 0).toNat:Int) != s1) (E1003 s0 s1 (@Go.IntKind.wrap Go.IntKind.i64 (s2+1))) (cond ((!((cond (s1 == 39) (decide ((@Go.IntKind.wrap Go.IntKind.i64 (s2+1))<(s0.length:Int))) false) == true)) || (inb (@Go.IntKind.wrap Go.IntKind.i64 (s2+1)) (s0.length:Int))) (cond (cond (cond (s1 == 39) (decide ((@Go.IntKind.wrap Go.IntKind.i64 (s2+1))<(s0.length:Int))) false) (((s0.getD (@Go.IntKind.wrap Go.IntKind.i64 (s2+1)).toNat 0).toNat:Int) == s1) false) (E1003 s0 s1 (@Go.IntKind.wrap Go.IntKind.i64 ((@Go.IntKind.wrap Go.IntKind.i64 (s2+1))+1))) (K s2 true)) none)) none)) none) (K 0 false)
def wqk7(k:Nat){R:Type}(E1003:((List UInt8)→Int→Int→Option R))(x0:(List UInt8))(x1:Int)(K:(Int→Bool→Option R)): Option R:=cond (inb x1 (x0.length:Int)) (E1003 x0 ((x0.getD x1.toNat 0).toNat:Int) (@Go.IntKind.wrap Go.IntKind.i64 (x1+1))) none
def wq68(k:Nat){R:Type}: Nat→(List UInt8)→Int→Int→(Int→Bool→Option R)→Option R
 |0,_,_,_,_=>none
 |n+1,s0,s1,s2,K=>wqcy k (fun s0 s1 s2=>wq68 k n s0 s1 s2 K) s0 s1 s2 K
theorem wqlj(k:Nat){R:Type}: ∀(I:Nat→St→Option R) (n:Nat),h_line_quoted.lp u_line_quoted_1003 (wqrh k).cx k Tryz.f147 1003 [1,1,0,1,0] I n=wq68 k n:=h_line_quoted.lok u_line_quoted_1003 (B:=wqcy k) (L:=wq68 k) (fun I=>by kernel_rfl) (fun I=>by kernel_rfl) (fun n=>by kernel_rfl) (fun _ _ _ _=>rfl)
def wqbg(k:Nat){R:Type}(x0:(List UInt8))(x1:Int)(K:(Int→Bool→Option R)): Option R:=wqk7 k (fun s0 s1 s2=>wq68 k k s0 s1 s2 K) x0 x1 K
theorem wq11f(k:Nat): DOK Tryz.prog 147 (h_line_quoted.run (@wqbg k)):=dok h_line_quoted (wqrh k) Tryz.f147 k ok0 (by kernel_rfl) (by kernel_rfl) fun R=>h_line_quoted.f1 u_line_quoted_1003 (wqk7 k) (by kernel_rfl) (wqlj k (fun _ _=>none) k) (by kernel_rfl)
def wq11g(k:Nat): Ent:=h_line_quoted.e 147 (@wqbg k)
def h_strings_trimRightByte:Sh:=⟨[.a .str,.a (.int .u8)],some ([],[.a .str]),none⟩
def u_strings_trimRightByte_1001:Cu:=⟨0,[0,1],[.a .str,.a (.int .u8)]⟩
def wqck(k:Nat): Cxt:=⟨[],[],[(1001,u_strings_trimRightByte_1001.spec)],[]⟩
def wq6m(k:Nat){R:Type}(E1001:((List UInt8)→Int→Option R))(s0:(List UInt8))(s1:Int)(K:((List UInt8)→Option R)): Option R:=cond ((!((decide ((s0.length:Int)>0)) == true)) || (inb (@Go.IntKind.wrap Go.IntKind.i64 ((s0.length:Int)-1)) (s0.length:Int))) (cond (cond (decide ((s0.length:Int)>0)) (((s0.getD (@Go.IntKind.wrap Go.IntKind.i64 ((s0.length:Int)-1)).toNat 0).toNat:Int) == s1) false) (cond (bnd 0 (@Go.IntKind.wrap Go.IntKind.i64 ((s0.length:Int)-1)) (s0.length:Int)) (E1001 (cut s0 0 (@Go.IntKind.wrap Go.IntKind.i64 ((s0.length:Int)-1))) s1) none) (K s0)) none
def wq8y(k:Nat){R:Type}(E1001:((List UInt8)→Int→Option R))(x0:(List UInt8))(x1:Int)(K:((List UInt8)→Option R)): Option R:=E1001 x0 x1
def wq39(k:Nat){R:Type}: Nat→(List UInt8)→Int→((List UInt8)→Option R)→Option R
 |0,_,_,_=>none
 |n+1,s0,s1,K=>wq6m k (fun s0 s1=>wq39 k n s0 s1 K) s0 s1 K
theorem wqdu(k:Nat){R:Type}: ∀(I:Nat→St→Option R) (n:Nat),h_strings_trimRightByte.lp u_strings_trimRightByte_1001 (wqck k).cx k Tryz.f188 1001 [1,0,0] I n=wq39 k n:=h_strings_trimRightByte.lok u_strings_trimRightByte_1001 (B:=wq6m k) (L:=wq39 k) (fun I=>by kernel_rfl) (fun I=>by kernel_rfl) (fun n=>by kernel_rfl) (fun _ _ _ _=>rfl)
def wq6t(k:Nat){R:Type}(x0:(List UInt8))(x1:Int)(K:((List UInt8)→Option R)): Option R:=wq8y k (fun s0 s1=>wq39 k k s0 s1 K) x0 x1 K
theorem wqjf(k:Nat): DOK Tryz.prog 188 (h_strings_trimRightByte.run (@wq6t k)):=dok h_strings_trimRightByte (wqck k) Tryz.f188 k ok0 (by kernel_rfl) (by kernel_rfl) fun R=>h_strings_trimRightByte.f1 u_strings_trimRightByte_1001 (wq8y k) (by kernel_rfl) (wqdu k (fun _ _=>none) k) (by kernel_rfl)
def wqjg(k:Nat): Ent:=h_strings_trimRightByte.e 188 (@wq6t k)
def h_strings_TrimRight:Sh:=⟨[.a .str,.j],some ([],[.a .str]),none⟩
def wqof(k:Nat): Cxt:=⟨[wqjg k],[],[],[]⟩
def wqg3(k:Nat){R:Type}(x0:(List UInt8))(x1:UInt8)(K:((List UInt8)→Option R)): Option R:=cond (cond (x0 == []) true ([x1] == [])) (K x0) (cond (cond ((@List.length UInt8 [x1]:Int) == 1) (decide (((([x1]).getD (Int.toNat 0) 0).toNat:Int)<128)) false) (wq6t k x0 ((([x1]).getD (Int.toNat 0) 0).toNat:Int) K) none)
def wq5f:=@wqg3
theorem wqog(k:Nat): DOK Tryz.prog 148 (h_strings_TrimRight.run (@wq5f k)):=dok h_strings_TrimRight (wqof k) Tryz.f148 k (ok1 (wqjf k) ok0) (by kernel_rfl) (by kernel_rfl) fun R=>by kernel_rfl
def wqoh(k:Nat): Ent:=h_strings_TrimRight.e 148 (@wq5f k)
def h_line_Strip:Sh:=⟨[.a .str],some ([],[.a .str,.a .bool]),none⟩
def u_line_Strip_1003:Cu:=⟨0,[0,4,5],[.a .str,.a kI,.a kI]⟩
def wquz(k:Nat): Cxt:=⟨[wq11g k,wqoh k],[],[(1003,u_line_Strip_1003.spec)],[]⟩
def wqe3(k:Nat){R:Type}(E1003:((List UInt8)→Int→Int→Option R))(s0:(List UInt8))(s1 s2:Int)(K:((List UInt8)→Bool→Option R)): Option R:=cond (decide (s2<(s0.length:Int))) (cond ((!((decide (s2>0)) == true)) || (inb (@Go.IntKind.wrap Go.IntKind.i64 (s2-1)) (s0.length:Int))) (cond (cond (decide (s2>0)) (((s0.getD (@Go.IntKind.wrap Go.IntKind.i64 (s2-1)).toNat 0).toNat:Int) != 32) false) (E1003 s0 s1 (@Go.IntKind.wrap Go.IntKind.i64 (s2+1))) (cond (inb s2 (s0.length:Int)) (cond (((s0.getD s2.toNat 0).toNat:Int) == 35) (cond (bnd 0 s2 (s0.length:Int)) (wq5f k (cut s0 0 s2) 32 (fun y7=>K y7 true)) none) (cond (((s0.getD s2.toNat 0).toNat:Int) == 39) (wqbg k s0 s2 (fun y7 y8=>cond (!y8) (K [] false) (E1003 s0 s1 (@Go.IntKind.wrap Go.IntKind.i64 (y7+1))))) (cond (((s0.getD s2.toNat 0).toNat:Int) == 34) (wqbg k s0 s2 (fun y7 y8=>cond (!y8) (K [] false) (E1003 s0 s1 (@Go.IntKind.wrap Go.IntKind.i64 (y7+1))))) (E1003 s0 s1 (@Go.IntKind.wrap Go.IntKind.i64 (s2+1)))))) none)) none) (cond (bnd 0 s1 (s0.length:Int)) (wq5f k (cut s0 0 s1) 32 (fun y7=>K y7 true)) none)
def wqmy(k:Nat){R:Type}(E1003:((List UInt8)→Int→Int→Option R))(x0:(List UInt8))(K:((List UInt8)→Bool→Option R)): Option R:=E1003 x0 (x0.length:Int) 0
def wq3n(k:Nat){R:Type}: Nat→(List UInt8)→Int→Int→((List UInt8)→Bool→Option R)→Option R
 |0,_,_,_,_=>none
 |n+1,s0,s1,s2,K=>wqe3 k (fun s0 s1 s2=>wq3n k n s0 s1 s2 K) s0 s1 s2 K
theorem wqmz(k:Nat){R:Type}: ∀(I:Nat→St→Option R) (n:Nat),h_line_Strip.lp u_line_Strip_1003 (wquz k).cx k Tryz.f99 1003 [1,0,1,1,0,1,0] I n=wq3n k n:=h_line_Strip.lok u_line_Strip_1003 (B:=wqe3 k) (L:=wq3n k) (fun I=>by kernel_rfl) (fun I=>by kernel_rfl) (fun n=>by kernel_rfl) (fun _ _ _ _=>rfl)
def wqcz(k:Nat){R:Type}(x0:(List UInt8))(K:((List UInt8)→Bool→Option R)): Option R:=wqmy k (fun s0 s1 s2=>wq3n k k s0 s1 s2 K) x0 K
theorem wqv0(k:Nat): DOK Tryz.prog 99 (h_line_Strip.run (@wqcz k)):=dok h_line_Strip (wquz k) Tryz.f99 k (ok1 (wq11f k) (ok1 (wqog k) ok0)) (by kernel_rfl) (by kernel_rfl) fun R=>h_line_Strip.f1 u_line_Strip_1003 (wqmy k) (by kernel_rfl) (wqmz k (fun _ _=>none) k) (by kernel_rfl)
def wqv1(k:Nat): Ent:=h_line_Strip.e 99 (@wqcz k)
def h_show_plain:Sh:=⟨[.a .str],some ([],[.a .bool]),none⟩
def u_show_plain_1002:Cu:=⟨0,[0,9,10],[.a .str,.a kI,.a kI]⟩
def wqv2(k:Nat): Cxt:=⟨[wqv1 k,⟨100,wqy3,wql3 k⟩],[],[(1002,u_show_plain_1002.spec)],[]⟩
def wqaq(k:Nat){R:Type}(E1002:((List UInt8)→Int→Int→Option R))(s0:(List UInt8))(s1 s2:Int)(K:(Bool→Option R)): Option R:=cond (decide (s2<s1)) (cond (inb s2 (s0.length:Int)) (cond ((!((decide (((s0.getD s2.toNat 0).toNat:Int)<32)) == false)) || (inb s2 (s0.length:Int))) (cond (cond (decide (((s0.getD s2.toNat 0).toNat:Int)<32)) true (((s0.getD s2.toNat 0).toNat:Int) == 127)) (K false) (E1002 s0 s1 (@Go.IntKind.wrap Go.IntKind.i64 (s2+1)))) none) none) (wqcz k s0 (fun y7 y8=>cond (cond (cond (s0 == []) true (!y8)) true (!(y7 == s0))) (K false) (wql2 k 0 0 s0 (fun y9 y10 y11=>cond ((!((cond (y10 == 0) ((y9.length:Int) == 1) false) == true)) || (inb 0 (y9.length:Int))) (cond ((!((cond (cond (y10 == 0) ((y9.length:Int) == 1) false) ((y9.getD (Int.toNat 0) kdT156.zero).1 == 3) false) == true)) || (inb 0 (y9.length:Int))) (cond ((!((cond (cond (cond (y10 == 0) ((y9.length:Int) == 1) false) ((y9.getD (Int.toNat 0) kdT156.zero).1 == 3) false) (((((y9.getD (Int.toNat 0) kdT156.zero).2).2).2).1 == s0) false) == true)) || (inb 0 (y9.length:Int))) (K (cond (cond (cond (cond (y10 == 0) ((y9.length:Int) == 1) false) ((y9.getD (Int.toNat 0) kdT156.zero).1 == 3) false) (((((y9.getD (Int.toNat 0) kdT156.zero).2).2).2).1 == s0) false) (!((((y9.getD (Int.toNat 0) kdT156.zero).2).2).2).2) false)) none) none) none))))
def wqn0(k:Nat){R:Type}(E1002:((List UInt8)→Int→Int→Option R))(x0:(List UInt8))(K:(Bool→Option R)): Option R:=E1002 x0 (x0.length:Int) 0
def wq5p(k:Nat){R:Type}: Nat→(List UInt8)→Int→Int→(Bool→Option R)→Option R
 |0,_,_,_,_=>none
 |n+1,s0,s1,s2,K=>wqaq k (fun s0 s1 s2=>wq5p k n s0 s1 s2 K) s0 s1 s2 K
theorem wqn1(k:Nat){R:Type}: ∀(I:Nat→St→Option R) (n:Nat),h_show_plain.lp u_show_plain_1002 (wqv2 k).cx k Tryz.f164 1002 [1,0,1,0] I n=wq5p k n:=h_show_plain.lok u_show_plain_1002 (B:=wqaq k) (L:=wq5p k) (fun I=>by kernel_rfl) (fun I=>by kernel_rfl) (fun n=>by kernel_rfl) (fun _ _ _ _=>rfl)
def wqfj(k:Nat){R:Type}(x0:(List UInt8))(K:(Bool→Option R)): Option R:=wqn0 k (fun s0 s1 s2=>wq5p k k s0 s1 s2 K) x0 K
theorem wq141(k:Nat): DOK Tryz.prog 164 (h_show_plain.run (@wqfj k)):=dok h_show_plain (wqv2 k) Tryz.f164 k (ok1 (wqv0 k) (ok1 (fun _ _ _ _ _ h=>wq16j k h) ok0)) (by kernel_rfl) (by kernel_rfl) fun R=>h_show_plain.f1 u_show_plain_1002 (wqn0 k) (by kernel_rfl) (wqn1 k (fun _ _=>none) k) (by kernel_rfl)
def wq142(k:Nat): Ent:=h_show_plain.e 164 (@wqfj k)
def h_show_may:Sh:=⟨[.g [.a kI,.a kI,.a .str,.a .bool,.s .str,.s kI]],some ([],[.a .bool]),none⟩
def wq1ah(k:Nat): Cxt:=⟨[wq142 k,wq13u k],[],[],[]⟩
def wq11h(k:Nat){R:Type}(x0 x1:Int)(x2:(List UInt8))(x3:Bool)(x4:(List (List UInt8)))(x5:(List Int))(K:(Bool→Option R)): Option R:=cond (x0 == 1) (cond ((cond (cond ((x4.length:Int) == 0) ((x5.length:Int) == 0) false) (decide ((x2.length:Int)≤200)) false) == true) (cond (x3 == false) (wqfj k x2 K) (K true)) (K false)) (cond (x0 == 2) (K (cond (cond (cond (x2 == []) (!x3) false) ((x4.length:Int) == 0) false) (decide ((x5.length:Int)>0)) false)) (cond (x0 == 3) (cond ((cond (cond (cond (x2 == []) (!x3) false) (decide ((x5.length:Int)>0)) false) ((x4.length:Int) == (x5.length:Int)) false) == true) (wqfe k x4 K) (K false)) (K false)))
def wqk8:=@wq11h
theorem wq1ai(k:Nat): DOK Tryz.prog 111 (h_show_may.run (@wqk8 k)):=dok h_show_may (wq1ah k) Tryz.f111 k (ok1 (wq141 k) (ok1 (wq13t k) ok0)) (by kernel_rfl) (by kernel_rfl) fun R=>by kernel_rfl
def wq1aj(k:Nat): Ent:=h_show_may.e 111 (@wqk8 k)
def h_show_walk:Sh:=⟨[.g [.s kdT72],.a kI,.a kI],some ([],[.a kI]),none⟩
abbrev wqb4:Type 1:=(R:Type)→(List dT72)→Int→Int→(Int→Option R)→Option R
def u_show_walk_1005:Cu:=⟨0,[2,3,7,35,36,37],[.a kI,.o 13 38 0 [.s kdT72],.a kI,.s kI,.a kI,.a kI]⟩
def wql4(k:Nat)(wq4r:wqb4): Cxt:=⟨[h_show_walk.e 68 wq4r,wq1aj k],[],[(1005,u_show_walk_1005.spec)],[]⟩
def wqc4(k:Nat)(wq4r:wqb4){R:Type}(E1005:(Int→(List dT72)→Int→(List Int)→Int→Int→Option R))(s0:Int)(s1:(List dT72))(s2:Int)(s3:(List Int))(s4 s5:Int)(K:(Int→Option R)): Option R:=cond (decide (s5<s4)) (cond (inb s5 (s3.length:Int)) (cond ((s3.getD s5.toNat kI.zero) != s2) (K (@Neg.neg Int @Int.instNegInt (1:Int))) (wq4r R s1 (s3.getD s5.toNat kI.zero) (@Go.IntKind.wrap Go.IntKind.i64 (s0+1)) (fun y10=>cond (decide (y10<0)) (K (@Neg.neg Int @Int.instNegInt (1:Int))) (E1005 s0 s1 y10 s3 s4 (@Go.IntKind.wrap Go.IntKind.i64 (s5+1)))))) none) (K s2)
def wqh8(k:Nat)(wq4r:wqb4){R:Type}(E1005:(Int→(List dT72)→Int→(List Int)→Int→Int→Option R))(x0:(List dT72))(x1 x2:Int)(K:(Int→Option R)): Option R:=cond ((!((cond (decide (x1≥(x0.length:Int))) true (decide (x2>24))) == false)) || (inb x1 (x0.length:Int))) (cond ((cond (decide (x1≥(x0.length:Int))) true (decide (x2>24))) == false) (wqk8 k (x0.getD x1.toNat kdT72.zero).1 ((x0.getD x1.toNat kdT72.zero).2).1 (((x0.getD x1.toNat kdT72.zero).2).2).1 ((((x0.getD x1.toNat kdT72.zero).2).2).2).1 (((((x0.getD x1.toNat kdT72.zero).2).2).2).2).1 (((((x0.getD x1.toNat kdT72.zero).2).2).2).2).2 (fun y7=>cond (!y7) (K (@Neg.neg Int @Int.instNegInt (1:Int))) (cond (inb x1 (x0.length:Int)) (E1005 x2 x0 (@Go.IntKind.wrap Go.IntKind.i64 (x1+1)) (((((x0.getD x1.toNat kdT72.zero).2).2).2).2).2 (((((((x0.getD x1.toNat kdT72.zero).2).2).2).2).2).length:Int) 0) none))) (K (@Neg.neg Int @Int.instNegInt (1:Int)))) none
def wq6n(k:Nat)(wq4r:wqb4){R:Type}: Nat→Int→(List dT72)→Int→(List Int)→Int→Int→(Int→Option R)→Option R
 |0,_,_,_,_,_,_,_=>none
 |n+1,s0,s1,s2,s3,s4,s5,K=>wqc4 k wq4r (fun s0 s1 s2 s3 s4 s5=>wq6n k wq4r n s0 s1 s2 s3 s4 s5 K) s0 s1 s2 s3 s4 s5 K
theorem wqoi(k:Nat)(wq4r:wqb4){R:Type}: ∀(I:Nat→St→Option R) (n:Nat),h_show_walk.lp u_show_walk_1005 (wql4 k wq4r).cx k Tryz.f68 1005 [1,1,1,0,1,0] I n=wq6n k wq4r n:=h_show_walk.lok u_show_walk_1005 (B:=wqc4 k wq4r) (L:=wq6n k wq4r) (fun I=>by kernel_rfl) (fun I=>by kernel_rfl) (fun n=>by kernel_rfl) (fun _ _ _ _=>rfl)
theorem wq17m(k:Nat)(wq4r:wqb4)(R:Type): h_show_walk.at (wql4 k wq4r) k Tryz.f68 R=h_show_walk.glue (l:=h_show_walk.ps) (u:=u_show_walk_1005.fs) (fun E1005=>@wqh8 k wq4r R E1005) (h_show_walk.lp u_show_walk_1005 (wql4 k wq4r).cx k Tryz.f68 1005 [1,1,1,0,1,0] (fun _ _=>none) k):=by kernel_rfl
def wq6o:Nat→wqb4
 |0,_,_,_,_,_=>none
 |k+1,R,x0,x1,x2,K=>wqh8 k (wq6o k) (fun s0 s1 s2 s3 s4 s5=>wq6n k (wq6o k) k s0 s1 s2 s3 s4 s5 K) x0 x1 x2 K
def wql5(k:Nat){R:Type}(x0:(List dT72))(x1 x2:Int)(K:(Int→Option R)): Option R:=wq6o k R x0 x1 x2 K
theorem wq143(k:Nat): DOK Tryz.prog 68 (h_show_walk.run (wq6o k)):=by
 induction k with
 |zero=>exact h_show_walk.ok0 fun R=>by kernel_rfl
 |succ k ih =>
  have ih_show_walk:=ih
  exact dok h_show_walk (wql4 k (wq6o k)) Tryz.f68 k (ok1 ih_show_walk (ok1 (wq1ai k) ok0)) (by kernel_rfl) (by kernel_rfl) fun R=>h_show_walk.f1 u_show_walk_1005 (wqh8 k (wq6o k)) (wq17m k (wq6o k) R) (wqoi k (wq6o k) (fun _ _=>none) k) (by kernel_rfl)
theorem wq17n(k:Nat): DOK Tryz.prog 68 (h_show_walk.run (@wql5 k)):=(wq143 k)
def wq17o(k:Nat): Ent:=h_show_walk.e 68 (@wql5 k)
def h_show_Check:Sh:=⟨[.g [.s kdT72]],some ([],[.a kI]),none⟩
def wq144(k:Nat): Cxt:=⟨[wq17o k],[],[],[(1,(.of [(0,1),(1,1),(2,1),(3,1),(4,1),(5,1),(6,1),(7,1),(8,1),(9,1),(10,1),(13,1),(11,1),(14,2),(15,1),(12,0),(16,1),(17,1)] .done))]⟩
def wqv3(k:Nat){R:Type}(x0:(List dT72))(K:(Int→Option R)): Option R:=cond ((cond (decide ((x0.length:Int)<1)) true (decide ((x0.length:Int)>2000))) == false) (wql5 k x0 0 1 (fun y4=>cond (y4 != (x0.length:Int)) (K 1) (K 0))) (K 1)
def wqfk:=@wqv3
theorem wq145(k:Nat): DOK Tryz.prog 35 (h_show_Check.run (@wqfk k)):=dok h_show_Check (wq144 k) Tryz.f35 k (ok1 (wq17n k) ok0) (by kernel_rfl) (by kernel_rfl) fun R=>by kernel_rfl
def wqri:List LS:=[.ag [.sl (.pr (.int .i64) (.pr (.int .i64) (.pr .str (.pr .bool (.pr (.sl .str) (.sl (.int .i64)))))))]]
def wqy4(k:Nat): CTab:=(CTab.add 35 h_show_Check.sig (h_show_Check.run (@wqfk k)) (CTab.add 37 h_config_reader_root.sig (h_config_reader_root.run (@wq6k k)) CTab.nil))
def wqid{R:Type}(K:((List ((List UInt8)×(List Int)))→(List dT56)→Int→Int→Option R)): Out→Option R
 |.ret [.agg [.v (.sl (.pr .str (.sl (.int .i64)))) y0,.v (.sl (.pr .str (.pr .str (.pr .bool (.pr (.int .i64) (.pr (.int .i64) (.pr .bool (.pr (.pr .str (.pr (.int .i64) (.pr (.int .i64) (.pr .flt (.pr .bool .bool))))) (.sl (.int .i64)))))))))) y1],.agg [.v (.int .i64) y2,.v (.int .i64) y3]] []=>K y0 y1 y2 y3
 |_=>none
def wqv4:RetSpec:=⟨[.ag [.sl (.pr .str (.sl (.int .i64))),.sl (.pr .str (.pr .str (.pr .bool (.pr (.int .i64) (.pr (.int .i64) (.pr .bool (.pr (.pr .str (.pr (.int .i64) (.pr (.int .i64) (.pr .flt (.pr .bool .bool))))) (.sl (.int .i64)))))))))],.ag [.any,.any]],[],[]⟩
def wqzc:List (Nat×CutSpec):=[]
def wqwl:List (Nat×Plan):=[]
def wqn2(k:Nat): Ctx:=⟨tyT,wqzc,wqy4 k,[2,3],[],wqwl,@SH⟩
def wq42:Code:=Tryz.f16.body.getD .skip
def wqeo(k:Nat){R:Type}: PV→List PV→List (Nm×HObj)→(Out→Option R)→Option R
 |.nilif,[.ptr 1 0,.ptr 2 0],[(1,.var 27 [.v (.sl (.pr .str (.sl (.int .i64)))) x0,.v (.sl (.pr .str (.pr .str (.pr .bool (.pr (.int .i64) (.pr (.int .i64) (.pr .bool (.pr (.pr .str (.pr (.int .i64) (.pr (.int .i64) (.pr .flt (.pr .bool .bool))))) (.sl (.int .i64)))))))))) x1]),(2,.var 29 [.v (.int .i64) x2,.v (.int .i64) x3])],K=>wqad k x0 x1 x2 x3 (fun y0 y1 y2 y3=>K (.ret [] [(1,.var 27 [.v (.sl (.pr .str (.sl (.int .i64)))) y0,.v (.sl (.pr .str (.pr .str (.pr .bool (.pr (.int .i64) (.pr (.int .i64) (.pr .bool (.pr (.pr .str (.pr (.int .i64) (.pr (.int .i64) (.pr .flt (.pr .bool .bool))))) (.sl (.int .i64)))))))))) y1]),(2,.var 29 [.v (.int .i64) y2,.v (.int .i64) y3])]))
 |.ifc 29 (.agg [.v (.int .i64) x4,.v (.int .i64) x5]),[.ptr 1 0,.ptr 2 0],[(1,.var 27 [.v (.sl (.pr .str (.sl (.int .i64)))) x0,.v (.sl (.pr .str (.pr .str (.pr .bool (.pr (.int .i64) (.pr (.int .i64) (.pr .bool (.pr (.pr .str (.pr (.int .i64) (.pr (.int .i64) (.pr .flt (.pr .bool .bool))))) (.sl (.int .i64)))))))))) x1]),(2,.var 29 [.v (.int .i64) x2,.v (.int .i64) x3])],K=>wqae k x0 x1 x2 x3 x4 x5 (fun y0 y1 y2 y3=>K (.ret [] [(1,.var 27 [.v (.sl (.pr .str (.sl (.int .i64)))) y0,.v (.sl (.pr .str (.pr .str (.pr .bool (.pr (.int .i64) (.pr (.int .i64) (.pr .bool (.pr (.pr .str (.pr (.int .i64) (.pr (.int .i64) (.pr .flt (.pr .bool .bool))))) (.sl (.int .i64)))))))))) y1]),(2,.var 29 [.v (.int .i64) y2,.v (.int .i64) y3])]))
 |_,_,_,_=>none
def wqqj(k:Nat){R:Type}(x0:(List dT72))(K:((List ((List UInt8)×(List Int)))→(List dT56)→Int→Int→Option R)): Option R:=wqfk k x0 (fun y4=>cond (y4 != 0) (K [] [] 11 0) (wq6k k x0 [] [] 0 (fun y5 y6 y7 y8=>wqad k y6 y7 0 0 K) (fun y5 y6 y7 y8 y9 y10=>wqae k [] [] 0 0 y9 y10 K)))
theorem wqzd(k:Nat){R:Type}(I:Nat→St→Option R)(x0:(List dT72))(K:((List ((List UInt8)×(List Int)))→(List dT56)→Int→Int→Option R)): fnDK (wqn2 k) k [300,400] [at_ [0] wq42,at_ [1,0] wq42] (opsAt (at_ [1,1,0] wq42)) (at_ [1,1,1] wq42) 22 [.cell 2 27,.cell 3 29] wqv4 (wqeo k) wqlw [(300,0),(400,0)] [.agg [.v (.sl (.pr (.int .i64) (.pr (.int .i64) (.pr .str (.pr .bool (.pr (.sl .str) (.sl (.int .i64)))))))) x0]] [] (wqid K)=wqqj k x0 K:=by kernel_rfl
def wq9q(k:Nat){R:Type}(x0:(List dT72))(K:((List ((List UInt8)×(List Int)))→(List dT56)→Int→Int→Option R)): Option R:=wqqj k x0 K
theorem wqze(k:Nat){R:Type}(x0:(List dT72))(K:((List ((List UInt8)×(List Int)))→(List dT56)→Int→Int→Option R)): fnDK (wqn2 k) k [300,400] [at_ [0] wq42,at_ [1,0] wq42] (opsAt (at_ [1,1,0] wq42)) (at_ [1,1,1] wq42) 22 [.cell 2 27,.cell 3 29] wqv4 (wqeo k) wqlw [(300,0),(400,0)] [.agg [.v (.sl (.pr (.int .i64) (.pr (.int .i64) (.pr .str (.pr .bool (.pr (.sl .str) (.sl (.int .i64)))))))) x0]] [] (wqid K)=wq9q k x0 K:=by
 exact wqzd k (fun _ _=>none) x0 K
def wqg4(k:Nat){R:Type}: List PV→List (Nm×HObj)→(Out→Option R)→Option R
 |[.agg [.v (.sl (.pr (.int .i64) (.pr (.int .i64) (.pr .str (.pr .bool (.pr (.sl .str) (.sl (.int .i64)))))))) x0]],[],K=>wq9q k x0 (fun y0 y1 y2 y3=>K (.ret [.agg [.v (.sl (.pr .str (.sl (.int .i64)))) y0,.v (.sl (.pr .str (.pr .str (.pr .bool (.pr (.int .i64) (.pr (.int .i64) (.pr .bool (.pr (.pr .str (.pr (.int .i64) (.pr (.int .i64) (.pr .flt (.pr .bool .bool))))) (.sl (.int .i64)))))))))) y1],.agg [.v (.int .i64) y2,.v (.int .i64) y3]] []))
 |_,_,_=>none
theorem wqzf(k:Nat): (wqy4 k).Ok Tryz.prog:=(wqxt (wq145 k) (wqxt (wqmu k) CTab.nil_ok))
theorem wqsq(k:Nat){R:Type}(rec:PV)(ps:List PV)(hp:List (Nm×HObj))(K:Out→Option R)(r:R)(h:wqeo k rec ps hp K=some r): DoesToD Tryz.prog 36 rec ps hp fun out=>K out=some r:=by
 unfold wqeo at h
 split at h
 ·exact wqua k h
 ·exact wqub k h
 ·cases h
theorem wqy5(k:Nat){ps:List PV}{hp:List (Nm×HObj)}{R:Type}{K:Out→Option R}{r:R}(h:wqg4 k ps hp K=some r): DoesTo Tryz.prog 16 ps hp fun out=>K out=some r:=by
 unfold wqg4 at h
 split at h
 ·rw[←wqze]at h
  have:=wq19v (P:=Tryz.prog) (cx:=wqn2 k) (f:=16) ⟨tyT_ok,wqzf k,fun _ _=>rfl⟩ (by kernel_rfl) (fn:=Tryz.f16) (id:=3) (pre:=[at_ [0] wq42,at_ [1,0] wq42]) (rest:=at_ [1,1,1] wq42) (ops:=opsAt (at_ [1,1,0] wq42)) (by kernel_rfl) (by kernel_rfl) (by kernel_rfl) (rs:=[.cell 2 27,.cell 3 29]) (by kernel_rfl) (by kernel_rfl) (by kernel_rfl) (g:=36) (s:=10) (xs:=[.tmp 2,.tmp 3]) (by kernel_rfl) (Invokes.of (fn:=Tryz.f36) (by kernel_rfl) (c:=Tryz.f36.body.getD .skip) (by kernel_rfl) (by kernel_rfl)) (wqsq k) h
  exact this.mono fun out ho=>by
   unfold wqid at ho
   split at ho<;>first|exact ho|cases ho
 ·cases h
def wqv5:List LS:=[.obj 1 [.sl (.pr (.int .i64) (.pr (.int .i64) (.pr .str (.pr .bool (.pr (.sl .str) (.sl (.int .i64)))))))],.obj 2 [.any,.any]]
def wqv6(k:Nat): CTab:=CTab.nil
def wqgn{R:Type}(K:((List dT72)→Int→Int→Option R)): Out→Option R
 |.ret [] [(1,.var 38 [.v (.sl (.pr (.int .i64) (.pr (.int .i64) (.pr .str (.pr .bool (.pr (.sl .str) (.sl (.int .i64)))))))) y0]),(2,.var 29 [.v (.int .i64) y1,.v (.int .i64) y2])]=>K y0 y1 y2
 |_=>none
def wqrj:RetSpec:=⟨[],[(1,.obj 1 [.sl (.pr (.int .i64) (.pr (.int .i64) (.pr .str (.pr .bool (.pr (.sl .str) (.sl (.int .i64)))))))]),(2,.obj 2 [.any,.any])],[]⟩
def wqwm:List (Nat×CutSpec):=[]
def wqv7:List (Nat×Plan):=[(7,(.of [(0,1),(1,2),(2,0),(3,0)] .done))]
def wqk9(k:Nat): Ctx:=⟨tyT,wqwm,wqv6 k,[],[1,2],wqv7,@SH⟩
def wqde:Code:=Tryz.f101.body.getD .skip
def wqv8(k:Nat){R:Type}(x0:(List dT72))(x1 x2:Int)(K:((List dT72)→Int→Int→Option R)): Option R:=K x0 x1 x2
theorem wqwn(k:Nat){R:Type}(I:Nat→St→Option R)(x0:(List dT72))(x1 x2:Int)(K:((List dT72)→Int→Int→Option R)): fnCK (wqk9 k) k (at_ [1] wqde) 13 [] wqrj [.ptr 1 0,.ptr 2 0] 5 (.nilif) [(1,.var 38 [.v (.sl (.pr (.int .i64) (.pr (.int .i64) (.pr .str (.pr .bool (.pr (.sl .str) (.sl (.int .i64)))))))) x0]),(2,.var 29 [.v (.int .i64) x1,.v (.int .i64) x2])] (wqgn K)=wqv8 k x0 x1 x2 K:=by kernel_rfl
def wqfl(k:Nat){R:Type}(x0:(List dT72))(x1 x2:Int)(K:((List dT72)→Int→Int→Option R)): Option R:=wqv8 k x0 x1 x2 K
theorem wqwo(k:Nat){R:Type}(x0:(List dT72))(x1 x2:Int)(K:((List dT72)→Int→Int→Option R)): fnCK (wqk9 k) k (at_ [1] wqde) 13 [] wqrj [.ptr 1 0,.ptr 2 0] 5 (.nilif) [(1,.var 38 [.v (.sl (.pr (.int .i64) (.pr (.int .i64) (.pr .str (.pr .bool (.pr (.sl .str) (.sl (.int .i64)))))))) x0]),(2,.var 29 [.v (.int .i64) x1,.v (.int .i64) x2])] (wqgn K)=wqfl k x0 x1 x2 K:=by
 exact wqwn k (fun _ _=>none) x0 x1 x2 K
def wqoj(k:Nat){R:Type}: PV→List PV→List (Nm×HObj)→(Out→Option R)→Option R
 |.nilif,[.ptr 1 0,.ptr 2 0],[(1,.var 38 [.v (.sl (.pr (.int .i64) (.pr (.int .i64) (.pr .str (.pr .bool (.pr (.sl .str) (.sl (.int .i64)))))))) x0]),(2,.var 29 [.v (.int .i64) x1,.v (.int .i64) x2])],K=>wqfl k x0 x1 x2 (fun y0 y1 y2=>K (.ret [] [(1,.var 38 [.v (.sl (.pr (.int .i64) (.pr (.int .i64) (.pr .str (.pr .bool (.pr (.sl .str) (.sl (.int .i64)))))))) y0]),(2,.var 29 [.v (.int .i64) y1,.v (.int .i64) y2])]))
 |_,_,_,_=>none
theorem wqwp(k:Nat): (wqv6 k).Ok Tryz.prog:=CTab.nil_ok
theorem wq11i(k:Nat){rec:PV}{ps:List PV}{hp:List (Nm×HObj)}{R:Type}{K:Out→Option R}{r:R}(h:wqoj k rec ps hp K=some r): DoesToD Tryz.prog 101 rec ps hp fun out=>K out=some r:=by
 unfold wqoj at h
 split at h
 ·rw[←wqwo]at h
  have:=wqxs (P:=Tryz.prog) (cx:=wqk9 k) (f:=101) ⟨tyT_ok,wqwp k,fun _ _=>rfl⟩ (by kernel_rfl) (fn:=Tryz.f101) (id:=0) (ops:=opsAt (at_ [0] wqde)) (c:=at_ [1] wqde) (by kernel_rfl) (by kernel_rfl) (by kernel_rfl) (rs:=[]) (by kernel_rfl) (by kernel_rfl) h
  exact this.mono fun out ho=>by
   unfold wqgn at ho
   split at ho<;>first|exact ho|cases ho
 ·cases h
def wqv9(k:Nat): CTab:=CTab.nil
def wqgo{R:Type}(K:((List dT72)→Int→Int→Option R)): Out→Option R
 |.ret [] [(1,.var 38 [.v (.sl (.pr (.int .i64) (.pr (.int .i64) (.pr .str (.pr .bool (.pr (.sl .str) (.sl (.int .i64)))))))) y0]),(2,.var 29 [.v (.int .i64) y1,.v (.int .i64) y2])]=>K y0 y1 y2
 |_=>none
def wqrk:RetSpec:=⟨[],[(1,.obj 1 [.sl (.pr (.int .i64) (.pr (.int .i64) (.pr .str (.pr .bool (.pr (.sl .str) (.sl (.int .i64)))))))]),(2,.obj 2 [.any,.any])],[]⟩
def wqwq:List (Nat×CutSpec):=[]
def wqva:List (Nat×Plan):=[(7,(.of [(0,1),(1,2),(2,0),(3,0)] .done))]
def wqka(k:Nat): Ctx:=⟨tyT,wqwq,wqv9 k,[],[1,2],wqva,@SH⟩
def wqdf:Code:=Tryz.f101.body.getD .skip
def wqvb(k:Nat){R:Type}(x0:(List dT72))(x1 x2 x3 x4:Int)(K:((List dT72)→Int→Int→Option R)): Option R:=K [] x3 x4
theorem wqwr(k:Nat){R:Type}(I:Nat→St→Option R)(x0:(List dT72))(x1 x2 x3 x4:Int)(K:((List dT72)→Int→Int→Option R)): fnCK (wqka k) k (at_ [1] wqdf) 13 [] wqrk [.ptr 1 0,.ptr 2 0] 5 (.ifc 29 (.agg [.v (.int .i64) x3,.v (.int .i64) x4])) [(1,.var 38 [.v (.sl (.pr (.int .i64) (.pr (.int .i64) (.pr .str (.pr .bool (.pr (.sl .str) (.sl (.int .i64)))))))) x0]),(2,.var 29 [.v (.int .i64) x1,.v (.int .i64) x2])] (wqgo K)=wqvb k x0 x1 x2 x3 x4 K:=by kernel_rfl
def wqb5(k:Nat){R:Type}(x0:(List dT72))(x1 x2 x3 x4:Int)(K:((List dT72)→Int→Int→Option R)): Option R:=wqvb k x0 x1 x2 x3 x4 K
theorem wqws(k:Nat){R:Type}(x0:(List dT72))(x1 x2 x3 x4:Int)(K:((List dT72)→Int→Int→Option R)): fnCK (wqka k) k (at_ [1] wqdf) 13 [] wqrk [.ptr 1 0,.ptr 2 0] 5 (.ifc 29 (.agg [.v (.int .i64) x3,.v (.int .i64) x4])) [(1,.var 38 [.v (.sl (.pr (.int .i64) (.pr (.int .i64) (.pr .str (.pr .bool (.pr (.sl .str) (.sl (.int .i64)))))))) x0]),(2,.var 29 [.v (.int .i64) x1,.v (.int .i64) x2])] (wqgo K)=wqb5 k x0 x1 x2 x3 x4 K:=by
 exact wqwr k (fun _ _=>none) x0 x1 x2 x3 x4 K
def wqok(k:Nat){R:Type}: PV→List PV→List (Nm×HObj)→(Out→Option R)→Option R
 |.ifc 29 (.agg [.v (.int .i64) x3,.v (.int .i64) x4]),[.ptr 1 0,.ptr 2 0],[(1,.var 38 [.v (.sl (.pr (.int .i64) (.pr (.int .i64) (.pr .str (.pr .bool (.pr (.sl .str) (.sl (.int .i64)))))))) x0]),(2,.var 29 [.v (.int .i64) x1,.v (.int .i64) x2])],K=>wqb5 k x0 x1 x2 x3 x4 (fun y0 y1 y2=>K (.ret [] [(1,.var 38 [.v (.sl (.pr (.int .i64) (.pr (.int .i64) (.pr .str (.pr .bool (.pr (.sl .str) (.sl (.int .i64)))))))) y0]),(2,.var 29 [.v (.int .i64) y1,.v (.int .i64) y2])]))
 |_,_,_,_=>none
theorem wqwt(k:Nat): (wqv9 k).Ok Tryz.prog:=CTab.nil_ok
theorem wq11j(k:Nat){rec:PV}{ps:List PV}{hp:List (Nm×HObj)}{R:Type}{K:Out→Option R}{r:R}(h:wqok k rec ps hp K=some r): DoesToD Tryz.prog 101 rec ps hp fun out=>K out=some r:=by
 unfold wqok at h
 split at h
 ·rw[←wqws]at h
  have:=wqxs (P:=Tryz.prog) (cx:=wqka k) (f:=101) ⟨tyT_ok,wqwt k,fun _ _=>rfl⟩ (by kernel_rfl) (fn:=Tryz.f101) (id:=0) (ops:=opsAt (at_ [0] wqdf)) (c:=at_ [1] wqdf) (by kernel_rfl) (by kernel_rfl) (by kernel_rfl) (rs:=[]) (by kernel_rfl) (by kernel_rfl) h
  exact this.mono fun out ho=>by
   unfold wqgo at ho
   split at ho<;>first|exact ho|cases ho
 ·cases h
def h_doc_gives:Sh:=⟨[.a kI,.a kI],none,some ([],[.i 29 (.g [.a kI,.a kI])])⟩
def wq17p(k:Nat): Cxt:=⟨[],[],[],[]⟩
def wq17q(k:Nat){R:Type}(x0 x1:Int)(E:(Int→Int→Option R)): Option R:=E x0 x1
def wq73:=@wq17q
theorem wql6(k:Nat): DOK Tryz.prog 102 (h_doc_gives.run (@wq73 k)):=dok h_doc_gives (wq17p k) Tryz.f102 k ok0 (by kernel_rfl) (by kernel_rfl) fun R=>by kernel_rfl
def wqqk(k:Nat): Ent:=h_doc_gives.e 102 (@wq73 k)
def h_doc_parser_next:Sh:=⟨[.o 1 155 0 [.s kdT156,.w 21 73 kdT72],.a kI,.a kI],some ([.o 1 155 0 [.s kdT156,.w 21 73 kdT72]],[.a .bool]),none⟩
def wqsr(k:Nat): Cxt:=⟨[],[1],[],[]⟩
def wqj7(k:Nat){R:Type}(x0:(List dT156))(x1:(List dT72))(x2 x3:Int)(K:((List dT156)→(List dT72)→Bool→Option R)): Option R:=cond ((!((decide ((x0.length:Int)>0)) == true)) || (inb 0 (x0.length:Int))) (cond ((!((cond (decide ((x0.length:Int)>0)) ((x0.getD (Int.toNat 0) kdT156.zero).1 == x2) false) == true)) || (inb 0 (x0.length:Int))) (K x0 x1 (cond (cond (decide ((x0.length:Int)>0)) ((x0.getD (Int.toNat 0) kdT156.zero).1 == x2) false) ((((x0.getD (Int.toNat 0) kdT156.zero).2).2).1 == x3) false)) none) none
def wq74:=@wqj7
theorem wqj8(k:Nat): DOK Tryz.prog 197 (h_doc_parser_next.run (@wq74 k)):=dok h_doc_parser_next (wqsr k) Tryz.f197 k ok0 (by kernel_rfl) (by kernel_rfl) fun R=>by kernel_rfl
def wqj9(k:Nat): Ent:=h_doc_parser_next.e 197 (@wq74 k)
def h_doc_parser_take:Sh:=⟨[.o 1 155 0 [.s kdT156,.w 21 73 kdT72]],some ([.o 1 155 0 [.s kdT156,.w 21 73 kdT72]],[.g [.a kI,.a kI,.a kI,.a .str,.a .bool]]),none⟩
def wqss(k:Nat): Cxt:=⟨[],[1],[],[]⟩
def wqja(k:Nat){R:Type}(x0:(List dT156))(x1:(List dT72))(K:((List dT156)→(List dT72)→Int→Int→Int→(List UInt8)→Bool→Option R)): Option R:=cond (inb 0 (x0.length:Int)) (cond (bnd 1 (x0.length:Int) (x0.length:Int)) (K (cut x0 1 (x0.length:Int)) x1 (x0.getD (Int.toNat 0) kdT156.zero).1 ((x0.getD (Int.toNat 0) kdT156.zero).2).1 (((x0.getD (Int.toNat 0) kdT156.zero).2).2).1 ((((x0.getD (Int.toNat 0) kdT156.zero).2).2).2).1 ((((x0.getD (Int.toNat 0) kdT156.zero).2).2).2).2) none) none
def wq5q:=@wqja
theorem wqe4(k:Nat): DOK Tryz.prog 151 (h_doc_parser_take.run (@wq5q k)):=dok h_doc_parser_take (wqss k) Tryz.f151 k ok0 (by kernel_rfl) (by kernel_rfl) fun R=>by kernel_rfl
def wqe5(k:Nat): Ent:=h_doc_parser_take.e 151 (@wq5q k)
def h_doc_parser_block:Sh:=⟨[.o 1 155 0 [.s kdT156,.w 21 73 kdT72],.a kI],some ([.o 1 155 0 [.s kdT156,.w 21 73 kdT72]],[.a kI]),some ([.o 1 155 0 [.s kdT156,.w 21 73 kdT72]],[.i 29 (.g [.a kI,.a kI])])⟩
abbrev wq1g:Type 1:=(R:Type)→(List dT156)→(List dT72)→Int→((List dT156)→(List dT72)→Int→Option R)→((List dT156)→(List dT72)→Int→Int→Option R)→Option R
def h_doc_parser_list:Sh:=⟨[.o 1 155 0 [.s kdT156,.w 21 73 kdT72],.a kI,.a kI,.a kI],some ([.o 1 155 0 [.s kdT156,.w 21 73 kdT72]],[]),some ([.o 1 155 0 [.s kdT156,.w 21 73 kdT72]],[.i 29 (.g [.a kI,.a kI])])⟩
abbrev wq1q:Type 1:=(R:Type)→(List dT156)→(List dT72)→Int→Int→Int→((List dT156)→(List dT72)→Option R)→((List dT156)→(List dT72)→Int→Int→Option R)→Option R
def h_doc_parser_pairs:Sh:=⟨[.o 1 155 0 [.s kdT156,.w 21 73 kdT72],.a kI,.a kI,.a kI],some ([.o 1 155 0 [.s kdT156,.w 21 73 kdT72]],[]),some ([.o 1 155 0 [.s kdT156,.w 21 73 kdT72]],[.i 29 (.g [.a kI,.a kI])])⟩
abbrev wq1h:Type 1:=(R:Type)→(List dT156)→(List dT72)→Int→Int→Int→((List dT156)→(List dT72)→Option R)→((List dT156)→(List dT72)→Int→Int→Option R)→Option R
def h_doc_parser_under:Sh:=⟨[.o 1 155 0 [.s kdT156,.w 21 73 kdT72],.g [.a kI,.a kI,.a kI,.a .str,.a .bool],.a kI],some ([.o 1 155 0 [.s kdT156,.w 21 73 kdT72]],[.a kI]),some ([.o 1 155 0 [.s kdT156,.w 21 73 kdT72]],[.i 29 (.g [.a kI,.a kI])])⟩
abbrev wq1i:Type 1:=(R:Type)→(List dT156)→(List dT72)→Int→Int→Int→(List UInt8)→Bool→Int→((List dT156)→(List dT72)→Int→Option R)→((List dT156)→(List dT72)→Int→Int→Option R)→Option R
def wqh9(k:Nat)(wqa:wq1g)(wqd:wq1q)(wqb:wq1h)(wq7:wq1i): Cxt:=⟨[wqqk k,wqe5 k,h_doc_parser_list.e 152 wqd,h_doc_parser_pairs.e 153 wqb],[1],[],[(9,(.of [(0,1),(1,1),(2,1),(3,1),(4,1),(6,1),(5,1),(7,1),(8,1),(9,0),(10,0),(11,1),(12,1),(13,1),(14,0)] .done)),(14,(.of [(0,1),(1,1),(2,1),(3,1),(5,1),(6,1),(8,1),(10,1),(4,1),(7,1),(9,1),(11,1),(12,1),(13,1),(14,0)] .done))]⟩
def wqd0(k:Nat)(wqa:wq1g)(wqd:wq1q)(wqb:wq1h)(wq7:wq1i){R:Type}(x0:(List dT156))(x1:(List dT72))(x2:Int)(K:((List dT156)→(List dT72)→Int→Option R))(E:((List dT156)→(List dT72)→Int→Int→Option R)): Option R:=cond (inb 0 (x0.length:Int)) (cond (cond (decide ((x0.getD (Int.toNat 0) kdT156.zero).1<1)) true (decide ((x0.getD (Int.toNat 0) kdT156.zero).1>3))) (wq73 k 6 ((x0.getD (Int.toNat 0) kdT156.zero).2).1 (fun y7 y8=>E x0 x1 y7 y8)) (cond (decide (x2>24)) (wq73 k 8 ((x0.getD (Int.toNat 0) kdT156.zero).2).1 (fun y7 y8=>E x0 x1 y7 y8)) (cond (decide ((x1.length:Int)≥2000)) (wq73 k 9 ((x0.getD (Int.toNat 0) kdT156.zero).2).1 (fun y7 y8=>E x0 x1 y7 y8)) (cond (fits x1.length (@List.length (@Kd.T kdT72) [((0:(@Kd.T kI)),(((x0.getD (Int.toNat 0) kdT156.zero).2).1,([],(false,([],[])))))]) 88) (cond ((x0.getD (Int.toNat 0) kdT156.zero).1 == 3) (wq5q k x0 (x1++[(0,(((x0.getD (Int.toNat 0) kdT156.zero).2).1,([],(false,([],[])))))]) (fun y7 y8 y9 y10 y11 y12 y13=>cond (inb (x1.length:Int) (y8.length:Int)) (@SH (@List (@Kd.T kdT72)) R (List.set y8 (x1.length:Int).toNat (1,(((x0.getD (Int.toNat 0) kdT156.zero).2).1,(((((x0.getD (Int.toNat 0) kdT156.zero).2).2).2).1,(((((x0.getD (Int.toNat 0) kdT156.zero).2).2).2).2,([],[])))))) (fun y14=>K y7 y14 (x1.length:Int))) none)) (cond ((x0.getD (Int.toNat 0) kdT156.zero).1 == 1) (wqd R x0 (x1++[(0,(((x0.getD (Int.toNat 0) kdT156.zero).2).1,([],(false,([],[])))))]) (x1.length:Int) (((x0.getD (Int.toNat 0) kdT156.zero).2).2).1 x2 (fun y7 y8=>K y7 y8 (x1.length:Int)) E) (wqb R x0 (x1++[(0,(((x0.getD (Int.toNat 0) kdT156.zero).2).1,([],(false,([],[])))))]) (x1.length:Int) (((x0.getD (Int.toNat 0) kdT156.zero).2).2).1 x2 (fun y7 y8=>K y7 y8 (x1.length:Int)) E))) none)))) none
theorem wqql(k:Nat)(wqa:wq1g)(wqd:wq1q)(wqb:wq1h)(wq7:wq1i)(R:Type): h_doc_parser_block.at (wqh9 k wqa wqd wqb wq7) k Tryz.f103 R=@wqd0 k wqa wqd wqb wq7 R:=by kernel_rfl
def u_doc_parser_list_1001:Cu:=⟨1,[0,1,2,3,8],[.o 1 155 0 [.s kdT156,.w 21 73 kdT72],.r 1 0,.a kI,.a kI,.a kI,.w 100008 3 kI]⟩
def wqar(k:Nat)(wqa:wq1g)(wqd:wq1q)(wqb:wq1h)(wq7:wq1i): Cxt:=⟨[wqe5 k,wqj9 k,h_doc_parser_under.e 198 wq7],[1],[(1001,u_doc_parser_list_1001.spec)],[(3,(.of [(0,1),(1,1),(2,1),(3,1),(5,1),(6,1),(7,1),(8,1),(9,1),(11,1),(12,1),(4,1),(10,1),(13,1),(14,1),(15,0),(16,1),(17,1),(18,0)] .done))]⟩
def wq9b(k:Nat)(wqa:wq1g)(wqd:wq1q)(wqb:wq1h)(wq7:wq1i){R:Type}(E1001:((List dT156)→(List dT72)→Int→Int→Int→(List Int)→Option R))(s0:(List dT156))(s1:(List dT72))(s2 s3 s4:Int)(s5:(List Int))(K:((List dT156)→(List dT72)→Option R))(E:((List dT156)→(List dT72)→Int→Int→Option R)): Option R:=wq74 k s0 s1 1 s3 (fun y11 y12 y13=>cond y13 (wq5q k y11 y12 (fun y14 y15 y16 y17 y18 y19 y20=>wq7 R y14 y15 y16 y17 y18 y19 y20 s4 (fun y21 y22 y23=>cond (fits s5.length (@List.length (@Kd.T kI) [y23]) 8) (E1001 y21 y22 s2 s3 s4 (s5++[y23])) none) E)) (cond (inb s2 (y12.length:Int)) (@SH (@List (@Kd.T kdT72)) R (List.set y12 s2.toNat (2,(((y12.getD s2.toNat kdT72.zero).2).1,((((y12.getD s2.toNat kdT72.zero).2).2).1,(((((y12.getD s2.toNat kdT72.zero).2).2).2).1,((((((y12.getD s2.toNat kdT72.zero).2).2).2).2).1,(((((y12.getD s2.toNat kdT72.zero).2).2).2).2).2)))))) (fun y14=>cond (inb s2 (y14.length:Int)) (@SH (@List (@Kd.T kdT72)) R (List.set y14 s2.toNat ((y14.getD s2.toNat kdT72.zero).1,(((y14.getD s2.toNat kdT72.zero).2).1,((((y14.getD s2.toNat kdT72.zero).2).2).1,(((((y14.getD s2.toNat kdT72.zero).2).2).2).1,((((((y14.getD s2.toNat kdT72.zero).2).2).2).2).1,s5)))))) (fun y15=>K y11 y15)) none)) none))
def wqas(k:Nat)(wqa:wq1g)(wqd:wq1q)(wqb:wq1h)(wq7:wq1i){R:Type}(E1001:((List dT156)→(List dT72)→Int→Int→Int→(List Int)→Option R))(x0:(List dT156))(x1:(List dT72))(x2 x3 x4:Int)(K:((List dT156)→(List dT72)→Option R))(E:((List dT156)→(List dT72)→Int→Int→Option R)): Option R:=E1001 x0 x1 x2 x3 x4 []
def wq4e(k:Nat)(wqa:wq1g)(wqd:wq1q)(wqb:wq1h)(wq7:wq1i){R:Type}: Nat→(List dT156)→(List dT72)→Int→Int→Int→(List Int)→((List dT156)→(List dT72)→Option R)→((List dT156)→(List dT72)→Int→Int→Option R)→Option R
 |0,_,_,_,_,_,_,_,_=>none
 |n+1,s0,s1,s2,s3,s4,s5,K,E=>wq9b k wqa wqd wqb wq7 (fun s0 s1 s2 s3 s4 s5=>wq4e k wqa wqd wqb wq7 n s0 s1 s2 s3 s4 s5 K E) s0 s1 s2 s3 s4 s5 K E
theorem wqha(k:Nat)(wqa:wq1g)(wqd:wq1q)(wqb:wq1h)(wq7:wq1i){R:Type}: ∀(I:Nat→St→Option R) (n:Nat),h_doc_parser_list.lp u_doc_parser_list_1001 (wqar k wqa wqd wqb wq7).cx k Tryz.f152 1001 [1,0,0] I n=wq4e k wqa wqd wqb wq7 n:=h_doc_parser_list.lok u_doc_parser_list_1001 (B:=wq9b k wqa wqd wqb wq7) (L:=wq4e k wqa wqd wqb wq7) (fun I=>by kernel_rfl) (fun I=>by kernel_rfl) (fun n=>by kernel_rfl) (fun _ _ _ _=>rfl)
theorem wqst(k:Nat)(wqa:wq1g)(wqd:wq1q)(wqb:wq1h)(wq7:wq1i)(R:Type): h_doc_parser_list.at (wqar k wqa wqd wqb wq7) k Tryz.f152 R=h_doc_parser_list.glue (l:=h_doc_parser_list.ps) (u:=u_doc_parser_list_1001.fs) (fun E1001=>@wqas k wqa wqd wqb wq7 R E1001) (h_doc_parser_list.lp u_doc_parser_list_1001 (wqar k wqa wqd wqb wq7).cx k Tryz.f152 1001 [1,0,0] (fun _ _=>none) k):=by kernel_rfl
def u_doc_parser_pairs_1002:Cu:=⟨1,[0,1,2,3,8,9],[.o 1 155 0 [.s kdT156,.w 21 73 kdT72],.r 1 0,.a kI,.a kI,.a kI,.w 100008 9 .str,.w 100009 3 kI]⟩
def wq9r(k:Nat)(wqa:wq1g)(wqd:wq1q)(wqb:wq1h)(wq7:wq1i): Cxt:=⟨[wqqk k,wq7v k,wqe5 k,wqj9 k,h_doc_parser_under.e 198 wq7],[1],[(1002,u_doc_parser_pairs_1002.spec)],[]⟩
def wq8z(k:Nat)(wqa:wq1g)(wqd:wq1q)(wqb:wq1h)(wq7:wq1i){R:Type}(E1002:((List dT156)→(List dT72)→Int→Int→Int→(List (List UInt8))→(List Int)→Option R))(s0:(List dT156))(s1:(List dT72))(s2 s3 s4:Int)(s5:(List (List UInt8)))(s6:(List Int))(K:((List dT156)→(List dT72)→Option R))(E:((List dT156)→(List dT72)→Int→Int→Option R)): Option R:=wq74 k s0 s1 2 s3 (fun y12 y13 y14=>cond y14 (wq5q k y12 y13 (fun y15 y16 y17 y18 y19 y20 y21=>wq1x k s5 y20 (fun y22=>cond y22 (wq73 k 7 y18 (fun y23 y24=>E y15 y16 y23 y24)) (cond (fits s5.length (@List.length (@Kd.T Kd.str) [y20]) 16) (wq7 R y15 y16 y17 y18 y19 y20 y21 s4 (fun y23 y24 y25=>cond (fits s6.length (@List.length (@Kd.T kI) [y25]) 8) (E1002 y23 y24 s2 s3 s4 (s5++[y20]) (s6++[y25])) none) E) none)))) (cond (inb s2 (y13.length:Int)) (@SH (@List (@Kd.T kdT72)) R (List.set y13 s2.toNat (3,(((y13.getD s2.toNat kdT72.zero).2).1,((((y13.getD s2.toNat kdT72.zero).2).2).1,(((((y13.getD s2.toNat kdT72.zero).2).2).2).1,((((((y13.getD s2.toNat kdT72.zero).2).2).2).2).1,(((((y13.getD s2.toNat kdT72.zero).2).2).2).2).2)))))) (fun y15=>@SH (@List (@Kd.T kdT72)) R (List.set y15 s2.toNat ((y15.getD s2.toNat kdT72.zero).1,(((y15.getD s2.toNat kdT72.zero).2).1,((((y15.getD s2.toNat kdT72.zero).2).2).1,(((((y15.getD s2.toNat kdT72.zero).2).2).2).1,(s5,(((((y15.getD s2.toNat kdT72.zero).2).2).2).2).2)))))) (fun y16=>@SH (@List (@Kd.T kdT72)) R (List.set y16 s2.toNat ((y16.getD s2.toNat kdT72.zero).1,(((y16.getD s2.toNat kdT72.zero).2).1,((((y16.getD s2.toNat kdT72.zero).2).2).1,(((((y16.getD s2.toNat kdT72.zero).2).2).2).1,((((((y16.getD s2.toNat kdT72.zero).2).2).2).2).1,s6)))))) (fun y17=>K y12 y17)))) none))
def wq9s(k:Nat)(wqa:wq1g)(wqd:wq1q)(wqb:wq1h)(wq7:wq1i){R:Type}(E1002:((List dT156)→(List dT72)→Int→Int→Int→(List (List UInt8))→(List Int)→Option R))(x0:(List dT156))(x1:(List dT72))(x2 x3 x4:Int)(K:((List dT156)→(List dT72)→Option R))(E:((List dT156)→(List dT72)→Int→Int→Option R)): Option R:=E1002 x0 x1 x2 x3 x4 [] []
def wq3y(k:Nat)(wqa:wq1g)(wqd:wq1q)(wqb:wq1h)(wq7:wq1i){R:Type}: Nat→(List dT156)→(List dT72)→Int→Int→Int→(List (List UInt8))→(List Int)→((List dT156)→(List dT72)→Option R)→((List dT156)→(List dT72)→Int→Int→Option R)→Option R
 |0,_,_,_,_,_,_,_,_,_=>none
 |n+1,s0,s1,s2,s3,s4,s5,s6,K,E=>wq8z k wqa wqd wqb wq7 (fun s0 s1 s2 s3 s4 s5 s6=>wq3y k wqa wqd wqb wq7 n s0 s1 s2 s3 s4 s5 s6 K E) s0 s1 s2 s3 s4 s5 s6 K E
theorem wqgp(k:Nat)(wqa:wq1g)(wqd:wq1q)(wqb:wq1h)(wq7:wq1i){R:Type}: ∀(I:Nat→St→Option R) (n:Nat),h_doc_parser_pairs.lp u_doc_parser_pairs_1002 (wq9r k wqa wqd wqb wq7).cx k Tryz.f153 1002 [1,1,0,0] I n=wq3y k wqa wqd wqb wq7 n:=h_doc_parser_pairs.lok u_doc_parser_pairs_1002 (B:=wq8z k wqa wqd wqb wq7) (L:=wq3y k wqa wqd wqb wq7) (fun I=>by kernel_rfl) (fun I=>by kernel_rfl) (fun n=>by kernel_rfl) (fun _ _ _ _=>rfl)
theorem wqqm(k:Nat)(wqa:wq1g)(wqd:wq1q)(wqb:wq1h)(wq7:wq1i)(R:Type): h_doc_parser_pairs.at (wq9r k wqa wqd wqb wq7) k Tryz.f153 R=h_doc_parser_pairs.glue (l:=h_doc_parser_pairs.ps) (u:=u_doc_parser_pairs_1002.fs) (fun E1002=>@wq9s k wqa wqd wqb wq7 R E1002) (h_doc_parser_pairs.lp u_doc_parser_pairs_1002 (wq9r k wqa wqd wqb wq7).cx k Tryz.f153 1002 [1,1,0,0] (fun _ _=>none) k):=by kernel_rfl
def wqhb(k:Nat)(wqa:wq1g)(wqd:wq1q)(wqb:wq1h)(wq7:wq1i): Cxt:=⟨[wqqk k,h_doc_parser_block.e 103 wqa],[1],[],[(1,(.of [(0,1),(1,1),(2,1),(3,1),(4,1),(5,1),(6,1),(7,1),(8,1),(9,1),(14,1),(10,1),(11,1),(12,1),(13,1),(15,1),(16,1),(17,1)] .done))]⟩
def wqd1(k:Nat)(wqa:wq1g)(wqd:wq1q)(wqb:wq1h)(wq7:wq1i){R:Type}(x0:(List dT156))(x1:(List dT72))(x2 x3 x4:Int)(x5:(List UInt8))(x6:Bool)(x7:Int)(K:((List dT156)→(List dT72)→Int→Option R))(E:((List dT156)→(List dT72)→Int→Int→Option R)): Option R:=cond ((!(((x0.length:Int) == 0) == false)) || (inb 0 (x0.length:Int))) (cond (cond ((x0.length:Int) == 0) true (decide ((((x0.getD (Int.toNat 0) kdT156.zero).2).2).1≤x4))) (wq73 k 10 x3 (fun y12 y13=>E x0 x1 y12 y13)) (wqa R x0 x1 (@Go.IntKind.wrap Go.IntKind.i64 (x7+1)) K E)) none
theorem wqqn(k:Nat)(wqa:wq1g)(wqd:wq1q)(wqb:wq1h)(wq7:wq1i)(R:Type): h_doc_parser_under.at (wqhb k wqa wqd wqb wq7) k Tryz.f198 R=@wqd1 k wqa wqd wqb wq7 R:=by kernel_rfl
mutual
def wqr:Nat→wq1g
 |0,_,_,_,_,_,_=>none
 |k+1,R,x0,x1,x2,K,E=>wqd0 k (wqr k) (FR_doc_parser_list k) (FR_doc_parser_pairs k) (FR_doc_parser_under k) x0 x1 x2 K E
def FR_doc_parser_list:Nat→wq1q
 |0,_,_,_,_,_,_,_,_=>none
 |k+1,R,x0,x1,x2,x3,x4,K,E=>wqas k (wqr k) (FR_doc_parser_list k) (FR_doc_parser_pairs k) (FR_doc_parser_under k) (fun s0 s1 s2 s3 s4 s5=>wq4e k (wqr k) (FR_doc_parser_list k) (FR_doc_parser_pairs k) (FR_doc_parser_under k) k s0 s1 s2 s3 s4 s5 K E) x0 x1 x2 x3 x4 K E
def FR_doc_parser_pairs:Nat→wq1h
 |0,_,_,_,_,_,_,_,_=>none
 |k+1,R,x0,x1,x2,x3,x4,K,E=>wq9s k (wqr k) (FR_doc_parser_list k) (FR_doc_parser_pairs k) (FR_doc_parser_under k) (fun s0 s1 s2 s3 s4 s5 s6=>wq3y k (wqr k) (FR_doc_parser_list k) (FR_doc_parser_pairs k) (FR_doc_parser_under k) k s0 s1 s2 s3 s4 s5 s6 K E) x0 x1 x2 x3 x4 K E
def FR_doc_parser_under:Nat→wq1i
 |0,_,_,_,_,_,_,_,_,_,_,_=>none
 |k+1,R,x0,x1,x2,x3,x4,x5,x6,x7,K,E=>wqd1 k (wqr k) (FR_doc_parser_list k) (FR_doc_parser_pairs k) (FR_doc_parser_under k) x0 x1 x2 x3 x4 x5 x6 x7 K E
end
def wqd2(k:Nat){R:Type}(x0:(List dT156))(x1:(List dT72))(x2:Int)(K:((List dT156)→(List dT72)→Int→Option R))(E:((List dT156)→(List dT72)→Int→Int→Option R)): Option R:=wqr k R x0 x1 x2 K E
theorem wqol(k:Nat): DOK Tryz.prog 103 (h_doc_parser_block.run (wqr k))∧DOK Tryz.prog 152 (h_doc_parser_list.run (FR_doc_parser_list k))∧DOK Tryz.prog 153 (h_doc_parser_pairs.run (FR_doc_parser_pairs k))∧DOK Tryz.prog 198 (h_doc_parser_under.run (FR_doc_parser_under k)):=by
 induction k with
 |zero=>exact⟨h_doc_parser_block.ok0 fun R=>by kernel_rfl,h_doc_parser_list.ok0 fun R=>by kernel_rfl,h_doc_parser_pairs.ok0 fun R=>by kernel_rfl,h_doc_parser_under.ok0 fun R=>by kernel_rfl⟩
 |succ k ih =>
  obtain⟨ih_doc_parser_block,ih_doc_parser_list,ih_doc_parser_pairs,ih_doc_parser_under⟩:=ih
  exact⟨dok h_doc_parser_block (wqh9 k (wqr k) (FR_doc_parser_list k) (FR_doc_parser_pairs k) (FR_doc_parser_under k)) Tryz.f103 k (ok1 (wql6 k) (ok1 (wqe4 k) (ok1 ih_doc_parser_list (ok1 ih_doc_parser_pairs ok0)))) (by kernel_rfl) (by kernel_rfl) fun R=>wqql k (wqr k) (FR_doc_parser_list k) (FR_doc_parser_pairs k) (FR_doc_parser_under k) R,dok h_doc_parser_list (wqar k (wqr k) (FR_doc_parser_list k) (FR_doc_parser_pairs k) (FR_doc_parser_under k)) Tryz.f152 k (ok1 (wqe4 k) (ok1 (wqj8 k) (ok1 ih_doc_parser_under ok0))) (by kernel_rfl) (by kernel_rfl) fun R=>h_doc_parser_list.f1 u_doc_parser_list_1001 (wqas k (wqr k) (FR_doc_parser_list k) (FR_doc_parser_pairs k) (FR_doc_parser_under k)) (wqst k (wqr k) (FR_doc_parser_list k) (FR_doc_parser_pairs k) (FR_doc_parser_under k) R) (wqha k (wqr k) (FR_doc_parser_list k) (FR_doc_parser_pairs k) (FR_doc_parser_under k) (fun _ _=>none) k) (by kernel_rfl),dok h_doc_parser_pairs (wq9r k (wqr k) (FR_doc_parser_list k) (FR_doc_parser_pairs k) (FR_doc_parser_under k)) Tryz.f153 k (ok1 (wql6 k) (ok1 (wq7u k) (ok1 (wqe4 k) (ok1 (wqj8 k) (ok1 ih_doc_parser_under ok0))))) (by kernel_rfl) (by kernel_rfl) fun R=>h_doc_parser_pairs.f1 u_doc_parser_pairs_1002 (wq9s k (wqr k) (FR_doc_parser_list k) (FR_doc_parser_pairs k) (FR_doc_parser_under k)) (wqqm k (wqr k) (FR_doc_parser_list k) (FR_doc_parser_pairs k) (FR_doc_parser_under k) R) (wqgp k (wqr k) (FR_doc_parser_list k) (FR_doc_parser_pairs k) (FR_doc_parser_under k) (fun _ _=>none) k) (by kernel_rfl),dok h_doc_parser_under (wqhb k (wqr k) (FR_doc_parser_list k) (FR_doc_parser_pairs k) (FR_doc_parser_under k)) Tryz.f198 k (ok1 (wql6 k) (ok1 ih_doc_parser_block ok0)) (by kernel_rfl) (by kernel_rfl) fun R=>wqqn k (wqr k) (FR_doc_parser_list k) (FR_doc_parser_pairs k) (FR_doc_parser_under k) R⟩
theorem wqqo(k:Nat): DOK Tryz.prog 103 (h_doc_parser_block.run (@wqd2 k)):=(wqol k).1
end Go.Proofs.YtabkhphoacmcdaaGreatDoor.Pvm
namespace Go.Proofs.YtabkhphoacmcdaaGreatDoor.Pvm
open Go Go.Proofs
def wq1ak:List LS:=[.sl (.pr (.int .i64) (.pr (.int .i64) (.pr (.int .i64) (.pr .str .bool))))]
def wq1al(k:Nat): CTab:=(CTab.add 102 h_doc_gives.sig (h_doc_gives.run (@wq73 k)) (CTab.add 103 h_doc_parser_block.sig (h_doc_parser_block.run (@wqd2 k)) CTab.nil))
def wqqp{R:Type}(K:((List dT72)→Int→Int→Option R)): Out→Option R
 |.ret [.agg [.v (.sl (.pr (.int .i64) (.pr (.int .i64) (.pr .str (.pr .bool (.pr (.sl .str) (.sl (.int .i64)))))))) y0],.agg [.v (.int .i64) y1,.v (.int .i64) y2]] []=>K y0 y1 y2
 |_=>none
def wq16k:RetSpec:=⟨[.ag [.sl (.pr (.int .i64) (.pr (.int .i64) (.pr .str (.pr .bool (.pr (.sl .str) (.sl (.int .i64)))))))],.ag [.any,.any]],[],[]⟩
def wq17r:List (Nat×CutSpec):=[]
def wq146:List (Nat×Plan):=[]
def wqzg(k:Nat): Ctx:=⟨tyT,wq17r,wq1al k,[2,3],[],wq146,@SH⟩
def wq9t:Code:=Tryz.f59.body.getD .skip
def wql7(k:Nat){R:Type}: PV→List PV→List (Nm×HObj)→(Out→Option R)→Option R
 |.nilif,[.ptr 1 0,.ptr 2 0],[(1,.var 38 [.v (.sl (.pr (.int .i64) (.pr (.int .i64) (.pr .str (.pr .bool (.pr (.sl .str) (.sl (.int .i64)))))))) x0]),(2,.var 29 [.v (.int .i64) x1,.v (.int .i64) x2])],K=>wqfl k x0 x1 x2 (fun y0 y1 y2=>K (.ret [] [(1,.var 38 [.v (.sl (.pr (.int .i64) (.pr (.int .i64) (.pr .str (.pr .bool (.pr (.sl .str) (.sl (.int .i64)))))))) y0]),(2,.var 29 [.v (.int .i64) y1,.v (.int .i64) y2])]))
 |.ifc 29 (.agg [.v (.int .i64) x3,.v (.int .i64) x4]),[.ptr 1 0,.ptr 2 0],[(1,.var 38 [.v (.sl (.pr (.int .i64) (.pr (.int .i64) (.pr .str (.pr .bool (.pr (.sl .str) (.sl (.int .i64)))))))) x0]),(2,.var 29 [.v (.int .i64) x1,.v (.int .i64) x2])],K=>wqb5 k x0 x1 x2 x3 x4 (fun y0 y1 y2=>K (.ret [] [(1,.var 38 [.v (.sl (.pr (.int .i64) (.pr (.int .i64) (.pr .str (.pr .bool (.pr (.sl .str) (.sl (.int .i64)))))))) y0]),(2,.var 29 [.v (.int .i64) y1,.v (.int .i64) y2])]))
 |_,_,_,_=>none
def wq147(k:Nat){R:Type}(x0:(List dT156))(K:((List dT72)→Int→Int→Option R)): Option R:=cond ((x0.length:Int) == 0) (wq73 k 10 1 (fun y4 y5=>wqb5 k [] 0 0 y4 y5 K)) (wqd2 k x0 [] 1 (fun y4 y5 y6=>cond (decide ((y4.length:Int)>0)) (cond (inb 0 (y4.length:Int)) (wq73 k 6 ((y4.getD (Int.toNat 0) kdT156.zero).2).1 (fun y7 y8=>wqb5 k [] 0 0 y7 y8 K)) none) (wqfl k y5 0 0 K)) (fun y4 y5 y6 y7=>wqb5 k [] 0 0 y6 y7 K))
theorem wq17s(k:Nat){R:Type}(I:Nat→St→Option R)(x0:(List dT156))(K:((List dT72)→Int→Int→Option R)): fnDK (wqzg k) k [300,400] [at_ [0] wq9t] (opsAt (at_ [1,0] wq9t)) (at_ [1,1] wq9t) 34 [.cell 2 38,.cell 3 29] wq16k (wql7 k) wqv5 [(300,0),(400,0)] [.v (.sl (.pr (.int .i64) (.pr (.int .i64) (.pr (.int .i64) (.pr .str .bool))))) x0] [] (wqqp K)=wq147 k x0 K:=by kernel_rfl
def wqvc(k:Nat){R:Type}(x0:(List dT156))(K:((List dT72)→Int→Int→Option R)): Option R:=wq147 k x0 K
theorem wq17t(k:Nat){R:Type}(x0:(List dT156))(K:((List dT72)→Int→Int→Option R)): fnDK (wqzg k) k [300,400] [at_ [0] wq9t] (opsAt (at_ [1,0] wq9t)) (at_ [1,1] wq9t) 34 [.cell 2 38,.cell 3 29] wq16k (wql7 k) wqv5 [(300,0),(400,0)] [.v (.sl (.pr (.int .i64) (.pr (.int .i64) (.pr (.int .i64) (.pr .str .bool))))) x0] [] (wqqp K)=wqvc k x0 K:=by
 exact wq17s k (fun _ _=>none) x0 K
def wqvd(k:Nat){R:Type}: List PV→List (Nm×HObj)→(Out→Option R)→Option R
 |[.v (.sl (.pr (.int .i64) (.pr (.int .i64) (.pr (.int .i64) (.pr .str .bool))))) x0],[],K=>wqvc k x0 (fun y0 y1 y2=>K (.ret [.agg [.v (.sl (.pr (.int .i64) (.pr (.int .i64) (.pr .str (.pr .bool (.pr (.sl .str) (.sl (.int .i64)))))))) y0],.agg [.v (.int .i64) y1,.v (.int .i64) y2]] []))
 |_,_,_=>none
theorem wq17u(k:Nat): (wq1al k).Ok Tryz.prog:=(wqxt (wql6 k) (wqxt (wqqo k) CTab.nil_ok))
theorem wqzh(k:Nat){R:Type}(rec:PV)(ps:List PV)(hp:List (Nm×HObj))(K:Out→Option R)(r:R)(h:wql7 k rec ps hp K=some r): DoesToD Tryz.prog 101 rec ps hp fun out=>K out=some r:=by
 unfold wql7 at h
 split at h
 ·exact wq11i k h
 ·exact wq11j k h
 ·cases h
theorem wq1el(k:Nat){ps:List PV}{hp:List (Nm×HObj)}{R:Type}{K:Out→Option R}{r:R}(h:wqvd k ps hp K=some r): DoesTo Tryz.prog 59 ps hp fun out=>K out=some r:=by
 unfold wqvd at h
 split at h
 ·rw[←wq17t]at h
  have:=wq19v (P:=Tryz.prog) (cx:=wqzg k) (f:=59) ⟨tyT_ok,wq17u k,fun _ _=>rfl⟩ (by kernel_rfl) (fn:=Tryz.f59) (id:=1) (pre:=[at_ [0] wq9t]) (rest:=at_ [1,1] wq9t) (ops:=opsAt (at_ [1,0] wq9t)) (by kernel_rfl) (by kernel_rfl) (by kernel_rfl) (rs:=[.cell 2 38,.cell 3 29]) (by kernel_rfl) (by kernel_rfl) (by kernel_rfl) (g:=101) (s:=5) (xs:=[.tmp 2,.tmp 3]) (by kernel_rfl) (Invokes.of (fn:=Tryz.f101) (by kernel_rfl) (c:=Tryz.f101.body.getD .skip) (by kernel_rfl) (by kernel_rfl)) (wqzh k) h
  exact this.mono fun out ho=>by
   unfold wqqp at ho
   split at ho<;>first|exact ho|cases ho
 ·cases h
def h_lex_All:Sh:=⟨[.s kdT150],some ([],[.s kdT156,.g [.a kI,.a kI]]),none⟩
def u_lex_All_1003:Cu:=⟨0,[3,4,9,10,11],[.o 13 29 0 [.a kI,.a kI],.w 100004 157 kdT156,.s kdT150,.a kI,.a kI]⟩
def wq16l(k:Nat): Cxt:=⟨[⟨100,wqy3,wql3 k⟩],[],[(1003,u_lex_All_1003.spec)],[(7,(.of [(1,1),(0,1),(2,0)] .done))]⟩
def wqep(k:Nat){R:Type}(E1003:(Int→Int→(List dT156)→(List dT150)→Int→Int→Option R))(s0 s1:Int)(s2:(List dT156))(s3:(List dT150))(s4 s5:Int)(K:((List dT156)→Int→Int→Option R)): Option R:=cond (decide (s5<s4)) (cond (inb s5 (s3.length:Int)) (wql2 k (s3.getD s5.toNat kdT150.zero).1 ((s3.getD s5.toNat kdT150.zero).2).1 ((s3.getD s5.toNat kdT150.zero).2).2 (fun y10 y11 y12=>cond (y11 != 0) (K [] y11 y12) (cond (fits s2.length y10.length 48) (E1003 s0 s1 (s2++y10) s3 s4 (@Go.IntKind.wrap Go.IntKind.i64 (s5+1))) none))) none) (K s2 0 0)
def wqzi(k:Nat){R:Type}(E1003:(Int→Int→(List dT156)→(List dT150)→Int→Int→Option R))(x0:(List dT150))(K:((List dT156)→Int→Int→Option R)): Option R:=E1003 0 0 [] x0 (x0.length:Int) 0
def wq8f(k:Nat){R:Type}: Nat→Int→Int→(List dT156)→(List dT150)→Int→Int→((List dT156)→Int→Int→Option R)→Option R
 |0,_,_,_,_,_,_,_=>none
 |n+1,s0,s1,s2,s3,s4,s5,K=>wqep k (fun s0 s1 s2 s3 s4 s5=>wq8f k n s0 s1 s2 s3 s4 s5 K) s0 s1 s2 s3 s4 s5 K
theorem wqsu(k:Nat){R:Type}: ∀(I:Nat→St→Option R) (n:Nat),h_lex_All.lp u_lex_All_1003 (wq16l k).cx k Tryz.f58 1003 [1,1,0,1,0] I n=wq8f k n:=h_lex_All.lok u_lex_All_1003 (B:=wqep k) (L:=wq8f k) (fun I=>by kernel_rfl) (fun I=>by kernel_rfl) (fun n=>by kernel_rfl) (fun _ _ _ _=>rfl)
def wqom(k:Nat){R:Type}(x0:(List dT150))(K:((List dT156)→Int→Int→Option R)): Option R:=wqzi k (fun s0 s1 s2 s3 s4 s5=>wq8f k k s0 s1 s2 s3 s4 s5 K) x0 K
theorem wq1ct(k:Nat): DOK Tryz.prog 58 (h_lex_All.run (@wqom k)):=dok h_lex_All (wq16l k) Tryz.f58 k (ok1 (fun _ _ _ _ _ h=>wq16j k h) ok0) (by kernel_rfl) (by kernel_rfl) fun R=>h_lex_All.f1 u_lex_All_1003 (wqzi k) (by kernel_rfl) (wqsu k (fun _ _=>none) k) (by kernel_rfl)
def wq1cu(k:Nat): Ent:=h_lex_All.e 58 (@wqom k)
def cntB(s:List UInt8)(c:UInt8): Int:=Lib.countByte s c
def wqzj:List LS:=[.sl (.int .u8),.any]
def wqve(k:Nat){R:Type}(x0:List Int)(x1:Int)(K:Int→Option R): Option R:=K (cntB (wq4a x0) (UInt8.ofNat x1.toNat))
def wqie(k:Nat){R:Type}: List PV→List (Nm×HObj)→(Out→Option R)→Option R
 |[.v (.sl (.int .u8)) x0,.v (.int .u8) x1],[],K=>wqve k x0 x1 (fun y0=>K (.ret [.v (.int .i64) y0] []))
 |_,_,_=>none
theorem wq148(k:Nat){ps:List PV}{hp:List (Nm×HObj)}{R:Type}{K:Out→Option R}{r:R}(h:wqie k ps hp K=some r): DoesTo Tryz.prog 220 ps hp fun out=>K out=some r:=by
 unfold wqie at h
 split at h
 ·next x0 x1 =>
  intro G w vals hr obj dis
  obtain⟨v0,l0,rfl,h0,v1,l1,rfl,h1,rfl⟩:=hr
  have e1:v1 = .int .u8 x1:=by simpa [RV,RD]using h1
  subst e1
  have hb:=wq1a0 (P:=Tryz.prog) h0
  have hrun:(callFunc 220 #[v0,.int .u8 x1]).run Tryz.prog w = .ok (.value (.int .i64 (cntB (wq4a x0) (UInt8.ofNat x1.toNat)))) w:=by
   refine wq16c (fn:=Tryz.f220) (g:=Extern.BytealgCount.count) (by kernel_rfl) (by kernel_rfl) (by kernel_rfl) (by kernel_rfl) (by kernel_rfl) _ w ?_
   have hs:=Lib.run_countString (P:=Tryz.prog) ⟨(wq4a x0).toArray⟩ x1 w
   change Sem.run Tryz.prog (do
    let b ←Extern.Bytes.bytesOf v0
    let c' ←Extern.Bytes.asByte (.int .u8 x1)
    pure (goInt (b.foldl (fun n x=>if x == c' then n+1 else n) (0:Nat)))) w=_
   change Sem.run Tryz.prog (do
    let b ←Extern.Bytes.bytesOf (.string ⟨(wq4a x0).toArray⟩)
    let c' ←Extern.Bytes.asByte (.int .u8 x1)
    pure (goInt (b.foldl (fun n x=>if x == c' then n+1 else n) (0:Nat)))) w=_ at hs
   rw[Sem.run_bind]at hs ⊢
   rw[hb]
   exact hs
  show Does _ _ #[_,_] _ _
  unfold Does
  rw[hrun]
  exact⟨.ret [.v (.int .i64) _] [],h,G,⟨_,rfl,rfl⟩,wqz6⟩
 ·cases h
def h_bytes_Count:Sh:=⟨[.s (.int .u8),.k (.int .u8)],some ([],[.a kI]),none⟩
def wq11k(k:Nat): Cxt:=⟨[⟨220,wqzj,wqie k⟩],[],[],[]⟩
def wq11l(k:Nat){R:Type}(x0:(List Int))(x1:Int)(K:(Int→Option R)): Option R:=wqve k x0 (([x1]).getD (Int.toNat 0) (Kd.zero (@Kd.int Go.IntKind.u8))) K
def wqdv:=@wq11l
theorem wq11m(k:Nat): DOK Tryz.prog 183 (h_bytes_Count.run (@wqdv k)):=dok h_bytes_Count (wq11k k) Tryz.f183 k (ok1 (fun _ _ _ _ _ h=>wq148 k h) ok0) (by kernel_rfl) (by kernel_rfl) fun R=>by kernel_rfl
def wq11n(k:Nat): Ent:=h_bytes_Count.e 183 (@wqdv k)
def wqqq:List LS:=[.sl (.int .u8),.any]
def wqkb(k:Nat){R:Type}(x0:List Int)(x1:Int)(K:Int→Option R): Option R:=K (wqed (wq4a x0) x1)
def wqd3(k:Nat){R:Type}: List PV→List (Nm×HObj)→(Out→Option R)→Option R
 |[.v (.sl (.int .u8)) x0,.v (.int .u8) x1],[],K=>wqkb k x0 x1 (fun y0=>K (.ret [.v (.int .i64) y0] []))
 |_,_,_=>none
theorem wqvf(k:Nat){ps:List PV}{hp:List (Nm×HObj)}{R:Type}{K:Out→Option R}{r:R}(h:wqd3 k ps hp K=some r): DoesTo Tryz.prog 250 ps hp fun out=>K out=some r:=by
 unfold wqd3 at h
 split at h
 ·next x0 x1 =>
  intro G w vals hr obj dis
  obtain⟨v0,l0,rfl,h0,v1,l1,rfl,h1,rfl⟩:=hr
  have e1:v1 = .int .u8 x1:=by simpa [RV,RD]using h1
  subst e1
  have hb:=wq1a0 (P:=Tryz.prog) h0
  have hrun:(callFunc 250 #[v0,.int .u8 x1]).run Tryz.prog w = .ok (.value (.int .i64 (wqed (wq4a x0) x1))) w:=by
   refine wq16c (fn:=Tryz.f250) (g:=Extern.BytealgIndexByte.indexByte) (by kernel_rfl) (by kernel_rfl) (by kernel_rfl) (by kernel_rfl) (by kernel_rfl) _ w ?_
   have hs:=wqxx (P:=Tryz.prog) (wq4a x0) x1 w
   change Sem.run Tryz.prog (do
    let b ←Extern.Bytes.bytesOf v0
    let c ←Extern.Bytes.asByte (.int .u8 x1)
    match(List.range b.size).find? fun i=>b[i]! == c with
    |some i=>pure (goInt i)
    |none=>pure (goInt (-1))) w=_
   change Sem.run Tryz.prog (do
    let b ←Extern.Bytes.bytesOf (.string ⟨(wq4a x0).toArray⟩)
    let c ←Extern.Bytes.asByte (.int .u8 x1)
    match(List.range b.size).find? fun i=>b[i]! == c with
    |some i=>pure (goInt i)
    |none=>pure (goInt (-1))) w=_ at hs
   rw[Sem.run_bind]at hs ⊢
   rw[hb]
   exact hs
  show Does _ _ #[_,_] _ _
  unfold Does
  rw[hrun]
  exact⟨.ret [.v (.int .i64) _] [],h,G,⟨_,rfl,rfl⟩,wqz6⟩
 ·cases h
def h_bytes_IndexByte:Sh:=⟨[.s (.int .u8),.a (.int .u8)],some ([],[.a kI]),none⟩
abbrev wqd4:Type 1:=(R:Type)→(List Int)→Int→(Int→Option R)→Option R
def wqsv(k:Nat): Cxt:=⟨[⟨250,wqqq,wqd3 k⟩],[],[],[]⟩
def wqsw(k:Nat){R:Type}(x0:(List Int))(x1:Int)(K:(Int→Option R)): Option R:=wqkb k x0 x1 K
def wqat:=@wqsw
theorem wqsx(k:Nat): DOK Tryz.prog 221 (h_bytes_IndexByte.run (@wqat k)):=dok h_bytes_IndexByte (wqsv k) Tryz.f221 k (ok1 (fun _ _ _ _ _ h=>wqvf k h) ok0) (by kernel_rfl) (by kernel_rfl) fun R=>by kernel_rfl
def h_bytes_Index:Sh:=⟨[.s (.int .u8),.k (.int .u8)],some ([],[.a kI]),none⟩
def wqrl(k:Nat)(wq79:wqd4): Cxt:=⟨[h_bytes_IndexByte.e 221 wq79],[],[],[]⟩
def wqrm(k:Nat)(wq79:wqd4){R:Type}(x0:(List Int))(x1:Int)(K:(Int→Option R)): Option R:=wq79 R x0 (([x1]).getD (Int.toNat 0) (Kd.zero (@Kd.int Go.IntKind.u8))) K
theorem wq11o(k:Nat)(wq79:wqd4)(R:Type): h_bytes_Index.at (wqrl k wq79) k Tryz.f184 R=@wqrm k wq79 R:=by kernel_rfl
def wqdw(k:Nat){R:Type}:= @wqrm k (@wqat k) R
theorem wq11p(k:Nat): DOK Tryz.prog 184 (h_bytes_Index.run (@wqdw k)):=dok h_bytes_Index (wqrl k (@wqat k)) Tryz.f184 k (ok1 (wqsx k) ok0) (by kernel_rfl) (by kernel_rfl) fun R=>wq11o k (@wqat k) R
def wq11q(k:Nat): Ent:=h_bytes_Index.e 184 (@wqdw k)
def h_bytes_genSplit:Sh:=⟨[.s (.int .u8),.k (.int .u8),.a kI,.a kI],some ([],[.s (.sl (.int .u8))]),none⟩
def u_bytes_genSplit_1011:Cu:=⟨0,[0,1,2,3,9,10],[.s (.int .u8),.k (.int .u8),.a kI,.a kI,.w 100009 22 (.sl (.int .u8)),.a kI]⟩
def wqkc(k:Nat): Cxt:=⟨[wq11n k,wq11q k],[],[(1011,u_bytes_genSplit_1011.spec)],[]⟩
def wqa9(k:Nat){R:Type}(E1011:((List Int)→Int→Int→Int→(List (List Int))→Int→Option R))(s0:(List Int))(s1 s2 s3:Int)(s4:(List (List Int)))(s5:Int)(K:((List (List Int))→Option R)): Option R:=cond (decide (s5<s3)) (wqdw k s0 s1 (fun y10=>cond (decide (y10<0)) (cond (inb s5 (s4.length:Int)) (cond (bnd 0 (@Go.IntKind.wrap Go.IntKind.i64 (s5+1)) ((List.set s4 s5.toNat s0).length:Int)) (K (cut (List.set s4 s5.toNat s0) 0 (@Go.IntKind.wrap Go.IntKind.i64 (s5+1)))) none) none) (cond ((bnd 0 (@Go.IntKind.wrap Go.IntKind.i64 (y10+s2)) (@Go.IntKind.wrap Go.IntKind.i64 (y10+s2)))&&(decide ((@Go.IntKind.wrap Go.IntKind.i64 (y10+s2))≤(s0.length:Int)))) (cond (inb s5 (s4.length:Int)) (cond (bnd (@Go.IntKind.wrap Go.IntKind.i64 (y10+(@List.length (@Kd.T (@Kd.int Go.IntKind.u8)) [s1]:Int))) (s0.length:Int) (s0.length:Int)) (E1011 (cut s0 (@Go.IntKind.wrap Go.IntKind.i64 (y10+(@List.length (@Kd.T (@Kd.int Go.IntKind.u8)) [s1]:Int))) (s0.length:Int)) s1 s2 s3 (List.set s4 s5.toNat (cut s0 0 (@Go.IntKind.wrap Go.IntKind.i64 (y10+s2)))) (@Go.IntKind.wrap Go.IntKind.i64 (s5+1))) none) none) none))) (cond (inb s5 (s4.length:Int)) (cond (bnd 0 (@Go.IntKind.wrap Go.IntKind.i64 (s5+1)) ((List.set s4 s5.toNat s0).length:Int)) (K (cut (List.set s4 s5.toNat s0) 0 (@Go.IntKind.wrap Go.IntKind.i64 (s5+1)))) none) none)
def wqfm(k:Nat){R:Type}(E1011:((List Int)→Int→Int→Int→(List (List Int))→Int→Option R))(x0:(List Int))(x1 x2 x3:Int)(K:((List (List Int))→Option R)): Option R:=cond (x3 == 0) (K []) (cond (decide (x3<0)) (wqdv k x0 x1 (fun y8=>cond (mkB (cond false (@ite (@Kd.T kI) ((@Go.IntKind.wrap Go.IntKind.i64 ((x0.length:Int)+1))>(@Go.IntKind.wrap Go.IntKind.i64 (y8+1))) (@Int.decLt (@Go.IntKind.wrap Go.IntKind.i64 (y8+1)) (@Go.IntKind.wrap Go.IntKind.i64 ((x0.length:Int)+1))) (@Go.IntKind.wrap Go.IntKind.i64 ((x0.length:Int)+1)) (@Go.IntKind.wrap Go.IntKind.i64 (y8+1))) (@ite (@Kd.T kI) ((@Go.IntKind.wrap Go.IntKind.i64 ((x0.length:Int)+1))<(@Go.IntKind.wrap Go.IntKind.i64 (y8+1))) (@Int.decLt (@Go.IntKind.wrap Go.IntKind.i64 ((x0.length:Int)+1)) (@Go.IntKind.wrap Go.IntKind.i64 (y8+1))) (@Go.IntKind.wrap Go.IntKind.i64 ((x0.length:Int)+1)) (@Go.IntKind.wrap Go.IntKind.i64 (y8+1)))) (cond false (@ite (@Kd.T kI) ((@Go.IntKind.wrap Go.IntKind.i64 ((x0.length:Int)+1))>(@Go.IntKind.wrap Go.IntKind.i64 (y8+1))) (@Int.decLt (@Go.IntKind.wrap Go.IntKind.i64 (y8+1)) (@Go.IntKind.wrap Go.IntKind.i64 ((x0.length:Int)+1))) (@Go.IntKind.wrap Go.IntKind.i64 ((x0.length:Int)+1)) (@Go.IntKind.wrap Go.IntKind.i64 (y8+1))) (@ite (@Kd.T kI) ((@Go.IntKind.wrap Go.IntKind.i64 ((x0.length:Int)+1))<(@Go.IntKind.wrap Go.IntKind.i64 (y8+1))) (@Int.decLt (@Go.IntKind.wrap Go.IntKind.i64 ((x0.length:Int)+1)) (@Go.IntKind.wrap Go.IntKind.i64 (y8+1))) (@Go.IntKind.wrap Go.IntKind.i64 ((x0.length:Int)+1)) (@Go.IntKind.wrap Go.IntKind.i64 (y8+1)))) 24) (E1011 x0 x1 x2 (@Go.IntKind.wrap Go.IntKind.i64 ((cond false (@ite (@Kd.T kI) ((@Go.IntKind.wrap Go.IntKind.i64 ((x0.length:Int)+1))>(@Go.IntKind.wrap Go.IntKind.i64 (y8+1))) (@Int.decLt (@Go.IntKind.wrap Go.IntKind.i64 (y8+1)) (@Go.IntKind.wrap Go.IntKind.i64 ((x0.length:Int)+1))) (@Go.IntKind.wrap Go.IntKind.i64 ((x0.length:Int)+1)) (@Go.IntKind.wrap Go.IntKind.i64 (y8+1))) (@ite (@Kd.T kI) ((@Go.IntKind.wrap Go.IntKind.i64 ((x0.length:Int)+1))<(@Go.IntKind.wrap Go.IntKind.i64 (y8+1))) (@Int.decLt (@Go.IntKind.wrap Go.IntKind.i64 ((x0.length:Int)+1)) (@Go.IntKind.wrap Go.IntKind.i64 (y8+1))) (@Go.IntKind.wrap Go.IntKind.i64 ((x0.length:Int)+1)) (@Go.IntKind.wrap Go.IntKind.i64 (y8+1))))-1)) (zeros (@Kd.sl (@Kd.int Go.IntKind.u8)) (cond false (@ite (@Kd.T kI) ((@Go.IntKind.wrap Go.IntKind.i64 ((x0.length:Int)+1))>(@Go.IntKind.wrap Go.IntKind.i64 (y8+1))) (@Int.decLt (@Go.IntKind.wrap Go.IntKind.i64 (y8+1)) (@Go.IntKind.wrap Go.IntKind.i64 ((x0.length:Int)+1))) (@Go.IntKind.wrap Go.IntKind.i64 ((x0.length:Int)+1)) (@Go.IntKind.wrap Go.IntKind.i64 (y8+1))) (@ite (@Kd.T kI) ((@Go.IntKind.wrap Go.IntKind.i64 ((x0.length:Int)+1))<(@Go.IntKind.wrap Go.IntKind.i64 (y8+1))) (@Int.decLt (@Go.IntKind.wrap Go.IntKind.i64 ((x0.length:Int)+1)) (@Go.IntKind.wrap Go.IntKind.i64 (y8+1))) (@Go.IntKind.wrap Go.IntKind.i64 ((x0.length:Int)+1)) (@Go.IntKind.wrap Go.IntKind.i64 (y8+1))))) 0) none)) (cond (mkB (cond false (@ite (@Kd.T kI) ((@Go.IntKind.wrap Go.IntKind.i64 ((x0.length:Int)+1))>x3) (@Int.decLt x3 (@Go.IntKind.wrap Go.IntKind.i64 ((x0.length:Int)+1))) (@Go.IntKind.wrap Go.IntKind.i64 ((x0.length:Int)+1)) x3) (@ite (@Kd.T kI) ((@Go.IntKind.wrap Go.IntKind.i64 ((x0.length:Int)+1))<x3) (@Int.decLt (@Go.IntKind.wrap Go.IntKind.i64 ((x0.length:Int)+1)) x3) (@Go.IntKind.wrap Go.IntKind.i64 ((x0.length:Int)+1)) x3)) (cond false (@ite (@Kd.T kI) ((@Go.IntKind.wrap Go.IntKind.i64 ((x0.length:Int)+1))>x3) (@Int.decLt x3 (@Go.IntKind.wrap Go.IntKind.i64 ((x0.length:Int)+1))) (@Go.IntKind.wrap Go.IntKind.i64 ((x0.length:Int)+1)) x3) (@ite (@Kd.T kI) ((@Go.IntKind.wrap Go.IntKind.i64 ((x0.length:Int)+1))<x3) (@Int.decLt (@Go.IntKind.wrap Go.IntKind.i64 ((x0.length:Int)+1)) x3) (@Go.IntKind.wrap Go.IntKind.i64 ((x0.length:Int)+1)) x3)) 24) (E1011 x0 x1 x2 (@Go.IntKind.wrap Go.IntKind.i64 ((cond false (@ite (@Kd.T kI) ((@Go.IntKind.wrap Go.IntKind.i64 ((x0.length:Int)+1))>x3) (@Int.decLt x3 (@Go.IntKind.wrap Go.IntKind.i64 ((x0.length:Int)+1))) (@Go.IntKind.wrap Go.IntKind.i64 ((x0.length:Int)+1)) x3) (@ite (@Kd.T kI) ((@Go.IntKind.wrap Go.IntKind.i64 ((x0.length:Int)+1))<x3) (@Int.decLt (@Go.IntKind.wrap Go.IntKind.i64 ((x0.length:Int)+1)) x3) (@Go.IntKind.wrap Go.IntKind.i64 ((x0.length:Int)+1)) x3))-1)) (zeros (@Kd.sl (@Kd.int Go.IntKind.u8)) (cond false (@ite (@Kd.T kI) ((@Go.IntKind.wrap Go.IntKind.i64 ((x0.length:Int)+1))>x3) (@Int.decLt x3 (@Go.IntKind.wrap Go.IntKind.i64 ((x0.length:Int)+1))) (@Go.IntKind.wrap Go.IntKind.i64 ((x0.length:Int)+1)) x3) (@ite (@Kd.T kI) ((@Go.IntKind.wrap Go.IntKind.i64 ((x0.length:Int)+1))<x3) (@Int.decLt (@Go.IntKind.wrap Go.IntKind.i64 ((x0.length:Int)+1)) x3) (@Go.IntKind.wrap Go.IntKind.i64 ((x0.length:Int)+1)) x3))) 0) none))
def wq4p(k:Nat){R:Type}: Nat→(List Int)→Int→Int→Int→(List (List Int))→Int→((List (List Int))→Option R)→Option R
 |0,_,_,_,_,_,_,_=>none
 |n+1,s0,s1,s2,s3,s4,s5,K=>wqa9 k (fun s0 s1 s2 s3 s4 s5=>wq4p k n s0 s1 s2 s3 s4 s5 K) s0 s1 s2 s3 s4 s5 K
theorem wqif(k:Nat){R:Type}: ∀(I:Nat→St→Option R) (n:Nat),h_bytes_genSplit.lp u_bytes_genSplit_1011 (wqkc k).cx k Tryz.f141 1011 [1,1,1,1,1,1,1,1,0,0] I n=wq4p k n:=h_bytes_genSplit.lok u_bytes_genSplit_1011 (B:=wqa9 k) (L:=wq4p k) (fun I=>by kernel_rfl) (fun I=>by kernel_rfl) (fun n=>by kernel_rfl) (fun _ _ _ _=>rfl)
def wqc5(k:Nat){R:Type}(x0:(List Int))(x1 x2 x3:Int)(K:((List (List Int))→Option R)): Option R:=wqfm k (fun s0 s1 s2 s3 s4 s5=>wq4p k k s0 s1 s2 s3 s4 s5 K) x0 x1 x2 x3 K
theorem wqvg(k:Nat): DOK Tryz.prog 141 (h_bytes_genSplit.run (@wqc5 k)):=dok h_bytes_genSplit (wqkc k) Tryz.f141 k (ok1 (wq11m k) (ok1 (wq11p k) ok0)) (by kernel_rfl) (by kernel_rfl) fun R=>h_bytes_genSplit.f1 u_bytes_genSplit_1011 (wqfm k) (by kernel_rfl) (wqif k (fun _ _=>none) k) (by kernel_rfl)
def wqvh(k:Nat): Ent:=h_bytes_genSplit.e 141 (@wqc5 k)
def h_bytes_Split:Sh:=⟨[.s (.int .u8),.k (.int .u8)],some ([],[.s (.sl (.int .u8))]),none⟩
def wq11r(k:Nat): Cxt:=⟨[wqvh k],[],[],[]⟩
def wqrn(k:Nat){R:Type}(x0:(List Int))(x1:Int)(K:((List (List Int))→Option R)): Option R:=wqc5 k x0 x1 0 (@Neg.neg Int @Int.instNegInt (1:Int)) K
def wqdx:=@wqrn
theorem wq11s(k:Nat): DOK Tryz.prog 95 (h_bytes_Split.run (@wqdx k)):=dok h_bytes_Split (wq11r k) Tryz.f95 k (ok1 (wqvg k) ok0) (by kernel_rfl) (by kernel_rfl) fun R=>by kernel_rfl
def wq11t(k:Nat): Ent:=h_bytes_Split.e 95 (@wqdx k)
def h_line_odd:Sh:=⟨[.a (.int .i32)],some ([],[.a .bool]),none⟩
def wq1am(k:Nat): Cxt:=⟨[],[],[],[]⟩
def wq1an(k:Nat){R:Type}(x0:Int)(K:(Bool→Option R)): Option R:=K (cond (cond (decide (x0≥0)) (decide (x0<32)) false) true (x0 == 127))
def wq11u:=@wq1an
theorem wq11v(k:Nat): DOK Tryz.prog 97 (h_line_odd.run (@wq11u k)):=dok h_line_odd (wq1am k) Tryz.f97 k ok0 (by kernel_rfl) (by kernel_rfl) fun R=>by kernel_rfl
def wq1ao(k:Nat): Ent:=h_line_odd.e 97 (@wq11u k)
end Go.Proofs.YtabkhphoacmcdaaGreatDoor.Pvm
namespace Go.Proofs
open Go.Shelf
def Tryz.laysLaysGwn15_ren:Go.Shelf.Ren:=⟨fun|15=>96|20=>142|n=>n,fun|9=>9|23=>146|3=>3|4=>4|0=>0|21=>21|n=>n,fun|n=>n⟩
theorem Tryz.laysLaysGwn15:Go.Proofs.LaysGw.n15 Tryz.prog Tryz.laysLaysGwn15_ren:={
 mixed:=by kernel_rfl
 f15:=Tryz.func96.trans (congrArg some (by kernel_rfl))
 f20:=Tryz.func142.trans (congrArg some (by kernel_rfl))
 t0:=Tryz.underlying0
 a0:=Tryz.isAgg0
 z0:=Tryz.sizeOf0
 v0:=Tryz.zeroValue0
 i0:=by kernel_rfl
 t3:=Tryz.underlying3
 a3:=Tryz.isAgg3
 z3:=Tryz.sizeOf3
 v3:=Tryz.zeroValue3
 i3:=by kernel_rfl
 t4:=Tryz.underlying4
 a4:=Tryz.isAgg4
 z4:=Tryz.sizeOf4
 v4:=Tryz.zeroValue4
 i4:=by kernel_rfl
 t9:=Tryz.underlying9
 a9:=Tryz.isAgg9
 z9:=Tryz.sizeOf9
 v9:=Tryz.zeroValue9
 i9:=by kernel_rfl
 t21:=Tryz.underlying21
 a21:=Tryz.isAgg21
 z21:=Tryz.sizeOf21
 v21:=Tryz.zeroValue21
 i21:=by kernel_rfl
 t23:=Tryz.underlying146
 a23:=Tryz.isAgg146
 z23:=Tryz.sizeOf146
 v23:=Tryz.zeroValue146
 i23:=by kernel_rfl }
end Go.Proofs
namespace Go.Proofs.YtabkhphoacmcdaaGreatDoor.Pvm
open Go Go.Proofs Go.RowKit Go.Shelf
def oddP(n:Nat): Bool:=cond (cond (decide ((n:Int)≥0)) (decide ((n:Int)<32)) false) true ((n:Int) == 127)
def idxOdd(s:List UInt8): Int:=Lib.idxFunc oddP true ⟨s.toArray⟩
def wqlk:List LS:=[.any,.clo []]
def wqc6(k:Nat){R:Type}(x0:List UInt8)(K:Int→Option R): Option R:=K (idxOdd x0)
def wqaa(k:Nat){R:Type}: List PV→List (Nm×HObj)→(Out→Option R)→Option R
 |[.v .str x0,.clo 97 []],[],K=>wqc6 k x0 (fun y0=>K (.ret [.v (.int .i64) y0] []))
 |_,_,_=>none
theorem wq1cv(w:World): PredGrows Tryz.prog 97 #[] oddP w:=by
 intro W x hx hb
 exact wq169 (P:=Tryz.prog) (f:=97) (fn:=Tryz.f97) (c:=Tryz.f97.body.getD .skip) (by kernel_rfl) (by kernel_rfl) (by kernel_rfl) (ps:=[.v (.int .i32) (x:Int)]) (b:=oddP x)
  (wq11v 0 _ _ _ lawK (oddP x) rfl) (vals:=[.int .i32 (x:Int)]) ⟨_,[],rfl,rfl,rfl⟩
theorem wqon(k:Nat){ps:List PV}{hp:List (Nm×HObj)}{R:Type}{K:Out→Option R}{r:R}(h:wqaa k ps hp K=some r): DoesTo Tryz.prog 96 ps hp fun out=>K out=some r:=by
 unfold wqaa at h
 split at h
 ·next x0 =>
  intro G w vals hr obj dis
  obtain⟨v0,l0,rfl,h0,v1,l1,rfl,h1,rfl⟩:=hr
  have e0:v0 = .string ⟨x0.toArray⟩:=by simpa [RV,RD]using h0
  obtain⟨vs,e1,hvs⟩:=h1
  obtain rfl:vs=[]:=hvs
  subst e0 e1
  have c:=Any.strings_IndexFunc_grows Tryz.laysLaysGwn15 97 #[] (enters (P:=Tryz.prog) (fn:=Tryz.f97) (c:=Tryz.f97.body.getD .skip) (by kernel_rfl) (by kernel_rfl) (by kernel_rfl)) oddP ⟨x0.toArray⟩ w (wq1cv w)
  show Does _ _ #[_,_] _ _
  unfold Does
  rw[enters (P:=Tryz.prog) (fn:=Tryz.f96) (c:=Tryz.f96.body.getD .skip) (by kernel_rfl) (by kernel_rfl) (by kernel_rfl)]
  refine Calls.mono c fun e w' hh => ?_
  obtain⟨rfl,b⟩:=hh
  exact⟨.ret [.v (.int .i64) (idxOdd x0)] [],h,G,⟨_,rfl,rfl⟩,wq16a b⟩
 ·cases h
end Go.Proofs.YtabkhphoacmcdaaGreatDoor.Pvm
namespace Go.Proofs.YtabkhphoacmcdaaGreatDoor.Pvm
open Go Go.Proofs
def h_strings_trimLeftByte:Sh:=⟨[.a .str,.a (.int .u8)],some ([],[.a .str]),none⟩
def u_strings_trimLeftByte_1001:Cu:=⟨0,[0,1],[.a .str,.a (.int .u8)]⟩
def wqdy(k:Nat): Cxt:=⟨[],[],[(1001,u_strings_trimLeftByte_1001.spec)],[]⟩
def wq6x(k:Nat){R:Type}(E1001:((List UInt8)→Int→Option R))(s0:(List UInt8))(s1:Int)(K:((List UInt8)→Option R)): Option R:=cond ((!((decide ((s0.length:Int)>0)) == true)) || (inb 0 (s0.length:Int))) (cond (cond (decide ((s0.length:Int)>0)) (((s0.getD (Int.toNat 0) 0).toNat:Int) == s1) false) (cond (bnd 1 (s0.length:Int) (s0.length:Int)) (E1001 (cut s0 1 (s0.length:Int)) s1) none) (K s0)) none
def wq9c(k:Nat){R:Type}(E1001:((List UInt8)→Int→Option R))(x0:(List UInt8))(x1:Int)(K:((List UInt8)→Option R)): Option R:=E1001 x0 x1
def wq3b(k:Nat){R:Type}: Nat→(List UInt8)→Int→((List UInt8)→Option R)→Option R
 |0,_,_,_=>none
 |n+1,s0,s1,K=>wq6x k (fun s0 s1=>wq3b k n s0 s1 K) s0 s1 K
theorem wqe6(k:Nat){R:Type}: ∀(I:Nat→St→Option R) (n:Nat),h_strings_trimLeftByte.lp u_strings_trimLeftByte_1001 (wqdy k).cx k Tryz.f143 1001 [1,0,0] I n=wq3b k n:=h_strings_trimLeftByte.lok u_strings_trimLeftByte_1001 (B:=wq6x k) (L:=wq3b k) (fun I=>by kernel_rfl) (fun I=>by kernel_rfl) (fun n=>by kernel_rfl) (fun _ _ _ _=>rfl)
def wq7f(k:Nat){R:Type}(x0:(List UInt8))(x1:Int)(K:((List UInt8)→Option R)): Option R:=wq9c k (fun s0 s1=>wq3b k k s0 s1 K) x0 x1 K
theorem wqkd(k:Nat): DOK Tryz.prog 143 (h_strings_trimLeftByte.run (@wq7f k)):=dok h_strings_trimLeftByte (wqdy k) Tryz.f143 k ok0 (by kernel_rfl) (by kernel_rfl) fun R=>h_strings_trimLeftByte.f1 u_strings_trimLeftByte_1001 (wq9c k) (by kernel_rfl) (wqe6 k (fun _ _=>none) k) (by kernel_rfl)
def wqke(k:Nat): Ent:=h_strings_trimLeftByte.e 143 (@wq7f k)
def h_strings_TrimLeft:Sh:=⟨[.a .str,.j],some ([],[.a .str]),none⟩
def wqqr(k:Nat): Cxt:=⟨[wqke k],[],[],[]⟩
def wqhc(k:Nat){R:Type}(x0:(List UInt8))(x1:UInt8)(K:((List UInt8)→Option R)): Option R:=cond (cond (x0 == []) true ([x1] == [])) (K x0) (cond (cond ((@List.length UInt8 [x1]:Int) == 1) (decide (((([x1]).getD (Int.toNat 0) 0).toNat:Int)<128)) false) (wq7f k x0 ((([x1]).getD (Int.toNat 0) 0).toNat:Int) K) none)
def wq7z:=@wqhc
theorem wqqs(k:Nat): DOK Tryz.prog 98 (h_strings_TrimLeft.run (@wq7z k)):=dok h_strings_TrimLeft (wqqr k) Tryz.f98 k (ok1 (wqkd k) ok0) (by kernel_rfl) (by kernel_rfl) fun R=>by kernel_rfl
def wqqt(k:Nat): Ent:=h_strings_TrimLeft.e 98 (@wq7z k)
def h_line_Lines:Sh:=⟨[.s (.int .u8)],some ([],[.s kdT150,.g [.a kI,.a kI]]),none⟩
def u_line_Lines_1005:Cu:=⟨0,[3,4,17,18,19],[.o 13 29 0 [.a kI,.a kI],.w 100004 151 kdT150,.s (.sl (.int .u8)),.a kI,.a kI]⟩
def wqvi(k:Nat): Cxt:=⟨[wq11t k,⟨96,wqlk,wqaa k⟩,wq1ao k,wqqt k,wqv1 k],[],[(1005,u_line_Lines_1005.spec)],[]⟩
def wqe7(k:Nat){R:Type}(E1005:(Int→Int→(List dT150)→(List (List Int))→Int→Int→Option R))(s0 s1:Int)(s2:(List dT150))(s3:(List (List Int)))(s4 s5:Int)(K:((List dT150)→Int→Int→Option R)): Option R:=cond (decide (s5<s4)) (cond (inb s5 (s3.length:Int)) (wqc6 k (wq4a (s3.getD s5.toNat (Kd.zero (@Kd.sl (@Kd.int Go.IntKind.u8))))) (fun y10=>cond (decide (y10≥0)) (K [] 2 (@Go.IntKind.wrap Go.IntKind.i64 (s5+1))) (wq7z k (wq4a (s3.getD s5.toNat (Kd.zero (@Kd.sl (@Kd.int Go.IntKind.u8))))) 32 (fun y11=>wqcz k y11 (fun y12 y13=>cond (!y13) (K [] 3 (@Go.IntKind.wrap Go.IntKind.i64 (s5+1))) (cond (!(y12 == [])) (cond (fits s2.length (@List.length (@Kd.T kdT150) [((@Go.IntKind.wrap Go.IntKind.i64 (s5+1)),((@Go.IntKind.wrap Go.IntKind.i64 (((wq4a (s3.getD s5.toNat (Kd.zero (@Kd.sl (@Kd.int Go.IntKind.u8))))).length:Int)-(y11.length:Int))),y12))]) 32) (E1005 s0 s1 (s2++[((@Go.IntKind.wrap Go.IntKind.i64 (s5+1)),((@Go.IntKind.wrap Go.IntKind.i64 (((wq4a (s3.getD s5.toNat (Kd.zero (@Kd.sl (@Kd.int Go.IntKind.u8))))).length:Int)-(y11.length:Int))),y12))]) s3 s4 (@Go.IntKind.wrap Go.IntKind.i64 (s5+1))) none) (E1005 s0 s1 s2 s3 s4 (@Go.IntKind.wrap Go.IntKind.i64 (s5+1))))))))) none) (K s2 0 0)
def wqn3(k:Nat){R:Type}(E1005:(Int→Int→(List dT150)→(List (List Int))→Int→Int→Option R))(x0:(List Int))(K:((List dT150)→Int→Int→Option R)): Option R:=cond (decide ((x0.length:Int)>16384)) (K [] 1 1) (wqdx k x0 10 (fun y5=>E1005 0 0 [] y5 (y5.length:Int) 0))
def wq75(k:Nat){R:Type}: Nat→Int→Int→(List dT150)→(List (List Int))→Int→Int→((List dT150)→Int→Int→Option R)→Option R
 |0,_,_,_,_,_,_,_=>none
 |n+1,s0,s1,s2,s3,s4,s5,K=>wqe7 k (fun s0 s1 s2 s3 s4 s5=>wq75 k n s0 s1 s2 s3 s4 s5 K) s0 s1 s2 s3 s4 s5 K
theorem wqn4(k:Nat){R:Type}: ∀(I:Nat→St→Option R) (n:Nat),h_line_Lines.lp u_line_Lines_1005 (wqvi k).cx k Tryz.f57 1005 [1,1,1,0,1,0] I n=wq75 k n:=h_line_Lines.lok u_line_Lines_1005 (B:=wqe7 k) (L:=wq75 k) (fun I=>by kernel_rfl) (fun I=>by kernel_rfl) (fun n=>by kernel_rfl) (fun _ _ _ _=>rfl)
def wqfn(k:Nat){R:Type}(x0:(List Int))(K:((List dT150)→Int→Int→Option R)): Option R:=wqn3 k (fun s0 s1 s2 s3 s4 s5=>wq75 k k s0 s1 s2 s3 s4 s5 K) x0 K
theorem wq149(k:Nat): DOK Tryz.prog 57 (h_line_Lines.run (@wqfn k)):=dok h_line_Lines (wqvi k) Tryz.f57 k (ok1 (wq11s k) (ok1 (fun _ _ _ _ _ h=>wqon k h) (ok1 (wq11v k) (ok1 (wqqs k) (ok1 (wqv0 k) ok0))))) (by kernel_rfl) (by kernel_rfl) fun R=>h_line_Lines.f1 u_line_Lines_1005 (wqn3 k) (by kernel_rfl) (wqn4 k (fun _ _=>none) k) (by kernel_rfl)
def wq14a(k:Nat): Ent:=h_line_Lines.e 57 (@wqfn k)
def h_doc_Parse:Sh:=⟨[.s (.int .u8)],some ([],[.g [.s kdT72],.g [.a kI,.a kI]]),none⟩
def wq17v(k:Nat): Cxt:=⟨[wq14a k,wq1cu k,⟨59,wq1ak,wqvd k⟩],[],[],[(3,(.of [(0,1),(1,2),(2,0),(3,0)] .done)),(6,(.of [(0,1),(1,2),(2,0),(3,0)] .done))]⟩
def wqy6(k:Nat){R:Type}(x0:(List Int))(K:((List dT72)→Int→Int→Option R)): Option R:=wqfn k x0 (fun y4 y5 y6=>cond (y5 != 0) (K [] y5 y6) (wqom k y4 (fun y7 y8 y9=>cond (y8 != 0) (K [] y8 y9) (wqvc k y7 K))))
def wqhd:=@wqy6
theorem wq17w(k:Nat): DOK Tryz.prog 29 (h_doc_Parse.run (@wqhd k)):=dok h_doc_Parse (wq17v k) Tryz.f29 k (ok1 (wq149 k) (ok1 (wq1ct k) (ok1 (fun _ _ _ _ _ h=>wq1el k h) ok0))) (by kernel_rfl) (by kernel_rfl) fun R=>by kernel_rfl
def wq17x(k:Nat): Ent:=h_doc_Parse.e 29 (@wqhd k)
def h_config_Parse:Sh:=⟨[.s (.int .u8)],some ([],[.g [.s (.pr .str (.sl kI)),.s kdT56],.g [.a kI,.a kI]]),none⟩
abbrev wqgq:Type 1:=(R:Type)→(List Int)→((List ((List UInt8)×(List Int)))→(List dT56)→Int→Int→Option R)→Option R
def wqzk(k:Nat): Cxt:=⟨[⟨16,wqri,wqg4 k⟩,wq17x k],[],[],[(3,(.of [(0,1),(1,2),(2,0),(3,0)] .done))]⟩
def wqoo(k:Nat){R:Type}(x0:(List Int))(K:((List ((List UInt8)×(List Int)))→(List dT56)→Int→Int→Option R)): Option R:=wqhd k x0 (fun y4 y5 y6=>cond (y5 != 0) (K [] [] y5 y6) (wq9q k y4 K))
def wq7g:=@wqoo
theorem wqop(k:Nat): DOK Tryz.prog 11 (h_config_Parse.run (@wq7g k)):=dok h_config_Parse (wqzk k) Tryz.f11 k (ok1 (fun _ _ _ _ _ h=>wqy5 k h) (ok1 (wq17w k) ok0)) (by kernel_rfl) (by kernel_rfl) fun R=>by kernel_rfl
def wqzl(k:Nat): Ent:=h_config_Parse.e 11 (@wq7g k)
def h_cmp_isNaN_float64:Sh:=⟨[.a .flt],some ([],[.a .bool]),none⟩
def wqoq(k:Nat): Cxt:=⟨[],[],[],[]⟩
def wqor(k:Nat){R:Type}(x0:Nat)(K:(Bool→Option R)): Option R:=K (@fltIs @Go.BinOp.neq x0 x0)
def wq93:=@wqor
theorem wqos(k:Nat): DOK Tryz.prog 247 (h_cmp_isNaN_float64.run (@wq93 k)):=dok h_cmp_isNaN_float64 (wqoq k) Tryz.f247 k ok0 (by kernel_rfl) (by kernel_rfl) fun R=>by kernel_rfl
def wqot(k:Nat): Ent:=h_cmp_isNaN_float64.e 247 (@wq93 k)
def h_cmp_Compare_float64:Sh:=⟨[.a .flt,.a .flt],some ([],[.a kI]),none⟩
abbrev wq9d:Type 1:=(R:Type)→Nat→Nat→(Int→Option R)→Option R
def wqll(k:Nat): Cxt:=⟨[wqot k],[],[],[]⟩
def wqlm(k:Nat){R:Type}(x0 x1:Nat)(K:(Int→Option R)): Option R:=wq93 k x0 (fun y5=>wq93 k x1 (fun y6=>cond y5 (cond y6 (K 0) (K (@Neg.neg Int @Int.instNegInt (1:Int)))) (cond y6 (K 1) (cond (@fltIs @Go.BinOp.lss x0 x1) (K (@Neg.neg Int @Int.instNegInt (1:Int))) (cond (@fltIs @Go.BinOp.gtr x0 x1) (K 1) (K 0))))))
def wq4q:=@wqlm
theorem wqeg(k:Nat): DOK Tryz.prog 217 (h_cmp_Compare_float64.run (@wq4q k)):=dok h_cmp_Compare_float64 (wqll k) Tryz.f217 k (ok1 (wqos k) ok0) (by kernel_rfl) (by kernel_rfl) fun R=>by kernel_rfl
def wqln(k:Nat): Ent:=h_cmp_Compare_float64.e 217 (@wq4q k)
def h_cmp_isNaN_int:Sh:=⟨[.a kI],some ([],[.a .bool]),none⟩
def wqwu(k:Nat): Cxt:=⟨[],[],[],[]⟩
def wqwv(k:Nat){R:Type}(x0:Int)(K:(Bool→Option R)): Option R:=K (x0 != x0)
def wqdg:=@wqwv
theorem wqww(k:Nat): DOK Tryz.prog 246 (h_cmp_isNaN_int.run (@wqdg k)):=dok h_cmp_isNaN_int (wqwu k) Tryz.f246 k ok0 (by kernel_rfl) (by kernel_rfl) fun R=>by kernel_rfl
def wqwx(k:Nat): Ent:=h_cmp_isNaN_int.e 246 (@wqdg k)
def h_cmp_Compare_int:Sh:=⟨[.a kI,.a kI],some ([],[.a kI]),none⟩
abbrev wqd5:Type 1:=(R:Type)→Int→Int→(Int→Option R)→Option R
def wqsy(k:Nat): Cxt:=⟨[wqwx k],[],[],[]⟩
def wqsz(k:Nat){R:Type}(x0 x1:Int)(K:(Int→Option R)): Option R:=wqdg k x0 (fun y5=>wqdg k x1 (fun y6=>cond y5 (cond y6 (K 0) (K (@Neg.neg Int @Int.instNegInt (1:Int)))) (cond y6 (K 1) (cond (decide (x0<x1)) (K (@Neg.neg Int @Int.instNegInt (1:Int))) (cond (decide (x0>x1)) (K 1) (K 0))))))
def wqau:=@wqsz
theorem wqt0(k:Nat): DOK Tryz.prog 216 (h_cmp_Compare_int.run (@wqau k)):=dok h_cmp_Compare_int (wqsy k) Tryz.f216 k (ok1 (wqww k) ok0) (by kernel_rfl) (by kernel_rfl) fun R=>by kernel_rfl
def h_math_Signbit:Sh:=⟨[.a .flt],some ([],[.a .bool]),none⟩
abbrev wq34:Type 1:=(R:Type)→Nat→(Bool→Option R)→Option R
def wqzm(k:Nat): Cxt:=⟨[⟨170,wqb0,wq6e k⟩],[],[],[]⟩
def wqzn(k:Nat){R:Type}(x0:Nat)(K:(Bool→Option R)): Option R:=wq50 k x0 (fun y4=>K (decide ((@Go.IntKind.wrap Go.IntKind.i64 y4)<0)))
def wq32:=@wqzn
theorem wqeq(k:Nat): DOK Tryz.prog 161 (h_math_Signbit.run (@wq32 k)):=dok h_math_Signbit (wqzm k) Tryz.f161 k (ok1 (fun _ _ _ _ _ h=>wqcq k h) ok0) (by kernel_rfl) (by kernel_rfl) fun R=>by kernel_rfl
def wqzo(k:Nat): Ent:=h_math_Signbit.e 161 (@wq32 k)
def h_ratio_place:Sh:=⟨[.a .flt],some ([],[.a kI]),none⟩
abbrev wqig:Type 1:=(R:Type)→Nat→(Int→Option R)→Option R
def wq11w(k:Nat): Cxt:=⟨[wqud k,wqln k],[],[],[]⟩
def wq11x(k:Nat){R:Type}(x0:Nat)(K:(Int→Option R)): Option R:=wq33 k x0 (fun y4=>cond y4 (K 2) (wq4q k x0 0 K))
def wqg5:=@wq11x
theorem wq11y(k:Nat): DOK Tryz.prog 215 (h_ratio_place.run (@wqg5 k)):=dok h_ratio_place (wq11w k) Tryz.f215 k (ok1 (wqhv k) (ok1 (wqeg k) ok0)) (by kernel_rfl) (by kernel_rfl) fun R=>by kernel_rfl
def h_ratio_Order:Sh:=⟨[.a .flt,.a .flt],some ([],[.a kI]),none⟩
def wqro(k:Nat)(wqj:wq34)(wq9h:wqig)(wq7a:wqd5)(wq4s:wq9d): Cxt:=⟨[h_math_Signbit.e 161 wqj,h_ratio_place.e 215 wq9h,h_cmp_Compare_int.e 216 wq7a,h_cmp_Compare_float64.e 217 wq4s],[],[],[]⟩
def wqrp(k:Nat)(wqj:wq34)(wq9h:wqig)(wq7a:wqd5)(wq4s:wq9d){R:Type}(x0 x1:Nat)(K:(Int→Option R)): Option R:=wq9h R x0 (fun y5=>wq9h R x1 (fun y6=>cond (y5 != y6) (wq7a R y5 y6 K) (cond (y5 == 2) (K 0) (cond (y5 != 0) (wq4s R x0 x1 K) (wqj R x0 (fun y7=>wqj R x1 (fun y8=>cond (y7 == y8) (K 0) (cond y7 (K (@Neg.neg Int @Int.instNegInt (1:Int))) (K 1)))))))))
theorem wq11z(k:Nat)(wqj:wq34)(wq9h:wqig)(wq7a:wqd5)(wq4s:wq9d)(R:Type): h_ratio_Order.at (wqro k wqj wq9h wq7a wq4s) k Tryz.f181 R=@wqrp k wqj wq9h wq7a wq4s R:=by kernel_rfl
def wqdz(k:Nat){R:Type}:= @wqrp k (@wq32 k) (@wqg5 k) (@wqau k) (@wq4q k) R
theorem wqrq(k:Nat): DOK Tryz.prog 181 (h_ratio_Order.run (@wqdz k)):=dok h_ratio_Order (wqro k (@wq32 k) (@wqg5 k) (@wqau k) (@wq4q k)) Tryz.f181 k (ok1 (wqeq k) (ok1 (wq11y k) (ok1 (wqt0 k) (ok1 (wqeg k) ok0)))) (by kernel_rfl) (by kernel_rfl) fun R=>wq11z k (@wq32 k) (@wqg5 k) (@wqau k) (@wq4q k) R
def wqrr(k:Nat): Ent:=h_ratio_Order.e 181 (@wqdz k)
def h_ratio_Same:Sh:=⟨[.a .flt,.a .flt],some ([],[.a .bool]),none⟩
abbrev wq4v:Type 1:=(R:Type)→Nat→Nat→(Bool→Option R)→Option R
def wq14b(k:Nat): Cxt:=⟨[wqrr k],[],[],[]⟩
def wq14c(k:Nat){R:Type}(x0 x1:Nat)(K:(Bool→Option R)): Option R:=wqdz k x0 x1 (fun y5=>K (y5 == 0))
def wq5r:=@wq14c
theorem wqn5(k:Nat): DOK Tryz.prog 140 (h_ratio_Same.run (@wq5r k)):=dok h_ratio_Same (wq14b k) Tryz.f140 k (ok1 (wqrq k) ok0) (by kernel_rfl) (by kernel_rfl) fun R=>by kernel_rfl
def wq14d(k:Nat): Ent:=h_ratio_Same.e 140 (@wq5r k)
def h_math_IsInf:Sh:=⟨[.a .flt,.a kI],some ([],[.a .bool]),none⟩
abbrev wqkf:Type 1:=(R:Type)→Nat→Int→(Bool→Option R)→Option R
def wq14e(k:Nat): Cxt:=⟨[wq1a2 k],[],[],[]⟩
def wq14f(k:Nat){R:Type}(x0:Nat)(x1:Int)(K:(Bool→Option R)): Option R:=cond (x1 == 0) (wq58 k x0 (fun y5=>K (@fltIs @Go.BinOp.gtr y5 (9218868437227405311:Nat)))) (cond (decide (x1<0)) (K (@fltIs @Go.BinOp.gtr (@fltNeg x0) (9218868437227405311:Nat))) (K (@fltIs @Go.BinOp.gtr x0 (9218868437227405311:Nat))))
def wqih:=@wq14f
theorem wq14g(k:Nat): DOK Tryz.prog 212 (h_math_IsInf.run (@wqih k)):=dok h_math_IsInf (wq14e k) Tryz.f212 k (ok1 (wqnw k) ok0) (by kernel_rfl) (by kernel_rfl) fun R=>by kernel_rfl
end Go.Proofs.YtabkhphoacmcdaaGreatDoor.Pvm
namespace Go.Proofs
open Go.Shelf
def Tryz.laysLaysn105_ren:Go.Shelf.Ren:=⟨fun|105=>19|212=>40|99=>41|165=>42|166=>43|170=>44|169=>45|263=>86|264=>87|206=>88|240=>89|241=>90|276=>137|277=>138|n=>n,fun|9=>9|3=>3|4=>4|20=>20|0=>0|46=>83|109=>84|5=>5|72=>89|76=>93|51=>134|146=>135|53=>137|148=>138|70=>87|37=>22|75=>92|127=>140|164=>184|80=>96|n=>n,fun|n=>n⟩
theorem Tryz.laysLaysn105:Go.Proofs.Lays.n105 Tryz.prog Tryz.laysLaysn105_ren:={
 mixed:=by kernel_rfl
 f99:=Tryz.func41.trans (congrArg some (by kernel_rfl))
 f105:=Tryz.func19.trans (congrArg some (by kernel_rfl))
 f165:=Tryz.func42.trans (congrArg some (by kernel_rfl))
 f166:=Tryz.func43.trans (congrArg some (by kernel_rfl))
 f169:=Tryz.func45.trans (congrArg some (by kernel_rfl))
 f170:=Tryz.func44.trans (congrArg some (by kernel_rfl))
 f206:=Tryz.func88.trans (congrArg some (by kernel_rfl))
 f212:=Tryz.func40.trans (congrArg some (by kernel_rfl))
 f240:=Tryz.func89.trans (congrArg some (by kernel_rfl))
 f241:=Tryz.func90.trans (congrArg some (by kernel_rfl))
 f263:=Tryz.func86.trans (congrArg some (by kernel_rfl))
 f264:=Tryz.func87.trans (congrArg some (by kernel_rfl))
 f276:=Tryz.func137.trans (congrArg some (by kernel_rfl))
 f277:=Tryz.func138.trans (congrArg some (by kernel_rfl))
 t0:=Tryz.underlying0
 a0:=Tryz.isAgg0
 z0:=Tryz.sizeOf0
 v0:=Tryz.zeroValue0
 t3:=Tryz.underlying3
 a3:=Tryz.isAgg3
 z3:=Tryz.sizeOf3
 v3:=Tryz.zeroValue3
 t4:=Tryz.underlying4
 a4:=Tryz.isAgg4
 z4:=Tryz.sizeOf4
 v4:=Tryz.zeroValue4
 t5:=Tryz.underlying5
 a5:=Tryz.isAgg5
 z5:=Tryz.sizeOf5
 v5:=Tryz.zeroValue5
 t9:=Tryz.underlying9
 a9:=Tryz.isAgg9
 z9:=Tryz.sizeOf9
 v9:=Tryz.zeroValue9
 t20:=Tryz.underlying20
 a20:=Tryz.isAgg20
 z20:=Tryz.sizeOf20
 v20:=Tryz.zeroValue20
 t37:=Tryz.underlying22
 a37:=Tryz.isAgg22
 z37:=Tryz.sizeOf22
 v37:=Tryz.zeroValue22
 t46:=Tryz.underlying83
 a46:=Tryz.isAgg83
 z46:=Tryz.sizeOf83
 v46:=Tryz.zeroValue83
 t51:=Tryz.underlying134
 a51:=Tryz.isAgg134
 z51:=Tryz.sizeOf134
 v51:=Tryz.zeroValue134
 t53:=Tryz.underlying137
 a53:=Tryz.isAgg137
 z53:=Tryz.sizeOf137
 v53:=Tryz.zeroValue137
 t70:=Tryz.underlying87
 a70:=Tryz.isAgg87
 z70:=Tryz.sizeOf87
 v70:=Tryz.zeroValue87
 t72:=Tryz.underlying89
 a72:=Tryz.isAgg89
 z72:=Tryz.sizeOf89
 v72:=Tryz.zeroValue89
 t75:=Tryz.underlying92
 a75:=Tryz.isAgg92
 z75:=Tryz.sizeOf92
 v75:=Tryz.zeroValue92
 t76:=Tryz.underlying93
 a76:=Tryz.isAgg93
 z76:=Tryz.sizeOf93
 v76:=Tryz.zeroValue93
 t109:=Tryz.underlying84
 a109:=Tryz.isAgg84
 z109:=Tryz.sizeOf84
 v109:=Tryz.zeroValue84
 t127:=Tryz.underlying140
 a127:=Tryz.isAgg140
 z127:=Tryz.sizeOf140
 v127:=Tryz.zeroValue140
 t146:=Tryz.underlying135
 a146:=Tryz.isAgg135
 z146:=Tryz.sizeOf135
 v146:=Tryz.zeroValue135
 t148:=Tryz.underlying138
 a148:=Tryz.isAgg138
 z148:=Tryz.sizeOf138
 v148:=Tryz.zeroValue138
 t164:=Tryz.underlying184
 a164:=Tryz.isAgg184
 z164:=Tryz.sizeOf184
 v164:=Tryz.zeroValue184 }
theorem Tryz.extra105:Builder.Extra Tryz.prog Tryz.laysLaysn105_ren where
 sizeBuilder:=by kernel_rfl
 liesBuilder:=by kernel_rfl
 t5:=Tryz.underlying5
 a5:=Tryz.isAgg5
 z5:=Tryz.sizeOf5
 v5:=Tryz.zeroValue5
 infoByte:=by kernel_rfl
 cellsByte:=by kernel_rfl
 sizeByte:=by kernel_rfl
 neB5:=by decide
end Go.Proofs
namespace Go.Proofs.YtabkhphoacmcdaaGreatDoor.Pvm
open Go Go.Proofs Go.RowKit Go.Shelf
def repS(s:List UInt8)(n:Nat): List UInt8:=Lib.repeatL s n
def wqqu:List LS:=[.any,.any]
def wqfo(k:Nat){R:Type}(x0:List UInt8)(x1:Int)(K:List UInt8→Option R): Option R:=bif decide (0≤x1)&&decide (x1≤1000000)&&decide (x0.length≤1000000)then K (repS x0 x1.toNat)else none
def wqd6(k:Nat){R:Type}: List PV→List (Nm×HObj)→(Out→Option R)→Option R
 |[.v .str x0,.v (.int .i64) x1],[],K=>wqfo k x0 x1 (fun y0=>K (.ret [.v .str y0] []))
 |_,_,_=>none
theorem wqvj(k:Nat){ps:List PV}{hp:List (Nm×HObj)}{R:Type}{K:Out→Option R}{r:R}(h:wqd6 k ps hp K=some r): DoesTo Tryz.prog 19 ps hp fun out=>K out=some r:=by
 unfold wqd6 at h
 split at h
 ·next x0 x1 =>
  intro G w vals hr obj dis
  obtain⟨v0,l0,rfl,h0,v1,l1,rfl,h1,rfl⟩:=hr
  have e0:v0 = .string ⟨x0.toArray⟩:=by simpa [RV,RD]using h0
  have e1:v1 = .int .i64 x1:=by simpa [RV,RD]using h1
  subst e0 e1
  unfold wqfo at h
  cases hx:(decide (0≤x1)&&decide (x1≤1000000)&&decide (x0.length≤1000000))with
  |false=>rw[hx]at h;cases h
  |true =>
   rw[hx,cond_true]at h
   simp only[Bool.and_eq_true,decide_eq_true_eq]at hx
   obtain⟨⟨g0,g1⟩,g2⟩:=hx
   obtain⟨n,rfl⟩:∃ n:Nat,x1=(n:Int):=⟨x1.toNat,(Int.toNat_of_nonneg g0).symm⟩
   have hn:n≤1000000:=by
    have:(n:Int)≤1000000:=g1
    omega
   have hsz:(⟨x0.toArray⟩:ByteArray).size=x0.length:=by simp[ByteArray.size]
   have hmul:x0.length*n≤1000000*1000000:=Nat.mul_le_mul g2 hn
   have c:=Any.strings_Repeat Tryz.laysLaysn105 Tryz.extra105 ⟨x0.toArray⟩ n w (by omega) (by rw[hsz];omega)
   show Does _ _ #[_,_] _ _
   unfold Does
   rw[enters (P:=Tryz.prog) (fn:=Tryz.f19) (c:=Tryz.f19.body.getD .skip) (by kernel_rfl) (by kernel_rfl) (by kernel_rfl)]
   refine Calls.mono c fun e w' hh => ?_
   obtain⟨rfl,b⟩:=hh
   exact⟨.ret [.v .str (repS x0 n)] [],h,G,⟨_,rfl,rfl⟩,wq16a b⟩
 ·cases h
end Go.Proofs.YtabkhphoacmcdaaGreatDoor.Pvm
namespace Go.Proofs.YtabkhphoacmcdaaGreatDoor.Pvm
open Go Go.Proofs
def h_ratio_fill:Sh:=⟨[.a kI,.a kI],some ([],[.a .str]),none⟩
abbrev wq4w:Type 1:=(R:Type)→Int→Int→((List UInt8)→Option R)→Option R
def wq14h(k:Nat): Cxt:=⟨[⟨19,wqqu,wqd6 k⟩,wquh k],[],[],[]⟩
def wq14i(k:Nat){R:Type}(x0 x1:Int)(K:((List UInt8)→Option R)): Option R:=wq44 k x0 (fun y5=>wqfo k [48] (cond true (@ite (@Kd.T kI) ((0:Int)>(@Go.IntKind.wrap Go.IntKind.i64 (x1-(y5.length:Int)))) (@Int.decLt (@Go.IntKind.wrap Go.IntKind.i64 (x1-(y5.length:Int))) (0:Int)) (0:Int) (@Go.IntKind.wrap Go.IntKind.i64 (x1-(y5.length:Int)))) (@ite (@Kd.T kI) ((0:Int)<(@Go.IntKind.wrap Go.IntKind.i64 (x1-(y5.length:Int)))) (@Int.decLt (0:Int) (@Go.IntKind.wrap Go.IntKind.i64 (x1-(y5.length:Int)))) (0:Int) (@Go.IntKind.wrap Go.IntKind.i64 (x1-(y5.length:Int))))) (fun y6=>cond (joins y6 y5) (K (y6++y5)) none))
def wq7r:=@wq14i
theorem wqvk(k:Nat): DOK Tryz.prog 234 (h_ratio_fill.run (@wq7r k)):=dok h_ratio_fill (wq14h k) Tryz.f234 k (ok1 (fun _ _ _ _ _ h=>wqvj k h) (ok1 (wqi0 k) ok0)) (by kernel_rfl) (by kernel_rfl) fun R=>by kernel_rfl
def h_ratio_Text:Sh:=⟨[.a .flt],some ([],[.a .str]),none⟩
abbrev wq7h:Type 1:=(R:Type)→Nat→((List UInt8)→Option R)→Option R
def wqvl(k:Nat)(wq55:wqbe)(wqj:wq34)(wq1r:wq51)(wqbc:wqkf)(wq1e:wq4t)(wq1f:wq4w): Cxt:=⟨[h_math_IsNaN.e 134 wq55,h_math_Signbit.e 161 wqj,h_math_Abs.e 172 wq1r,h_math_IsInf.e 212 wqbc,h_num_Digits.e 233 wq1e,h_ratio_fill.e 234 wq1f],[],[],[]⟩
def wqvm(k:Nat)(wq55:wqbe)(wqj:wq34)(wq1r:wq51)(wqbc:wqkf)(wq1e:wq4t)(wq1f:wq4w){R:Type}(x0:Nat)(K:((List UInt8)→Option R)): Option R:=wq55 R x0 (fun y4=>cond y4 (K [110,97,110]) (wqbc R x0 1 (fun y5=>cond y5 (K [105,110,102]) (wqbc R x0 (@Neg.neg Int @Int.instNegInt (1:Int)) (fun y6=>cond y6 (K [45,105,110,102]) (wqj R x0 (fun y7=>cond y7 (wq1r R x0 (fun y8=>cond (@fltIs @Go.BinOp.geq y8 (4845873199050653696:Nat)) (K ([45]++[98,105,103])) (cond (@fltIn Go.IntKind.i64 y8) (cond (@Option.isSome Nat (@fltAr @Go.BinOp.sub y8 (@fltOf (@Option.getD Int (@fltI y8) (0:Int))))) (cond (@Option.isSome Nat (@fltAr @Go.BinOp.mul (@Option.getD Nat (@fltAr @Go.BinOp.sub y8 (@fltOf (@Option.getD Int (@fltI y8) (0:Int)))) (0:Nat)) (4652007308841189376:Nat))) (cond (@fltIn Go.IntKind.i64 (@Option.getD Nat (@fltAr @Go.BinOp.mul (@Option.getD Nat (@fltAr @Go.BinOp.sub y8 (@fltOf (@Option.getD Int (@fltI y8) (0:Int)))) (0:Nat)) (4652007308841189376:Nat)) (0:Nat))) (wq1e R (@Option.getD Int (@fltI y8) (0:Int)) (fun y9=>cond (joins [45] y9) (cond (joins ([45]++y9) [46]) (wq1f R (cond false (@ite (@Kd.T kI) ((999:Int)>(@Option.getD Int (@fltI (@Option.getD Nat (@fltAr @Go.BinOp.mul (@Option.getD Nat (@fltAr @Go.BinOp.sub y8 (@fltOf (@Option.getD Int (@fltI y8) (0:Int)))) (0:Nat)) (4652007308841189376:Nat)) (0:Nat))) (0:Int))) (@Int.decLt (@Option.getD Int (@fltI (@Option.getD Nat (@fltAr @Go.BinOp.mul (@Option.getD Nat (@fltAr @Go.BinOp.sub y8 (@fltOf (@Option.getD Int (@fltI y8) (0:Int)))) (0:Nat)) (4652007308841189376:Nat)) (0:Nat))) (0:Int)) (999:Int)) (999:Int) (@Option.getD Int (@fltI (@Option.getD Nat (@fltAr @Go.BinOp.mul (@Option.getD Nat (@fltAr @Go.BinOp.sub y8 (@fltOf (@Option.getD Int (@fltI y8) (0:Int)))) (0:Nat)) (4652007308841189376:Nat)) (0:Nat))) (0:Int))) (@ite (@Kd.T kI) ((999:Int)<(@Option.getD Int (@fltI (@Option.getD Nat (@fltAr @Go.BinOp.mul (@Option.getD Nat (@fltAr @Go.BinOp.sub y8 (@fltOf (@Option.getD Int (@fltI y8) (0:Int)))) (0:Nat)) (4652007308841189376:Nat)) (0:Nat))) (0:Int))) (@Int.decLt (999:Int) (@Option.getD Int (@fltI (@Option.getD Nat (@fltAr @Go.BinOp.mul (@Option.getD Nat (@fltAr @Go.BinOp.sub y8 (@fltOf (@Option.getD Int (@fltI y8) (0:Int)))) (0:Nat)) (4652007308841189376:Nat)) (0:Nat))) (0:Int))) (999:Int) (@Option.getD Int (@fltI (@Option.getD Nat (@fltAr @Go.BinOp.mul (@Option.getD Nat (@fltAr @Go.BinOp.sub y8 (@fltOf (@Option.getD Int (@fltI y8) (0:Int)))) (0:Nat)) (4652007308841189376:Nat)) (0:Nat))) (0:Int)))) 3 (fun y10=>cond (joins (([45]++y9)++[46]) y10) (K ((([45]++y9)++[46])++y10)) none)) none) none)) none) none) none) none))) (wq1r R x0 (fun y8=>cond (@fltIs @Go.BinOp.geq y8 (4845873199050653696:Nat)) (K ([]++[98,105,103])) (cond (@fltIn Go.IntKind.i64 y8) (cond (@Option.isSome Nat (@fltAr @Go.BinOp.sub y8 (@fltOf (@Option.getD Int (@fltI y8) (0:Int))))) (cond (@Option.isSome Nat (@fltAr @Go.BinOp.mul (@Option.getD Nat (@fltAr @Go.BinOp.sub y8 (@fltOf (@Option.getD Int (@fltI y8) (0:Int)))) (0:Nat)) (4652007308841189376:Nat))) (cond (@fltIn Go.IntKind.i64 (@Option.getD Nat (@fltAr @Go.BinOp.mul (@Option.getD Nat (@fltAr @Go.BinOp.sub y8 (@fltOf (@Option.getD Int (@fltI y8) (0:Int)))) (0:Nat)) (4652007308841189376:Nat)) (0:Nat))) (wq1e R (@Option.getD Int (@fltI y8) (0:Int)) (fun y9=>cond (joins [] y9) (cond (joins ([]++y9) [46]) (wq1f R (cond false (@ite (@Kd.T kI) ((999:Int)>(@Option.getD Int (@fltI (@Option.getD Nat (@fltAr @Go.BinOp.mul (@Option.getD Nat (@fltAr @Go.BinOp.sub y8 (@fltOf (@Option.getD Int (@fltI y8) (0:Int)))) (0:Nat)) (4652007308841189376:Nat)) (0:Nat))) (0:Int))) (@Int.decLt (@Option.getD Int (@fltI (@Option.getD Nat (@fltAr @Go.BinOp.mul (@Option.getD Nat (@fltAr @Go.BinOp.sub y8 (@fltOf (@Option.getD Int (@fltI y8) (0:Int)))) (0:Nat)) (4652007308841189376:Nat)) (0:Nat))) (0:Int)) (999:Int)) (999:Int) (@Option.getD Int (@fltI (@Option.getD Nat (@fltAr @Go.BinOp.mul (@Option.getD Nat (@fltAr @Go.BinOp.sub y8 (@fltOf (@Option.getD Int (@fltI y8) (0:Int)))) (0:Nat)) (4652007308841189376:Nat)) (0:Nat))) (0:Int))) (@ite (@Kd.T kI) ((999:Int)<(@Option.getD Int (@fltI (@Option.getD Nat (@fltAr @Go.BinOp.mul (@Option.getD Nat (@fltAr @Go.BinOp.sub y8 (@fltOf (@Option.getD Int (@fltI y8) (0:Int)))) (0:Nat)) (4652007308841189376:Nat)) (0:Nat))) (0:Int))) (@Int.decLt (999:Int) (@Option.getD Int (@fltI (@Option.getD Nat (@fltAr @Go.BinOp.mul (@Option.getD Nat (@fltAr @Go.BinOp.sub y8 (@fltOf (@Option.getD Int (@fltI y8) (0:Int)))) (0:Nat)) (4652007308841189376:Nat)) (0:Nat))) (0:Int))) (999:Int) (@Option.getD Int (@fltI (@Option.getD Nat (@fltAr @Go.BinOp.mul (@Option.getD Nat (@fltAr @Go.BinOp.sub y8 (@fltOf (@Option.getD Int (@fltI y8) (0:Int)))) (0:Nat)) (4652007308841189376:Nat)) (0:Nat))) (0:Int)))) 3 (fun y10=>cond (joins (([]++y9)++[46]) y10) (K ((([]++y9)++[46])++y10)) none)) none) none)) none) none) none) none))))))))))
theorem wq14j(k:Nat)(wq55:wqbe)(wqj:wq34)(wq1r:wq51)(wqbc:wqkf)(wq1e:wq4t)(wq1f:wq4w)(R:Type): h_ratio_Text.at (wqvl k wq55 wqj wq1r wqbc wq1e wq1f) k Tryz.f232 R=@wqvm k wq55 wqj wq1r wqbc wq1e wq1f R:=by kernel_rfl
def wqb6(k:Nat){R:Type}:= @wqvm k (@wq33 k) (@wq32 k) (@wq58 k) (@wqih k) (@wq44 k) (@wq7r k) R
theorem wq14k(k:Nat): DOK Tryz.prog 232 (h_ratio_Text.run (@wqb6 k)):=dok h_ratio_Text (wqvl k (@wq33 k) (@wq32 k) (@wq58 k) (@wqih k) (@wq44 k) (@wq7r k)) Tryz.f232 k (ok1 (wqhv k) (ok1 (wqeq k) (ok1 (wqnw k) (ok1 (wq14g k) (ok1 (wqi0 k) (ok1 (wqvk k) ok0)))))) (by kernel_rfl) (by kernel_rfl) fun R=>wq14j k (@wq33 k) (@wq32 k) (@wq58 k) (@wqih k) (@wq44 k) (@wq7r k) R
def h_ratio_Write:Sh:=⟨[.a .flt],some ([],[.a .str,.a .bool]),none⟩
def u_ratio_Write_1011:Cu:=⟨0,[0,5,6,7],[.a .flt,.a .str,.a .flt,.a kI]⟩
def u_ratio_Write_1015:Cu:=⟨0,[0,5,6,7,8,9],[.a .flt,.a .str,.a .flt,.a kI,.a kI,.a kI]⟩
def wqbh(k:Nat)(wqh:wq2q)(wq1j:wq5m)(wq19:wq4v)(wqj:wq34)(wq1r:wq51)(wq25:wq7h)(wq1e:wq4t)(wq1f:wq4w): Cxt:=⟨[h_ratio_Parse.e 71 wqh,h_ratio_ten.e 121 wq1j,h_ratio_Same.e 140 wq19,h_math_Signbit.e 161 wqj,h_math_Abs.e 172 wq1r,h_ratio_Text.e 232 wq25,h_num_Digits.e 233 wq1e,h_ratio_fill.e 234 wq1f],[],[(1011,u_ratio_Write_1011.spec),(1015,u_ratio_Write_1015.spec)],[]⟩
def wqd7(k:Nat)(wqh:wq2q)(wq1j:wq5m)(wq19:wq4v)(wqj:wq34)(wq1r:wq51)(wq25:wq7h)(wq1e:wq4t)(wq1f:wq4w){R:Type}(E1015:(Nat→(List UInt8)→Nat→Int→Int→Int→Option R))(s0:Nat)(s1:(List UInt8))(s2:Nat)(s3:Int)(K:((List UInt8)→Bool→Option R)): Option R:=cond (decide (s3≤6)) (wq1j R s3 (fun y9=>cond (@Option.isSome Nat (@fltAr @Go.BinOp.mul s2 (@fltOf y9))) (cond (@fltIn Go.IntKind.i64 (@Option.getD Nat (@fltAr @Go.BinOp.mul s2 (@fltOf y9)) (0:Nat))) (E1015 s0 s1 s2 s3 (@Option.getD Int (@fltI (@Option.getD Nat (@fltAr @Go.BinOp.mul s2 (@fltOf y9)) (0:Nat))) (0:Int)) (cond true (@ite (@Kd.T kI) ((0:Int)>(@Go.IntKind.wrap Go.IntKind.i64 ((@Option.getD Int (@fltI (@Option.getD Nat (@fltAr @Go.BinOp.mul s2 (@fltOf y9)) (0:Nat))) (0:Int))-1))) (@Int.decLt (@Go.IntKind.wrap Go.IntKind.i64 ((@Option.getD Int (@fltI (@Option.getD Nat (@fltAr @Go.BinOp.mul s2 (@fltOf y9)) (0:Nat))) (0:Int))-1)) (0:Int)) (0:Int) (@Go.IntKind.wrap Go.IntKind.i64 ((@Option.getD Int (@fltI (@Option.getD Nat (@fltAr @Go.BinOp.mul s2 (@fltOf y9)) (0:Nat))) (0:Int))-1))) (@ite (@Kd.T kI) ((0:Int)<(@Go.IntKind.wrap Go.IntKind.i64 ((@Option.getD Int (@fltI (@Option.getD Nat (@fltAr @Go.BinOp.mul s2 (@fltOf y9)) (0:Nat))) (0:Int))-1))) (@Int.decLt (0:Int) (@Go.IntKind.wrap Go.IntKind.i64 ((@Option.getD Int (@fltI (@Option.getD Nat (@fltAr @Go.BinOp.mul s2 (@fltOf y9)) (0:Nat))) (0:Int))-1))) (0:Int) (@Go.IntKind.wrap Go.IntKind.i64 ((@Option.getD Int (@fltI (@Option.getD Nat (@fltAr @Go.BinOp.mul s2 (@fltOf y9)) (0:Nat))) (0:Int))-1))))) none) none)) (K [] false)
def wqhe(k:Nat)(wqh:wq2q)(wq1j:wq5m)(wq19:wq4v)(wqj:wq34)(wq1r:wq51)(wq25:wq7h)(wq1e:wq4t)(wq1f:wq4w){R:Type}(E1011:(Nat→(List UInt8)→Nat→Int→Option R))(E1015:(Nat→(List UInt8)→Nat→Int→Int→Int→Option R))(s0:Nat)(s1:(List UInt8))(s2:Nat)(s3 s4 s5:Int)(K:((List UInt8)→Bool→Option R)): Option R:=cond (decide (s5≤(@Go.IntKind.wrap Go.IntKind.i64 (s4+1)))) (wq1j R s3 (fun y11=>cond (y11 != 0) (wq1e R (@Go.IntKind.wrap Go.IntKind.i64 (Int.tdiv s5 y11)) (fun y12=>cond (joins s1 y12) (cond (decide (s3>0)) (wq1j R s3 (fun y13=>cond (y13 != 0) (wq1f R (Int.tmod s5 y13) s3 (fun y14=>cond (joins [46] y14) (cond (joins (s1++y12) ([46]++y14)) (wqh R ((s1++y12)++([46]++y14)) (fun y15 y16=>cond (y16 == true) (wq19 R s0 y15 (fun y17=>cond y17 (K ((s1++y12)++([46]++y14)) true) (E1015 s0 s1 s2 s3 s4 (@Go.IntKind.wrap Go.IntKind.i64 (s5+1))))) (E1015 s0 s1 s2 s3 s4 (@Go.IntKind.wrap Go.IntKind.i64 (s5+1))))) none) none)) none)) (wqh R (s1++y12) (fun y13 y14=>cond (y14 == true) (wq19 R s0 y13 (fun y15=>cond y15 (K (s1++y12) true) (E1015 s0 s1 s2 s3 s4 (@Go.IntKind.wrap Go.IntKind.i64 (s5+1))))) (E1015 s0 s1 s2 s3 s4 (@Go.IntKind.wrap Go.IntKind.i64 (s5+1)))))) none)) none)) (E1011 s0 s1 s2 (@Go.IntKind.wrap Go.IntKind.i64 (s3+1)))
def wqkg(k:Nat)(wqh:wq2q)(wq1j:wq5m)(wq19:wq4v)(wqj:wq34)(wq1r:wq51)(wq25:wq7h)(wq1e:wq4t)(wq1f:wq4w){R:Type}(E1011:(Nat→(List UInt8)→Nat→Int→Option R))(x0:Nat)(K:((List UInt8)→Bool→Option R)): Option R:=wq25 R x0 (fun y6=>cond (cond (cond (y6 == [(110:UInt8),97,110]) true (y6 == [(105:UInt8),110,102])) true (y6 == [(45:UInt8),105,110,102])) (K y6 true) (wqj R x0 (fun y7=>cond y7 (wq1r R x0 (fun y8=>wq1j R 9 (fun y9=>cond (@fltIs @Go.BinOp.geq y8 (@fltOf y9)) (K [] false) (E1011 x0 [45] y8 0)))) (wq1r R x0 (fun y8=>wq1j R 9 (fun y9=>cond (@fltIs @Go.BinOp.geq y8 (@fltOf y9)) (K [] false) (E1011 x0 [] y8 0)))))))
def wq80(k:Nat)(wqh:wq2q)(wq1j:wq5m)(wq19:wq4v)(wqj:wq34)(wq1r:wq51)(wq25:wq7h)(wq1e:wq4t)(wq1f:wq4w){R:Type}(J1011:(Nat→(List UInt8)→Nat→Int→Option R)): Nat→Nat→(List UInt8)→Nat→Int→Int→Int→((List UInt8)→Bool→Option R)→Option R
 |0,_,_,_,_,_,_,_=>none
 |n+1,s0,s1,s2,s3,s4,s5,K=>wqhe k wqh wq1j wq19 wqj wq1r wq25 wq1e wq1f J1011 (fun s0 s1 s2 s3 s4 s5=>wq80 k wqh wq1j wq19 wqj wq1r wq25 wq1e wq1f J1011 n s0 s1 s2 s3 s4 s5 K) s0 s1 s2 s3 s4 s5 K
theorem wqlo(k:Nat)(wqh:wq2q)(wq1j:wq5m)(wq19:wq4v)(wqj:wq34)(wq1r:wq51)(wq25:wq7h)(wq1e:wq4t)(wq1f:wq4w){R:Type}: ∀(I:Nat→St→Option R) (n:Nat),h_ratio_Write.lp u_ratio_Write_1015 (wqbh k wqh wq1j wq19 wqj wq1r wq25 wq1e wq1f).cx k Tryz.f201 1015 [1,1,1,1,1,1,0,1,0,0,1,0,0,1,1,0] I n=wq80 k wqh wq1j wq19 wqj wq1r wq25 wq1e wq1f (u_ratio_Write_1011.cur (I 1011)) n:=h_ratio_Write.lokA u_ratio_Write_1015 (fun I J=>wqhe k wqh wq1j wq19 wqj wq1r wq25 wq1e wq1f (u_ratio_Write_1011.cur (I 1011)) J) (fun I=>wq80 k wqh wq1j wq19 wqj wq1r wq25 wq1e wq1f (u_ratio_Write_1011.cur (I 1011))) (fun I f=>by kernel_rfl) (fun I=>by kernel_rfl) (fun I=>by kernel_rfl) (fun I n=>by kernel_rfl) (fun _ _ _ _=>rfl)
def wq9u(k:Nat)(wqh:wq2q)(wq1j:wq5m)(wq19:wq4v)(wqj:wq34)(wq1r:wq51)(wq25:wq7h)(wq1e:wq4t)(wq1f:wq4w){R:Type}: Nat→Nat→(List UInt8)→Nat→Int→((List UInt8)→Bool→Option R)→Option R
 |0,_,_,_,_,_=>none
 |n+1,s0,s1,s2,s3,K=>wqd7 k wqh wq1j wq19 wqj wq1r wq25 wq1e wq1f (fun s0 s1 s2 s3 s4 s5=>wq80 k wqh wq1j wq19 wqj wq1r wq25 wq1e wq1f (fun s0 s1 s2 s3=>wq9u k wqh wq1j wq19 wqj wq1r wq25 wq1e wq1f n s0 s1 s2 s3 K) k s0 s1 s2 s3 s4 s5 K) s0 s1 s2 s3 K
theorem wqlp(k:Nat)(wqh:wq2q)(wq1j:wq5m)(wq19:wq4v)(wqj:wq34)(wq1r:wq51)(wq25:wq7h)(wq1e:wq4t)(wq1f:wq4w){R:Type}: ∀(I:Nat→St→Option R) (n:Nat),h_ratio_Write.lp u_ratio_Write_1011 (wqbh k wqh wq1j wq19 wqj wq1r wq25 wq1e wq1f).cx k Tryz.f201 1011 [1,1,1,1,1,1,0,1,0] I n=wq9u k wqh wq1j wq19 wqj wq1r wq25 wq1e wq1f n:=h_ratio_Write.lokA u_ratio_Write_1011 (fun I J=>h_ratio_Write.glue (l:=u_ratio_Write_1011.fs) (u:=u_ratio_Write_1015.fs) (fun E1015=>wqd7 k wqh wq1j wq19 wqj wq1r wq25 wq1e wq1f E1015) (wq80 k wqh wq1j wq19 wqj wq1r wq25 wq1e wq1f J k)) (fun I=>wq9u k wqh wq1j wq19 wqj wq1r wq25 wq1e wq1f ) (fun I f=>by kernel_rfl) (fun I=>(show _=h_ratio_Write.glue (l:=u_ratio_Write_1011.fs) (u:=u_ratio_Write_1015.fs) (fun E1015=>wqd7 k wqh wq1j wq19 wqj wq1r wq25 wq1e wq1f E1015) (h_ratio_Write.lp u_ratio_Write_1015 (wqbh k wqh wq1j wq19 wqj wq1r wq25 wq1e wq1f).cx k Tryz.f201 1015 [1,1,1,1,1,1,0,1,0,0,1,0,0,1,1,0] I k) by kernel_rfl).trans (by rw[wqlo])) (fun I=>by kernel_rfl) (fun I n=>by kernel_rfl) (fun _ _ _ _=>rfl)
theorem wq120(k:Nat)(wqh:wq2q)(wq1j:wq5m)(wq19:wq4v)(wqj:wq34)(wq1r:wq51)(wq25:wq7h)(wq1e:wq4t)(wq1f:wq4w)(R:Type): h_ratio_Write.at (wqbh k wqh wq1j wq19 wqj wq1r wq25 wq1e wq1f) k Tryz.f201 R=h_ratio_Write.glue (l:=h_ratio_Write.ps) (u:=u_ratio_Write_1011.fs) (fun E1011=>@wqkg k wqh wq1j wq19 wqj wq1r wq25 wq1e wq1f R E1011) (h_ratio_Write.lp u_ratio_Write_1011 (wqbh k wqh wq1j wq19 wqj wq1r wq25 wq1e wq1f).cx k Tryz.f201 1011 [1,1,1,1,1,1,0,1,0] (fun _ _=>none) k):=by kernel_rfl
def wqkh(k:Nat){R:Type}(x0:Nat)(K:((List UInt8)→Bool→Option R)): Option R:=wqkg k (@wq2r k) (@wq64 k) (@wq5r k) (@wq32 k) (@wq58 k) (@wqb6 k) (@wq44 k) (@wq7r k) (fun s0 s1 s2 s3=>wq9u k (@wq2r k) (@wq64 k) (@wq5r k) (@wq32 k) (@wq58 k) (@wqb6 k) (@wq44 k) (@wq7r k) k s0 s1 s2 s3 K) x0 K
theorem wq121(k:Nat): DOK Tryz.prog 201 (h_ratio_Write.run (@wqkh k)):=dok h_ratio_Write (wqbh k (@wq2r k) (@wq64 k) (@wq5r k) (@wq32 k) (@wq58 k) (@wqb6 k) (@wq44 k) (@wq7r k)) Tryz.f201 k (ok1 (wqjw k) (ok1 (wqxw k) (ok1 (wqn5 k) (ok1 (wqeq k) (ok1 (wqnw k) (ok1 (wq14k k) (ok1 (wqi0 k) (ok1 (wqvk k) ok0)))))))) (by kernel_rfl) (by kernel_rfl) fun R=>h_ratio_Write.f1 u_ratio_Write_1011 (wqkg k (@wq2r k) (@wq64 k) (@wq5r k) (@wq32 k) (@wq58 k) (@wqb6 k) (@wq44 k) (@wq7r k)) (wq120 k (@wq2r k) (@wq64 k) (@wq5r k) (@wq32 k) (@wq58 k) (@wqb6 k) (@wq44 k) (@wq7r k) R) (wqlp k (@wq2r k) (@wq64 k) (@wq5r k) (@wq32 k) (@wq58 k) (@wqb6 k) (@wq44 k) (@wq7r k) (fun _ _=>none) k) (by kernel_rfl)
def wq122(k:Nat): Ent:=h_ratio_Write.e 201 (@wqkh k)
def h_rule_near:Sh:=⟨[.a .flt],some ([],[.a .bool]),none⟩
abbrev wqn6:Type 1:=(R:Type)→Nat→(Bool→Option R)→Option R
def wq17y(k:Nat): Cxt:=⟨[wqrr k,wq122 k],[],[],[]⟩
def wq17z(k:Nat){R:Type}(x0:Nat)(K:(Bool→Option R)): Option R:=wqkh k x0 (fun y4 y5=>cond (y5 == true) (wqdz k x0 0 (fun y6=>cond ((decide (y6≥0)) == true) (wqdz k x0 4607182418800017408 (fun y7=>K (decide (y7≤0)))) (K false))) (K false))
def wql8:=@wq17z
theorem wq180(k:Nat): DOK Tryz.prog 163 (h_rule_near.run (@wql8 k)):=dok h_rule_near (wq17y k) Tryz.f163 k (ok1 (wqrq k) (ok1 (wq121 k) ok0)) (by kernel_rfl) (by kernel_rfl) fun R=>by kernel_rfl
def h_unit_Secs:Sh:=⟨[.a kI],some ([],[.a kI]),none⟩
abbrev wqn7:Type 1:=(R:Type)→Int→(Int→Option R)→Option R
def wq181(k:Nat): Cxt:=⟨[],[],[],[]⟩
def wq182(k:Nat){R:Type}(x0:Int)(K:(Int→Option R)): Option R:=cond (cond (decide (x0<1)) true (decide (x0>4))) (K 0) (cond (inb x0 (([(0:Int),1,60,3600,86400]).length:Int)) (K (([(0:Int),1,60,3600,86400]).getD x0.toNat kI.zero)) none)
def wql9:=@wq182
theorem wq183(k:Nat): DOK Tryz.prog 162 (h_unit_Secs.run (@wql9 k)):=dok h_unit_Secs (wq181 k) Tryz.f162 k ok0 (by kernel_rfl) (by kernel_rfl) fun R=>by kernel_rfl
def h_rule_Check:Sh:=⟨[.g [.a .str,.a kI,.a kI,.a .flt,.a .bool,.a .bool]],some ([],[.a kI]),none⟩
def wqvn(k:Nat)(wqbl:wqml)(wq19:wq4v)(wqex:wqn7)(wqey:wqn6): Cxt:=⟨[h_desc_Name.e 33 wqbl,h_ratio_Same.e 140 wq19,h_unit_Secs.e 162 wqex,h_rule_near.e 163 wqey],[],[],[]⟩
def wqvo(k:Nat)(wqbl:wqml)(wq19:wq4v)(wqex:wqn7)(wqey:wqn6){R:Type}(x0:(List UInt8))(x1 x2:Int)(x3:Nat)(x4 x5:Bool)(K:(Int→Option R)): Option R:=wqex R x1 (fun y9=>cond ((cond (cond (decide (y9>0)) (decide (x2≥0)) false) (decide (x2≤4294967295)) false) == true) (wqey R x3 (fun y10=>cond x5 (cond ((cond (x1 == 0) (x2 == 0) false) == true) (wq19 R x3 0 (fun y11=>cond ((!y11) == false) (cond ((!(x0 == [])) == true) (wqbl R x0 (fun y12=>cond (!y12) (K 1) (K 0))) (K 0)) (K 1))) (K 1)) (cond ((!y10) == false) (cond ((!(x0 == [])) == true) (wqbl R x0 (fun y11=>cond (!y11) (K 1) (K 0))) (K 0)) (K 1)))) (cond x5 (cond ((cond (x1 == 0) (x2 == 0) false) == true) (wq19 R x3 0 (fun y10=>cond ((!y10) == false) (cond ((!(x0 == [])) == true) (wqbl R x0 (fun y11=>cond (!y11) (K 1) (K 0))) (K 0)) (K 1))) (K 1)) (K 1)))
theorem wq14l(k:Nat)(wqbl:wqml)(wq19:wq4v)(wqex:wqn7)(wqey:wqn6)(R:Type): h_rule_Check.at (wqvn k wqbl wq19 wqex wqey) k Tryz.f109 R=@wqvo k wqbl wq19 wqex wqey R:=by kernel_rfl
def wqn8(k:Nat){R:Type}:= @wqvo k (@wq8u k) (@wq5r k) (@wql9 k) (@wql8 k) R
theorem wq14m(k:Nat): DOK Tryz.prog 109 (h_rule_Check.run (@wqn8 k)):=dok h_rule_Check (wqvn k (@wq8u k) (@wq5r k) (@wql9 k) (@wql8 k)) Tryz.f109 k (ok1 (wql0 k) (ok1 (wqn5 k) (ok1 (wq183 k) (ok1 (wq180 k) ok0)))) (by kernel_rfl) (by kernel_rfl) fun R=>wq14l k (@wq8u k) (@wq5r k) (@wql9 k) (@wql8 k) R
def wq14n(k:Nat): Ent:=h_rule_Check.e 109 (@wqn8 k)
def h_rule_Same:Sh:=⟨[.g [.a .str,.a kI,.a kI,.a .flt,.a .bool,.a .bool],.g [.a .str,.a kI,.a kI,.a .flt,.a .bool,.a .bool]],some ([],[.a .bool]),none⟩
def wq184(k:Nat): Cxt:=⟨[wq14d k],[],[],[]⟩
def wq185(k:Nat){R:Type}(x0:(List UInt8))(x1 x2:Int)(x3:Nat)(x4 x5:Bool)(x6:(List UInt8))(x7 x8:Int)(x9:Nat)(x10 x11:Bool)(K:(Bool→Option R)): Option R:=wq5r k x3 x9 (fun y15=>K (cond y15 ((x0 == x6)&&((x1 == x7)&&((x2 == x8)&&((@fltIs @Go.BinOp.eql (0:Nat) (0:Nat))&&((x4 == x10)&&(x5 == x11)))))) false))
def wqla:=@wq185
theorem wqy7(k:Nat): DOK Tryz.prog 92 (h_rule_Same.run (@wqla k)):=dok h_rule_Same (wq184 k) Tryz.f92 k (ok1 (wqn5 k) ok0) (by kernel_rfl) (by kernel_rfl) fun R=>by kernel_rfl
def wqy8(k:Nat): Ent:=h_rule_Same.e 92 (@wqla k)
def h_config_may:Sh:=⟨[.g [.a .str,.a .str,.a .bool,.a kI,.a kI,.a .bool,.a .str,.a kI,.a kI,.a .flt,.a .bool,.a .bool,.s kI],.a kI,.a kI],some ([],[.a .bool]),none⟩
def wq14o(k:Nat): Cxt:=⟨[wqq7 k,wqy8 k,wq14n k],[],[],[]⟩
def wq14p(k:Nat){R:Type}(x0 x1:(List UInt8))(x2:Bool)(x3 x4:Int)(x5:Bool)(x6:(List UInt8))(x7 x8:Int)(x9:Nat)(x10 x11:Bool)(x12:(List Int))(x13 x14:Int)(K:(Bool→Option R)): Option R:=cond ((cond (x3 != x13) true (x4 != x14)) == false) (wq8u k x0 (fun y18=>cond (cond (cond (!y18) true (decide ((x1.length:Int)>128))) true (cond x2 (!(x1 == [])) false)) (K false) (cond x5 (wqn8 k x6 x7 x8 x9 x10 x11 (fun y19=>K (y19 == 0))) (wqla k x6 x7 x8 x9 x10 x11 [] 0 0 0 false false K)))) (K false)
def wqn9:=@wq14p
theorem wq14q(k:Nat): DOK Tryz.prog 64 (h_config_may.run (@wqn9 k)):=dok h_config_may (wq14o k) Tryz.f64 k (ok1 (wql0 k) (ok1 (wqy7 k) (ok1 (wq14m k) ok0))) (by kernel_rfl) (by kernel_rfl) fun R=>by kernel_rfl
def wq14r(k:Nat): Ent:=h_config_may.e 64 (@wqn9 k)
def h_config_walk_1:Sh:=⟨[.a kI,.o 11 27 0 [.s (.pr .str (.sl kI)),.s kdT56],.o 12 57 0 [.a .str,.a .str,.a .bool,.a kI,.a kI,.a .bool,.a .str,.a kI,.a kI,.a .flt,.a .bool,.a .bool,.s kI]],some ([.o 11 27 0 [.s (.pr .str (.sl kI)),.s kdT56],.o 12 57 0 [.a .str,.a .str,.a .bool,.a kI,.a kI,.a .bool,.a .str,.a kI,.a kI,.a .flt,.a .bool,.a .bool,.s kI]],[.a .bool]),none⟩
def wqwy(k:Nat): Cxt:=⟨[wqjy k],[11,12],[],[(1,(.of [(0,1),(2,1),(1,1),(3,1),(4,1),(5,1),(6,0),(7,1)] .done))]⟩
def wqwz(k:Nat){R:Type}(x0:Int)(x1:(List ((List UInt8)×(List Int))))(x2:(List dT56))(x3 x4:(List UInt8))(x5:Bool)(x6 x7:Int)(x8:Bool)(x9:(List UInt8))(x10 x11:Int)(x12:Nat)(x13 x14:Bool)(x15:(List Int))(K:((List ((List UInt8)×(List Int)))→(List dT56)→(List UInt8)→(List UInt8)→Bool→Int→Int→Bool→(List UInt8)→Int→Int→Nat→Bool→Bool→(List Int)→Bool→Option R)): Option R:=cond (inb x0 (x2.length:Int)) (wqdn k (x2.getD x0.toNat kdT56.zero).1 ((x2.getD x0.toNat kdT56.zero).2).1 (((x2.getD x0.toNat kdT56.zero).2).2).1 ((((x2.getD x0.toNat kdT56.zero).2).2).2).1 (((((x2.getD x0.toNat kdT56.zero).2).2).2).2).1 ((((((x2.getD x0.toNat kdT56.zero).2).2).2).2).2).1 ((((((((x2.getD x0.toNat kdT56.zero).2).2).2).2).2).2).1).1 (((((((((x2.getD x0.toNat kdT56.zero).2).2).2).2).2).2).1).2).1 ((((((((((x2.getD x0.toNat kdT56.zero).2).2).2).2).2).2).1).2).2).1 (((((((((((x2.getD x0.toNat kdT56.zero).2).2).2).2).2).2).1).2).2).2).1 ((((((((((((x2.getD x0.toNat kdT56.zero).2).2).2).2).2).2).1).2).2).2).2).1 ((((((((((((x2.getD x0.toNat kdT56.zero).2).2).2).2).2).2).1).2).2).2).2).2 (((((((x2.getD x0.toNat kdT56.zero).2).2).2).2).2).2).2 x3 x4 x5 x6 x7 x8 x9 x10 x11 x12 x13 x14 x15 (fun y19=>K x1 x2 x3 x4 x5 x6 x7 x8 x9 x10 x11 x12 x13 x14 x15 y19)) none
def wqgr:=@wqwz
theorem wqx0(k:Nat): DOK Tryz.prog 66 (h_config_walk_1.run (@wqgr k)):=dok h_config_walk_1 (wqwy k) Tryz.f66 k (ok1 (wqjx k) ok0) (by kernel_rfl) (by kernel_rfl) fun R=>by kernel_rfl
def wqx1(k:Nat): Ent:=h_config_walk_1.e 66 (@wqgr k)
def h_slices_IndexFunc___int_int_walk:Sh:=⟨[.s kI,.c 66 [.o 300 27 0 [.s (.pr .str (.sl kI)),.s kdT56],.o 301 57 0 [.a .str,.a .str,.a .bool,.a kI,.a kI,.a .bool,.a .str,.a kI,.a kI,.a .flt,.a .bool,.a .bool,.s kI]]],some ([.o 300 27 0 [.s (.pr .str (.sl kI)),.s kdT56],.o 301 57 0 [.a .str,.a .str,.a .bool,.a kI,.a kI,.a .bool,.a .str,.a kI,.a kI,.a .flt,.a .bool,.a .bool,.s kI]],[.a kI]),none⟩
def u_slices_IndexFunc___int_int_walk_1002:Cu:=⟨2,[0,1,7,8],[.o 300 27 0 [.s (.pr .str (.sl kI)),.s kdT56],.o 301 57 0 [.a .str,.a .str,.a .bool,.a kI,.a kI,.a .bool,.a .str,.a kI,.a kI,.a .flt,.a .bool,.a .bool,.s kI],.s kI,.c 66 [.r 300 0,.r 301 0],.a kI,.a kI]⟩
def wq7w(k:Nat): Cxt:=⟨[wqx1 k],[300,301],[(1002,u_slices_IndexFunc___int_int_walk_1002.spec)],[]⟩
def wq5u(k:Nat){R:Type}(E1002:((List ((List UInt8)×(List Int)))→(List dT56)→(List UInt8)→(List UInt8)→Bool→Int→Int→Bool→(List UInt8)→Int→Int→Nat→Bool→Bool→(List Int)→(List Int)→Int→Int→Option R))(s0:(List ((List UInt8)×(List Int))))(s1:(List dT56))(s2 s3:(List UInt8))(s4:Bool)(s5 s6:Int)(s7:Bool)(s8:(List UInt8))(s9 s10:Int)(s11:Nat)(s12 s13:Bool)(s14 s15:(List Int))(s16 s17:Int)(K:((List ((List UInt8)×(List Int)))→(List dT56)→(List UInt8)→(List UInt8)→Bool→Int→Int→Bool→(List UInt8)→Int→Int→Nat→Bool→Bool→(List Int)→Int→Option R)): Option R:=cond (decide (s17<s16)) (cond (inb s17 (s15.length:Int)) (wqgr k (s15.getD s17.toNat kI.zero) s0 s1 s2 s3 s4 s5 s6 s7 s8 s9 s10 s11 s12 s13 s14 (fun y22 y23 y24 y25 y26 y27 y28 y29 y30 y31 y32 y33 y34 y35 y36 y37=>cond y37 (K y22 y23 y24 y25 y26 y27 y28 y29 y30 y31 y32 y33 y34 y35 y36 s17) (E1002 y22 y23 y24 y25 y26 y27 y28 y29 y30 y31 y32 y33 y34 y35 y36 s15 s16 (@Go.IntKind.wrap Go.IntKind.i64 (s17+1))))) none) (K s0 s1 s2 s3 s4 s5 s6 s7 s8 s9 s10 s11 s12 s13 s14 (@Neg.neg Int @Int.instNegInt (1:Int)))
def wq7x(k:Nat){R:Type}(E1002:((List ((List UInt8)×(List Int)))→(List dT56)→(List UInt8)→(List UInt8)→Bool→Int→Int→Bool→(List UInt8)→Int→Int→Nat→Bool→Bool→(List Int)→(List Int)→Int→Int→Option R))(x0:(List Int))(x1:(List ((List UInt8)×(List Int))))(x2:(List dT56))(x3 x4:(List UInt8))(x5:Bool)(x6 x7:Int)(x8:Bool)(x9:(List UInt8))(x10 x11:Int)(x12:Nat)(x13 x14:Bool)(x15:(List Int))(K:((List ((List UInt8)×(List Int)))→(List dT56)→(List UInt8)→(List UInt8)→Bool→Int→Int→Bool→(List UInt8)→Int→Int→Nat→Bool→Bool→(List Int)→Int→Option R)): Option R:=E1002 x1 x2 x3 x4 x5 x6 x7 x8 x9 x10 x11 x12 x13 x14 x15 x0 (x0.length:Int) 0
def wq36(k:Nat){R:Type}: Nat→(List ((List UInt8)×(List Int)))→(List dT56)→(List UInt8)→(List UInt8)→Bool→Int→Int→Bool→(List UInt8)→Int→Int→Nat→Bool→Bool→(List Int)→(List Int)→Int→Int→((List ((List UInt8)×(List Int)))→(List dT56)→(List UInt8)→(List UInt8)→Bool→Int→Int→Bool→(List UInt8)→Int→Int→Nat→Bool→Bool→(List Int)→Int→Option R)→Option R
 |0,_,_,_,_,_,_,_,_,_,_,_,_,_,_,_,_,_,_,_=>none
 |n+1,s0,s1,s2,s3,s4,s5,s6,s7,s8,s9,s10,s11,s12,s13,s14,s15,s16,s17,K=>wq5u k (fun s0 s1 s2 s3 s4 s5 s6 s7 s8 s9 s10 s11 s12 s13 s14 s15 s16 s17=>wq36 k n s0 s1 s2 s3 s4 s5 s6 s7 s8 s9 s10 s11 s12 s13 s14 s15 s16 s17 K) s0 s1 s2 s3 s4 s5 s6 s7 s8 s9 s10 s11 s12 s13 s14 s15 s16 s17 K
theorem wq96(k:Nat){R:Type}: ∀(I:Nat→St→Option R) (n:Nat),h_slices_IndexFunc___int_int_walk.lp u_slices_IndexFunc___int_int_walk_1002 (wq7w k).cx k Tryz.f110 1002 [1,0,1,0] I n=wq36 k n:=h_slices_IndexFunc___int_int_walk.lok u_slices_IndexFunc___int_int_walk_1002 (B:=wq5u k) (L:=wq36 k) (fun I=>by kernel_rfl) (fun I=>by kernel_rfl) (fun n=>by kernel_rfl) (fun _ _ _ _=>rfl)
def wq4y(k:Nat){R:Type}(x0:(List Int))(x1:(List ((List UInt8)×(List Int))))(x2:(List dT56))(x3 x4:(List UInt8))(x5:Bool)(x6 x7:Int)(x8:Bool)(x9:(List UInt8))(x10 x11:Int)(x12:Nat)(x13 x14:Bool)(x15:(List Int))(K:((List ((List UInt8)×(List Int)))→(List dT56)→(List UInt8)→(List UInt8)→Bool→Int→Int→Bool→(List UInt8)→Int→Int→Nat→Bool→Bool→(List Int)→Int→Option R)): Option R:=wq7x k (fun s0 s1 s2 s3 s4 s5 s6 s7 s8 s9 s10 s11 s12 s13 s14 s15 s16 s17=>wq36 k k s0 s1 s2 s3 s4 s5 s6 s7 s8 s9 s10 s11 s12 s13 s14 s15 s16 s17 K) x0 x1 x2 x3 x4 x5 x6 x7 x8 x9 x10 x11 x12 x13 x14 x15 K
theorem wqci(k:Nat): DOK Tryz.prog 110 (h_slices_IndexFunc___int_int_walk.run (@wq4y k)):=dok h_slices_IndexFunc___int_int_walk (wq7w k) Tryz.f110 k (ok1 (wqx0 k) ok0) (by kernel_rfl) (by kernel_rfl) fun R=>h_slices_IndexFunc___int_int_walk.f1 u_slices_IndexFunc___int_int_walk_1002 (wq7x k) (by kernel_rfl) (wq96 k (fun _ _=>none) k) (by kernel_rfl)
def wqcj(k:Nat): Ent:=h_slices_IndexFunc___int_int_walk.e 110 (@wq4y k)
def h_slices_ContainsFunc___int_int_walk:Sh:=⟨[.s kI,.c 66 [.o 300 27 0 [.s (.pr .str (.sl kI)),.s kdT56],.o 301 57 0 [.a .str,.a .str,.a .bool,.a kI,.a kI,.a .bool,.a .str,.a kI,.a kI,.a .flt,.a .bool,.a .bool,.s kI]]],some ([.o 300 27 0 [.s (.pr .str (.sl kI)),.s kdT56],.o 301 57 0 [.a .str,.a .str,.a .bool,.a kI,.a kI,.a .bool,.a .str,.a kI,.a kI,.a .flt,.a .bool,.a .bool,.s kI]],[.a .bool]),none⟩
def wqb7(k:Nat): Cxt:=⟨[wqcj k],[300,301],[],[]⟩
def wqb8(k:Nat){R:Type}(x0:(List Int))(x1:(List ((List UInt8)×(List Int))))(x2:(List dT56))(x3 x4:(List UInt8))(x5:Bool)(x6 x7:Int)(x8:Bool)(x9:(List UInt8))(x10 x11:Int)(x12:Nat)(x13 x14:Bool)(x15:(List Int))(K:((List ((List UInt8)×(List Int)))→(List dT56)→(List UInt8)→(List UInt8)→Bool→Int→Int→Bool→(List UInt8)→Int→Int→Nat→Bool→Bool→(List Int)→Bool→Option R)): Option R:=wq4y k x0 x1 x2 x3 x4 x5 x6 x7 x8 x9 x10 x11 x12 x13 x14 x15 (fun y19 y20 y21 y22 y23 y24 y25 y26 y27 y28 y29 y30 y31 y32 y33 y34=>K y19 y20 y21 y22 y23 y24 y25 y26 y27 y28 y29 y30 y31 y32 y33 (decide (y34≥0)))
def wq48:=@wqb8
theorem wqb9(k:Nat): DOK Tryz.prog 65 (h_slices_ContainsFunc___int_int_walk.run (@wq48 k)):=dok h_slices_ContainsFunc___int_int_walk (wqb7 k) Tryz.f65 k (ok1 (wqci k) ok0) (by kernel_rfl) (by kernel_rfl) fun R=>by kernel_rfl
def wqba(k:Nat): Ent:=h_slices_ContainsFunc___int_int_walk.e 65 (@wq48 k)
def h_config_walk:Sh:=⟨[.g [.s (.pr .str (.sl kI)),.s kdT56],.s kI,.a kI,.a kI,.a kI,.a kI],some ([],[.a kI]),none⟩
abbrev wq8g:Type 1:=(R:Type)→(List ((List UInt8)×(List Int)))→(List dT56)→(List Int)→Int→Int→Int→Int→(Int→Option R)→Option R
def u_config_walk_1002:Cu:=⟨0,[1,2,3,4,5,6,16,17,18],[.s kI,.a kI,.a kI,.a kI,.a kI,.o 16 27 0 [.s (.pr .str (.sl kI)),.s kdT56],.s kI,.a kI,.a kI]⟩
def wqg6(k:Nat)(wq3f:wq8g): Cxt:=⟨[h_config_walk.e 34 wq3f,wq14r k,wqba k],[],[(1002,u_config_walk_1002.spec)],[]⟩
def wqhf(k:Nat)(wq3f:wq8g){R:Type}(E1002:((List Int)→Int→Int→Int→Int→(List ((List UInt8)×(List Int)))→(List dT56)→(List Int)→Int→Int→Option R))(s0:(List Int))(s1 s2 s3 s4:Int)(s5:(List ((List UInt8)×(List Int))))(s6:(List dT56))(s7:(List Int))(s8 s9:Int)(K:(Int→Option R)): Option R:=cond (decide (s9<s8)) (cond (inb s9 (s7.length:Int)) (cond ((!((cond (cond ((s7.getD s9.toNat kI.zero) != s3) true (decide ((s7.getD s9.toNat kI.zero)≥(s6.length:Int)))) true (decide (s4>8))) == false)) || (inb (s7.getD s9.toNat kI.zero) (s6.length:Int))) (cond ((cond (cond ((s7.getD s9.toNat kI.zero) != s3) true (decide ((s7.getD s9.toNat kI.zero)≥(s6.length:Int)))) true (decide (s4>8))) == false) (wqn9 k (s6.getD (s7.getD s9.toNat kI.zero).toNat kdT56.zero).1 ((s6.getD (s7.getD s9.toNat kI.zero).toNat kdT56.zero).2).1 (((s6.getD (s7.getD s9.toNat kI.zero).toNat kdT56.zero).2).2).1 ((((s6.getD (s7.getD s9.toNat kI.zero).toNat kdT56.zero).2).2).2).1 (((((s6.getD (s7.getD s9.toNat kI.zero).toNat kdT56.zero).2).2).2).2).1 ((((((s6.getD (s7.getD s9.toNat kI.zero).toNat kdT56.zero).2).2).2).2).2).1 ((((((((s6.getD (s7.getD s9.toNat kI.zero).toNat kdT56.zero).2).2).2).2).2).2).1).1 (((((((((s6.getD (s7.getD s9.toNat kI.zero).toNat kdT56.zero).2).2).2).2).2).2).1).2).1 ((((((((((s6.getD (s7.getD s9.toNat kI.zero).toNat kdT56.zero).2).2).2).2).2).2).1).2).2).1 (((((((((((s6.getD (s7.getD s9.toNat kI.zero).toNat kdT56.zero).2).2).2).2).2).2).1).2).2).2).1 ((((((((((((s6.getD (s7.getD s9.toNat kI.zero).toNat kdT56.zero).2).2).2).2).2).2).1).2).2).2).2).1 ((((((((((((s6.getD (s7.getD s9.toNat kI.zero).toNat kdT56.zero).2).2).2).2).2).2).1).2).2).2).2).2 (((((((s6.getD (s7.getD s9.toNat kI.zero).toNat kdT56.zero).2).2).2).2).2).2).2 s1 s2 (fun y14=>cond (!y14) (K (@Neg.neg Int @Int.instNegInt (1:Int))) (cond (inb (s7.getD s9.toNat kI.zero) (s6.length:Int)) (cond (bnd 0 s9 (s0.length:Int)) (wq48 k (cut s0 0 s9) s5 s6 (s6.getD (s7.getD s9.toNat kI.zero).toNat kdT56.zero).1 ((s6.getD (s7.getD s9.toNat kI.zero).toNat kdT56.zero).2).1 (((s6.getD (s7.getD s9.toNat kI.zero).toNat kdT56.zero).2).2).1 ((((s6.getD (s7.getD s9.toNat kI.zero).toNat kdT56.zero).2).2).2).1 (((((s6.getD (s7.getD s9.toNat kI.zero).toNat kdT56.zero).2).2).2).2).1 ((((((s6.getD (s7.getD s9.toNat kI.zero).toNat kdT56.zero).2).2).2).2).2).1 ((((((((s6.getD (s7.getD s9.toNat kI.zero).toNat kdT56.zero).2).2).2).2).2).2).1).1 (((((((((s6.getD (s7.getD s9.toNat kI.zero).toNat kdT56.zero).2).2).2).2).2).2).1).2).1 ((((((((((s6.getD (s7.getD s9.toNat kI.zero).toNat kdT56.zero).2).2).2).2).2).2).1).2).2).1 (((((((((((s6.getD (s7.getD s9.toNat kI.zero).toNat kdT56.zero).2).2).2).2).2).2).1).2).2).2).1 ((((((((((((s6.getD (s7.getD s9.toNat kI.zero).toNat kdT56.zero).2).2).2).2).2).2).1).2).2).2).2).1 ((((((((((((s6.getD (s7.getD s9.toNat kI.zero).toNat kdT56.zero).2).2).2).2).2).2).1).2).2).2).2).2 (((((((s6.getD (s7.getD s9.toNat kI.zero).toNat kdT56.zero).2).2).2).2).2).2).2 (fun y15 y16 y17 y18 y19 y20 y21 y22 y23 y24 y25 y26 y27 y28 y29 y30=>cond y30 (K (@Neg.neg Int @Int.instNegInt (1:Int))) (wq3f R y15 y16 y29 s1 (s7.getD s9.toNat kI.zero) (@Go.IntKind.wrap Go.IntKind.i64 ((s7.getD s9.toNat kI.zero)+1)) (@Go.IntKind.wrap Go.IntKind.i64 (s4+1)) (fun y31=>cond (decide (y31<0)) (K (@Neg.neg Int @Int.instNegInt (1:Int))) (E1002 s0 s1 s2 y31 s4 y15 y16 s7 s8 (@Go.IntKind.wrap Go.IntKind.i64 (s9+1))))))) none) none))) (K (@Neg.neg Int @Int.instNegInt (1:Int)))) none) none) (K s3)
def wqki(k:Nat)(wq3f:wq8g){R:Type}(E1002:((List Int)→Int→Int→Int→Int→(List ((List UInt8)×(List Int)))→(List dT56)→(List Int)→Int→Int→Option R))(x0:(List ((List UInt8)×(List Int))))(x1:(List dT56))(x2:(List Int))(x3 x4 x5 x6:Int)(K:(Int→Option R)): Option R:=E1002 x2 x3 x4 x5 x6 x0 x1 x2 (x2.length:Int) 0
def wq9v(k:Nat)(wq3f:wq8g){R:Type}: Nat→(List Int)→Int→Int→Int→Int→(List ((List UInt8)×(List Int)))→(List dT56)→(List Int)→Int→Int→(Int→Option R)→Option R
 |0,_,_,_,_,_,_,_,_,_,_,_=>none
 |n+1,s0,s1,s2,s3,s4,s5,s6,s7,s8,s9,K=>wqhf k wq3f (fun s0 s1 s2 s3 s4 s5 s6 s7 s8 s9=>wq9v k wq3f n s0 s1 s2 s3 s4 s5 s6 s7 s8 s9 K) s0 s1 s2 s3 s4 s5 s6 s7 s8 s9 K
theorem wqlq(k:Nat)(wq3f:wq8g){R:Type}: ∀(I:Nat→St→Option R) (n:Nat),h_config_walk.lp u_config_walk_1002 (wqg6 k wq3f).cx k Tryz.f34 1002 [1,0,1,0] I n=wq9v k wq3f n:=h_config_walk.lok u_config_walk_1002 (B:=wqhf k wq3f) (L:=wq9v k wq3f) (fun I=>by kernel_rfl) (fun I=>by kernel_rfl) (fun n=>by kernel_rfl) (fun _ _ _ _=>rfl)
theorem wq123(k:Nat)(wq3f:wq8g)(R:Type): h_config_walk.at (wqg6 k wq3f) k Tryz.f34 R=h_config_walk.glue (l:=h_config_walk.ps) (u:=u_config_walk_1002.fs) (fun E1002=>@wqki k wq3f R E1002) (h_config_walk.lp u_config_walk_1002 (wqg6 k wq3f).cx k Tryz.f34 1002 [1,0,1,0] (fun _ _=>none) k):=by kernel_rfl
def wq7i:Nat→wq8g
 |0,_,_,_,_,_,_,_,_,_=>none
 |k+1,R,x0,x1,x2,x3,x4,x5,x6,K=>wqki k (wq7i k) (fun s0 s1 s2 s3 s4 s5 s6 s7 s8 s9=>wq9v k (wq7i k) k s0 s1 s2 s3 s4 s5 s6 s7 s8 s9 K) x0 x1 x2 x3 x4 x5 x6 K
def wqkj(k:Nat){R:Type}(x0:(List ((List UInt8)×(List Int))))(x1:(List dT56))(x2:(List Int))(x3 x4 x5 x6:Int)(K:(Int→Option R)): Option R:=wq7i k R x0 x1 x2 x3 x4 x5 x6 K
theorem wqzp(k:Nat): DOK Tryz.prog 34 (h_config_walk.run (wq7i k)):=by
 induction k with
 |zero=>exact h_config_walk.ok0 fun R=>by kernel_rfl
 |succ k ih =>
  have ih_config_walk:=ih
  exact dok h_config_walk (wqg6 k (wq7i k)) Tryz.f34 k (ok1 ih_config_walk (ok1 (wq14q k) (ok1 (wqb9 k) ok0))) (by kernel_rfl) (by kernel_rfl) fun R=>h_config_walk.f1 u_config_walk_1002 (wqki k (wq7i k)) (wq123 k (wq7i k) R) (wqlq k (wq7i k) (fun _ _=>none) k) (by kernel_rfl)
theorem wq124(k:Nat): DOK Tryz.prog 34 (h_config_walk.run (@wqkj k)):=(wqzp k)
def wq125(k:Nat): Ent:=h_config_walk.e 34 (@wqkj k)
def h_config_Check:Sh:=⟨[.g [.s (.pr .str (.sl kI)),.s kdT56]],some ([],[.a kI]),none⟩
abbrev wqgs:Type 1:=(R:Type)→(List ((List UInt8)×(List Int)))→(List dT56)→(Int→Option R)→Option R
def u_config_Check_1006:Cu:=⟨0,[1,3,4,25,26,27],[.o 11 27 0 [.s (.pr .str (.sl kI)),.s kdT56],.m 73 .one .bool,.a kI,.s (.pr .str (.sl kI)),.a kI,.a kI]⟩
def wqou(k:Nat): Cxt:=⟨[wqq7 k,wq125 k],[],[(1006,u_config_Check_1006.spec)],[]⟩
def wqg7(k:Nat){R:Type}(E1006:((List ((List UInt8)×(List Int)))→(List dT56)→(List (List UInt8×Bool))→Int→(List ((List UInt8)×(List Int)))→Int→Int→Option R))(s0:(List ((List UInt8)×(List Int))))(s1:(List dT56))(s2:(List (List UInt8×Bool)))(s3:Int)(s4:(List ((List UInt8)×(List Int))))(s5 s6:Int)(K:(Int→Option R)): Option R:=cond (decide (s6<s5)) (cond (inb s6 (s4.length:Int)) (cond ((mget Kd.bool (s4.getD s6.toNat (Kd.zero (@Kd.pr Kd.str (@Kd.sl kI)))).1 s2) == false) (wq8u k (s4.getD s6.toNat (Kd.zero (@Kd.pr Kd.str (@Kd.sl kI)))).1 (fun y11=>cond (!y11) (K 1) (wqkj k s0 s1 (s4.getD s6.toNat (Kd.zero (@Kd.pr Kd.str (@Kd.sl kI)))).2 s6 (@Neg.neg Int @Int.instNegInt (1:Int)) s3 1 (fun y12=>cond (decide (y12<0)) (K 1) (E1006 s0 s1 (mset Kd.bool (s4.getD s6.toNat (Kd.zero (@Kd.pr Kd.str (@Kd.sl kI)))).1 true s2) y12 s4 s5 (@Go.IntKind.wrap Go.IntKind.i64 (s6+1))))))) (K 1)) none) (cond (s3 != (s1.length:Int)) (K 1) (K 0))
def wqov(k:Nat){R:Type}(E1006:((List ((List UInt8)×(List Int)))→(List dT56)→(List (List UInt8×Bool))→Int→(List ((List UInt8)×(List Int)))→Int→Int→Option R))(x0:(List ((List UInt8)×(List Int))))(x1:(List dT56))(K:(Int→Option R)): Option R:=cond (cond (cond (decide ((x0.length:Int)<1)) true (decide ((x0.length:Int)>16))) true (decide ((x1.length:Int)>500))) (K 1) (E1006 x0 x1 [] 0 x0 (x0.length:Int) 0)
def wq94(k:Nat){R:Type}: Nat→(List ((List UInt8)×(List Int)))→(List dT56)→(List (List UInt8×Bool))→Int→(List ((List UInt8)×(List Int)))→Int→Int→(Int→Option R)→Option R
 |0,_,_,_,_,_,_,_,_=>none
 |n+1,s0,s1,s2,s3,s4,s5,s6,K=>wqg7 k (fun s0 s1 s2 s3 s4 s5 s6=>wq94 k n s0 s1 s2 s3 s4 s5 s6 K) s0 s1 s2 s3 s4 s5 s6 K
theorem wqkk(k:Nat){R:Type}: ∀(I:Nat→St→Option R) (n:Nat),h_config_Check.lp u_config_Check_1006 (wqou k).cx k Tryz.f14 1006 [1,1,1,1,0,1,0] I n=wq94 k n:=h_config_Check.lok u_config_Check_1006 (B:=wqg7 k) (L:=wq94 k) (fun I=>by kernel_rfl) (fun I=>by kernel_rfl) (fun n=>by kernel_rfl) (fun _ _ _ _=>rfl)
def wqer(k:Nat){R:Type}(x0:(List ((List UInt8)×(List Int))))(x1:(List dT56))(K:(Int→Option R)): Option R:=wqov k (fun s0 s1 s2 s3 s4 s5 s6=>wq94 k k s0 s1 s2 s3 s4 s5 s6 K) x0 x1 K
theorem wqzq(k:Nat): DOK Tryz.prog 14 (h_config_Check.run (@wqer k)):=dok h_config_Check (wqou k) Tryz.f14 k (ok1 (wql0 k) (ok1 (wq124 k) ok0)) (by kernel_rfl) (by kernel_rfl) fun R=>h_config_Check.f1 u_config_Check_1006 (wqov k) (by kernel_rfl) (wqkk k (fun _ _=>none) k) (by kernel_rfl)
def wqow(wqbm:(R:Type)→(List dT72)→((List ((List UInt8)×(List Int)))→(List dT56)→Int→Int→Option R)→Option R){R:Type}: List PV→List (Nm×HObj)→(Out→Option R)→Option R
 |[.agg [.v (.sl (.pr (.int .i64) (.pr (.int .i64) (.pr .str (.pr .bool (.pr (.sl .str) (.sl (.int .i64)))))))) x0]],[],K=>wqbm R x0 (fun y0 y1 y2 y3=>K (.ret [.agg [.v (.sl (.pr .str (.sl (.int .i64)))) y0,.v (.sl (.pr .str (.pr .str (.pr .bool (.pr (.int .i64) (.pr (.int .i64) (.pr .bool (.pr (.pr .str (.pr (.int .i64) (.pr (.int .i64) (.pr .flt (.pr .bool .bool))))) (.sl (.int .i64)))))))))) y1],.agg [.v (.int .i64) y2,.v (.int .i64) y3]] []))
 |_,_,_=>none
def h_slices_Equal___int_int:Sh:=⟨[.s kI,.s kI],some ([],[.a .bool]),none⟩
def u_slices_Equal___int_int_1004:Cu:=⟨0,[0,1,12,13],[.s kI,.s kI,.a kI,.a kI]⟩
def wqc7(k:Nat): Cxt:=⟨[],[],[(1004,u_slices_Equal___int_int_1004.spec)],[(6,(.of [(0,1),(1,1),(2,1),(4,1),(5,1),(6,1),(3,1),(7,1),(8,1)] .done))]⟩
def wq95(k:Nat){R:Type}(E1004:((List Int)→(List Int)→Int→Int→Option R))(s0 s1:(List Int))(s2 s3:Int)(K:(Bool→Option R)): Option R:=cond (decide (s3<s2)) (cond (inb s3 (s0.length:Int)) (cond (inb s3 (s1.length:Int)) (cond ((s0.getD s3.toNat kI.zero) != (s1.getD s3.toNat kI.zero)) (K false) (E1004 s0 s1 s2 (@Go.IntKind.wrap Go.IntKind.i64 (s3+1)))) none) none) (K true)
def wqc8(k:Nat){R:Type}(E1004:((List Int)→(List Int)→Int→Int→Option R))(x0 x1:(List Int))(K:(Bool→Option R)): Option R:=cond ((x0.length:Int) != (x1.length:Int)) (K false) (E1004 x0 x1 (x0.length:Int) 0)
def wq4f(k:Nat){R:Type}: Nat→(List Int)→(List Int)→Int→Int→(Bool→Option R)→Option R
 |0,_,_,_,_,_=>none
 |n+1,s0,s1,s2,s3,K=>wq95 k (fun s0 s1 s2 s3=>wq4f k n s0 s1 s2 s3 K) s0 s1 s2 s3 K
theorem wqd8(k:Nat){R:Type}: ∀(I:Nat→St→Option R) (n:Nat),h_slices_Equal___int_int.lp u_slices_Equal___int_int_1004 (wqc7 k).cx k Tryz.f50 1004 [1,1,0,1,0] I n=wq4f k n:=h_slices_Equal___int_int.lok u_slices_Equal___int_int_1004 (B:=wq95 k) (L:=wq4f k) (fun I=>by kernel_rfl) (fun I=>by kernel_rfl) (fun n=>by kernel_rfl) (fun _ _ _ _=>rfl)
def wq61(k:Nat){R:Type}(x0 x1:(List Int))(K:(Bool→Option R)): Option R:=wqc8 k (fun s0 s1 s2 s3=>wq4f k k s0 s1 s2 s3 K) x0 x1 K
theorem wqc9(k:Nat): DOK Tryz.prog 50 (h_slices_Equal___int_int.run (@wq61 k)):=dok h_slices_Equal___int_int (wqc7 k) Tryz.f50 k ok0 (by kernel_rfl) (by kernel_rfl) fun R=>h_slices_Equal___int_int.f1 u_slices_Equal___int_int_1004 (wqc8 k) (by kernel_rfl) (wqd8 k (fun _ _=>none) k) (by kernel_rfl)
def wqca(k:Nat): Ent:=h_slices_Equal___int_int.e 50 (@wq61 k)
def h_config_Same_1:Sh:=⟨[.g [.a .str,.s kI],.g [.a .str,.s kI]],some ([],[.a .bool]),none⟩
abbrev wqfp:Type 1:=(R:Type)→(List UInt8)→(List Int)→(List UInt8)→(List Int)→(Bool→Option R)→Option R
def wqx2(k:Nat): Cxt:=⟨[wqca k],[],[],[]⟩
def wqx3(k:Nat){R:Type}(x0:(List UInt8))(x1:(List Int))(x2:(List UInt8))(x3:(List Int))(K:(Bool→Option R)): Option R:=cond ((x0 == x2) == true) (wq61 k x1 x3 K) (K false)
def wq8v:=@wqx3
theorem wqm5(k:Nat): DOK Tryz.prog 49 (h_config_Same_1.run (@wq8v k)):=dok h_config_Same_1 (wqx2 k) Tryz.f49 k (ok1 (wqc9 k) ok0) (by kernel_rfl) (by kernel_rfl) fun R=>by kernel_rfl
def wqx4(k:Nat): Ent:=h_config_Same_1.e 49 (@wq8v k)
def h_config_branches:Sh:=⟨[.g [.a .str,.a .str,.a .bool,.a kI,.a kI,.a .bool,.a .str,.a kI,.a kI,.a .flt,.a .bool,.a .bool,.s kI],.g [.a .str,.a .str,.a .bool,.a kI,.a kI,.a .bool,.a .str,.a kI,.a kI,.a .flt,.a .bool,.a .bool,.s kI]],some ([],[.a .bool]),none⟩
abbrev wqd9:Type 1:=(R:Type)→(List UInt8)→(List UInt8)→Bool→Int→Int→Bool→(List UInt8)→Int→Int→Nat→Bool→Bool→(List Int)→(List UInt8)→(List UInt8)→Bool→Int→Int→Bool→(List UInt8)→Int→Int→Nat→Bool→Bool→(List Int)→(Bool→Option R)→Option R
def wqt1(k:Nat): Cxt:=⟨[wqca k,wqjy k,wqy8 k],[],[],[]⟩
def wqt2(k:Nat){R:Type}(x0 x1:(List UInt8))(x2:Bool)(x3 x4:Int)(x5:Bool)(x6:(List UInt8))(x7 x8:Int)(x9:Nat)(x10 x11:Bool)(x12:(List Int))(x13 x14:(List UInt8))(x15:Bool)(x16 x17:Int)(x18:Bool)(x19:(List UInt8))(x20 x21:Int)(x22:Nat)(x23 x24:Bool)(x25:(List Int))(K:(Bool→Option R)): Option R:=wqdn k x0 x1 x2 x3 x4 x5 x6 x7 x8 x9 x10 x11 x12 x13 x14 x15 x16 x17 x18 x19 x20 x21 x22 x23 x24 x25 (fun y29=>cond ((cond (cond (cond y29 (x3 == x16) false) (x4 == x17) false) (x5 == x18) false) == true) (wqla k x6 x7 x8 x9 x10 x11 x19 x20 x21 x22 x23 x24 (fun y30=>cond (y30 == true) (wq61 k x12 x25 K) (K false))) (K false))
def wq76:=@wqt2
theorem wqjb(k:Nat): DOK Tryz.prog 53 (h_config_branches.run (@wq76 k)):=dok h_config_branches (wqt1 k) Tryz.f53 k (ok1 (wqc9 k) (ok1 (wqjx k) (ok1 (wqy7 k) ok0))) (by kernel_rfl) (by kernel_rfl) fun R=>by kernel_rfl
def wqt3(k:Nat): Ent:=h_config_branches.e 53 (@wq76 k)
def h_slices_EqualFunc___api_Branch___api_Branch_api_Branch_api_Branch:Sh:=⟨[.s kdT56,.s kdT56,.c 53 []],some ([],[.a .bool]),none⟩
abbrev wq21:Type 1:=(R:Type)→(List dT56)→(List dT56)→(Bool→Option R)→Option R
def u_slices_EqualFunc___api_Branch___api_Branch_api_Branch_api_Branch_1004:Cu:=⟨0,[1,2,15,16,17],[.s kdT56,.c 53 [],.s kdT56,.a kI,.a kI]⟩
def wq2w(k:Nat): Cxt:=⟨[wqt3 k],[],[(1004,u_slices_EqualFunc___api_Branch___api_Branch_api_Branch_api_Branch_1004.spec)],[]⟩
def wq2m(k:Nat){R:Type}(E1004:((List dT56)→(List dT56)→Int→Int→Option R))(s0 s1:(List dT56))(s2 s3:Int)(K:(Bool→Option R)): Option R:=cond (decide (s3<s2)) (cond (inb s3 (s1.length:Int)) (cond (inb s3 (s0.length:Int)) (wq76 k (s1.getD s3.toNat kdT56.zero).1 ((s1.getD s3.toNat kdT56.zero).2).1 (((s1.getD s3.toNat kdT56.zero).2).2).1 ((((s1.getD s3.toNat kdT56.zero).2).2).2).1 (((((s1.getD s3.toNat kdT56.zero).2).2).2).2).1 ((((((s1.getD s3.toNat kdT56.zero).2).2).2).2).2).1 ((((((((s1.getD s3.toNat kdT56.zero).2).2).2).2).2).2).1).1 (((((((((s1.getD s3.toNat kdT56.zero).2).2).2).2).2).2).1).2).1 ((((((((((s1.getD s3.toNat kdT56.zero).2).2).2).2).2).2).1).2).2).1 (((((((((((s1.getD s3.toNat kdT56.zero).2).2).2).2).2).2).1).2).2).2).1 ((((((((((((s1.getD s3.toNat kdT56.zero).2).2).2).2).2).2).1).2).2).2).2).1 ((((((((((((s1.getD s3.toNat kdT56.zero).2).2).2).2).2).2).1).2).2).2).2).2 (((((((s1.getD s3.toNat kdT56.zero).2).2).2).2).2).2).2 (s0.getD s3.toNat kdT56.zero).1 ((s0.getD s3.toNat kdT56.zero).2).1 (((s0.getD s3.toNat kdT56.zero).2).2).1 ((((s0.getD s3.toNat kdT56.zero).2).2).2).1 (((((s0.getD s3.toNat kdT56.zero).2).2).2).2).1 ((((((s0.getD s3.toNat kdT56.zero).2).2).2).2).2).1 ((((((((s0.getD s3.toNat kdT56.zero).2).2).2).2).2).2).1).1 (((((((((s0.getD s3.toNat kdT56.zero).2).2).2).2).2).2).1).2).1 ((((((((((s0.getD s3.toNat kdT56.zero).2).2).2).2).2).2).1).2).2).1 (((((((((((s0.getD s3.toNat kdT56.zero).2).2).2).2).2).2).1).2).2).2).1 ((((((((((((s0.getD s3.toNat kdT56.zero).2).2).2).2).2).2).1).2).2).2).2).1 ((((((((((((s0.getD s3.toNat kdT56.zero).2).2).2).2).2).2).1).2).2).2).2).2 (((((((s0.getD s3.toNat kdT56.zero).2).2).2).2).2).2).2 (fun y8=>cond (!y8) (K false) (E1004 s0 s1 s2 (@Go.IntKind.wrap Go.IntKind.i64 (s3+1))))) none) none) (K true)
def wq2x(k:Nat){R:Type}(E1004:((List dT56)→(List dT56)→Int→Int→Option R))(x0 x1:(List dT56))(K:(Bool→Option R)): Option R:=cond ((x0.length:Int) != (x1.length:Int)) (K false) (E1004 x1 x0 (x0.length:Int) 0)
def wq13(k:Nat){R:Type}: Nat→(List dT56)→(List dT56)→Int→Int→(Bool→Option R)→Option R
 |0,_,_,_,_,_=>none
 |n+1,s0,s1,s2,s3,K=>wq2m k (fun s0 s1 s2 s3=>wq13 k n s0 s1 s2 s3 K) s0 s1 s2 s3 K
theorem wq3r(k:Nat){R:Type}: ∀(I:Nat→St→Option R) (n:Nat),h_slices_EqualFunc___api_Branch___api_Branch_api_Branch_api_Branch.lp u_slices_EqualFunc___api_Branch___api_Branch_api_Branch_api_Branch_1004 (wq2w k).cx k Tryz.f52 1004 [1,1,0,1,0] I n=wq13 k n:=h_slices_EqualFunc___api_Branch___api_Branch_api_Branch_api_Branch.lok u_slices_EqualFunc___api_Branch___api_Branch_api_Branch_api_Branch_1004 (B:=wq2m k) (L:=wq13 k) (fun I=>by kernel_rfl) (fun I=>by kernel_rfl) (fun n=>by kernel_rfl) (fun _ _ _ _=>rfl)
def wq1b(k:Nat){R:Type}(x0 x1:(List dT56))(K:(Bool→Option R)): Option R:=wq2x k (fun s0 s1 s2 s3=>wq13 k k s0 s1 s2 s3 K) x0 x1 K
theorem wq4h(k:Nat): DOK Tryz.prog 52 (h_slices_EqualFunc___api_Branch___api_Branch_api_Branch_api_Branch.run (@wq1b k)):=dok h_slices_EqualFunc___api_Branch___api_Branch_api_Branch_api_Branch (wq2w k) Tryz.f52 k (ok1 (wqjb k) ok0) (by kernel_rfl) (by kernel_rfl) fun R=>h_slices_EqualFunc___api_Branch___api_Branch_api_Branch_api_Branch.f1 u_slices_EqualFunc___api_Branch___api_Branch_api_Branch_api_Branch_1004 (wq2x k) (by kernel_rfl) (wq3r k (fun _ _=>none) k) (by kernel_rfl)
def h_slices_EqualFunc___api_Domain___api_Domain_api_Domain_api_Domain:Sh:=⟨[.s (.pr .str (.sl kI)),.s (.pr .str (.sl kI)),.c 49 []],some ([],[.a .bool]),none⟩
abbrev wq22:Type 1:=(R:Type)→(List ((List UInt8)×(List Int)))→(List ((List UInt8)×(List Int)))→(Bool→Option R)→Option R
def u_slices_EqualFunc___api_Domain___api_Domain_api_Domain_api_Domain_1004:Cu:=⟨0,[1,2,15,16,17],[.s (.pr .str (.sl kI)),.c 49 [],.s (.pr .str (.sl kI)),.a kI,.a kI]⟩
def wq2y(k:Nat): Cxt:=⟨[wqx4 k],[],[(1004,u_slices_EqualFunc___api_Domain___api_Domain_api_Domain_api_Domain_1004.spec)],[]⟩
def wq2n(k:Nat){R:Type}(E1004:((List ((List UInt8)×(List Int)))→(List ((List UInt8)×(List Int)))→Int→Int→Option R))(s0 s1:(List ((List UInt8)×(List Int))))(s2 s3:Int)(K:(Bool→Option R)): Option R:=cond (decide (s3<s2)) (cond (inb s3 (s1.length:Int)) (cond (inb s3 (s0.length:Int)) (wq8v k (s1.getD s3.toNat (Kd.zero (@Kd.pr Kd.str (@Kd.sl kI)))).1 (s1.getD s3.toNat (Kd.zero (@Kd.pr Kd.str (@Kd.sl kI)))).2 (s0.getD s3.toNat (Kd.zero (@Kd.pr Kd.str (@Kd.sl kI)))).1 (s0.getD s3.toNat (Kd.zero (@Kd.pr Kd.str (@Kd.sl kI)))).2 (fun y8=>cond (!y8) (K false) (E1004 s0 s1 s2 (@Go.IntKind.wrap Go.IntKind.i64 (s3+1))))) none) none) (K true)
def wq2z(k:Nat){R:Type}(E1004:((List ((List UInt8)×(List Int)))→(List ((List UInt8)×(List Int)))→Int→Int→Option R))(x0 x1:(List ((List UInt8)×(List Int))))(K:(Bool→Option R)): Option R:=cond ((x0.length:Int) != (x1.length:Int)) (K false) (E1004 x1 x0 (x0.length:Int) 0)
def wq14(k:Nat){R:Type}: Nat→(List ((List UInt8)×(List Int)))→(List ((List UInt8)×(List Int)))→Int→Int→(Bool→Option R)→Option R
 |0,_,_,_,_,_=>none
 |n+1,s0,s1,s2,s3,K=>wq2n k (fun s0 s1 s2 s3=>wq14 k n s0 s1 s2 s3 K) s0 s1 s2 s3 K
theorem wq3s(k:Nat){R:Type}: ∀(I:Nat→St→Option R) (n:Nat),h_slices_EqualFunc___api_Domain___api_Domain_api_Domain_api_Domain.lp u_slices_EqualFunc___api_Domain___api_Domain_api_Domain_api_Domain_1004 (wq2y k).cx k Tryz.f51 1004 [1,1,0,1,0] I n=wq14 k n:=h_slices_EqualFunc___api_Domain___api_Domain_api_Domain_api_Domain.lok u_slices_EqualFunc___api_Domain___api_Domain_api_Domain_api_Domain_1004 (B:=wq2n k) (L:=wq14 k) (fun I=>by kernel_rfl) (fun I=>by kernel_rfl) (fun n=>by kernel_rfl) (fun _ _ _ _=>rfl)
def wq1c(k:Nat){R:Type}(x0 x1:(List ((List UInt8)×(List Int))))(K:(Bool→Option R)): Option R:=wq2z k (fun s0 s1 s2 s3=>wq14 k k s0 s1 s2 s3 K) x0 x1 K
theorem wq4i(k:Nat): DOK Tryz.prog 51 (h_slices_EqualFunc___api_Domain___api_Domain_api_Domain_api_Domain.run (@wq1c k)):=dok h_slices_EqualFunc___api_Domain___api_Domain_api_Domain_api_Domain (wq2y k) Tryz.f51 k (ok1 (wqm5 k) ok0) (by kernel_rfl) (by kernel_rfl) fun R=>h_slices_EqualFunc___api_Domain___api_Domain_api_Domain_api_Domain.f1 u_slices_EqualFunc___api_Domain___api_Domain_api_Domain_api_Domain_1004 (wq2z k) (by kernel_rfl) (wq3s k (fun _ _=>none) k) (by kernel_rfl)
def h_config_Same:Sh:=⟨[.g [.s (.pr .str (.sl kI)),.s kdT56],.g [.s (.pr .str (.sl kI)),.s kdT56]],some ([],[.a .bool]),none⟩
abbrev wqii:Type 1:=(R:Type)→(List ((List UInt8)×(List Int)))→(List dT56)→(List ((List UInt8)×(List Int)))→(List dT56)→(Bool→Option R)→Option R
def wqrs(k:Nat)(wqai:wqfp)(wql:wq22)(wqm:wq21)(wq8t:wqd9): Cxt:=⟨[h_config_Same_1.e 49 wqai,h_slices_EqualFunc___api_Domain___api_Domain_api_Domain_api_Domain.e 51 wql,h_slices_EqualFunc___api_Branch___api_Branch_api_Branch_api_Branch.e 52 wqm,h_config_branches.e 53 wq8t],[],[],[]⟩
def wqrt(k:Nat)(wqai:wqfp)(wql:wq22)(wqm:wq21)(wq8t:wqd9){R:Type}(x0:(List ((List UInt8)×(List Int))))(x1:(List dT56))(x2:(List ((List UInt8)×(List Int))))(x3:(List dT56))(K:(Bool→Option R)): Option R:=wql R x0 x2 (fun y7=>cond (y7 == true) (wqm R x1 x3 K) (K false))
theorem wq126(k:Nat)(wqai:wqfp)(wql:wq22)(wqm:wq21)(wq8t:wqd9)(R:Type): h_config_Same.at (wqrs k wqai wql wqm wq8t) k Tryz.f23 R=@wqrt k wqai wql wqm wq8t R:=by kernel_rfl
def wqg8(k:Nat){R:Type}:= @wqrt k (@wq8v k) (@wq1c k) (@wq1b k) (@wq76 k) R
theorem wq127(k:Nat): DOK Tryz.prog 23 (h_config_Same.run (@wqg8 k)):=dok h_config_Same (wqrs k (@wq8v k) (@wq1c k) (@wq1b k) (@wq76 k)) Tryz.f23 k (ok1 (wqm5 k) (ok1 (wq4i k) (ok1 (wq4h k) (ok1 (wqjb k) ok0)))) (by kernel_rfl) (by kernel_rfl) fun R=>wq126 k (@wq8v k) (@wq1c k) (@wq1b k) (@wq76 k) R
def h_ref1_Order:Sh:=⟨[.a .flt,.a .flt],some ([],[.a kI]),none⟩
def wq14s(k:Nat): Cxt:=⟨[wqud k,wqzo k],[],[],[]⟩
def wq14t(k:Nat){R:Type}(x0 x1:Nat)(K:(Int→Option R)): Option R:=wq33 k x0 (fun y5=>cond (y5 == false) (wq33 k x1 (fun y6=>cond y6 (wq33 k x0 (fun y7=>cond (y7 == true) (wq33 k x1 (fun y8=>cond y8 (K 0) (wq33 k x0 (fun y9=>cond y9 (K 1) (K (@Neg.neg Int @Int.instNegInt (1:Int))))))) (wq33 k x0 (fun y8=>cond y8 (K 1) (K (@Neg.neg Int @Int.instNegInt (1:Int))))))) (cond (@fltIs @Go.BinOp.lss x0 x1) (K (@Neg.neg Int @Int.instNegInt (1:Int))) (cond (@fltIs @Go.BinOp.gtr x0 x1) (K 1) (wq32 k x0 (fun y7=>wq32 k x1 (fun y8=>cond (y7 == y8) (K 0) (wq32 k x0 (fun y9=>cond y9 (K (@Neg.neg Int @Int.instNegInt (1:Int))) (K 1)))))))))) (wq33 k x0 (fun y6=>cond (y6 == true) (wq33 k x1 (fun y7=>cond y7 (K 0) (wq33 k x0 (fun y8=>cond y8 (K 1) (K (@Neg.neg Int @Int.instNegInt (1:Int))))))) (wq33 k x0 (fun y7=>cond y7 (K 1) (K (@Neg.neg Int @Int.instNegInt (1:Int))))))))
def wqna:=@wq14t
theorem wq14u(k:Nat): DOK Tryz.prog 108 (h_ref1_Order.run (@wqna k)):=dok h_ref1_Order (wq14s k) Tryz.f108 k (ok1 (wqhv k) (ok1 (wqeq k) ok0)) (by kernel_rfl) (by kernel_rfl) fun R=>by kernel_rfl
def wq14v(k:Nat): Ent:=h_ref1_Order.e 108 (@wqna k)
def h_ref1_Alike:Sh:=⟨[.a .flt,.a .flt],some ([],[.a .bool]),none⟩
def wq14w(k:Nat): Cxt:=⟨[wq14v k],[],[],[]⟩
def wq14x(k:Nat){R:Type}(x0 x1:Nat)(K:(Bool→Option R)): Option R:=wqna k x0 x1 (fun y5=>K (y5 == 0))
def wqnb:=@wq14x
theorem wq14y(k:Nat): DOK Tryz.prog 63 (h_ref1_Alike.run (@wqnb k)):=dok h_ref1_Alike (wq14w k) Tryz.f63 k (ok1 (wq14u k) ok0) (by kernel_rfl) (by kernel_rfl) fun R=>by kernel_rfl
def wq14z(k:Nat): Ent:=h_ref1_Alike.e 63 (@wqnb k)
def h_ref15_SameRule:Sh:=⟨[.g [.a .str,.a kI,.a kI,.a .flt,.a .bool,.a .bool],.g [.a .str,.a kI,.a kI,.a .flt,.a .bool,.a .bool]],some ([],[.a .bool]),none⟩
def wqvp(k:Nat): Cxt:=⟨[wq14z k],[],[],[]⟩
def wqvq(k:Nat){R:Type}(x0:(List UInt8))(x1 x2:Int)(x3:Nat)(x4 x5:Bool)(x6:(List UInt8))(x7 x8:Int)(x9:Nat)(x10 x11:Bool)(K:(Bool→Option R)): Option R:=cond ((cond (cond (cond (cond (x0 == x6) (x1 == x7) false) (x2 == x8) false) (x4 == x10) false) (x5 == x11) false) == true) (wqnb k x3 x9 K) (K false)
def wqcb:=@wqvq
theorem wqvr(k:Nat): DOK Tryz.prog 32 (h_ref15_SameRule.run (@wqcb k)):=dok h_ref15_SameRule (wqvp k) Tryz.f32 k (ok1 (wq14y k) ok0) (by kernel_rfl) (by kernel_rfl) fun R=>by kernel_rfl
def wqvs(k:Nat): Ent:=h_ref15_SameRule.e 32 (@wqcb k)
def h_ref1_Ints:Sh:=⟨[.s kI,.s kI],some ([],[.a .bool]),none⟩
def u_ref1_Ints_1004:Cu:=⟨0,[0,1,5],[.s kI,.s kI,.a kI]⟩
def wqy9(k:Nat): Cxt:=⟨[],[],[(1004,u_ref1_Ints_1004.spec)],[(6,(.of [(0,1),(1,1),(2,1),(4,1),(5,1),(6,1),(3,1),(7,1),(8,1)] .done))]⟩
def wqkl(k:Nat){R:Type}(E1004:((List Int)→(List Int)→Int→Option R))(s0 s1:(List Int))(s2:Int)(K:(Bool→Option R)): Option R:=cond (decide (s2<(s0.length:Int))) (cond (inb s2 (s0.length:Int)) (cond (inb s2 (s1.length:Int)) (cond ((s0.getD s2.toNat kI.zero) != (s1.getD s2.toNat kI.zero)) (K false) (E1004 s0 s1 (@Go.IntKind.wrap Go.IntKind.i64 (s2+1)))) none) none) (K true)
def wqya(k:Nat){R:Type}(E1004:((List Int)→(List Int)→Int→Option R))(x0 x1:(List Int))(K:(Bool→Option R)): Option R:=cond ((x0.length:Int) != (x1.length:Int)) (K false) (E1004 x0 x1 0)
def wqcc(k:Nat){R:Type}: Nat→(List Int)→(List Int)→Int→(Bool→Option R)→Option R
 |0,_,_,_,_=>none
 |n+1,s0,s1,s2,K=>wqkl k (fun s0 s1 s2=>wqcc k n s0 s1 s2 K) s0 s1 s2 K
theorem wqox(k:Nat){R:Type}: ∀(I:Nat→St→Option R) (n:Nat),h_ref1_Ints.lp u_ref1_Ints_1004 (wqy9 k).cx k Tryz.f31 1004 [1,1,0,1,0] I n=wqcc k n:=h_ref1_Ints.lok u_ref1_Ints_1004 (B:=wqkl k) (L:=wqcc k) (fun I=>by kernel_rfl) (fun I=>by kernel_rfl) (fun n=>by kernel_rfl) (fun _ _ _ _=>rfl)
def wqhg(k:Nat){R:Type}(x0 x1:(List Int))(K:(Bool→Option R)): Option R:=wqya k (fun s0 s1 s2=>wqcc k k s0 s1 s2 K) x0 x1 K
theorem wq186(k:Nat): DOK Tryz.prog 31 (h_ref1_Ints.run (@wqhg k)):=dok h_ref1_Ints (wqy9 k) Tryz.f31 k ok0 (by kernel_rfl) (by kernel_rfl) fun R=>h_ref1_Ints.f1 u_ref1_Ints_1004 (wqya k) (by kernel_rfl) (wqox k (fun _ _=>none) k) (by kernel_rfl)
def wq187(k:Nat): Ent:=h_ref1_Ints.e 31 (@wqhg k)
def h_ref15_Same:Sh:=⟨[.g [.s (.pr .str (.sl kI)),.s kdT56],.g [.s (.pr .str (.sl kI)),.s kdT56]],some ([],[.a .bool]),none⟩
abbrev wqkm:Type 1:=(R:Type)→(List ((List UInt8)×(List Int)))→(List dT56)→(List ((List UInt8)×(List Int)))→(List dT56)→(Bool→Option R)→Option R
def u_ref15_Same_1004:Cu:=⟨0,[2,3,5],[.o 12 27 0 [.s (.pr .str (.sl kI)),.s kdT56],.o 13 27 0 [.s (.pr .str (.sl kI)),.s kdT56],.a kI]⟩
def u_ref15_Same_1009:Cu:=⟨0,[2,3,6],[.o 12 27 0 [.s (.pr .str (.sl kI)),.s kdT56],.o 13 27 0 [.s (.pr .str (.sl kI)),.s kdT56],.a kI]⟩
def wqij(k:Nat): Cxt:=⟨[wq187 k,wqvs k],[],[(1004,u_ref15_Same_1004.spec),(1009,u_ref15_Same_1009.spec)],[(6,(.of [(0,1),(2,1),(6,1),(8,1),(1,1),(3,1),(4,1),(5,1),(7,1),(9,1),(10,1),(11,1),(12,1),(13,1),(14,1),(16,1),(20,1),(22,1),(15,1),(17,1),(18,1),(19,1),(21,1),(23,1),(24,1),(25,1),(26,0),(27,1),(28,1)] .done)),(11,(.of [(0,1),(2,1),(5,1),(7,1),(1,1),(3,1),(4,1),(6,2),(8,1),(9,2)] (.alt 10 (.of [(11,0),(12,0),(13,0)] .done) (.op 11 0 (.of [(10,0),(12,0),(13,0)] .done)))))]⟩
def wqe8(k:Nat){R:Type}(E1004 E1009:((List ((List UInt8)×(List Int)))→(List dT56)→(List ((List UInt8)×(List Int)))→(List dT56)→Int→Option R))(s0:(List ((List UInt8)×(List Int))))(s1:(List dT56))(s2:(List ((List UInt8)×(List Int))))(s3:(List dT56))(s4:Int)(K:(Bool→Option R)): Option R:=cond (decide (s4<(s0.length:Int))) (cond (inb s4 (s0.length:Int)) (cond (inb s4 (s2.length:Int)) (cond ((!((!((s0.getD s4.toNat (Kd.zero (@Kd.pr Kd.str (@Kd.sl kI)))).1 == (s2.getD s4.toNat (Kd.zero (@Kd.pr Kd.str (@Kd.sl kI)))).1)) == false)) || (inb s4 (s0.length:Int))) (cond ((!((!((s0.getD s4.toNat (Kd.zero (@Kd.pr Kd.str (@Kd.sl kI)))).1 == (s2.getD s4.toNat (Kd.zero (@Kd.pr Kd.str (@Kd.sl kI)))).1)) == false)) || (inb s4 (s2.length:Int))) (cond ((!((s0.getD s4.toNat (Kd.zero (@Kd.pr Kd.str (@Kd.sl kI)))).1 == (s2.getD s4.toNat (Kd.zero (@Kd.pr Kd.str (@Kd.sl kI)))).1)) == false) (wqhg k (s0.getD s4.toNat (Kd.zero (@Kd.pr Kd.str (@Kd.sl kI)))).2 (s2.getD s4.toNat (Kd.zero (@Kd.pr Kd.str (@Kd.sl kI)))).2 (fun y10=>cond (!y10) (K false) (E1004 s0 s1 s2 s3 (@Go.IntKind.wrap Go.IntKind.i64 (s4+1))))) (K false)) none) none) none) none) (E1009 s0 s1 s2 s3 0)
def wqda(k:Nat){R:Type}(E1009:((List ((List UInt8)×(List Int)))→(List dT56)→(List ((List UInt8)×(List Int)))→(List dT56)→Int→Option R))(s0:(List ((List UInt8)×(List Int))))(s1:(List dT56))(s2:(List ((List UInt8)×(List Int))))(s3:(List dT56))(s4:Int)(K:(Bool→Option R)): Option R:=cond (decide (s4<(s1.length:Int))) (cond (inb s4 (s1.length:Int)) (cond (inb s4 (s3.length:Int)) (dupT (@Shp.b @Shp.o @Shp.o) (cond ((cond (cond (cond (cond (cond (!((s1.getD s4.toNat kdT56.zero).1 == (s3.getD s4.toNat kdT56.zero).1)) true (!(((s1.getD s4.toNat kdT56.zero).2).1 == ((s3.getD s4.toNat kdT56.zero).2).1))) true (!((((s1.getD s4.toNat kdT56.zero).2).2).1 == (((s3.getD s4.toNat kdT56.zero).2).2).1))) true (((((s1.getD s4.toNat kdT56.zero).2).2).2).1 != ((((s3.getD s4.toNat kdT56.zero).2).2).2).1)) true ((((((s1.getD s4.toNat kdT56.zero).2).2).2).2).1 != (((((s3.getD s4.toNat kdT56.zero).2).2).2).2).1)) true (!(((((((s1.getD s4.toNat kdT56.zero).2).2).2).2).2).1 == ((((((s3.getD s4.toNat kdT56.zero).2).2).2).2).2).1))) == false) (wqcb k ((((((((s1.getD s4.toNat kdT56.zero).2).2).2).2).2).2).1).1 (((((((((s1.getD s4.toNat kdT56.zero).2).2).2).2).2).2).1).2).1 ((((((((((s1.getD s4.toNat kdT56.zero).2).2).2).2).2).2).1).2).2).1 (((((((((((s1.getD s4.toNat kdT56.zero).2).2).2).2).2).2).1).2).2).2).1 ((((((((((((s1.getD s4.toNat kdT56.zero).2).2).2).2).2).2).1).2).2).2).2).1 ((((((((((((s1.getD s4.toNat kdT56.zero).2).2).2).2).2).2).1).2).2).2).2).2 ((((((((s3.getD s4.toNat kdT56.zero).2).2).2).2).2).2).1).1 (((((((((s3.getD s4.toNat kdT56.zero).2).2).2).2).2).2).1).2).1 ((((((((((s3.getD s4.toNat kdT56.zero).2).2).2).2).2).2).1).2).2).1 (((((((((((s3.getD s4.toNat kdT56.zero).2).2).2).2).2).2).1).2).2).2).1 ((((((((((((s3.getD s4.toNat kdT56.zero).2).2).2).2).2).2).1).2).2).2).2).1 ((((((((((((s3.getD s4.toNat kdT56.zero).2).2).2).2).2).2).1).2).2).2).2).2 (fun y10=>cond ((!y10) == false) (wqhg k (((((((s1.getD s4.toNat kdT56.zero).2).2).2).2).2).2).2 (((((((s3.getD s4.toNat kdT56.zero).2).2).2).2).2).2).2 (fun y11=>cond (!y11) (K false) (E1009 s0 s1 s2 s3 (@Go.IntKind.wrap Go.IntKind.i64 (s4+1))))) (K false))) (K false))) none) none) (K true)
def wqav(k:Nat){R:Type}(E1009:((List ((List UInt8)×(List Int)))→(List dT56)→(List ((List UInt8)×(List Int)))→(List dT56)→Int→Option R))(s0:(List ((List UInt8)×(List Int))))(s1:(List dT56))(s2:(List ((List UInt8)×(List Int))))(s3:(List dT56))(s4:Int)(K:(Bool→Option R)): Option R:=cond (decide (s4<(s1.length:Int))) (cond (inb s4 (s1.length:Int)) (cond (inb s4 (s3.length:Int)) (cond ((cond (cond (cond (cond (cond (!((s1.getD s4.toNat kdT56.zero).1 == (s3.getD s4.toNat kdT56.zero).1)) true (!(((s1.getD s4.toNat kdT56.zero).2).1 == ((s3.getD s4.toNat kdT56.zero).2).1))) true (!((((s1.getD s4.toNat kdT56.zero).2).2).1 == (((s3.getD s4.toNat kdT56.zero).2).2).1))) true (((((s1.getD s4.toNat kdT56.zero).2).2).2).1 != ((((s3.getD s4.toNat kdT56.zero).2).2).2).1)) true ((((((s1.getD s4.toNat kdT56.zero).2).2).2).2).1 != (((((s3.getD s4.toNat kdT56.zero).2).2).2).2).1)) true (!(((((((s1.getD s4.toNat kdT56.zero).2).2).2).2).2).1 == ((((((s3.getD s4.toNat kdT56.zero).2).2).2).2).2).1))) == false) (wqcb k ((((((((s1.getD s4.toNat kdT56.zero).2).2).2).2).2).2).1).1 (((((((((s1.getD s4.toNat kdT56.zero).2).2).2).2).2).2).1).2).1 ((((((((((s1.getD s4.toNat kdT56.zero).2).2).2).2).2).2).1).2).2).1 (((((((((((s1.getD s4.toNat kdT56.zero).2).2).2).2).2).2).1).2).2).2).1 ((((((((((((s1.getD s4.toNat kdT56.zero).2).2).2).2).2).2).1).2).2).2).2).1 ((((((((((((s1.getD s4.toNat kdT56.zero).2).2).2).2).2).2).1).2).2).2).2).2 ((((((((s3.getD s4.toNat kdT56.zero).2).2).2).2).2).2).1).1 (((((((((s3.getD s4.toNat kdT56.zero).2).2).2).2).2).2).1).2).1 ((((((((((s3.getD s4.toNat kdT56.zero).2).2).2).2).2).2).1).2).2).1 (((((((((((s3.getD s4.toNat kdT56.zero).2).2).2).2).2).2).1).2).2).2).1 ((((((((((((s3.getD s4.toNat kdT56.zero).2).2).2).2).2).2).1).2).2).2).2).1 ((((((((((((s3.getD s4.toNat kdT56.zero).2).2).2).2).2).2).1).2).2).2).2).2 (fun y10=>cond ((!y10) == false) (wqhg k (((((((s1.getD s4.toNat kdT56.zero).2).2).2).2).2).2).2 (((((((s3.getD s4.toNat kdT56.zero).2).2).2).2).2).2).2 (fun y11=>cond (!y11) (K false) (E1009 s0 s1 s2 s3 (@Go.IntKind.wrap Go.IntKind.i64 (s4+1))))) (K false))) (K false)) none) none) (K true)
theorem wqlr(k:Nat){R:Type}: @wqda k R=@wqav k R:=by funext E1009 s0 s1 s2 s3 s4 K;unfold wqda wqav;simp only[wq164,show ∀(R:Type) (a:Option R),both a a=a from fun R a=>by unfold both;exact if_pos rfl]
def wqvt(k:Nat){R:Type}(E1004:((List ((List UInt8)×(List Int)))→(List dT56)→(List ((List UInt8)×(List Int)))→(List dT56)→Int→Option R))(x0:(List ((List UInt8)×(List Int))))(x1:(List dT56))(x2:(List ((List UInt8)×(List Int))))(x3:(List dT56))(K:(Bool→Option R)): Option R:=cond (cond ((x0.length:Int) != (x2.length:Int)) true ((x1.length:Int) != (x3.length:Int))) (K false) (E1004 x0 x1 x2 x3 0)
def wq8r(k:Nat){R:Type}: Nat→(List ((List UInt8)×(List Int)))→(List dT56)→(List ((List UInt8)×(List Int)))→(List dT56)→Int→(Bool→Option R)→Option R
 |0,_,_,_,_,_,_=>none
 |n+1,s0,s1,s2,s3,s4,K=>wqav k (fun s0 s1 s2 s3 s4=>wq8r k n s0 s1 s2 s3 s4 K) s0 s1 s2 s3 s4 K
theorem wqnc(k:Nat){R:Type}: ∀(I:Nat→St→Option R) (n:Nat),h_ref15_Same.lp u_ref15_Same_1009 (wqij k).cx k Tryz.f13 1009 [1,1,1,0,1,0] I n=wq8r k n:=h_ref15_Same.lok u_ref15_Same_1009 (B:=wqav k) (L:=wq8r k) (fun I=>(show _=wqda k (u_ref15_Same_1009.cur (I 1009)) by kernel_rfl).trans (by simp only[wqlr])) (fun I=>by kernel_rfl) (fun n=>by kernel_rfl) (fun _ _ _ _=>rfl)
def wqaw(k:Nat){R:Type}: Nat→(List ((List UInt8)×(List Int)))→(List dT56)→(List ((List UInt8)×(List Int)))→(List dT56)→Int→(Bool→Option R)→Option R
 |0,_,_,_,_,_,_=>none
 |n+1,s0,s1,s2,s3,s4,K=>wqe8 k (fun s0 s1 s2 s3 s4=>wqaw k n s0 s1 s2 s3 s4 K) (fun s0 s1 s2 s3 s4=>wq8r k k s0 s1 s2 s3 s4 K) s0 s1 s2 s3 s4 K
theorem wqnd(k:Nat){R:Type}: ∀(I:Nat→St→Option R) (n:Nat),h_ref15_Same.lp u_ref15_Same_1004 (wqij k).cx k Tryz.f13 1004 [1,1,0,1,0] I n=wqaw k n:=h_ref15_Same.lokA u_ref15_Same_1004 (fun I J=>h_ref15_Same.glue (l:=u_ref15_Same_1004.fs) (u:=u_ref15_Same_1009.fs) (fun E1009=>wqe8 k J E1009) (wq8r k k)) (fun I=>wqaw k ) (fun I f=>by kernel_rfl) (fun I=>(show _=h_ref15_Same.glue (l:=u_ref15_Same_1004.fs) (u:=u_ref15_Same_1009.fs) (fun E1009=>wqe8 k (u_ref15_Same_1004.cur (I 1004)) E1009) (h_ref15_Same.lp u_ref15_Same_1009 (wqij k).cx k Tryz.f13 1009 [1,1,1,0,1,0] I k) by kernel_rfl).trans (by rw[wqnc])) (fun I=>by kernel_rfl) (fun I n=>by kernel_rfl) (fun _ _ _ _=>rfl)
def wqik(k:Nat){R:Type}(x0:(List ((List UInt8)×(List Int))))(x1:(List dT56))(x2:(List ((List UInt8)×(List Int))))(x3:(List dT56))(K:(Bool→Option R)): Option R:=wqvt k (fun s0 s1 s2 s3 s4=>wqaw k k s0 s1 s2 s3 s4 K) x0 x1 x2 x3 K
theorem wq150(k:Nat): DOK Tryz.prog 13 (h_ref15_Same.run (@wqik k)):=dok h_ref15_Same (wqij k) Tryz.f13 k (ok1 (wq186 k) (ok1 (wqvr k) ok0)) (by kernel_rfl) (by kernel_rfl) fun R=>h_ref15_Same.f1 u_ref15_Same_1004 (wqvt k) (by kernel_rfl) (wqnd k (fun _ _=>none) k) (by kernel_rfl)
def h_law17_awake:Sh:=⟨[],some ([],[.a .bool]),none⟩
def wqru(k:Nat)(wq9z:wqgq)(wqdc:wqkm)(wq8k:wqgs)(wqbm:(R:Type)→(List dT72)→((List ((List UInt8)×(List Int)))→(List dT56)→Int→Int→Option R)→Option R)(wq9i:wqii): Cxt:=⟨[h_config_Parse.e 11 wq9z,h_ref15_Same.e 13 wqdc,h_config_Check.e 14 wq8k,⟨16,wqri,wqow wqbm⟩,h_config_Same.e 23 wq9i],[],[],[]⟩
def wqrv(k:Nat)(wq9z:wqgq)(wqdc:wqkm)(wq8k:wqgs)(wqbm:(R:Type)→(List dT72)→((List ((List UInt8)×(List Int)))→(List dT56)→Int→Int→Option R)→Option R)(wq9i:wqii){R:Type}(K:(Bool→Option R)): Option R:=wq9z R [100,111,109,97,105,110,115,58,10,32,32,45,32,100,111,109,97,105,110,58,32,115,104,111,112,10,32,32,32,32,100,101,115,99,114,105,112,116,111,114,115,58,10,32,32,32,32,32,32,45,32,107,101,121,58,32,117,115,101,114,10,32,32,32,32,32,32,32,32,114,97,116,101,95,108,105,109,105,116,58,10,32,32,32,32,32,32,32,32,32,32,117,110,105,116,58,32,109,105,110,117,116,101,10,32,32,32,32,32,32,32,32,32,32,114,101,113,117,101,115,116,115,95,112,101,114,95,117,110,105,116,58,32,49,48,10] (fun y3 y4 y5 y6=>wqbm R [] (fun y7 y8 y9 y10=>cond (((y5 == 0)&&(y6 == 0)) == true) (wqdc R y3 y4 [([115,104,111,112],[0])] [([117,115,101,114],([],(true,(0,((@Neg.neg Int @Int.instNegInt (1:Int)),(true,(([],(2,(10,(4605380978949069210,(false,false))))),[])))))))] (fun y11=>cond (y11 == true) (wq8k R y3 y4 (fun y12=>cond ((y12 == 0) == true) (wq8k R [] [] (fun y13=>cond ((cond (y13 == 1) ((y9 == 11)&&(y10 == 0)) false) == true) (wq9i R y3 y4 [([115,104,111,112],[0])] [([117,115,101,114],([],(true,(0,((@Neg.neg Int @Int.instNegInt (1:Int)),(true,(([],(2,(10,(4605380978949069210,(false,false))))),[])))))))] (fun y14=>cond (y14 == true) (wq9i R y3 y4 [] [] (fun y15=>K (!y15))) (K false))) (K false))) (K false))) (K false))) (K false)))
theorem wq128(k:Nat)(wq9z:wqgq)(wqdc:wqkm)(wq8k:wqgs)(wqbm:(R:Type)→(List dT72)→((List ((List UInt8)×(List Int)))→(List dT56)→Int→Int→Option R)→Option R)(wq9i:wqii)(R:Type): h_law17_awake.at (wqru k wq9z wqdc wq8k wqbm wq9i) k Tryz.f10 R=@wqrv k wq9z wqdc wq8k wqbm wq9i R:=by kernel_rfl
def wq9e(k:Nat){R:Type}:= @wqrv k (@wq7g k) (@wqik k) (@wqer k) (@wq9q k) (@wqg8 k) R
theorem wq129(k:Nat): DOK Tryz.prog 10 (h_law17_awake.run (@wq9e k)):=dok h_law17_awake (wqru k (@wq7g k) (@wqik k) (@wqer k) (@wq9q k) (@wqg8 k)) Tryz.f10 k (ok1 (wqop k) (ok1 (wq150 k) (ok1 (wqzq k) (ok1 (fun _ _ _ _ _ h=>wqy5 k (by unfold wqow at h;unfold wqg4;exact h)) (ok1 (wq127 k) ok0))))) (by kernel_rfl) (by kernel_rfl) fun R=>wq128 k (@wq7g k) (@wqik k) (@wqer k) (@wq9q k) (@wqg8 k) R
def wq12a(k:Nat): Ent:=h_law17_awake.e 10 (@wq9e k)
def h_ref1_Hold:Sh:=⟨[.a kI],some ([],[.a kI]),none⟩
def wq188(k:Nat): Cxt:=⟨[],[],[],[]⟩
def wqyb(k:Nat){R:Type}(x0:Int)(K:(Int→Option R)): Option R:=cond (decide (x0<0)) (K 0) (cond (decide (x0>4611686018427387904)) (K 4611686018427387904) (K x0))
def wqhh:=@wqyb
theorem wq189(k:Nat): DOK Tryz.prog 46 (h_ref1_Hold.run (@wqhh k)):=dok h_ref1_Hold (wq188 k) Tryz.f46 k ok0 (by kernel_rfl) (by kernel_rfl) fun R=>by kernel_rfl
def wq18a(k:Nat): Ent:=h_ref1_Hold.e 46 (@wqhh k)
def h_ref1_Digits:Sh:=⟨[.a kI],some ([],[.a .str]),none⟩
def u_ref1_Digits_1005:Cu:=⟨0,[3,4],[.a kI,.a .str]⟩
def wqrw(k:Nat): Cxt:=⟨[wq18a k],[],[(1005,u_ref1_Digits_1005.spec)],[]⟩
def wq9w(k:Nat){R:Type}(E1005:(Int→(List UInt8)→Option R))(s0:Int)(s1:(List UInt8))(K:((List UInt8)→Option R)): Option R:=cond (decide (s0>0)) (cond (joins (wq4a [(@Go.IntKind.wrap Go.IntKind.u8 (@Go.IntKind.wrap Go.IntKind.i64 ((48:Int)+(Int.tmod s0 10))))]) s1) (E1005 (@Go.IntKind.wrap Go.IntKind.i64 (Int.tdiv s0 10)) ((wq4a [(@Go.IntKind.wrap Go.IntKind.u8 (@Go.IntKind.wrap Go.IntKind.i64 ((48:Int)+(Int.tmod s0 10))))])++s1)) none) (K s1)
def wqkn(k:Nat){R:Type}(E1005:(Int→(List UInt8)→Option R))(x0:Int)(K:((List UInt8)→Option R)): Option R:=wqhh k x0 (fun y5=>cond (y5 == 0) (K [48]) (E1005 y5 []))
def wq53(k:Nat){R:Type}: Nat→Int→(List UInt8)→((List UInt8)→Option R)→Option R
 |0,_,_,_=>none
 |n+1,s0,s1,K=>wq9w k (fun s0 s1=>wq53 k n s0 s1 K) s0 s1 K
theorem wqls(k:Nat){R:Type}: ∀(I:Nat→St→Option R) (n:Nat),h_ref1_Digits.lp u_ref1_Digits_1005 (wqrw k).cx k Tryz.f20 1005 [1,1,1,1,0,0] I n=wq53 k n:=h_ref1_Digits.lok u_ref1_Digits_1005 (B:=wq9w k) (L:=wq53 k) (fun I=>by kernel_rfl) (fun I=>by kernel_rfl) (fun n=>by kernel_rfl) (fun _ _ _ _=>rfl)
def wqbi(k:Nat){R:Type}(x0:Int)(K:((List UInt8)→Option R)): Option R:=wqkn k (fun s0 s1=>wq53 k k s0 s1 K) x0 K
theorem wq12b(k:Nat): DOK Tryz.prog 20 (h_ref1_Digits.run (@wqbi k)):=dok h_ref1_Digits (wqrw k) Tryz.f20 k (ok1 (wq189 k) ok0) (by kernel_rfl) (by kernel_rfl) fun R=>h_ref1_Digits.f1 u_ref1_Digits_1005 (wqkn k) (by kernel_rfl) (wqls k (fun _ _=>none) k) (by kernel_rfl)
def wq12c(k:Nat): Ent:=h_ref1_Digits.e 20 (@wqbi k)
end Go.Proofs.YtabkhphoacmcdaaGreatDoor.Pvm
end
