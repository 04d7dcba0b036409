/- The Go function ConfigMade returns true for every slice of numbers and all numbers at, how and to. -/
import Derived.Test.YtabkhphoacmcdaaGreatDoorChecked
import Derived.WalkKit
import Derived.WalkSpells
import Derived.WalkLawsBesides
import Derived.Lib.Builder
import Derived.Lib.AppendStr
import Derived.Lib.UnsafeStr
import Derived.Laws.Externs
import Derived.Shelf.RegionOpenPlain
import Derived.Deep.Heap
import Derived.Lib.Bytealg
import Derived.Shelf.GgClosure.StringsIndexFuncTop
import Derived.Shelf.Strings.FuncGrows
import Derived.Test.YtabkhphoacmcdaaGreatDoorConfigMadeM0
import Derived.Test.YtabkhphoacmcdaaGreatDoorConfigMadeM1
import Derived.Test.YtabkhphoacmcdaaGreatDoorConfigMadeM2
set_option linter.unusedVariables false
set_option linter.unusedSimpArgs false
set_option linter.unusedSectionVars false
noncomputable section
set_option maxRecDepth 1000000
set_option maxHeartbeats 0
namespace Go.Proofs.YtabkhphoacmcdaaGreatDoor.Pvm
open Go Go.Proofs
def h_field_Seen_Known:Sh:=⟨[.g [.s kdT72],.a kI,.s .str],some ([],[.g [.a kI,.a kI]]),none⟩
abbrev wq1a:Type 1:=(R:Type)→(List dT72)→Int→(List (List UInt8))→(Int→Int→Option R)→Option R
def u_field_Seen_Known_1006:Cu:=⟨0,[2,3,6,8,25,26,27],[.s .str,.o 13 77 0 [.s kdT72],.o 16 29 0 [.a kI,.a kI],.o 18 73 0 [.a kI,.a kI,.a .str,.a .bool,.s .str,.s kI],.s .str,.a kI,.a kI]⟩
def wqj3(k:Nat): Cxt:=⟨[wq9q k,wq8p k,wq66 k],[],[(1006,u_field_Seen_Known_1006.spec)],[(9,(.of [(1,1),(3,1),(0,1),(2,1),(4,1),(5,1),(6,0),(7,0)] .done))]⟩
def wqea(k:Nat){R:Type}(E1006:((List (List UInt8))→(List dT72)→Int→Int→Int→Int→(List UInt8)→Bool→(List (List UInt8))→(List Int)→(List (List UInt8))→Int→Int→Option R))(s0:(List (List UInt8)))(s1:(List dT72))(s2 s3 s4 s5:Int)(s6:(List UInt8))(s7:Bool)(s8:(List (List UInt8)))(s9:(List Int))(s10:(List (List UInt8)))(s11 s12:Int)(K:(Int→Int→Option R)): Option R:=cond (decide (s12<s11)) (cond (inb s12 (s10.length:Int)) (wq4c k s0 (s10.getD s12.toNat Kd.str.zero) (fun y17=>cond (!y17) (cond (inb s12 (s9.length:Int)) (wq3g k s1 (s9.getD s12.toNat kI.zero) 5 K) none) (E1006 s0 s1 s2 s3 s4 s5 s6 s7 s8 s9 s10 s11 (@Go.IntKind.wrap Go.IntKind.i64 (s12+1))))) none) (K 0 0)
def wqj4(k:Nat){R:Type}(E1006:((List (List UInt8))→(List dT72)→Int→Int→Int→Int→(List UInt8)→Bool→(List (List UInt8))→(List Int)→(List (List UInt8))→Int→Int→Option R))(x0:(List dT72))(x1:Int)(x2:(List (List UInt8)))(K:(Int→Int→Option R)): Option R:=wq3h k x0 x1 3 (fun y7 y8=>cond (y7 != 0) (K y7 y8) (cond (inb x1 (x0.length:Int)) (E1006 x2 x0 0 0 (x0.getD x1.toNat kdT72.zero).1 ((x0.getD x1.toNat kdT72.zero).2).1 (((x0.getD x1.toNat kdT72.zero).2).2).1 ((((x0.getD x1.toNat kdT72.zero).2).2).2).1 (((((x0.getD x1.toNat kdT72.zero).2).2).2).2).1 (((((x0.getD x1.toNat kdT72.zero).2).2).2).2).2 (((((x0.getD x1.toNat kdT72.zero).2).2).2).2).1 (((((((x0.getD x1.toNat kdT72.zero).2).2).2).2).1).length:Int) 0) none))
def wq7p(k:Nat){R:Type}: Nat→(List (List UInt8))→(List dT72)→Int→Int→Int→Int→(List UInt8)→Bool→(List (List UInt8))→(List Int)→(List (List UInt8))→Int→Int→(Int→Int→Option R)→Option R
 |0,_,_,_,_,_,_,_,_,_,_,_,_,_,_=>none
 |n+1,s0,s1,s2,s3,s4,s5,s6,s7,s8,s9,s10,s11,s12,K=>wqea k (fun s0 s1 s2 s3 s4 s5 s6 s7 s8 s9 s10 s11 s12=>wq7p k n s0 s1 s2 s3 s4 s5 s6 s7 s8 s9 s10 s11 s12 K) s0 s1 s2 s3 s4 s5 s6 s7 s8 s9 s10 s11 s12 K
theorem wqim(k:Nat){R:Type}: ∀(I:Nat→St→Option R) (n:Nat),h_field_Seen_Known.lp u_field_Seen_Known_1006 (wqj3 k).cx k Tryz.f70 1006 [1,1,1,0,1,0] I n=wq7p k n:=h_field_Seen_Known.lok u_field_Seen_Known_1006 (B:=wqea k) (L:=wq7p k) (fun I=>by kernel_rfl) (fun I=>by kernel_rfl) (fun n=>by kernel_rfl) (fun _ _ _ _=>rfl)
def wq1u(k:Nat){R:Type}(x0:(List dT72))(x1:Int)(x2:(List (List UInt8)))(K:(Int→Int→Option R)): Option R:=wqj4 k (fun s0 s1 s2 s3 s4 s5 s6 s7 s8 s9 s10 s11 s12=>wq7p k k s0 s1 s2 s3 s4 s5 s6 s7 s8 s9 s10 s11 s12 K) x0 x1 x2 K
theorem wqb0(k:Nat): DOK Tryz.prog 70 (h_field_Seen_Known.run (@wq1u k)):=dok h_field_Seen_Known (wqj3 k) Tryz.f70 k (ok1 (wq7x k) (ok1 (wq8o k) (ok1 (wq5b k) ok0))) (by kernel_rfl) (by kernel_rfl) fun R=>h_field_Seen_Known.f1 u_field_Seen_Known_1006 (wqj4 k) (by kernel_rfl) (wqim k (fun _ _=>none) k) (by kernel_rfl)
def h_num_Add:Sh:=⟨[.a kI,.a kI],some ([],[.a kI]),none⟩
def wq1fr(k:Nat): Cxt:=⟨[wqyb k],[],[],[]⟩
def wq1fs(k:Nat){R:Type}(x0 x1:Int)(K:(Int→Option R)): Option R:=wqde k x0 (fun y5=>wqde k x1 (fun y6=>cond (decide (y5>(@Go.IntKind.wrap Go.IntKind.i64 ((4611686018427387904:Int)-y6)))) (K 4611686018427387904) (K (@Go.IntKind.wrap Go.IntKind.i64 (y5+y6)))))
def wq13e:=@wq1fs
theorem wq1ft(k:Nat): DOK Tryz.prog 264 (h_num_Add.run (@wq13e k)):=dok h_num_Add (wq1fr k) Tryz.f264 k (ok1 (wqya k) ok0) (by kernel_rfl) (by kernel_rfl) fun R=>by kernel_rfl
def wq1fu(k:Nat): Ent:=h_num_Add.e 264 (@wq13e k)
def h_num_Mul:Sh:=⟨[.a kI,.a kI],some ([],[.a kI]),none⟩
def wq1fv(k:Nat): Cxt:=⟨[wqyb k],[],[],[]⟩
def wq1fw(k:Nat){R:Type}(x0 x1:Int)(K:(Int→Option R)): Option R:=wqde k x0 (fun y5=>wqde k x1 (fun y6=>cond ((!((decide (y6>0)) == true)) || (y6 != 0)) (cond (cond (decide (y6>0)) (decide (y5>(@Go.IntKind.wrap Go.IntKind.i64 (Int.tdiv 4611686018427387904 y6)))) false) (K 4611686018427387904) (K (@Go.IntKind.wrap Go.IntKind.i64 (y5*y6)))) none))
def wq13f:=@wq1fw
theorem wq1fx(k:Nat): DOK Tryz.prog 265 (h_num_Mul.run (@wq13f k)):=dok h_num_Mul (wq1fv k) Tryz.f265 k (ok1 (wqya k) ok0) (by kernel_rfl) (by kernel_rfl) fun R=>by kernel_rfl
def wq1fy(k:Nat): Ent:=h_num_Mul.e 265 (@wq13f k)
def h_num_Parse:Sh:=⟨[.a .str],some ([],[.a kI,.a .bool]),none⟩
def u_num_Parse_1003:Cu:=⟨0,[0,4,8],[.a .str,.a kI,.t 78]⟩
def wq11w(k:Nat): Cxt:=⟨[wqyd k,wq1fu k,wq1fy k],[],[(1003,u_num_Parse_1003.spec)],[]⟩
def wqme(k:Nat){R:Type}(E1003:((List UInt8)→Int→(List UInt8)→Int→Option R))(s0:(List UInt8))(s1:Int)(s2:(List UInt8))(s3:Int)(K:(Int→Bool→Option R)): Option R:=cond (decide (s3<(s2.length:Int))) (cond (decide (s3<(s2.length:Int))) (cond (cond (decide ((nxtC s2 s3)<48)) true (decide ((nxtC s2 s3)>57))) (K 0 false) (wq13f k s1 10 (fun y8=>wq13e k y8 (@Go.IntKind.wrap Go.IntKind.i64 (@Go.IntKind.wrap Go.IntKind.i32 ((nxtC s2 s3)-48))) (fun y9=>E1003 s0 y9 s2 (nxtP s2 s3))))) none) (wq4e k s1 (fun y8=>cond (!(y8 == s0)) (K 0 false) (K s1 true)))
def wq11x(k:Nat){R:Type}(E1003:((List UInt8)→Int→(List UInt8)→Int→Option R))(x0:(List UInt8))(K:(Int→Bool→Option R)): Option R:=E1003 x0 0 x0 0
def wqdj(k:Nat){R:Type}: Nat→(List UInt8)→Int→(List UInt8)→Int→(Int→Bool→Option R)→Option R
 |0,_,_,_,_,_=>none
 |n+1,s0,s1,s2,s3,K=>wqme k (fun s0 s1 s2 s3=>wqdj k n s0 s1 s2 s3 K) s0 s1 s2 s3 K
theorem wqrj(k:Nat){R:Type}: ∀(I:Nat→St→Option R) (n:Nat),h_num_Parse.lp u_num_Parse_1003 (wq11w k).cx k Tryz.f260 1003 [1,1,0,1,0] I n=wqdj k n:=h_num_Parse.lok u_num_Parse_1003 (B:=wqme k) (L:=wqdj k) (fun I=>by kernel_rfl) (fun I=>by kernel_rfl) (fun n=>by kernel_rfl) (fun _ _ _ _=>rfl)
def wqto(k:Nat){R:Type}(x0:(List UInt8))(K:(Int→Bool→Option R)): Option R:=wq11x k (fun s0 s1 s2 s3=>wqdj k k s0 s1 s2 s3 K) x0 K
theorem wq1bb(k:Nat): DOK Tryz.prog 260 (h_num_Parse.run (@wqto k)):=dok h_num_Parse (wq11w k) Tryz.f260 k (ok1 (wqjy k) (ok1 (wq1ft k) (ok1 (wq1fx k) ok0))) (by kernel_rfl) (by kernel_rfl) fun R=>h_num_Parse.f1 u_num_Parse_1003 (wq11x k) (by kernel_rfl) (wqrj k (fun _ _=>none) k) (by kernel_rfl)
def wq1bc(k:Nat): Ent:=h_num_Parse.e 260 (@wqto k)
def h_field_Seen_Number:Sh:=⟨[.g [.s kdT72],.a kI,.a kI,.a kI],some ([],[.a kI,.g [.a kI,.a kI]]),none⟩
abbrev wq4f:Type 1:=(R:Type)→(List dT72)→Int→Int→Int→(Int→Int→Int→Option R)→Option R
def wqrk(k:Nat): Cxt:=⟨[wq66 k,wql9 k,wq1bc k],[],[],[(3,(.of [(1,1),(0,1),(2,0)] .done))]⟩
def wqrl(k:Nat){R:Type}(x0:(List dT72))(x1 x2 x3:Int)(K:(Int→Int→Int→Option R)): Option R:=wq6p k x0 x1 13 (fun y7 y8 y9=>cond (y8 != 0) (K 0 y8 y9) (wqto k y7 (fun y10 y11=>cond (cond (cond (!y11) true (decide (y10<x2))) true (decide (y10>x3))) (wq3g k x0 x1 13 (fun y12 y13=>K 0 y12 y13)) (K y10 0 0))))
def wq5o:=@wqrl
theorem wqrm(k:Nat): DOK Tryz.prog 240 (h_field_Seen_Number.run (@wq5o k)):=dok h_field_Seen_Number (wqrk k) Tryz.f240 k (ok1 (wq5b k) (ok1 (wqg2 k) (ok1 (wq1bb k) ok0))) (by kernel_rfl) (by kernel_rfl) fun R=>by kernel_rfl
def h_unit_names:Sh:=⟨[],some ([],[.s .str]),none⟩
def wq17u(k:Nat): Cxt:=⟨[],[],[],[]⟩
def wq17v(k:Nat){R:Type}(K:((List (List UInt8))→Option R)): Option R:=K [[],[115,101,99,111,110,100],[109,105,110,117,116,101],[104,111,117,114],[100,97,121]]
def wqq5:=@wq17v
theorem wq17w(k:Nat): DOK Tryz.prog 259 (h_unit_names.run (@wqq5 k)):=dok h_unit_names (wq17u k) Tryz.f259 k ok0 (by kernel_rfl) (by kernel_rfl) fun R=>by kernel_rfl
def wq17x(k:Nat): Ent:=h_unit_names.e 259 (@wqq5 k)
def h_unit_Of:Sh:=⟨[.a .str],some ([],[.a kI]),none⟩
abbrev wqfn:Type 1:=(R:Type)→(List UInt8)→(Int→Option R)→Option R
def wq1fz(k:Nat): Cxt:=⟨[wq6r k,wq17x k],[],[],[]⟩
def wq1g0(k:Nat){R:Type}(x0:(List UInt8))(K:(Int→Option R)): Option R:=wqq5 k (fun y4=>wq45 k y4 x0 (fun y5=>K (cond true (@ite (@Kd.T kI) ((0:Int)>y5) (@Int.decLt y5 (0:Int)) (0:Int) y5) (@ite (@Kd.T kI) ((0:Int)<y5) (@Int.decLt (0:Int) y5) (0:Int) y5))))
def wqk4:=@wq1g0
theorem wq1g1(k:Nat): DOK Tryz.prog 239 (h_unit_Of.run (@wqk4 k)):=dok h_unit_Of (wq1fz k) Tryz.f239 k (ok1 (wq6q k) (ok1 (wq17w k) ok0)) (by kernel_rfl) (by kernel_rfl) fun R=>by kernel_rfl
def h_config_reader_rule:Sh:=⟨[.o 1 79 0 [.s kdT72,.w 21 64 (.pr .str (.sl kI)),.w 51 57 kdT56,.a .flt],.a kI],some ([.o 1 79 0 [.s kdT72,.w 21 64 (.pr .str (.sl kI)),.w 51 57 kdT56,.a .flt]],[.g [.a .str,.a kI,.a kI,.a .flt,.a .bool,.a .bool]]),some ([.o 1 79 0 [.s kdT72,.w 21 64 (.pr .str (.sl kI)),.w 51 57 kdT56,.a .flt]],[.i 29 (.g [.a kI,.a kI])])⟩
abbrev wqbi:Type 1:=(R:Type)→(List dT72)→(List ((List UInt8)×(List Int)))→(List dT56)→Nat→Int→((List dT72)→(List ((List UInt8)×(List Int)))→(List dT56)→Nat→(List UInt8)→Int→Int→Nat→Bool→Bool→Option R)→((List dT72)→(List ((List UInt8)×(List Int)))→(List dT56)→Nat→Int→Int→Option R)→Option R
def u_config_reader_rule_1005:Cu:=⟨1,[0,1,4,28,29,30],[.o 1 79 0 [.s kdT72,.w 21 64 (.pr .str (.sl kI)),.w 51 57 kdT56,.a .flt],.r 1 0,.a kI,.o 14 55 0 [.a .str,.a kI,.a kI,.a .flt,.a .bool,.a .bool],.s .str,.a kI,.a kI]⟩
def wq97(k:Nat)(wqd:wq2l)(wq5:wq1a)(wq7:wq21)(wq2:wqy)(wq0:wqu)(wq1s:wq5c)(wql:wq3s)(wqc:wq28)(wqh:wq2x)(wq6d:wqfn)(wq13:wq4f): Cxt:=⟨[h_config_gives.e 69 wqd,h_field_Seen_Known.e 70 wq5,h_config_reader_ratio.e 72 wq7,h_config_reader_must.e 73 wq2,h_config_reader_fault.e 75 wq0,h_field_Seen_Need.e 112 wq1s,h_field_Seen_Find.e 123 wql,h_config_reader_name.e 126 wqc,h_config_reader_bool.e 207 wqh,h_unit_Of.e 239 wq6d,h_field_Seen_Number.e 240 wq13],[1],[(1005,u_config_reader_rule_1005.spec)],[(16,(.of [(0,1),(1,1),(2,1),(4,1),(5,1),(3,2)] (.alt 6 (.alt 7 (.of [(8,1),(9,1),(10,1),(11,0),(12,1),(13,0)] .done) (.op 11 0 (.of [(7,0),(8,1),(9,1),(10,1),(12,1),(13,0)] .done))) (.op 11 0 (.of [(6,0),(7,0),(8,1),(9,1),(10,1),(12,1),(13,0)] .done)))))]⟩
def wqd1(k:Nat)(wqd:wq2l)(wq5:wq1a)(wq7:wq21)(wq2:wqy)(wq0:wqu)(wq1s:wq5c)(wql:wq3s)(wqc:wq28)(wqh:wq2x)(wq6d:wqfn)(wq13:wq4f){R:Type}(E1005:((List dT72)→(List ((List UInt8)×(List Int)))→(List dT56)→Nat→Int→(List UInt8)→Int→Int→Nat→Bool→Bool→(List (List UInt8))→Int→Int→Option R))(s0:(List dT72))(s1:(List ((List UInt8)×(List Int))))(s2:(List dT56))(s3:Nat)(s4:Int)(s5:(List UInt8))(s6 s7:Int)(s8:Nat)(s9 s10:Bool)(s11:(List (List UInt8)))(s12 s13:Int)(K:((List dT72)→(List ((List UInt8)×(List Int)))→(List dT56)→Nat→(List UInt8)→Int→Int→Nat→Bool→Bool→Option R))(E:((List dT72)→(List ((List UInt8)×(List Int)))→(List dT56)→Nat→Int→Int→Option R)): Option R:=cond (decide (s13<s12)) (cond (inb s13 (s11.length:Int)) (wql R s0 s4 (s11.getD s13.toNat Kd.str.zero) (fun y19 y20=>cond y20 (wq0 R s0 s4 17 (fun y21 y22=>E s0 s1 s2 s3 y21 y22)) (E1005 s0 s1 s2 s3 s4 s5 s6 s7 s8 s9 s10 s11 s12 (@Go.IntKind.wrap Go.IntKind.i64 (s13+1))))) none) (wql R s0 s4 [110,97,109,101] (fun y19 y20=>cond y20 (wqc R s0 y19 (fun y21=>K s0 s1 s2 s3 y21 s6 s7 s8 s9 s10) (fun y21 y22=>E s0 s1 s2 s3 y21 y22)) (K s0 s1 s2 s3 s5 s6 s7 s8 s9 s10)))
def wqbj(k:Nat)(wqd:wq2l)(wq5:wq1a)(wq7:wq21)(wq2:wqy)(wq0:wqu)(wq1s:wq5c)(wql:wq3s)(wqc:wq28)(wqh:wq2x)(wq6d:wqfn)(wq13:wq4f){R:Type}(E1005:((List dT72)→(List ((List UInt8)×(List Int)))→(List dT56)→Nat→Int→(List UInt8)→Int→Int→Nat→Bool→Bool→(List (List UInt8))→Int→Int→Option R))(x0:(List dT72))(x1:(List ((List UInt8)×(List Int))))(x2:(List dT56))(x3:Nat)(x4:Int)(K:((List dT72)→(List ((List UInt8)×(List Int)))→(List dT56)→Nat→(List UInt8)→Int→Int→Nat→Bool→Bool→Option R))(E:((List dT72)→(List ((List UInt8)×(List Int)))→(List dT56)→Nat→Int→Int→Option R)): Option R:=wq5 R x0 x4 [[117,110,108,105,109,105,116,101,100],[117,110,105,116],[114,101,113,117,101,115,116,115,95,112,101,114,95,117,110,105,116],[110,101,97,114],[110,97,109,101]] (fun y10 y11=>wqd R y10 y11 (fun y12=>wqh R x0 x4 [117,110,108,105,109,105,116,101,100] (fun y13=>cond y13 (E1005 x0 x1 x2 x3 x4 [] 0 0 0 false y13 [[117,110,105,116],[114,101,113,117,101,115,116,115,95,112,101,114,95,117,110,105,116],[110,101,97,114]] (@List.length (@Kd.T Kd.str) [[(117:UInt8),110,105,116],[(114:UInt8),101,113,117,101,115,116,115,95,112,101,114,95,117,110,105,116],[(110:UInt8),101,97,114]]:Int) 0) (wq2 R x0 x4 [117,110,105,116] (fun y14=>wq1s R x0 y14 1 (fun y15 y16=>wqd R y15 y16 (fun y17=>cond (inb y14 (x0.length:Int)) (wq6d R (((x0.getD y14.toNat kdT72.zero).2).2).1 (fun y18=>cond (y18 == 0) (wq0 R x0 y14 16 (fun y19 y20=>E x0 x1 x2 x3 y19 y20)) (both (wq2 R x0 x4 [114,101,113,117,101,115,116,115,95,112,101,114,95,117,110,105,116] (fun y19=>dupT (@Shp.b @Shp.o @Shp.o) (wq13 R x0 y19 0 4294967295 (fun y20 y21 y22=>wqd R y21 y22 (fun y23=>wq7 R x0 x4 [110,101,97,114] x3 (fun y24=>wql R x0 x4 [110,97,109,101] (fun y25 y26=>cond y26 (wqc R x0 y25 (fun y27=>K x0 x1 x2 x3 y27 y18 y20 y24 false y13) (fun y27 y28=>E x0 x1 x2 x3 y27 y28)) (K x0 x1 x2 x3 [] y18 y20 y24 false y13))) (fun y24 y25=>E x0 x1 x2 x3 y24 y25)) (fun y23 y24=>E x0 x1 x2 x3 y23 y24)))) (fun y19 y20=>E x0 x1 x2 x3 y19 y20)) (wq2 R x0 x4 [114,101,113,117,101,115,116,115,95,112,101,114,95,117,110,105,116] (fun y19=>wq13 R x0 y19 0 4294967295 (fun y20 y21 y22=>wqd R y21 y22 (fun y23=>wq7 R x0 x4 [110,101,97,114] x3 (fun y24=>wql R x0 x4 [110,97,109,101] (fun y25 y26=>cond y26 (wqc R x0 y25 (fun y27=>K x0 x1 x2 x3 y27 y18 y20 y24 false y13) (fun y27 y28=>E x0 x1 x2 x3 y27 y28)) (K x0 x1 x2 x3 [] y18 y20 y24 false y13))) (fun y24 y25=>E x0 x1 x2 x3 y24 y25)) (fun y23 y24=>E x0 x1 x2 x3 y23 y24))) (fun y19 y20=>E x0 x1 x2 x3 y19 y20))))) none) (fun y17 y18=>E x0 x1 x2 x3 y17 y18))) (fun y14 y15=>E x0 x1 x2 x3 y14 y15))) (fun y13 y14=>E x0 x1 x2 x3 y13 y14)) (fun y12 y13=>E x0 x1 x2 x3 y12 y13))
def wq98(k:Nat)(wqd:wq2l)(wq5:wq1a)(wq7:wq21)(wq2:wqy)(wq0:wqu)(wq1s:wq5c)(wql:wq3s)(wqc:wq28)(wqh:wq2x)(wq6d:wqfn)(wq13:wq4f){R:Type}(E1005:((List dT72)→(List ((List UInt8)×(List Int)))→(List dT56)→Nat→Int→(List UInt8)→Int→Int→Nat→Bool→Bool→(List (List UInt8))→Int→Int→Option R))(x0:(List dT72))(x1:(List ((List UInt8)×(List Int))))(x2:(List dT56))(x3:Nat)(x4:Int)(K:((List dT72)→(List ((List UInt8)×(List Int)))→(List dT56)→Nat→(List UInt8)→Int→Int→Nat→Bool→Bool→Option R))(E:((List dT72)→(List ((List UInt8)×(List Int)))→(List dT56)→Nat→Int→Int→Option R)): Option R:=wq5 R x0 x4 [[117,110,108,105,109,105,116,101,100],[117,110,105,116],[114,101,113,117,101,115,116,115,95,112,101,114,95,117,110,105,116],[110,101,97,114],[110,97,109,101]] (fun y10 y11=>wqd R y10 y11 (fun y12=>wqh R x0 x4 [117,110,108,105,109,105,116,101,100] (fun y13=>cond y13 (E1005 x0 x1 x2 x3 x4 [] 0 0 0 false y13 [[117,110,105,116],[114,101,113,117,101,115,116,115,95,112,101,114,95,117,110,105,116],[110,101,97,114]] (@List.length (@Kd.T Kd.str) [[(117:UInt8),110,105,116],[(114:UInt8),101,113,117,101,115,116,115,95,112,101,114,95,117,110,105,116],[(110:UInt8),101,97,114]]:Int) 0) (wq2 R x0 x4 [117,110,105,116] (fun y14=>wq1s R x0 y14 1 (fun y15 y16=>wqd R y15 y16 (fun y17=>cond (inb y14 (x0.length:Int)) (wq6d R (((x0.getD y14.toNat kdT72.zero).2).2).1 (fun y18=>cond (y18 == 0) (wq0 R x0 y14 16 (fun y19 y20=>E x0 x1 x2 x3 y19 y20)) (wq2 R x0 x4 [114,101,113,117,101,115,116,115,95,112,101,114,95,117,110,105,116] (fun y19=>wq13 R x0 y19 0 4294967295 (fun y20 y21 y22=>wqd R y21 y22 (fun y23=>wq7 R x0 x4 [110,101,97,114] x3 (fun y24=>wql R x0 x4 [110,97,109,101] (fun y25 y26=>cond y26 (wqc R x0 y25 (fun y27=>K x0 x1 x2 x3 y27 y18 y20 y24 false y13) (fun y27 y28=>E x0 x1 x2 x3 y27 y28)) (K x0 x1 x2 x3 [] y18 y20 y24 false y13))) (fun y24 y25=>E x0 x1 x2 x3 y24 y25)) (fun y23 y24=>E x0 x1 x2 x3 y23 y24))) (fun y19 y20=>E x0 x1 x2 x3 y19 y20)))) none) (fun y17 y18=>E x0 x1 x2 x3 y17 y18))) (fun y14 y15=>E x0 x1 x2 x3 y14 y15))) (fun y13 y14=>E x0 x1 x2 x3 y13 y14)) (fun y12 y13=>E x0 x1 x2 x3 y12 y13))
theorem wqk5(k:Nat)(wqd:wq2l)(wq5:wq1a)(wq7:wq21)(wq2:wqy)(wq0:wqu)(wq1s:wq5c)(wql:wq3s)(wqc:wq28)(wqh:wq2x)(wq6d:wqfn)(wq13:wq4f){R:Type}: @wqbj k wqd wq5 wq7 wq2 wq0 wq1s wql wqc wqh wq6d wq13 R=@wq98 k wqd wq5 wq7 wq2 wq0 wq1s wql wqc wqh wq6d wq13 R:=by funext E1005 x0 x1 x2 x3 x4 K E;unfold wqbj wq98;simp only[wqup,show ∀(R:Type) (a:Option R),both a a=a from fun R a=>by unfold both;exact if_pos rfl]
def wq5e(k:Nat)(wqd:wq2l)(wq5:wq1a)(wq7:wq21)(wq2:wqy)(wq0:wqu)(wq1s:wq5c)(wql:wq3s)(wqc:wq28)(wqh:wq2x)(wq6d:wqfn)(wq13:wq4f){R:Type}: Nat→(List dT72)→(List ((List UInt8)×(List Int)))→(List dT56)→Nat→Int→(List UInt8)→Int→Int→Nat→Bool→Bool→(List (List UInt8))→Int→Int→((List dT72)→(List ((List UInt8)×(List Int)))→(List dT56)→Nat→(List UInt8)→Int→Int→Nat→Bool→Bool→Option R)→((List dT72)→(List ((List UInt8)×(List Int)))→(List dT56)→Nat→Int→Int→Option R)→Option R
 |0,_,_,_,_,_,_,_,_,_,_,_,_,_,_,_,_=>none
 |n+1,s0,s1,s2,s3,s4,s5,s6,s7,s8,s9,s10,s11,s12,s13,K,E=>wqd1 k wqd wq5 wq7 wq2 wq0 wq1s wql wqc wqh wq6d wq13 (fun s0 s1 s2 s3 s4 s5 s6 s7 s8 s9 s10 s11 s12 s13=>wq5e k wqd wq5 wq7 wq2 wq0 wq1s wql wqc wqh wq6d wq13 n s0 s1 s2 s3 s4 s5 s6 s7 s8 s9 s10 s11 s12 s13 K E) s0 s1 s2 s3 s4 s5 s6 s7 s8 s9 s10 s11 s12 s13 K E
theorem wqhh(k:Nat)(wqd:wq2l)(wq5:wq1a)(wq7:wq21)(wq2:wqy)(wq0:wqu)(wq1s:wq5c)(wql:wq3s)(wqc:wq28)(wqh:wq2x)(wq6d:wqfn)(wq13:wq4f){R:Type}: ∀(I:Nat→St→Option R) (n:Nat),h_config_reader_rule.lp u_config_reader_rule_1005 (wq97 k wqd wq5 wq7 wq2 wq0 wq1s wql wqc wqh wq6d wq13).cx k Tryz.f206 1005 [1,1,0,1,1,0,1,0] I n=wq5e k wqd wq5 wq7 wq2 wq0 wq1s wql wqc wqh wq6d wq13 n:=h_config_reader_rule.lok u_config_reader_rule_1005 (B:=wqd1 k wqd wq5 wq7 wq2 wq0 wq1s wql wqc wqh wq6d wq13) (L:=wq5e k wqd wq5 wq7 wq2 wq0 wq1s wql wqc wqh wq6d wq13) (fun I=>by kernel_rfl) (fun I=>by kernel_rfl) (fun n=>by kernel_rfl) (fun _ _ _ _=>rfl)
theorem wqq6(k:Nat)(wqd:wq2l)(wq5:wq1a)(wq7:wq21)(wq2:wqy)(wq0:wqu)(wq1s:wq5c)(wql:wq3s)(wqc:wq28)(wqh:wq2x)(wq6d:wqfn)(wq13:wq4f)(R:Type): h_config_reader_rule.at (wq97 k wqd wq5 wq7 wq2 wq0 wq1s wql wqc wqh wq6d wq13) k Tryz.f206 R=h_config_reader_rule.glue (l:=h_config_reader_rule.ps) (u:=u_config_reader_rule_1005.fs) (fun E1005=>@wqbj k wqd wq5 wq7 wq2 wq0 wq1s wql wqc wqh wq6d wq13 R E1005) (h_config_reader_rule.lp u_config_reader_rule_1005 (wq97 k wqd wq5 wq7 wq2 wq0 wq1s wql wqc wqh wq6d wq13).cx k Tryz.f206 1005 [1,1,0,1,1,0,1,0] (fun _ _=>none) k):=by kernel_rfl
def wq99(k:Nat){R:Type}(x0:(List dT72))(x1:(List ((List UInt8)×(List Int))))(x2:(List dT56))(x3:Nat)(x4:Int)(K:((List dT72)→(List ((List UInt8)×(List Int)))→(List dT56)→Nat→(List UInt8)→Int→Int→Nat→Bool→Bool→Option R))(E:((List dT72)→(List ((List UInt8)×(List Int)))→(List dT56)→Nat→Int→Int→Option R)): Option R:=wq98 k (@wq26 k) (@wq1u k) (@wq2j k) (@wq19 k) (@wqv k) (@wq3h k) (@wq2u k) (@wq2n k) (@wq3k k) (@wqk4 k) (@wq5o k) (fun s0 s1 s2 s3 s4 s5 s6 s7 s8 s9 s10 s11 s12 s13=>wq5e k (@wq26 k) (@wq1u k) (@wq2j k) (@wq19 k) (@wqv k) (@wq3h k) (@wq2u k) (@wq2n k) (@wq3k k) (@wqk4 k) (@wq5o k) k s0 s1 s2 s3 s4 s5 s6 s7 s8 s9 s10 s11 s12 s13 K E) x0 x1 x2 x3 x4 K E
theorem wqq7(k:Nat): DOK Tryz.prog 206 (h_config_reader_rule.run (@wq99 k)):=dok h_config_reader_rule (wq97 k (@wq26 k) (@wq1u k) (@wq2j k) (@wq19 k) (@wqv k) (@wq3h k) (@wq2u k) (@wq2n k) (@wq3k k) (@wqk4 k) (@wq5o k)) Tryz.f206 k (ok1 (wq6w k) (ok1 (wqb0 k) (ok1 (wqgf k) (ok1 (wq96 k) (ok1 (wq6s k) (ok1 (wq7x k) (ok1 (wq7y k) (ok1 (wqck k) (ok1 (wqhg k) (ok1 (wq1g1 k) (ok1 (wqrm k) ok0))))))))))) (by kernel_rfl) (by kernel_rfl) fun R=>(wqq6 k (@wq26 k) (@wq1u k) (@wq2j k) (@wq19 k) (@wqv k) (@wq3h k) (@wq2u k) (@wq2n k) (@wq3k k) (@wqk4 k) (@wq5o k) R).trans ((show _=h_config_reader_rule.glue (l:=h_config_reader_rule.ps) (u:=u_config_reader_rule_1005.fs) (fun E1005=>@wq98 k (@wq26 k) (@wq1u k) (@wq2j k) (@wq19 k) (@wqv k) (@wq3h k) (@wq2u k) (@wq2n k) (@wq3k k) (@wqk4 k) (@wq5o k) R E1005) (wq5e k (@wq26 k) (@wq1u k) (@wq2j k) (@wq19 k) (@wqv k) (@wq3h k) (@wq2u k) (@wq2n k) (@wq3k k) (@wqk4 k) (@wq5o k) k) by simp only[wqhh,wqk5]).trans (by kernel_rfl))
def h_field_Seen_Word:Sh:=⟨[.g [.s kdT72],.a kI],some ([],[.a .str,.g [.a kI,.a kI]]),none⟩
abbrev wqeq:Type 1:=(R:Type)→(List dT72)→Int→((List UInt8)→Int→Int→Option R)→Option R
def wqw3(k:Nat): Cxt:=⟨[wq9q k,wq66 k],[],[],[(3,(.of [(1,1),(0,1),(2,0)] .done))]⟩
def wqw4(k:Nat){R:Type}(x0:(List dT72))(x1:Int)(K:((List UInt8)→Int→Int→Option R)): Option R:=wq3h k x0 x1 1 (fun y5 y6=>cond (y5 != 0) (K [] y5 y6) (cond (inb x1 (x0.length:Int)) (cond (decide ((((((x0.getD x1.toNat kdT72.zero).2).2).1).length:Int)≤128)) (K (((x0.getD x1.toNat kdT72.zero).2).2).1 0 0) (wq3g k x0 x1 12 (fun y7 y8=>K [] y7 y8))) none))
def wqc1:=@wqw4
theorem wqw5(k:Nat): DOK Tryz.prog 204 (h_field_Seen_Word.run (@wqc1 k)):=dok h_field_Seen_Word (wqw3 k) Tryz.f204 k (ok1 (wq7x k) (ok1 (wq5b k) ok0)) (by kernel_rfl) (by kernel_rfl) fun R=>by kernel_rfl
def h_config_reader_branch_1:Sh:=⟨[.a kI,.o 11 75 0 [.o 330 79 0 [.s kdT72,.w 350 64 (.pr .str (.sl kI)),.w 380 57 kdT56,.a .flt]],.o 12 57 0 [.a .str,.a .str,.a .bool,.a kI,.a kI,.a .bool,.a .str,.a kI,.a kI,.a .flt,.a .bool,.a .bool,.s kI]],some ([.o 11 75 0 [.o 330 79 0 [.s kdT72,.w 350 64 (.pr .str (.sl kI)),.w 380 57 kdT56,.a .flt]],.r 330 0,.o 12 57 0 [.a .str,.a .str,.a .bool,.a kI,.a kI,.a .bool,.a .str,.a kI,.a kI,.a .flt,.a .bool,.a .bool,.s kI]],[.a .bool]),none⟩
def wqk6(k:Nat): Cxt:=⟨[wqma k],[11,330,12],[],[(1,(.of [(5,1),(0,1),(1,1),(2,1),(3,1),(4,1),(6,1),(7,1),(8,1),(9,0),(10,1)] .done))]⟩
def wqk7(k:Nat){R:Type}(x0:Int)(x1:(List dT72))(x2:(List ((List UInt8)×(List Int))))(x3:(List dT56))(x4:Nat)(x5 x6:(List UInt8))(x7:Bool)(x8 x9:Int)(x10:Bool)(x11:(List UInt8))(x12 x13:Int)(x14:Nat)(x15 x16:Bool)(x17:(List Int))(K:((List dT72)→(List ((List UInt8)×(List Int)))→(List dT56)→Nat→(List UInt8)→(List UInt8)→Bool→Int→Int→Bool→(List UInt8)→Int→Int→Nat→Bool→Bool→(List Int)→Bool→Option R)): Option R:=cond (inb x0 (x3.length:Int)) (wqd0 k (x3.getD x0.toNat kdT56.zero).1 ((x3.getD x0.toNat kdT56.zero).2).1 (((x3.getD x0.toNat kdT56.zero).2).2).1 ((((x3.getD x0.toNat kdT56.zero).2).2).2).1 (((((x3.getD x0.toNat kdT56.zero).2).2).2).2).1 ((((((x3.getD x0.toNat kdT56.zero).2).2).2).2).2).1 ((((((((x3.getD x0.toNat kdT56.zero).2).2).2).2).2).2).1).1 (((((((((x3.getD x0.toNat kdT56.zero).2).2).2).2).2).2).1).2).1 ((((((((((x3.getD x0.toNat kdT56.zero).2).2).2).2).2).2).1).2).2).1 (((((((((((x3.getD x0.toNat kdT56.zero).2).2).2).2).2).2).1).2).2).2).1 ((((((((((((x3.getD x0.toNat kdT56.zero).2).2).2).2).2).2).1).2).2).2).2).1 ((((((((((((x3.getD x0.toNat kdT56.zero).2).2).2).2).2).2).1).2).2).2).2).2 (((((((x3.getD x0.toNat kdT56.zero).2).2).2).2).2).2).2 x5 x6 x7 x8 x9 x10 x11 x12 x13 x14 x15 x16 x17 (fun y21=>K x1 x2 x3 x4 x5 x6 x7 x8 x9 x10 x11 x12 x13 x14 x15 x16 x17 y21)) none
def wq9a:=@wqk7
theorem wqk8(k:Nat): DOK Tryz.prog 205 (h_config_reader_branch_1.run (@wq9a k)):=dok h_config_reader_branch_1 (wqk6 k) Tryz.f205 k (ok1 (wqm9 k) ok0) (by kernel_rfl) (by kernel_rfl) fun R=>by kernel_rfl
def wqk9(k:Nat): Ent:=h_config_reader_branch_1.e 205 (@wq9a k)
abbrev wq56(R:Type): Type:=((List dT72)→(List ((List UInt8)×(List Int)))→(List dT56)→Nat→(List UInt8)→(List UInt8)→Bool→Int→Int→Bool→(List UInt8)→Int→Int→Nat→Bool→Bool→(List Int)→Int→Option R)
def h_slices_IndexFunc___int_int_branch:Sh:=⟨[.b kI,.c 205 [.o 300 75 0 [.o 330 79 0 [.s kdT72,.w 350 64 (.pr .str (.sl kI)),.w 380 57 kdT56,.a .flt]],.o 301 57 0 [.a .str,.a .str,.a .bool,.a kI,.a kI,.a .bool,.a .str,.a kI,.a kI,.a .flt,.a .bool,.a .bool,.s kI]]],some ([.o 300 75 0 [.o 330 79 0 [.s kdT72,.w 350 64 (.pr .str (.sl kI)),.w 380 57 kdT56,.a .flt]],.r 330 0,.o 301 57 0 [.a .str,.a .str,.a .bool,.a kI,.a kI,.a .bool,.a .str,.a kI,.a kI,.a .flt,.a .bool,.a .bool,.s kI]],[.a kI]),none⟩
def u_slices_IndexFunc___int_int_branch_1002:Cu:=⟨3,[0,1,7,8],[.o 300 75 0 [.o 330 79 0 [.s kdT72,.w 350 64 (.pr .str (.sl kI)),.w 380 57 kdT56,.a .flt]],.r 330 0,.o 301 57 0 [.a .str,.a .str,.a .bool,.a kI,.a kI,.a .bool,.a .str,.a kI,.a kI,.a .flt,.a .bool,.a .bool,.s kI],.b kI,.c 205 [.r 300 0,.r 301 0],.a kI,.a kI]⟩
def wq7v(k:Nat): Cxt:=⟨[wqk9 k],[300,330,301],[(1002,u_slices_IndexFunc___int_int_branch_1002.spec)],[]⟩
def wq6e(k:Nat){R:Type}(E1002:((List dT72)→(List ((List UInt8)×(List Int)))→(List dT56)→Nat→(List UInt8)→(List UInt8)→Bool→Int→Int→Bool→(List UInt8)→Int→Int→Nat→Bool→Bool→(List Int)→(List Int)→Int→Int→Option R))(s0:(List dT72))(s1:(List ((List UInt8)×(List Int))))(s2:(List dT56))(s3:Nat)(s4 s5:(List UInt8))(s6:Bool)(s7 s8:Int)(s9:Bool)(s10:(List UInt8))(s11 s12:Int)(s13:Nat)(s14 s15:Bool)(s16 s17:(List Int))(s18 s19:Int)(K:wq56 R): Option R:=cond (decide (s19<s18)) (cond (inb s19 (s17.length:Int)) (wq9a k (s17.getD s19.toNat kI.zero) s0 s1 s2 s3 s4 s5 s6 s7 s8 s9 s10 s11 s12 s13 s14 s15 s16 (fun y24 y25 y26 y27 y28 y29 y30 y31 y32 y33 y34 y35 y36 y37 y38 y39 y40 y41=>cond y41 (K y24 y25 y26 y27 y28 y29 y30 y31 y32 y33 y34 y35 y36 y37 y38 y39 y40 s19) (E1002 y24 y25 y26 y27 y28 y29 y30 y31 y32 y33 y34 y35 y36 y37 y38 y39 y40 s17 s18 (@Go.IntKind.wrap Go.IntKind.i64 (s19+1))))) none) (K s0 s1 s2 s3 s4 s5 s6 s7 s8 s9 s10 s11 s12 s13 s14 s15 s16 (@Neg.neg Int @Int.instNegInt (1:Int)))
def wq7w(k:Nat){R:Type}(E1002:((List dT72)→(List ((List UInt8)×(List Int)))→(List dT56)→Nat→(List UInt8)→(List UInt8)→Bool→Int→Int→Bool→(List UInt8)→Int→Int→Nat→Bool→Bool→(List Int)→(List Int)→Int→Int→Option R))(x0:(List Int))(x1:(List dT72))(x2:(List ((List UInt8)×(List Int))))(x3:(List dT56))(x4:Nat)(x5 x6:(List UInt8))(x7:Bool)(x8 x9:Int)(x10:Bool)(x11:(List UInt8))(x12 x13:Int)(x14:Nat)(x15 x16:Bool)(x17:(List Int))(K:wq56 R): Option R:=E1002 x1 x2 x3 x4 x5 x6 x7 x8 x9 x10 x11 x12 x13 x14 x15 x16 x17 x0 (x0.length:Int) 0
def wq3i(k:Nat){R:Type}: Nat→(List dT72)→(List ((List UInt8)×(List Int)))→(List dT56)→Nat→(List UInt8)→(List UInt8)→Bool→Int→Int→Bool→(List UInt8)→Int→Int→Nat→Bool→Bool→(List Int)→(List Int)→Int→Int→((List dT72)→(List ((List UInt8)×(List Int)))→(List dT56)→Nat→(List UInt8)→(List UInt8)→Bool→Int→Int→Bool→(List UInt8)→Int→Int→Nat→Bool→Bool→(List Int)→Int→Option R)→Option R
 |0,_,_,_,_,_,_,_,_,_,_,_,_,_,_,_,_,_,_,_,_,_=>none
 |n+1,s0,s1,s2,s3,s4,s5,s6,s7,s8,s9,s10,s11,s12,s13,s14,s15,s16,s17,s18,s19,K=>wq6e k (fun s0 s1 s2 s3 s4 s5 s6 s7 s8 s9 s10 s11 s12 s13 s14 s15 s16 s17 s18 s19=>wq3i k n s0 s1 s2 s3 s4 s5 s6 s7 s8 s9 s10 s11 s12 s13 s14 s15 s16 s17 s18 s19 K) s0 s1 s2 s3 s4 s5 s6 s7 s8 s9 s10 s11 s12 s13 s14 s15 s16 s17 s18 s19 K
theorem wq9t(k:Nat){R:Type}: ∀(I:Nat→St→Option R) (n:Nat),h_slices_IndexFunc___int_int_branch.lp u_slices_IndexFunc___int_int_branch_1002 (wq7v k).cx k Tryz.f110 1002 [1,0,1,0] I n=wq3i k n:=h_slices_IndexFunc___int_int_branch.lok u_slices_IndexFunc___int_int_branch_1002 (B:=wq6e k) (L:=wq3i k) (fun I=>by kernel_rfl) (fun I=>by kernel_rfl) (fun n=>by kernel_rfl) (fun _ _ _ _=>rfl)
def wq5g(k:Nat){R:Type}(x0:(List Int))(x1:(List dT72))(x2:(List ((List UInt8)×(List Int))))(x3:(List dT56))(x4:Nat)(x5 x6:(List UInt8))(x7:Bool)(x8 x9:Int)(x10:Bool)(x11:(List UInt8))(x12 x13:Int)(x14:Nat)(x15 x16:Bool)(x17:(List Int))(K:wq56 R): Option R:=wq7w k (fun s0 s1 s2 s3 s4 s5 s6 s7 s8 s9 s10 s11 s12 s13 s14 s15 s16 s17 s18 s19=>wq3i k k s0 s1 s2 s3 s4 s5 s6 s7 s8 s9 s10 s11 s12 s13 s14 s15 s16 s17 s18 s19 K) x0 x1 x2 x3 x4 x5 x6 x7 x8 x9 x10 x11 x12 x13 x14 x15 x16 x17 K
theorem wqd9(k:Nat): DOK Tryz.prog 110 (h_slices_IndexFunc___int_int_branch.run (@wq5g k)):=dok h_slices_IndexFunc___int_int_branch (wq7v k) Tryz.f110 k (ok1 (wqk8 k) ok0) (by kernel_rfl) (by kernel_rfl) fun R=>h_slices_IndexFunc___int_int_branch.f1 u_slices_IndexFunc___int_int_branch_1002 (wq7w k) (by kernel_rfl) (wq9t k (fun _ _=>none) k) (by kernel_rfl)
def wqda(k:Nat): Ent:=h_slices_IndexFunc___int_int_branch.e 110 (@wq5g k)
def h_slices_ContainsFunc___int_int_branch:Sh:=⟨[.b kI,.c 205 [.o 300 75 0 [.o 330 79 0 [.s kdT72,.w 350 64 (.pr .str (.sl kI)),.w 380 57 kdT56,.a .flt]],.o 301 57 0 [.a .str,.a .str,.a .bool,.a kI,.a kI,.a .bool,.a .str,.a kI,.a kI,.a .flt,.a .bool,.a .bool,.s kI]]],some ([.o 300 75 0 [.o 330 79 0 [.s kdT72,.w 350 64 (.pr .str (.sl kI)),.w 380 57 kdT56,.a .flt]],.r 330 0,.o 301 57 0 [.a .str,.a .str,.a .bool,.a kI,.a kI,.a .bool,.a .str,.a kI,.a kI,.a .flt,.a .bool,.a .bool,.s kI]],[.a .bool]),none⟩
abbrev wq4o:Type 1:=(R:Type)→(List Int)→(List dT72)→(List ((List UInt8)×(List Int)))→(List dT56)→Nat→(List UInt8)→(List UInt8)→Bool→Int→Int→Bool→(List UInt8)→Int→Int→Nat→Bool→Bool→(List Int)→((List dT72)→(List ((List UInt8)×(List Int)))→(List dT56)→Nat→(List UInt8)→(List UInt8)→Bool→Int→Int→Bool→(List UInt8)→Int→Int→Nat→Bool→Bool→(List Int)→Bool→Option R)→Option R
def wqbk(k:Nat): Cxt:=⟨[wqda k],[300,330,301],[],[]⟩
def wqbl(k:Nat){R:Type}(x0:(List Int))(x1:(List dT72))(x2:(List ((List UInt8)×(List Int))))(x3:(List dT56))(x4:Nat)(x5 x6:(List UInt8))(x7:Bool)(x8 x9:Int)(x10:Bool)(x11:(List UInt8))(x12 x13:Int)(x14:Nat)(x15 x16:Bool)(x17:(List Int))(K:((List dT72)→(List ((List UInt8)×(List Int)))→(List dT56)→Nat→(List UInt8)→(List UInt8)→Bool→Int→Int→Bool→(List UInt8)→Int→Int→Nat→Bool→Bool→(List Int)→Bool→Option R)): Option R:=wq5g k x0 x1 x2 x3 x4 x5 x6 x7 x8 x9 x10 x11 x12 x13 x14 x15 x16 x17 (fun y21 y22 y23 y24 y25 y26 y27 y28 y29 y30 y31 y32 y33 y34 y35 y36 y37 y38=>K y21 y22 y23 y24 y25 y26 y27 y28 y29 y30 y31 y32 y33 y34 y35 y36 y37 (decide (y38≥0)))
def wq3q:=@wqbl
theorem wqbm(k:Nat): DOK Tryz.prog 65 (h_slices_ContainsFunc___int_int_branch.run (@wq3q k)):=dok h_slices_ContainsFunc___int_int_branch (wqbk k) Tryz.f65 k (ok1 (wqd9 k) ok0) (by kernel_rfl) (by kernel_rfl) fun R=>by kernel_rfl
def h_config_reader_list:Sh:=⟨[.o 1 79 0 [.s kdT72,.w 21 64 (.pr .str (.sl kI)),.w 51 57 kdT56,.a .flt],.a kI,.a kI,.a kI,.a kI],some ([.o 1 79 0 [.s kdT72,.w 21 64 (.pr .str (.sl kI)),.w 51 57 kdT56,.a .flt]],[.s kI]),some ([.o 1 79 0 [.s kdT72,.w 21 64 (.pr .str (.sl kI)),.w 51 57 kdT56,.a .flt]],[.i 29 (.g [.a kI,.a kI])])⟩
abbrev wq2k:Type 1:=(R:Type)→(List dT72)→(List ((List UInt8)×(List Int)))→(List dT56)→Nat→Int→Int→Int→Int→((List dT72)→(List ((List UInt8)×(List Int)))→(List dT56)→Nat→(List Int)→Option R)→((List dT72)→(List ((List UInt8)×(List Int)))→(List dT56)→Nat→Int→Int→Option R)→Option R
def h_config_reader_branch:Sh:=⟨[.o 1 79 0 [.s kdT72,.w 21 64 (.pr .str (.sl kI)),.w 51 57 kdT56,.a .flt],.a kI,.g [.a .str,.a .str,.a .bool,.a kI,.a kI,.a .bool,.a .str,.a kI,.a kI,.a .flt,.a .bool,.a .bool,.s kI],.b kI,.a kI],some ([.o 1 79 0 [.s kdT72,.w 21 64 (.pr .str (.sl kI)),.w 51 57 kdT56,.a .flt]],[.a kI]),some ([.o 1 79 0 [.s kdT72,.w 21 64 (.pr .str (.sl kI)),.w 51 57 kdT56,.a .flt]],[.i 29 (.g [.a kI,.a kI])])⟩
abbrev wq2t:Type 1:=(R:Type)→(List dT72)→(List ((List UInt8)×(List Int)))→(List dT56)→Nat→Int→(List UInt8)→(List UInt8)→Bool→Int→Int→Bool→(List UInt8)→Int→Int→Nat→Bool→Bool→(List Int)→(List Int)→Int→((List dT72)→(List ((List UInt8)×(List Int)))→(List dT56)→Nat→Int→Option R)→((List dT72)→(List ((List UInt8)×(List Int)))→(List dT56)→Nat→Int→Int→Option R)→Option R
def u_config_reader_list_1003:Cu:=⟨1,[0,2,3,4,11,16,17,18],[.o 1 79 0 [.s kdT72,.w 21 64 (.pr .str (.sl kI)),.w 51 57 kdT56,.a .flt],.r 1 0,.a kI,.a kI,.a kI,.w 100011 3 kI,.s kI,.a kI,.a kI]⟩
def wq9b(k:Nat)(wqi:wq2k)(wqr:wq2t): Cxt:=⟨[wqoj k,h_config_reader_branch.e 175 wqr],[1],[(1003,u_config_reader_list_1003.spec)],[]⟩
def wqd2(k:Nat)(wqi:wq2k)(wqr:wq2t){R:Type}(E1003:((List dT72)→(List ((List UInt8)×(List Int)))→(List dT56)→Nat→Int→Int→Int→(List Int)→(List Int)→Int→Int→Option R))(s0:(List dT72))(s1:(List ((List UInt8)×(List Int))))(s2:(List dT56))(s3:Nat)(s4 s5 s6:Int)(s7 s8:(List Int))(s9 s10:Int)(K:((List dT72)→(List ((List UInt8)×(List Int)))→(List dT56)→Nat→(List Int)→Option R))(E:((List dT72)→(List ((List UInt8)×(List Int)))→(List dT56)→Nat→Int→Int→Option R)): Option R:=cond (decide (s10<s9)) (cond (inb s10 (s8.length:Int)) (wqr R s0 s1 s2 s3 (s8.getD s10.toNat kI.zero) [] [] false s4 s5 false [] 0 0 0 false false [] s7 s6 (fun y16 y17 y18 y19 y20=>cond (fits s7.length (@List.length (@Kd.T kI) [y20]) 8) (E1003 y16 y17 y18 y19 s4 s5 s6 (s7++[y20]) s8 s9 (@Go.IntKind.wrap Go.IntKind.i64 (s10+1))) none) E) none) (K s0 s1 s2 s3 s7)
def wqcl(k:Nat)(wqi:wq2k)(wqr:wq2t){R:Type}(E1003:((List dT72)→(List ((List UInt8)×(List Int)))→(List dT56)→Nat→Int→Int→Int→(List Int)→(List Int)→Int→Int→Option R))(x0:(List dT72))(x1:(List ((List UInt8)×(List Int))))(x2:(List dT56))(x3:Nat)(x4 x5 x6 x7:Int)(K:((List dT72)→(List ((List UInt8)×(List Int)))→(List dT56)→Nat→(List Int)→Option R))(E:((List dT72)→(List ((List UInt8)×(List Int)))→(List dT56)→Nat→Int→Int→Option R)): Option R:=wq3p k x0 x4 [100,101,115,99,114,105,112,116,111,114,115] (fun y13=>E1003 x0 x1 x2 x3 x5 x6 x7 [] y13 (y13.length:Int) 0) (fun y13 y14=>E x0 x1 x2 x3 y13 y14)
def wq6i(k:Nat)(wqi:wq2k)(wqr:wq2t){R:Type}: Nat→(List dT72)→(List ((List UInt8)×(List Int)))→(List dT56)→Nat→Int→Int→Int→(List Int)→(List Int)→Int→Int→((List dT72)→(List ((List UInt8)×(List Int)))→(List dT56)→Nat→(List Int)→Option R)→((List dT72)→(List ((List UInt8)×(List Int)))→(List dT56)→Nat→Int→Int→Option R)→Option R
 |0,_,_,_,_,_,_,_,_,_,_,_,_,_=>none
 |n+1,s0,s1,s2,s3,s4,s5,s6,s7,s8,s9,s10,K,E=>wqd2 k wqi wqr (fun s0 s1 s2 s3 s4 s5 s6 s7 s8 s9 s10=>wq6i k wqi wqr n s0 s1 s2 s3 s4 s5 s6 s7 s8 s9 s10 K E) s0 s1 s2 s3 s4 s5 s6 s7 s8 s9 s10 K E
theorem wqhi(k:Nat)(wqi:wq2k)(wqr:wq2t){R:Type}: ∀(I:Nat→St→Option R) (n:Nat),h_config_reader_list.lp u_config_reader_list_1003 (wq9b k wqi wqr).cx k Tryz.f129 1003 [1,1,0,1,0] I n=wq6i k wqi wqr n:=h_config_reader_list.lok u_config_reader_list_1003 (B:=wqd2 k wqi wqr) (L:=wq6i k wqi wqr) (fun I=>by kernel_rfl) (fun I=>by kernel_rfl) (fun n=>by kernel_rfl) (fun _ _ _ _=>rfl)
theorem wqq8(k:Nat)(wqi:wq2k)(wqr:wq2t)(R:Type): h_config_reader_list.at (wq9b k wqi wqr) k Tryz.f129 R=h_config_reader_list.glue (l:=h_config_reader_list.ps) (u:=u_config_reader_list_1003.fs) (fun E1003=>@wqcl k wqi wqr R E1003) (h_config_reader_list.lp u_config_reader_list_1003 (wq9b k wqi wqr).cx k Tryz.f129 1003 [1,1,0,1,0] (fun _ _=>none) k):=by kernel_rfl
def wqfo(k:Nat)(wqi:wq2k)(wqr:wq2t)(wq20:wq4o)(wqd:wq2l)(wq5:wq1a)(wq2:wqy)(wq0:wqu)(wql:wq3s)(wqc:wq28)(wq82:wqeq)(wq59:wqbi)(wqh:wq2x): Cxt:=⟨[h_slices_ContainsFunc___int_int_branch.e 65 wq20,h_config_gives.e 69 wqd,h_field_Seen_Known.e 70 wq5,h_config_reader_must.e 73 wq2,h_config_reader_fault.e 75 wq0,h_field_Seen_Find.e 123 wql,h_config_reader_name.e 126 wqc,h_config_reader_list.e 129 wqi,h_field_Seen_Word.e 204 wq82,h_config_reader_rule.e 206 wq59,h_config_reader_bool.e 207 wqh],[1],[],[(6,(.of [(2,1),(1,1),(0,2),(3,0),(4,0),(5,1),(6,0)] .done)),(16,(.of [(1,1),(2,1),(3,1),(4,1),(5,1),(6,1),(0,2),(7,0),(8,0),(9,1),(10,1),(11,1),(12,0)] .done)),(25,(.of [(5,1),(0,1),(1,1),(2,1),(3,1),(4,1),(6,1),(7,1),(8,0)] .done))]⟩
def wqfp(k:Nat)(wqi:wq2k)(wqr:wq2t)(wq20:wq4o)(wqd:wq2l)(wq5:wq1a)(wq2:wqy)(wq0:wqu)(wql:wq3s)(wqc:wq28)(wq82:wqeq)(wq59:wqbi)(wqh:wq2x){R:Type}(x0:(List dT72))(x1:(List ((List UInt8)×(List Int))))(x2:(List dT56))(x3:Nat)(x4:Int)(x5 x6:(List UInt8))(x7:Bool)(x8 x9:Int)(x10:Bool)(x11:(List UInt8))(x12 x13:Int)(x14:Nat)(x15 x16:Bool)(x17 x18:(List Int))(x19:Int)(K:((List dT72)→(List ((List UInt8)×(List Int)))→(List dT56)→Nat→Int→Option R))(E:((List dT72)→(List ((List UInt8)×(List Int)))→(List dT56)→Nat→Int→Int→Option R)): Option R:=cond (decide (x19>8)) (wq0 R x0 x4 8 (fun y24 y25=>E x0 x1 x2 x3 y24 y25)) (cond (decide ((x2.length:Int)≥500)) (wq0 R x0 x4 9 (fun y24 y25=>E x0 x1 x2 x3 y24 y25)) (wq5 R x0 x4 [[107,101,121],[118,97,108,117,101],[114,97,116,101,95,108,105,109,105,116],[115,104,97,100,111,119,95,109,111,100,101],[100,101,115,99,114,105,112,116,111,114,115]] (fun y24 y25=>wqd R y24 y25 (fun y26=>wq2 R x0 x4 [107,101,121] (fun y27=>wqc R x0 y27 (fun y28=>wql R x0 x4 [118,97,108,117,101] (fun y29 y30=>cond y30 (wq82 R x0 y29 (fun y31 y32 y33=>wqd R y32 y33 (fun y34=>wq20 R x18 x0 x1 x2 x3 y28 y31 false x8 x9 x10 x11 x12 x13 x14 x15 x16 x17 (fun y35 y36 y37 y38 y39 y40 y41 y42 y43 y44 y45 y46 y47 y48 y49 y50 y51 y52=>cond y52 (wq0 R y35 x4 7 (fun y53 y54=>E y35 y36 y37 y38 y53 y54)) (cond (fits y37.length (@List.length (@Kd.T kdT56) [(y39,(y40,(y41,(y42,(y43,(y44,((y45,(y46,(y47,(y48,(y49,y50))))),y51)))))))]) 136) (wql R y35 x4 [114,97,116,101,95,108,105,109,105,116] (fun y53 y54=>cond y54 (wq59 R y35 y36 (y37++[(y39,(y40,(y41,(y42,(y43,(y44,((y45,(y46,(y47,(y48,(y49,y50))))),y51)))))))]) y38 y53 (fun y55 y56 y57 y58 y59 y60 y61 y62 y63 y64=>wqh R y55 x4 [115,104,97,100,111,119,95,109,111,100,101] (fun y65=>cond (cond y65 (!true) false) (wql R y55 x4 [115,104,97,100,111,119,95,109,111,100,101] (fun y66 y67=>wq0 R y55 y66 17 (fun y68 y69=>E y55 y56 y57 y58 y68 y69))) (wqi R y55 y56 y57 y58 x4 y42 (y37.length:Int) (@Go.IntKind.wrap Go.IntKind.i64 (x19+1)) (fun y66 y67 y68 y69 y70=>cond (inb (y37.length:Int) (y68.length:Int)) (@SH (@List (@Kd.T kdT56)) R (List.set y68 (y37.length:Int).toNat (y39,(y40,(y41,(y42,(y43,(true,((y59,(y60,(y61,(y62,(y65,y64))))),y70)))))))) (fun y71=>K y66 y67 y71 y69 (y37.length:Int))) none) E)) (fun y65 y66=>E y55 y56 y57 y58 y65 y66)) E) (wqh R y35 x4 [115,104,97,100,111,119,95,109,111,100,101] (fun y55=>cond (cond y55 (!y44) false) (wql R y35 x4 [115,104,97,100,111,119,95,109,111,100,101] (fun y56 y57=>wq0 R y35 y56 17 (fun y58 y59=>E y35 y36 (y37++[(y39,(y40,(y41,(y42,(y43,(y44,((y45,(y46,(y47,(y48,(y49,y50))))),y51)))))))]) y38 y58 y59))) (wqi R y35 y36 (y37++[(y39,(y40,(y41,(y42,(y43,(y44,((y45,(y46,(y47,(y48,(y49,y50))))),y51)))))))]) y38 x4 y42 (y37.length:Int) (@Go.IntKind.wrap Go.IntKind.i64 (x19+1)) (fun y56 y57 y58 y59 y60=>cond (inb (y37.length:Int) (y58.length:Int)) (@SH (@List (@Kd.T kdT56)) R (List.set y58 (y37.length:Int).toNat (y39,(y40,(y41,(y42,(y43,(y44,((y45,(y46,(y47,(y48,(y55,y50))))),y60)))))))) (fun y61=>K y56 y57 y61 y59 (y37.length:Int))) none) E)) (fun y55 y56=>E y35 y36 (y37++[(y39,(y40,(y41,(y42,(y43,(y44,((y45,(y46,(y47,(y48,(y49,y50))))),y51)))))))]) y38 y55 y56)))) none))) (fun y34 y35=>E x0 x1 x2 x3 y34 y35))) (wq20 R x18 x0 x1 x2 x3 y28 x6 true x8 x9 x10 x11 x12 x13 x14 x15 x16 x17 (fun y31 y32 y33 y34 y35 y36 y37 y38 y39 y40 y41 y42 y43 y44 y45 y46 y47 y48=>cond y48 (wq0 R y31 x4 7 (fun y49 y50=>E y31 y32 y33 y34 y49 y50)) (cond (fits y33.length (@List.length (@Kd.T kdT56) [(y35,(y36,(y37,(y38,(y39,(y40,((y41,(y42,(y43,(y44,(y45,y46))))),y47)))))))]) 136) (wql R y31 x4 [114,97,116,101,95,108,105,109,105,116] (fun y49 y50=>cond y50 (wq59 R y31 y32 (y33++[(y35,(y36,(y37,(y38,(y39,(y40,((y41,(y42,(y43,(y44,(y45,y46))))),y47)))))))]) y34 y49 (fun y51 y52 y53 y54 y55 y56 y57 y58 y59 y60=>wqh R y51 x4 [115,104,97,100,111,119,95,109,111,100,101] (fun y61=>cond (cond y61 (!true) false) (wql R y51 x4 [115,104,97,100,111,119,95,109,111,100,101] (fun y62 y63=>wq0 R y51 y62 17 (fun y64 y65=>E y51 y52 y53 y54 y64 y65))) (wqi R y51 y52 y53 y54 x4 y38 (y33.length:Int) (@Go.IntKind.wrap Go.IntKind.i64 (x19+1)) (fun y62 y63 y64 y65 y66=>cond (inb (y33.length:Int) (y64.length:Int)) (@SH (@List (@Kd.T kdT56)) R (List.set y64 (y33.length:Int).toNat (y35,(y36,(y37,(y38,(y39,(true,((y55,(y56,(y57,(y58,(y61,y60))))),y66)))))))) (fun y67=>K y62 y63 y67 y65 (y33.length:Int))) none) E)) (fun y61 y62=>E y51 y52 y53 y54 y61 y62)) E) (wqh R y31 x4 [115,104,97,100,111,119,95,109,111,100,101] (fun y51=>cond (cond y51 (!y40) false) (wql R y31 x4 [115,104,97,100,111,119,95,109,111,100,101] (fun y52 y53=>wq0 R y31 y52 17 (fun y54 y55=>E y31 y32 (y33++[(y35,(y36,(y37,(y38,(y39,(y40,((y41,(y42,(y43,(y44,(y45,y46))))),y47)))))))]) y34 y54 y55))) (wqi R y31 y32 (y33++[(y35,(y36,(y37,(y38,(y39,(y40,((y41,(y42,(y43,(y44,(y45,y46))))),y47)))))))]) y34 x4 y38 (y33.length:Int) (@Go.IntKind.wrap Go.IntKind.i64 (x19+1)) (fun y52 y53 y54 y55 y56=>cond (inb (y33.length:Int) (y54.length:Int)) (@SH (@List (@Kd.T kdT56)) R (List.set y54 (y33.length:Int).toNat (y35,(y36,(y37,(y38,(y39,(y40,((y41,(y42,(y43,(y44,(y51,y46))))),y56)))))))) (fun y57=>K y52 y53 y57 y55 (y33.length:Int))) none) E)) (fun y51 y52=>E y31 y32 (y33++[(y35,(y36,(y37,(y38,(y39,(y40,((y41,(y42,(y43,(y44,(y45,y46))))),y47)))))))]) y34 y51 y52)))) none))))) (fun y28 y29=>E x0 x1 x2 x3 y28 y29)) (fun y27 y28=>E x0 x1 x2 x3 y27 y28)) (fun y26 y27=>E x0 x1 x2 x3 y26 y27))))
theorem wqmf(k:Nat)(wqi:wq2k)(wqr:wq2t)(wq20:wq4o)(wqd:wq2l)(wq5:wq1a)(wq2:wqy)(wq0:wqu)(wql:wq3s)(wqc:wq28)(wq82:wqeq)(wq59:wqbi)(wqh:wq2x)(R:Type): h_config_reader_branch.at (wqfo k wqi wqr wq20 wqd wq5 wq2 wq0 wql wqc wq82 wq59 wqh) k Tryz.f175 R=@wqfp k wqi wqr wq20 wqd wq5 wq2 wq0 wql wqc wq82 wq59 wqh R:=by kernel_rfl
mutual
def wq2y:Nat→wq2k
 |0,_,_,_,_,_,_,_,_,_,_,_=>none
 |k+1,R,x0,x1,x2,x3,x4,x5,x6,x7,K,E=>wqcl k (wq2y k) (FR_config_reader_branch k) (fun s0 s1 s2 s3 s4 s5 s6 s7 s8 s9 s10=>wq6i k (wq2y k) (FR_config_reader_branch k) k s0 s1 s2 s3 s4 s5 s6 s7 s8 s9 s10 K E) x0 x1 x2 x3 x4 x5 x6 x7 K E
def FR_config_reader_branch:Nat→wq2t
 |0,_,_,_,_,_,_,_,_,_,_,_,_,_,_,_,_,_,_,_,_,_,_,_=>none
 |k+1,R,x0,x1,x2,x3,x4,x5,x6,x7,x8,x9,x10,x11,x12,x13,x14,x15,x16,x17,x18,x19,K,E=>wqfp k (wq2y k) (FR_config_reader_branch k) (@wq3q k) (@wq26 k) (@wq1u k) (@wq19 k) (@wqv k) (@wq2u k) (@wq2n k) (@wqc1 k) (@wq99 k) (@wq3k k) x0 x1 x2 x3 x4 x5 x6 x7 x8 x9 x10 x11 x12 x13 x14 x15 x16 x17 x18 x19 K E
end
def wq9c(k:Nat){R:Type}(x0:(List dT72))(x1:(List ((List UInt8)×(List Int))))(x2:(List dT56))(x3:Nat)(x4 x5 x6 x7:Int)(K:((List dT72)→(List ((List UInt8)×(List Int)))→(List dT56)→Nat→(List Int)→Option R))(E:((List dT72)→(List ((List UInt8)×(List Int)))→(List dT56)→Nat→Int→Int→Option R)): Option R:=wq2y k R x0 x1 x2 x3 x4 x5 x6 x7 K E
theorem wqom(k:Nat): DOK Tryz.prog 129 (h_config_reader_list.run (wq2y k))∧DOK Tryz.prog 175 (h_config_reader_branch.run (FR_config_reader_branch k)):=by
 induction k with
 |zero=>exact⟨h_config_reader_list.ok0 fun R=>by kernel_rfl,h_config_reader_branch.ok0 fun R=>by kernel_rfl⟩
 |succ k ih =>
  obtain⟨ih_config_reader_list,ih_config_reader_branch⟩:=ih
  exact⟨dok h_config_reader_list (wq9b k (wq2y k) (FR_config_reader_branch k)) Tryz.f129 k (ok1 (wqge k) (ok1 ih_config_reader_branch ok0)) (by kernel_rfl) (by kernel_rfl) fun R=>h_config_reader_list.f1 u_config_reader_list_1003 (wqcl k (wq2y k) (FR_config_reader_branch k)) (wqq8 k (wq2y k) (FR_config_reader_branch k) R) (wqhi k (wq2y k) (FR_config_reader_branch k) (fun _ _=>none) k) (by kernel_rfl),dok h_config_reader_branch (wqfo k (wq2y k) (FR_config_reader_branch k) (@wq3q k) (@wq26 k) (@wq1u k) (@wq19 k) (@wqv k) (@wq2u k) (@wq2n k) (@wqc1 k) (@wq99 k) (@wq3k k)) Tryz.f175 k (ok1 (wqbm k) (ok1 (wq6w k) (ok1 (wqb0 k) (ok1 (wq96 k) (ok1 (wq6s k) (ok1 (wq7y k) (ok1 (wqck k) (ok1 ih_config_reader_list (ok1 (wqw5 k) (ok1 (wqq7 k) (ok1 (wqhg k) ok0))))))))))) (by kernel_rfl) (by kernel_rfl) fun R=>wqmf k (wq2y k) (FR_config_reader_branch k) (@wq3q k) (@wq26 k) (@wq1u k) (@wq19 k) (@wqv k) (@wq2u k) (@wq2n k) (@wqc1 k) (@wq99 k) (@wq3k k) R⟩
theorem wqq9(k:Nat): DOK Tryz.prog 129 (h_config_reader_list.run (@wq9c k)):=(wqom k).1
end Go.Proofs.YtabkhphoacmcdaaGreatDoor.Pvm
namespace Go.Proofs.YtabkhphoacmcdaaGreatDoor.Pvm
open Go Go.Proofs
def h_config_reader_domain_1:Sh:=⟨[.g [.a .str,.s kI],.o 11 9 0 [.a .str]],some ([.o 11 9 0 [.a .str]],[.a .bool]),none⟩
def wqka(k:Nat): Cxt:=⟨[],[11],[],[]⟩
def wqkb(k:Nat){R:Type}(x0:(List UInt8))(x1:(List Int))(x2:(List UInt8))(K:((List UInt8)→Bool→Option R)): Option R:=K x2 (x0 == x2)
def wq9d:=@wqkb
theorem wqkc(k:Nat): DOK Tryz.prog 128 (h_config_reader_domain_1.run (@wq9d k)):=dok h_config_reader_domain_1 (wqka k) Tryz.f128 k ok0 (by kernel_rfl) (by kernel_rfl) fun R=>by kernel_rfl
def wqkd(k:Nat): Ent:=h_config_reader_domain_1.e 128 (@wq9d k)
def h_slices_IndexFunc___api_Domain_api_Domain_domain:Sh:=⟨[.s (.pr .str (.sl kI)),.c 128 [.o 300 9 0 [.a .str]]],some ([.o 300 9 0 [.a .str]],[.a kI]),none⟩
def u_slices_IndexFunc___api_Domain_api_Domain_domain_1002:Cu:=⟨1,[0,1,7,8],[.o 300 9 0 [.a .str],.s (.pr .str (.sl kI)),.c 128 [.r 300 0],.a kI,.a kI]⟩
def wq4x(k:Nat): Cxt:=⟨[wqkd k],[300],[(1002,u_slices_IndexFunc___api_Domain_api_Domain_domain_1002.spec)],[]⟩
def wq4a(k:Nat){R:Type}(E1002:((List UInt8)→(List ((List UInt8)×(List Int)))→Int→Int→Option R))(s0:(List UInt8))(s1:(List ((List UInt8)×(List Int))))(s2 s3:Int)(K:((List UInt8)→Int→Option R)): Option R:=cond (decide (s3<s2)) (cond (inb s3 (s1.length:Int)) (wq9d k (s1.getD s3.toNat (Kd.zero (@Kd.pr Kd.str (@Kd.sl kI)))).1 (s1.getD s3.toNat (Kd.zero (@Kd.pr Kd.str (@Kd.sl kI)))).2 s0 (fun y8 y9=>cond y9 (K y8 s3) (E1002 y8 s1 s2 (@Go.IntKind.wrap Go.IntKind.i64 (s3+1))))) none) (K s0 (@Neg.neg Int @Int.instNegInt (1:Int)))
def wq4y(k:Nat){R:Type}(E1002:((List UInt8)→(List ((List UInt8)×(List Int)))→Int→Int→Option R))(x0:(List ((List UInt8)×(List Int))))(x1:(List UInt8))(K:((List UInt8)→Int→Option R)): Option R:=E1002 x1 x0 (x0.length:Int) 0
def wq2b(k:Nat){R:Type}: Nat→(List UInt8)→(List ((List UInt8)×(List Int)))→Int→Int→((List UInt8)→Int→Option R)→Option R
 |0,_,_,_,_,_=>none
 |n+1,s0,s1,s2,s3,K=>wq4a k (fun s0 s1 s2 s3=>wq2b k n s0 s1 s2 s3 K) s0 s1 s2 s3 K
theorem wq6g(k:Nat){R:Type}: ∀(I:Nat→St→Option R) (n:Nat),h_slices_IndexFunc___api_Domain_api_Domain_domain.lp u_slices_IndexFunc___api_Domain_api_Domain_domain_1002 (wq4x k).cx k Tryz.f174 1002 [1,0,1,0] I n=wq2b k n:=h_slices_IndexFunc___api_Domain_api_Domain_domain.lok u_slices_IndexFunc___api_Domain_api_Domain_domain_1002 (B:=wq4a k) (L:=wq2b k) (fun I=>by kernel_rfl) (fun I=>by kernel_rfl) (fun n=>by kernel_rfl) (fun _ _ _ _=>rfl)
def wq3j(k:Nat){R:Type}(x0:(List ((List UInt8)×(List Int))))(x1:(List UInt8))(K:((List UInt8)→Int→Option R)): Option R:=wq4y k (fun s0 s1 s2 s3=>wq2b k k s0 s1 s2 s3 K) x0 x1 K
theorem wq86(k:Nat): DOK Tryz.prog 174 (h_slices_IndexFunc___api_Domain_api_Domain_domain.run (@wq3j k)):=dok h_slices_IndexFunc___api_Domain_api_Domain_domain (wq4x k) Tryz.f174 k (ok1 (wqkc k) ok0) (by kernel_rfl) (by kernel_rfl) fun R=>h_slices_IndexFunc___api_Domain_api_Domain_domain.f1 u_slices_IndexFunc___api_Domain_api_Domain_domain_1002 (wq4y k) (by kernel_rfl) (wq6g k (fun _ _=>none) k) (by kernel_rfl)
def wq87(k:Nat): Ent:=h_slices_IndexFunc___api_Domain_api_Domain_domain.e 174 (@wq3j k)
def h_slices_ContainsFunc___api_Domain_api_Domain_domain:Sh:=⟨[.s (.pr .str (.sl kI)),.c 128 [.o 300 9 0 [.a .str]]],some ([.o 300 9 0 [.a .str]],[.a .bool]),none⟩
abbrev wq35:Type 1:=(R:Type)→(List ((List UInt8)×(List Int)))→(List UInt8)→((List UInt8)→Bool→Option R)→Option R
def wq7i(k:Nat): Cxt:=⟨[wq87 k],[300],[],[]⟩
def wq7j(k:Nat){R:Type}(x0:(List ((List UInt8)×(List Int))))(x1:(List UInt8))(K:((List UInt8)→Bool→Option R)): Option R:=wq3j k x0 x1 (fun y5 y6=>K y5 (decide (y6≥0)))
def wq2g:=@wq7j
theorem wq7k(k:Nat): DOK Tryz.prog 127 (h_slices_ContainsFunc___api_Domain_api_Domain_domain.run (@wq2g k)):=dok h_slices_ContainsFunc___api_Domain_api_Domain_domain (wq7i k) Tryz.f127 k (ok1 (wq86 k) ok0) (by kernel_rfl) (by kernel_rfl) fun R=>by kernel_rfl
def h_config_reader_domain:Sh:=⟨[.o 1 79 0 [.s kdT72,.w 21 64 (.pr .str (.sl kI)),.w 51 57 kdT56,.a .flt],.a kI],some ([.o 1 79 0 [.s kdT72,.w 21 64 (.pr .str (.sl kI)),.w 51 57 kdT56,.a .flt]],[]),some ([.o 1 79 0 [.s kdT72,.w 21 64 (.pr .str (.sl kI)),.w 51 57 kdT56,.a .flt]],[.i 29 (.g [.a kI,.a kI])])⟩
abbrev wq4z:Type 1:=(R:Type)→(List dT72)→(List ((List UInt8)×(List Int)))→(List dT56)→Nat→Int→((List dT72)→(List ((List UInt8)×(List Int)))→(List dT56)→Nat→Option R)→((List dT72)→(List ((List UInt8)×(List Int)))→(List dT56)→Nat→Int→Int→Option R)→Option R
def wqfq(k:Nat)(wqd:wq2l)(wq5:wq1a)(wq2:wqy)(wq0:wqu)(wqc:wq28)(wq15:wq35)(wqi:wq2k): Cxt:=⟨[h_config_gives.e 69 wqd,h_field_Seen_Known.e 70 wq5,h_config_reader_must.e 73 wq2,h_config_reader_fault.e 75 wq0,h_config_reader_name.e 126 wqc,h_slices_ContainsFunc___api_Domain_api_Domain_domain.e 127 wq15,h_config_reader_list.e 129 wqi],[1],[],[(5,(.of [(0,1),(1,1),(2,1),(3,1),(4,1),(5,1),(6,1),(7,1),(8,0),(9,0),(10,1),(11,1),(12,1),(13,0)] .done)),(7,(.of [(0,1),(1,1),(2,1),(3,1),(5,1),(6,1),(7,1),(8,1),(12,1),(4,1),(9,1),(10,1),(11,1),(13,1),(14,1),(15,0)] .done))]⟩
def wqfr(k:Nat)(wqd:wq2l)(wq5:wq1a)(wq2:wqy)(wq0:wqu)(wqc:wq28)(wq15:wq35)(wqi:wq2k){R:Type}(x0:(List dT72))(x1:(List ((List UInt8)×(List Int))))(x2:(List dT56))(x3:Nat)(x4:Int)(K:((List dT72)→(List ((List UInt8)×(List Int)))→(List dT56)→Nat→Option R))(E:((List dT72)→(List ((List UInt8)×(List Int)))→(List dT56)→Nat→Int→Int→Option R)): Option R:=wq5 R x0 x4 [[100,111,109,97,105,110],[100,101,115,99,114,105,112,116,111,114,115]] (fun y9 y10=>wqd R y9 y10 (fun y11=>wq2 R x0 x4 [100,111,109,97,105,110] (fun y12=>wqc R x0 y12 (fun y13=>wq15 R x1 y13 (fun y14 y15=>cond y15 (wq0 R x0 y12 7 (fun y16 y17=>E x0 x1 x2 x3 y16 y17)) (cond (fits x1.length (@List.length (@Kd.T (@Kd.pr Kd.str (@Kd.sl kI))) [(y14,[])]) 40) (wqi R x0 (x1++[(y14,[])]) x2 x3 x4 (@Go.IntKind.wrap Go.IntKind.i64 (((x1++[(y14,[])]).length:Int)-1)) (@Neg.neg Int @Int.instNegInt (1:Int)) 1 (fun y16 y17 y18 y19 y20=>cond (inb (@Go.IntKind.wrap Go.IntKind.i64 ((y17.length:Int)-1)) (y17.length:Int)) (@SH (@List (@Kd.T (@Kd.pr Kd.str (@Kd.sl kI)))) R (List.set y17 (@Go.IntKind.wrap Go.IntKind.i64 ((y17.length:Int)-1)).toNat ((y17.getD (@Go.IntKind.wrap Go.IntKind.i64 ((y17.length:Int)-1)).toNat (Kd.zero (@Kd.pr Kd.str (@Kd.sl kI)))).1,y20)) (fun y21=>K y16 y21 y18 y19)) none) E) none))) (fun y13 y14=>E x0 x1 x2 x3 y13 y14)) (fun y12 y13=>E x0 x1 x2 x3 y12 y13)) (fun y11 y12=>E x0 x1 x2 x3 y11 y12))
theorem wqmg(k:Nat)(wqd:wq2l)(wq5:wq1a)(wq2:wqy)(wq0:wqu)(wqc:wq28)(wq15:wq35)(wqi:wq2k)(R:Type): h_config_reader_domain.at (wqfq k wqd wq5 wq2 wq0 wqc wq15 wqi) k Tryz.f76 R=@wqfr k wqd wq5 wq2 wq0 wqc wq15 wqi R:=by kernel_rfl
def wq4g(k:Nat){R:Type}:= @wqfr k (@wq26 k) (@wq1u k) (@wq19 k) (@wqv k) (@wq2n k) (@wq2g k) (@wq9c k) R
theorem wqmh(k:Nat): DOK Tryz.prog 76 (h_config_reader_domain.run (@wq4g k)):=dok h_config_reader_domain (wqfq k (@wq26 k) (@wq1u k) (@wq19 k) (@wqv k) (@wq2n k) (@wq2g k) (@wq9c k)) Tryz.f76 k (ok1 (wq6w k) (ok1 (wqb0 k) (ok1 (wq96 k) (ok1 (wq6s k) (ok1 (wqck k) (ok1 (wq7k k) (ok1 (wqq9 k) ok0))))))) (by kernel_rfl) (by kernel_rfl) fun R=>wqmg k (@wq26 k) (@wq1u k) (@wq19 k) (@wqv k) (@wq2n k) (@wq2g k) (@wq9c k) R
def h_config_reader_root:Sh:=⟨[.o 1 79 0 [.s kdT72,.w 21 64 (.pr .str (.sl kI)),.w 51 57 kdT56,.a .flt]],some ([.o 1 79 0 [.s kdT72,.w 21 64 (.pr .str (.sl kI)),.w 51 57 kdT56,.a .flt]],[]),some ([.o 1 79 0 [.s kdT72,.w 21 64 (.pr .str (.sl kI)),.w 51 57 kdT56,.a .flt]],[.i 29 (.g [.a kI,.a kI])])⟩
def u_config_reader_root_1005:Cu:=⟨1,[0,30,31,32],[.o 1 79 0 [.s kdT72,.w 21 64 (.pr .str (.sl kI)),.w 51 57 kdT56,.a .flt],.r 1 0,.s kI,.a kI,.a kI]⟩
def wq9e(k:Nat)(wqd:wq2l)(wq5:wq1a)(wqk:wq3a)(wq7:wq21)(wq2:wqy)(wq1q:wq5d)(wq0:wqu)(wq1i:wq4z): Cxt:=⟨[h_config_gives.e 69 wqd,h_field_Seen_Known.e 70 wq5,h_ratio_Parse.e 71 wqk,h_config_reader_ratio.e 72 wq7,h_config_reader_must.e 73 wq2,h_config_reader_items.e 74 wq1q,h_config_reader_fault.e 75 wq0,h_config_reader_domain.e 76 wq1i],[1],[(1005,u_config_reader_root_1005.spec)],[]⟩
def wqd3(k:Nat)(wqd:wq2l)(wq5:wq1a)(wqk:wq3a)(wq7:wq21)(wq2:wqy)(wq1q:wq5d)(wq0:wqu)(wq1i:wq4z){R:Type}(E1005:((List dT72)→(List ((List UInt8)×(List Int)))→(List dT56)→Nat→(List Int)→Int→Int→Option R))(s0:(List dT72))(s1:(List ((List UInt8)×(List Int))))(s2:(List dT56))(s3:Nat)(s4:(List Int))(s5 s6:Int)(K:((List dT72)→(List ((List UInt8)×(List Int)))→(List dT56)→Nat→Option R))(E:((List dT72)→(List ((List UInt8)×(List Int)))→(List dT56)→Nat→Int→Int→Option R)): Option R:=cond (decide (s6<s5)) (cond (inb s6 (s4.length:Int)) (cond (decide (s6≥16)) (wq0 R s0 (s4.getD s6.toNat kI.zero) 9 (fun y12 y13=>E s0 s1 s2 s3 y12 y13)) (wq1i R s0 s1 s2 s3 (s4.getD s6.toNat kI.zero) (fun y12 y13 y14 y15=>E1005 y12 y13 y14 y15 s4 s5 (@Go.IntKind.wrap Go.IntKind.i64 (s6+1))) E)) none) (K s0 s1 s2 s3)
def wqcm(k:Nat)(wqd:wq2l)(wq5:wq1a)(wqk:wq3a)(wq7:wq21)(wq2:wqy)(wq1q:wq5d)(wq0:wqu)(wq1i:wq4z){R:Type}(E1005:((List dT72)→(List ((List UInt8)×(List Int)))→(List dT56)→Nat→(List Int)→Int→Int→Option R))(x0:(List dT72))(x1:(List ((List UInt8)×(List Int))))(x2:(List dT56))(x3:Nat)(K:((List dT72)→(List ((List UInt8)×(List Int)))→(List dT56)→Nat→Option R))(E:((List dT72)→(List ((List UInt8)×(List Int)))→(List dT56)→Nat→Int→Int→Option R)): Option R:=wq5 R x0 0 [[110,101,97,114],[100,111,109,97,105,110,115]] (fun y9 y10=>wqd R y9 y10 (fun y11=>wqk R [48,46,56] (fun y12 y13=>wq7 R x0 0 [110,101,97,114] y12 (fun y14=>wq2 R x0 0 [100,111,109,97,105,110,115] (fun y15=>wq1q R x0 0 [100,111,109,97,105,110,115] (fun y16=>E1005 x0 x1 x2 y14 y16 (y16.length:Int) 0) (fun y16 y17=>E x0 x1 x2 y14 y16 y17)) (fun y15 y16=>E x0 x1 x2 y14 y15 y16)) (fun y14 y15=>E x0 x1 x2 y12 y14 y15))) (fun y11 y12=>E x0 x1 x2 x3 y11 y12))
def wq6j(k:Nat)(wqd:wq2l)(wq5:wq1a)(wqk:wq3a)(wq7:wq21)(wq2:wqy)(wq1q:wq5d)(wq0:wqu)(wq1i:wq4z){R:Type}: Nat→(List dT72)→(List ((List UInt8)×(List Int)))→(List dT56)→Nat→(List Int)→Int→Int→((List dT72)→(List ((List UInt8)×(List Int)))→(List dT56)→Nat→Option R)→((List dT72)→(List ((List UInt8)×(List Int)))→(List dT56)→Nat→Int→Int→Option R)→Option R
 |0,_,_,_,_,_,_,_,_,_=>none
 |n+1,s0,s1,s2,s3,s4,s5,s6,K,E=>wqd3 k wqd wq5 wqk wq7 wq2 wq1q wq0 wq1i (fun s0 s1 s2 s3 s4 s5 s6=>wq6j k wqd wq5 wqk wq7 wq2 wq1q wq0 wq1i n s0 s1 s2 s3 s4 s5 s6 K E) s0 s1 s2 s3 s4 s5 s6 K E
theorem wqhj(k:Nat)(wqd:wq2l)(wq5:wq1a)(wqk:wq3a)(wq7:wq21)(wq2:wqy)(wq1q:wq5d)(wq0:wqu)(wq1i:wq4z){R:Type}: ∀(I:Nat→St→Option R) (n:Nat),h_config_reader_root.lp u_config_reader_root_1005 (wq9e k wqd wq5 wqk wq7 wq2 wq1q wq0 wq1i).cx k Tryz.f37 1005 [1,1,1,1,1,0] I n=wq6j k wqd wq5 wqk wq7 wq2 wq1q wq0 wq1i n:=h_config_reader_root.lok u_config_reader_root_1005 (B:=wqd3 k wqd wq5 wqk wq7 wq2 wq1q wq0 wq1i) (L:=wq6j k wqd wq5 wqk wq7 wq2 wq1q wq0 wq1i) (fun I=>by kernel_rfl) (fun I=>by kernel_rfl) (fun n=>by kernel_rfl) (fun _ _ _ _=>rfl)
theorem wqqa(k:Nat)(wqd:wq2l)(wq5:wq1a)(wqk:wq3a)(wq7:wq21)(wq2:wqy)(wq1q:wq5d)(wq0:wqu)(wq1i:wq4z)(R:Type): h_config_reader_root.at (wq9e k wqd wq5 wqk wq7 wq2 wq1q wq0 wq1i) k Tryz.f37 R=h_config_reader_root.glue (l:=h_config_reader_root.ps) (u:=u_config_reader_root_1005.fs) (fun E1005=>@wqcm k wqd wq5 wqk wq7 wq2 wq1q wq0 wq1i R E1005) (h_config_reader_root.lp u_config_reader_root_1005 (wq9e k wqd wq5 wqk wq7 wq2 wq1q wq0 wq1i).cx k Tryz.f37 1005 [1,1,1,1,1,0] (fun _ _=>none) k):=by kernel_rfl
def wqcn(k:Nat){R:Type}(x0:(List dT72))(x1:(List ((List UInt8)×(List Int))))(x2:(List dT56))(x3:Nat)(K:((List dT72)→(List ((List UInt8)×(List Int)))→(List dT56)→Nat→Option R))(E:((List dT72)→(List ((List UInt8)×(List Int)))→(List dT56)→Nat→Int→Int→Option R)): Option R:=wqcm k (@wq26 k) (@wq1u k) (@wq33 k) (@wq2j k) (@wq19 k) (@wq3p k) (@wqv k) (@wq4g k) (fun s0 s1 s2 s3 s4 s5 s6=>wq6j k (@wq26 k) (@wq1u k) (@wq33 k) (@wq2j k) (@wq19 k) (@wq3p k) (@wqv k) (@wq4g k) k s0 s1 s2 s3 s4 s5 s6 K E) x0 x1 x2 x3 K E
theorem wqqb(k:Nat): DOK Tryz.prog 37 (h_config_reader_root.run (@wqcn k)):=dok h_config_reader_root (wq9e k (@wq26 k) (@wq1u k) (@wq33 k) (@wq2j k) (@wq19 k) (@wq3p k) (@wqv k) (@wq4g k)) Tryz.f37 k (ok1 (wq6w k) (ok1 (wqb0 k) (ok1 (wqm8 k) (ok1 (wqgf k) (ok1 (wq96 k) (ok1 (wqge k) (ok1 (wq6s k) (ok1 (wqmh k) ok0)))))))) (by kernel_rfl) (by kernel_rfl) fun R=>h_config_reader_root.f1 u_config_reader_root_1005 (wqcm k (@wq26 k) (@wq1u k) (@wq33 k) (@wq2j k) (@wq19 k) (@wq3p k) (@wqv k) (@wq4g k)) (wqqa k (@wq26 k) (@wq1u k) (@wq33 k) (@wq2j k) (@wq19 k) (@wq3p k) (@wqv k) (@wq4g k) R) (wqhj k (@wq26 k) (@wq1u k) (@wq33 k) (@wq2j k) (@wq19 k) (@wq3p k) (@wqv k) (@wq4g k) (fun _ _=>none) k) (by kernel_rfl)
def h_lex_sign:Sh:=⟨[.a (.int .u8)],some ([],[.a .bool]),none⟩
def wq1ds(k:Nat): Cxt:=⟨[],[],[],[]⟩
def wq1dt(k:Nat){R:Type}(x0:Int)(K:(Bool→Option R)): Option R:=K (cond (cond (cond (cond (cond (cond (decide (x0≥97)) (decide (x0≤122)) false) true (cond (decide (x0≥65)) (decide (x0≤90)) false)) true (cond (decide (x0≥48)) (decide (x0≤57)) false)) true (x0 == 95)) true (x0 == 45)) true (x0 == 46))
def wqyn:=@wq1dt
theorem wq1du(k:Nat): DOK Tryz.prog 235 (h_lex_sign.run (@wqyn k)):=dok h_lex_sign (wq1ds k) Tryz.f235 k ok0 (by kernel_rfl) (by kernel_rfl) fun R=>by kernel_rfl
def wq1dv(k:Nat): Ent:=h_lex_sign.e 235 (@wqyn k)
def h_lex_Signs:Sh:=⟨[.a .str],some ([],[.a .bool]),none⟩
def u_lex_Signs_1002:Cu:=⟨0,[0,5,6],[.a .str,.a kI,.a kI]⟩
def wq11y(k:Nat): Cxt:=⟨[wq1dv k],[],[(1002,u_lex_Signs_1002.spec)],[]⟩
def wqmi(k:Nat){R:Type}(E1002:((List UInt8)→Int→Int→Option R))(s0:(List UInt8))(s1 s2:Int)(K:(Bool→Option R)): Option R:=cond (decide (s2<s1)) (cond (inb s2 (s0.length:Int)) (wqyn k ((s0.getD s2.toNat 0).toNat:Int) (fun y7=>cond (!y7) (K false) (E1002 s0 s1 (@Go.IntKind.wrap Go.IntKind.i64 (s2+1))))) none) (K (!(s0 == [])))
def wq11z(k:Nat){R:Type}(E1002:((List UInt8)→Int→Int→Option R))(x0:(List UInt8))(K:(Bool→Option R)): Option R:=E1002 x0 (x0.length:Int) 0
def wqdk(k:Nat){R:Type}: Nat→(List UInt8)→Int→Int→(Bool→Option R)→Option R
 |0,_,_,_,_=>none
 |n+1,s0,s1,s2,K=>wqmi k (fun s0 s1 s2=>wqdk k n s0 s1 s2 K) s0 s1 s2 K
theorem wqrn(k:Nat){R:Type}: ∀(I:Nat→St→Option R) (n:Nat),h_lex_Signs.lp u_lex_Signs_1002 (wq11y k).cx k Tryz.f202 1002 [1,0,1,0] I n=wqdk k n:=h_lex_Signs.lok u_lex_Signs_1002 (B:=wqmi k) (L:=wqdk k) (fun I=>by kernel_rfl) (fun I=>by kernel_rfl) (fun n=>by kernel_rfl) (fun _ _ _ _=>rfl)
def wqnv(k:Nat){R:Type}(x0:(List UInt8))(K:(Bool→Option R)): Option R:=wq11z k (fun s0 s1 s2=>wqdk k k s0 s1 s2 K) x0 K
theorem wq120(k:Nat): DOK Tryz.prog 202 (h_lex_Signs.run (@wqnv k)):=dok h_lex_Signs (wq11y k) Tryz.f202 k (ok1 (wq1du k) ok0) (by kernel_rfl) (by kernel_rfl) fun R=>h_lex_Signs.f1 u_lex_Signs_1002 (wq11z k) (by kernel_rfl) (wqrn k (fun _ _=>none) k) (by kernel_rfl)
def wq121(k:Nat): Ent:=h_lex_Signs.e 202 (@wqnv k)
def h_show_apart:Sh:=⟨[.s .str],some ([],[.a .bool]),none⟩
def u_show_apart_1003:Cu:=⟨0,[3,7,8,9],[.m 73 .one .bool,.s .str,.a kI,.a kI]⟩
def wqyo(k:Nat): Cxt:=⟨[wq121 k],[],[(1003,u_show_apart_1003.spec)],[]⟩
def wqla(k:Nat){R:Type}(E1003:((List (List UInt8×Bool))→(List (List UInt8))→Int→Int→Option R))(s0:(List (List UInt8×Bool)))(s1:(List (List UInt8)))(s2 s3:Int)(K:(Bool→Option R)): Option R:=cond (decide (s3<s2)) (cond (inb s3 (s1.length:Int)) (wqnv k (s1.getD s3.toNat Kd.str.zero) (fun y8=>cond ((cond (!y8) true (decide (((s1.getD s3.toNat Kd.str.zero).length:Int)>64))) == false) (cond (mget Kd.bool (s1.getD s3.toNat Kd.str.zero) s0) (K false) (E1003 (mset Kd.bool (s1.getD s3.toNat Kd.str.zero) true s0) s1 s2 (@Go.IntKind.wrap Go.IntKind.i64 (s3+1)))) (K false))) none) (K true)
def wqyp(k:Nat){R:Type}(E1003:((List (List UInt8×Bool))→(List (List UInt8))→Int→Int→Option R))(x0:(List (List UInt8)))(K:(Bool→Option R)): Option R:=E1003 [] x0 (x0.length:Int) 0
def wqc2(k:Nat){R:Type}: Nat→(List (List UInt8×Bool))→(List (List UInt8))→Int→Int→(Bool→Option R)→Option R
 |0,_,_,_,_,_=>none
 |n+1,s0,s1,s2,s3,K=>wqla k (fun s0 s1 s2 s3=>wqc2 k n s0 s1 s2 s3 K) s0 s1 s2 s3 K
theorem wqqc(k:Nat){R:Type}: ∀(I:Nat→St→Option R) (n:Nat),h_show_apart.lp u_show_apart_1003 (wqyo k).cx k Tryz.f165 1003 [1,1,0,1,0] I n=wqc2 k n:=h_show_apart.lok u_show_apart_1003 (B:=wqla k) (L:=wqc2 k) (fun I=>by kernel_rfl) (fun I=>by kernel_rfl) (fun n=>by kernel_rfl) (fun _ _ _ _=>rfl)
def wqqd(k:Nat){R:Type}(x0:(List (List UInt8)))(K:(Bool→Option R)): Option R:=wqyp k (fun s0 s1 s2 s3=>wqc2 k k s0 s1 s2 s3 K) x0 K
theorem wq17y(k:Nat): DOK Tryz.prog 165 (h_show_apart.run (@wqqd k)):=dok h_show_apart (wqyo k) Tryz.f165 k (ok1 (wq120 k) ok0) (by kernel_rfl) (by kernel_rfl) fun R=>h_show_apart.f1 u_show_apart_1003 (wqyp k) (by kernel_rfl) (wqqc k (fun _ _=>none) k) (by kernel_rfl)
def wq17z(k:Nat): Ent:=h_show_apart.e 165 (@wqqd k)
def wquz:List LS:=[.obj 1 [.sl (.pr (.int .i64) (.pr (.int .i64) (.pr (.int .i64) (.pr .str .bool))))],.obj 2 [.any,.any]]
def wqv0(k:Nat): CTab:=CTab.nil
def wqhk{R:Type}(K:((List dT156)→Int→Int→Option R)): Out→Option R
 |.ret [] [(1,.var 110 [.v (.sl (.pr (.int .i64) (.pr (.int .i64) (.pr (.int .i64) (.pr .str .bool))))) y0]),(2,.var 29 [.v (.int .i64) y1,.v (.int .i64) y2])]=>K y0 y1 y2
 |_=>none
def wqro:RetSpec:=⟨[],[(1,.obj 1 [.sl (.pr (.int .i64) (.pr (.int .i64) (.pr (.int .i64) (.pr .str .bool))))]),(2,.obj 2 [.any,.any])],[]⟩
def wqyq:List (Nat×CutSpec):=[]
def wqw6:List (Nat×Plan):=[(7,(.of [(0,2),(1,0),(2,0)] .done))]
def wqke(k:Nat): Ctx:=⟨tyT,wqyq,wqv0 k,[],[1,2],wqw6,@SH⟩
def wqdl:Code:=Tryz.f149.body.getD .skip
def wqv1(k:Nat){R:Type}(x0:(List dT156))(x1 x2:Int)(K:((List dT156)→Int→Int→Option R)): Option R:=K x0 x1 x2
theorem wqyr(k:Nat){R:Type}(I:Nat→St→Option R)(x0:(List dT156))(x1 x2:Int)(K:((List dT156)→Int→Int→Option R)): fnCK (wqke k) k (at_ [1] wqdl) 12 [] wqro [.ptr 1 0,.ptr 2 0] 5 (.nilif) [(1,.var 110 [.v (.sl (.pr (.int .i64) (.pr (.int .i64) (.pr (.int .i64) (.pr .str .bool))))) x0]),(2,.var 29 [.v (.int .i64) x1,.v (.int .i64) x2])] (wqhk K)=wqv1 k x0 x1 x2 K:=by kernel_rfl
def wqi3(k:Nat){R:Type}(x0:(List dT156))(x1 x2:Int)(K:((List dT156)→Int→Int→Option R)): Option R:=wqv1 k x0 x1 x2 K
theorem wqys(k:Nat){R:Type}(x0:(List dT156))(x1 x2:Int)(K:((List dT156)→Int→Int→Option R)): fnCK (wqke k) k (at_ [1] wqdl) 12 [] wqro [.ptr 1 0,.ptr 2 0] 5 (.nilif) [(1,.var 110 [.v (.sl (.pr (.int .i64) (.pr (.int .i64) (.pr (.int .i64) (.pr .str .bool))))) x0]),(2,.var 29 [.v (.int .i64) x1,.v (.int .i64) x2])] (wqhk K)=wqi3 k x0 x1 x2 K:=by
 exact wqyr k (fun _ _=>none) x0 x1 x2 K
def wqp7(k:Nat){R:Type}: PV→List PV→List (Nm×HObj)→(Out→Option R)→Option R
 |.nilif,[.ptr 1 0,.ptr 2 0],[(1,.var 110 [.v (.sl (.pr (.int .i64) (.pr (.int .i64) (.pr (.int .i64) (.pr .str .bool))))) x0]),(2,.var 29 [.v (.int .i64) x1,.v (.int .i64) x2])],K=>wqi3 k x0 x1 x2 (fun y0 y1 y2=>K (.ret [] [(1,.var 110 [.v (.sl (.pr (.int .i64) (.pr (.int .i64) (.pr (.int .i64) (.pr .str .bool))))) y0]),(2,.var 29 [.v (.int .i64) y1,.v (.int .i64) y2])]))
 |_,_,_,_=>none
theorem wqyt(k:Nat): (wqv0 k).Ok Tryz.prog:=CTab.nil_ok
theorem wq13g(k:Nat){rec:PV}{ps:List PV}{hp:List (Nm×HObj)}{R:Type}{K:Out→Option R}{r:R}(h:wqp7 k rec ps hp K=some r): DoesToD Tryz.prog 149 rec ps hp fun out=>K out=some r:=by
 unfold wqp7 at h
 split at h
 ·rw[←wqys]at h
  have:=wq11k (P:=Tryz.prog) (cx:=wqke k) (f:=149) ⟨tyT_ok,wqyt k,fun _ _=>rfl⟩ (by kernel_rfl) (fn:=Tryz.f149) (id:=0) (ops:=opsAt (at_ [0] wqdl)) (c:=at_ [1] wqdl) (by kernel_rfl) (by kernel_rfl) (by kernel_rfl) (rs:=[]) (by kernel_rfl) (by kernel_rfl) h
  exact this.mono fun out ho=>by
   unfold wqhk at ho
   split at ho<;>first|exact ho|cases ho
 ·cases h
def wqv2(k:Nat): CTab:=CTab.nil
def wqhl{R:Type}(K:((List dT156)→Int→Int→Option R)): Out→Option R
 |.ret [] [(1,.var 110 [.v (.sl (.pr (.int .i64) (.pr (.int .i64) (.pr (.int .i64) (.pr .str .bool))))) y0]),(2,.var 29 [.v (.int .i64) y1,.v (.int .i64) y2])]=>K y0 y1 y2
 |_=>none
def wqrp:RetSpec:=⟨[],[(1,.obj 1 [.sl (.pr (.int .i64) (.pr (.int .i64) (.pr (.int .i64) (.pr .str .bool))))]),(2,.obj 2 [.any,.any])],[]⟩
def wqyu:List (Nat×CutSpec):=[]
def wqw7:List (Nat×Plan):=[(7,(.of [(0,2),(1,0),(2,0)] .done))]
def wqkf(k:Nat): Ctx:=⟨tyT,wqyu,wqv2 k,[],[1,2],wqw7,@SH⟩
def wqdm:Code:=Tryz.f149.body.getD .skip
def wqv3(k:Nat){R:Type}(x0:(List dT156))(x1 x2 x3 x4:Int)(K:((List dT156)→Int→Int→Option R)): Option R:=K [] x3 x4
theorem wqyv(k:Nat){R:Type}(I:Nat→St→Option R)(x0:(List dT156))(x1 x2 x3 x4:Int)(K:((List dT156)→Int→Int→Option R)): fnCK (wqkf k) k (at_ [1] wqdm) 12 [] wqrp [.ptr 1 0,.ptr 2 0] 5 (.ifc 29 (.agg [.v (.int .i64) x3,.v (.int .i64) x4])) [(1,.var 110 [.v (.sl (.pr (.int .i64) (.pr (.int .i64) (.pr (.int .i64) (.pr .str .bool))))) x0]),(2,.var 29 [.v (.int .i64) x1,.v (.int .i64) x2])] (wqhl K)=wqv3 k x0 x1 x2 x3 x4 K:=by kernel_rfl
def wqi4(k:Nat){R:Type}(x0:(List dT156))(x1 x2 x3 x4:Int)(K:((List dT156)→Int→Int→Option R)): Option R:=wqv3 k x0 x1 x2 x3 x4 K
theorem wqyw(k:Nat){R:Type}(x0:(List dT156))(x1 x2 x3 x4:Int)(K:((List dT156)→Int→Int→Option R)): fnCK (wqkf k) k (at_ [1] wqdm) 12 [] wqrp [.ptr 1 0,.ptr 2 0] 5 (.ifc 29 (.agg [.v (.int .i64) x3,.v (.int .i64) x4])) [(1,.var 110 [.v (.sl (.pr (.int .i64) (.pr (.int .i64) (.pr (.int .i64) (.pr .str .bool))))) x0]),(2,.var 29 [.v (.int .i64) x1,.v (.int .i64) x2])] (wqhl K)=wqi4 k x0 x1 x2 x3 x4 K:=by
 exact wqyv k (fun _ _=>none) x0 x1 x2 x3 x4 K
def wqp8(k:Nat){R:Type}: PV→List PV→List (Nm×HObj)→(Out→Option R)→Option R
 |.ifc 29 (.agg [.v (.int .i64) x3,.v (.int .i64) x4]),[.ptr 1 0,.ptr 2 0],[(1,.var 110 [.v (.sl (.pr (.int .i64) (.pr (.int .i64) (.pr (.int .i64) (.pr .str .bool))))) x0]),(2,.var 29 [.v (.int .i64) x1,.v (.int .i64) x2])],K=>wqi4 k x0 x1 x2 x3 x4 (fun y0 y1 y2=>K (.ret [] [(1,.var 110 [.v (.sl (.pr (.int .i64) (.pr (.int .i64) (.pr (.int .i64) (.pr .str .bool))))) y0]),(2,.var 29 [.v (.int .i64) y1,.v (.int .i64) y2])]))
 |_,_,_,_=>none
theorem wqyx(k:Nat): (wqv2 k).Ok Tryz.prog:=CTab.nil_ok
theorem wq13h(k:Nat){rec:PV}{ps:List PV}{hp:List (Nm×HObj)}{R:Type}{K:Out→Option R}{r:R}(h:wqp8 k rec ps hp K=some r): DoesToD Tryz.prog 149 rec ps hp fun out=>K out=some r:=by
 unfold wqp8 at h
 split at h
 ·rw[←wqyw]at h
  have:=wq11k (P:=Tryz.prog) (cx:=wqkf k) (f:=149) ⟨tyT_ok,wqyx k,fun _ _=>rfl⟩ (by kernel_rfl) (fn:=Tryz.f149) (id:=0) (ops:=opsAt (at_ [0] wqdm)) (c:=at_ [1] wqdm) (by kernel_rfl) (by kernel_rfl) (by kernel_rfl) (rs:=[]) (by kernel_rfl) (by kernel_rfl) h
  exact this.mono fun out ho=>by
   unfold wqhl at ho
   split at ho<;>first|exact ho|cases ho
 ·cases h
def h_strings_HasPrefix:Sh:=⟨[.a .str,.a .str],some ([],[.a .bool]),none⟩
def wqrq(k:Nat): Cxt:=⟨[wql5 k],[],[],[]⟩
def wqrr(k:Nat){R:Type}(x0 x1:(List UInt8))(K:(Bool→Option R)): Option R:=wq9p k x0 x1 K
def wqdn:=@wqrr
theorem wqrs(k:Nat): DOK Tryz.prog 41 (h_strings_HasPrefix.run (@wqdn k)):=dok h_strings_HasPrefix (wqrq k) Tryz.f41 k (ok1 (wql4 k) ok0) (by kernel_rfl) (by kernel_rfl) fun R=>by kernel_rfl
def wqrt(k:Nat): Ent:=h_strings_HasPrefix.e 41 (@wqdn k)
def h_lex_dash:Sh:=⟨[.a .str],some ([],[.a .bool]),none⟩
abbrev wqtp:Type 1:=(R:Type)→(List UInt8)→(Bool→Option R)→Option R
def wq1dw(k:Nat): Cxt:=⟨[wqrt k],[],[],[]⟩
def wq1dx(k:Nat){R:Type}(x0:(List UInt8))(K:(Bool→Option R)): Option R:=cond ((x0 == [(45:UInt8)]) == false) (wqdn k x0 [45,32] K) (K true)
def wqj5:=@wq1dx
theorem wq15o(k:Nat): DOK Tryz.prog 193 (h_lex_dash.run (@wqj5 k)):=dok h_lex_dash (wq1dw k) Tryz.f193 k (ok1 (wqrs k) ok0) (by kernel_rfl) (by kernel_rfl) fun R=>by kernel_rfl
def wq1dy(k:Nat): Ent:=h_lex_dash.e 193 (@wqj5 k)
def h_lex_key:Sh:=⟨[.a .str],some ([],[.a .str]),none⟩
abbrev wqyy:Type 1:=(R:Type)→(List UInt8)→((List UInt8)→Option R)→Option R
def wq1g2(k:Nat): Cxt:=⟨[wq15f k,wq121 k],[],[],[]⟩
def wq1g3(k:Nat){R:Type}(x0:(List UInt8))(K:((List UInt8)→Option R)): Option R:=wq8z k x0 58 (fun y4 y5 y6=>cond ((!y6) == false) (wqnv k y4 (fun y7=>cond ((!(((!y7) == false)&&((!(y5 == [])) == true))) || (inb 0 (y5.length:Int))) (cond (cond (!y7) true (cond (!(y5 == [])) (((y5.getD (Int.toNat 0) 0).toNat:Int) != 32) false)) (K []) (K y4)) none)) (K []))
def wqnw:=@wq1g3
theorem wq19z(k:Nat): DOK Tryz.prog 195 (h_lex_key.run (@wqnw k)):=dok h_lex_key (wq1g2 k) Tryz.f195 k (ok1 (wquw k) (ok1 (wq120 k) ok0)) (by kernel_rfl) (by kernel_rfl) fun R=>by kernel_rfl
def wq1g4(k:Nat): Ent:=h_lex_key.e 195 (@wqnw k)
def h_lex_lexer_gives:Sh:=⟨[.o 1 200 0 [.a kI,.a kI,.a .str,.a kI,.w 21 157 kdT156],.a kI],some ([.o 1 200 0 [.a kI,.a kI,.a .str,.a kI,.w 21 157 kdT156]],[]),some ([.o 1 200 0 [.a kI,.a kI,.a .str,.a kI,.w 21 157 kdT156]],[.i 29 (.g [.a kI,.a kI])])⟩
abbrev wqer:Type 1:=(R:Type)→Int→Int→(List UInt8)→Int→(List dT156)→Int→(Int→Int→(List UInt8)→Int→(List dT156)→Option R)→(Int→Int→(List UInt8)→Int→(List dT156)→Int→Int→Option R)→Option R
def wqw8(k:Nat): Cxt:=⟨[],[1],[],[]⟩
def wqw9(k:Nat){R:Type}(x0 x1:Int)(x2:(List UInt8))(x3:Int)(x4:(List dT156))(x5:Int)(K:(Int→Int→(List UInt8)→Int→(List dT156)→Option R))(E:(Int→Int→(List UInt8)→Int→(List dT156)→Int→Int→Option R)): Option R:=E x0 x1 x2 x3 x4 x5 x0
def wq2d:=@wqw9
theorem wq9u(k:Nat): DOK Tryz.prog 191 (h_lex_lexer_gives.run (@wq2d k)):=dok h_lex_lexer_gives (wqw8 k) Tryz.f191 k ok0 (by kernel_rfl) (by kernel_rfl) fun R=>by kernel_rfl
def wqc3(k:Nat): Ent:=h_lex_lexer_gives.e 191 (@wq2d k)
def h_lex_lexer_piece:Sh:=⟨[.o 1 200 0 [.a kI,.a kI,.a .str,.a kI,.w 21 157 kdT156],.a kI,.a .str,.a .bool,.a kI],some ([.o 1 200 0 [.a kI,.a kI,.a .str,.a kI,.w 21 157 kdT156]],[]),none⟩
abbrev wqes:Type 1:=(R:Type)→Int→Int→(List UInt8)→Int→(List dT156)→Int→(List UInt8)→Bool→Int→(Int→Int→(List UInt8)→Int→(List dT156)→Option R)→Option R
def wqwa(k:Nat): Cxt:=⟨[],[1],[],[(0,(.of [(0,1),(1,1),(2,1),(3,1),(5,1),(6,1),(7,1),(8,1),(9,1),(11,1),(12,1),(13,1),(14,1),(16,1),(17,1),(18,1),(21,1),(22,1),(4,1),(10,1),(15,1),(19,1),(20,1),(23,1),(24,0),(25,0),(26,1),(27,1),(28,0)] .done))]⟩
def wqwb(k:Nat){R:Type}(x0 x1:Int)(x2:(List UInt8))(x3:Int)(x4:(List dT156))(x5:Int)(x6:(List UInt8))(x7:Bool)(x8:Int)(K:(Int→Int→(List UInt8)→Int→(List dT156)→Option R)): Option R:=cond (fits x4.length (@List.length (@Kd.T kdT156) [(x5,(x0,((@Go.IntKind.wrap Go.IntKind.i64 (x1+x3)),(x6,x7))))]) 48) (K x0 x1 x2 (@Go.IntKind.wrap Go.IntKind.i64 (x3+x8)) (x4++[(x5,(x0,((@Go.IntKind.wrap Go.IntKind.i64 (x1+x3)),(x6,x7))))])) none
def wq60:=@wqwb
theorem wqlb(k:Nat): DOK Tryz.prog 194 (h_lex_lexer_piece.run (@wq60 k)):=dok h_lex_lexer_piece (wqwa k) Tryz.f194 k ok0 (by kernel_rfl) (by kernel_rfl) fun R=>by kernel_rfl
def wqwc(k:Nat): Ent:=h_lex_lexer_piece.e 194 (@wq60 k)
def h_lex_lexer_rest:Sh:=⟨[.o 1 200 0 [.a kI,.a kI,.a .str,.a kI,.w 21 157 kdT156]],some ([.o 1 200 0 [.a kI,.a kI,.a .str,.a kI,.w 21 157 kdT156]],[.a .str]),none⟩
def u_lex_lexer_rest_1001:Cu:=⟨1,[0],[.o 1 200 0 [.a kI,.a kI,.a .str,.a kI,.w 21 157 kdT156],.r 1 0]⟩
def wqmj(k:Nat): Cxt:=⟨[],[1],[(1001,u_lex_lexer_rest_1001.spec)],[(1,(.of [(0,1),(1,1),(2,1),(4,1),(5,1),(6,1),(7,1),(3,1),(8,1),(9,1),(10,1),(11,1),(12,1),(13,1),(14,1),(15,1),(17,1),(18,1),(19,1),(16,1),(20,1),(21,1),(22,1),(23,1)] .done)),(3,(.of [(0,1),(1,1),(2,1),(3,1),(5,1),(6,1),(7,1),(4,1),(8,1),(9,1),(10,1)] .done))]⟩
def wqgg(k:Nat){R:Type}(E1001:(Int→Int→(List UInt8)→Int→(List dT156)→Option R))(s0 s1:Int)(s2:(List UInt8))(s3:Int)(s4:(List dT156))(K:(Int→Int→(List UInt8)→Int→(List dT156)→(List UInt8)→Option R)): Option R:=cond ((!((decide (s3<(s2.length:Int))) == true)) || (inb s3 (s2.length:Int))) (cond (cond (decide (s3<(s2.length:Int))) (((s2.getD s3.toNat 0).toNat:Int) == 32) false) (E1001 s0 s1 s2 (@Go.IntKind.wrap Go.IntKind.i64 (s3+1)) s4) (cond (bnd s3 (s2.length:Int) (s2.length:Int)) (K s0 s1 s2 s3 s4 (cut s2 s3 (s2.length:Int))) none)) none
def wqmk(k:Nat){R:Type}(E1001:(Int→Int→(List UInt8)→Int→(List dT156)→Option R))(x0 x1:Int)(x2:(List UInt8))(x3:Int)(x4:(List dT156))(K:(Int→Int→(List UInt8)→Int→(List dT156)→(List UInt8)→Option R)): Option R:=E1001 x0 x1 x2 x3 x4
def wq8r(k:Nat){R:Type}: Nat→Int→Int→(List UInt8)→Int→(List dT156)→(Int→Int→(List UInt8)→Int→(List dT156)→(List UInt8)→Option R)→Option R
 |0,_,_,_,_,_,_=>none
 |n+1,s0,s1,s2,s3,s4,K=>wqgg k (fun s0 s1 s2 s3 s4=>wq8r k n s0 s1 s2 s3 s4 K) s0 s1 s2 s3 s4 K
theorem wqkg(k:Nat){R:Type}: ∀(I:Nat→St→Option R) (n:Nat),h_lex_lexer_rest.lp u_lex_lexer_rest_1001 (wqmj k).cx k Tryz.f192 1001 [1,0,0] I n=wq8r k n:=h_lex_lexer_rest.lok u_lex_lexer_rest_1001 (B:=wqgg k) (L:=wq8r k) (fun I=>by kernel_rfl) (fun I=>by kernel_rfl) (fun n=>by kernel_rfl) (fun _ _ _ _=>rfl)
def wq7l(k:Nat){R:Type}(x0 x1:Int)(x2:(List UInt8))(x3:Int)(x4:(List dT156))(K:(Int→Int→(List UInt8)→Int→(List dT156)→(List UInt8)→Option R)): Option R:=wqmk k (fun s0 s1 s2 s3 s4=>wq8r k k s0 s1 s2 s3 s4 K) x0 x1 x2 x3 x4 K
theorem wqyz(k:Nat): DOK Tryz.prog 192 (h_lex_lexer_rest.run (@wq7l k)):=dok h_lex_lexer_rest (wqmj k) Tryz.f192 k ok0 (by kernel_rfl) (by kernel_rfl) fun R=>h_lex_lexer_rest.f1 u_lex_lexer_rest_1001 (wqmk k) (by kernel_rfl) (wqkg k (fun _ _=>none) k) (by kernel_rfl)
def wqz0(k:Nat): Ent:=h_lex_lexer_rest.e 192 (@wq7l k)
def h_strings_IndexByte:Sh:=⟨[.a .str,.a (.int .u8)],some ([],[.a kI]),none⟩
abbrev wqco:Type 1:=(R:Type)→(List UInt8)→Int→(Int→Option R)→Option R
def wqru(k:Nat): Cxt:=⟨[wql2 k],[],[],[]⟩
def wqrv(k:Nat){R:Type}(x0:(List UInt8))(x1:Int)(K:(Int→Option R)): Option R:=wq9o k x0 x1 K
def wq2s:=@wqrv
theorem wqi5(k:Nat): DOK Tryz.prog 231 (h_strings_IndexByte.run (@wq2s k)):=dok h_strings_IndexByte (wqru k) Tryz.f231 k (ok1 (wql1 k) ok0) (by kernel_rfl) (by kernel_rfl) fun R=>by kernel_rfl
def wqrw(k:Nat): Ent:=h_strings_IndexByte.e 231 (@wq2s k)
def h_lex_lexer_taken:Sh:=⟨[.o 1 200 0 [.a kI,.a kI,.a .str,.a kI,.w 21 157 kdT156],.a .str],some ([.o 1 200 0 [.a kI,.a kI,.a .str,.a kI,.w 21 157 kdT156]],[.a (.int .u8),.a kI]),some ([.o 1 200 0 [.a kI,.a kI,.a .str,.a kI,.w 21 157 kdT156]],[.i 29 (.g [.a kI,.a kI])])⟩
def wqwd(k:Nat): Cxt:=⟨[wqc3 k,wqrw k],[1],[],[(14,(.of [(0,1),(1,1),(3,1),(4,1),(2,0),(5,0),(6,1),(7,1)] .done))]⟩
def wqwe(k:Nat){R:Type}(x0 x1:Int)(x2:(List UInt8))(x3:Int)(x4:(List dT156))(x5:(List UInt8))(K E:(Int→Int→(List UInt8)→Int→(List dT156)→Int→Int→Option R)): Option R:=cond (x5 == []) (wq2d k x0 x1 x2 x3 x4 3 (fun y10 y11 y12 y13 y14=>cond (inb 0 (x5.length:Int)) (cond (((x5.getD (Int.toNat 0) 0).toNat:Int) == 92) (cond (inb 0 (x5.length:Int)) (K y10 y11 y12 y13 y14 ((x5.getD (Int.toNat 0) 0).toNat:Int) 1) none) (cond (((x5.getD (Int.toNat 0) 0).toNat:Int) == 34) (cond (inb 0 (x5.length:Int)) (K y10 y11 y12 y13 y14 ((x5.getD (Int.toNat 0) 0).toNat:Int) 1) none) (cond (((x5.getD (Int.toNat 0) 0).toNat:Int) == 110) (K y10 y11 y12 y13 y14 10 1) (cond (((x5.getD (Int.toNat 0) 0).toNat:Int) == 116) (K y10 y11 y12 y13 y14 9 1) (cond (((x5.getD (Int.toNat 0) 0).toNat:Int) == 120) (cond (decide ((x5.length:Int)<3)) (wq2d k y10 y11 y12 y13 y14 3 (fun y15 y16 y17 y18 y19=>cond (inb 1 (x5.length:Int)) (cond (inb 2 (x5.length:Int)) (wq2s k [48,49,50,51,52,53,54,55,56,57,97,98,99,100,101,102] ((x5.getD (Int.toNat 1) 0).toNat:Int) (fun y20=>wq2s k [48,49,50,51,52,53,54,55,56,57,97,98,99,100,101,102] ((x5.getD (Int.toNat 2) 0).toNat:Int) (fun y21=>cond (cond (decide (y20<0)) true (decide (y21<0))) (wq2d k y15 y16 y17 y18 y19 3 (fun y22 y23 y24 y25 y26=>K y22 y23 y24 y25 y26 (@Go.IntKind.wrap Go.IntKind.u8 (@Go.IntKind.wrap Go.IntKind.i64 ((@Go.IntKind.wrap Go.IntKind.i64 ((16:Int)*y20))+y21))) 3) E) (K y15 y16 y17 y18 y19 (@Go.IntKind.wrap Go.IntKind.u8 (@Go.IntKind.wrap Go.IntKind.i64 ((@Go.IntKind.wrap Go.IntKind.i64 ((16:Int)*y20))+y21))) 3)))) none) none) E) (cond (inb 1 (x5.length:Int)) (cond (inb 2 (x5.length:Int)) (wq2s k [48,49,50,51,52,53,54,55,56,57,97,98,99,100,101,102] ((x5.getD (Int.toNat 1) 0).toNat:Int) (fun y15=>wq2s k [48,49,50,51,52,53,54,55,56,57,97,98,99,100,101,102] ((x5.getD (Int.toNat 2) 0).toNat:Int) (fun y16=>cond (cond (decide (y15<0)) true (decide (y16<0))) (wq2d k y10 y11 y12 y13 y14 3 (fun y17 y18 y19 y20 y21=>K y17 y18 y19 y20 y21 (@Go.IntKind.wrap Go.IntKind.u8 (@Go.IntKind.wrap Go.IntKind.i64 ((@Go.IntKind.wrap Go.IntKind.i64 ((16:Int)*y15))+y16))) 3) E) (K y10 y11 y12 y13 y14 (@Go.IntKind.wrap Go.IntKind.u8 (@Go.IntKind.wrap Go.IntKind.i64 ((@Go.IntKind.wrap Go.IntKind.i64 ((16:Int)*y15))+y16))) 3)))) none) none)) (wq2d k y10 y11 y12 y13 y14 3 (fun y15 y16 y17 y18 y19=>K y15 y16 y17 y18 y19 0 0) E)))))) none) E) (cond (inb 0 (x5.length:Int)) (cond (((x5.getD (Int.toNat 0) 0).toNat:Int) == 92) (cond (inb 0 (x5.length:Int)) (K x0 x1 x2 x3 x4 ((x5.getD (Int.toNat 0) 0).toNat:Int) 1) none) (cond (((x5.getD (Int.toNat 0) 0).toNat:Int) == 34) (cond (inb 0 (x5.length:Int)) (K x0 x1 x2 x3 x4 ((x5.getD (Int.toNat 0) 0).toNat:Int) 1) none) (cond (((x5.getD (Int.toNat 0) 0).toNat:Int) == 110) (K x0 x1 x2 x3 x4 10 1) (cond (((x5.getD (Int.toNat 0) 0).toNat:Int) == 116) (K x0 x1 x2 x3 x4 9 1) (cond (((x5.getD (Int.toNat 0) 0).toNat:Int) == 120) (cond (decide ((x5.length:Int)<3)) (wq2d k x0 x1 x2 x3 x4 3 (fun y10 y11 y12 y13 y14=>cond (inb 1 (x5.length:Int)) (cond (inb 2 (x5.length:Int)) (wq2s k [48,49,50,51,52,53,54,55,56,57,97,98,99,100,101,102] ((x5.getD (Int.toNat 1) 0).toNat:Int) (fun y15=>wq2s k [48,49,50,51,52,53,54,55,56,57,97,98,99,100,101,102] ((x5.getD (Int.toNat 2) 0).toNat:Int) (fun y16=>cond (cond (decide (y15<0)) true (decide (y16<0))) (wq2d k y10 y11 y12 y13 y14 3 (fun y17 y18 y19 y20 y21=>K y17 y18 y19 y20 y21 (@Go.IntKind.wrap Go.IntKind.u8 (@Go.IntKind.wrap Go.IntKind.i64 ((@Go.IntKind.wrap Go.IntKind.i64 ((16:Int)*y15))+y16))) 3) E) (K y10 y11 y12 y13 y14 (@Go.IntKind.wrap Go.IntKind.u8 (@Go.IntKind.wrap Go.IntKind.i64 ((@Go.IntKind.wrap Go.IntKind.i64 ((16:Int)*y15))+y16))) 3)))) none) none) E) (cond (inb 1 (x5.length:Int)) (cond (inb 2 (x5.length:Int)) (wq2s k [48,49,50,51,52,53,54,55,56,57,97,98,99,100,101,102] ((x5.getD (Int.toNat 1) 0).toNat:Int) (fun y10=>wq2s k [48,49,50,51,52,53,54,55,56,57,97,98,99,100,101,102] ((x5.getD (Int.toNat 2) 0).toNat:Int) (fun y11=>cond (cond (decide (y10<0)) true (decide (y11<0))) (wq2d k x0 x1 x2 x3 x4 3 (fun y12 y13 y14 y15 y16=>K y12 y13 y14 y15 y16 (@Go.IntKind.wrap Go.IntKind.u8 (@Go.IntKind.wrap Go.IntKind.i64 ((@Go.IntKind.wrap Go.IntKind.i64 ((16:Int)*y10))+y11))) 3) E) (K x0 x1 x2 x3 x4 (@Go.IntKind.wrap Go.IntKind.u8 (@Go.IntKind.wrap Go.IntKind.i64 ((@Go.IntKind.wrap Go.IntKind.i64 ((16:Int)*y10))+y11))) 3)))) none) none)) (wq2d k x0 x1 x2 x3 x4 3 (fun y10 y11 y12 y13 y14=>K y10 y11 y12 y13 y14 0 0) E)))))) none)
def wqg5:=@wqwe
theorem wqwf(k:Nat): DOK Tryz.prog 255 (h_lex_lexer_taken.run (@wqg5 k)):=dok h_lex_lexer_taken (wqwd k) Tryz.f255 k (ok1 (wq9u k) (ok1 (wqi5 k) ok0)) (by kernel_rfl) (by kernel_rfl) fun R=>by kernel_rfl
def wqwg(k:Nat): Ent:=h_lex_lexer_taken.e 255 (@wqg5 k)
end Go.Proofs.YtabkhphoacmcdaaGreatDoor.Pvm
set_option maxHeartbeats 2000000
set_option maxRecDepth 100000
namespace Go.Proofs.YtabkhphoacmcdaaGreatDoor.Pvm
open Go Go.Proofs Go.RowKit
theorem wq180 (b g cap:Nat) (p:Value) (l:List UInt8) (cur:Array Value) (w:World) (hbk:w.heap[b]? = some (.cells #[p,.slice (some ⟨g,0,none⟩) l.length cap] 89 (0,0))) (h0:l≠[])
 (hg:w.heap[g]? = some (.cells cur 5 (0,0))) (hnc:l.length≤cap) (hcm:cap≤maxLen) (hcs:cur.size=cap) (htake:∀(j:Nat) (x:UInt8),l[j]? = some x→w.cell? ⟨g,j,none⟩=some (.int .u8 x.toNat)) :
 Calls Tryz.prog 45 #[.pointer (some ⟨b,0,none⟩)] w fun e w'=>e = .returned (.string ⟨l.toArray⟩)∧w'=w.drew.freeze ⟨g,0,none⟩ l.length:=by
 have hl0:l.length≠0:=by simpa using h0
 have mixed:Tryz.prog.follows .mixedOrders=true:=by kernel_rfl
 have t86:Tryz.prog.underlying 140=some (.pointer 5):=by kernel_rfl
 have c1:w.drew.cell? ⟨b,1,none⟩=some (.slice (some ⟨g,0,none⟩) l.length cap):=by
  have:w.drew.heap[b]? = some (.cells #[p,.slice (some ⟨g,0,none⟩) l.length cap] 89 (0,0)):=hbk
  rw[Lib.cell_of_heap this];rfl
 have hSD:(Builtin.unsafeSliceData_ #[22] 140 #[.slice (some ⟨g,0,none⟩) l.length cap]).run Tryz.prog w.drew = .ok (.pointer (some ⟨g,0,none⟩)) w.drew :=
  Lib.run_unsafeSliceData_row _ _ _ _ _ _ (by omega)
 have hUS:(Builtin.unsafeString_ #[140,3] 9 #[.pointer (some ⟨g,0,none⟩),.int .i64 l.length]).run Tryz.prog w.drew = .ok (.string ⟨l.toArray⟩) (w.drew.freeze ⟨g,0,none⟩ l.length):=by
  refine Lib.run_unsafeString_row w.drew 140 3 9 5 t86 (by kernel_rfl) g cur.size (by have hg':w.drew.heap[g]? = some (.cells cur 5 (0,0)):=hg;simp[World.shape?,hg']) l h0 (by omega) (by unfold maxLen at hcm;omega) ?_
  intro j x hx
  have:=htake j x hx
  rw[show(⟨g,0,none⟩:Addr).add j=⟨g,j,none⟩ by simp[Addr.add];omega]
  exact this
 go_enter Tryz.func45,Tryz.ntmps45
 go_wp2
 go_region_o
 all_goals (go_wp2;go_ret;exact⟨rfl,rfl⟩)
theorem wq1dz(W:World)(q:Option Addr): (Builtin.unsafeString_ #[140,3] 9 #[.pointer q,.int .i64 0]).run Tryz.prog W = .ok (.string .empty) W :=
 Lib.run_unsafeString_none W _ _ _ q
theorem wq1e0(b:Nat)(p:Value)(w:World)(hbk:w.heap[b]? = some (.cells #[p,.slice none 0 0] 89 (0,0))):
 Calls Tryz.prog 45 #[.pointer (some ⟨b,0,none⟩)] w fun e w'=>e = .returned (.string ⟨#[]⟩)∧w'=w.drew:=by
 have hUS:=wq1dz
 have mixed:Tryz.prog.follows .mixedOrders=true:=by kernel_rfl
 have c1:w.drew.cell? ⟨b,1,none⟩=some (.slice none 0 0):=by
  have:w.drew.heap[b]? = some (.cells #[p,.slice none 0 0] 89 (0,0)):=hbk
  rw[Lib.cell_of_heap this];rfl
 have hSD:(Builtin.unsafeSliceData_ #[22] 140 #[.slice none 0 0]).run Tryz.prog w.drew = .ok (.pointer none) w.drew:=rfl
 go_enter Tryz.func45,Tryz.ntmps45
 go_wp2
 go_region_o
 all_goals (go_wp2;go_ret;exact⟨rfl,rfl⟩)
theorem wq1bd(b g cap:Nat)(p:Value)(w:World)(hc0:cap≠0)(hbk:w.heap[b]? = some (.cells #[p,.slice (some ⟨g,0,none⟩) 0 cap] 89 (0,0))):
 Calls Tryz.prog 45 #[.pointer (some ⟨b,0,none⟩)] w fun e w'=>e = .returned (.string ⟨#[]⟩)∧w'=w.drew:=by
 have hUS:=wq1dz
 have mixed:Tryz.prog.follows .mixedOrders=true:=by kernel_rfl
 have c1:w.drew.cell? ⟨b,1,none⟩=some (.slice (some ⟨g,0,none⟩) 0 cap):=by
  have:w.drew.heap[b]? = some (.cells #[p,.slice (some ⟨g,0,none⟩) 0 cap] 89 (0,0)):=hbk
  rw[Lib.cell_of_heap this];rfl
 have hSD:(Builtin.unsafeSliceData_ #[22] 140 #[.slice (some ⟨g,0,none⟩) 0 cap]).run Tryz.prog w.drew = .ok (.pointer (some ⟨g,0,none⟩)) w.drew :=
  Lib.run_unsafeSliceData_row _ _ _ _ _ _ hc0
 clear hc0
 go_enter Tryz.func45,Tryz.ntmps45
 go_wp2
 go_region_o
 all_goals (go_wp2;go_ret;exact⟨rfl,rfl⟩)
theorem wq15p(b g:Nat)(p:Value)(cur:Array Value)(w:World)(hbk:w.heap[b]? = some (.cells #[p,.slice (some ⟨g,0,none⟩) 0 0] 89 (0,0)))(hg:w.heap[g]? = some (.cells cur 5 (0,0))):
 Calls Tryz.prog 45 #[.pointer (some ⟨b,0,none⟩)] w fun e w'=>e = .returned (.string ⟨#[]⟩)∧∃ o,w'=(w.alloc o).drew:=by
 have hUS:=wq1dz
 have hlt:b<w.heap.size:=(Array.getElem?_eq_some_iff.1 hbk).1
 have mixed:Tryz.prog.follows .mixedOrders=true:=by kernel_rfl
 have c1:w.drew.cell? ⟨b,1,none⟩=some (.slice (some ⟨g,0,none⟩) 0 0):=by
  have:w.drew.heap[b]? = some (.cells #[p,.slice (some ⟨g,0,none⟩) 0 0] 89 (0,0)):=hbk
  rw[Lib.cell_of_heap this];rfl
 have hSD:(Builtin.unsafeSliceData_ #[22] 140 #[.slice (some ⟨g,0,none⟩) 0 0]).run Tryz.prog w.drew = .ok (.pointer (some ⟨w.drew.heap.size,0,none⟩)) (w.drew.alloc (.view ⟨g,0,none⟩ 5)) :=
  Lib.run_unsafeSliceData_zero w.drew _ _ 5 (by kernel_rfl) ⟨g,0,none⟩ 0 (5,cur.size) (by have hg':w.drew.heap[g]? = some (.cells cur 5 (0,0)):=hg;simp[World.shape?,hg'])
 have c2:(w.drew.alloc (.view ⟨g,0,none⟩ 5)).cell? ⟨b,1,none⟩=some (.slice (some ⟨g,0,none⟩) 0 0):=by
  have:(w.drew.alloc (.view ⟨g,0,none⟩ 5)).heap[b]? = _:=(Lib.alloc_old w.drew _ b hlt).trans hbk
  rw[Lib.cell_of_heap this];rfl
 have c3:(w.alloc (.view ⟨g,0,none⟩ 5)).drew.cell? ⟨b,1,none⟩=some (.slice (some ⟨g,0,none⟩) 0 0):=c2
 have c0:w.cell? ⟨b,1,none⟩=some (.slice (some ⟨g,0,none⟩) 0 0):=c1
 go_enter Tryz.func45,Tryz.ntmps45
 go_wp2
 go_region_o
 all_goals (go_wp2;go_ret;exact⟨rfl,_,rfl⟩)
def allB:List Int→Bool
 |[]=>true
 |x::r=>decide (0≤x)&&decide (x<256)&&allB r
def wqbr:List LS:=[.obj 1 [.nps 1 0,.own 21 5 (.int .u8)]]
def wq6x(k:Nat){R:Type}(x0:List Int)(K:List Int→List UInt8→Option R): Option R:=bif allB x0 then K x0 (wq5j x0)else none
def wq6c(k:Nat){R:Type}: List PV→List (Nm×HObj)→(Out→Option R)→Option R
 |[.ptr 1 0],[(21,.row 5 (.int .u8) x0),(1,.var 89 [.nps 1 0,.row 21])],K=>wq6x k x0 (fun y0 y1=>K (.ret [.v .str y1] [(1,.var 89 [.nps 1 0,.v (.sl (.int .u8)) y0])]))
 |_,_,_=>none
theorem wqfs(vs:Array Value)(w:World): (callFunc 45 vs).run Tryz.prog w = .ok (.enter 45 vs) w:=by
 have h1:Tryz.prog.funcs[45]? = some Tryz.f45:=by kernel_rfl
 have h2:(Tryz.f45.name == "runtime.NumGoroutine")=false:=by kernel_rfl
 have h3:Tryz.f45.body.isNone=false:=by kernel_rfl
 unfold callFunc
 rw[Sem.run_bind]
 have e2:(program).run Tryz.prog w = .ok Tryz.prog w:=rfl
 rw[e2,Result.andThen_ok,h1]
 simp only[h2,h3,Bool.false_eq_true,if_false]
 rfl
theorem wq1gv:∀ {l:List Int},allB l=true→∀(i:Nat) (y:Int),l[i]? = some y→0≤y∧y<256
 |[],_,i,y,h=>by simp at h
 |x::r,hb,0,y,h=>by
  simp only[allB,Bool.and_eq_true,decide_eq_true_eq]at hb
  simp at h;subst h;exact hb.1
 |x::r,hb,i+1,y,h=>by
  simp only[allB,Bool.and_eq_true]at hb
  exact wq1gv hb.2 i y (by simpa using h)
theorem wq181 {G:Gh} {w w':World} {x0:List Int} {HP:List (Nm×HObj)} (hHP:HP=[(21,.row 5 (.int .u8) x0),(1,.var 89 [.nps 1 0,.row 21])])
 (obj:∀ n o,mkH HP n=some o→RO (mkH HP) G w n o) (dis:Dis (mkH HP) G w) (hblk:∀ b,b<w.heap.size→(∀ g,(G.rv 21).ownBlock=some g→b≠g)→w'.heap[b]? = w.heap[b]?)
 (hcell:∀ g o,(G.rv 21).ownBlock=some g→w'.cell? ⟨g,o,none⟩=w.cell? ⟨g,o,none⟩) (grow:w.heap.size≤w'.heap.size) (os:w'.os=w.os) (tape:w'.tape=w.tape) (out:w'.output=w.output) :
 Fin HP [(1,.var 89 [.nps 1 0,.v (.sl (.int .u8)) x0])] G w G w':=by
 have l1:mkH HP 1=some (.var 89 [.nps 1 0,.row 21]):=by subst hHP;rfl
 have l2:mkH HP 21=some (.row 5 (.int .u8) x0):=by subst hHP;rfl
 generalize hHS:[((1:Nm),HObj.var 89 [.nps 1 0,.v (.sl (.int .u8)) x0])]=HS
 have m1:mkH HS 1=some (.var 89 [.nps 1 0,.v (.sl (.int .u8)) x0]):=by subst hHS;rfl
 have mo:∀ n o,mkH HS n=some o→n=1:=by
  intro n o h
  subst hHS
  simp only[mkH,look]at h
  cases hb:Nat.beq 1 n with
  |true=>exact(Nat.eq_of_beq_eq_true hb).symm
  |false=>rw[hb]at h;cases h
 have bk1:blkOf (mkH HP) G 1=some (G.bk 1):=by simp[blkOf,l1]
 have bk2:blkOf (mkH HP) G 21=(G.rv 21).ownBlock:=by simp[blkOf,l2]
 have ck1:blkOf (mkH HS) G 1=some (G.bk 1):=by simp[blkOf,m1]
 have ck:∀ n b,blkOf (mkH HS) G n=some b→n=1∧b=G.bk 1:=by
  intro n b h
  cases hn:mkH HS n with
  |none=>simp[blkOf,hn]at h
  |some o=>have:=mo n o hn;subst this;rw[ck1]at h;cases h;exact⟨rfl,rfl⟩
 have hne:∀ g,(G.rv 21).ownBlock=some g→G.bk 1≠g:=fun g hg e=>by
  have:=dis.inj 1 21 g (by rw[bk1,e]) (by rw[bk2,hg])
  cases this
 obtain⟨vs,hw,q1,t1,rfl,hq1,q2,t2,rfl,hq2,rfl⟩:=obj 1 _ l1
 obtain⟨rfl,_⟩:=hq2
 have hlt:G.bk 1<w.heap.size:=(Array.getElem?_eq_some_iff.1 hw).1
 have hw':w'.heap[G.bk 1]? = some (.cells [q1,G.rv 21].toArray 89 (0,0)):=by rw[hblk _ hlt hne];exact hw
 have hdat:RD w' (okB (mkH HS) G) (.sl (.int .u8)) x0 [G.rv 21]:=by
  have hro:=obj 21 _ l2
  obtain⟨us,hown,hr,_⟩:=hro
  rcases hown.2 with⟨hv,hn⟩|⟨g,cap,cur,hv,_,hgb,hnc,hcm,hcs,_⟩
  ·exact⟨none,0,by rw[hv,hn],by omega,.inl (List.eq_nil_of_length_eq_zero hn)⟩
  ·have hgo:(G.rv 21).ownBlock=some g:=by rw[hv];rfl
   refine⟨_,cap,by rw[hv],hnc,.inr ⟨_,rfl,?_,?_,?_⟩⟩
   ·refine⟨fun n hn => ?_,fun hx=>dis.xo 21 g (by rw[bk2,hgo]) hx⟩
    obtain⟨_,e⟩:=ck n g hn
    exact hne g hgo e.symm
   ·have:g<w.heap.size:=(Array.getElem?_eq_some_iff.1 hgb).1
    exact Nat.lt_of_lt_of_le this grow
   ·intro i y hy
    obtain⟨c,hc,hu⟩:=hr.get i y hy
    refine⟨c,hc,fun j u hj => ?_⟩
    have:=hown.cells hgo _ _ (hu j u hj)
    rw[Addr.add_lit]at this ⊢
    rw[hcell g _ hgo]
    exact this
 refine⟨fun n o hn => ?_,fun n m b h1 h2=>(ck n b h1).1.trans (ck m b h2).1.symm,fun n t cs hn o ho => ?_,fun n ag V es hn o ho=>(wqr5 (by rw[hHP];rfl) hn).elim,fun b hb hf=>hblk b hb fun g hg e=>hf 21 (by rw[bk2,hg,e]),rfl,fun n b hn => .inl ⟨1,by rw[(ck n b hn).2];exact bk1⟩,grow,os,tape,out⟩
 ·have:=mo n o hn;subst this
  rw[m1]at hn;cases hn
  refine⟨_,hw',_,_,rfl,?_,_,_,rfl,hdat,rfl⟩
  rcases hq1 with h|⟨h,_⟩
  ·exact .inl h
  ·exact .inr ⟨h,_,_,m1⟩
 ·have e1:=mo n o ho
  subst e1
  have e2:mkH HS 1=some o:=ho
  have e3:mkH HP 1=some (.var t cs):=hn
  rw[m1]at e2;rw[l1]at e3;cases e2;cases e3
  exact⟨⟨_,rfl⟩,rfl⟩
theorem wqdo(k:Nat){ps:List PV}{hp:List (Nm×HObj)}{R:Type}{K:Out→Option R}{r:R}(h:wq6c k ps hp K=some r): DoesTo Tryz.prog 45 ps hp fun out=>K out=some r:=by
 unfold wq6c at h
 split at h
 ·next x0 =>
  intro G w vals hr obj dis
  unfold wq6x at h
  cases hb:allB x0 with
  |false=>rw[hb]at h;cases h
  |true =>
   rw[hb,cond_true]at h
   obtain⟨v0,l0,rfl,h0,rfl⟩:=hr
   obtain⟨rfl,_⟩:=h0
   generalize hHP:[(21,HObj.row 5 (.int .u8) x0),(1,.var 89 [.nps 1 0,.row 21])]=HP at *
   have l1:mkH HP 1=some (.var 89 [.nps 1 0,.row 21]):=by subst hHP;rfl
   have l2:mkH HP 21=some (.row 5 (.int .u8) x0):=by subst hHP;rfl
   show Does _ _ #[_] _ _
   unfold Does
   rw[wqfs]
   obtain⟨vs,hw,q1,t1,rfl,hq1,q2,t2,rfl,hq2,rfl⟩:=obj 1 _ l1
   obtain⟨rfl,_⟩:=hq2
   have hro:=obj 21 _ l2
   obtain⟨us,hown,hrd,_⟩:=hro
   have fin:∀ {e:Ending} {w':World},e = .returned (.string ⟨(wq5j x0).toArray⟩)→(∀ b,b<w.heap.size→(∀ g,(G.rv 21).ownBlock=some g→b≠g)→w'.heap[b]? = w.heap[b]?)→(∀ g o,(G.rv 21).ownBlock=some g→w'.cell? ⟨g,o,none⟩=w.cell? ⟨g,o,none⟩)→w.heap.size≤w'.heap.size→w'.os=w.os→w'.tape=w.tape→w'.output=w.output →
    ∃ out,K out=some r∧∃ G',OutIs G' w' e out∧Fin HP out.hs G w G' w':=by
    intro e w' he h1 h2 h3 h4 h5 h6
    exact⟨_,h,G,⟨_,he,rfl⟩,wq181 hHP.symm obj dis h1 h2 h3 h4 h5 h6⟩
   rcases hown.2 with⟨hv,hn⟩|⟨g,cap,cur,hv,_,hgb,hnc,hcm,hcs,htk⟩
   ·have hx:x0=[]:=List.eq_nil_of_length_eq_zero hn
    subst hx
    rw[hv]at hw
    refine Calls.mono (wq1e0 (G.bk 1) q1 w hw) fun e w' hh => ?_
    obtain⟨rfl,rfl⟩:=hh
    exact fin rfl (fun _ _ _=>rfl) (fun _ _ _=>rfl) (Nat.le_refl _) rfl rfl rfl
   ·have hgo:(G.rv 21).ownBlock=some g:=by rw[hv];rfl
    rw[hv]at hw
    by_cases hx:x0=[]
    ·subst hx
     by_cases hc0:cap=0
     ·subst hc0
      refine Calls.mono (wq15p (G.bk 1) g q1 cur w hw hgb) fun e w' hh => ?_
      obtain⟨rfl,o,rfl⟩:=hh
      have hold:∀ b,b<w.heap.size→(w.alloc o).drew.heap[b]? = w.heap[b]? := fun b hb=>Lib.alloc_old w _ b hb
      refine fin rfl (fun b hb _=>hold b hb) (fun g' o' hg' => ?_) (by have:=World.size_alloc w o;show _≤(w.alloc o).heap.size;omega) rfl rfl rfl
      rw[hgo]at hg';cases hg'
      exact World.cell?_of_block (hold g (Array.getElem?_eq_some_iff.1 hgb).1)
     ·refine Calls.mono (wq1bd (G.bk 1) g cap q1 w hc0 hw) fun e w' hh => ?_
      obtain⟨rfl,rfl⟩:=hh
      exact fin rfl (fun _ _ _=>rfl) (fun _ _ _=>rfl) (Nat.le_refl _) rfl rfl rfl
    ·have hlen:(wq5j x0).length=x0.length:=by simp[wq5j]
     have hbytes:∀(j:Nat) (x:UInt8),(wq5j x0)[j]? = some x→w.cell? ⟨g,j,none⟩=some (.int .u8 x.toNat):=by
      intro j x hj
      have hjl:j<x0.length:=by rw[←hlen];exact(List.getElem?_eq_some_iff.1 hj).1
      have hy:x0[j]? = some x0[j]:=by simp[hjl]
      obtain⟨c,hc,hu⟩:=hrd.get j _ hy
      have hc:c=[.int .u8 x0[j]]:=hc
      have h9:=hown.cells hgo _ _ (hu 0 (.int .u8 x0[j]) (by rw[hc];rfl))
      rw[Addr.add_lit]at h9
      have hj2:x=UInt8.ofNat (x0[j]).toNat:=by
       simp only[wq5j,List.getElem?_map,hy,Option.map_some,Option.some.injEq]at hj
       exact hj.symm
      obtain⟨h10,h11⟩:=wq1gv hb j _ hy
      have:((x.toNat:Nat):Int)=x0[j]:=by
       rw[hj2,UInt8.toNat_ofNat']
       omega
      rw[this]
      have e0:0+(j*Kd.sz (.int .u8)+0)=j:=by simp[Kd.sz]
      rw[e0]at h9
      exact h9
     rw[←hlen]at hw
     have hne:wq5j x0≠[]:=by intro e;rw[e]at hlen;exact hx (List.eq_nil_of_length_eq_zero hlen.symm)
     refine Calls.mono (wq180 (G.bk 1) g cap q1 (wq5j x0) cur w hw hne hgb (by omega) hcm (by simpa [Kd.sz]using hcs) hbytes) fun e w' hh => ?_
     obtain⟨rfl,rfl⟩:=hh
     have hfz:∀ b,b≠g→(w.drew.freeze ⟨g,0,none⟩ (wq5j x0).length).heap[b]? = w.heap[b]? := by
      intro b hb
      unfold World.freeze
      split
      ·rfl
      ·show(w.heap.modify g _)[b]? = _
       rw[Array.getElem?_modify,if_neg (Ne.symm hb)]
     refine fin rfl (fun b _ hb=>hfz b (hb g hgo)) (fun g' o' hg' => ?_) ?_ ?_ ?_ ?_
     ·rw[hgo]at hg';cases hg'
      unfold World.freeze
      split
      ·rfl
      ·simp only[World.cell?,World.drew,Array.getElem?_modify,if_true,hgb,Option.map_some]
     all_goals
      unfold World.freeze
      split
      ·first|rfl|exact Nat.le_refl _
      ·first|rfl|(show w.heap.size≤(w.heap.modify g _).size;rw[Array.size_modify];exact Nat.le_refl _)
 ·cases h
end Go.Proofs.YtabkhphoacmcdaaGreatDoor.Pvm
set_option maxHeartbeats 1000000
namespace Go.Proofs.YtabkhphoacmcdaaGreatDoor.Pvm
open Go Go.Proofs Go.RowKit
theorem wq13i(b:Nat)(w:World)(h0:w.cell? ⟨b,0,none⟩=some (.pointer (some ⟨b,0,none⟩))):
 Calls Tryz.prog 89 #[.pointer (some ⟨b,0,none⟩)] w fun e w'=>e = .returned (.tuple #[])∧w'=w:=by
 have t76:Tryz.prog.underlying 87=some (.pointer 89):=by kernel_rfl
 have hs:(Tryz.prog.info? 89).isSome=true:=by kernel_rfl
 obtain⟨j,hj⟩:=Option.isSome_iff_exists.1 hs
 go_enter Tryz.func89,Tryz.ntmps89
 go_wp2
 rw[Lib.run_neq_ptr_same w _ t76 hj]
 go_wp2
 go_end0
 exact⟨rfl,rfl⟩
theorem wq10j(b:Nat)(w:World)(h0:w.cell? ⟨b,0,none⟩=some (.pointer none))(hsh:w.shape? b=some (89,2))(hfz:w.frozen? ⟨b,0,none⟩=false):
 Calls Tryz.prog 89 #[.pointer (some ⟨b,0,none⟩)] w fun e w'=>e = .returned (.tuple #[])∧w'=w.setCell ⟨b,0,none⟩ (.pointer (some ⟨b,0,none⟩)):=by
 have t76:Tryz.prog.underlying 87=some (.pointer 89):=by kernel_rfl
 have t89:Tryz.prog.underlying 184=some .unsafePointer:=by kernel_rfl
 have hs:(Tryz.prog.info? 89).map (·.size)=some 2:=by kernel_rfl
 obtain⟨j,hj,hjs⟩:=Option.map_eq_some_iff.1 hs
 have hlies:liesAt Tryz.prog Tryz.prog.depth 89 (2 / Tryz.prog.cellsOf 89) 0 89 1=true:=by kernel_rfl
 go_enter Tryz.func89,Tryz.ntmps89
 go_wp2
 rw[Lib.run_to_unsafe w ⟨b,0,none⟩ t76 t89 hj (by rw[hjs];decide) hsh (Nat.zero_lt_succ 1)]
 simp only[Result.andThen]
 rw[Oper.upon_value]
 go_wp2
 rw[run_callFunc_extern Tryz.func137 (by kernel_rfl) (by kernel_rfl) (by kernel_rfl) (e:=Extern.AbiNoEscape.same) (by kernel_rfl)]
 rw[Lib.run_noEscape]
 simp only[Result.andThen]
 rw[Oper.upon_value]
 go_wp2
 rw[Lib.run_from_unsafe w ⟨b,0,none⟩ t89 t76 hj hsh hlies]
 simp only[Result.andThen]
 rw[Oper.upon_value]
 go_wp2
 go_end0
 exact⟨rfl,rfl⟩
end Go.Proofs.YtabkhphoacmcdaaGreatDoor.Pvm
set_option maxRecDepth 1000000
namespace Go.Proofs.YtabkhphoacmcdaaGreatDoor.Pvm
open Go Go.Proofs
def wqgp:List LS:=[.obj 1 [.nps 1 0,.own 21 5 (.int .u8)]]
def wqbc(k:Nat){R:Type}(x0:List Int)(K:List Int→Option R): Option R:=K x0
def wq6y(k:Nat){R:Type}: List PV→List (Nm×HObj)→(Out→Option R)→Option R
 |[.ptr 1 0],[(21,.row 5 (.int .u8) x0),(1,.var 89 [.nps 1 0,.row 21])],K=>wqbc k x0 (fun y0=>K (.ret [] [(21,.row 5 (.int .u8) y0),(1,.var 89 [.nps 1 0,.row 21])]))
 |_,_,_=>none
theorem wqdp(vs:Array Value)(w:World): (callFunc 89 vs).run Tryz.prog w = .ok (.enter 89 vs) w:=by
 have h1:Tryz.prog.funcs[89]? = some Tryz.f89:=by kernel_rfl
 have h2:(Tryz.f89.name == "runtime.NumGoroutine")=false:=by kernel_rfl
 have h3:Tryz.f89.body.isNone=false:=by kernel_rfl
 unfold callFunc
 rw[Sem.run_bind]
 have e2:(program).run Tryz.prog w = .ok Tryz.prog w:=rfl
 rw[e2,Result.andThen_ok,h1]
 simp only[h2,h3,Bool.false_eq_true,if_false]
 rfl
theorem wqhw(k:Nat){ps:List PV}{hp:List (Nm×HObj)}{R:Type}{K:Out→Option R}{r:R}(h:wq6y k ps hp K=some r): DoesTo Tryz.prog 89 ps hp fun out=>K out=some r:=by
 unfold wq6y at h
 split at h
 ·next x0 =>
  intro G w vals hr obj dis
  obtain⟨v0,l0,rfl,h0,rfl⟩:=hr
  obtain⟨rfl,_⟩:=h0
  generalize hHP:[(21,HObj.row 5 (.int .u8) x0),(1,.var 89 [.nps 1 0,.row 21])]=HP at *
  have hK:K (.ret [] HP)=some r:=by subst hHP;exact h
  have l1:mkH HP 1=some (.var 89 [.nps 1 0,.row 21]):=by subst hHP;rfl
  have hob:=obj 1 _ l1
  obtain⟨vs,hw,q1,t1,rfl,hq1,q2,t2,rfl,hq2,rfl⟩:=hob
  show Does _ _ #[_] _ _
  unfold Does
  rw[wqdp]
  have hcell:w.cell? ⟨G.bk 1,0,none⟩=some q1:=by simp[World.cell?,hw]
  have hlt:G.bk 1<w.heap.size:=(Array.getElem?_eq_some_iff.1 hw).1
  rcases hq1 with rfl|⟨rfl,_⟩
  ·refine Calls.mono (wq10j (G.bk 1) w hcell (by simp[World.shape?,hw]) (by simp[World.frozen?,hw])) fun e w' hh => ?_
   obtain⟨rfl,rfl⟩:=hh
   have oth:∀ b,b≠G.bk 1→(w.setCell ⟨G.bk 1,0,none⟩ (.pointer (some ⟨G.bk 1,0,none⟩))).heap[b]? = w.heap[b]? := fun b hb=>Go.Deep.blk_setCell_other w _ _ b hb
   have bk1:blkOf (mkH HP) G 1=some (G.bk 1):=by simp[blkOf,l1]
   have C:Carry (mkH HP) G w (mkH HP) G (w.setCell ⟨G.bk 1,0,none⟩ (.pointer (some ⟨G.bk 1,0,none⟩))) .row :=
    ⟨fun b ho _=>⟨ho,oth b fun e=>ho.1 1 (by rw[bk1,e])⟩,fun n t cs hn=>⟨⟨cs,hn⟩,rfl⟩,fun n ag V es hn=>⟨⟨es,hn⟩,rfl⟩,fun b hx _=>⟨.inr hx,oth b fun e=>dis.xo 1 b (by rw[bk1,e]) hx⟩,fun n e K xs hn=>⟨⟨rfl,e,K,xs,hn⟩,fun m hm=>by cases hm;exact⟨e,xs,hn,Nat.le_refl _⟩⟩⟩
   have hq2':=RV.carry C _ _ hq2
   refine⟨.ret [] HP,hK,G,⟨_,rfl,⟨[],rfl,rfl⟩⟩,⟨fun n o hn => ?_,dis.inj,fun n t cs hn o ho => ?_,fun n ag V es hn o ho=>(wqr5 (by rw[←hHP];rfl) hn).elim,fun b hb hf=>oth b fun e=>hf 1 (by rw[bk1,e]),rfl,fun n b hb => .inl ⟨n,hb⟩,by simp[World.setCell],rfl,rfl,rfl⟩⟩
   ·by_cases hn1:n=1
    ·subst hn1
     rw[show mkH (Out.hs (.ret [] HP)) 1=some (.var 89 [.nps 1 0,.row 21])from l1]at hn
     cases hn
     refine⟨[.pointer (some ⟨G.bk 1,0,none⟩),q2],?_,_,_,rfl,.inr ⟨rfl,89,_,l1⟩,_,_,rfl,hq2',rfl⟩
     have hw2:=(Array.getElem?_eq_some_iff.1 hw).2
     simp only[World.setCell,Array.getElem?_modify,if_pos,hw]
     simp
    ·have hne:∀ b,blkOf (mkH HP) G n=some b→b≠G.bk 1:=fun b hb e=>hn1 (dis.inj n 1 b hb (by rw[bk1,e]))
     have:=RO.carry C hn (obj n o hn) (fun b hb=>oth b (hne b hb)) rfl rfl
     rwa [wqii]at this
   ·have e1:look HP n=some o:=ho
    rw[hn]at e1;cases e1
    exact⟨⟨cs,rfl⟩,rfl⟩
  ·refine Calls.mono (wq13i (G.bk 1) w hcell) fun e w' hh => ?_
   obtain⟨rfl,rfl⟩:=hh
   refine⟨.ret [] HP,hK,G,⟨_,rfl,⟨[],rfl,rfl⟩⟩,⟨obj,dis.inj,fun n t cs hn o ho => ?_,fun n ag V es hn o ho=>(wqr5 (by rw[←hHP];rfl) hn).elim,fun _ _ _=>rfl,rfl,fun n b hb => .inl ⟨n,hb⟩,Nat.le_refl _,rfl,rfl,rfl⟩⟩
   have e1:look HP n=some o:=ho
   rw[hn]at e1;cases e1
   exact⟨⟨cs,rfl⟩,rfl⟩
 ·cases h
end Go.Proofs.YtabkhphoacmcdaaGreatDoor.Pvm
set_option maxHeartbeats 0
namespace Go.Proofs.YtabkhphoacmcdaaGreatDoor.Pvm
open Go Go.Proofs
def h_strings_Builder_WriteByte:Sh:=⟨[.o 1 89 0 [.p 1 0,.w 21 5 (.int .u8)],.a (.int .u8)],some ([.o 1 89 0 [.p 1 0,.w 21 5 (.int .u8)]],[.ni]),none⟩
def wqhx(k:Nat): Cxt:=⟨[⟨89,wqgp,wq6y k⟩],[1],[],[]⟩
def wqhy(k:Nat){R:Type}(x0:(List Int))(x1:Int)(K:((List Int)→Option R)): Option R:=wqbc k x0 (fun y5=>cond (fits y5.length (@List.length (@Kd.T (@Kd.int Go.IntKind.u8)) [x1]) 1) (K (y5++[x1])) none)
def wq40:=@wqhy
theorem wqbd(k:Nat): DOK Tryz.prog 254 (h_strings_Builder_WriteByte.run (@wq40 k)):=dok h_strings_Builder_WriteByte (wqhx k) Tryz.f254 k (ok1 (fun _ _ _ _ _ h=>wqhw k h) ok0) (by kernel_rfl) (by kernel_rfl) fun R=>by kernel_rfl
def wqbe(k:Nat): Ent:=h_strings_Builder_WriteByte.e 254 (@wq40 k)
def h_lex_lexer_double:Sh:=⟨[.o 1 200 0 [.a kI,.a kI,.a .str,.a kI,.w 21 157 kdT156],.a .str],some ([.o 1 200 0 [.a kI,.a kI,.a .str,.a kI,.w 21 157 kdT156]],[.a .str,.a kI]),some ([.o 1 200 0 [.a kI,.a kI,.a .str,.a kI,.w 21 157 kdT156]],[.i 29 (.g [.a kI,.a kI])])⟩
abbrev wqdq:Type 1:=(R:Type)→Int→Int→(List UInt8)→Int→(List dT156)→(List UInt8)→(Int→Int→(List UInt8)→Int→(List dT156)→(List UInt8)→Int→Option R)→(Int→Int→(List UInt8)→Int→(List dT156)→Int→Int→Option R)→Option R
def u_lex_lexer_double_1003:Cu:=⟨1,[0,1,6,7],[.o 1 200 0 [.a kI,.a kI,.a .str,.a kI,.w 21 157 kdT156],.r 1 0,.a .str,.o 16 89 0 [.p 16 0,.w 36 5 (.int .u8)],.a kI]⟩
def wqj6(k:Nat): Cxt:=⟨[⟨45,wqbr,wq6c k⟩,wqc3 k,wqbe k,wqwg k],[1],[(1003,u_lex_lexer_double_1003.spec)],[]⟩
def wqeb(k:Nat){R:Type}(E1003:(Int→Int→(List UInt8)→Int→(List dT156)→(List UInt8)→(List Int)→Int→Option R))(s0 s1:Int)(s2:(List UInt8))(s3:Int)(s4:(List dT156))(s5:(List UInt8))(s6:(List Int))(s7:Int)(K:(Int→Int→(List UInt8)→Int→(List dT156)→(List UInt8)→Int→Option R))(E:(Int→Int→(List UInt8)→Int→(List dT156)→Int→Int→Option R)): Option R:=cond (decide (s7<(s5.length:Int))) (cond (inb s7 (s5.length:Int)) (cond (((s5.getD s7.toNat 0).toNat:Int) == 34) (wq6x k s6 (fun y13 y14=>K s0 s1 s2 s3 s4 y14 (@Go.IntKind.wrap Go.IntKind.i64 (s7+1)))) (cond (((s5.getD s7.toNat 0).toNat:Int) == 92) (cond (bnd (@Go.IntKind.wrap Go.IntKind.i64 (s7+1)) (s5.length:Int) (s5.length:Int)) (wqg5 k s0 s1 s2 s3 s4 (cut s5 (@Go.IntKind.wrap Go.IntKind.i64 (s7+1)) (s5.length:Int)) (fun y13 y14 y15 y16 y17 y18 y19=>wq40 k s6 y18 (fun y20=>E1003 y13 y14 y15 y16 y17 s5 y20 (@Go.IntKind.wrap Go.IntKind.i64 ((@Go.IntKind.wrap Go.IntKind.i64 (s7+y19))+1)))) E) none) (cond (inb s7 (s5.length:Int)) (wq40 k s6 ((s5.getD s7.toNat 0).toNat:Int) (fun y13=>E1003 s0 s1 s2 s3 s4 s5 y13 (@Go.IntKind.wrap Go.IntKind.i64 (s7+1)))) none))) none) (wq2d k s0 s1 s2 s3 s4 3 (fun y13 y14 y15 y16 y17=>K y13 y14 y15 y16 y17 [] 0) E)
def wqj7(k:Nat){R:Type}(E1003:(Int→Int→(List UInt8)→Int→(List dT156)→(List UInt8)→(List Int)→Int→Option R))(x0 x1:Int)(x2:(List UInt8))(x3:Int)(x4:(List dT156))(x5:(List UInt8))(K:(Int→Int→(List UInt8)→Int→(List dT156)→(List UInt8)→Int→Option R))(E:(Int→Int→(List UInt8)→Int→(List dT156)→Int→Int→Option R)): Option R:=E1003 x0 x1 x2 x3 x4 x5 [] 1
def wq7q(k:Nat){R:Type}: Nat→Int→Int→(List UInt8)→Int→(List dT156)→(List UInt8)→(List Int)→Int→(Int→Int→(List UInt8)→Int→(List dT156)→(List UInt8)→Int→Option R)→(Int→Int→(List UInt8)→Int→(List dT156)→Int→Int→Option R)→Option R
 |0,_,_,_,_,_,_,_,_,_,_=>none
 |n+1,s0,s1,s2,s3,s4,s5,s6,s7,K,E=>wqeb k (fun s0 s1 s2 s3 s4 s5 s6 s7=>wq7q k n s0 s1 s2 s3 s4 s5 s6 s7 K E) s0 s1 s2 s3 s4 s5 s6 s7 K E
theorem wqin(k:Nat){R:Type}: ∀(I:Nat→St→Option R) (n:Nat),h_lex_lexer_double.lp u_lex_lexer_double_1003 (wqj6 k).cx k Tryz.f230 1003 [1,1,0,1,0] I n=wq7q k n:=h_lex_lexer_double.lok u_lex_lexer_double_1003 (B:=wqeb k) (L:=wq7q k) (fun I=>by kernel_rfl) (fun I=>by kernel_rfl) (fun n=>by kernel_rfl) (fun _ _ _ _=>rfl)
def wqb1(k:Nat){R:Type}(x0 x1:Int)(x2:(List UInt8))(x3:Int)(x4:(List dT156))(x5:(List UInt8))(K:(Int→Int→(List UInt8)→Int→(List dT156)→(List UInt8)→Int→Option R))(E:(Int→Int→(List UInt8)→Int→(List dT156)→Int→Int→Option R)): Option R:=wqj7 k (fun s0 s1 s2 s3 s4 s5 s6 s7=>wq7q k k s0 s1 s2 s3 s4 s5 s6 s7 K E) x0 x1 x2 x3 x4 x5 K E
theorem wqtq(k:Nat): DOK Tryz.prog 230 (h_lex_lexer_double.run (@wqb1 k)):=dok h_lex_lexer_double (wqj6 k) Tryz.f230 k (ok1 (fun _ _ _ _ _ h=>wqdo k h) (ok1 (wq9u k) (ok1 (wqbd k) (ok1 (wqwf k) ok0)))) (by kernel_rfl) (by kernel_rfl) fun R=>h_lex_lexer_double.f1 u_lex_lexer_double_1003 (wqj7 k) (by kernel_rfl) (wqin k (fun _ _=>none) k) (by kernel_rfl)
def h_lex_lexer_single:Sh:=⟨[.o 1 200 0 [.a kI,.a kI,.a .str,.a kI,.w 21 157 kdT156],.a .str],some ([.o 1 200 0 [.a kI,.a kI,.a .str,.a kI,.w 21 157 kdT156]],[.a .str,.a kI]),some ([.o 1 200 0 [.a kI,.a kI,.a .str,.a kI,.w 21 157 kdT156]],[.i 29 (.g [.a kI,.a kI])])⟩
abbrev wqdr:Type 1:=(R:Type)→Int→Int→(List UInt8)→Int→(List dT156)→(List UInt8)→(Int→Int→(List UInt8)→Int→(List dT156)→(List UInt8)→Int→Option R)→(Int→Int→(List UInt8)→Int→(List dT156)→Int→Int→Option R)→Option R
def u_lex_lexer_single_1003:Cu:=⟨1,[0,1,6,7],[.o 1 200 0 [.a kI,.a kI,.a .str,.a kI,.w 21 157 kdT156],.r 1 0,.a .str,.o 16 89 0 [.p 16 0,.w 36 5 (.int .u8)],.a kI]⟩
def wqj8(k:Nat): Cxt:=⟨[⟨45,wqbr,wq6c k⟩,wqc3 k,wqbe k],[1],[(1003,u_lex_lexer_single_1003.spec)],[]⟩
def wqec(k:Nat){R:Type}(E1003:(Int→Int→(List UInt8)→Int→(List dT156)→(List UInt8)→(List Int)→Int→Option R))(s0 s1:Int)(s2:(List UInt8))(s3:Int)(s4:(List dT156))(s5:(List UInt8))(s6:(List Int))(s7:Int)(K:(Int→Int→(List UInt8)→Int→(List dT156)→(List UInt8)→Int→Option R))(E:(Int→Int→(List UInt8)→Int→(List dT156)→Int→Int→Option R)): Option R:=cond (decide (s7<(s5.length:Int))) (cond (inb s7 (s5.length:Int)) (cond (((s5.getD s7.toNat 0).toNat:Int) != 39) (cond (inb s7 (s5.length:Int)) (wq40 k s6 ((s5.getD s7.toNat 0).toNat:Int) (fun y13=>E1003 s0 s1 s2 s3 s4 s5 y13 (@Go.IntKind.wrap Go.IntKind.i64 (s7+1)))) none) (cond ((!((decide ((@Go.IntKind.wrap Go.IntKind.i64 (s7+1))≥(s5.length:Int))) == false)) || (inb (@Go.IntKind.wrap Go.IntKind.i64 (s7+1)) (s5.length:Int))) (cond (cond (decide ((@Go.IntKind.wrap Go.IntKind.i64 (s7+1))≥(s5.length:Int))) true (((s5.getD (@Go.IntKind.wrap Go.IntKind.i64 (s7+1)).toNat 0).toNat:Int) != 39)) (wq6x k s6 (fun y13 y14=>K s0 s1 s2 s3 s4 y14 (@Go.IntKind.wrap Go.IntKind.i64 (s7+1)))) (wq40 k s6 39 (fun y13=>E1003 s0 s1 s2 s3 s4 s5 y13 (@Go.IntKind.wrap Go.IntKind.i64 ((@Go.IntKind.wrap Go.IntKind.i64 (s7+1))+1))))) none)) none) (wq2d k s0 s1 s2 s3 s4 3 (fun y13 y14 y15 y16 y17=>K y13 y14 y15 y16 y17 [] 0) E)
def wqj9(k:Nat){R:Type}(E1003:(Int→Int→(List UInt8)→Int→(List dT156)→(List UInt8)→(List Int)→Int→Option R))(x0 x1:Int)(x2:(List UInt8))(x3:Int)(x4:(List dT156))(x5:(List UInt8))(K:(Int→Int→(List UInt8)→Int→(List dT156)→(List UInt8)→Int→Option R))(E:(Int→Int→(List UInt8)→Int→(List dT156)→Int→Int→Option R)): Option R:=E1003 x0 x1 x2 x3 x4 x5 [] 1
def wq7r(k:Nat){R:Type}: Nat→Int→Int→(List UInt8)→Int→(List dT156)→(List UInt8)→(List Int)→Int→(Int→Int→(List UInt8)→Int→(List dT156)→(List UInt8)→Int→Option R)→(Int→Int→(List UInt8)→Int→(List dT156)→Int→Int→Option R)→Option R
 |0,_,_,_,_,_,_,_,_,_,_=>none
 |n+1,s0,s1,s2,s3,s4,s5,s6,s7,K,E=>wqec k (fun s0 s1 s2 s3 s4 s5 s6 s7=>wq7r k n s0 s1 s2 s3 s4 s5 s6 s7 K E) s0 s1 s2 s3 s4 s5 s6 s7 K E
theorem wqio(k:Nat){R:Type}: ∀(I:Nat→St→Option R) (n:Nat),h_lex_lexer_single.lp u_lex_lexer_single_1003 (wqj8 k).cx k Tryz.f229 1003 [1,1,0,1,0] I n=wq7r k n:=h_lex_lexer_single.lok u_lex_lexer_single_1003 (B:=wqec k) (L:=wq7r k) (fun I=>by kernel_rfl) (fun I=>by kernel_rfl) (fun n=>by kernel_rfl) (fun _ _ _ _=>rfl)
def wqb2(k:Nat){R:Type}(x0 x1:Int)(x2:(List UInt8))(x3:Int)(x4:(List dT156))(x5:(List UInt8))(K:(Int→Int→(List UInt8)→Int→(List dT156)→(List UInt8)→Int→Option R))(E:(Int→Int→(List UInt8)→Int→(List dT156)→Int→Int→Option R)): Option R:=wqj9 k (fun s0 s1 s2 s3 s4 s5 s6 s7=>wq7r k k s0 s1 s2 s3 s4 s5 s6 s7 K E) x0 x1 x2 x3 x4 x5 K E
theorem wqtr(k:Nat): DOK Tryz.prog 229 (h_lex_lexer_single.run (@wqb2 k)):=dok h_lex_lexer_single (wqj8 k) Tryz.f229 k (ok1 (fun _ _ _ _ _ h=>wqdo k h) (ok1 (wq9u k) (ok1 (wqbd k) ok0))) (by kernel_rfl) (by kernel_rfl) fun R=>h_lex_lexer_single.f1 u_lex_lexer_single_1003 (wqj9 k) (by kernel_rfl) (wqio k (fun _ _=>none) k) (by kernel_rfl)
def h_lex_lexer_text:Sh:=⟨[.o 1 200 0 [.a kI,.a kI,.a .str,.a kI,.w 21 157 kdT156],.a .str],some ([.o 1 200 0 [.a kI,.a kI,.a .str,.a kI,.w 21 157 kdT156]],[]),some ([.o 1 200 0 [.a kI,.a kI,.a .str,.a kI,.w 21 157 kdT156]],[.i 29 (.g [.a kI,.a kI])])⟩
def wqml(k:Nat)(wq12:wqer)(wqjp:wqtp)(wqs:wqes)(wqo6:wqyy)(wq79:wqdr)(wq7a:wqdq)(wq6l:wqco): Cxt:=⟨[h_lex_lexer_gives.e 191 wq12,h_lex_dash.e 193 wqjp,h_lex_lexer_piece.e 194 wqs,h_lex_key.e 195 wqo6,h_lex_lexer_single.e 229 wq79,h_lex_lexer_double.e 230 wq7a,h_strings_IndexByte.e 231 wq6l],[1],[],[]⟩
def wqmm(k:Nat)(wq12:wqer)(wqjp:wqtp)(wqs:wqes)(wqo6:wqyy)(wq79:wqdr)(wq7a:wqdq)(wq6l:wqco){R:Type}(x0 x1:Int)(x2:(List UInt8))(x3:Int)(x4:(List dT156))(x5:(List UInt8))(K:(Int→Int→(List UInt8)→Int→(List dT156)→Option R))(E:(Int→Int→(List UInt8)→Int→(List dT156)→Int→Int→Option R)): Option R:=cond (inb 0 (x5.length:Int)) (cond (((x5.getD (Int.toNat 0) 0).toNat:Int) == 39) (wq79 R x0 x1 x2 x3 x4 x5 (fun y10 y11 y12 y13 y14 y15 y16=>cond (y16 != (x5.length:Int)) (wq12 R y10 y11 y12 y13 y14 3 (fun y17 y18 y19 y20 y21=>cond (decide ((y15.length:Int)>200)) (wq12 R y17 y18 y19 y20 y21 4 (fun y22 y23 y24 y25 y26=>wqs R y22 y23 y24 y25 y26 3 y15 true y16 K) E) (wqs R y17 y18 y19 y20 y21 3 y15 true y16 K)) E) (cond (decide ((y15.length:Int)>200)) (wq12 R y10 y11 y12 y13 y14 4 (fun y17 y18 y19 y20 y21=>wqs R y17 y18 y19 y20 y21 3 y15 true y16 K) E) (wqs R y10 y11 y12 y13 y14 3 y15 true y16 K))) E) (cond (((x5.getD (Int.toNat 0) 0).toNat:Int) == 34) (wq7a R x0 x1 x2 x3 x4 x5 (fun y10 y11 y12 y13 y14 y15 y16=>cond (y16 != (x5.length:Int)) (wq12 R y10 y11 y12 y13 y14 3 (fun y17 y18 y19 y20 y21=>cond (decide ((y15.length:Int)>200)) (wq12 R y17 y18 y19 y20 y21 4 (fun y22 y23 y24 y25 y26=>wqs R y22 y23 y24 y25 y26 3 y15 true y16 K) E) (wqs R y17 y18 y19 y20 y21 3 y15 true y16 K)) E) (cond (decide ((y15.length:Int)>200)) (wq12 R y10 y11 y12 y13 y14 4 (fun y17 y18 y19 y20 y21=>wqs R y17 y18 y19 y20 y21 3 y15 true y16 K) E) (wqs R y10 y11 y12 y13 y14 3 y15 true y16 K))) E) (cond (inb 0 (x5.length:Int)) (wq6l R [91,93,123,125,38,42,33,124,62,37,64,44,63,96] ((x5.getD (Int.toNat 0) 0).toNat:Int) (fun y10=>cond ((decide (y10≥0)) == false) (wqjp R x5 (fun y11=>cond (y11 == false) (wqo6 R x5 (fun y12=>cond (!(y12 == [])) (wq12 R x0 x1 x2 x3 x4 4 (fun y13 y14 y15 y16 y17=>cond ((x5.length:Int) != (x5.length:Int)) (wq12 R y13 y14 y15 y16 y17 3 (fun y18 y19 y20 y21 y22=>cond (decide ((x5.length:Int)>200)) (wq12 R y18 y19 y20 y21 y22 4 (fun y23 y24 y25 y26 y27=>wqs R y23 y24 y25 y26 y27 3 x5 false (x5.length:Int) K) E) (wqs R y18 y19 y20 y21 y22 3 x5 false (x5.length:Int) K)) E) (cond (decide ((x5.length:Int)>200)) (wq12 R y13 y14 y15 y16 y17 4 (fun y18 y19 y20 y21 y22=>wqs R y18 y19 y20 y21 y22 3 x5 false (x5.length:Int) K) E) (wqs R y13 y14 y15 y16 y17 3 x5 false (x5.length:Int) K))) E) (cond ((x5.length:Int) != (x5.length:Int)) (wq12 R x0 x1 x2 x3 x4 3 (fun y13 y14 y15 y16 y17=>cond (decide ((x5.length:Int)>200)) (wq12 R y13 y14 y15 y16 y17 4 (fun y18 y19 y20 y21 y22=>wqs R y18 y19 y20 y21 y22 3 x5 false (x5.length:Int) K) E) (wqs R y13 y14 y15 y16 y17 3 x5 false (x5.length:Int) K)) E) (cond (decide ((x5.length:Int)>200)) (wq12 R x0 x1 x2 x3 x4 4 (fun y13 y14 y15 y16 y17=>wqs R y13 y14 y15 y16 y17 3 x5 false (x5.length:Int) K) E) (wqs R x0 x1 x2 x3 x4 3 x5 false (x5.length:Int) K))))) (wq12 R x0 x1 x2 x3 x4 4 (fun y12 y13 y14 y15 y16=>cond ((x5.length:Int) != (x5.length:Int)) (wq12 R y12 y13 y14 y15 y16 3 (fun y17 y18 y19 y20 y21=>cond (decide ((x5.length:Int)>200)) (wq12 R y17 y18 y19 y20 y21 4 (fun y22 y23 y24 y25 y26=>wqs R y22 y23 y24 y25 y26 3 x5 false (x5.length:Int) K) E) (wqs R y17 y18 y19 y20 y21 3 x5 false (x5.length:Int) K)) E) (cond (decide ((x5.length:Int)>200)) (wq12 R y12 y13 y14 y15 y16 4 (fun y17 y18 y19 y20 y21=>wqs R y17 y18 y19 y20 y21 3 x5 false (x5.length:Int) K) E) (wqs R y12 y13 y14 y15 y16 3 x5 false (x5.length:Int) K))) E))) (wq12 R x0 x1 x2 x3 x4 4 (fun y11 y12 y13 y14 y15=>cond ((x5.length:Int) != (x5.length:Int)) (wq12 R y11 y12 y13 y14 y15 3 (fun y16 y17 y18 y19 y20=>cond (decide ((x5.length:Int)>200)) (wq12 R y16 y17 y18 y19 y20 4 (fun y21 y22 y23 y24 y25=>wqs R y21 y22 y23 y24 y25 3 x5 false (x5.length:Int) K) E) (wqs R y16 y17 y18 y19 y20 3 x5 false (x5.length:Int) K)) E) (cond (decide ((x5.length:Int)>200)) (wq12 R y11 y12 y13 y14 y15 4 (fun y16 y17 y18 y19 y20=>wqs R y16 y17 y18 y19 y20 3 x5 false (x5.length:Int) K) E) (wqs R y11 y12 y13 y14 y15 3 x5 false (x5.length:Int) K))) E))) none))) none
theorem wqz1(k:Nat)(wq12:wqer)(wqjp:wqtp)(wqs:wqes)(wqo6:wqyy)(wq79:wqdr)(wq7a:wqdq)(wq6l:wqco)(R:Type): h_lex_lexer_text.at (wqml k wq12 wqjp wqs wqo6 wq79 wq7a wq6l) k Tryz.f196 R=@wqmm k wq12 wqjp wqs wqo6 wq79 wq7a wq6l R:=by kernel_rfl
def wqai(k:Nat){R:Type}:= @wqmm k (@wq2d k) (@wqj5 k) (@wq60 k) (@wqnw k) (@wqb2 k) (@wqb1 k) (@wq2s k) R
theorem wqz2(k:Nat): DOK Tryz.prog 196 (h_lex_lexer_text.run (@wqai k)):=dok h_lex_lexer_text (wqml k (@wq2d k) (@wqj5 k) (@wq60 k) (@wqnw k) (@wqb2 k) (@wqb1 k) (@wq2s k)) Tryz.f196 k (ok1 (wq9u k) (ok1 (wq15o k) (ok1 (wqlb k) (ok1 (wq19z k) (ok1 (wqtr k) (ok1 (wqtq k) (ok1 (wqi5 k) ok0))))))) (by kernel_rfl) (by kernel_rfl) fun R=>wqz1 k (@wq2d k) (@wqj5 k) (@wq60 k) (@wqnw k) (@wqb2 k) (@wqb1 k) (@wq2s k) R
def wqz3(k:Nat): Ent:=h_lex_lexer_text.e 196 (@wqai k)
def h_lex_lexer_row:Sh:=⟨[.o 1 200 0 [.a kI,.a kI,.a .str,.a kI,.w 21 157 kdT156]],some ([.o 1 200 0 [.a kI,.a kI,.a .str,.a kI,.w 21 157 kdT156]],[]),some ([.o 1 200 0 [.a kI,.a kI,.a .str,.a kI,.w 21 157 kdT156]],[.i 29 (.g [.a kI,.a kI])])⟩
def u_lex_lexer_row_1003:Cu:=⟨1,[0,2],[.o 1 200 0 [.a kI,.a kI,.a .str,.a kI,.w 21 157 kdT156],.r 1 0,.a .str]⟩
def wqp9(k:Nat): Cxt:=⟨[wqc3 k,wqz0 k,wq1dy k,wqwc k,wq1g4 k,wqz3 k],[1],[(1003,u_lex_lexer_row_1003.spec)],[]⟩
def wqhm(k:Nat){R:Type}(E1003:(Int→Int→(List UInt8)→Int→(List dT156)→(List UInt8)→Option R))(s0 s1:Int)(s2:(List UInt8))(s3:Int)(s4:(List dT156))(s5:(List UInt8))(K:(Int→Int→(List UInt8)→Int→(List dT156)→Option R))(E:(Int→Int→(List UInt8)→Int→(List dT156)→Int→Int→Option R)): Option R:=wqj5 k s5 (fun y11=>cond y11 (wq60 k s0 s1 s2 s3 s4 1 [] false 1 (fun y12 y13 y14 y15 y16=>wq7l k y12 y13 y14 y15 y16 E1003)) (wqnw k s5 (fun y12=>cond (!(y12 == [])) (cond (decide ((y12.length:Int)>64)) (wq2d k s0 s1 s2 s3 s4 5 (fun y13 y14 y15 y16 y17=>wq60 k y13 y14 y15 y16 y17 2 y12 false (@Go.IntKind.wrap Go.IntKind.i64 ((y12.length:Int)+1)) (fun y18 y19 y20 y21 y22=>wq7l k y18 y19 y20 y21 y22 (fun y23 y24 y25 y26 y27 y28=>cond (!(y28 == [])) (wqai k y23 y24 y25 y26 y27 y28 K E) (K y23 y24 y25 y26 y27)))) E) (wq60 k s0 s1 s2 s3 s4 2 y12 false (@Go.IntKind.wrap Go.IntKind.i64 ((y12.length:Int)+1)) (fun y13 y14 y15 y16 y17=>wq7l k y13 y14 y15 y16 y17 (fun y18 y19 y20 y21 y22 y23=>cond (!(y23 == [])) (wqai k y18 y19 y20 y21 y22 y23 K E) (K y18 y19 y20 y21 y22))))) (cond (!(s5 == [])) (wqai k s0 s1 s2 s3 s4 s5 K E) (K s0 s1 s2 s3 s4)))))
def wqpa(k:Nat){R:Type}(E1003:(Int→Int→(List UInt8)→Int→(List dT156)→(List UInt8)→Option R))(x0 x1:Int)(x2:(List UInt8))(x3:Int)(x4:(List dT156))(K:(Int→Int→(List UInt8)→Int→(List dT156)→Option R))(E:(Int→Int→(List UInt8)→Int→(List dT156)→Int→Int→Option R)): Option R:=cond (cond (decide (x1<0)) true (decide (x1>16384))) (wq2d k x0 x1 x2 x3 x4 6 (fun y10 y11 y12 y13 y14=>wq7l k y10 y11 y12 y13 y14 E1003) E) (wq7l k x0 x1 x2 x3 x4 E1003)
def wq9f(k:Nat){R:Type}: Nat→Int→Int→(List UInt8)→Int→(List dT156)→(List UInt8)→(Int→Int→(List UInt8)→Int→(List dT156)→Option R)→(Int→Int→(List UInt8)→Int→(List dT156)→Int→Int→Option R)→Option R
 |0,_,_,_,_,_,_,_,_=>none
 |n+1,s0,s1,s2,s3,s4,s5,K,E=>wqhm k (fun s0 s1 s2 s3 s4 s5=>wq9f k n s0 s1 s2 s3 s4 s5 K E) s0 s1 s2 s3 s4 s5 K E
theorem wqlm(k:Nat){R:Type}: ∀(I:Nat→St→Option R) (n:Nat),h_lex_lexer_row.lp u_lex_lexer_row_1003 (wqp9 k).cx k Tryz.f150 1003 [1,1,0,0] I n=wq9f k n:=h_lex_lexer_row.lok u_lex_lexer_row_1003 (B:=wqhm k) (L:=wq9f k) (fun I=>by kernel_rfl) (fun I=>by kernel_rfl) (fun n=>by kernel_rfl) (fun _ _ _ _=>rfl)
def wqip(k:Nat){R:Type}(x0 x1:Int)(x2:(List UInt8))(x3:Int)(x4:(List dT156))(K:(Int→Int→(List UInt8)→Int→(List dT156)→Option R))(E:(Int→Int→(List UInt8)→Int→(List dT156)→Int→Int→Option R)): Option R:=wqpa k (fun s0 s1 s2 s3 s4 s5=>wq9f k k s0 s1 s2 s3 s4 s5 K E) x0 x1 x2 x3 x4 K E
theorem wq10k(k:Nat): DOK Tryz.prog 150 (h_lex_lexer_row.run (@wqip k)):=dok h_lex_lexer_row (wqp9 k) Tryz.f150 k (ok1 (wq9u k) (ok1 (wqyz k) (ok1 (wq15o k) (ok1 (wqlb k) (ok1 (wq19z k) (ok1 (wqz2 k) ok0)))))) (by kernel_rfl) (by kernel_rfl) fun R=>h_lex_lexer_row.f1 u_lex_lexer_row_1003 (wqpa k) (by kernel_rfl) (wqlm k (fun _ _=>none) k) (by kernel_rfl)
def wq122:List LS:=[.ag [.any,.any,.any]]
def wq1a0(k:Nat): CTab:=(CTab.add 150 h_lex_lexer_row.sig (h_lex_lexer_row.run (@wqip k)) CTab.nil)
def wqqe{R:Type}(K:((List dT156)→Int→Int→Option R)): Out→Option R
 |.ret [.v (.sl (.pr (.int .i64) (.pr (.int .i64) (.pr (.int .i64) (.pr .str .bool))))) y0,.agg [.v (.int .i64) y1,.v (.int .i64) y2]] []=>K y0 y1 y2
 |_=>none
def wq15q:RetSpec:=⟨[.sl (.pr (.int .i64) (.pr (.int .i64) (.pr (.int .i64) (.pr .str .bool)))),.ag [.any,.any]],[],[]⟩
def wq182:List (Nat×CutSpec):=[]
def wq15r:List (Nat×Plan):=[]
def wqz4(k:Nat): Ctx:=⟨tyT,wq182,wq1a0 k,[2,3],[],wq15r,@SH⟩
def wq9g:Code:=Tryz.f100.body.getD .skip
def wqkh(k:Nat){R:Type}: PV→List PV→List (Nm×HObj)→(Out→Option R)→Option R
 |.nilif,[.ptr 1 0,.ptr 2 0],[(1,.var 110 [.v (.sl (.pr (.int .i64) (.pr (.int .i64) (.pr (.int .i64) (.pr .str .bool))))) x0]),(2,.var 29 [.v (.int .i64) x1,.v (.int .i64) x2])],K=>wqi3 k x0 x1 x2 (fun y0 y1 y2=>K (.ret [] [(1,.var 110 [.v (.sl (.pr (.int .i64) (.pr (.int .i64) (.pr (.int .i64) (.pr .str .bool))))) y0]),(2,.var 29 [.v (.int .i64) y1,.v (.int .i64) y2])]))
 |.ifc 29 (.agg [.v (.int .i64) x3,.v (.int .i64) x4]),[.ptr 1 0,.ptr 2 0],[(1,.var 110 [.v (.sl (.pr (.int .i64) (.pr (.int .i64) (.pr (.int .i64) (.pr .str .bool))))) x0]),(2,.var 29 [.v (.int .i64) x1,.v (.int .i64) x2])],K=>wqi4 k x0 x1 x2 x3 x4 (fun y0 y1 y2=>K (.ret [] [(1,.var 110 [.v (.sl (.pr (.int .i64) (.pr (.int .i64) (.pr (.int .i64) (.pr .str .bool))))) y0]),(2,.var 29 [.v (.int .i64) y1,.v (.int .i64) y2])]))
 |_,_,_,_=>none
def wq1a1(k:Nat){R:Type}(x0 x1:Int)(x2:(List UInt8))(K:((List dT156)→Int→Int→Option R)): Option R:=wqip k x0 x1 x2 0 [] (fun y6 y7 y8 y9 y10=>wqi3 k y10 0 0 K) (fun y6 y7 y8 y9 y10 y11 y12=>wqi4 k [] 0 0 y11 y12 K)
theorem wq183(k:Nat){R:Type}(I:Nat→St→Option R)(x0 x1:Int)(x2:(List UInt8))(K:((List dT156)→Int→Int→Option R)): fnDK (wqz4 k) k [300,400] [at_ [0] wq9g] (opsAt (at_ [1,0] wq9g)) (at_ [1,1] wq9g) 16 [.cell 2 110,.cell 3 29] wq15q (wqkh k) wquz [(300,0),(400,0)] [.agg [.v (.int .i64) x0,.v (.int .i64) x1,.v .str x2]] [] (wqqe K)=wq1a1 k x0 x1 x2 K:=by kernel_rfl
def wqx6(k:Nat){R:Type}(x0 x1:Int)(x2:(List UInt8))(K:((List dT156)→Int→Int→Option R)): Option R:=wq1a1 k x0 x1 x2 K
theorem wq184(k:Nat){R:Type}(x0 x1:Int)(x2:(List UInt8))(K:((List dT156)→Int→Int→Option R)): fnDK (wqz4 k) k [300,400] [at_ [0] wq9g] (opsAt (at_ [1,0] wq9g)) (at_ [1,1] wq9g) 16 [.cell 2 110,.cell 3 29] wq15q (wqkh k) wquz [(300,0),(400,0)] [.agg [.v (.int .i64) x0,.v (.int .i64) x1,.v .str x2]] [] (wqqe K)=wqx6 k x0 x1 x2 K:=by
 exact wq183 k (fun _ _=>none) x0 x1 x2 K
def wqnx(k:Nat){R:Type}: List PV→List (Nm×HObj)→(Out→Option R)→Option R
 |[.agg [.v (.int .i64) x0,.v (.int .i64) x1,.v .str x2]],[],K=>wqx6 k x0 x1 x2 (fun y0 y1 y2=>K (.ret [.v (.sl (.pr (.int .i64) (.pr (.int .i64) (.pr (.int .i64) (.pr .str .bool))))) y0,.agg [.v (.int .i64) y1,.v (.int .i64) y2]] []))
 |_,_,_=>none
theorem wq185(k:Nat): (wq1a0 k).Ok Tryz.prog:=(wq11l (wq10k k) CTab.nil_ok)
theorem wq10l(k:Nat){R:Type}(rec:PV)(ps:List PV)(hp:List (Nm×HObj))(K:Out→Option R)(r:R)(h:wqkh k rec ps hp K=some r): DoesToD Tryz.prog 149 rec ps hp fun out=>K out=some r:=by
 unfold wqkh at h
 split at h
 ·exact wq13g k h
 ·exact wq13h k h
 ·cases h
theorem wq1a2(k:Nat){ps:List PV}{hp:List (Nm×HObj)}{R:Type}{K:Out→Option R}{r:R}(h:wqnx k ps hp K=some r): DoesTo Tryz.prog 100 ps hp fun out=>K out=some r:=by
 unfold wqnx at h
 split at h
 ·rw[←wq184]at h
  have:=wq1de (P:=Tryz.prog) (cx:=wqz4 k) (f:=100) ⟨tyT_ok,wq185 k,fun _ _=>rfl⟩ (by kernel_rfl) (fn:=Tryz.f100) (id:=1) (pre:=[at_ [0] wq9g]) (rest:=at_ [1,1] wq9g) (ops:=opsAt (at_ [1,0] wq9g)) (by kernel_rfl) (by kernel_rfl) (by kernel_rfl) (rs:=[.cell 2 110,.cell 3 29]) (by kernel_rfl) (by kernel_rfl) (by kernel_rfl) (g:=149) (s:=5) (xs:=[.tmp 2,.tmp 3]) (by kernel_rfl) (Invokes.of (fn:=Tryz.f149) (by kernel_rfl) (c:=Tryz.f149.body.getD .skip) (by kernel_rfl) (by kernel_rfl)) (wq10l k) h
  exact this.mono fun out ho=>by
   unfold wqqe at ho
   split at ho<;>first|exact ho|cases ho
 ·cases h
def h_line_quoted:Sh:=⟨[.a .str,.a kI],some ([],[.a kI,.a .bool]),none⟩
def u_line_quoted_1003:Cu:=⟨0,[0,6,7],[.a .str,.a (.int .u8),.a kI]⟩
def wqv4(k:Nat): Cxt:=⟨[],[],[(1003,u_line_quoted_1003.spec)],[]⟩
def wqja(k:Nat){R:Type}(E1003:((List UInt8)→Int→Int→Option R))(s0:(List UInt8))(s1 s2:Int)(K:(Int→Bool→Option R)): Option R:=cond (decide (s2<(s0.length:Int))) (cond ((!((s1 == 34) == true)) || (inb s2 (s0.length:Int))) (cond (cond (s1 == 34) (((s0.getD s2.toNat 0).toNat:Int) == 92) false) (E1003 s0 s1 (@Go.IntKind.wrap Go.IntKind.i64 ((@Go.IntKind.wrap Go.IntKind.i64 (s2+1))+1))) (cond (inb s2 (s0.length:Int)) (cond (((s0.getD s2.toNat 0).toNat:Int) != s1) (E1003 s0 s1 (@Go.IntKind.wrap Go.IntKind.i64 (s2+1))) (cond ((!((cond (s1 == 39) (decide ((@Go.IntKind.wrap Go.IntKind.i64 (s2+1))<(s0.length:Int))) false) == true)) || (inb (@Go.IntKind.wrap Go.IntKind.i64 (s2+1)) (s0.length:Int))) (cond (cond (cond (s1 == 39) (decide ((@Go.IntKind.wrap Go.IntKind.i64 (s2+1))<(s0.length:Int))) false) (((s0.getD (@Go.IntKind.wrap Go.IntKind.i64 (s2+1)).toNat 0).toNat:Int) == s1) false) (E1003 s0 s1 (@Go.IntKind.wrap Go.IntKind.i64 ((@Go.IntKind.wrap Go.IntKind.i64 (s2+1))+1))) (K s2 true)) none)) none)) none) (K 0 false)
def wqv5(k:Nat){R:Type}(E1003:((List UInt8)→Int→Int→Option R))(x0:(List UInt8))(x1:Int)(K:(Int→Bool→Option R)): Option R:=cond (inb x1 (x0.length:Int)) (E1003 x0 ((x0.getD x1.toNat 0).toNat:Int) (@Go.IntKind.wrap Go.IntKind.i64 (x1+1))) none
def wqb3(k:Nat){R:Type}: Nat→(List UInt8)→Int→Int→(Int→Bool→Option R)→Option R
 |0,_,_,_,_=>none
 |n+1,s0,s1,s2,K=>wqja k (fun s0 s1 s2=>wqb3 k n s0 s1 s2 K) s0 s1 s2 K
theorem wqon(k:Nat){R:Type}: ∀(I:Nat→St→Option R) (n:Nat),h_line_quoted.lp u_line_quoted_1003 (wqv4 k).cx k Tryz.f147 1003 [1,1,0,1,0] I n=wqb3 k n:=h_line_quoted.lok u_line_quoted_1003 (B:=wqja k) (L:=wqb3 k) (fun I=>by kernel_rfl) (fun I=>by kernel_rfl) (fun n=>by kernel_rfl) (fun _ _ _ _=>rfl)
def wqi6(k:Nat){R:Type}(x0:(List UInt8))(x1:Int)(K:(Int→Bool→Option R)): Option R:=wqv5 k (fun s0 s1 s2=>wqb3 k k s0 s1 s2 K) x0 x1 K
theorem wq15s(k:Nat): DOK Tryz.prog 147 (h_line_quoted.run (@wqi6 k)):=dok h_line_quoted (wqv4 k) Tryz.f147 k ok0 (by kernel_rfl) (by kernel_rfl) fun R=>h_line_quoted.f1 u_line_quoted_1003 (wqv5 k) (by kernel_rfl) (wqon k (fun _ _=>none) k) (by kernel_rfl)
def wq15t(k:Nat): Ent:=h_line_quoted.e 147 (@wqi6 k)
def h_strings_trimRightByte:Sh:=⟨[.a .str,.a (.int .u8)],some ([],[.a .str]),none⟩
def u_strings_trimRightByte_1001:Cu:=⟨0,[0,1],[.a .str,.a (.int .u8)]⟩
def wqed(k:Nat): Cxt:=⟨[],[],[(1001,u_strings_trimRightByte_1001.spec)],[]⟩
def wqaj(k:Nat){R:Type}(E1001:((List UInt8)→Int→Option R))(s0:(List UInt8))(s1:Int)(K:((List UInt8)→Option R)): Option R:=cond ((!((decide ((s0.length:Int)>0)) == true)) || (inb (@Go.IntKind.wrap Go.IntKind.i64 ((s0.length:Int)-1)) (s0.length:Int))) (cond (cond (decide ((s0.length:Int)>0)) (((s0.getD (@Go.IntKind.wrap Go.IntKind.i64 ((s0.length:Int)-1)).toNat 0).toNat:Int) == s1) false) (cond (bnd 0 (@Go.IntKind.wrap Go.IntKind.i64 ((s0.length:Int)-1)) (s0.length:Int)) (E1001 (cut s0 0 (@Go.IntKind.wrap Go.IntKind.i64 ((s0.length:Int)-1))) s1) none) (K s0)) none
def wqee(k:Nat){R:Type}(E1001:((List UInt8)→Int→Option R))(x0:(List UInt8))(x1:Int)(K:((List UInt8)→Option R)): Option R:=E1001 x0 x1
def wq5p(k:Nat){R:Type}: Nat→(List UInt8)→Int→((List UInt8)→Option R)→Option R
 |0,_,_,_=>none
 |n+1,s0,s1,K=>wqaj k (fun s0 s1=>wq5p k n s0 s1 K) s0 s1 K
theorem wqft(k:Nat){R:Type}: ∀(I:Nat→St→Option R) (n:Nat),h_strings_trimRightByte.lp u_strings_trimRightByte_1001 (wqed k).cx k Tryz.f188 1001 [1,0,0] I n=wq5p k n:=h_strings_trimRightByte.lok u_strings_trimRightByte_1001 (B:=wqaj k) (L:=wq5p k) (fun I=>by kernel_rfl) (fun I=>by kernel_rfl) (fun n=>by kernel_rfl) (fun _ _ _ _=>rfl)
def wqa7(k:Nat){R:Type}(x0:(List UInt8))(x1:Int)(K:((List UInt8)→Option R)): Option R:=wqee k (fun s0 s1=>wq5p k k s0 s1 K) x0 x1 K
theorem wqln(k:Nat): DOK Tryz.prog 188 (h_strings_trimRightByte.run (@wqa7 k)):=dok h_strings_trimRightByte (wqed k) Tryz.f188 k ok0 (by kernel_rfl) (by kernel_rfl) fun R=>h_strings_trimRightByte.f1 u_strings_trimRightByte_1001 (wqee k) (by kernel_rfl) (wqft k (fun _ _=>none) k) (by kernel_rfl)
def wqlo(k:Nat): Ent:=h_strings_trimRightByte.e 188 (@wqa7 k)
def h_strings_TrimRight:Sh:=⟨[.a .str,.j],some ([],[.a .str]),none⟩
def wqrx(k:Nat): Cxt:=⟨[wqlo k],[],[],[]⟩
def wqry(k:Nat){R:Type}(x0:(List UInt8))(x1:UInt8)(K:((List UInt8)→Option R)): Option R:=cond (cond (x0 == []) true ([x1] == [])) (K x0) (cond (cond ((@List.length UInt8 [x1]:Int) == 1) (decide (((([x1]).getD (Int.toNat 0) 0).toNat:Int)<128)) false) (wqa7 k x0 ((([x1]).getD (Int.toNat 0) 0).toNat:Int) K) none)
def wqab:=@wqry
theorem wqrz(k:Nat): DOK Tryz.prog 148 (h_strings_TrimRight.run (@wqab k)):=dok h_strings_TrimRight (wqrx k) Tryz.f148 k (ok1 (wqln k) ok0) (by kernel_rfl) (by kernel_rfl) fun R=>by kernel_rfl
def wqs0(k:Nat): Ent:=h_strings_TrimRight.e 148 (@wqab k)
def h_line_Strip:Sh:=⟨[.a .str],some ([],[.a .str,.a .bool]),none⟩
def u_line_Strip_1003:Cu:=⟨0,[0,4,5],[.a .str,.a kI,.a kI]⟩
def wqz5(k:Nat): Cxt:=⟨[wq15t k,wqs0 k],[],[(1003,u_line_Strip_1003.spec)],[]⟩
def wqlc(k:Nat){R:Type}(E1003:((List UInt8)→Int→Int→Option R))(s0:(List UInt8))(s1 s2:Int)(K:((List UInt8)→Bool→Option R)): Option R:=cond (decide (s2<(s0.length:Int))) (cond ((!((decide (s2>0)) == true)) || (inb (@Go.IntKind.wrap Go.IntKind.i64 (s2-1)) (s0.length:Int))) (cond (cond (decide (s2>0)) (((s0.getD (@Go.IntKind.wrap Go.IntKind.i64 (s2-1)).toNat 0).toNat:Int) != 32) false) (E1003 s0 s1 (@Go.IntKind.wrap Go.IntKind.i64 (s2+1))) (cond (inb s2 (s0.length:Int)) (cond (((s0.getD s2.toNat 0).toNat:Int) == 35) (cond (bnd 0 s2 (s0.length:Int)) (wqab k (cut s0 0 s2) 32 (fun y7=>K y7 true)) none) (cond (((s0.getD s2.toNat 0).toNat:Int) == 39) (wqi6 k s0 s2 (fun y7 y8=>cond (!y8) (K [] false) (E1003 s0 s1 (@Go.IntKind.wrap Go.IntKind.i64 (y7+1))))) (cond (((s0.getD s2.toNat 0).toNat:Int) == 34) (wqi6 k s0 s2 (fun y7 y8=>cond (!y8) (K [] false) (E1003 s0 s1 (@Go.IntKind.wrap Go.IntKind.i64 (y7+1))))) (E1003 s0 s1 (@Go.IntKind.wrap Go.IntKind.i64 (s2+1)))))) none)) none) (cond (bnd 0 s1 (s0.length:Int)) (wqab k (cut s0 0 s1) 32 (fun y7=>K y7 true)) none)
def wqz6(k:Nat){R:Type}(E1003:((List UInt8)→Int→Int→Option R))(x0:(List UInt8))(K:((List UInt8)→Bool→Option R)): Option R:=E1003 x0 (x0.length:Int) 0
def wqc4(k:Nat){R:Type}: Nat→(List UInt8)→Int→Int→((List UInt8)→Bool→Option R)→Option R
 |0,_,_,_,_=>none
 |n+1,s0,s1,s2,K=>wqlc k (fun s0 s1 s2=>wqc4 k n s0 s1 s2 K) s0 s1 s2 K
theorem wqqf(k:Nat){R:Type}: ∀(I:Nat→St→Option R) (n:Nat),h_line_Strip.lp u_line_Strip_1003 (wqz5 k).cx k Tryz.f99 1003 [1,0,1,1,0,1,0] I n=wqc4 k n:=h_line_Strip.lok u_line_Strip_1003 (B:=wqlc k) (L:=wqc4 k) (fun I=>by kernel_rfl) (fun I=>by kernel_rfl) (fun n=>by kernel_rfl) (fun _ _ _ _=>rfl)
def wqki(k:Nat){R:Type}(x0:(List UInt8))(K:((List UInt8)→Bool→Option R)): Option R:=wqz6 k (fun s0 s1 s2=>wqc4 k k s0 s1 s2 K) x0 K
theorem wqz7(k:Nat): DOK Tryz.prog 99 (h_line_Strip.run (@wqki k)):=dok h_line_Strip (wqz5 k) Tryz.f99 k (ok1 (wq15s k) (ok1 (wqrz k) ok0)) (by kernel_rfl) (by kernel_rfl) fun R=>h_line_Strip.f1 u_line_Strip_1003 (wqz6 k) (by kernel_rfl) (wqqf k (fun _ _=>none) k) (by kernel_rfl)
def wqz8(k:Nat): Ent:=h_line_Strip.e 99 (@wqki k)
def h_show_plain:Sh:=⟨[.a .str],some ([],[.a .bool]),none⟩
def u_show_plain_1002:Cu:=⟨0,[0,9,10],[.a .str,.a kI,.a kI]⟩
def wqz9(k:Nat): Cxt:=⟨[wqz8 k,⟨100,wq122,wqnx k⟩],[],[(1002,u_show_plain_1002.spec)],[]⟩
def wqld(k:Nat){R:Type}(E1002:((List UInt8)→Int→Int→Option R))(s0:(List UInt8))(s1 s2:Int)(K:(Bool→Option R)): Option R:=cond (decide (s2<s1)) (cond (inb s2 (s0.length:Int)) (cond ((!((decide (((s0.getD s2.toNat 0).toNat:Int)<32)) == false)) || (inb s2 (s0.length:Int))) (cond (cond (decide (((s0.getD s2.toNat 0).toNat:Int)<32)) true (((s0.getD s2.toNat 0).toNat:Int) == 127)) (K false) (E1002 s0 s1 (@Go.IntKind.wrap Go.IntKind.i64 (s2+1)))) none) none) (wqki k s0 (fun y7 y8=>cond (cond (cond (s0 == []) true (!y8)) true (!(y7 == s0))) (K false) (wqx6 k 0 0 s0 (fun y9 y10 y11=>cond ((!((cond (y10 == 0) ((y9.length:Int) == 1) false) == true)) || (inb 0 (y9.length:Int))) (cond ((!((cond (cond (y10 == 0) ((y9.length:Int) == 1) false) ((y9.getD (Int.toNat 0) kdT156.zero).1 == 3) false) == true)) || (inb 0 (y9.length:Int))) (cond ((!((cond (cond (cond (y10 == 0) ((y9.length:Int) == 1) false) ((y9.getD (Int.toNat 0) kdT156.zero).1 == 3) false) (((((y9.getD (Int.toNat 0) kdT156.zero).2).2).2).1 == s0) false) == true)) || (inb 0 (y9.length:Int))) (K (cond (cond (cond (cond (y10 == 0) ((y9.length:Int) == 1) false) ((y9.getD (Int.toNat 0) kdT156.zero).1 == 3) false) (((((y9.getD (Int.toNat 0) kdT156.zero).2).2).2).1 == s0) false) (!((((y9.getD (Int.toNat 0) kdT156.zero).2).2).2).2) false)) none) none) none))))
def wqza(k:Nat){R:Type}(E1002:((List UInt8)→Int→Int→Option R))(x0:(List UInt8))(K:(Bool→Option R)): Option R:=E1002 x0 (x0.length:Int) 0
def wqc5(k:Nat){R:Type}: Nat→(List UInt8)→Int→Int→(Bool→Option R)→Option R
 |0,_,_,_,_=>none
 |n+1,s0,s1,s2,K=>wqld k (fun s0 s1 s2=>wqc5 k n s0 s1 s2 K) s0 s1 s2 K
theorem wqqg(k:Nat){R:Type}: ∀(I:Nat→St→Option R) (n:Nat),h_show_plain.lp u_show_plain_1002 (wqz9 k).cx k Tryz.f164 1002 [1,0,1,0] I n=wqc5 k n:=h_show_plain.lok u_show_plain_1002 (B:=wqld k) (L:=wqc5 k) (fun I=>by kernel_rfl) (fun I=>by kernel_rfl) (fun n=>by kernel_rfl) (fun _ _ _ _=>rfl)
def wqqh(k:Nat){R:Type}(x0:(List UInt8))(K:(Bool→Option R)): Option R:=wqza k (fun s0 s1 s2=>wqc5 k k s0 s1 s2 K) x0 K
theorem wq186(k:Nat): DOK Tryz.prog 164 (h_show_plain.run (@wqqh k)):=dok h_show_plain (wqz9 k) Tryz.f164 k (ok1 (wqz7 k) (ok1 (fun _ _ _ _ _ h=>wq1a2 k h) ok0)) (by kernel_rfl) (by kernel_rfl) fun R=>h_show_plain.f1 u_show_plain_1002 (wqza k) (by kernel_rfl) (wqqg k (fun _ _=>none) k) (by kernel_rfl)
def wq187(k:Nat): Ent:=h_show_plain.e 164 (@wqqh k)
def h_show_may:Sh:=⟨[.g [.a kI,.a kI,.a .str,.a .bool,.s .str,.s kI]],some ([],[.a .bool]),none⟩
def wq1e1(k:Nat): Cxt:=⟨[wq187 k,wq17z k],[],[],[]⟩
def wq1e2(k:Nat){R:Type}(x0 x1:Int)(x2:(List UInt8))(x3:Bool)(x4:(List (List UInt8)))(x5:(List Int))(K:(Bool→Option R)): Option R:=cond (x0 == 1) (cond ((cond (cond ((x4.length:Int) == 0) ((x5.length:Int) == 0) false) (decide ((x2.length:Int)≤200)) false) == true) (cond (x3 == false) (wqqh k x2 K) (K true)) (K false)) (cond (x0 == 2) (K (cond (cond (cond (x2 == []) (!x3) false) ((x4.length:Int) == 0) false) (decide ((x5.length:Int)>0)) false)) (cond (x0 == 3) (cond ((cond (cond (cond (x2 == []) (!x3) false) (decide ((x5.length:Int)>0)) false) ((x4.length:Int) == (x5.length:Int)) false) == true) (wqqd k x4 K) (K false)) (K false)))
def wqzb:=@wq1e2
theorem wq1e3(k:Nat): DOK Tryz.prog 111 (h_show_may.run (@wqzb k)):=dok h_show_may (wq1e1 k) Tryz.f111 k (ok1 (wq186 k) (ok1 (wq17y k) ok0)) (by kernel_rfl) (by kernel_rfl) fun R=>by kernel_rfl
def wq1e4(k:Nat): Ent:=h_show_may.e 111 (@wqzb k)
def h_show_walk:Sh:=⟨[.g [.s kdT72],.a kI,.a kI],some ([],[.a kI]),none⟩
abbrev wqcp:Type 1:=(R:Type)→(List dT72)→Int→Int→(Int→Option R)→Option R
def u_show_walk_1005:Cu:=⟨0,[2,3,7,35,36,37],[.a kI,.o 13 38 0 [.s kdT72],.a kI,.s kI,.a kI,.a kI]⟩
def wqny(k:Nat)(wq5t:wqcp): Cxt:=⟨[h_show_walk.e 68 wq5t,wq1e4 k],[],[(1005,u_show_walk_1005.spec)],[]⟩
def wqmn(k:Nat)(wq5t:wqcp){R:Type}(E1005:(Int→(List dT72)→Int→(List Int)→Int→Int→Option R))(s0:Int)(s1:(List dT72))(s2:Int)(s3:(List Int))(s4 s5:Int)(K:(Int→Option R)): Option R:=cond (decide (s5<s4)) (cond (inb s5 (s3.length:Int)) (cond ((s3.getD s5.toNat kI.zero) != s2) (K (@Neg.neg Int @Int.instNegInt (1:Int))) (wq5t R s1 (s3.getD s5.toNat kI.zero) (@Go.IntKind.wrap Go.IntKind.i64 (s0+1)) (fun y10=>cond (decide (y10<0)) (K (@Neg.neg Int @Int.instNegInt (1:Int))) (E1005 s0 s1 y10 s3 s4 (@Go.IntKind.wrap Go.IntKind.i64 (s5+1)))))) none) (K s2)
def wqts(k:Nat)(wq5t:wqcp){R:Type}(E1005:(Int→(List dT72)→Int→(List Int)→Int→Int→Option R))(x0:(List dT72))(x1 x2:Int)(K:(Int→Option R)): Option R:=cond ((!((cond (decide (x1≥(x0.length:Int))) true (decide (x2>24))) == false)) || (inb x1 (x0.length:Int))) (cond ((cond (decide (x1≥(x0.length:Int))) true (decide (x2>24))) == false) (wqzb k (x0.getD x1.toNat kdT72.zero).1 ((x0.getD x1.toNat kdT72.zero).2).1 (((x0.getD x1.toNat kdT72.zero).2).2).1 ((((x0.getD x1.toNat kdT72.zero).2).2).2).1 (((((x0.getD x1.toNat kdT72.zero).2).2).2).2).1 (((((x0.getD x1.toNat kdT72.zero).2).2).2).2).2 (fun y7=>cond (!y7) (K (@Neg.neg Int @Int.instNegInt (1:Int))) (cond (inb x1 (x0.length:Int)) (E1005 x2 x0 (@Go.IntKind.wrap Go.IntKind.i64 (x1+1)) (((((x0.getD x1.toNat kdT72.zero).2).2).2).2).2 (((((((x0.getD x1.toNat kdT72.zero).2).2).2).2).2).length:Int) 0) none))) (K (@Neg.neg Int @Int.instNegInt (1:Int)))) none
def wqds(k:Nat)(wq5t:wqcp){R:Type}: Nat→Int→(List dT72)→Int→(List Int)→Int→Int→(Int→Option R)→Option R
 |0,_,_,_,_,_,_,_=>none
 |n+1,s0,s1,s2,s3,s4,s5,K=>wqmn k wq5t (fun s0 s1 s2 s3 s4 s5=>wqds k wq5t n s0 s1 s2 s3 s4 s5 K) s0 s1 s2 s3 s4 s5 K
theorem wqs1(k:Nat)(wq5t:wqcp){R:Type}: ∀(I:Nat→St→Option R) (n:Nat),h_show_walk.lp u_show_walk_1005 (wqny k wq5t).cx k Tryz.f68 1005 [1,1,1,0,1,0] I n=wqds k wq5t n:=h_show_walk.lok u_show_walk_1005 (B:=wqmn k wq5t) (L:=wqds k wq5t) (fun I=>by kernel_rfl) (fun I=>by kernel_rfl) (fun n=>by kernel_rfl) (fun _ _ _ _=>rfl)
theorem wq1be(k:Nat)(wq5t:wqcp)(R:Type): h_show_walk.at (wqny k wq5t) k Tryz.f68 R=h_show_walk.glue (l:=h_show_walk.ps) (u:=u_show_walk_1005.fs) (fun E1005=>@wqts k wq5t R E1005) (h_show_walk.lp u_show_walk_1005 (wqny k wq5t).cx k Tryz.f68 1005 [1,1,1,0,1,0] (fun _ _=>none) k):=by kernel_rfl
def wqak:Nat→wqcp
 |0,_,_,_,_,_=>none
 |k+1,R,x0,x1,x2,K=>wqts k (wqak k) (fun s0 s1 s2 s3 s4 s5=>wqds k (wqak k) k s0 s1 s2 s3 s4 s5 K) x0 x1 x2 K
def wqtt(k:Nat){R:Type}(x0:(List dT72))(x1 x2:Int)(K:(Int→Option R)): Option R:=wqak k R x0 x1 x2 K
theorem wq188(k:Nat): DOK Tryz.prog 68 (h_show_walk.run (wqak k)):=by
 induction k with
 |zero=>exact h_show_walk.ok0 fun R=>by kernel_rfl
 |succ k ih =>
  have ih_show_walk:=ih
  exact dok h_show_walk (wqny k (wqak k)) Tryz.f68 k (ok1 ih_show_walk (ok1 (wq1e3 k) ok0)) (by kernel_rfl) (by kernel_rfl) fun R=>h_show_walk.f1 u_show_walk_1005 (wqts k (wqak k)) (wq1be k (wqak k) R) (wqs1 k (wqak k) (fun _ _=>none) k) (by kernel_rfl)
theorem wq1bf(k:Nat): DOK Tryz.prog 68 (h_show_walk.run (@wqtt k)):=(wq188 k)
def wq1bg(k:Nat): Ent:=h_show_walk.e 68 (@wqtt k)
def h_show_Check:Sh:=⟨[.g [.s kdT72]],some ([],[.a kI]),none⟩
def wq189(k:Nat): Cxt:=⟨[wq1bg k],[],[],[(1,(.of [(0,1),(1,1),(2,1),(3,1),(4,1),(5,1),(6,1),(7,1),(8,1),(9,1),(10,1),(13,1),(11,1),(14,2),(15,1),(12,0),(16,1),(17,1)] .done))]⟩
def wq18a(k:Nat){R:Type}(x0:(List dT72))(K:(Int→Option R)): Option R:=cond ((cond (decide ((x0.length:Int)<1)) true (decide ((x0.length:Int)>2000))) == false) (wqtt k x0 0 1 (fun y4=>cond (y4 != (x0.length:Int)) (K 1) (K 0))) (K 1)
def wqqi:=@wq18a
theorem wq18b(k:Nat): DOK Tryz.prog 35 (h_show_Check.run (@wqqi k)):=dok h_show_Check (wq189 k) Tryz.f35 k (ok1 (wq1bf k) ok0) (by kernel_rfl) (by kernel_rfl) fun R=>by kernel_rfl
def wqv6:List LS:=[.ag [.sl (.pr (.int .i64) (.pr (.int .i64) (.pr .str (.pr .bool (.pr (.sl .str) (.sl (.int .i64)))))))]]
def wq123(k:Nat): CTab:=(CTab.add 35 h_show_Check.sig (h_show_Check.run (@wqqi k)) (CTab.add 37 h_config_reader_root.sig (h_config_reader_root.run (@wqcn k)) CTab.nil))
def wqkj{R:Type}(K:((List ((List UInt8)×(List Int)))→(List dT56)→Int→Int→Option R)): Out→Option R
 |.ret [.agg [.v (.sl (.pr .str (.sl (.int .i64)))) y0,.v (.sl (.pr .str (.pr .str (.pr .bool (.pr (.int .i64) (.pr (.int .i64) (.pr .bool (.pr (.pr .str (.pr (.int .i64) (.pr (.int .i64) (.pr .flt (.pr .bool .bool))))) (.sl (.int .i64)))))))))) y1],.agg [.v (.int .i64) y2,.v (.int .i64) y3]] []=>K y0 y1 y2 y3
 |_=>none
def wqzc:RetSpec:=⟨[.ag [.sl (.pr .str (.sl (.int .i64))),.sl (.pr .str (.pr .str (.pr .bool (.pr (.int .i64) (.pr (.int .i64) (.pr .bool (.pr (.pr .str (.pr (.int .i64) (.pr (.int .i64) (.pr .flt (.pr .bool .bool))))) (.sl (.int .i64)))))))))],.ag [.any,.any]],[],[]⟩
def wq13j:List (Nat×CutSpec):=[]
def wq10m:List (Nat×Plan):=[]
def wqqj(k:Nat): Ctx:=⟨tyT,wq13j,wq123 k,[2,3],[],wq10m,@SH⟩
def wq52:Code:=Tryz.f16.body.getD .skip
def wqgq(k:Nat){R:Type}: PV→List PV→List (Nm×HObj)→(Out→Option R)→Option R
 |.nilif,[.ptr 1 0,.ptr 2 0],[(1,.var 27 [.v (.sl (.pr .str (.sl (.int .i64)))) x0,.v (.sl (.pr .str (.pr .str (.pr .bool (.pr (.int .i64) (.pr (.int .i64) (.pr .bool (.pr (.pr .str (.pr (.int .i64) (.pr (.int .i64) (.pr .flt (.pr .bool .bool))))) (.sl (.int .i64)))))))))) x1]),(2,.var 29 [.v (.int .i64) x2,.v (.int .i64) x3])],K=>wqfd k x0 x1 x2 x3 (fun y0 y1 y2 y3=>K (.ret [] [(1,.var 27 [.v (.sl (.pr .str (.sl (.int .i64)))) y0,.v (.sl (.pr .str (.pr .str (.pr .bool (.pr (.int .i64) (.pr (.int .i64) (.pr .bool (.pr (.pr .str (.pr (.int .i64) (.pr (.int .i64) (.pr .flt (.pr .bool .bool))))) (.sl (.int .i64)))))))))) y1]),(2,.var 29 [.v (.int .i64) y2,.v (.int .i64) y3])]))
 |.ifc 29 (.agg [.v (.int .i64) x4,.v (.int .i64) x5]),[.ptr 1 0,.ptr 2 0],[(1,.var 27 [.v (.sl (.pr .str (.sl (.int .i64)))) x0,.v (.sl (.pr .str (.pr .str (.pr .bool (.pr (.int .i64) (.pr (.int .i64) (.pr .bool (.pr (.pr .str (.pr (.int .i64) (.pr (.int .i64) (.pr .flt (.pr .bool .bool))))) (.sl (.int .i64)))))))))) x1]),(2,.var 29 [.v (.int .i64) x2,.v (.int .i64) x3])],K=>wqfe k x0 x1 x2 x3 x4 x5 (fun y0 y1 y2 y3=>K (.ret [] [(1,.var 27 [.v (.sl (.pr .str (.sl (.int .i64)))) y0,.v (.sl (.pr .str (.pr .str (.pr .bool (.pr (.int .i64) (.pr (.int .i64) (.pr .bool (.pr (.pr .str (.pr (.int .i64) (.pr (.int .i64) (.pr .flt (.pr .bool .bool))))) (.sl (.int .i64)))))))))) y1]),(2,.var 29 [.v (.int .i64) y2,.v (.int .i64) y3])]))
 |_,_,_,_=>none
def wq124(k:Nat){R:Type}(x0:(List dT72))(K:((List ((List UInt8)×(List Int)))→(List dT56)→Int→Int→Option R)): Option R:=wqqi k x0 (fun y4=>cond (y4 != 0) (K [] [] 11 0) (wqcn k x0 [] [] 0 (fun y5 y6 y7 y8=>wqfd k y6 y7 0 0 K) (fun y5 y6 y7 y8 y9 y10=>wqfe k [] [] 0 0 y9 y10 K)))
theorem wq13k(k:Nat){R:Type}(I:Nat→St→Option R)(x0:(List dT72))(K:((List ((List UInt8)×(List Int)))→(List dT56)→Int→Int→Option R)): fnDK (wqqj k) k [300,400] [at_ [0] wq52,at_ [1,0] wq52] (opsAt (at_ [1,1,0] wq52)) (at_ [1,1,1] wq52) 22 [.cell 2 27,.cell 3 29] wqzc (wqgq k) wqp2 [(300,0),(400,0)] [.agg [.v (.sl (.pr (.int .i64) (.pr (.int .i64) (.pr .str (.pr .bool (.pr (.sl .str) (.sl (.int .i64)))))))) x0]] [] (wqkj K)=wq124 k x0 K:=by kernel_rfl
def wqh0(k:Nat){R:Type}(x0:(List dT72))(K:((List ((List UInt8)×(List Int)))→(List dT56)→Int→Int→Option R)): Option R:=wq124 k x0 K
theorem wq13l(k:Nat){R:Type}(x0:(List dT72))(K:((List ((List UInt8)×(List Int)))→(List dT56)→Int→Int→Option R)): fnDK (wqqj k) k [300,400] [at_ [0] wq52,at_ [1,0] wq52] (opsAt (at_ [1,1,0] wq52)) (at_ [1,1,1] wq52) 22 [.cell 2 27,.cell 3 29] wqzc (wqgq k) wqp2 [(300,0),(400,0)] [.agg [.v (.sl (.pr (.int .i64) (.pr (.int .i64) (.pr .str (.pr .bool (.pr (.sl .str) (.sl (.int .i64)))))))) x0]] [] (wqkj K)=wqh0 k x0 K:=by
 exact wq13k k (fun _ _=>none) x0 K
def wqi7(k:Nat){R:Type}: List PV→List (Nm×HObj)→(Out→Option R)→Option R
 |[.agg [.v (.sl (.pr (.int .i64) (.pr (.int .i64) (.pr .str (.pr .bool (.pr (.sl .str) (.sl (.int .i64)))))))) x0]],[],K=>wqh0 k x0 (fun y0 y1 y2 y3=>K (.ret [.agg [.v (.sl (.pr .str (.sl (.int .i64)))) y0,.v (.sl (.pr .str (.pr .str (.pr .bool (.pr (.int .i64) (.pr (.int .i64) (.pr .bool (.pr (.pr .str (.pr (.int .i64) (.pr (.int .i64) (.pr .flt (.pr .bool .bool))))) (.sl (.int .i64)))))))))) y1],.agg [.v (.int .i64) y2,.v (.int .i64) y3]] []))
 |_,_,_=>none
theorem wq13m(k:Nat): (wq123 k).Ok Tryz.prog:=(wq11l (wq18b k) (wq11l (wqqb k) CTab.nil_ok))
theorem wqwh(k:Nat){R:Type}(rec:PV)(ps:List PV)(hp:List (Nm×HObj))(K:Out→Option R)(r:R)(h:wqgq k rec ps hp K=some r): DoesToD Tryz.prog 36 rec ps hp fun out=>K out=some r:=by
 unfold wqgq at h
 split at h
 ·exact wqyl k h
 ·exact wqym k h
 ·cases h
theorem wq125(k:Nat){ps:List PV}{hp:List (Nm×HObj)}{R:Type}{K:Out→Option R}{r:R}(h:wqi7 k ps hp K=some r): DoesTo Tryz.prog 16 ps hp fun out=>K out=some r:=by
 unfold wqi7 at h
 split at h
 ·rw[←wq13l]at h
  have:=wq1de (P:=Tryz.prog) (cx:=wqqj k) (f:=16) ⟨tyT_ok,wq13m k,fun _ _=>rfl⟩ (by kernel_rfl) (fn:=Tryz.f16) (id:=3) (pre:=[at_ [0] wq52,at_ [1,0] wq52]) (rest:=at_ [1,1,1] wq52) (ops:=opsAt (at_ [1,1,0] wq52)) (by kernel_rfl) (by kernel_rfl) (by kernel_rfl) (rs:=[.cell 2 27,.cell 3 29]) (by kernel_rfl) (by kernel_rfl) (by kernel_rfl) (g:=36) (s:=10) (xs:=[.tmp 2,.tmp 3]) (by kernel_rfl) (Invokes.of (fn:=Tryz.f36) (by kernel_rfl) (c:=Tryz.f36.body.getD .skip) (by kernel_rfl) (by kernel_rfl)) (wqwh k) h
  exact this.mono fun out ho=>by
   unfold wqkj at ho
   split at ho<;>first|exact ho|cases ho
 ·cases h
def wqs2(wqd8:(R:Type)→(List dT72)→((List ((List UInt8)×(List Int)))→(List dT56)→Int→Int→Option R)→Option R){R:Type}: List PV→List (Nm×HObj)→(Out→Option R)→Option R
 |[.agg [.v (.sl (.pr (.int .i64) (.pr (.int .i64) (.pr .str (.pr .bool (.pr (.sl .str) (.sl (.int .i64)))))))) x0]],[],K=>wqd8 R x0 (fun y0 y1 y2 y3=>K (.ret [.agg [.v (.sl (.pr .str (.sl (.int .i64)))) y0,.v (.sl (.pr .str (.pr .str (.pr .bool (.pr (.int .i64) (.pr (.int .i64) (.pr .bool (.pr (.pr .str (.pr (.int .i64) (.pr (.int .i64) (.pr .flt (.pr .bool .bool))))) (.sl (.int .i64)))))))))) y1],.agg [.v (.int .i64) y2,.v (.int .i64) y3]] []))
 |_,_,_=>none
def wqzd:List LS:=[.obj 1 [.sl (.pr (.int .i64) (.pr (.int .i64) (.pr .str (.pr .bool (.pr (.sl .str) (.sl (.int .i64)))))))],.obj 2 [.any,.any]]
def wqze(k:Nat): CTab:=CTab.nil
def wqiq{R:Type}(K:((List dT72)→Int→Int→Option R)): Out→Option R
 |.ret [] [(1,.var 38 [.v (.sl (.pr (.int .i64) (.pr (.int .i64) (.pr .str (.pr .bool (.pr (.sl .str) (.sl (.int .i64)))))))) y0]),(2,.var 29 [.v (.int .i64) y1,.v (.int .i64) y2])]=>K y0 y1 y2
 |_=>none
def wqv7:RetSpec:=⟨[],[(1,.obj 1 [.sl (.pr (.int .i64) (.pr (.int .i64) (.pr .str (.pr .bool (.pr (.sl .str) (.sl (.int .i64)))))))]),(2,.obj 2 [.any,.any])],[]⟩
def wq10n:List (Nat×CutSpec):=[]
def wqzf:List (Nat×Plan):=[(7,(.of [(0,1),(1,2),(2,0),(3,0)] .done))]
def wqmo(k:Nat): Ctx:=⟨tyT,wq10n,wqze k,[],[1,2],wqzf,@SH⟩
def wqff:Code:=Tryz.f101.body.getD .skip
def wqzg(k:Nat){R:Type}(x0:(List dT72))(x1 x2:Int)(K:((List dT72)→Int→Int→Option R)): Option R:=K x0 x1 x2
theorem wq10o(k:Nat){R:Type}(I:Nat→St→Option R)(x0:(List dT72))(x1 x2:Int)(K:((List dT72)→Int→Int→Option R)): fnCK (wqmo k) k (at_ [1] wqff) 13 [] wqv7 [.ptr 1 0,.ptr 2 0] 5 (.nilif) [(1,.var 38 [.v (.sl (.pr (.int .i64) (.pr (.int .i64) (.pr .str (.pr .bool (.pr (.sl .str) (.sl (.int .i64)))))))) x0]),(2,.var 29 [.v (.int .i64) x1,.v (.int .i64) x2])] (wqiq K)=wqzg k x0 x1 x2 K:=by kernel_rfl
def wqkk(k:Nat){R:Type}(x0:(List dT72))(x1 x2:Int)(K:((List dT72)→Int→Int→Option R)): Option R:=wqzg k x0 x1 x2 K
theorem wq10p(k:Nat){R:Type}(x0:(List dT72))(x1 x2:Int)(K:((List dT72)→Int→Int→Option R)): fnCK (wqmo k) k (at_ [1] wqff) 13 [] wqv7 [.ptr 1 0,.ptr 2 0] 5 (.nilif) [(1,.var 38 [.v (.sl (.pr (.int .i64) (.pr (.int .i64) (.pr .str (.pr .bool (.pr (.sl .str) (.sl (.int .i64)))))))) x0]),(2,.var 29 [.v (.int .i64) x1,.v (.int .i64) x2])] (wqiq K)=wqkk k x0 x1 x2 K:=by
 exact wq10o k (fun _ _=>none) x0 x1 x2 K
def wqs3(k:Nat){R:Type}: PV→List PV→List (Nm×HObj)→(Out→Option R)→Option R
 |.nilif,[.ptr 1 0,.ptr 2 0],[(1,.var 38 [.v (.sl (.pr (.int .i64) (.pr (.int .i64) (.pr .str (.pr .bool (.pr (.sl .str) (.sl (.int .i64)))))))) x0]),(2,.var 29 [.v (.int .i64) x1,.v (.int .i64) x2])],K=>wqkk k x0 x1 x2 (fun y0 y1 y2=>K (.ret [] [(1,.var 38 [.v (.sl (.pr (.int .i64) (.pr (.int .i64) (.pr .str (.pr .bool (.pr (.sl .str) (.sl (.int .i64)))))))) y0]),(2,.var 29 [.v (.int .i64) y1,.v (.int .i64) y2])]))
 |_,_,_,_=>none
theorem wq10q(k:Nat): (wqze k).Ok Tryz.prog:=CTab.nil_ok
theorem wq15u(k:Nat){rec:PV}{ps:List PV}{hp:List (Nm×HObj)}{R:Type}{K:Out→Option R}{r:R}(h:wqs3 k rec ps hp K=some r): DoesToD Tryz.prog 101 rec ps hp fun out=>K out=some r:=by
 unfold wqs3 at h
 split at h
 ·rw[←wq10p]at h
  have:=wq11k (P:=Tryz.prog) (cx:=wqmo k) (f:=101) ⟨tyT_ok,wq10q k,fun _ _=>rfl⟩ (by kernel_rfl) (fn:=Tryz.f101) (id:=0) (ops:=opsAt (at_ [0] wqff)) (c:=at_ [1] wqff) (by kernel_rfl) (by kernel_rfl) (by kernel_rfl) (rs:=[]) (by kernel_rfl) (by kernel_rfl) h
  exact this.mono fun out ho=>by
   unfold wqiq at ho
   split at ho<;>first|exact ho|cases ho
 ·cases h
def wqzh(k:Nat): CTab:=CTab.nil
def wqir{R:Type}(K:((List dT72)→Int→Int→Option R)): Out→Option R
 |.ret [] [(1,.var 38 [.v (.sl (.pr (.int .i64) (.pr (.int .i64) (.pr .str (.pr .bool (.pr (.sl .str) (.sl (.int .i64)))))))) y0]),(2,.var 29 [.v (.int .i64) y1,.v (.int .i64) y2])]=>K y0 y1 y2
 |_=>none
def wqv8:RetSpec:=⟨[],[(1,.obj 1 [.sl (.pr (.int .i64) (.pr (.int .i64) (.pr .str (.pr .bool (.pr (.sl .str) (.sl (.int .i64)))))))]),(2,.obj 2 [.any,.any])],[]⟩
def wq10r:List (Nat×CutSpec):=[]
def wqzi:List (Nat×Plan):=[(7,(.of [(0,1),(1,2),(2,0),(3,0)] .done))]
def wqmp(k:Nat): Ctx:=⟨tyT,wq10r,wqzh k,[],[1,2],wqzi,@SH⟩
def wqfg:Code:=Tryz.f101.body.getD .skip
def wqzj(k:Nat){R:Type}(x0:(List dT72))(x1 x2 x3 x4:Int)(K:((List dT72)→Int→Int→Option R)): Option R:=K [] x3 x4
theorem wq10s(k:Nat){R:Type}(I:Nat→St→Option R)(x0:(List dT72))(x1 x2 x3 x4:Int)(K:((List dT72)→Int→Int→Option R)): fnCK (wqmp k) k (at_ [1] wqfg) 13 [] wqv8 [.ptr 1 0,.ptr 2 0] 5 (.ifc 29 (.agg [.v (.int .i64) x3,.v (.int .i64) x4])) [(1,.var 38 [.v (.sl (.pr (.int .i64) (.pr (.int .i64) (.pr .str (.pr .bool (.pr (.sl .str) (.sl (.int .i64)))))))) x0]),(2,.var 29 [.v (.int .i64) x1,.v (.int .i64) x2])] (wqir K)=wqzj k x0 x1 x2 x3 x4 K:=by kernel_rfl
def wqet(k:Nat){R:Type}(x0:(List dT72))(x1 x2 x3 x4:Int)(K:((List dT72)→Int→Int→Option R)): Option R:=wqzj k x0 x1 x2 x3 x4 K
theorem wq10t(k:Nat){R:Type}(x0:(List dT72))(x1 x2 x3 x4:Int)(K:((List dT72)→Int→Int→Option R)): fnCK (wqmp k) k (at_ [1] wqfg) 13 [] wqv8 [.ptr 1 0,.ptr 2 0] 5 (.ifc 29 (.agg [.v (.int .i64) x3,.v (.int .i64) x4])) [(1,.var 38 [.v (.sl (.pr (.int .i64) (.pr (.int .i64) (.pr .str (.pr .bool (.pr (.sl .str) (.sl (.int .i64)))))))) x0]),(2,.var 29 [.v (.int .i64) x1,.v (.int .i64) x2])] (wqir K)=wqet k x0 x1 x2 x3 x4 K:=by
 exact wq10s k (fun _ _=>none) x0 x1 x2 x3 x4 K
def wqs4(k:Nat){R:Type}: PV→List PV→List (Nm×HObj)→(Out→Option R)→Option R
 |.ifc 29 (.agg [.v (.int .i64) x3,.v (.int .i64) x4]),[.ptr 1 0,.ptr 2 0],[(1,.var 38 [.v (.sl (.pr (.int .i64) (.pr (.int .i64) (.pr .str (.pr .bool (.pr (.sl .str) (.sl (.int .i64)))))))) x0]),(2,.var 29 [.v (.int .i64) x1,.v (.int .i64) x2])],K=>wqet k x0 x1 x2 x3 x4 (fun y0 y1 y2=>K (.ret [] [(1,.var 38 [.v (.sl (.pr (.int .i64) (.pr (.int .i64) (.pr .str (.pr .bool (.pr (.sl .str) (.sl (.int .i64)))))))) y0]),(2,.var 29 [.v (.int .i64) y1,.v (.int .i64) y2])]))
 |_,_,_,_=>none
theorem wq10u(k:Nat): (wqzh k).Ok Tryz.prog:=CTab.nil_ok
theorem wq15v(k:Nat){rec:PV}{ps:List PV}{hp:List (Nm×HObj)}{R:Type}{K:Out→Option R}{r:R}(h:wqs4 k rec ps hp K=some r): DoesToD Tryz.prog 101 rec ps hp fun out=>K out=some r:=by
 unfold wqs4 at h
 split at h
 ·rw[←wq10t]at h
  have:=wq11k (P:=Tryz.prog) (cx:=wqmp k) (f:=101) ⟨tyT_ok,wq10u k,fun _ _=>rfl⟩ (by kernel_rfl) (fn:=Tryz.f101) (id:=0) (ops:=opsAt (at_ [0] wqfg)) (c:=at_ [1] wqfg) (by kernel_rfl) (by kernel_rfl) (by kernel_rfl) (rs:=[]) (by kernel_rfl) (by kernel_rfl) h
  exact this.mono fun out ho=>by
   unfold wqir at ho
   split at ho<;>first|exact ho|cases ho
 ·cases h
def h_doc_gives:Sh:=⟨[.a kI,.a kI],none,some ([],[.i 29 (.g [.a kI,.a kI])])⟩
def wq1bh(k:Nat): Cxt:=⟨[],[],[],[]⟩
def wq1bi(k:Nat){R:Type}(x0 x1:Int)(E:(Int→Int→Option R)): Option R:=E x0 x1
def wqa3:=@wq1bi
theorem wqnz(k:Nat): DOK Tryz.prog 102 (h_doc_gives.run (@wqa3 k)):=dok h_doc_gives (wq1bh k) Tryz.f102 k ok0 (by kernel_rfl) (by kernel_rfl) fun R=>by kernel_rfl
def wqtu(k:Nat): Ent:=h_doc_gives.e 102 (@wqa3 k)
def h_doc_parser_next:Sh:=⟨[.o 1 155 0 [.s kdT156,.w 21 73 kdT72],.a kI,.a kI],some ([.o 1 155 0 [.s kdT156,.w 21 73 kdT72]],[.a .bool]),none⟩
def wqwi(k:Nat): Cxt:=⟨[],[1],[],[]⟩
def wqwj(k:Nat){R:Type}(x0:(List dT156))(x1:(List dT72))(x2 x3:Int)(K:((List dT156)→(List dT72)→Bool→Option R)): Option R:=cond ((!((decide ((x0.length:Int)>0)) == true)) || (inb 0 (x0.length:Int))) (cond ((!((cond (decide ((x0.length:Int)>0)) ((x0.getD (Int.toNat 0) kdT156.zero).1 == x2) false) == true)) || (inb 0 (x0.length:Int))) (K x0 x1 (cond (cond (decide ((x0.length:Int)>0)) ((x0.getD (Int.toNat 0) kdT156.zero).1 == x2) false) ((((x0.getD (Int.toNat 0) kdT156.zero).2).2).1 == x3) false)) none) none
def wqc6:=@wqwj
theorem wqle(k:Nat): DOK Tryz.prog 197 (h_doc_parser_next.run (@wqc6 k)):=dok h_doc_parser_next (wqwi k) Tryz.f197 k ok0 (by kernel_rfl) (by kernel_rfl) fun R=>by kernel_rfl
def wqlf(k:Nat): Ent:=h_doc_parser_next.e 197 (@wqc6 k)
def h_doc_parser_take:Sh:=⟨[.o 1 155 0 [.s kdT156,.w 21 73 kdT72]],some ([.o 1 155 0 [.s kdT156,.w 21 73 kdT72]],[.g [.a kI,.a kI,.a kI,.a .str,.a .bool]]),none⟩
def wqwk(k:Nat): Cxt:=⟨[],[1],[],[]⟩
def wqwl(k:Nat){R:Type}(x0:(List dT156))(x1:(List dT72))(K:((List dT156)→(List dT72)→Int→Int→Int→(List UInt8)→Bool→Option R)): Option R:=cond (inb 0 (x0.length:Int)) (cond (bnd 1 (x0.length:Int) (x0.length:Int)) (K (cut x0 1 (x0.length:Int)) x1 (x0.getD (Int.toNat 0) kdT156.zero).1 ((x0.getD (Int.toNat 0) kdT156.zero).2).1 (((x0.getD (Int.toNat 0) kdT156.zero).2).2).1 ((((x0.getD (Int.toNat 0) kdT156.zero).2).2).2).1 ((((x0.getD (Int.toNat 0) kdT156.zero).2).2).2).2) none) none
def wq9v:=@wqwl
theorem wqg6(k:Nat): DOK Tryz.prog 151 (h_doc_parser_take.run (@wq9v k)):=dok h_doc_parser_take (wqwk k) Tryz.f151 k ok0 (by kernel_rfl) (by kernel_rfl) fun R=>by kernel_rfl
def wqg7(k:Nat): Ent:=h_doc_parser_take.e 151 (@wq9v k)
def h_doc_parser_block:Sh:=⟨[.o 1 155 0 [.s kdT156,.w 21 73 kdT72],.a kI],some ([.o 1 155 0 [.s kdT156,.w 21 73 kdT72]],[.a kI]),some ([.o 1 155 0 [.s kdT156,.w 21 73 kdT72]],[.i 29 (.g [.a kI,.a kI])])⟩
abbrev wq1l:Type 1:=(R:Type)→(List dT156)→(List dT72)→Int→((List dT156)→(List dT72)→Int→Option R)→((List dT156)→(List dT72)→Int→Int→Option R)→Option R
def h_doc_parser_list:Sh:=⟨[.o 1 155 0 [.s kdT156,.w 21 73 kdT72],.a kI,.a kI,.a kI],some ([.o 1 155 0 [.s kdT156,.w 21 73 kdT72]],[]),some ([.o 1 155 0 [.s kdT156,.w 21 73 kdT72]],[.i 29 (.g [.a kI,.a kI])])⟩
abbrev wq1v:Type 1:=(R:Type)→(List dT156)→(List dT72)→Int→Int→Int→((List dT156)→(List dT72)→Option R)→((List dT156)→(List dT72)→Int→Int→Option R)→Option R
def h_doc_parser_pairs:Sh:=⟨[.o 1 155 0 [.s kdT156,.w 21 73 kdT72],.a kI,.a kI,.a kI],some ([.o 1 155 0 [.s kdT156,.w 21 73 kdT72]],[]),some ([.o 1 155 0 [.s kdT156,.w 21 73 kdT72]],[.i 29 (.g [.a kI,.a kI])])⟩
abbrev wq1m:Type 1:=(R:Type)→(List dT156)→(List dT72)→Int→Int→Int→((List dT156)→(List dT72)→Option R)→((List dT156)→(List dT72)→Int→Int→Option R)→Option R
def h_doc_parser_under:Sh:=⟨[.o 1 155 0 [.s kdT156,.w 21 73 kdT72],.g [.a kI,.a kI,.a kI,.a .str,.a .bool],.a kI],some ([.o 1 155 0 [.s kdT156,.w 21 73 kdT72]],[.a kI]),some ([.o 1 155 0 [.s kdT156,.w 21 73 kdT72]],[.i 29 (.g [.a kI,.a kI])])⟩
abbrev wq1n:Type 1:=(R:Type)→(List dT156)→(List dT72)→Int→Int→Int→(List UInt8)→Bool→Int→((List dT156)→(List dT72)→Int→Option R)→((List dT156)→(List dT72)→Int→Int→Option R)→Option R
def wqjb(k:Nat)(wqe:wq1l)(wqg:wq1v)(wqf:wq1m)(wqb:wq1n): Cxt:=⟨[wqtu k,wqg7 k,h_doc_parser_list.e 152 wqg,h_doc_parser_pairs.e 153 wqf],[1],[],[(9,(.of [(0,1),(1,1),(2,1),(3,1),(4,1),(6,1),(5,1),(7,1),(8,1),(9,0),(10,0),(11,1),(12,1),(13,1),(14,0)] .done)),(14,(.of [(0,1),(1,1),(2,1),(3,1),(5,1),(6,1),(8,1),(10,1),(4,1),(7,1),(9,1),(11,1),(12,1),(13,1),(14,0)] .done))]⟩
def wqjc(k:Nat)(wqe:wq1l)(wqg:wq1v)(wqf:wq1m)(wqb:wq1n){R:Type}(x0:(List dT156))(x1:(List dT72))(x2:Int)(K:((List dT156)→(List dT72)→Int→Option R))(E:((List dT156)→(List dT72)→Int→Int→Option R)): Option R:=cond (inb 0 (x0.length:Int)) (cond (cond (decide ((x0.getD (Int.toNat 0) kdT156.zero).1<1)) true (decide ((x0.getD (Int.toNat 0) kdT156.zero).1>3))) (wqa3 k 6 ((x0.getD (Int.toNat 0) kdT156.zero).2).1 (fun y7 y8=>E x0 x1 y7 y8)) (cond (decide (x2>24)) (wqa3 k 8 ((x0.getD (Int.toNat 0) kdT156.zero).2).1 (fun y7 y8=>E x0 x1 y7 y8)) (cond (decide ((x1.length:Int)≥2000)) (wqa3 k 9 ((x0.getD (Int.toNat 0) kdT156.zero).2).1 (fun y7 y8=>E x0 x1 y7 y8)) (cond (fits x1.length (@List.length (@Kd.T kdT72) [((0:(@Kd.T kI)),(((x0.getD (Int.toNat 0) kdT156.zero).2).1,([],(false,([],[])))))]) 88) (cond ((x0.getD (Int.toNat 0) kdT156.zero).1 == 3) (wq9v k x0 (x1++[(0,(((x0.getD (Int.toNat 0) kdT156.zero).2).1,([],(false,([],[])))))]) (fun y7 y8 y9 y10 y11 y12 y13=>cond (inb (x1.length:Int) (y8.length:Int)) (@SH (@List (@Kd.T kdT72)) R (List.set y8 (x1.length:Int).toNat (1,(((x0.getD (Int.toNat 0) kdT156.zero).2).1,(((((x0.getD (Int.toNat 0) kdT156.zero).2).2).2).1,(((((x0.getD (Int.toNat 0) kdT156.zero).2).2).2).2,([],[])))))) (fun y14=>K y7 y14 (x1.length:Int))) none)) (cond ((x0.getD (Int.toNat 0) kdT156.zero).1 == 1) (wqg R x0 (x1++[(0,(((x0.getD (Int.toNat 0) kdT156.zero).2).1,([],(false,([],[])))))]) (x1.length:Int) (((x0.getD (Int.toNat 0) kdT156.zero).2).2).1 x2 (fun y7 y8=>K y7 y8 (x1.length:Int)) E) (wqf R x0 (x1++[(0,(((x0.getD (Int.toNat 0) kdT156.zero).2).1,([],(false,([],[])))))]) (x1.length:Int) (((x0.getD (Int.toNat 0) kdT156.zero).2).2).1 x2 (fun y7 y8=>K y7 y8 (x1.length:Int)) E))) none)))) none
theorem wqtv(k:Nat)(wqe:wq1l)(wqg:wq1v)(wqf:wq1m)(wqb:wq1n)(R:Type): h_doc_parser_block.at (wqjb k wqe wqg wqf wqb) k Tryz.f103 R=@wqjc k wqe wqg wqf wqb R:=by kernel_rfl
def u_doc_parser_list_1001:Cu:=⟨1,[0,1,2,3,8],[.o 1 155 0 [.s kdT156,.w 21 73 kdT72],.r 1 0,.a kI,.a kI,.a kI,.w 100008 3 kI]⟩
def wqc7(k:Nat)(wqe:wq1l)(wqg:wq1v)(wqf:wq1m)(wqb:wq1n): Cxt:=⟨[wqg7 k,wqlf k,h_doc_parser_under.e 198 wqb],[1],[(1001,u_doc_parser_list_1001.spec)],[(3,(.of [(0,1),(1,1),(2,1),(3,1),(5,1),(6,1),(7,1),(8,1),(9,1),(11,1),(12,1),(4,1),(10,1),(13,1),(14,1),(15,0),(16,1),(17,1),(18,0)] .done))]⟩
def wqfu(k:Nat)(wqe:wq1l)(wqg:wq1v)(wqf:wq1m)(wqb:wq1n){R:Type}(E1001:((List dT156)→(List dT72)→Int→Int→Int→(List Int)→Option R))(s0:(List dT156))(s1:(List dT72))(s2 s3 s4:Int)(s5:(List Int))(K:((List dT156)→(List dT72)→Option R))(E:((List dT156)→(List dT72)→Int→Int→Option R)): Option R:=wqc6 k s0 s1 1 s3 (fun y11 y12 y13=>cond y13 (wq9v k y11 y12 (fun y14 y15 y16 y17 y18 y19 y20=>wqb R y14 y15 y16 y17 y18 y19 y20 s4 (fun y21 y22 y23=>cond (fits s5.length (@List.length (@Kd.T kI) [y23]) 8) (E1001 y21 y22 s2 s3 s4 (s5++[y23])) none) E)) (cond (inb s2 (y12.length:Int)) (@SH (@List (@Kd.T kdT72)) R (List.set y12 s2.toNat (2,(((y12.getD s2.toNat kdT72.zero).2).1,((((y12.getD s2.toNat kdT72.zero).2).2).1,(((((y12.getD s2.toNat kdT72.zero).2).2).2).1,((((((y12.getD s2.toNat kdT72.zero).2).2).2).2).1,(((((y12.getD s2.toNat kdT72.zero).2).2).2).2).2)))))) (fun y14=>cond (inb s2 (y14.length:Int)) (@SH (@List (@Kd.T kdT72)) R (List.set y14 s2.toNat ((y14.getD s2.toNat kdT72.zero).1,(((y14.getD s2.toNat kdT72.zero).2).1,((((y14.getD s2.toNat kdT72.zero).2).2).1,(((((y14.getD s2.toNat kdT72.zero).2).2).2).1,((((((y14.getD s2.toNat kdT72.zero).2).2).2).2).1,s5)))))) (fun y15=>K y11 y15)) none)) none))
def wqg8(k:Nat)(wqe:wq1l)(wqg:wq1v)(wqf:wq1m)(wqb:wq1n){R:Type}(E1001:((List dT156)→(List dT72)→Int→Int→Int→(List Int)→Option R))(x0:(List dT156))(x1:(List dT72))(x2 x3 x4:Int)(K:((List dT156)→(List dT72)→Option R))(E:((List dT156)→(List dT72)→Int→Int→Option R)): Option R:=E1001 x0 x1 x2 x3 x4 []
def wq88(k:Nat)(wqe:wq1l)(wqg:wq1v)(wqf:wq1m)(wqb:wq1n){R:Type}: Nat→(List dT156)→(List dT72)→Int→Int→Int→(List Int)→((List dT156)→(List dT72)→Option R)→((List dT156)→(List dT72)→Int→Int→Option R)→Option R
 |0,_,_,_,_,_,_,_,_=>none
 |n+1,s0,s1,s2,s3,s4,s5,K,E=>wqfu k wqe wqg wqf wqb (fun s0 s1 s2 s3 s4 s5=>wq88 k wqe wqg wqf wqb n s0 s1 s2 s3 s4 s5 K E) s0 s1 s2 s3 s4 s5 K E
theorem wqjd(k:Nat)(wqe:wq1l)(wqg:wq1v)(wqf:wq1m)(wqb:wq1n){R:Type}: ∀(I:Nat→St→Option R) (n:Nat),h_doc_parser_list.lp u_doc_parser_list_1001 (wqc7 k wqe wqg wqf wqb).cx k Tryz.f152 1001 [1,0,0] I n=wq88 k wqe wqg wqf wqb n:=h_doc_parser_list.lok u_doc_parser_list_1001 (B:=wqfu k wqe wqg wqf wqb) (L:=wq88 k wqe wqg wqf wqb) (fun I=>by kernel_rfl) (fun I=>by kernel_rfl) (fun n=>by kernel_rfl) (fun _ _ _ _=>rfl)
theorem wqwm(k:Nat)(wqe:wq1l)(wqg:wq1v)(wqf:wq1m)(wqb:wq1n)(R:Type): h_doc_parser_list.at (wqc7 k wqe wqg wqf wqb) k Tryz.f152 R=h_doc_parser_list.glue (l:=h_doc_parser_list.ps) (u:=u_doc_parser_list_1001.fs) (fun E1001=>@wqg8 k wqe wqg wqf wqb R E1001) (h_doc_parser_list.lp u_doc_parser_list_1001 (wqc7 k wqe wqg wqf wqb).cx k Tryz.f152 1001 [1,0,0] (fun _ _=>none) k):=by kernel_rfl
def u_doc_parser_pairs_1002:Cu:=⟨1,[0,1,2,3,8,9],[.o 1 155 0 [.s kdT156,.w 21 73 kdT72],.r 1 0,.a kI,.a kI,.a kI,.w 100008 9 .str,.w 100009 3 kI]⟩
def wqb4(k:Nat)(wqe:wq1l)(wqg:wq1v)(wqf:wq1m)(wqb:wq1n): Cxt:=⟨[wqtu k,wq8p k,wqg7 k,wqlf k,h_doc_parser_under.e 198 wqb],[1],[(1002,u_doc_parser_pairs_1002.spec)],[]⟩
def wqef(k:Nat)(wqe:wq1l)(wqg:wq1v)(wqf:wq1m)(wqb:wq1n){R:Type}(E1002:((List dT156)→(List dT72)→Int→Int→Int→(List (List UInt8))→(List Int)→Option R))(s0:(List dT156))(s1:(List dT72))(s2 s3 s4:Int)(s5:(List (List UInt8)))(s6:(List Int))(K:((List dT156)→(List dT72)→Option R))(E:((List dT156)→(List dT72)→Int→Int→Option R)): Option R:=wqc6 k s0 s1 2 s3 (fun y12 y13 y14=>cond y14 (wq9v k y12 y13 (fun y15 y16 y17 y18 y19 y20 y21=>wq4c k s5 y20 (fun y22=>cond y22 (wqa3 k 7 y18 (fun y23 y24=>E y15 y16 y23 y24)) (cond (fits s5.length (@List.length (@Kd.T Kd.str) [y20]) 16) (wqb R y15 y16 y17 y18 y19 y20 y21 s4 (fun y23 y24 y25=>cond (fits s6.length (@List.length (@Kd.T kI) [y25]) 8) (E1002 y23 y24 s2 s3 s4 (s5++[y20]) (s6++[y25])) none) E) none)))) (cond (inb s2 (y13.length:Int)) (@SH (@List (@Kd.T kdT72)) R (List.set y13 s2.toNat (3,(((y13.getD s2.toNat kdT72.zero).2).1,((((y13.getD s2.toNat kdT72.zero).2).2).1,(((((y13.getD s2.toNat kdT72.zero).2).2).2).1,((((((y13.getD s2.toNat kdT72.zero).2).2).2).2).1,(((((y13.getD s2.toNat kdT72.zero).2).2).2).2).2)))))) (fun y15=>@SH (@List (@Kd.T kdT72)) R (List.set y15 s2.toNat ((y15.getD s2.toNat kdT72.zero).1,(((y15.getD s2.toNat kdT72.zero).2).1,((((y15.getD s2.toNat kdT72.zero).2).2).1,(((((y15.getD s2.toNat kdT72.zero).2).2).2).1,(s5,(((((y15.getD s2.toNat kdT72.zero).2).2).2).2).2)))))) (fun y16=>@SH (@List (@Kd.T kdT72)) R (List.set y16 s2.toNat ((y16.getD s2.toNat kdT72.zero).1,(((y16.getD s2.toNat kdT72.zero).2).1,((((y16.getD s2.toNat kdT72.zero).2).2).1,(((((y16.getD s2.toNat kdT72.zero).2).2).2).1,((((((y16.getD s2.toNat kdT72.zero).2).2).2).2).1,s6)))))) (fun y17=>K y12 y17)))) none))
def wqeu(k:Nat)(wqe:wq1l)(wqg:wq1v)(wqf:wq1m)(wqb:wq1n){R:Type}(E1002:((List dT156)→(List dT72)→Int→Int→Int→(List (List UInt8))→(List Int)→Option R))(x0:(List dT156))(x1:(List dT72))(x2 x3 x4:Int)(K:((List dT156)→(List dT72)→Option R))(E:((List dT156)→(List dT72)→Int→Int→Option R)): Option R:=E1002 x0 x1 x2 x3 x4 [] []
def wq7s(k:Nat)(wqe:wq1l)(wqg:wq1v)(wqf:wq1m)(wqb:wq1n){R:Type}: Nat→(List dT156)→(List dT72)→Int→Int→Int→(List (List UInt8))→(List Int)→((List dT156)→(List dT72)→Option R)→((List dT156)→(List dT72)→Int→Int→Option R)→Option R
 |0,_,_,_,_,_,_,_,_,_=>none
 |n+1,s0,s1,s2,s3,s4,s5,s6,K,E=>wqef k wqe wqg wqf wqb (fun s0 s1 s2 s3 s4 s5 s6=>wq7s k wqe wqg wqf wqb n s0 s1 s2 s3 s4 s5 s6 K E) s0 s1 s2 s3 s4 s5 s6 K E
theorem wqis(k:Nat)(wqe:wq1l)(wqg:wq1v)(wqf:wq1m)(wqb:wq1n){R:Type}: ∀(I:Nat→St→Option R) (n:Nat),h_doc_parser_pairs.lp u_doc_parser_pairs_1002 (wqb4 k wqe wqg wqf wqb).cx k Tryz.f153 1002 [1,1,0,0] I n=wq7s k wqe wqg wqf wqb n:=h_doc_parser_pairs.lok u_doc_parser_pairs_1002 (B:=wqef k wqe wqg wqf wqb) (L:=wq7s k wqe wqg wqf wqb) (fun I=>by kernel_rfl) (fun I=>by kernel_rfl) (fun n=>by kernel_rfl) (fun _ _ _ _=>rfl)
theorem wqtw(k:Nat)(wqe:wq1l)(wqg:wq1v)(wqf:wq1m)(wqb:wq1n)(R:Type): h_doc_parser_pairs.at (wqb4 k wqe wqg wqf wqb) k Tryz.f153 R=h_doc_parser_pairs.glue (l:=h_doc_parser_pairs.ps) (u:=u_doc_parser_pairs_1002.fs) (fun E1002=>@wqeu k wqe wqg wqf wqb R E1002) (h_doc_parser_pairs.lp u_doc_parser_pairs_1002 (wqb4 k wqe wqg wqf wqb).cx k Tryz.f153 1002 [1,1,0,0] (fun _ _=>none) k):=by kernel_rfl
def wqje(k:Nat)(wqe:wq1l)(wqg:wq1v)(wqf:wq1m)(wqb:wq1n): Cxt:=⟨[wqtu k,h_doc_parser_block.e 103 wqe],[1],[],[(1,(.of [(0,1),(1,1),(2,1),(3,1),(4,1),(5,1),(6,1),(7,1),(8,1),(9,1),(14,1),(10,1),(11,1),(12,1),(13,1),(15,1),(16,1),(17,1)] .done))]⟩
def wqjf(k:Nat)(wqe:wq1l)(wqg:wq1v)(wqf:wq1m)(wqb:wq1n){R:Type}(x0:(List dT156))(x1:(List dT72))(x2 x3 x4:Int)(x5:(List UInt8))(x6:Bool)(x7:Int)(K:((List dT156)→(List dT72)→Int→Option R))(E:((List dT156)→(List dT72)→Int→Int→Option R)): Option R:=cond ((!(((x0.length:Int) == 0) == false)) || (inb 0 (x0.length:Int))) (cond (cond ((x0.length:Int) == 0) true (decide ((((x0.getD (Int.toNat 0) kdT156.zero).2).2).1≤x4))) (wqa3 k 10 x3 (fun y12 y13=>E x0 x1 y12 y13)) (wqe R x0 x1 (@Go.IntKind.wrap Go.IntKind.i64 (x7+1)) K E)) none
theorem wqtx(k:Nat)(wqe:wq1l)(wqg:wq1v)(wqf:wq1m)(wqb:wq1n)(R:Type): h_doc_parser_under.at (wqje k wqe wqg wqf wqb) k Tryz.f198 R=@wqjf k wqe wqg wqf wqb R:=by kernel_rfl
mutual
def wq1b:Nat→wq1l
 |0,_,_,_,_,_,_=>none
 |k+1,R,x0,x1,x2,K,E=>wqjc k (wq1b k) (FR_doc_parser_list k) (FR_doc_parser_pairs k) (FR_doc_parser_under k) x0 x1 x2 K E
def FR_doc_parser_list:Nat→wq1v
 |0,_,_,_,_,_,_,_,_=>none
 |k+1,R,x0,x1,x2,x3,x4,K,E=>wqg8 k (wq1b k) (FR_doc_parser_list k) (FR_doc_parser_pairs k) (FR_doc_parser_under k) (fun s0 s1 s2 s3 s4 s5=>wq88 k (wq1b k) (FR_doc_parser_list k) (FR_doc_parser_pairs k) (FR_doc_parser_under k) k s0 s1 s2 s3 s4 s5 K E) x0 x1 x2 x3 x4 K E
def FR_doc_parser_pairs:Nat→wq1m
 |0,_,_,_,_,_,_,_,_=>none
 |k+1,R,x0,x1,x2,x3,x4,K,E=>wqeu k (wq1b k) (FR_doc_parser_list k) (FR_doc_parser_pairs k) (FR_doc_parser_under k) (fun s0 s1 s2 s3 s4 s5 s6=>wq7s k (wq1b k) (FR_doc_parser_list k) (FR_doc_parser_pairs k) (FR_doc_parser_under k) k s0 s1 s2 s3 s4 s5 s6 K E) x0 x1 x2 x3 x4 K E
def FR_doc_parser_under:Nat→wq1n
 |0,_,_,_,_,_,_,_,_,_,_,_=>none
 |k+1,R,x0,x1,x2,x3,x4,x5,x6,x7,K,E=>wqjf k (wq1b k) (FR_doc_parser_list k) (FR_doc_parser_pairs k) (FR_doc_parser_under k) x0 x1 x2 x3 x4 x5 x6 x7 K E
end
def wqev(k:Nat){R:Type}(x0:(List dT156))(x1:(List dT72))(x2:Int)(K:((List dT156)→(List dT72)→Int→Option R))(E:((List dT156)→(List dT72)→Int→Int→Option R)): Option R:=wq1b k R x0 x1 x2 K E
theorem wqs5(k:Nat): DOK Tryz.prog 103 (h_doc_parser_block.run (wq1b k))∧DOK Tryz.prog 152 (h_doc_parser_list.run (FR_doc_parser_list k))∧DOK Tryz.prog 153 (h_doc_parser_pairs.run (FR_doc_parser_pairs k))∧DOK Tryz.prog 198 (h_doc_parser_under.run (FR_doc_parser_under k)):=by
 induction k with
 |zero=>exact⟨h_doc_parser_block.ok0 fun R=>by kernel_rfl,h_doc_parser_list.ok0 fun R=>by kernel_rfl,h_doc_parser_pairs.ok0 fun R=>by kernel_rfl,h_doc_parser_under.ok0 fun R=>by kernel_rfl⟩
 |succ k ih =>
  obtain⟨ih_doc_parser_block,ih_doc_parser_list,ih_doc_parser_pairs,ih_doc_parser_under⟩:=ih
  exact⟨dok h_doc_parser_block (wqjb k (wq1b k) (FR_doc_parser_list k) (FR_doc_parser_pairs k) (FR_doc_parser_under k)) Tryz.f103 k (ok1 (wqnz k) (ok1 (wqg6 k) (ok1 ih_doc_parser_list (ok1 ih_doc_parser_pairs ok0)))) (by kernel_rfl) (by kernel_rfl) fun R=>wqtv k (wq1b k) (FR_doc_parser_list k) (FR_doc_parser_pairs k) (FR_doc_parser_under k) R,dok h_doc_parser_list (wqc7 k (wq1b k) (FR_doc_parser_list k) (FR_doc_parser_pairs k) (FR_doc_parser_under k)) Tryz.f152 k (ok1 (wqg6 k) (ok1 (wqle k) (ok1 ih_doc_parser_under ok0))) (by kernel_rfl) (by kernel_rfl) fun R=>h_doc_parser_list.f1 u_doc_parser_list_1001 (wqg8 k (wq1b k) (FR_doc_parser_list k) (FR_doc_parser_pairs k) (FR_doc_parser_under k)) (wqwm k (wq1b k) (FR_doc_parser_list k) (FR_doc_parser_pairs k) (FR_doc_parser_under k) R) (wqjd k (wq1b k) (FR_doc_parser_list k) (FR_doc_parser_pairs k) (FR_doc_parser_under k) (fun _ _=>none) k) (by kernel_rfl),dok h_doc_parser_pairs (wqb4 k (wq1b k) (FR_doc_parser_list k) (FR_doc_parser_pairs k) (FR_doc_parser_under k)) Tryz.f153 k (ok1 (wqnz k) (ok1 (wq8o k) (ok1 (wqg6 k) (ok1 (wqle k) (ok1 ih_doc_parser_under ok0))))) (by kernel_rfl) (by kernel_rfl) fun R=>h_doc_parser_pairs.f1 u_doc_parser_pairs_1002 (wqeu k (wq1b k) (FR_doc_parser_list k) (FR_doc_parser_pairs k) (FR_doc_parser_under k)) (wqtw k (wq1b k) (FR_doc_parser_list k) (FR_doc_parser_pairs k) (FR_doc_parser_under k) R) (wqis k (wq1b k) (FR_doc_parser_list k) (FR_doc_parser_pairs k) (FR_doc_parser_under k) (fun _ _=>none) k) (by kernel_rfl),dok h_doc_parser_under (wqje k (wq1b k) (FR_doc_parser_list k) (FR_doc_parser_pairs k) (FR_doc_parser_under k)) Tryz.f198 k (ok1 (wqnz k) (ok1 ih_doc_parser_block ok0)) (by kernel_rfl) (by kernel_rfl) fun R=>wqtx k (wq1b k) (FR_doc_parser_list k) (FR_doc_parser_pairs k) (FR_doc_parser_under k) R⟩
theorem wqty(k:Nat): DOK Tryz.prog 103 (h_doc_parser_block.run (@wqev k)):=(wqs5 k).1
end Go.Proofs.YtabkhphoacmcdaaGreatDoor.Pvm
namespace Go.Proofs.YtabkhphoacmcdaaGreatDoor.Pvm
open Go Go.Proofs
def wq1e5:List LS:=[.sl (.pr (.int .i64) (.pr (.int .i64) (.pr (.int .i64) (.pr .str .bool))))]
def wq1e6(k:Nat): CTab:=(CTab.add 102 h_doc_gives.sig (h_doc_gives.run (@wqa3 k)) (CTab.add 103 h_doc_parser_block.sig (h_doc_parser_block.run (@wqev k)) CTab.nil))
def wqtz{R:Type}(K:((List dT72)→Int→Int→Option R)): Out→Option R
 |.ret [.agg [.v (.sl (.pr (.int .i64) (.pr (.int .i64) (.pr .str (.pr .bool (.pr (.sl .str) (.sl (.int .i64)))))))) y0],.agg [.v (.int .i64) y1,.v (.int .i64) y2]] []=>K y0 y1 y2
 |_=>none
def wq1a3:RetSpec:=⟨[.ag [.sl (.pr (.int .i64) (.pr (.int .i64) (.pr .str (.pr .bool (.pr (.sl .str) (.sl (.int .i64)))))))],.ag [.any,.any]],[],[]⟩
def wq1bj:List (Nat×CutSpec):=[]
def wq18c:List (Nat×Plan):=[]
def wq13n(k:Nat): Ctx:=⟨tyT,wq1bj,wq1e6 k,[2,3],[],wq18c,@SH⟩
def wqb5:Code:=Tryz.f59.body.getD .skip
def wqo0(k:Nat){R:Type}: PV→List PV→List (Nm×HObj)→(Out→Option R)→Option R
 |.nilif,[.ptr 1 0,.ptr 2 0],[(1,.var 38 [.v (.sl (.pr (.int .i64) (.pr (.int .i64) (.pr .str (.pr .bool (.pr (.sl .str) (.sl (.int .i64)))))))) x0]),(2,.var 29 [.v (.int .i64) x1,.v (.int .i64) x2])],K=>wqkk k x0 x1 x2 (fun y0 y1 y2=>K (.ret [] [(1,.var 38 [.v (.sl (.pr (.int .i64) (.pr (.int .i64) (.pr .str (.pr .bool (.pr (.sl .str) (.sl (.int .i64)))))))) y0]),(2,.var 29 [.v (.int .i64) y1,.v (.int .i64) y2])]))
 |.ifc 29 (.agg [.v (.int .i64) x3,.v (.int .i64) x4]),[.ptr 1 0,.ptr 2 0],[(1,.var 38 [.v (.sl (.pr (.int .i64) (.pr (.int .i64) (.pr .str (.pr .bool (.pr (.sl .str) (.sl (.int .i64)))))))) x0]),(2,.var 29 [.v (.int .i64) x1,.v (.int .i64) x2])],K=>wqet k x0 x1 x2 x3 x4 (fun y0 y1 y2=>K (.ret [] [(1,.var 38 [.v (.sl (.pr (.int .i64) (.pr (.int .i64) (.pr .str (.pr .bool (.pr (.sl .str) (.sl (.int .i64)))))))) y0]),(2,.var 29 [.v (.int .i64) y1,.v (.int .i64) y2])]))
 |_,_,_,_=>none
def wq1e7(k:Nat){R:Type}(x0:(List dT156))(K:((List dT72)→Int→Int→Option R)): Option R:=cond ((x0.length:Int) == 0) (wqa3 k 10 1 (fun y4 y5=>wqet k [] 0 0 y4 y5 K)) (wqev k x0 [] 1 (fun y4 y5 y6=>cond (decide ((y4.length:Int)>0)) (cond (inb 0 (y4.length:Int)) (wqa3 k 6 ((y4.getD (Int.toNat 0) kdT156.zero).2).1 (fun y7 y8=>wqet k [] 0 0 y7 y8 K)) none) (wqkk k y5 0 0 K)) (fun y4 y5 y6 y7=>wqet k [] 0 0 y6 y7 K))
theorem wq1bk(k:Nat){R:Type}(I:Nat→St→Option R)(x0:(List dT156))(K:((List dT72)→Int→Int→Option R)): fnDK (wq13n k) k [300,400] [at_ [0] wqb5] (opsAt (at_ [1,0] wqb5)) (at_ [1,1] wqb5) 34 [.cell 2 38,.cell 3 29] wq1a3 (wqo0 k) wqzd [(300,0),(400,0)] [.v (.sl (.pr (.int .i64) (.pr (.int .i64) (.pr (.int .i64) (.pr .str .bool))))) x0] [] (wqtz K)=wq1e7 k x0 K:=by kernel_rfl
def wq18d(k:Nat){R:Type}(x0:(List dT156))(K:((List dT72)→Int→Int→Option R)): Option R:=wq1e7 k x0 K
theorem wq1bl(k:Nat){R:Type}(x0:(List dT156))(K:((List dT72)→Int→Int→Option R)): fnDK (wq13n k) k [300,400] [at_ [0] wqb5] (opsAt (at_ [1,0] wqb5)) (at_ [1,1] wqb5) 34 [.cell 2 38,.cell 3 29] wq1a3 (wqo0 k) wqzd [(300,0),(400,0)] [.v (.sl (.pr (.int .i64) (.pr (.int .i64) (.pr (.int .i64) (.pr .str .bool))))) x0] [] (wqtz K)=wq18d k x0 K:=by
 exact wq1bk k (fun _ _=>none) x0 K
def wqzk(k:Nat){R:Type}: List PV→List (Nm×HObj)→(Out→Option R)→Option R
 |[.v (.sl (.pr (.int .i64) (.pr (.int .i64) (.pr (.int .i64) (.pr .str .bool))))) x0],[],K=>wq18d k x0 (fun y0 y1 y2=>K (.ret [.agg [.v (.sl (.pr (.int .i64) (.pr (.int .i64) (.pr .str (.pr .bool (.pr (.sl .str) (.sl (.int .i64)))))))) y0],.agg [.v (.int .i64) y1,.v (.int .i64) y2]] []))
 |_,_,_=>none
theorem wq1bm(k:Nat): (wq1e6 k).Ok Tryz.prog:=(wq11l (wqnz k) (wq11l (wqty k) CTab.nil_ok))
theorem wq13o(k:Nat){R:Type}(rec:PV)(ps:List PV)(hp:List (Nm×HObj))(K:Out→Option R)(r:R)(h:wqo0 k rec ps hp K=some r): DoesToD Tryz.prog 101 rec ps hp fun out=>K out=some r:=by
 unfold wqo0 at h
 split at h
 ·exact wq15u k h
 ·exact wq15v k h
 ·cases h
theorem wq1hu(k:Nat){ps:List PV}{hp:List (Nm×HObj)}{R:Type}{K:Out→Option R}{r:R}(h:wqzk k ps hp K=some r): DoesTo Tryz.prog 59 ps hp fun out=>K out=some r:=by
 unfold wqzk at h
 split at h
 ·rw[←wq1bl]at h
  have:=wq1de (P:=Tryz.prog) (cx:=wq13n k) (f:=59) ⟨tyT_ok,wq1bm k,fun _ _=>rfl⟩ (by kernel_rfl) (fn:=Tryz.f59) (id:=1) (pre:=[at_ [0] wqb5]) (rest:=at_ [1,1] wqb5) (ops:=opsAt (at_ [1,0] wqb5)) (by kernel_rfl) (by kernel_rfl) (by kernel_rfl) (rs:=[.cell 2 38,.cell 3 29]) (by kernel_rfl) (by kernel_rfl) (by kernel_rfl) (g:=101) (s:=5) (xs:=[.tmp 2,.tmp 3]) (by kernel_rfl) (Invokes.of (fn:=Tryz.f101) (by kernel_rfl) (c:=Tryz.f101.body.getD .skip) (by kernel_rfl) (by kernel_rfl)) (wq13o k) h
  exact this.mono fun out ho=>by
   unfold wqtz at ho
   split at ho<;>first|exact ho|cases ho
 ·cases h
def h_lex_All:Sh:=⟨[.s kdT150],some ([],[.s kdT156,.g [.a kI,.a kI]]),none⟩
def u_lex_All_1003:Cu:=⟨0,[3,4,9,10,11],[.o 13 29 0 [.a kI,.a kI],.w 100004 157 kdT156,.s kdT150,.a kI,.a kI]⟩
def wq1a4(k:Nat): Cxt:=⟨[⟨100,wq122,wqnx k⟩],[],[(1003,u_lex_All_1003.spec)],[(7,(.of [(1,1),(0,1),(2,0)] .done))]⟩
def wqs6(k:Nat){R:Type}(E1003:(Int→Int→(List dT156)→(List dT150)→Int→Int→Option R))(s0 s1:Int)(s2:(List dT156))(s3:(List dT150))(s4 s5:Int)(K:((List dT156)→Int→Int→Option R)): Option R:=cond (decide (s5<s4)) (cond (inb s5 (s3.length:Int)) (wqx6 k (s3.getD s5.toNat kdT150.zero).1 ((s3.getD s5.toNat kdT150.zero).2).1 ((s3.getD s5.toNat kdT150.zero).2).2 (fun y10 y11 y12=>cond (y11 != 0) (K [] y11 y12) (cond (fits s2.length y10.length 48) (E1003 s0 s1 (s2++y10) s3 s4 (@Go.IntKind.wrap Go.IntKind.i64 (s5+1))) none))) none) (K s2 0 0)
def wq1a5(k:Nat){R:Type}(E1003:(Int→Int→(List dT156)→(List dT150)→Int→Int→Option R))(x0:(List dT150))(K:((List dT156)→Int→Int→Option R)): Option R:=E1003 0 0 [] x0 (x0.length:Int) 0
def wqgr(k:Nat){R:Type}: Nat→Int→Int→(List dT156)→(List dT150)→Int→Int→((List dT156)→Int→Int→Option R)→Option R
 |0,_,_,_,_,_,_,_=>none
 |n+1,s0,s1,s2,s3,s4,s5,K=>wqs6 k (fun s0 s1 s2 s3 s4 s5=>wqgr k n s0 s1 s2 s3 s4 s5 K) s0 s1 s2 s3 s4 s5 K
theorem wqwn(k:Nat){R:Type}: ∀(I:Nat→St→Option R) (n:Nat),h_lex_All.lp u_lex_All_1003 (wq1a4 k).cx k Tryz.f58 1003 [1,1,0,1,0] I n=wqgr k n:=h_lex_All.lok u_lex_All_1003 (B:=wqs6 k) (L:=wqgr k) (fun I=>by kernel_rfl) (fun I=>by kernel_rfl) (fun n=>by kernel_rfl) (fun _ _ _ _=>rfl)
def wq13p(k:Nat){R:Type}(x0:(List dT150))(K:((List dT156)→Int→Int→Option R)): Option R:=wq1a5 k (fun s0 s1 s2 s3 s4 s5=>wqgr k k s0 s1 s2 s3 s4 s5 K) x0 K
theorem wq1g5(k:Nat): DOK Tryz.prog 58 (h_lex_All.run (@wq13p k)):=dok h_lex_All (wq1a4 k) Tryz.f58 k (ok1 (fun _ _ _ _ _ h=>wq1a2 k h) ok0) (by kernel_rfl) (by kernel_rfl) fun R=>h_lex_All.f1 u_lex_All_1003 (wq1a5 k) (by kernel_rfl) (wqwn k (fun _ _=>none) k) (by kernel_rfl)
def wq1g6(k:Nat): Ent:=h_lex_All.e 58 (@wq13p k)
def cntB(s:List UInt8)(c:UInt8): Int:=Lib.countByte s c
def wq13q:List LS:=[.sl (.int .u8),.any]
def wqzl(k:Nat){R:Type}(x0:List Int)(x1:Int)(K:Int→Option R): Option R:=K (cntB (wq5j x0) (UInt8.ofNat x1.toNat))
def wqkl(k:Nat){R:Type}: List PV→List (Nm×HObj)→(Out→Option R)→Option R
 |[.v (.sl (.int .u8)) x0,.v (.int .u8) x1],[],K=>wqzl k x0 x1 (fun y0=>K (.ret [.v (.int .i64) y0] []))
 |_,_,_=>none
theorem wq18e(k:Nat){ps:List PV}{hp:List (Nm×HObj)}{R:Type}{K:Out→Option R}{r:R}(h:wqkl k ps hp K=some r): DoesTo Tryz.prog 220 ps hp fun out=>K out=some r:=by
 unfold wqkl at h
 split at h
 ·next x0 x1 =>
  intro G w vals hr obj dis
  obtain⟨v0,l0,rfl,h0,v1,l1,rfl,h1,rfl⟩:=hr
  have e1:v1 = .int .u8 x1:=by simpa [RV,RD]using h1
  subst e1
  have hb:=wq1di (P:=Tryz.prog) h0
  have hrun:(callFunc 220 #[v0,.int .u8 x1]).run Tryz.prog w = .ok (.value (.int .i64 (cntB (wq5j x0) (UInt8.ofNat x1.toNat)))) w:=by
   refine wq152 (fn:=Tryz.f220) (g:=Extern.BytealgCount.count) (by kernel_rfl) (by kernel_rfl) (by kernel_rfl) (by kernel_rfl) (by kernel_rfl) _ w ?_
   have hs:=Lib.run_countString (P:=Tryz.prog) ⟨(wq5j x0).toArray⟩ x1 w
   change Sem.run Tryz.prog (do
    let b ←Extern.Bytes.bytesOf v0
    let c' ←Extern.Bytes.asByte (.int .u8 x1)
    pure (goInt (b.foldl (fun n x=>if x == c' then n+1 else n) (0:Nat)))) w=_
   change Sem.run Tryz.prog (do
    let b ←Extern.Bytes.bytesOf (.string ⟨(wq5j x0).toArray⟩)
    let c' ←Extern.Bytes.asByte (.int .u8 x1)
    pure (goInt (b.foldl (fun n x=>if x == c' then n+1 else n) (0:Nat)))) w=_ at hs
   rw[Sem.run_bind]at hs ⊢
   rw[hb]
   exact hs
  show Does _ _ #[_,_] _ _
  unfold Does
  rw[hrun]
  exact⟨.ret [.v (.int .i64) _] [],h,G,⟨_,rfl,rfl⟩,wqy8⟩
 ·cases h
def h_bytes_Count:Sh:=⟨[.s (.int .u8),.k (.int .u8)],some ([],[.a kI]),none⟩
def wq15w(k:Nat): Cxt:=⟨[⟨220,wq13q,wqkl k⟩],[],[],[]⟩
def wq15x(k:Nat){R:Type}(x0:(List Int))(x1:Int)(K:(Int→Option R)): Option R:=wqzl k x0 (([x1]).getD (Int.toNat 0) (Kd.zero (@Kd.int Go.IntKind.u8))) K
def wqmq:=@wq15x
theorem wq15y(k:Nat): DOK Tryz.prog 183 (h_bytes_Count.run (@wqmq k)):=dok h_bytes_Count (wq15w k) Tryz.f183 k (ok1 (fun _ _ _ _ _ h=>wq18e k h) ok0) (by kernel_rfl) (by kernel_rfl) fun R=>by kernel_rfl
def wq15z(k:Nat): Ent:=h_bytes_Count.e 183 (@wqmq k)
def wqu0:List LS:=[.sl (.int .u8),.any]
def wqmr(k:Nat){R:Type}(x0:List Int)(x1:Int)(K:Int→Option R): Option R:=K (wqkz (wq5j x0) x1)
def wqew(k:Nat){R:Type}: List PV→List (Nm×HObj)→(Out→Option R)→Option R
 |[.v (.sl (.int .u8)) x0,.v (.int .u8) x1],[],K=>wqmr k x0 x1 (fun y0=>K (.ret [.v (.int .i64) y0] []))
 |_,_,_=>none
theorem wqzm(k:Nat){ps:List PV}{hp:List (Nm×HObj)}{R:Type}{K:Out→Option R}{r:R}(h:wqew k ps hp K=some r): DoesTo Tryz.prog 250 ps hp fun out=>K out=some r:=by
 unfold wqew at h
 split at h
 ·next x0 x1 =>
  intro G w vals hr obj dis
  obtain⟨v0,l0,rfl,h0,v1,l1,rfl,h1,rfl⟩:=hr
  have e1:v1 = .int .u8 x1:=by simpa [RV,RD]using h1
  subst e1
  have hb:=wq1di (P:=Tryz.prog) h0
  have hrun:(callFunc 250 #[v0,.int .u8 x1]).run Tryz.prog w = .ok (.value (.int .i64 (wqkz (wq5j x0) x1))) w:=by
   refine wq152 (fn:=Tryz.f250) (g:=Extern.BytealgIndexByte.indexByte) (by kernel_rfl) (by kernel_rfl) (by kernel_rfl) (by kernel_rfl) (by kernel_rfl) _ w ?_
   have hs:=wq11p (P:=Tryz.prog) (wq5j x0) x1 w
   change Sem.run Tryz.prog (do
    let b ←Extern.Bytes.bytesOf v0
    let c ←Extern.Bytes.asByte (.int .u8 x1)
    match(List.range b.size).find? fun i=>b[i]! == c with
    |some i=>pure (goInt i)
    |none=>pure (goInt (-1))) w=_
   change Sem.run Tryz.prog (do
    let b ←Extern.Bytes.bytesOf (.string ⟨(wq5j x0).toArray⟩)
    let c ←Extern.Bytes.asByte (.int .u8 x1)
    match(List.range b.size).find? fun i=>b[i]! == c with
    |some i=>pure (goInt i)
    |none=>pure (goInt (-1))) w=_ at hs
   rw[Sem.run_bind]at hs ⊢
   rw[hb]
   exact hs
  show Does _ _ #[_,_] _ _
  unfold Does
  rw[hrun]
  exact⟨.ret [.v (.int .i64) _] [],h,G,⟨_,rfl,rfl⟩,wqy8⟩
 ·cases h
def h_bytes_IndexByte:Sh:=⟨[.s (.int .u8),.a (.int .u8)],some ([],[.a kI]),none⟩
abbrev wqex:Type 1:=(R:Type)→(List Int)→Int→(Int→Option R)→Option R
def wqwo(k:Nat): Cxt:=⟨[⟨250,wqu0,wqew k⟩],[],[],[]⟩
def wqwp(k:Nat){R:Type}(x0:(List Int))(x1:Int)(K:(Int→Option R)): Option R:=wqmr k x0 x1 K
def wqc8:=@wqwp
theorem wqwq(k:Nat): DOK Tryz.prog 221 (h_bytes_IndexByte.run (@wqc8 k)):=dok h_bytes_IndexByte (wqwo k) Tryz.f221 k (ok1 (fun _ _ _ _ _ h=>wqzm k h) ok0) (by kernel_rfl) (by kernel_rfl) fun R=>by kernel_rfl
def h_bytes_Index:Sh:=⟨[.s (.int .u8),.k (.int .u8)],some ([],[.a kI]),none⟩
def wqv9(k:Nat)(wq83:wqex): Cxt:=⟨[h_bytes_IndexByte.e 221 wq83],[],[],[]⟩
def wqva(k:Nat)(wq83:wqex){R:Type}(x0:(List Int))(x1:Int)(K:(Int→Option R)): Option R:=wq83 R x0 (([x1]).getD (Int.toNat 0) (Kd.zero (@Kd.int Go.IntKind.u8))) K
theorem wq160(k:Nat)(wq83:wqex)(R:Type): h_bytes_Index.at (wqv9 k wq83) k Tryz.f184 R=@wqva k wq83 R:=by kernel_rfl
def wqms(k:Nat){R:Type}:= @wqva k (@wqc8 k) R
theorem wq161(k:Nat): DOK Tryz.prog 184 (h_bytes_Index.run (@wqms k)):=dok h_bytes_Index (wqv9 k (@wqc8 k)) Tryz.f184 k (ok1 (wqwq k) ok0) (by kernel_rfl) (by kernel_rfl) fun R=>wq160 k (@wqc8 k) R
def wq162(k:Nat): Ent:=h_bytes_Index.e 184 (@wqms k)
def h_bytes_genSplit:Sh:=⟨[.s (.int .u8),.k (.int .u8),.a kI,.a kI],some ([],[.s (.sl (.int .u8))]),none⟩
def u_bytes_genSplit_1011:Cu:=⟨0,[0,1,2,3,9,10],[.s (.int .u8),.k (.int .u8),.a kI,.a kI,.w 100009 22 (.sl (.int .u8)),.a kI]⟩
def wqmt(k:Nat): Cxt:=⟨[wq15z k,wq162 k],[],[(1011,u_bytes_genSplit_1011.spec)],[]⟩
def wqgh(k:Nat){R:Type}(E1011:((List Int)→Int→Int→Int→(List (List Int))→Int→Option R))(s0:(List Int))(s1 s2 s3:Int)(s4:(List (List Int)))(s5:Int)(K:((List (List Int))→Option R)): Option R:=cond (decide (s5<s3)) (wqms k s0 s1 (fun y10=>cond (decide (y10<0)) (cond (inb s5 (s4.length:Int)) (cond (bnd 0 (@Go.IntKind.wrap Go.IntKind.i64 (s5+1)) ((List.set s4 s5.toNat s0).length:Int)) (K (cut (List.set s4 s5.toNat s0) 0 (@Go.IntKind.wrap Go.IntKind.i64 (s5+1)))) none) none) (cond ((bnd 0 (@Go.IntKind.wrap Go.IntKind.i64 (y10+s2)) (@Go.IntKind.wrap Go.IntKind.i64 (y10+s2)))&&(decide ((@Go.IntKind.wrap Go.IntKind.i64 (y10+s2))≤(s0.length:Int)))) (cond (inb s5 (s4.length:Int)) (cond (bnd (@Go.IntKind.wrap Go.IntKind.i64 (y10+(@List.length (@Kd.T (@Kd.int Go.IntKind.u8)) [s1]:Int))) (s0.length:Int) (s0.length:Int)) (E1011 (cut s0 (@Go.IntKind.wrap Go.IntKind.i64 (y10+(@List.length (@Kd.T (@Kd.int Go.IntKind.u8)) [s1]:Int))) (s0.length:Int)) s1 s2 s3 (List.set s4 s5.toNat (cut s0 0 (@Go.IntKind.wrap Go.IntKind.i64 (y10+s2)))) (@Go.IntKind.wrap Go.IntKind.i64 (s5+1))) none) none) none))) (cond (inb s5 (s4.length:Int)) (cond (bnd 0 (@Go.IntKind.wrap Go.IntKind.i64 (s5+1)) ((List.set s4 s5.toNat s0).length:Int)) (K (cut (List.set s4 s5.toNat s0) 0 (@Go.IntKind.wrap Go.IntKind.i64 (s5+1)))) none) none)
def wqmu(k:Nat){R:Type}(E1011:((List Int)→Int→Int→Int→(List (List Int))→Int→Option R))(x0:(List Int))(x1 x2 x3:Int)(K:((List (List Int))→Option R)): Option R:=cond (x3 == 0) (K []) (cond (decide (x3<0)) (wqmq k x0 x1 (fun y8=>cond (mkB (cond false (@ite (@Kd.T kI) ((@Go.IntKind.wrap Go.IntKind.i64 ((x0.length:Int)+1))>(@Go.IntKind.wrap Go.IntKind.i64 (y8+1))) (@Int.decLt (@Go.IntKind.wrap Go.IntKind.i64 (y8+1)) (@Go.IntKind.wrap Go.IntKind.i64 ((x0.length:Int)+1))) (@Go.IntKind.wrap Go.IntKind.i64 ((x0.length:Int)+1)) (@Go.IntKind.wrap Go.IntKind.i64 (y8+1))) (@ite (@Kd.T kI) ((@Go.IntKind.wrap Go.IntKind.i64 ((x0.length:Int)+1))<(@Go.IntKind.wrap Go.IntKind.i64 (y8+1))) (@Int.decLt (@Go.IntKind.wrap Go.IntKind.i64 ((x0.length:Int)+1)) (@Go.IntKind.wrap Go.IntKind.i64 (y8+1))) (@Go.IntKind.wrap Go.IntKind.i64 ((x0.length:Int)+1)) (@Go.IntKind.wrap Go.IntKind.i64 (y8+1)))) (cond false (@ite (@Kd.T kI) ((@Go.IntKind.wrap Go.IntKind.i64 ((x0.length:Int)+1))>(@Go.IntKind.wrap Go.IntKind.i64 (y8+1))) (@Int.decLt (@Go.IntKind.wrap Go.IntKind.i64 (y8+1)) (@Go.IntKind.wrap Go.IntKind.i64 ((x0.length:Int)+1))) (@Go.IntKind.wrap Go.IntKind.i64 ((x0.length:Int)+1)) (@Go.IntKind.wrap Go.IntKind.i64 (y8+1))) (@ite (@Kd.T kI) ((@Go.IntKind.wrap Go.IntKind.i64 ((x0.length:Int)+1))<(@Go.IntKind.wrap Go.IntKind.i64 (y8+1))) (@Int.decLt (@Go.IntKind.wrap Go.IntKind.i64 ((x0.length:Int)+1)) (@Go.IntKind.wrap Go.IntKind.i64 (y8+1))) (@Go.IntKind.wrap Go.IntKind.i64 ((x0.length:Int)+1)) (@Go.IntKind.wrap Go.IntKind.i64 (y8+1)))) 24) (E1011 x0 x1 x2 (@Go.IntKind.wrap Go.IntKind.i64 ((cond false (@ite (@Kd.T kI) ((@Go.IntKind.wrap Go.IntKind.i64 ((x0.length:Int)+1))>(@Go.IntKind.wrap Go.IntKind.i64 (y8+1))) (@Int.decLt (@Go.IntKind.wrap Go.IntKind.i64 (y8+1)) (@Go.IntKind.wrap Go.IntKind.i64 ((x0.length:Int)+1))) (@Go.IntKind.wrap Go.IntKind.i64 ((x0.length:Int)+1)) (@Go.IntKind.wrap Go.IntKind.i64 (y8+1))) (@ite (@Kd.T kI) ((@Go.IntKind.wrap Go.IntKind.i64 ((x0.length:Int)+1))<(@Go.IntKind.wrap Go.IntKind.i64 (y8+1))) (@Int.decLt (@Go.IntKind.wrap Go.IntKind.i64 ((x0.length:Int)+1)) (@Go.IntKind.wrap Go.IntKind.i64 (y8+1))) (@Go.IntKind.wrap Go.IntKind.i64 ((x0.length:Int)+1)) (@Go.IntKind.wrap Go.IntKind.i64 (y8+1))))-1)) (zeros (@Kd.sl (@Kd.int Go.IntKind.u8)) (cond false (@ite (@Kd.T kI) ((@Go.IntKind.wrap Go.IntKind.i64 ((x0.length:Int)+1))>(@Go.IntKind.wrap Go.IntKind.i64 (y8+1))) (@Int.decLt (@Go.IntKind.wrap Go.IntKind.i64 (y8+1)) (@Go.IntKind.wrap Go.IntKind.i64 ((x0.length:Int)+1))) (@Go.IntKind.wrap Go.IntKind.i64 ((x0.length:Int)+1)) (@Go.IntKind.wrap Go.IntKind.i64 (y8+1))) (@ite (@Kd.T kI) ((@Go.IntKind.wrap Go.IntKind.i64 ((x0.length:Int)+1))<(@Go.IntKind.wrap Go.IntKind.i64 (y8+1))) (@Int.decLt (@Go.IntKind.wrap Go.IntKind.i64 ((x0.length:Int)+1)) (@Go.IntKind.wrap Go.IntKind.i64 (y8+1))) (@Go.IntKind.wrap Go.IntKind.i64 ((x0.length:Int)+1)) (@Go.IntKind.wrap Go.IntKind.i64 (y8+1))))) 0) none)) (cond (mkB (cond false (@ite (@Kd.T kI) ((@Go.IntKind.wrap Go.IntKind.i64 ((x0.length:Int)+1))>x3) (@Int.decLt x3 (@Go.IntKind.wrap Go.IntKind.i64 ((x0.length:Int)+1))) (@Go.IntKind.wrap Go.IntKind.i64 ((x0.length:Int)+1)) x3) (@ite (@Kd.T kI) ((@Go.IntKind.wrap Go.IntKind.i64 ((x0.length:Int)+1))<x3) (@Int.decLt (@Go.IntKind.wrap Go.IntKind.i64 ((x0.length:Int)+1)) x3) (@Go.IntKind.wrap Go.IntKind.i64 ((x0.length:Int)+1)) x3)) (cond false (@ite (@Kd.T kI) ((@Go.IntKind.wrap Go.IntKind.i64 ((x0.length:Int)+1))>x3) (@Int.decLt x3 (@Go.IntKind.wrap Go.IntKind.i64 ((x0.length:Int)+1))) (@Go.IntKind.wrap Go.IntKind.i64 ((x0.length:Int)+1)) x3) (@ite (@Kd.T kI) ((@Go.IntKind.wrap Go.IntKind.i64 ((x0.length:Int)+1))<x3) (@Int.decLt (@Go.IntKind.wrap Go.IntKind.i64 ((x0.length:Int)+1)) x3) (@Go.IntKind.wrap Go.IntKind.i64 ((x0.length:Int)+1)) x3)) 24) (E1011 x0 x1 x2 (@Go.IntKind.wrap Go.IntKind.i64 ((cond false (@ite (@Kd.T kI) ((@Go.IntKind.wrap Go.IntKind.i64 ((x0.length:Int)+1))>x3) (@Int.decLt x3 (@Go.IntKind.wrap Go.IntKind.i64 ((x0.length:Int)+1))) (@Go.IntKind.wrap Go.IntKind.i64 ((x0.length:Int)+1)) x3) (@ite (@Kd.T kI) ((@Go.IntKind.wrap Go.IntKind.i64 ((x0.length:Int)+1))<x3) (@Int.decLt (@Go.IntKind.wrap Go.IntKind.i64 ((x0.length:Int)+1)) x3) (@Go.IntKind.wrap Go.IntKind.i64 ((x0.length:Int)+1)) x3))-1)) (zeros (@Kd.sl (@Kd.int Go.IntKind.u8)) (cond false (@ite (@Kd.T kI) ((@Go.IntKind.wrap Go.IntKind.i64 ((x0.length:Int)+1))>x3) (@Int.decLt x3 (@Go.IntKind.wrap Go.IntKind.i64 ((x0.length:Int)+1))) (@Go.IntKind.wrap Go.IntKind.i64 ((x0.length:Int)+1)) x3) (@ite (@Kd.T kI) ((@Go.IntKind.wrap Go.IntKind.i64 ((x0.length:Int)+1))<x3) (@Int.decLt (@Go.IntKind.wrap Go.IntKind.i64 ((x0.length:Int)+1)) x3) (@Go.IntKind.wrap Go.IntKind.i64 ((x0.length:Int)+1)) x3))) 0) none))
def wq8s(k:Nat){R:Type}: Nat→(List Int)→Int→Int→Int→(List (List Int))→Int→((List (List Int))→Option R)→Option R
 |0,_,_,_,_,_,_,_=>none
 |n+1,s0,s1,s2,s3,s4,s5,K=>wqgh k (fun s0 s1 s2 s3 s4 s5=>wq8s k n s0 s1 s2 s3 s4 s5 K) s0 s1 s2 s3 s4 s5 K
theorem wqkm(k:Nat){R:Type}: ∀(I:Nat→St→Option R) (n:Nat),h_bytes_genSplit.lp u_bytes_genSplit_1011 (wqmt k).cx k Tryz.f141 1011 [1,1,1,1,1,1,1,1,0,0] I n=wq8s k n:=h_bytes_genSplit.lok u_bytes_genSplit_1011 (B:=wqgh k) (L:=wq8s k) (fun I=>by kernel_rfl) (fun I=>by kernel_rfl) (fun n=>by kernel_rfl) (fun _ _ _ _=>rfl)
def wqhn(k:Nat){R:Type}(x0:(List Int))(x1 x2 x3:Int)(K:((List (List Int))→Option R)): Option R:=wqmu k (fun s0 s1 s2 s3 s4 s5=>wq8s k k s0 s1 s2 s3 s4 s5 K) x0 x1 x2 x3 K
theorem wqzn(k:Nat): DOK Tryz.prog 141 (h_bytes_genSplit.run (@wqhn k)):=dok h_bytes_genSplit (wqmt k) Tryz.f141 k (ok1 (wq15y k) (ok1 (wq161 k) ok0)) (by kernel_rfl) (by kernel_rfl) fun R=>h_bytes_genSplit.f1 u_bytes_genSplit_1011 (wqmu k) (by kernel_rfl) (wqkm k (fun _ _=>none) k) (by kernel_rfl)
def wqzo(k:Nat): Ent:=h_bytes_genSplit.e 141 (@wqhn k)
def h_bytes_Split:Sh:=⟨[.s (.int .u8),.k (.int .u8)],some ([],[.s (.sl (.int .u8))]),none⟩
def wq163(k:Nat): Cxt:=⟨[wqzo k],[],[],[]⟩
def wq164(k:Nat){R:Type}(x0:(List Int))(x1:Int)(K:((List (List Int))→Option R)): Option R:=wqhn k x0 x1 0 (@Neg.neg Int @Int.instNegInt (1:Int)) K
def wqmv:=@wq164
theorem wq165(k:Nat): DOK Tryz.prog 95 (h_bytes_Split.run (@wqmv k)):=dok h_bytes_Split (wq163 k) Tryz.f95 k (ok1 (wqzn k) ok0) (by kernel_rfl) (by kernel_rfl) fun R=>by kernel_rfl
def wq166(k:Nat): Ent:=h_bytes_Split.e 95 (@wqmv k)
def h_line_odd:Sh:=⟨[.a (.int .i32)],some ([],[.a .bool]),none⟩
def wq1e8(k:Nat): Cxt:=⟨[],[],[],[]⟩
def wq1e9(k:Nat){R:Type}(x0:Int)(K:(Bool→Option R)): Option R:=K (cond (cond (decide (x0≥0)) (decide (x0<32)) false) true (x0 == 127))
def wq167:=@wq1e9
theorem wq168(k:Nat): DOK Tryz.prog 97 (h_line_odd.run (@wq167 k)):=dok h_line_odd (wq1e8 k) Tryz.f97 k ok0 (by kernel_rfl) (by kernel_rfl) fun R=>by kernel_rfl
def wq1ea(k:Nat): Ent:=h_line_odd.e 97 (@wq167 k)
end Go.Proofs.YtabkhphoacmcdaaGreatDoor.Pvm
namespace Go.Proofs
open Go.Shelf
def Tryz.laysLaysGwn15_ren:Go.Shelf.Ren:=⟨fun|15=>96|20=>142|n=>n,fun|9=>9|23=>146|3=>3|4=>4|0=>0|21=>21|n=>n,fun|n=>n⟩
theorem Tryz.laysLaysGwn15:Go.Proofs.LaysGw.n15 Tryz.prog Tryz.laysLaysGwn15_ren:={
 mixed:=by kernel_rfl
 f15:=Tryz.func96.trans (congrArg some (by kernel_rfl))
 f20:=Tryz.func142.trans (congrArg some (by kernel_rfl))
 t0:=Tryz.underlying0
 a0:=Tryz.isAgg0
 z0:=Tryz.sizeOf0
 v0:=Tryz.zeroValue0
 i0:=by kernel_rfl
 t3:=Tryz.underlying3
 a3:=Tryz.isAgg3
 z3:=Tryz.sizeOf3
 v3:=Tryz.zeroValue3
 i3:=by kernel_rfl
 t4:=Tryz.underlying4
 a4:=Tryz.isAgg4
 z4:=Tryz.sizeOf4
 v4:=Tryz.zeroValue4
 i4:=by kernel_rfl
 t9:=Tryz.underlying9
 a9:=Tryz.isAgg9
 z9:=Tryz.sizeOf9
 v9:=Tryz.zeroValue9
 i9:=by kernel_rfl
 t21:=Tryz.underlying21
 a21:=Tryz.isAgg21
 z21:=Tryz.sizeOf21
 v21:=Tryz.zeroValue21
 i21:=by kernel_rfl
 t23:=Tryz.underlying146
 a23:=Tryz.isAgg146
 z23:=Tryz.sizeOf146
 v23:=Tryz.zeroValue146
 i23:=by kernel_rfl }
end Go.Proofs
namespace Go.Proofs.YtabkhphoacmcdaaGreatDoor.Pvm
open Go Go.Proofs Go.RowKit Go.Shelf
def oddP(n:Nat): Bool:=cond (cond (decide ((n:Int)≥0)) (decide ((n:Int)<32)) false) true ((n:Int) == 127)
def idxOdd(s:List UInt8): Int:=Lib.idxFunc oddP true ⟨s.toArray⟩
def wqoo:List LS:=[.any,.clo []]
def wqi8(k:Nat){R:Type}(x0:List UInt8)(K:Int→Option R): Option R:=K (idxOdd x0)
def wqbn(k:Nat){R:Type}: List PV→List (Nm×HObj)→(Out→Option R)→Option R
 |[.v .str x0,.clo 97 []],[],K=>wqi8 k x0 (fun y0=>K (.ret [.v (.int .i64) y0] []))
 |_,_,_=>none
theorem wq1g7(w:World): PredGrows Tryz.prog 97 #[] oddP w:=by
 intro W x hx hb
 exact wq19w (P:=Tryz.prog) (f:=97) (fn:=Tryz.f97) (c:=Tryz.f97.body.getD .skip) (by kernel_rfl) (by kernel_rfl) (by kernel_rfl) (ps:=[.v (.int .i32) (x:Int)]) (b:=oddP x)
  (wq168 0 _ _ _ lawK (oddP x) rfl) (vals:=[.int .i32 (x:Int)]) ⟨_,[],rfl,rfl,rfl⟩
theorem wqs7(k:Nat){ps:List PV}{hp:List (Nm×HObj)}{R:Type}{K:Out→Option R}{r:R}(h:wqbn k ps hp K=some r): DoesTo Tryz.prog 96 ps hp fun out=>K out=some r:=by
 unfold wqbn at h
 split at h
 ·next x0 =>
  intro G w vals hr obj dis
  obtain⟨v0,l0,rfl,h0,v1,l1,rfl,h1,rfl⟩:=hr
  have e0:v0 = .string ⟨x0.toArray⟩:=by simpa [RV,RD]using h0
  obtain⟨vs,e1,hvs⟩:=h1
  obtain rfl:vs=[]:=hvs
  subst e0 e1
  have c:=Any.strings_IndexFunc_grows Tryz.laysLaysGwn15 97 #[] (enters (P:=Tryz.prog) (fn:=Tryz.f97) (c:=Tryz.f97.body.getD .skip) (by kernel_rfl) (by kernel_rfl) (by kernel_rfl)) oddP ⟨x0.toArray⟩ w (wq1g7 w)
  show Does _ _ #[_,_] _ _
  unfold Does
  rw[enters (P:=Tryz.prog) (fn:=Tryz.f96) (c:=Tryz.f96.body.getD .skip) (by kernel_rfl) (by kernel_rfl) (by kernel_rfl)]
  refine Calls.mono c fun e w' hh => ?_
  obtain⟨rfl,b⟩:=hh
  exact⟨.ret [.v (.int .i64) (idxOdd x0)] [],h,G,⟨_,rfl,rfl⟩,wq19x b⟩
 ·cases h
end Go.Proofs.YtabkhphoacmcdaaGreatDoor.Pvm
namespace Go.Proofs.YtabkhphoacmcdaaGreatDoor.Pvm
open Go Go.Proofs
def h_strings_trimLeftByte:Sh:=⟨[.a .str,.a (.int .u8)],some ([],[.a .str]),none⟩
def u_strings_trimLeftByte_1001:Cu:=⟨0,[0,1],[.a .str,.a (.int .u8)]⟩
def wqfv(k:Nat): Cxt:=⟨[],[],[(1001,u_strings_trimLeftByte_1001.spec)],[]⟩
def wqbf(k:Nat){R:Type}(E1001:((List UInt8)→Int→Option R))(s0:(List UInt8))(s1:Int)(K:((List UInt8)→Option R)): Option R:=cond ((!((decide ((s0.length:Int)>0)) == true)) || (inb 0 (s0.length:Int))) (cond (cond (decide ((s0.length:Int)>0)) (((s0.getD (Int.toNat 0) 0).toNat:Int) == s1) false) (cond (bnd 1 (s0.length:Int) (s0.length:Int)) (E1001 (cut s0 1 (s0.length:Int)) s1) none) (K s0)) none
def wqfw(k:Nat){R:Type}(E1001:((List UInt8)→Int→Option R))(x0:(List UInt8))(x1:Int)(K:((List UInt8)→Option R)): Option R:=E1001 x0 x1
def wq62(k:Nat){R:Type}: Nat→(List UInt8)→Int→((List UInt8)→Option R)→Option R
 |0,_,_,_=>none
 |n+1,s0,s1,K=>wqbf k (fun s0 s1=>wq62 k n s0 s1 K) s0 s1 K
theorem wqg9(k:Nat){R:Type}: ∀(I:Nat→St→Option R) (n:Nat),h_strings_trimLeftByte.lp u_strings_trimLeftByte_1001 (wqfv k).cx k Tryz.f143 1001 [1,0,0] I n=wq62 k n:=h_strings_trimLeftByte.lok u_strings_trimLeftByte_1001 (B:=wqbf k) (L:=wq62 k) (fun I=>by kernel_rfl) (fun I=>by kernel_rfl) (fun n=>by kernel_rfl) (fun _ _ _ _=>rfl)
def wqal(k:Nat){R:Type}(x0:(List UInt8))(x1:Int)(K:((List UInt8)→Option R)): Option R:=wqfw k (fun s0 s1=>wq62 k k s0 s1 K) x0 x1 K
theorem wqmw(k:Nat): DOK Tryz.prog 143 (h_strings_trimLeftByte.run (@wqal k)):=dok h_strings_trimLeftByte (wqfv k) Tryz.f143 k ok0 (by kernel_rfl) (by kernel_rfl) fun R=>h_strings_trimLeftByte.f1 u_strings_trimLeftByte_1001 (wqfw k) (by kernel_rfl) (wqg9 k (fun _ _=>none) k) (by kernel_rfl)
def wqmx(k:Nat): Ent:=h_strings_trimLeftByte.e 143 (@wqal k)
def h_strings_TrimLeft:Sh:=⟨[.a .str,.j],some ([],[.a .str]),none⟩
def wqu1(k:Nat): Cxt:=⟨[wqmx k],[],[],[]⟩
def wqu2(k:Nat){R:Type}(x0:(List UInt8))(x1:UInt8)(K:((List UInt8)→Option R)): Option R:=cond (cond (x0 == []) true ([x1] == [])) (K x0) (cond (cond ((@List.length UInt8 [x1]:Int) == 1) (decide (((([x1]).getD (Int.toNat 0) 0).toNat:Int)<128)) false) (wqal k x0 ((([x1]).getD (Int.toNat 0) 0).toNat:Int) K) none)
def wqey:=@wqu2
theorem wqu3(k:Nat): DOK Tryz.prog 98 (h_strings_TrimLeft.run (@wqey k)):=dok h_strings_TrimLeft (wqu1 k) Tryz.f98 k (ok1 (wqmw k) ok0) (by kernel_rfl) (by kernel_rfl) fun R=>by kernel_rfl
def wqu4(k:Nat): Ent:=h_strings_TrimLeft.e 98 (@wqey k)
def h_line_Lines:Sh:=⟨[.s (.int .u8)],some ([],[.s kdT150,.g [.a kI,.a kI]]),none⟩
def u_line_Lines_1005:Cu:=⟨0,[3,4,17,18,19],[.o 13 29 0 [.a kI,.a kI],.w 100004 151 kdT150,.s (.sl (.int .u8)),.a kI,.a kI]⟩
def wqzp(k:Nat): Cxt:=⟨[wq166 k,⟨96,wqoo,wqbn k⟩,wq1ea k,wqu4 k,wqz8 k],[],[(1005,u_line_Lines_1005.spec)],[]⟩
def wqlg(k:Nat){R:Type}(E1005:(Int→Int→(List dT150)→(List (List Int))→Int→Int→Option R))(s0 s1:Int)(s2:(List dT150))(s3:(List (List Int)))(s4 s5:Int)(K:((List dT150)→Int→Int→Option R)): Option R:=cond (decide (s5<s4)) (cond (inb s5 (s3.length:Int)) (wqi8 k (wq5j (s3.getD s5.toNat (Kd.zero (@Kd.sl (@Kd.int Go.IntKind.u8))))) (fun y10=>cond (decide (y10≥0)) (K [] 2 (@Go.IntKind.wrap Go.IntKind.i64 (s5+1))) (wqey k (wq5j (s3.getD s5.toNat (Kd.zero (@Kd.sl (@Kd.int Go.IntKind.u8))))) 32 (fun y11=>wqki k y11 (fun y12 y13=>cond (!y13) (K [] 3 (@Go.IntKind.wrap Go.IntKind.i64 (s5+1))) (cond (!(y12 == [])) (cond (fits s2.length (@List.length (@Kd.T kdT150) [((@Go.IntKind.wrap Go.IntKind.i64 (s5+1)),((@Go.IntKind.wrap Go.IntKind.i64 (((wq5j (s3.getD s5.toNat (Kd.zero (@Kd.sl (@Kd.int Go.IntKind.u8))))).length:Int)-(y11.length:Int))),y12))]) 32) (E1005 s0 s1 (s2++[((@Go.IntKind.wrap Go.IntKind.i64 (s5+1)),((@Go.IntKind.wrap Go.IntKind.i64 (((wq5j (s3.getD s5.toNat (Kd.zero (@Kd.sl (@Kd.int Go.IntKind.u8))))).length:Int)-(y11.length:Int))),y12))]) s3 s4 (@Go.IntKind.wrap Go.IntKind.i64 (s5+1))) none) (E1005 s0 s1 s2 s3 s4 (@Go.IntKind.wrap Go.IntKind.i64 (s5+1))))))))) none) (K s2 0 0)
def wqzq(k:Nat){R:Type}(E1005:(Int→Int→(List dT150)→(List (List Int))→Int→Int→Option R))(x0:(List Int))(K:((List dT150)→Int→Int→Option R)): Option R:=cond (decide ((x0.length:Int)>16384)) (K [] 1 1) (wqmv k x0 10 (fun y5=>E1005 0 0 [] y5 (y5.length:Int) 0))
def wqc9(k:Nat){R:Type}: Nat→Int→Int→(List dT150)→(List (List Int))→Int→Int→((List dT150)→Int→Int→Option R)→Option R
 |0,_,_,_,_,_,_,_=>none
 |n+1,s0,s1,s2,s3,s4,s5,K=>wqlg k (fun s0 s1 s2 s3 s4 s5=>wqc9 k n s0 s1 s2 s3 s4 s5 K) s0 s1 s2 s3 s4 s5 K
theorem wqqk(k:Nat){R:Type}: ∀(I:Nat→St→Option R) (n:Nat),h_line_Lines.lp u_line_Lines_1005 (wqzp k).cx k Tryz.f57 1005 [1,1,1,0,1,0] I n=wqc9 k n:=h_line_Lines.lok u_line_Lines_1005 (B:=wqlg k) (L:=wqc9 k) (fun I=>by kernel_rfl) (fun I=>by kernel_rfl) (fun n=>by kernel_rfl) (fun _ _ _ _=>rfl)
def wqql(k:Nat){R:Type}(x0:(List Int))(K:((List dT150)→Int→Int→Option R)): Option R:=wqzq k (fun s0 s1 s2 s3 s4 s5=>wqc9 k k s0 s1 s2 s3 s4 s5 K) x0 K
theorem wq18f(k:Nat): DOK Tryz.prog 57 (h_line_Lines.run (@wqql k)):=dok h_line_Lines (wqzp k) Tryz.f57 k (ok1 (wq165 k) (ok1 (fun _ _ _ _ _ h=>wqs7 k h) (ok1 (wq168 k) (ok1 (wqu3 k) (ok1 (wqz7 k) ok0))))) (by kernel_rfl) (by kernel_rfl) fun R=>h_line_Lines.f1 u_line_Lines_1005 (wqzq k) (by kernel_rfl) (wqqk k (fun _ _=>none) k) (by kernel_rfl)
def wq18g(k:Nat): Ent:=h_line_Lines.e 57 (@wqql k)
def h_doc_Parse:Sh:=⟨[.s (.int .u8)],some ([],[.g [.s kdT72],.g [.a kI,.a kI]]),none⟩
def wq1bn(k:Nat): Cxt:=⟨[wq18g k,wq1g6 k,⟨59,wq1e5,wqzk k⟩],[],[],[(3,(.of [(0,1),(1,2),(2,0),(3,0)] .done)),(6,(.of [(0,1),(1,2),(2,0),(3,0)] .done))]⟩
def wq1bo(k:Nat){R:Type}(x0:(List Int))(K:((List dT72)→Int→Int→Option R)): Option R:=wqql k x0 (fun y4 y5 y6=>cond (y5 != 0) (K [] y5 y6) (wq13p k y4 (fun y7 y8 y9=>cond (y8 != 0) (K [] y8 y9) (wq18d k y7 K))))
def wqu5:=@wq1bo
theorem wq1bp(k:Nat): DOK Tryz.prog 29 (h_doc_Parse.run (@wqu5 k)):=dok h_doc_Parse (wq1bn k) Tryz.f29 k (ok1 (wq18f k) (ok1 (wq1g5 k) (ok1 (fun _ _ _ _ _ h=>wq1hu k h) ok0))) (by kernel_rfl) (by kernel_rfl) fun R=>by kernel_rfl
def wq1bq(k:Nat): Ent:=h_doc_Parse.e 29 (@wqu5 k)
def h_config_Parse:Sh:=⟨[.s (.int .u8)],some ([],[.g [.s (.pr .str (.sl kI)),.s kdT56],.g [.a kI,.a kI]]),none⟩
abbrev wqit:Type 1:=(R:Type)→(List Int)→((List ((List UInt8)×(List Int)))→(List dT56)→Int→Int→Option R)→Option R
def wq13r(k:Nat): Cxt:=⟨[⟨16,wqv6,wqi7 k⟩,wq1bq k],[],[],[(3,(.of [(0,1),(1,2),(2,0),(3,0)] .done))]⟩
def wq13s(k:Nat){R:Type}(x0:(List Int))(K:((List ((List UInt8)×(List Int)))→(List dT56)→Int→Int→Option R)): Option R:=wqu5 k x0 (fun y4 y5 y6=>cond (y5 != 0) (K [] [] y5 y6) (wqh0 k y4 K))
def wqgs:=@wq13s
theorem wq13t(k:Nat): DOK Tryz.prog 11 (h_config_Parse.run (@wqgs k)):=dok h_config_Parse (wq13r k) Tryz.f11 k (ok1 (fun _ _ _ _ _ h=>wq125 k h) (ok1 (wq1bp k) ok0)) (by kernel_rfl) (by kernel_rfl) fun R=>by kernel_rfl
def h_slices_Equal___int_int:Sh:=⟨[.s kI,.s kI],some ([],[.a .bool]),none⟩
def u_slices_Equal___int_int_1004:Cu:=⟨0,[0,1,12,13],[.s kI,.s kI,.a kI,.a kI]⟩
def wqdt(k:Nat): Cxt:=⟨[],[],[(1004,u_slices_Equal___int_int_1004.spec)],[(6,(.of [(0,1),(1,1),(2,1),(4,1),(5,1),(6,1),(3,1),(7,1),(8,1)] .done))]⟩
def wqac(k:Nat){R:Type}(E1004:((List Int)→(List Int)→Int→Int→Option R))(s0 s1:(List Int))(s2 s3:Int)(K:(Bool→Option R)): Option R:=cond (decide (s3<s2)) (cond (inb s3 (s0.length:Int)) (cond (inb s3 (s1.length:Int)) (cond ((s0.getD s3.toNat kI.zero) != (s1.getD s3.toNat kI.zero)) (K false) (E1004 s0 s1 s2 (@Go.IntKind.wrap Go.IntKind.i64 (s3+1)))) none) none) (K true)
def wqdu(k:Nat){R:Type}(E1004:((List Int)→(List Int)→Int→Int→Option R))(x0 x1:(List Int))(K:(Bool→Option R)): Option R:=cond ((x0.length:Int) != (x1.length:Int)) (K false) (E1004 x0 x1 (x0.length:Int) 0)
def wq5f(k:Nat){R:Type}: Nat→(List Int)→(List Int)→Int→Int→(Bool→Option R)→Option R
 |0,_,_,_,_,_=>none
 |n+1,s0,s1,s2,s3,K=>wqac k (fun s0 s1 s2 s3=>wq5f k n s0 s1 s2 s3 K) s0 s1 s2 s3 K
theorem wqez(k:Nat){R:Type}: ∀(I:Nat→St→Option R) (n:Nat),h_slices_Equal___int_int.lp u_slices_Equal___int_int_1004 (wqdt k).cx k Tryz.f50 1004 [1,1,0,1,0] I n=wq5f k n:=h_slices_Equal___int_int.lok u_slices_Equal___int_int_1004 (B:=wqac k) (L:=wq5f k) (fun I=>by kernel_rfl) (fun I=>by kernel_rfl) (fun n=>by kernel_rfl) (fun _ _ _ _=>rfl)
def wq6z(k:Nat){R:Type}(x0 x1:(List Int))(K:(Bool→Option R)): Option R:=wqdu k (fun s0 s1 s2 s3=>wq5f k k s0 s1 s2 s3 K) x0 x1 K
theorem wqdv(k:Nat): DOK Tryz.prog 50 (h_slices_Equal___int_int.run (@wq6z k)):=dok h_slices_Equal___int_int (wqdt k) Tryz.f50 k ok0 (by kernel_rfl) (by kernel_rfl) fun R=>h_slices_Equal___int_int.f1 u_slices_Equal___int_int_1004 (wqdu k) (by kernel_rfl) (wqez k (fun _ _=>none) k) (by kernel_rfl)
def wqdw(k:Nat): Ent:=h_slices_Equal___int_int.e 50 (@wq6z k)
def h_config_Same_1:Sh:=⟨[.g [.a .str,.s kI],.g [.a .str,.s kI]],some ([],[.a .bool]),none⟩
abbrev wqho:Type 1:=(R:Type)→(List UInt8)→(List Int)→(List UInt8)→(List Int)→(Bool→Option R)→Option R
def wq10v(k:Nat): Cxt:=⟨[wqdw k],[],[],[]⟩
def wq10w(k:Nat){R:Type}(x0:(List UInt8))(x1:(List Int))(x2:(List UInt8))(x3:(List Int))(K:(Bool→Option R)): Option R:=cond ((x0 == x2) == true) (wq6z k x1 x3 K) (K false)
def wqa4:=@wq10w
theorem wqpb(k:Nat): DOK Tryz.prog 49 (h_config_Same_1.run (@wqa4 k)):=dok h_config_Same_1 (wq10v k) Tryz.f49 k (ok1 (wqdv k) ok0) (by kernel_rfl) (by kernel_rfl) fun R=>by kernel_rfl
def wq10x(k:Nat): Ent:=h_config_Same_1.e 49 (@wqa4 k)
def h_config_branches:Sh:=⟨[.g [.a .str,.a .str,.a .bool,.a kI,.a kI,.a .bool,.a .str,.a kI,.a kI,.a .flt,.a .bool,.a .bool,.s kI],.g [.a .str,.a .str,.a .bool,.a kI,.a kI,.a .bool,.a .str,.a kI,.a kI,.a .flt,.a .bool,.a .bool,.s kI]],some ([],[.a .bool]),none⟩
abbrev wqf0:Type 1:=(R:Type)→(List UInt8)→(List UInt8)→Bool→Int→Int→Bool→(List UInt8)→Int→Int→Nat→Bool→Bool→(List Int)→(List UInt8)→(List UInt8)→Bool→Int→Int→Bool→(List UInt8)→Int→Int→Nat→Bool→Bool→(List Int)→(Bool→Option R)→Option R
def wqwr(k:Nat): Cxt:=⟨[wqdw k,wqma k,wq11v k],[],[],[]⟩
def wqws(k:Nat){R:Type}(x0 x1:(List UInt8))(x2:Bool)(x3 x4:Int)(x5:Bool)(x6:(List UInt8))(x7 x8:Int)(x9:Nat)(x10 x11:Bool)(x12:(List Int))(x13 x14:(List UInt8))(x15:Bool)(x16 x17:Int)(x18:Bool)(x19:(List UInt8))(x20 x21:Int)(x22:Nat)(x23 x24:Bool)(x25:(List Int))(K:(Bool→Option R)): Option R:=wqd0 k x0 x1 x2 x3 x4 x5 x6 x7 x8 x9 x10 x11 x12 x13 x14 x15 x16 x17 x18 x19 x20 x21 x22 x23 x24 x25 (fun y29=>cond ((cond (cond (cond y29 (x3 == x16) false) (x4 == x17) false) (x5 == x18) false) == true) (wqel k x6 x7 x8 x9 x10 x11 x19 x20 x21 x22 x23 x24 (fun y30=>cond (y30 == true) (wq6z k x12 x25 K) (K false))) (K false))
def wq7z:=@wqws
theorem wqlh(k:Nat): DOK Tryz.prog 53 (h_config_branches.run (@wq7z k)):=dok h_config_branches (wqwr k) Tryz.f53 k (ok1 (wqdv k) (ok1 (wqm9 k) (ok1 (wq11u k) ok0))) (by kernel_rfl) (by kernel_rfl) fun R=>by kernel_rfl
def wqwt(k:Nat): Ent:=h_config_branches.e 53 (@wq7z k)
def h_slices_EqualFunc___api_Branch___api_Branch_api_Branch_api_Branch:Sh:=⟨[.s kdT56,.s kdT56,.c 53 []],some ([],[.a .bool]),none⟩
abbrev wq29:Type 1:=(R:Type)→(List dT56)→(List dT56)→(Bool→Option R)→Option R
def u_slices_EqualFunc___api_Branch___api_Branch_api_Branch_api_Branch_1004:Cu:=⟨0,[1,2,15,16,17],[.s kdT56,.c 53 [],.s kdT56,.a kI,.a kI]⟩
def wq3c(k:Nat): Cxt:=⟨[wqwt k],[],[(1004,u_slices_EqualFunc___api_Branch___api_Branch_api_Branch_api_Branch_1004.spec)],[]⟩
def wq30(k:Nat){R:Type}(E1004:((List dT56)→(List dT56)→Int→Int→Option R))(s0 s1:(List dT56))(s2 s3:Int)(K:(Bool→Option R)): Option R:=cond (decide (s3<s2)) (cond (inb s3 (s1.length:Int)) (cond (inb s3 (s0.length:Int)) (wq7z k (s1.getD s3.toNat kdT56.zero).1 ((s1.getD s3.toNat kdT56.zero).2).1 (((s1.getD s3.toNat kdT56.zero).2).2).1 ((((s1.getD s3.toNat kdT56.zero).2).2).2).1 (((((s1.getD s3.toNat kdT56.zero).2).2).2).2).1 ((((((s1.getD s3.toNat kdT56.zero).2).2).2).2).2).1 ((((((((s1.getD s3.toNat kdT56.zero).2).2).2).2).2).2).1).1 (((((((((s1.getD s3.toNat kdT56.zero).2).2).2).2).2).2).1).2).1 ((((((((((s1.getD s3.toNat kdT56.zero).2).2).2).2).2).2).1).2).2).1 (((((((((((s1.getD s3.toNat kdT56.zero).2).2).2).2).2).2).1).2).2).2).1 ((((((((((((s1.getD s3.toNat kdT56.zero).2).2).2).2).2).2).1).2).2).2).2).1 ((((((((((((s1.getD s3.toNat kdT56.zero).2).2).2).2).2).2).1).2).2).2).2).2 (((((((s1.getD s3.toNat kdT56.zero).2).2).2).2).2).2).2 (s0.getD s3.toNat kdT56.zero).1 ((s0.getD s3.toNat kdT56.zero).2).1 (((s0.getD s3.toNat kdT56.zero).2).2).1 ((((s0.getD s3.toNat kdT56.zero).2).2).2).1 (((((s0.getD s3.toNat kdT56.zero).2).2).2).2).1 ((((((s0.getD s3.toNat kdT56.zero).2).2).2).2).2).1 ((((((((s0.getD s3.toNat kdT56.zero).2).2).2).2).2).2).1).1 (((((((((s0.getD s3.toNat kdT56.zero).2).2).2).2).2).2).1).2).1 ((((((((((s0.getD s3.toNat kdT56.zero).2).2).2).2).2).2).1).2).2).1 (((((((((((s0.getD s3.toNat kdT56.zero).2).2).2).2).2).2).1).2).2).2).1 ((((((((((((s0.getD s3.toNat kdT56.zero).2).2).2).2).2).2).1).2).2).2).2).1 ((((((((((((s0.getD s3.toNat kdT56.zero).2).2).2).2).2).2).1).2).2).2).2).2 (((((((s0.getD s3.toNat kdT56.zero).2).2).2).2).2).2).2 (fun y8=>cond (!y8) (K false) (E1004 s0 s1 s2 (@Go.IntKind.wrap Go.IntKind.i64 (s3+1))))) none) none) (K true)
def wq3d(k:Nat){R:Type}(E1004:((List dT56)→(List dT56)→Int→Int→Option R))(x0 x1:(List dT56))(K:(Bool→Option R)): Option R:=cond ((x0.length:Int) != (x1.length:Int)) (K false) (E1004 x1 x0 (x0.length:Int) 0)
def wq16(k:Nat){R:Type}: Nat→(List dT56)→(List dT56)→Int→Int→(Bool→Option R)→Option R
 |0,_,_,_,_,_=>none
 |n+1,s0,s1,s2,s3,K=>wq30 k (fun s0 s1 s2 s3=>wq16 k n s0 s1 s2 s3 K) s0 s1 s2 s3 K
theorem wq4p(k:Nat){R:Type}: ∀(I:Nat→St→Option R) (n:Nat),h_slices_EqualFunc___api_Branch___api_Branch_api_Branch_api_Branch.lp u_slices_EqualFunc___api_Branch___api_Branch_api_Branch_api_Branch_1004 (wq3c k).cx k Tryz.f52 1004 [1,1,0,1,0] I n=wq16 k n:=h_slices_EqualFunc___api_Branch___api_Branch_api_Branch_api_Branch.lok u_slices_EqualFunc___api_Branch___api_Branch_api_Branch_api_Branch_1004 (B:=wq30 k) (L:=wq16 k) (fun I=>by kernel_rfl) (fun I=>by kernel_rfl) (fun n=>by kernel_rfl) (fun _ _ _ _=>rfl)
def wq1g(k:Nat){R:Type}(x0 x1:(List dT56))(K:(Bool→Option R)): Option R:=wq3d k (fun s0 s1 s2 s3=>wq16 k k s0 s1 s2 s3 K) x0 x1 K
theorem wq5h(k:Nat): DOK Tryz.prog 52 (h_slices_EqualFunc___api_Branch___api_Branch_api_Branch_api_Branch.run (@wq1g k)):=dok h_slices_EqualFunc___api_Branch___api_Branch_api_Branch_api_Branch (wq3c k) Tryz.f52 k (ok1 (wqlh k) ok0) (by kernel_rfl) (by kernel_rfl) fun R=>h_slices_EqualFunc___api_Branch___api_Branch_api_Branch_api_Branch.f1 u_slices_EqualFunc___api_Branch___api_Branch_api_Branch_api_Branch_1004 (wq3d k) (by kernel_rfl) (wq4p k (fun _ _=>none) k) (by kernel_rfl)
def h_slices_EqualFunc___api_Domain___api_Domain_api_Domain_api_Domain:Sh:=⟨[.s (.pr .str (.sl kI)),.s (.pr .str (.sl kI)),.c 49 []],some ([],[.a .bool]),none⟩
abbrev wq2a:Type 1:=(R:Type)→(List ((List UInt8)×(List Int)))→(List ((List UInt8)×(List Int)))→(Bool→Option R)→Option R
def u_slices_EqualFunc___api_Domain___api_Domain_api_Domain_api_Domain_1004:Cu:=⟨0,[1,2,15,16,17],[.s (.pr .str (.sl kI)),.c 49 [],.s (.pr .str (.sl kI)),.a kI,.a kI]⟩
def wq3e(k:Nat): Cxt:=⟨[wq10x k],[],[(1004,u_slices_EqualFunc___api_Domain___api_Domain_api_Domain_api_Domain_1004.spec)],[]⟩
def wq31(k:Nat){R:Type}(E1004:((List ((List UInt8)×(List Int)))→(List ((List UInt8)×(List Int)))→Int→Int→Option R))(s0 s1:(List ((List UInt8)×(List Int))))(s2 s3:Int)(K:(Bool→Option R)): Option R:=cond (decide (s3<s2)) (cond (inb s3 (s1.length:Int)) (cond (inb s3 (s0.length:Int)) (wqa4 k (s1.getD s3.toNat (Kd.zero (@Kd.pr Kd.str (@Kd.sl kI)))).1 (s1.getD s3.toNat (Kd.zero (@Kd.pr Kd.str (@Kd.sl kI)))).2 (s0.getD s3.toNat (Kd.zero (@Kd.pr Kd.str (@Kd.sl kI)))).1 (s0.getD s3.toNat (Kd.zero (@Kd.pr Kd.str (@Kd.sl kI)))).2 (fun y8=>cond (!y8) (K false) (E1004 s0 s1 s2 (@Go.IntKind.wrap Go.IntKind.i64 (s3+1))))) none) none) (K true)
def wq3f(k:Nat){R:Type}(E1004:((List ((List UInt8)×(List Int)))→(List ((List UInt8)×(List Int)))→Int→Int→Option R))(x0 x1:(List ((List UInt8)×(List Int))))(K:(Bool→Option R)): Option R:=cond ((x0.length:Int) != (x1.length:Int)) (K false) (E1004 x1 x0 (x0.length:Int) 0)
def wq17(k:Nat){R:Type}: Nat→(List ((List UInt8)×(List Int)))→(List ((List UInt8)×(List Int)))→Int→Int→(Bool→Option R)→Option R
 |0,_,_,_,_,_=>none
 |n+1,s0,s1,s2,s3,K=>wq31 k (fun s0 s1 s2 s3=>wq17 k n s0 s1 s2 s3 K) s0 s1 s2 s3 K
theorem wq4q(k:Nat){R:Type}: ∀(I:Nat→St→Option R) (n:Nat),h_slices_EqualFunc___api_Domain___api_Domain_api_Domain_api_Domain.lp u_slices_EqualFunc___api_Domain___api_Domain_api_Domain_api_Domain_1004 (wq3e k).cx k Tryz.f51 1004 [1,1,0,1,0] I n=wq17 k n:=h_slices_EqualFunc___api_Domain___api_Domain_api_Domain_api_Domain.lok u_slices_EqualFunc___api_Domain___api_Domain_api_Domain_api_Domain_1004 (B:=wq31 k) (L:=wq17 k) (fun I=>by kernel_rfl) (fun I=>by kernel_rfl) (fun n=>by kernel_rfl) (fun _ _ _ _=>rfl)
def wq1h(k:Nat){R:Type}(x0 x1:(List ((List UInt8)×(List Int))))(K:(Bool→Option R)): Option R:=wq3f k (fun s0 s1 s2 s3=>wq17 k k s0 s1 s2 s3 K) x0 x1 K
theorem wq5i(k:Nat): DOK Tryz.prog 51 (h_slices_EqualFunc___api_Domain___api_Domain_api_Domain_api_Domain.run (@wq1h k)):=dok h_slices_EqualFunc___api_Domain___api_Domain_api_Domain_api_Domain (wq3e k) Tryz.f51 k (ok1 (wqpb k) ok0) (by kernel_rfl) (by kernel_rfl) fun R=>h_slices_EqualFunc___api_Domain___api_Domain_api_Domain_api_Domain.f1 u_slices_EqualFunc___api_Domain___api_Domain_api_Domain_api_Domain_1004 (wq3f k) (by kernel_rfl) (wq4q k (fun _ _=>none) k) (by kernel_rfl)
def h_config_Same:Sh:=⟨[.g [.s (.pr .str (.sl kI)),.s kdT56],.g [.s (.pr .str (.sl kI)),.s kdT56]],some ([],[.a .bool]),none⟩
abbrev wqkn:Type 1:=(R:Type)→(List ((List UInt8)×(List Int)))→(List dT56)→(List ((List UInt8)×(List Int)))→(List dT56)→(Bool→Option R)→Option R
def wqvb(k:Nat)(wqbu:wqho)(wqo:wq2a)(wqp:wq29)(wqa0:wqf0): Cxt:=⟨[h_config_Same_1.e 49 wqbu,h_slices_EqualFunc___api_Domain___api_Domain_api_Domain_api_Domain.e 51 wqo,h_slices_EqualFunc___api_Branch___api_Branch_api_Branch_api_Branch.e 52 wqp,h_config_branches.e 53 wqa0],[],[],[]⟩
def wqvc(k:Nat)(wqbu:wqho)(wqo:wq2a)(wqp:wq29)(wqa0:wqf0){R:Type}(x0:(List ((List UInt8)×(List Int))))(x1:(List dT56))(x2:(List ((List UInt8)×(List Int))))(x3:(List dT56))(K:(Bool→Option R)): Option R:=wqo R x0 x2 (fun y7=>cond (y7 == true) (wqp R x1 x3 K) (K false))
theorem wq169(k:Nat)(wqbu:wqho)(wqo:wq2a)(wqp:wq29)(wqa0:wqf0)(R:Type): h_config_Same.at (wqvb k wqbu wqo wqp wqa0) k Tryz.f23 R=@wqvc k wqbu wqo wqp wqa0 R:=by kernel_rfl
def wqi9(k:Nat){R:Type}:= @wqvc k (@wqa4 k) (@wq1h k) (@wq1g k) (@wq7z k) R
theorem wq16a(k:Nat): DOK Tryz.prog 23 (h_config_Same.run (@wqi9 k)):=dok h_config_Same (wqvb k (@wqa4 k) (@wq1h k) (@wq1g k) (@wq7z k)) Tryz.f23 k (ok1 (wqpb k) (ok1 (wq5i k) (ok1 (wq5h k) (ok1 (wqlh k) ok0)))) (by kernel_rfl) (by kernel_rfl) fun R=>wq169 k (@wqa4 k) (@wq1h k) (@wq1g k) (@wq7z k) R
def h_ref1_Order:Sh:=⟨[.a .flt,.a .flt],some ([],[.a kI]),none⟩
abbrev wqmy:Type 1:=(R:Type)→Nat→Nat→(Int→Option R)→Option R
def wq18h(k:Nat): Cxt:=⟨[wqy9 k,wq139 k],[],[],[]⟩
def wqko(k:Nat){R:Type}(x0 x1:Nat)(K:(Int→Option R)): Option R:=wq14 k x0 (fun y5=>cond (y5 == false) (wq14 k x1 (fun y6=>cond y6 (wq14 k x0 (fun y7=>cond (y7 == true) (wq14 k x1 (fun y8=>cond y8 (K 0) (wq14 k x0 (fun y9=>cond y9 (K 1) (K (@Neg.neg Int @Int.instNegInt (1:Int))))))) (wq14 k x0 (fun y8=>cond y8 (K 1) (K (@Neg.neg Int @Int.instNegInt (1:Int))))))) (cond (@fltIs @Go.BinOp.lss x0 x1) (K (@Neg.neg Int @Int.instNegInt (1:Int))) (cond (@fltIs @Go.BinOp.gtr x0 x1) (K 1) (wqw k x0 (fun y7=>wqw k x1 (fun y8=>cond (y7 == y8) (K 0) (wqw k x0 (fun y9=>cond y9 (K (@Neg.neg Int @Int.instNegInt (1:Int))) (K 1)))))))))) (wq14 k x0 (fun y6=>cond (y6 == true) (wq14 k x1 (fun y7=>cond y7 (K 0) (wq14 k x0 (fun y8=>cond y8 (K 1) (K (@Neg.neg Int @Int.instNegInt (1:Int))))))) (wq14 k x0 (fun y7=>cond y7 (K 1) (K (@Neg.neg Int @Int.instNegInt (1:Int))))))))
def wq57:=@wqko
theorem wqzr(k:Nat): DOK Tryz.prog 108 (h_ref1_Order.run (@wq57 k)):=dok h_ref1_Order (wq18h k) Tryz.f108 k (ok1 (wqh8 k) (ok1 (wqdd k) ok0)) (by kernel_rfl) (by kernel_rfl) fun R=>by kernel_rfl
def wq18i(k:Nat): Ent:=h_ref1_Order.e 108 (@wq57 k)
def h_ref1_Alike:Sh:=⟨[.a .flt,.a .flt],some ([],[.a .bool]),none⟩
abbrev wqmz:Type 1:=(R:Type)→Nat→Nat→(Bool→Option R)→Option R
def wq18j(k:Nat): Cxt:=⟨[wq18i k],[],[],[]⟩
def wqzs(k:Nat){R:Type}(x0 x1:Nat)(K:(Bool→Option R)): Option R:=wq57 k x0 x1 (fun y5=>K (y5 == 0))
def wqam:=@wqzs
theorem wqzt(k:Nat): DOK Tryz.prog 63 (h_ref1_Alike.run (@wqam k)):=dok h_ref1_Alike (wq18j k) Tryz.f63 k (ok1 (wqzr k) ok0) (by kernel_rfl) (by kernel_rfl) fun R=>by kernel_rfl
def wq18k(k:Nat): Ent:=h_ref1_Alike.e 63 (@wqam k)
def h_ref15_SameRule:Sh:=⟨[.g [.a .str,.a kI,.a kI,.a .flt,.a .bool,.a .bool],.g [.a .str,.a kI,.a kI,.a .flt,.a .bool,.a .bool]],some ([],[.a .bool]),none⟩
def wqzu(k:Nat): Cxt:=⟨[wq18k k],[],[],[]⟩
def wqn0(k:Nat){R:Type}(x0:(List UInt8))(x1 x2:Int)(x3:Nat)(x4 x5:Bool)(x6:(List UInt8))(x7 x8:Int)(x9:Nat)(x10 x11:Bool)(K:(Bool→Option R)): Option R:=cond ((cond (cond (cond (cond (x0 == x6) (x1 == x7) false) (x2 == x8) false) (x4 == x10) false) (x5 == x11) false) == true) (wqam k x3 x9 K) (K false)
def wq6f:=@wqn0
theorem wqn1(k:Nat): DOK Tryz.prog 32 (h_ref15_SameRule.run (@wq6f k)):=dok h_ref15_SameRule (wqzu k) Tryz.f32 k (ok1 (wqzt k) ok0) (by kernel_rfl) (by kernel_rfl) fun R=>by kernel_rfl
def wqn2(k:Nat): Ent:=h_ref15_SameRule.e 32 (@wq6f k)
def h_ref1_Ints:Sh:=⟨[.s kI,.s kI],some ([],[.a .bool]),none⟩
def u_ref1_Ints_1004:Cu:=⟨0,[0,1,5],[.s kI,.s kI,.a kI]⟩
def wq126(k:Nat): Cxt:=⟨[],[],[(1004,u_ref1_Ints_1004.spec)],[(6,(.of [(0,1),(1,1),(2,1),(4,1),(5,1),(6,1),(3,1),(7,1),(8,1)] .done))]⟩
def wqn3(k:Nat){R:Type}(E1004:((List Int)→(List Int)→Int→Option R))(s0 s1:(List Int))(s2:Int)(K:(Bool→Option R)): Option R:=cond (decide (s2<(s0.length:Int))) (cond (inb s2 (s0.length:Int)) (cond (inb s2 (s1.length:Int)) (cond ((s0.getD s2.toNat kI.zero) != (s1.getD s2.toNat kI.zero)) (K false) (E1004 s0 s1 (@Go.IntKind.wrap Go.IntKind.i64 (s2+1)))) none) none) (K true)
def wq127(k:Nat){R:Type}(E1004:((List Int)→(List Int)→Int→Option R))(x0 x1:(List Int))(K:(Bool→Option R)): Option R:=cond ((x0.length:Int) != (x1.length:Int)) (K false) (E1004 x0 x1 0)
def wqdx(k:Nat){R:Type}: Nat→(List Int)→(List Int)→Int→(Bool→Option R)→Option R
 |0,_,_,_,_=>none
 |n+1,s0,s1,s2,K=>wqn3 k (fun s0 s1 s2=>wqdx k n s0 s1 s2 K) s0 s1 s2 K
theorem wqs8(k:Nat){R:Type}: ∀(I:Nat→St→Option R) (n:Nat),h_ref1_Ints.lp u_ref1_Ints_1004 (wq126 k).cx k Tryz.f31 1004 [1,1,0,1,0] I n=wqdx k n:=h_ref1_Ints.lok u_ref1_Ints_1004 (B:=wqn3 k) (L:=wqdx k) (fun I=>by kernel_rfl) (fun I=>by kernel_rfl) (fun n=>by kernel_rfl) (fun _ _ _ _=>rfl)
def wqjg(k:Nat){R:Type}(x0 x1:(List Int))(K:(Bool→Option R)): Option R:=wq127 k (fun s0 s1 s2=>wqdx k k s0 s1 s2 K) x0 x1 K
theorem wq1br(k:Nat): DOK Tryz.prog 31 (h_ref1_Ints.run (@wqjg k)):=dok h_ref1_Ints (wq126 k) Tryz.f31 k ok0 (by kernel_rfl) (by kernel_rfl) fun R=>h_ref1_Ints.f1 u_ref1_Ints_1004 (wq127 k) (by kernel_rfl) (wqs8 k (fun _ _=>none) k) (by kernel_rfl)
def wq1bs(k:Nat): Ent:=h_ref1_Ints.e 31 (@wqjg k)
def h_ref15_Same:Sh:=⟨[.g [.s (.pr .str (.sl kI)),.s kdT56],.g [.s (.pr .str (.sl kI)),.s kdT56]],some ([],[.a .bool]),none⟩
abbrev wqn4:Type 1:=(R:Type)→(List ((List UInt8)×(List Int)))→(List dT56)→(List ((List UInt8)×(List Int)))→(List dT56)→(Bool→Option R)→Option R
def u_ref15_Same_1004:Cu:=⟨0,[2,3,5],[.o 12 27 0 [.s (.pr .str (.sl kI)),.s kdT56],.o 13 27 0 [.s (.pr .str (.sl kI)),.s kdT56],.a kI]⟩
def u_ref15_Same_1009:Cu:=⟨0,[2,3,6],[.o 12 27 0 [.s (.pr .str (.sl kI)),.s kdT56],.o 13 27 0 [.s (.pr .str (.sl kI)),.s kdT56],.a kI]⟩
def wqkp(k:Nat): Cxt:=⟨[wq1bs k,wqn2 k],[],[(1004,u_ref15_Same_1004.spec),(1009,u_ref15_Same_1009.spec)],[(6,(.of [(0,1),(2,1),(6,1),(8,1),(1,1),(3,1),(4,1),(5,1),(7,1),(9,1),(10,1),(11,1),(12,1),(13,1),(14,1),(16,1),(20,1),(22,1),(15,1),(17,1),(18,1),(19,1),(21,1),(23,1),(24,1),(25,1),(26,0),(27,1),(28,1)] .done)),(11,(.of [(0,1),(2,1),(5,1),(7,1),(1,1),(3,1),(4,1),(6,2),(8,1),(9,2)] (.alt 10 (.of [(11,0),(12,0),(13,0)] .done) (.op 11 0 (.of [(10,0),(12,0),(13,0)] .done)))))]⟩
def wqga(k:Nat){R:Type}(E1004 E1009:((List ((List UInt8)×(List Int)))→(List dT56)→(List ((List UInt8)×(List Int)))→(List dT56)→Int→Option R))(s0:(List ((List UInt8)×(List Int))))(s1:(List dT56))(s2:(List ((List UInt8)×(List Int))))(s3:(List dT56))(s4:Int)(K:(Bool→Option R)): Option R:=cond (decide (s4<(s0.length:Int))) (cond (inb s4 (s0.length:Int)) (cond (inb s4 (s2.length:Int)) (cond ((!((!((s0.getD s4.toNat (Kd.zero (@Kd.pr Kd.str (@Kd.sl kI)))).1 == (s2.getD s4.toNat (Kd.zero (@Kd.pr Kd.str (@Kd.sl kI)))).1)) == false)) || (inb s4 (s0.length:Int))) (cond ((!((!((s0.getD s4.toNat (Kd.zero (@Kd.pr Kd.str (@Kd.sl kI)))).1 == (s2.getD s4.toNat (Kd.zero (@Kd.pr Kd.str (@Kd.sl kI)))).1)) == false)) || (inb s4 (s2.length:Int))) (cond ((!((s0.getD s4.toNat (Kd.zero (@Kd.pr Kd.str (@Kd.sl kI)))).1 == (s2.getD s4.toNat (Kd.zero (@Kd.pr Kd.str (@Kd.sl kI)))).1)) == false) (wqjg k (s0.getD s4.toNat (Kd.zero (@Kd.pr Kd.str (@Kd.sl kI)))).2 (s2.getD s4.toNat (Kd.zero (@Kd.pr Kd.str (@Kd.sl kI)))).2 (fun y10=>cond (!y10) (K false) (E1004 s0 s1 s2 s3 (@Go.IntKind.wrap Go.IntKind.i64 (s4+1))))) (K false)) none) none) none) none) (E1009 s0 s1 s2 s3 0)
def wqf1(k:Nat){R:Type}(E1009:((List ((List UInt8)×(List Int)))→(List dT56)→(List ((List UInt8)×(List Int)))→(List dT56)→Int→Option R))(s0:(List ((List UInt8)×(List Int))))(s1:(List dT56))(s2:(List ((List UInt8)×(List Int))))(s3:(List dT56))(s4:Int)(K:(Bool→Option R)): Option R:=cond (decide (s4<(s1.length:Int))) (cond (inb s4 (s1.length:Int)) (cond (inb s4 (s3.length:Int)) (dupT (@Shp.b @Shp.o @Shp.o) (cond ((cond (cond (cond (cond (cond (!((s1.getD s4.toNat kdT56.zero).1 == (s3.getD s4.toNat kdT56.zero).1)) true (!(((s1.getD s4.toNat kdT56.zero).2).1 == ((s3.getD s4.toNat kdT56.zero).2).1))) true (!((((s1.getD s4.toNat kdT56.zero).2).2).1 == (((s3.getD s4.toNat kdT56.zero).2).2).1))) true (((((s1.getD s4.toNat kdT56.zero).2).2).2).1 != ((((s3.getD s4.toNat kdT56.zero).2).2).2).1)) true ((((((s1.getD s4.toNat kdT56.zero).2).2).2).2).1 != (((((s3.getD s4.toNat kdT56.zero).2).2).2).2).1)) true (!(((((((s1.getD s4.toNat kdT56.zero).2).2).2).2).2).1 == ((((((s3.getD s4.toNat kdT56.zero).2).2).2).2).2).1))) == false) (wq6f k ((((((((s1.getD s4.toNat kdT56.zero).2).2).2).2).2).2).1).1 (((((((((s1.getD s4.toNat kdT56.zero).2).2).2).2).2).2).1).2).1 ((((((((((s1.getD s4.toNat kdT56.zero).2).2).2).2).2).2).1).2).2).1 (((((((((((s1.getD s4.toNat kdT56.zero).2).2).2).2).2).2).1).2).2).2).1 ((((((((((((s1.getD s4.toNat kdT56.zero).2).2).2).2).2).2).1).2).2).2).2).1 ((((((((((((s1.getD s4.toNat kdT56.zero).2).2).2).2).2).2).1).2).2).2).2).2 ((((((((s3.getD s4.toNat kdT56.zero).2).2).2).2).2).2).1).1 (((((((((s3.getD s4.toNat kdT56.zero).2).2).2).2).2).2).1).2).1 ((((((((((s3.getD s4.toNat kdT56.zero).2).2).2).2).2).2).1).2).2).1 (((((((((((s3.getD s4.toNat kdT56.zero).2).2).2).2).2).2).1).2).2).2).1 ((((((((((((s3.getD s4.toNat kdT56.zero).2).2).2).2).2).2).1).2).2).2).2).1 ((((((((((((s3.getD s4.toNat kdT56.zero).2).2).2).2).2).2).1).2).2).2).2).2 (fun y10=>cond ((!y10) == false) (wqjg k (((((((s1.getD s4.toNat kdT56.zero).2).2).2).2).2).2).2 (((((((s3.getD s4.toNat kdT56.zero).2).2).2).2).2).2).2 (fun y11=>cond (!y11) (K false) (E1009 s0 s1 s2 s3 (@Go.IntKind.wrap Go.IntKind.i64 (s4+1))))) (K false))) (K false))) none) none) (K true)
def wqca(k:Nat){R:Type}(E1009:((List ((List UInt8)×(List Int)))→(List dT56)→(List ((List UInt8)×(List Int)))→(List dT56)→Int→Option R))(s0:(List ((List UInt8)×(List Int))))(s1:(List dT56))(s2:(List ((List UInt8)×(List Int))))(s3:(List dT56))(s4:Int)(K:(Bool→Option R)): Option R:=cond (decide (s4<(s1.length:Int))) (cond (inb s4 (s1.length:Int)) (cond (inb s4 (s3.length:Int)) (cond ((cond (cond (cond (cond (cond (!((s1.getD s4.toNat kdT56.zero).1 == (s3.getD s4.toNat kdT56.zero).1)) true (!(((s1.getD s4.toNat kdT56.zero).2).1 == ((s3.getD s4.toNat kdT56.zero).2).1))) true (!((((s1.getD s4.toNat kdT56.zero).2).2).1 == (((s3.getD s4.toNat kdT56.zero).2).2).1))) true (((((s1.getD s4.toNat kdT56.zero).2).2).2).1 != ((((s3.getD s4.toNat kdT56.zero).2).2).2).1)) true ((((((s1.getD s4.toNat kdT56.zero).2).2).2).2).1 != (((((s3.getD s4.toNat kdT56.zero).2).2).2).2).1)) true (!(((((((s1.getD s4.toNat kdT56.zero).2).2).2).2).2).1 == ((((((s3.getD s4.toNat kdT56.zero).2).2).2).2).2).1))) == false) (wq6f k ((((((((s1.getD s4.toNat kdT56.zero).2).2).2).2).2).2).1).1 (((((((((s1.getD s4.toNat kdT56.zero).2).2).2).2).2).2).1).2).1 ((((((((((s1.getD s4.toNat kdT56.zero).2).2).2).2).2).2).1).2).2).1 (((((((((((s1.getD s4.toNat kdT56.zero).2).2).2).2).2).2).1).2).2).2).1 ((((((((((((s1.getD s4.toNat kdT56.zero).2).2).2).2).2).2).1).2).2).2).2).1 ((((((((((((s1.getD s4.toNat kdT56.zero).2).2).2).2).2).2).1).2).2).2).2).2 ((((((((s3.getD s4.toNat kdT56.zero).2).2).2).2).2).2).1).1 (((((((((s3.getD s4.toNat kdT56.zero).2).2).2).2).2).2).1).2).1 ((((((((((s3.getD s4.toNat kdT56.zero).2).2).2).2).2).2).1).2).2).1 (((((((((((s3.getD s4.toNat kdT56.zero).2).2).2).2).2).2).1).2).2).2).1 ((((((((((((s3.getD s4.toNat kdT56.zero).2).2).2).2).2).2).1).2).2).2).2).1 ((((((((((((s3.getD s4.toNat kdT56.zero).2).2).2).2).2).2).1).2).2).2).2).2 (fun y10=>cond ((!y10) == false) (wqjg k (((((((s1.getD s4.toNat kdT56.zero).2).2).2).2).2).2).2 (((((((s3.getD s4.toNat kdT56.zero).2).2).2).2).2).2).2 (fun y11=>cond (!y11) (K false) (E1009 s0 s1 s2 s3 (@Go.IntKind.wrap Go.IntKind.i64 (s4+1))))) (K false))) (K false)) none) none) (K true)
theorem wqop(k:Nat){R:Type}: @wqf1 k R=@wqca k R:=by funext E1009 s0 s1 s2 s3 s4 K;unfold wqf1 wqca;simp only[wqup,show ∀(R:Type) (a:Option R),both a a=a from fun R a=>by unfold both;exact if_pos rfl]
def wqzv(k:Nat){R:Type}(E1004:((List ((List UInt8)×(List Int)))→(List dT56)→(List ((List UInt8)×(List Int)))→(List dT56)→Int→Option R))(x0:(List ((List UInt8)×(List Int))))(x1:(List dT56))(x2:(List ((List UInt8)×(List Int))))(x3:(List dT56))(K:(Bool→Option R)): Option R:=cond (cond ((x0.length:Int) != (x2.length:Int)) true ((x1.length:Int) != (x3.length:Int))) (K false) (E1004 x0 x1 x2 x3 0)
def wq9w(k:Nat){R:Type}: Nat→(List ((List UInt8)×(List Int)))→(List dT56)→(List ((List UInt8)×(List Int)))→(List dT56)→Int→(Bool→Option R)→Option R
 |0,_,_,_,_,_,_=>none
 |n+1,s0,s1,s2,s3,s4,K=>wqca k (fun s0 s1 s2 s3 s4=>wq9w k n s0 s1 s2 s3 s4 K) s0 s1 s2 s3 s4 K
theorem wqqm(k:Nat){R:Type}: ∀(I:Nat→St→Option R) (n:Nat),h_ref15_Same.lp u_ref15_Same_1009 (wqkp k).cx k Tryz.f13 1009 [1,1,1,0,1,0] I n=wq9w k n:=h_ref15_Same.lok u_ref15_Same_1009 (B:=wqca k) (L:=wq9w k) (fun I=>(show _=wqf1 k (u_ref15_Same_1009.cur (I 1009)) by kernel_rfl).trans (by simp only[wqop])) (fun I=>by kernel_rfl) (fun n=>by kernel_rfl) (fun _ _ _ _=>rfl)
def wqcb(k:Nat){R:Type}: Nat→(List ((List UInt8)×(List Int)))→(List dT56)→(List ((List UInt8)×(List Int)))→(List dT56)→Int→(Bool→Option R)→Option R
 |0,_,_,_,_,_,_=>none
 |n+1,s0,s1,s2,s3,s4,K=>wqga k (fun s0 s1 s2 s3 s4=>wqcb k n s0 s1 s2 s3 s4 K) (fun s0 s1 s2 s3 s4=>wq9w k k s0 s1 s2 s3 s4 K) s0 s1 s2 s3 s4 K
theorem wqqn(k:Nat){R:Type}: ∀(I:Nat→St→Option R) (n:Nat),h_ref15_Same.lp u_ref15_Same_1004 (wqkp k).cx k Tryz.f13 1004 [1,1,0,1,0] I n=wqcb k n:=h_ref15_Same.lokA u_ref15_Same_1004 (fun I J=>h_ref15_Same.glue (l:=u_ref15_Same_1004.fs) (u:=u_ref15_Same_1009.fs) (fun E1009=>wqga k J E1009) (wq9w k k)) (fun I=>wqcb k ) (fun I f=>by kernel_rfl) (fun I=>(show _=h_ref15_Same.glue (l:=u_ref15_Same_1004.fs) (u:=u_ref15_Same_1009.fs) (fun E1009=>wqga k (u_ref15_Same_1004.cur (I 1004)) E1009) (h_ref15_Same.lp u_ref15_Same_1009 (wqkp k).cx k Tryz.f13 1009 [1,1,1,0,1,0] I k) by kernel_rfl).trans (by rw[wqqm])) (fun I=>by kernel_rfl) (fun I n=>by kernel_rfl) (fun _ _ _ _=>rfl)
def wqkq(k:Nat){R:Type}(x0:(List ((List UInt8)×(List Int))))(x1:(List dT56))(x2:(List ((List UInt8)×(List Int))))(x3:(List dT56))(K:(Bool→Option R)): Option R:=wqzv k (fun s0 s1 s2 s3 s4=>wqcb k k s0 s1 s2 s3 s4 K) x0 x1 x2 x3 K
theorem wq18l(k:Nat): DOK Tryz.prog 13 (h_ref15_Same.run (@wqkq k)):=dok h_ref15_Same (wqkp k) Tryz.f13 k (ok1 (wq1br k) (ok1 (wqn1 k) ok0)) (by kernel_rfl) (by kernel_rfl) fun R=>h_ref15_Same.f1 u_ref15_Same_1004 (wqzv k) (by kernel_rfl) (wqqn k (fun _ _=>none) k) (by kernel_rfl)
def h_law17_awake:Sh:=⟨[],some ([],[.a .bool]),none⟩
abbrev wqkr:Type 1:=(R:Type)→(Bool→Option R)→Option R
def wqvd(k:Nat)(wqbb:wqit)(wqfa:wqn4)(wq2c:wqa2)(wqd8:(R:Type)→(List dT72)→((List ((List UInt8)×(List Int)))→(List dT56)→Int→Int→Option R)→Option R)(wqat:wqkn): Cxt:=⟨[h_config_Parse.e 11 wqbb,h_ref15_Same.e 13 wqfa,h_config_Check.e 14 wq2c,⟨16,wqv6,wqs2 wqd8⟩,h_config_Same.e 23 wqat],[],[],[]⟩
def wqve(k:Nat)(wqbb:wqit)(wqfa:wqn4)(wq2c:wqa2)(wqd8:(R:Type)→(List dT72)→((List ((List UInt8)×(List Int)))→(List dT56)→Int→Int→Option R)→Option R)(wqat:wqkn){R:Type}(K:(Bool→Option R)): Option R:=wqbb R [100,111,109,97,105,110,115,58,10,32,32,45,32,100,111,109,97,105,110,58,32,115,104,111,112,10,32,32,32,32,100,101,115,99,114,105,112,116,111,114,115,58,10,32,32,32,32,32,32,45,32,107,101,121,58,32,117,115,101,114,10,32,32,32,32,32,32,32,32,114,97,116,101,95,108,105,109,105,116,58,10,32,32,32,32,32,32,32,32,32,32,117,110,105,116,58,32,109,105,110,117,116,101,10,32,32,32,32,32,32,32,32,32,32,114,101,113,117,101,115,116,115,95,112,101,114,95,117,110,105,116,58,32,49,48,10] (fun y3 y4 y5 y6=>wqd8 R [] (fun y7 y8 y9 y10=>cond (((y5 == 0)&&(y6 == 0)) == true) (wqfa R y3 y4 [([115,104,111,112],[0])] [([117,115,101,114],([],(true,(0,((@Neg.neg Int @Int.instNegInt (1:Int)),(true,(([],(2,(10,(4605380978949069210,(false,false))))),[])))))))] (fun y11=>cond (y11 == true) (wq2c R y3 y4 (fun y12=>cond ((y12 == 0) == true) (wq2c R [] [] (fun y13=>cond ((cond (y13 == 1) ((y9 == 11)&&(y10 == 0)) false) == true) (wqat R y3 y4 [([115,104,111,112],[0])] [([117,115,101,114],([],(true,(0,((@Neg.neg Int @Int.instNegInt (1:Int)),(true,(([],(2,(10,(4605380978949069210,(false,false))))),[])))))))] (fun y14=>cond (y14 == true) (wqat R y3 y4 [] [] (fun y15=>K (!y15))) (K false))) (K false))) (K false))) (K false))) (K false)))
theorem wq16b(k:Nat)(wqbb:wqit)(wqfa:wqn4)(wq2c:wqa2)(wqd8:(R:Type)→(List dT72)→((List ((List UInt8)×(List Int)))→(List dT56)→Int→Int→Option R)→Option R)(wqat:wqkn)(R:Type): h_law17_awake.at (wqvd k wqbb wqfa wq2c wqd8 wqat) k Tryz.f10 R=@wqve k wqbb wqfa wq2c wqd8 wqat R:=by kernel_rfl
def wq91(k:Nat){R:Type}:= @wqve k (@wqgs k) (@wqkq k) (@wq6b k) (@wqh0 k) (@wqi9 k) R
theorem wq16c(k:Nat): DOK Tryz.prog 10 (h_law17_awake.run (@wq91 k)):=dok h_law17_awake (wqvd k (@wqgs k) (@wqkq k) (@wq6b k) (@wqh0 k) (@wqi9 k)) Tryz.f10 k (ok1 (wq13t k) (ok1 (wq18l k) (ok1 (wqrg k) (ok1 (fun _ _ _ _ _ h=>wq125 k (by unfold wqs2 at h;unfold wqi7;exact h)) (ok1 (wq16a k) ok0))))) (by kernel_rfl) (by kernel_rfl) fun R=>wq16b k (@wqgs k) (@wqkq k) (@wq6b k) (@wqh0 k) (@wqi9 k) R
def h_ref15_Secs:Sh:=⟨[.a kI],some ([],[.a kI]),none⟩
abbrev wqn5:Type 1:=(R:Type)→Int→(Int→Option R)→Option R
def wq18m(k:Nat): Cxt:=⟨[],[],[],[]⟩
def wqzw(k:Nat){R:Type}(x0:Int)(K:(Int→Option R)): Option R:=cond (x0 == 1) (K 1) (cond (x0 == 2) (K 60) (cond (x0 == 3) (K 3600) (cond (x0 == 4) (K 86400) (K 0))))
def wqf2:=@wqzw
theorem wq18n(k:Nat): DOK Tryz.prog 179 (h_ref15_Secs.run (@wqf2 k)):=dok h_ref15_Secs (wq18m k) Tryz.f179 k ok0 (by kernel_rfl) (by kernel_rfl) fun R=>by kernel_rfl
def h_ref1_Name:Sh:=⟨[.a .str],some ([],[.a .bool]),none⟩
abbrev wqqo:Type 1:=(R:Type)→(List UInt8)→(Bool→Option R)→Option R
def u_ref1_Name_1004:Cu:=⟨0,[0,3],[.a .str,.a kI]⟩
def wq128(k:Nat): Cxt:=⟨[],[],[(1004,u_ref1_Name_1004.spec)],[]⟩
def wqdy(k:Nat){R:Type}(E1004:((List UInt8)→Int→Option R))(s0:(List UInt8))(s1:Int)(K:(Bool→Option R)): Option R:=cond (decide (s1<(s0.length:Int))) (cond (inb s1 (s0.length:Int)) (cond ((!((decide (((s0.getD s1.toNat 0).toNat:Int)<33)) == false)) || (inb s1 (s0.length:Int))) (cond (cond (decide (((s0.getD s1.toNat 0).toNat:Int)<33)) true (decide (((s0.getD s1.toNat 0).toNat:Int)>126))) (K false) (E1004 s0 (@Go.IntKind.wrap Go.IntKind.i64 (s1+1)))) none) none) (K true)
def wqu6(k:Nat){R:Type}(E1004:((List UInt8)→Int→Option R))(x0:(List UInt8))(K:(Bool→Option R)): Option R:=cond (cond (decide ((x0.length:Int)<1)) true (decide ((x0.length:Int)>64))) (K false) (E1004 x0 0)
def wq7m(k:Nat){R:Type}: Nat→(List UInt8)→Int→(Bool→Option R)→Option R
 |0,_,_,_=>none
 |n+1,s0,s1,K=>wqdy k (fun s0 s1=>wq7m k n s0 s1 K) s0 s1 K
theorem wqs9(k:Nat){R:Type}: ∀(I:Nat→St→Option R) (n:Nat),h_ref1_Name.lp u_ref1_Name_1004 (wq128 k).cx k Tryz.f47 1004 [1,1,0,1,0] I n=wq7m k n:=h_ref1_Name.lok u_ref1_Name_1004 (B:=wqdy k) (L:=wq7m k) (fun I=>by kernel_rfl) (fun I=>by kernel_rfl) (fun n=>by kernel_rfl) (fun _ _ _ _=>rfl)
def wqa5(k:Nat){R:Type}(x0:(List UInt8))(K:(Bool→Option R)): Option R:=wqu6 k (fun s0 s1=>wq7m k k s0 s1 K) x0 K
theorem wqu7(k:Nat): DOK Tryz.prog 47 (h_ref1_Name.run (@wqa5 k)):=dok h_ref1_Name (wq128 k) Tryz.f47 k ok0 (by kernel_rfl) (by kernel_rfl) fun R=>h_ref1_Name.f1 u_ref1_Name_1004 (wqu6 k) (by kernel_rfl) (wqs9 k (fun _ _=>none) k) (by kernel_rfl)
def wq129(k:Nat): Ent:=h_ref1_Name.e 47 (@wqa5 k)
end Go.Proofs.YtabkhphoacmcdaaGreatDoor.Pvm
end
