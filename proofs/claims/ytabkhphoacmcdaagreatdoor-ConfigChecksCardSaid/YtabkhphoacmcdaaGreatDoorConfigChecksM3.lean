/- The Go function ConfigChecks answers true for every input: one check and the other find the same, and so do both comparisons. -/
import Derived.Test.YtabkhphoacmcdaaGreatDoorChecked
import Derived.WalkKit
import Derived.WalkSpells
import Derived.WalkLawsBesides
import Derived.Lib.Builder
import Derived.Lib.AppendStr
import Derived.Lib.UnsafeStr
import Derived.Laws.Externs
import Derived.Shelf.RegionOpenPlain
import Derived.Deep.Heap
import Derived.Lib.Bytealg
import Derived.Shelf.GgClosure.StringsIndexFuncTop
import Derived.Shelf.Strings.FuncGrows
import Derived.Test.YtabkhphoacmcdaaGreatDoorConfigChecksM0
import Derived.Test.YtabkhphoacmcdaaGreatDoorConfigChecksM1
import Derived.Test.YtabkhphoacmcdaaGreatDoorConfigChecksM2
set_option linter.unusedVariables false
set_option linter.unusedSimpArgs false
set_option linter.unusedSectionVars false
noncomputable section
set_option maxRecDepth 1000000
set_option maxHeartbeats 0
namespace Go.Proofs.YtabkhphoacmcdaaGreatDoor.Pvm
open Go Go.Proofs
def h_field_Seen_Bool:Sh:=⟨[.g [.s kdT72],.a kI],some ([],[.a .bool,.g [.a kI,.a kI]]),none⟩
def wqts(k:Nat): Cxt:=⟨[wq5h k,wqjm k],[],[],[(3,(.of [(1,1),(0,1),(2,0)] .done))]⟩
def wqtt(k:Nat){R:Type}(x0:(List dT72))(x1:Int)(K:(Bool→Int→Int→Option R)): Option R:=wq63 k x0 x1 14 (fun y5 y6 y7=>cond (y6 != 0) (K false y6 y7) (cond (cond (!(y5 == [(116:UInt8),114,117,101])) (!(y5 == [(102:UInt8),97,108,115,101])) false) (wq2s k x0 x1 14 (fun y8 y9=>K false y8 y9)) (K (y5 == [(116:UInt8),114,117,101]) 0 0)))
def wqev:=@wqtt
theorem wqtu(k:Nat): DOK Tryz.prog 241 (h_field_Seen_Bool.run (@wqev k)):=dok h_field_Seen_Bool (wqts k) Tryz.f241 k (ok1 (wq4j k) (ok1 (wqeu k) ok0)) (by kernel_rfl) (by kernel_rfl) fun R=>by kernel_rfl
def wqtv(k:Nat): Ent:=h_field_Seen_Bool.e 241 (@wqev k)
def h_slices_Index___string_string:Sh:=⟨[.s .str,.a .str],some ([],[.a kI]),none⟩
def u_slices_Index___string_string_1002:Cu:=⟨0,[0,1,7,8],[.s .str,.a .str,.a kI,.a kI]⟩
def wq8z(k:Nat): Cxt:=⟨[],[],[(1002,u_slices_Index___string_string_1002.spec)],[]⟩
def wq76(k:Nat){R:Type}(E1002:((List (List UInt8))→(List UInt8)→Int→Int→Option R))(s0:(List (List UInt8)))(s1:(List UInt8))(s2 s3:Int)(K:(Int→Option R)): Option R:=cond (decide (s3<s2)) (cond (inb s3 (s0.length:Int)) (cond (s1 == (s0.getD s3.toNat Kd.str.zero)) (K s3) (E1002 s0 s1 s2 (@Go.IntKind.wrap Go.IntKind.i64 (s3+1)))) none) (K (@Neg.neg Int @Int.instNegInt (1:Int)))
def wq90(k:Nat){R:Type}(E1002:((List (List UInt8))→(List UInt8)→Int→Int→Option R))(x0:(List (List UInt8)))(x1:(List UInt8))(K:(Int→Option R)): Option R:=E1002 x0 x1 (x0.length:Int) 0
def wq3f(k:Nat){R:Type}: Nat→(List (List UInt8))→(List UInt8)→Int→Int→(Int→Option R)→Option R
 |0,_,_,_,_,_=>none
 |n+1,s0,s1,s2,s3,K=>wq76 k (fun s0 s1 s2 s3=>wq3f k n s0 s1 s2 s3 K) s0 s1 s2 s3 K
theorem wqal(k:Nat){R:Type}: ∀(I:Nat→St→Option R) (n:Nat),h_slices_Index___string_string.lp u_slices_Index___string_string_1002 (wq8z k).cx k Tryz.f166 1002 [1,0,1,0] I n=wq3f k n:=h_slices_Index___string_string.lok u_slices_Index___string_string_1002 (B:=wq76 k) (L:=wq3f k) (fun I=>by kernel_rfl) (fun I=>by kernel_rfl) (fun n=>by kernel_rfl) (fun _ _ _ _=>rfl)
def wq3d(k:Nat){R:Type}(x0:(List (List UInt8)))(x1:(List UInt8))(K:(Int→Option R)): Option R:=wq90 k (fun s0 s1 s2 s3=>wq3f k k s0 s1 s2 s3 K) x0 x1 K
theorem wq64(k:Nat): DOK Tryz.prog 166 (h_slices_Index___string_string.run (@wq3d k)):=dok h_slices_Index___string_string (wq8z k) Tryz.f166 k ok0 (by kernel_rfl) (by kernel_rfl) fun R=>h_slices_Index___string_string.f1 u_slices_Index___string_string_1002 (wq90 k) (by kernel_rfl) (wqal k (fun _ _=>none) k) (by kernel_rfl)
def wq65(k:Nat): Ent:=h_slices_Index___string_string.e 166 (@wq3d k)
def h_field_Seen_Find:Sh:=⟨[.g [.s kdT72],.a kI,.a .str],some ([],[.a kI,.a .bool]),none⟩
abbrev wq35:Type 1:=(R:Type)→(List dT72)→Int→(List UInt8)→(Int→Bool→Option R)→Option R
def wqtw(k:Nat): Cxt:=⟨[wq65 k],[],[],[]⟩
def wqtx(k:Nat){R:Type}(x0:(List dT72))(x1:Int)(x2:(List UInt8))(K:(Int→Bool→Option R)): Option R:=cond (inb x1 (x0.length:Int)) (wq3d k (((((x0.getD x1.toNat kdT72.zero).2).2).2).2).1 x2 (fun y6=>cond (cond ((x0.getD x1.toNat kdT72.zero).1 != 3) true (decide (y6<0))) (K 0 false) (cond (inb y6 (((((((x0.getD x1.toNat kdT72.zero).2).2).2).2).2).length:Int)) (K (((((((x0.getD x1.toNat kdT72.zero).2).2).2).2).2).getD y6.toNat kI.zero) true) none))) none
def wq2c:=@wqtx
theorem wq7a(k:Nat): DOK Tryz.prog 123 (h_field_Seen_Find.run (@wq2c k)):=dok h_field_Seen_Find (wqtw k) Tryz.f123 k (ok1 (wq64 k) ok0) (by kernel_rfl) (by kernel_rfl) fun R=>by kernel_rfl
def wqb3(k:Nat): Ent:=h_field_Seen_Find.e 123 (@wq2c k)
def h_config_reader_bool:Sh:=⟨[.l kdT37,.a kI,.a .str],some ([],[.a .bool]),some ([],[.i 29 (.g [.a kI,.a kI])])⟩
abbrev wq2d:Type 1:=(R:Type)→dT37→Int→(List UInt8)→(Bool→Option R)→(Int→Int→Option R)→Option R
def wqo0(k:Nat): Cxt:=⟨[wqcl k,wqb3 k,wqtv k],[],[],[]⟩
def wqo1(k:Nat){R:Type}(x0:dT37)(x1:Int)(x2:(List UInt8))(K:(Bool→Option R))(E:(Int→Int→Option R)): Option R:=wq2c k x0 x1 x2 (fun y7 y8=>cond (!y8) (K false) (wqev k x0 y7 (fun y9 y10 y11=>wq1r k y10 y11 (fun y12=>K y9) E)))
def wq2w:=@wqo1
theorem wqg5(k:Nat): DOK Tryz.prog 207 (h_config_reader_bool.run (@wq2w k)):=dok h_config_reader_bool (wqo0 k) Tryz.f207 k (ok1 (wq6b k) (ok1 (wq7a k) (ok1 (wqtu k) ok0))) (by kernel_rfl) (by kernel_rfl) fun R=>by kernel_rfl
def h_config_reader_items:Sh:=⟨[.l kdT37,.a kI,.a .str],some ([],[.s kI]),some ([],[.i 29 (.g [.a kI,.a kI])])⟩
abbrev wq4l:Type 1:=(R:Type)→dT37→Int→(List UInt8)→((List Int)→Option R)→(Int→Int→Option R)→Option R
def wqml(k:Nat): Cxt:=⟨[wqcl k,wq8y k,wqb3 k],[],[],[]⟩
def wqmm(k:Nat){R:Type}(x0:dT37)(x1:Int)(x2:(List UInt8))(K:((List Int)→Option R))(E:(Int→Int→Option R)): Option R:=wq2c k x0 x1 x2 (fun y7 y8=>cond (!y8) (K []) (wq2t k x0 y7 2 (fun y9 y10=>wq1r k y9 y10 (fun y11=>cond (inb y7 (x0.length:Int)) (K (((((x0.getD y7.toNat kdT72.zero).2).2).2).2).2) none) E)))
def wq32:=@wqmm
theorem wqf6(k:Nat): DOK Tryz.prog 74 (h_config_reader_items.run (@wq32 k)):=dok h_config_reader_items (wqml k) Tryz.f74 k (ok1 (wq6b k) (ok1 (wq79 k) (ok1 (wq7a k) ok0))) (by kernel_rfl) (by kernel_rfl) fun R=>by kernel_rfl
def wqmn(k:Nat): Ent:=h_config_reader_items.e 74 (@wq32 k)
def h_config_reader_must:Sh:=⟨[.l kdT37,.a kI,.a .str],some ([],[.a kI]),some ([],[.i 29 (.g [.a kI,.a kI])])⟩
abbrev wqs:Type 1:=(R:Type)→dT37→Int→(List UInt8)→(Int→Option R)→(Int→Int→Option R)→Option R
def wqo2(k:Nat): Cxt:=⟨[wqmk k,wqb3 k],[],[],[]⟩
def wqo3(k:Nat){R:Type}(x0:dT37)(x1:Int)(x2:(List UInt8))(K:(Int→Option R))(E:(Int→Int→Option R)): Option R:=wq2c k x0 x1 x2 (fun y7 y8=>cond (!y8) (wqo k x0 x1 10 E) (K y7))
def wq11:=@wqo3
theorem wq8g(k:Nat): DOK Tryz.prog 73 (h_config_reader_must.run (@wq11 k)):=dok h_config_reader_must (wqo2 k) Tryz.f73 k (ok1 (wq67 k) (ok1 (wq7a k) ok0)) (by kernel_rfl) (by kernel_rfl) fun R=>by kernel_rfl
def h_field_Seen_Name:Sh:=⟨[.g [.s kdT72],.a kI],some ([],[.a .str,.g [.a kI,.a kI]]),none⟩
def wqty(k:Nat): Cxt:=⟨[wqr5 k,wq8y k,wq5h k],[],[],[(3,(.of [(1,1),(0,1),(2,0)] .done))]⟩
def wqtz(k:Nat){R:Type}(x0:(List dT72))(x1:Int)(K:((List UInt8)→Int→Int→Option R)): Option R:=wq2t k x0 x1 1 (fun y5 y6=>cond (y5 != 0) (K [] y5 y6) (cond (inb x1 (x0.length:Int)) (wq99 k (((x0.getD x1.toNat kdT72.zero).2).2).1 (fun y7=>cond y7 (K (((x0.getD x1.toNat kdT72.zero).2).2).1 0 0) (wq2s k x0 x1 12 (fun y8 y9=>K [] y8 y9)))) none))
def wqew:=@wqtz
theorem wqu0(k:Nat): DOK Tryz.prog 173 (h_field_Seen_Name.run (@wqew k)):=dok h_field_Seen_Name (wqty k) Tryz.f173 k (ok1 (wqlx k) (ok1 (wq79 k) (ok1 (wq4j k) ok0))) (by kernel_rfl) (by kernel_rfl) fun R=>by kernel_rfl
def wqu1(k:Nat): Ent:=h_field_Seen_Name.e 173 (@wqew k)
def h_config_reader_name:Sh:=⟨[.l kdT37,.a kI],some ([],[.a .str]),some ([],[.i 29 (.g [.a kI,.a kI])])⟩
abbrev wq1s:Type 1:=(R:Type)→dT37→Int→((List UInt8)→Option R)→(Int→Int→Option R)→Option R
def wqo4(k:Nat): Cxt:=⟨[wqcl k,wqu1 k],[],[],[]⟩
def wqo5(k:Nat){R:Type}(x0:dT37)(x1:Int)(K:((List UInt8)→Option R))(E:(Int→Int→Option R)): Option R:=wqew k x0 x1 (fun y6 y7 y8=>wq1r k y7 y8 (fun y9=>K y6) E)
def wq26:=@wqo5
theorem wqbl(k:Nat): DOK Tryz.prog 126 (h_config_reader_name.run (@wq26 k)):=dok h_config_reader_name (wqo4 k) Tryz.f126 k (ok1 (wq6b k) (ok1 (wqu0 k) ok0)) (by kernel_rfl) (by kernel_rfl) fun R=>by kernel_rfl
def h_field_Seen_Ratio:Sh:=⟨[.g [.s kdT72],.a kI],some ([],[.a .flt,.g [.a kI,.a kI]]),none⟩
def wqhl(k:Nat)(wqg:wq2o)(wq5m:wqcm)(wqt:wq3l)(wq7d:wqdo)(wqi:wq2x): Cxt:=⟨[h_ratio_Parse.e 71 wqg,h_field_Seen_fault.e 114 wq5m,h_math_IsNaN.e 134 wqt,h_field_Seen_bare.e 171 wq7d,h_math_Abs.e 172 wqi],[],[],[(3,(.of [(1,1),(0,1),(2,0)] .done))]⟩
def wqhm(k:Nat)(wqg:wq2o)(wq5m:wqcm)(wqt:wq3l)(wq7d:wqdo)(wqi:wq2x){R:Type}(x0:(List dT72))(x1:Int)(K:(Nat→Int→Int→Option R)): Option R:=wq7d R x0 x1 15 (fun y5 y6 y7=>cond (y6 != 0) (K 0 y6 y7) (wqg R y5 (fun y8 y9=>cond ((!y9) == false) (wqt R y8 (fun y10=>cond (cond (cond y10 true (@fltIs @Go.BinOp.lss y8 (0:Nat))) true (@fltIs @Go.BinOp.gtr y8 (4607182418800017408:Nat))) (wq5m R x0 x1 15 (fun y11 y12=>K 0 y11 y12)) (wqi R y8 (fun y11=>K y11 0 0)))) (wq5m R x0 x1 15 (fun y10 y11=>K 0 y10 y11)))))
theorem wqrk(k:Nat)(wqg:wq2o)(wq5m:wqcm)(wqt:wq3l)(wq7d:wqdo)(wqi:wq2x)(R:Type): h_field_Seen_Ratio.at (wqhl k wqg wq5m wqt wq7d wqi) k Tryz.f124 R=@wqhm k wqg wq5m wqt wq7d wqi R:=by kernel_rfl
def wqdp(k:Nat){R:Type}:= @wqhm k (@wq2i k) (@wq2s k) (@wqw k) (@wq63 k) (@wq25 k) R
theorem wqrl(k:Nat): DOK Tryz.prog 124 (h_field_Seen_Ratio.run (@wqdp k)):=dok h_field_Seen_Ratio (wqhl k (@wq2i k) (@wq2s k) (@wqw k) (@wq63 k) (@wq25 k)) Tryz.f124 k (ok1 (wqki k) (ok1 (wq4j k) (ok1 (wqfx k) (ok1 (wqeu k) (ok1 (wqkc k) ok0))))) (by kernel_rfl) (by kernel_rfl) fun R=>wqrk k (@wq2i k) (@wq2s k) (@wqw k) (@wq63 k) (@wq25 k) R
def wqrm(k:Nat): Ent:=h_field_Seen_Ratio.e 124 (@wqdp k)
def h_config_reader_ratio:Sh:=⟨[.l kdT37,.a kI,.a .str,.a .flt],some ([],[.a .flt]),some ([],[.i 29 (.g [.a kI,.a kI])])⟩
abbrev wq1l:Type 1:=(R:Type)→dT37→Int→(List UInt8)→Nat→(Nat→Option R)→(Int→Int→Option R)→Option R
def wqmo(k:Nat): Cxt:=⟨[wqcl k,wqb3 k,wqrm k],[],[],[]⟩
def wqmp(k:Nat){R:Type}(x0:dT37)(x1:Int)(x2:(List UInt8))(x3:Nat)(K:(Nat→Option R))(E:(Int→Int→Option R)): Option R:=wq2c k x0 x1 x2 (fun y8 y9=>cond (!y9) (K x3) (wqdp k x0 y8 (fun y10 y11 y12=>wq1r k y11 y12 (fun y13=>K y10) E)))
def wq22:=@wqmp
theorem wqf7(k:Nat): DOK Tryz.prog 72 (h_config_reader_ratio.run (@wq22 k)):=dok h_config_reader_ratio (wqmo k) Tryz.f72 k (ok1 (wq6b k) (ok1 (wq7a k) (ok1 (wqrl k) ok0))) (by kernel_rfl) (by kernel_rfl) fun R=>by kernel_rfl
def h_slices_Contains___string_string:Sh:=⟨[.s .str,.a .str],some ([],[.a .bool]),none⟩
def wqd5(k:Nat): Cxt:=⟨[wq65 k],[],[],[]⟩
def wqd6(k:Nat){R:Type}(x0:(List (List UInt8)))(x1:(List UInt8))(K:(Bool→Option R)): Option R:=wq3d k x0 x1 (fun y5=>K (decide (y5≥0)))
def wq3k:=@wqd6
theorem wq7y(k:Nat): DOK Tryz.prog 113 (h_slices_Contains___string_string.run (@wq3k k)):=dok h_slices_Contains___string_string (wqd5 k) Tryz.f113 k (ok1 (wq64 k) ok0) (by kernel_rfl) (by kernel_rfl) fun R=>by kernel_rfl
def wq7z(k:Nat): Ent:=h_slices_Contains___string_string.e 113 (@wq3k k)
def h_field_Seen_Known:Sh:=⟨[.g [.s kdT72],.a kI,.s .str],some ([],[.g [.a kI,.a kI]]),none⟩
abbrev wq12:Type 1:=(R:Type)→(List dT72)→Int→(List (List UInt8))→(Int→Int→Option R)→Option R
def u_field_Seen_Known_1006:Cu:=⟨0,[2,3,6,8,25,26,27],[.s .str,.o 13 77 0 [.s kdT72],.o 16 29 0 [.a kI,.a kI],.o 18 73 0 [.a kI,.a kI,.a .str,.a .bool,.s .str,.s kI],.s .str,.a kI,.a kI]⟩
def wqhn(k:Nat): Cxt:=⟨[wq8y k,wq7z k,wq5h k],[],[(1006,u_field_Seen_Known_1006.spec)],[(9,(.of [(1,1),(3,1),(0,1),(2,1),(4,1),(5,1),(6,0),(7,0)] .done))]⟩
def wqd8(k:Nat){R:Type}(E1006:((List (List UInt8))→(List dT72)→Int→Int→Int→Int→(List UInt8)→Bool→(List (List UInt8))→(List Int)→(List (List UInt8))→Int→Int→Option R))(s0:(List (List UInt8)))(s1:(List dT72))(s2 s3 s4 s5:Int)(s6:(List UInt8))(s7:Bool)(s8:(List (List UInt8)))(s9:(List Int))(s10:(List (List UInt8)))(s11 s12:Int)(K:(Int→Int→Option R)): Option R:=cond (decide (s12<s11)) (cond (inb s12 (s10.length:Int)) (wq3k k s0 (s10.getD s12.toNat Kd.str.zero) (fun y17=>cond (!y17) (cond (inb s12 (s9.length:Int)) (wq2s k s1 (s9.getD s12.toNat kI.zero) 5 K) none) (E1006 s0 s1 s2 s3 s4 s5 s6 s7 s8 s9 s10 s11 (@Go.IntKind.wrap Go.IntKind.i64 (s12+1))))) none) (K 0 0)
def wqho(k:Nat){R:Type}(E1006:((List (List UInt8))→(List dT72)→Int→Int→Int→Int→(List UInt8)→Bool→(List (List UInt8))→(List Int)→(List (List UInt8))→Int→Int→Option R))(x0:(List dT72))(x1:Int)(x2:(List (List UInt8)))(K:(Int→Int→Option R)): Option R:=wq2t k x0 x1 3 (fun y7 y8=>cond (y7 != 0) (K y7 y8) (cond (inb x1 (x0.length:Int)) (E1006 x2 x0 0 0 (x0.getD x1.toNat kdT72.zero).1 ((x0.getD x1.toNat kdT72.zero).2).1 (((x0.getD x1.toNat kdT72.zero).2).2).1 ((((x0.getD x1.toNat kdT72.zero).2).2).2).1 (((((x0.getD x1.toNat kdT72.zero).2).2).2).2).1 (((((x0.getD x1.toNat kdT72.zero).2).2).2).2).2 (((((x0.getD x1.toNat kdT72.zero).2).2).2).2).1 (((((((x0.getD x1.toNat kdT72.zero).2).2).2).2).1).length:Int) 0) none))
def wq72(k:Nat){R:Type}: Nat→(List (List UInt8))→(List dT72)→Int→Int→Int→Int→(List UInt8)→Bool→(List (List UInt8))→(List Int)→(List (List UInt8))→Int→Int→(Int→Int→Option R)→Option R
 |0,_,_,_,_,_,_,_,_,_,_,_,_,_,_=>none
 |n+1,s0,s1,s2,s3,s4,s5,s6,s7,s8,s9,s10,s11,s12,K=>wqd8 k (fun s0 s1 s2 s3 s4 s5 s6 s7 s8 s9 s10 s11 s12=>wq72 k n s0 s1 s2 s3 s4 s5 s6 s7 s8 s9 s10 s11 s12 K) s0 s1 s2 s3 s4 s5 s6 s7 s8 s9 s10 s11 s12 K
theorem wqh6(k:Nat){R:Type}: ∀(I:Nat→St→Option R) (n:Nat),h_field_Seen_Known.lp u_field_Seen_Known_1006 (wqhn k).cx k Tryz.f70 1006 [1,1,1,0,1,0] I n=wq72 k n:=h_field_Seen_Known.lok u_field_Seen_Known_1006 (B:=wqd8 k) (L:=wq72 k) (fun I=>by kernel_rfl) (fun I=>by kernel_rfl) (fun n=>by kernel_rfl) (fun _ _ _ _=>rfl)
def wq1g(k:Nat){R:Type}(x0:(List dT72))(x1:Int)(x2:(List (List UInt8)))(K:(Int→Int→Option R)): Option R:=wqho k (fun s0 s1 s2 s3 s4 s5 s6 s7 s8 s9 s10 s11 s12=>wq72 k k s0 s1 s2 s3 s4 s5 s6 s7 s8 s9 s10 s11 s12 K) x0 x1 x2 K
theorem wqa5(k:Nat): DOK Tryz.prog 70 (h_field_Seen_Known.run (@wq1g k)):=dok h_field_Seen_Known (wqhn k) Tryz.f70 k (ok1 (wq79 k) (ok1 (wq7y k) (ok1 (wq4j k) ok0))) (by kernel_rfl) (by kernel_rfl) fun R=>h_field_Seen_Known.f1 u_field_Seen_Known_1006 (wqho k) (by kernel_rfl) (wqh6 k (fun _ _=>none) k) (by kernel_rfl)
def h_num_Add:Sh:=⟨[.a kI,.a kI],some ([],[.a kI]),none⟩
def wq1d8(k:Nat): Cxt:=⟨[wqw7 k],[],[],[]⟩
def wq1d9(k:Nat){R:Type}(x0 x1:Int)(K:(Int→Option R)): Option R:=wqcf k x0 (fun y5=>wqcf k x1 (fun y6=>cond (decide (y5>(@Go.IntKind.wrap Go.IntKind.i64 ((4611686018427387904:Int)-y6)))) (K 4611686018427387904) (K (@Go.IntKind.wrap Go.IntKind.i64 (y5+y6)))))
def wq117:=@wq1d9
theorem wq1da(k:Nat): DOK Tryz.prog 264 (h_num_Add.run (@wq117 k)):=dok h_num_Add (wq1d8 k) Tryz.f264 k (ok1 (wqw6 k) ok0) (by kernel_rfl) (by kernel_rfl) fun R=>by kernel_rfl
def wq1db(k:Nat): Ent:=h_num_Add.e 264 (@wq117 k)
def h_num_Mul:Sh:=⟨[.a kI,.a kI],some ([],[.a kI]),none⟩
def wq1dc(k:Nat): Cxt:=⟨[wqw7 k],[],[],[]⟩
def wq1dd(k:Nat){R:Type}(x0 x1:Int)(K:(Int→Option R)): Option R:=wqcf k x0 (fun y5=>wqcf k x1 (fun y6=>cond ((!((decide (y6>0)) == true)) || (y6 != 0)) (cond (cond (decide (y6>0)) (decide (y5>(@Go.IntKind.wrap Go.IntKind.i64 (Int.tdiv 4611686018427387904 y6)))) false) (K 4611686018427387904) (K (@Go.IntKind.wrap Go.IntKind.i64 (y5*y6)))) none))
def wq118:=@wq1dd
theorem wq1de(k:Nat): DOK Tryz.prog 265 (h_num_Mul.run (@wq118 k)):=dok h_num_Mul (wq1dc k) Tryz.f265 k (ok1 (wqw6 k) ok0) (by kernel_rfl) (by kernel_rfl) fun R=>by kernel_rfl
def wq1df(k:Nat): Ent:=h_num_Mul.e 265 (@wq118 k)
def h_num_Parse:Sh:=⟨[.a .str],some ([],[.a kI,.a .bool]),none⟩
def u_num_Parse_1003:Cu:=⟨0,[0,4,8],[.a .str,.a kI,.t 78]⟩
def wqzq(k:Nat): Cxt:=⟨[wqw9 k,wq1db k,wq1df k],[],[(1003,u_num_Parse_1003.spec)],[]⟩
def wqkq(k:Nat){R:Type}(E1003:((List UInt8)→Int→(List UInt8)→Int→Option R))(s0:(List UInt8))(s1:Int)(s2:(List UInt8))(s3:Int)(K:(Int→Bool→Option R)): Option R:=cond (decide (s3<(s2.length:Int))) (cond (decide (s3<(s2.length:Int))) (cond (cond (decide ((nxtC s2 s3)<48)) true (decide ((nxtC s2 s3)>57))) (K 0 false) (wq118 k s1 10 (fun y8=>wq117 k y8 (@Go.IntKind.wrap Go.IntKind.i64 (@Go.IntKind.wrap Go.IntKind.i32 ((nxtC s2 s3)-48))) (fun y9=>E1003 s0 y9 s2 (nxtP s2 s3))))) none) (wq3m k s1 (fun y8=>cond (!(y8 == s0)) (K 0 false) (K s1 true)))
def wqzr(k:Nat){R:Type}(E1003:((List UInt8)→Int→(List UInt8)→Int→Option R))(x0:(List UInt8))(K:(Int→Bool→Option R)): Option R:=E1003 x0 0 x0 0
def wqcn(k:Nat){R:Type}: Nat→(List UInt8)→Int→(List UInt8)→Int→(Int→Bool→Option R)→Option R
 |0,_,_,_,_,_=>none
 |n+1,s0,s1,s2,s3,K=>wqkq k (fun s0 s1 s2 s3=>wqcn k n s0 s1 s2 s3 K) s0 s1 s2 s3 K
theorem wqpn(k:Nat){R:Type}: ∀(I:Nat→St→Option R) (n:Nat),h_num_Parse.lp u_num_Parse_1003 (wqzq k).cx k Tryz.f260 1003 [1,1,0,1,0] I n=wqcn k n:=h_num_Parse.lok u_num_Parse_1003 (B:=wqkq k) (L:=wqcn k) (fun I=>by kernel_rfl) (fun I=>by kernel_rfl) (fun n=>by kernel_rfl) (fun _ _ _ _=>rfl)
def wqrn(k:Nat){R:Type}(x0:(List UInt8))(K:(Int→Bool→Option R)): Option R:=wqzr k (fun s0 s1 s2 s3=>wqcn k k s0 s1 s2 s3 K) x0 K
theorem wq18u(k:Nat): DOK Tryz.prog 260 (h_num_Parse.run (@wqrn k)):=dok h_num_Parse (wqzq k) Tryz.f260 k (ok1 (wqid k) (ok1 (wq1da k) (ok1 (wq1de k) ok0))) (by kernel_rfl) (by kernel_rfl) fun R=>h_num_Parse.f1 u_num_Parse_1003 (wqzr k) (by kernel_rfl) (wqpn k (fun _ _=>none) k) (by kernel_rfl)
def wq18v(k:Nat): Ent:=h_num_Parse.e 260 (@wqrn k)
def h_field_Seen_Number:Sh:=⟨[.g [.s kdT72],.a kI,.a kI,.a kI],some ([],[.a kI,.g [.a kI,.a kI]]),none⟩
abbrev wq3n:Type 1:=(R:Type)→(List dT72)→Int→Int→Int→(Int→Int→Int→Option R)→Option R
def wqpo(k:Nat): Cxt:=⟨[wq5h k,wqjm k,wq18v k],[],[],[(3,(.of [(1,1),(0,1),(2,0)] .done))]⟩
def wqpp(k:Nat){R:Type}(x0:(List dT72))(x1 x2 x3:Int)(K:(Int→Int→Int→Option R)): Option R:=wq63 k x0 x1 13 (fun y7 y8 y9=>cond (y8 != 0) (K 0 y8 y9) (wqrn k y7 (fun y10 y11=>cond (cond (cond (!y11) true (decide (y10<x2))) true (decide (y10>x3))) (wq2s k x0 x1 13 (fun y12 y13=>K 0 y12 y13)) (K y10 0 0))))
def wq4y:=@wqpp
theorem wqpq(k:Nat): DOK Tryz.prog 240 (h_field_Seen_Number.run (@wq4y k)):=dok h_field_Seen_Number (wqpo k) Tryz.f240 k (ok1 (wq4j k) (ok1 (wqeu k) (ok1 (wq18u k) ok0))) (by kernel_rfl) (by kernel_rfl) fun R=>by kernel_rfl
def h_unit_names:Sh:=⟨[],some ([],[.s .str]),none⟩
def wq15n(k:Nat): Cxt:=⟨[],[],[],[]⟩
def wq15o(k:Nat){R:Type}(K:((List (List UInt8))→Option R)): Option R:=K [[],[115,101,99,111,110,100],[109,105,110,117,116,101],[104,111,117,114],[100,97,121]]
def wqo6:=@wq15o
theorem wq15p(k:Nat): DOK Tryz.prog 259 (h_unit_names.run (@wqo6 k)):=dok h_unit_names (wq15n k) Tryz.f259 k ok0 (by kernel_rfl) (by kernel_rfl) fun R=>by kernel_rfl
def wq15q(k:Nat): Ent:=h_unit_names.e 259 (@wqo6 k)
def h_unit_Of:Sh:=⟨[.a .str],some ([],[.a kI]),none⟩
abbrev wqej:Type 1:=(R:Type)→(List UInt8)→(Int→Option R)→Option R
def wq1dg(k:Nat): Cxt:=⟨[wq65 k,wq15q k],[],[],[]⟩
def wq1dh(k:Nat){R:Type}(x0:(List UInt8))(K:(Int→Option R)): Option R:=wqo6 k (fun y4=>wq3d k y4 x0 (fun y5=>K (cond true (@ite (@Kd.T kI) ((0:Int)>y5) (@Int.decLt y5 (0:Int)) (0:Int) y5) (@ite (@Kd.T kI) ((0:Int)<y5) (@Int.decLt (0:Int) y5) (0:Int) y5))))
def wqij:=@wq1dh
theorem wq1di(k:Nat): DOK Tryz.prog 239 (h_unit_Of.run (@wqij k)):=dok h_unit_Of (wq1dg k) Tryz.f239 k (ok1 (wq64 k) (ok1 (wq15p k) ok0)) (by kernel_rfl) (by kernel_rfl) fun R=>by kernel_rfl
def h_config_reader_rule:Sh:=⟨[.o 1 79 0 [.s kdT72,.w 21 64 (.pr .str (.sl kI)),.w 51 57 kdT56,.a .flt],.a kI],some ([.o 1 79 0 [.s kdT72,.w 21 64 (.pr .str (.sl kI)),.w 51 57 kdT56,.a .flt]],[.g [.a .str,.a kI,.a kI,.a .flt,.a .bool,.a .bool]]),some ([.o 1 79 0 [.s kdT72,.w 21 64 (.pr .str (.sl kI)),.w 51 57 kdT56,.a .flt]],[.i 29 (.g [.a kI,.a kI])])⟩
abbrev wqam:Type 1:=(R:Type)→(List dT72)→(List ((List UInt8)×(List Int)))→(List dT56)→Nat→Int→((List dT72)→(List ((List UInt8)×(List Int)))→(List dT56)→Nat→(List UInt8)→Int→Int→Nat→Bool→Bool→Option R)→((List dT72)→(List ((List UInt8)×(List Int)))→(List dT56)→Nat→Int→Int→Option R)→Option R
def u_config_reader_rule_1005:Cu:=⟨1,[0,1,4,28,29,30],[.o 1 79 0 [.s kdT72,.w 21 64 (.pr .str (.sl kI)),.w 51 57 kdT56,.a .flt],.r 1 0,.a kI,.o 14 55 0 [.a .str,.a kI,.a kI,.a .flt,.a .bool,.a .bool],.s .str,.a kI,.a kI]⟩
def wq8h(k:Nat)(wq7:wq24)(wq3:wq12)(wq4:wq1l)(wq1:wqs)(wq0:wqn)(wq1e:wq4k)(wqh:wq35)(wq6:wq1s)(wqd:wq2d)(wq5p:wqej)(wqv:wq3n): Cxt:=⟨[h_config_gives.e 69 wq7,h_field_Seen_Known.e 70 wq3,h_config_reader_ratio.e 72 wq4,h_config_reader_must.e 73 wq1,h_config_reader_fault.e 75 wq0,h_field_Seen_Need.e 112 wq1e,h_field_Seen_Find.e 123 wqh,h_config_reader_name.e 126 wq6,h_config_reader_bool.e 207 wqd,h_unit_Of.e 239 wq5p,h_field_Seen_Number.e 240 wqv],[1],[(1005,u_config_reader_rule_1005.spec)],[(16,(.of [(0,1),(1,1),(2,1),(4,1),(5,1),(3,2)] (.alt 6 (.alt 7 (.of [(8,1),(9,1),(10,1),(11,0),(12,1),(13,0)] .done) (.op 11 0 (.of [(7,0),(8,1),(9,1),(10,1),(12,1),(13,0)] .done))) (.op 11 0 (.of [(6,0),(7,0),(8,1),(9,1),(10,1),(12,1),(13,0)] .done)))))]⟩
def wqc2(k:Nat)(wq7:wq24)(wq3:wq12)(wq4:wq1l)(wq1:wqs)(wq0:wqn)(wq1e:wq4k)(wqh:wq35)(wq6:wq1s)(wqd:wq2d)(wq5p:wqej)(wqv:wq3n){R:Type}(E1005:((List dT72)→(List ((List UInt8)×(List Int)))→(List dT56)→Nat→Int→(List UInt8)→Int→Int→Nat→Bool→Bool→(List (List UInt8))→Int→Int→Option R))(s0:(List dT72))(s1:(List ((List UInt8)×(List Int))))(s2:(List dT56))(s3:Nat)(s4:Int)(s5:(List UInt8))(s6 s7:Int)(s8:Nat)(s9 s10:Bool)(s11:(List (List UInt8)))(s12 s13:Int)(K:((List dT72)→(List ((List UInt8)×(List Int)))→(List dT56)→Nat→(List UInt8)→Int→Int→Nat→Bool→Bool→Option R))(E:((List dT72)→(List ((List UInt8)×(List Int)))→(List dT56)→Nat→Int→Int→Option R)): Option R:=cond (decide (s13<s12)) (cond (inb s13 (s11.length:Int)) (wqh R s0 s4 (s11.getD s13.toNat Kd.str.zero) (fun y19 y20=>cond y20 (wq0 R s0 s4 17 (fun y21 y22=>E s0 s1 s2 s3 y21 y22)) (E1005 s0 s1 s2 s3 s4 s5 s6 s7 s8 s9 s10 s11 s12 (@Go.IntKind.wrap Go.IntKind.i64 (s13+1))))) none) (wqh R s0 s4 [110,97,109,101] (fun y19 y20=>cond y20 (wq6 R s0 y19 (fun y21=>K s0 s1 s2 s3 y21 s6 s7 s8 s9 s10) (fun y21 y22=>E s0 s1 s2 s3 y21 y22)) (K s0 s1 s2 s3 s5 s6 s7 s8 s9 s10)))
def wqan(k:Nat)(wq7:wq24)(wq3:wq12)(wq4:wq1l)(wq1:wqs)(wq0:wqn)(wq1e:wq4k)(wqh:wq35)(wq6:wq1s)(wqd:wq2d)(wq5p:wqej)(wqv:wq3n){R:Type}(E1005:((List dT72)→(List ((List UInt8)×(List Int)))→(List dT56)→Nat→Int→(List UInt8)→Int→Int→Nat→Bool→Bool→(List (List UInt8))→Int→Int→Option R))(x0:(List dT72))(x1:(List ((List UInt8)×(List Int))))(x2:(List dT56))(x3:Nat)(x4:Int)(K:((List dT72)→(List ((List UInt8)×(List Int)))→(List dT56)→Nat→(List UInt8)→Int→Int→Nat→Bool→Bool→Option R))(E:((List dT72)→(List ((List UInt8)×(List Int)))→(List dT56)→Nat→Int→Int→Option R)): Option R:=wq3 R x0 x4 [[117,110,108,105,109,105,116,101,100],[117,110,105,116],[114,101,113,117,101,115,116,115,95,112,101,114,95,117,110,105,116],[110,101,97,114],[110,97,109,101]] (fun y10 y11=>wq7 R y10 y11 (fun y12=>wqd R x0 x4 [117,110,108,105,109,105,116,101,100] (fun y13=>cond y13 (E1005 x0 x1 x2 x3 x4 [] 0 0 0 false y13 [[117,110,105,116],[114,101,113,117,101,115,116,115,95,112,101,114,95,117,110,105,116],[110,101,97,114]] (@List.length (@Kd.T Kd.str) [[(117:UInt8),110,105,116],[(114:UInt8),101,113,117,101,115,116,115,95,112,101,114,95,117,110,105,116],[(110:UInt8),101,97,114]]:Int) 0) (wq1 R x0 x4 [117,110,105,116] (fun y14=>wq1e R x0 y14 1 (fun y15 y16=>wq7 R y15 y16 (fun y17=>cond (inb y14 (x0.length:Int)) (wq5p R (((x0.getD y14.toNat kdT72.zero).2).2).1 (fun y18=>cond (y18 == 0) (wq0 R x0 y14 16 (fun y19 y20=>E x0 x1 x2 x3 y19 y20)) (both (wq1 R x0 x4 [114,101,113,117,101,115,116,115,95,112,101,114,95,117,110,105,116] (fun y19=>dupT (@Shp.b @Shp.o @Shp.o) (wqv R x0 y19 0 4294967295 (fun y20 y21 y22=>wq7 R y21 y22 (fun y23=>wq4 R x0 x4 [110,101,97,114] x3 (fun y24=>wqh R x0 x4 [110,97,109,101] (fun y25 y26=>cond y26 (wq6 R x0 y25 (fun y27=>K x0 x1 x2 x3 y27 y18 y20 y24 false y13) (fun y27 y28=>E x0 x1 x2 x3 y27 y28)) (K x0 x1 x2 x3 [] y18 y20 y24 false y13))) (fun y24 y25=>E x0 x1 x2 x3 y24 y25)) (fun y23 y24=>E x0 x1 x2 x3 y23 y24)))) (fun y19 y20=>E x0 x1 x2 x3 y19 y20)) (wq1 R x0 x4 [114,101,113,117,101,115,116,115,95,112,101,114,95,117,110,105,116] (fun y19=>wqv R x0 y19 0 4294967295 (fun y20 y21 y22=>wq7 R y21 y22 (fun y23=>wq4 R x0 x4 [110,101,97,114] x3 (fun y24=>wqh R x0 x4 [110,97,109,101] (fun y25 y26=>cond y26 (wq6 R x0 y25 (fun y27=>K x0 x1 x2 x3 y27 y18 y20 y24 false y13) (fun y27 y28=>E x0 x1 x2 x3 y27 y28)) (K x0 x1 x2 x3 [] y18 y20 y24 false y13))) (fun y24 y25=>E x0 x1 x2 x3 y24 y25)) (fun y23 y24=>E x0 x1 x2 x3 y23 y24))) (fun y19 y20=>E x0 x1 x2 x3 y19 y20))))) none) (fun y17 y18=>E x0 x1 x2 x3 y17 y18))) (fun y14 y15=>E x0 x1 x2 x3 y14 y15))) (fun y13 y14=>E x0 x1 x2 x3 y13 y14)) (fun y12 y13=>E x0 x1 x2 x3 y12 y13))
def wq8i(k:Nat)(wq7:wq24)(wq3:wq12)(wq4:wq1l)(wq1:wqs)(wq0:wqn)(wq1e:wq4k)(wqh:wq35)(wq6:wq1s)(wqd:wq2d)(wq5p:wqej)(wqv:wq3n){R:Type}(E1005:((List dT72)→(List ((List UInt8)×(List Int)))→(List dT56)→Nat→Int→(List UInt8)→Int→Int→Nat→Bool→Bool→(List (List UInt8))→Int→Int→Option R))(x0:(List dT72))(x1:(List ((List UInt8)×(List Int))))(x2:(List dT56))(x3:Nat)(x4:Int)(K:((List dT72)→(List ((List UInt8)×(List Int)))→(List dT56)→Nat→(List UInt8)→Int→Int→Nat→Bool→Bool→Option R))(E:((List dT72)→(List ((List UInt8)×(List Int)))→(List dT56)→Nat→Int→Int→Option R)): Option R:=wq3 R x0 x4 [[117,110,108,105,109,105,116,101,100],[117,110,105,116],[114,101,113,117,101,115,116,115,95,112,101,114,95,117,110,105,116],[110,101,97,114],[110,97,109,101]] (fun y10 y11=>wq7 R y10 y11 (fun y12=>wqd R x0 x4 [117,110,108,105,109,105,116,101,100] (fun y13=>cond y13 (E1005 x0 x1 x2 x3 x4 [] 0 0 0 false y13 [[117,110,105,116],[114,101,113,117,101,115,116,115,95,112,101,114,95,117,110,105,116],[110,101,97,114]] (@List.length (@Kd.T Kd.str) [[(117:UInt8),110,105,116],[(114:UInt8),101,113,117,101,115,116,115,95,112,101,114,95,117,110,105,116],[(110:UInt8),101,97,114]]:Int) 0) (wq1 R x0 x4 [117,110,105,116] (fun y14=>wq1e R x0 y14 1 (fun y15 y16=>wq7 R y15 y16 (fun y17=>cond (inb y14 (x0.length:Int)) (wq5p R (((x0.getD y14.toNat kdT72.zero).2).2).1 (fun y18=>cond (y18 == 0) (wq0 R x0 y14 16 (fun y19 y20=>E x0 x1 x2 x3 y19 y20)) (wq1 R x0 x4 [114,101,113,117,101,115,116,115,95,112,101,114,95,117,110,105,116] (fun y19=>wqv R x0 y19 0 4294967295 (fun y20 y21 y22=>wq7 R y21 y22 (fun y23=>wq4 R x0 x4 [110,101,97,114] x3 (fun y24=>wqh R x0 x4 [110,97,109,101] (fun y25 y26=>cond y26 (wq6 R x0 y25 (fun y27=>K x0 x1 x2 x3 y27 y18 y20 y24 false y13) (fun y27 y28=>E x0 x1 x2 x3 y27 y28)) (K x0 x1 x2 x3 [] y18 y20 y24 false y13))) (fun y24 y25=>E x0 x1 x2 x3 y24 y25)) (fun y23 y24=>E x0 x1 x2 x3 y23 y24))) (fun y19 y20=>E x0 x1 x2 x3 y19 y20)))) none) (fun y17 y18=>E x0 x1 x2 x3 y17 y18))) (fun y14 y15=>E x0 x1 x2 x3 y14 y15))) (fun y13 y14=>E x0 x1 x2 x3 y13 y14)) (fun y12 y13=>E x0 x1 x2 x3 y12 y13))
theorem wqik(k:Nat)(wq7:wq24)(wq3:wq12)(wq4:wq1l)(wq1:wqs)(wq0:wqn)(wq1e:wq4k)(wqh:wq35)(wq6:wq1s)(wqd:wq2d)(wq5p:wqej)(wqv:wq3n){R:Type}: @wqan k wq7 wq3 wq4 wq1 wq0 wq1e wqh wq6 wqd wq5p wqv R=@wq8i k wq7 wq3 wq4 wq1 wq0 wq1e wqh wq6 wqd wq5p wqv R:=by funext E1005 x0 x1 x2 x3 x4 K E;unfold wqan wq8i;simp only[wq12u,show ∀(R:Type) (a:Option R),both a a=a from fun R a=>by unfold both;exact if_pos rfl]
def wq4m(k:Nat)(wq7:wq24)(wq3:wq12)(wq4:wq1l)(wq1:wqs)(wq0:wqn)(wq1e:wq4k)(wqh:wq35)(wq6:wq1s)(wqd:wq2d)(wq5p:wqej)(wqv:wq3n){R:Type}: Nat→(List dT72)→(List ((List UInt8)×(List Int)))→(List dT56)→Nat→Int→(List UInt8)→Int→Int→Nat→Bool→Bool→(List (List UInt8))→Int→Int→((List dT72)→(List ((List UInt8)×(List Int)))→(List dT56)→Nat→(List UInt8)→Int→Int→Nat→Bool→Bool→Option R)→((List dT72)→(List ((List UInt8)×(List Int)))→(List dT56)→Nat→Int→Int→Option R)→Option R
 |0,_,_,_,_,_,_,_,_,_,_,_,_,_,_,_,_=>none
 |n+1,s0,s1,s2,s3,s4,s5,s6,s7,s8,s9,s10,s11,s12,s13,K,E=>wqc2 k wq7 wq3 wq4 wq1 wq0 wq1e wqh wq6 wqd wq5p wqv (fun s0 s1 s2 s3 s4 s5 s6 s7 s8 s9 s10 s11 s12 s13=>wq4m k wq7 wq3 wq4 wq1 wq0 wq1e wqh wq6 wqd wq5p wqv n s0 s1 s2 s3 s4 s5 s6 s7 s8 s9 s10 s11 s12 s13 K E) s0 s1 s2 s3 s4 s5 s6 s7 s8 s9 s10 s11 s12 s13 K E
theorem wqg6(k:Nat)(wq7:wq24)(wq3:wq12)(wq4:wq1l)(wq1:wqs)(wq0:wqn)(wq1e:wq4k)(wqh:wq35)(wq6:wq1s)(wqd:wq2d)(wq5p:wqej)(wqv:wq3n){R:Type}: ∀(I:Nat→St→Option R) (n:Nat),h_config_reader_rule.lp u_config_reader_rule_1005 (wq8h k wq7 wq3 wq4 wq1 wq0 wq1e wqh wq6 wqd wq5p wqv).cx k Tryz.f206 1005 [1,1,0,1,1,0,1,0] I n=wq4m k wq7 wq3 wq4 wq1 wq0 wq1e wqh wq6 wqd wq5p wqv n:=h_config_reader_rule.lok u_config_reader_rule_1005 (B:=wqc2 k wq7 wq3 wq4 wq1 wq0 wq1e wqh wq6 wqd wq5p wqv) (L:=wq4m k wq7 wq3 wq4 wq1 wq0 wq1e wqh wq6 wqd wq5p wqv) (fun I=>by kernel_rfl) (fun I=>by kernel_rfl) (fun n=>by kernel_rfl) (fun _ _ _ _=>rfl)
theorem wqo7(k:Nat)(wq7:wq24)(wq3:wq12)(wq4:wq1l)(wq1:wqs)(wq0:wqn)(wq1e:wq4k)(wqh:wq35)(wq6:wq1s)(wqd:wq2d)(wq5p:wqej)(wqv:wq3n)(R:Type): h_config_reader_rule.at (wq8h k wq7 wq3 wq4 wq1 wq0 wq1e wqh wq6 wqd wq5p wqv) k Tryz.f206 R=h_config_reader_rule.glue (l:=h_config_reader_rule.ps) (u:=u_config_reader_rule_1005.fs) (fun E1005=>@wqan k wq7 wq3 wq4 wq1 wq0 wq1e wqh wq6 wqd wq5p wqv R E1005) (h_config_reader_rule.lp u_config_reader_rule_1005 (wq8h k wq7 wq3 wq4 wq1 wq0 wq1e wqh wq6 wqd wq5p wqv).cx k Tryz.f206 1005 [1,1,0,1,1,0,1,0] (fun _ _=>none) k):=by kernel_rfl
def wq8j(k:Nat){R:Type}(x0:(List dT72))(x1:(List ((List UInt8)×(List Int))))(x2:(List dT56))(x3:Nat)(x4:Int)(K:((List dT72)→(List ((List UInt8)×(List Int)))→(List dT56)→Nat→(List UInt8)→Int→Int→Nat→Bool→Bool→Option R))(E:((List dT72)→(List ((List UInt8)×(List Int)))→(List dT56)→Nat→Int→Int→Option R)): Option R:=wq8i k (@wq1r k) (@wq1g k) (@wq22 k) (@wq11 k) (@wqo k) (@wq2t k) (@wq2c k) (@wq26 k) (@wq2w k) (@wqij k) (@wq4y k) (fun s0 s1 s2 s3 s4 s5 s6 s7 s8 s9 s10 s11 s12 s13=>wq4m k (@wq1r k) (@wq1g k) (@wq22 k) (@wq11 k) (@wqo k) (@wq2t k) (@wq2c k) (@wq26 k) (@wq2w k) (@wqij k) (@wq4y k) k s0 s1 s2 s3 s4 s5 s6 s7 s8 s9 s10 s11 s12 s13 K E) x0 x1 x2 x3 x4 K E
theorem wqo8(k:Nat): DOK Tryz.prog 206 (h_config_reader_rule.run (@wq8j k)):=dok h_config_reader_rule (wq8h k (@wq1r k) (@wq1g k) (@wq22 k) (@wq11 k) (@wqo k) (@wq2t k) (@wq2c k) (@wq26 k) (@wq2w k) (@wqij k) (@wq4y k)) Tryz.f206 k (ok1 (wq6b k) (ok1 (wqa5 k) (ok1 (wqf7 k) (ok1 (wq8g k) (ok1 (wq67 k) (ok1 (wq79 k) (ok1 (wq7a k) (ok1 (wqbl k) (ok1 (wqg5 k) (ok1 (wq1di k) (ok1 (wqpq k) ok0))))))))))) (by kernel_rfl) (by kernel_rfl) fun R=>(wqo7 k (@wq1r k) (@wq1g k) (@wq22 k) (@wq11 k) (@wqo k) (@wq2t k) (@wq2c k) (@wq26 k) (@wq2w k) (@wqij k) (@wq4y k) R).trans ((show _=h_config_reader_rule.glue (l:=h_config_reader_rule.ps) (u:=u_config_reader_rule_1005.fs) (fun E1005=>@wq8i k (@wq1r k) (@wq1g k) (@wq22 k) (@wq11 k) (@wqo k) (@wq2t k) (@wq2c k) (@wq26 k) (@wq2w k) (@wqij k) (@wq4y k) R E1005) (wq4m k (@wq1r k) (@wq1g k) (@wq22 k) (@wq11 k) (@wqo k) (@wq2t k) (@wq2c k) (@wq26 k) (@wq2w k) (@wqij k) (@wq4y k) k) by simp only[wqg6,wqik]).trans (by kernel_rfl))
def h_field_Seen_Word:Sh:=⟨[.g [.s kdT72],.a kI],some ([],[.a .str,.g [.a kI,.a kI]]),none⟩
abbrev wqdq:Type 1:=(R:Type)→(List dT72)→Int→((List UInt8)→Int→Int→Option R)→Option R
def wqu2(k:Nat): Cxt:=⟨[wq8y k,wq5h k],[],[],[(3,(.of [(1,1),(0,1),(2,0)] .done))]⟩
def wqu3(k:Nat){R:Type}(x0:(List dT72))(x1:Int)(K:((List UInt8)→Int→Int→Option R)): Option R:=wq2t k x0 x1 1 (fun y5 y6=>cond (y5 != 0) (K [] y5 y6) (cond (inb x1 (x0.length:Int)) (cond (decide ((((((x0.getD x1.toNat kdT72.zero).2).2).1).length:Int)≤128)) (K (((x0.getD x1.toNat kdT72.zero).2).2).1 0 0) (wq2s k x0 x1 12 (fun y7 y8=>K [] y7 y8))) none))
def wqb4:=@wqu3
theorem wqu4(k:Nat): DOK Tryz.prog 204 (h_field_Seen_Word.run (@wqb4 k)):=dok h_field_Seen_Word (wqu2 k) Tryz.f204 k (ok1 (wq79 k) (ok1 (wq4j k) ok0)) (by kernel_rfl) (by kernel_rfl) fun R=>by kernel_rfl
def h_config_reader_branch_1:Sh:=⟨[.a kI,.o 11 75 0 [.o 330 79 0 [.s kdT72,.w 350 64 (.pr .str (.sl kI)),.w 380 57 kdT56,.a .flt]],.o 12 57 0 [.a .str,.a .str,.a .bool,.a kI,.a kI,.a .bool,.a .str,.a kI,.a kI,.a .flt,.a .bool,.a .bool,.s kI]],some ([.o 11 75 0 [.o 330 79 0 [.s kdT72,.w 350 64 (.pr .str (.sl kI)),.w 380 57 kdT56,.a .flt]],.r 330 0,.o 12 57 0 [.a .str,.a .str,.a .bool,.a kI,.a kI,.a .bool,.a .str,.a kI,.a kI,.a .flt,.a .bool,.a .bool,.s kI]],[.a .bool]),none⟩
def wqil(k:Nat): Cxt:=⟨[wqkl k],[11,330,12],[],[(1,(.of [(5,1),(0,1),(1,1),(2,1),(3,1),(4,1),(6,1),(7,1),(8,1),(9,0),(10,1)] .done))]⟩
def wqim(k:Nat){R:Type}(x0:Int)(x1:(List dT72))(x2:(List ((List UInt8)×(List Int))))(x3:(List dT56))(x4:Nat)(x5 x6:(List UInt8))(x7:Bool)(x8 x9:Int)(x10:Bool)(x11:(List UInt8))(x12 x13:Int)(x14:Nat)(x15 x16:Bool)(x17:(List Int))(K:((List dT72)→(List ((List UInt8)×(List Int)))→(List dT56)→Nat→(List UInt8)→(List UInt8)→Bool→Int→Int→Bool→(List UInt8)→Int→Int→Nat→Bool→Bool→(List Int)→Bool→Option R)): Option R:=cond (inb x0 (x3.length:Int)) (wq9p k (x3.getD x0.toNat kdT56.zero).1 ((x3.getD x0.toNat kdT56.zero).2).1 (((x3.getD x0.toNat kdT56.zero).2).2).1 ((((x3.getD x0.toNat kdT56.zero).2).2).2).1 (((((x3.getD x0.toNat kdT56.zero).2).2).2).2).1 ((((((x3.getD x0.toNat kdT56.zero).2).2).2).2).2).1 ((((((((x3.getD x0.toNat kdT56.zero).2).2).2).2).2).2).1).1 (((((((((x3.getD x0.toNat kdT56.zero).2).2).2).2).2).2).1).2).1 ((((((((((x3.getD x0.toNat kdT56.zero).2).2).2).2).2).2).1).2).2).1 (((((((((((x3.getD x0.toNat kdT56.zero).2).2).2).2).2).2).1).2).2).2).1 ((((((((((((x3.getD x0.toNat kdT56.zero).2).2).2).2).2).2).1).2).2).2).2).1 ((((((((((((x3.getD x0.toNat kdT56.zero).2).2).2).2).2).2).1).2).2).2).2).2 (((((((x3.getD x0.toNat kdT56.zero).2).2).2).2).2).2).2 x5 x6 x7 x8 x9 x10 x11 x12 x13 x14 x15 x16 x17 (fun y21=>K x1 x2 x3 x4 x5 x6 x7 x8 x9 x10 x11 x12 x13 x14 x15 x16 x17 y21)) none
def wq8k:=@wqim
theorem wqin(k:Nat): DOK Tryz.prog 205 (h_config_reader_branch_1.run (@wq8k k)):=dok h_config_reader_branch_1 (wqil k) Tryz.f205 k (ok1 (wqkk k) ok0) (by kernel_rfl) (by kernel_rfl) fun R=>by kernel_rfl
def wqio(k:Nat): Ent:=h_config_reader_branch_1.e 205 (@wq8k k)
abbrev wq4d(R:Type): Type:=((List dT72)→(List ((List UInt8)×(List Int)))→(List dT56)→Nat→(List UInt8)→(List UInt8)→Bool→Int→Int→Bool→(List UInt8)→Int→Int→Nat→Bool→Bool→(List Int)→Int→Option R)
def h_slices_IndexFunc___int_int_branch:Sh:=⟨[.b kI,.c 205 [.o 300 75 0 [.o 330 79 0 [.s kdT72,.w 350 64 (.pr .str (.sl kI)),.w 380 57 kdT56,.a .flt]],.o 301 57 0 [.a .str,.a .str,.a .bool,.a kI,.a kI,.a .bool,.a .str,.a kI,.a kI,.a .flt,.a .bool,.a .bool,.s kI]]],some ([.o 300 75 0 [.o 330 79 0 [.s kdT72,.w 350 64 (.pr .str (.sl kI)),.w 380 57 kdT56,.a .flt]],.r 330 0,.o 301 57 0 [.a .str,.a .str,.a .bool,.a kI,.a kI,.a .bool,.a .str,.a kI,.a kI,.a .flt,.a .bool,.a .bool,.s kI]],[.a kI]),none⟩
def u_slices_IndexFunc___int_int_branch_1002:Cu:=⟨3,[0,1,7,8],[.o 300 75 0 [.o 330 79 0 [.s kdT72,.w 350 64 (.pr .str (.sl kI)),.w 380 57 kdT56,.a .flt]],.r 330 0,.o 301 57 0 [.a .str,.a .str,.a .bool,.a kI,.a kI,.a .bool,.a .str,.a kI,.a kI,.a .flt,.a .bool,.a .bool,.s kI],.b kI,.c 205 [.r 300 0,.r 301 0],.a kI,.a kI]⟩
def wq77(k:Nat): Cxt:=⟨[wqio k],[300,330,301],[(1002,u_slices_IndexFunc___int_int_branch_1002.spec)],[]⟩
def wq5q(k:Nat){R:Type}(E1002:((List dT72)→(List ((List UInt8)×(List Int)))→(List dT56)→Nat→(List UInt8)→(List UInt8)→Bool→Int→Int→Bool→(List UInt8)→Int→Int→Nat→Bool→Bool→(List Int)→(List Int)→Int→Int→Option R))(s0:(List dT72))(s1:(List ((List UInt8)×(List Int))))(s2:(List dT56))(s3:Nat)(s4 s5:(List UInt8))(s6:Bool)(s7 s8:Int)(s9:Bool)(s10:(List UInt8))(s11 s12:Int)(s13:Nat)(s14 s15:Bool)(s16 s17:(List Int))(s18 s19:Int)(K:wq4d R): Option R:=cond (decide (s19<s18)) (cond (inb s19 (s17.length:Int)) (wq8k k (s17.getD s19.toNat kI.zero) s0 s1 s2 s3 s4 s5 s6 s7 s8 s9 s10 s11 s12 s13 s14 s15 s16 (fun y24 y25 y26 y27 y28 y29 y30 y31 y32 y33 y34 y35 y36 y37 y38 y39 y40 y41=>cond y41 (K y24 y25 y26 y27 y28 y29 y30 y31 y32 y33 y34 y35 y36 y37 y38 y39 y40 s19) (E1002 y24 y25 y26 y27 y28 y29 y30 y31 y32 y33 y34 y35 y36 y37 y38 y39 y40 s17 s18 (@Go.IntKind.wrap Go.IntKind.i64 (s19+1))))) none) (K s0 s1 s2 s3 s4 s5 s6 s7 s8 s9 s10 s11 s12 s13 s14 s15 s16 (@Neg.neg Int @Int.instNegInt (1:Int)))
def wq78(k:Nat){R:Type}(E1002:((List dT72)→(List ((List UInt8)×(List Int)))→(List dT56)→Nat→(List UInt8)→(List UInt8)→Bool→Int→Int→Bool→(List UInt8)→Int→Int→Nat→Bool→Bool→(List Int)→(List Int)→Int→Int→Option R))(x0:(List Int))(x1:(List dT72))(x2:(List ((List UInt8)×(List Int))))(x3:(List dT56))(x4:Nat)(x5 x6:(List UInt8))(x7:Bool)(x8 x9:Int)(x10:Bool)(x11:(List UInt8))(x12 x13:Int)(x14:Nat)(x15 x16:Bool)(x17:(List Int))(K:wq4d R): Option R:=E1002 x1 x2 x3 x4 x5 x6 x7 x8 x9 x10 x11 x12 x13 x14 x15 x16 x17 x0 (x0.length:Int) 0
def wq2u(k:Nat){R:Type}: Nat→(List dT72)→(List ((List UInt8)×(List Int)))→(List dT56)→Nat→(List UInt8)→(List UInt8)→Bool→Int→Int→Bool→(List UInt8)→Int→Int→Nat→Bool→Bool→(List Int)→(List Int)→Int→Int→((List dT72)→(List ((List UInt8)×(List Int)))→(List dT56)→Nat→(List UInt8)→(List UInt8)→Bool→Int→Int→Bool→(List UInt8)→Int→Int→Nat→Bool→Bool→(List Int)→Int→Option R)→Option R
 |0,_,_,_,_,_,_,_,_,_,_,_,_,_,_,_,_,_,_,_,_,_=>none
 |n+1,s0,s1,s2,s3,s4,s5,s6,s7,s8,s9,s10,s11,s12,s13,s14,s15,s16,s17,s18,s19,K=>wq5q k (fun s0 s1 s2 s3 s4 s5 s6 s7 s8 s9 s10 s11 s12 s13 s14 s15 s16 s17 s18 s19=>wq2u k n s0 s1 s2 s3 s4 s5 s6 s7 s8 s9 s10 s11 s12 s13 s14 s15 s16 s17 s18 s19 K) s0 s1 s2 s3 s4 s5 s6 s7 s8 s9 s10 s11 s12 s13 s14 s15 s16 s17 s18 s19 K
theorem wq91(k:Nat){R:Type}: ∀(I:Nat→St→Option R) (n:Nat),h_slices_IndexFunc___int_int_branch.lp u_slices_IndexFunc___int_int_branch_1002 (wq77 k).cx k Tryz.f110 1002 [1,0,1,0] I n=wq2u k n:=h_slices_IndexFunc___int_int_branch.lok u_slices_IndexFunc___int_int_branch_1002 (B:=wq5q k) (L:=wq2u k) (fun I=>by kernel_rfl) (fun I=>by kernel_rfl) (fun n=>by kernel_rfl) (fun _ _ _ _=>rfl)
def wq4r(k:Nat){R:Type}(x0:(List Int))(x1:(List dT72))(x2:(List ((List UInt8)×(List Int))))(x3:(List dT56))(x4:Nat)(x5 x6:(List UInt8))(x7:Bool)(x8 x9:Int)(x10:Bool)(x11:(List UInt8))(x12 x13:Int)(x14:Nat)(x15 x16:Bool)(x17:(List Int))(K:wq4d R): Option R:=wq78 k (fun s0 s1 s2 s3 s4 s5 s6 s7 s8 s9 s10 s11 s12 s13 s14 s15 s16 s17 s18 s19=>wq2u k k s0 s1 s2 s3 s4 s5 s6 s7 s8 s9 s10 s11 s12 s13 s14 s15 s16 s17 s18 s19 K) x0 x1 x2 x3 x4 x5 x6 x7 x8 x9 x10 x11 x12 x13 x14 x15 x16 x17 K
theorem wqca(k:Nat): DOK Tryz.prog 110 (h_slices_IndexFunc___int_int_branch.run (@wq4r k)):=dok h_slices_IndexFunc___int_int_branch (wq77 k) Tryz.f110 k (ok1 (wqin k) ok0) (by kernel_rfl) (by kernel_rfl) fun R=>h_slices_IndexFunc___int_int_branch.f1 u_slices_IndexFunc___int_int_branch_1002 (wq78 k) (by kernel_rfl) (wq91 k (fun _ _=>none) k) (by kernel_rfl)
def wqcb(k:Nat): Ent:=h_slices_IndexFunc___int_int_branch.e 110 (@wq4r k)
def h_slices_ContainsFunc___int_int_branch:Sh:=⟨[.b kI,.c 205 [.o 300 75 0 [.o 330 79 0 [.s kdT72,.w 350 64 (.pr .str (.sl kI)),.w 380 57 kdT56,.a .flt]],.o 301 57 0 [.a .str,.a .str,.a .bool,.a kI,.a kI,.a .bool,.a .str,.a kI,.a kI,.a .flt,.a .bool,.a .bool,.s kI]]],some ([.o 300 75 0 [.o 330 79 0 [.s kdT72,.w 350 64 (.pr .str (.sl kI)),.w 380 57 kdT56,.a .flt]],.r 330 0,.o 301 57 0 [.a .str,.a .str,.a .bool,.a kI,.a kI,.a .bool,.a .str,.a kI,.a kI,.a .flt,.a .bool,.a .bool,.s kI]],[.a .bool]),none⟩
abbrev wq3z:Type 1:=(R:Type)→(List Int)→(List dT72)→(List ((List UInt8)×(List Int)))→(List dT56)→Nat→(List UInt8)→(List UInt8)→Bool→Int→Int→Bool→(List UInt8)→Int→Int→Nat→Bool→Bool→(List Int)→((List dT72)→(List ((List UInt8)×(List Int)))→(List dT56)→Nat→(List UInt8)→(List UInt8)→Bool→Int→Int→Bool→(List UInt8)→Int→Int→Nat→Bool→Bool→(List Int)→Bool→Option R)→Option R
def wqao(k:Nat): Cxt:=⟨[wqcb k],[300,330,301],[],[]⟩
def wqap(k:Nat){R:Type}(x0:(List Int))(x1:(List dT72))(x2:(List ((List UInt8)×(List Int))))(x3:(List dT56))(x4:Nat)(x5 x6:(List UInt8))(x7:Bool)(x8 x9:Int)(x10:Bool)(x11:(List UInt8))(x12 x13:Int)(x14:Nat)(x15 x16:Bool)(x17:(List Int))(K:((List dT72)→(List ((List UInt8)×(List Int)))→(List dT56)→Nat→(List UInt8)→(List UInt8)→Bool→Int→Int→Bool→(List UInt8)→Int→Int→Nat→Bool→Bool→(List Int)→Bool→Option R)): Option R:=wq4r k x0 x1 x2 x3 x4 x5 x6 x7 x8 x9 x10 x11 x12 x13 x14 x15 x16 x17 (fun y21 y22 y23 y24 y25 y26 y27 y28 y29 y30 y31 y32 y33 y34 y35 y36 y37 y38=>K y21 y22 y23 y24 y25 y26 y27 y28 y29 y30 y31 y32 y33 y34 y35 y36 y37 (decide (y38≥0)))
def wq33:=@wqap
theorem wqaq(k:Nat): DOK Tryz.prog 65 (h_slices_ContainsFunc___int_int_branch.run (@wq33 k)):=dok h_slices_ContainsFunc___int_int_branch (wqao k) Tryz.f65 k (ok1 (wqca k) ok0) (by kernel_rfl) (by kernel_rfl) fun R=>by kernel_rfl
def h_config_reader_list:Sh:=⟨[.o 1 79 0 [.s kdT72,.w 21 64 (.pr .str (.sl kI)),.w 51 57 kdT56,.a .flt],.a kI,.a kI,.a kI,.a kI],some ([.o 1 79 0 [.s kdT72,.w 21 64 (.pr .str (.sl kI)),.w 51 57 kdT56,.a .flt]],[.s kI]),some ([.o 1 79 0 [.s kdT72,.w 21 64 (.pr .str (.sl kI)),.w 51 57 kdT56,.a .flt]],[.i 29 (.g [.a kI,.a kI])])⟩
abbrev wq23:Type 1:=(R:Type)→(List dT72)→(List ((List UInt8)×(List Int)))→(List dT56)→Nat→Int→Int→Int→Int→((List dT72)→(List ((List UInt8)×(List Int)))→(List dT56)→Nat→(List Int)→Option R)→((List dT72)→(List ((List UInt8)×(List Int)))→(List dT56)→Nat→Int→Int→Option R)→Option R
def h_config_reader_branch:Sh:=⟨[.o 1 79 0 [.s kdT72,.w 21 64 (.pr .str (.sl kI)),.w 51 57 kdT56,.a .flt],.a kI,.g [.a .str,.a .str,.a .bool,.a kI,.a kI,.a .bool,.a .str,.a kI,.a kI,.a .flt,.a .bool,.a .bool,.s kI],.b kI,.a kI],some ([.o 1 79 0 [.s kdT72,.w 21 64 (.pr .str (.sl kI)),.w 51 57 kdT56,.a .flt]],[.a kI]),some ([.o 1 79 0 [.s kdT72,.w 21 64 (.pr .str (.sl kI)),.w 51 57 kdT56,.a .flt]],[.i 29 (.g [.a kI,.a kI])])⟩
abbrev wq2b:Type 1:=(R:Type)→(List dT72)→(List ((List UInt8)×(List Int)))→(List dT56)→Nat→Int→(List UInt8)→(List UInt8)→Bool→Int→Int→Bool→(List UInt8)→Int→Int→Nat→Bool→Bool→(List Int)→(List Int)→Int→((List dT72)→(List ((List UInt8)×(List Int)))→(List dT56)→Nat→Int→Option R)→((List dT72)→(List ((List UInt8)×(List Int)))→(List dT56)→Nat→Int→Int→Option R)→Option R
def u_config_reader_list_1003:Cu:=⟨1,[0,2,3,4,11,16,17,18],[.o 1 79 0 [.s kdT72,.w 21 64 (.pr .str (.sl kI)),.w 51 57 kdT56,.a .flt],.r 1 0,.a kI,.a kI,.a kI,.w 100011 3 kI,.s kI,.a kI,.a kI]⟩
def wq8l(k:Nat)(wqe:wq23)(wql:wq2b): Cxt:=⟨[wqmn k,h_config_reader_branch.e 175 wql],[1],[(1003,u_config_reader_list_1003.spec)],[]⟩
def wqc3(k:Nat)(wqe:wq23)(wql:wq2b){R:Type}(E1003:((List dT72)→(List ((List UInt8)×(List Int)))→(List dT56)→Nat→Int→Int→Int→(List Int)→(List Int)→Int→Int→Option R))(s0:(List dT72))(s1:(List ((List UInt8)×(List Int))))(s2:(List dT56))(s3:Nat)(s4 s5 s6:Int)(s7 s8:(List Int))(s9 s10:Int)(K:((List dT72)→(List ((List UInt8)×(List Int)))→(List dT56)→Nat→(List Int)→Option R))(E:((List dT72)→(List ((List UInt8)×(List Int)))→(List dT56)→Nat→Int→Int→Option R)): Option R:=cond (decide (s10<s9)) (cond (inb s10 (s8.length:Int)) (wql R s0 s1 s2 s3 (s8.getD s10.toNat kI.zero) [] [] false s4 s5 false [] 0 0 0 false false [] s7 s6 (fun y16 y17 y18 y19 y20=>cond (fits s7.length (@List.length (@Kd.T kI) [y20]) 8) (E1003 y16 y17 y18 y19 s4 s5 s6 (s7++[y20]) s8 s9 (@Go.IntKind.wrap Go.IntKind.i64 (s10+1))) none) E) none) (K s0 s1 s2 s3 s7)
def wqbm(k:Nat)(wqe:wq23)(wql:wq2b){R:Type}(E1003:((List dT72)→(List ((List UInt8)×(List Int)))→(List dT56)→Nat→Int→Int→Int→(List Int)→(List Int)→Int→Int→Option R))(x0:(List dT72))(x1:(List ((List UInt8)×(List Int))))(x2:(List dT56))(x3:Nat)(x4 x5 x6 x7:Int)(K:((List dT72)→(List ((List UInt8)×(List Int)))→(List dT56)→Nat→(List Int)→Option R))(E:((List dT72)→(List ((List UInt8)×(List Int)))→(List dT56)→Nat→Int→Int→Option R)): Option R:=wq32 k x0 x4 [100,101,115,99,114,105,112,116,111,114,115] (fun y13=>E1003 x0 x1 x2 x3 x5 x6 x7 [] y13 (y13.length:Int) 0) (fun y13 y14=>E x0 x1 x2 x3 y13 y14)
def wq5w(k:Nat)(wqe:wq23)(wql:wq2b){R:Type}: Nat→(List dT72)→(List ((List UInt8)×(List Int)))→(List dT56)→Nat→Int→Int→Int→(List Int)→(List Int)→Int→Int→((List dT72)→(List ((List UInt8)×(List Int)))→(List dT56)→Nat→(List Int)→Option R)→((List dT72)→(List ((List UInt8)×(List Int)))→(List dT56)→Nat→Int→Int→Option R)→Option R
 |0,_,_,_,_,_,_,_,_,_,_,_,_,_=>none
 |n+1,s0,s1,s2,s3,s4,s5,s6,s7,s8,s9,s10,K,E=>wqc3 k wqe wql (fun s0 s1 s2 s3 s4 s5 s6 s7 s8 s9 s10=>wq5w k wqe wql n s0 s1 s2 s3 s4 s5 s6 s7 s8 s9 s10 K E) s0 s1 s2 s3 s4 s5 s6 s7 s8 s9 s10 K E
theorem wqg7(k:Nat)(wqe:wq23)(wql:wq2b){R:Type}: ∀(I:Nat→St→Option R) (n:Nat),h_config_reader_list.lp u_config_reader_list_1003 (wq8l k wqe wql).cx k Tryz.f129 1003 [1,1,0,1,0] I n=wq5w k wqe wql n:=h_config_reader_list.lok u_config_reader_list_1003 (B:=wqc3 k wqe wql) (L:=wq5w k wqe wql) (fun I=>by kernel_rfl) (fun I=>by kernel_rfl) (fun n=>by kernel_rfl) (fun _ _ _ _=>rfl)
theorem wqo9(k:Nat)(wqe:wq23)(wql:wq2b)(R:Type): h_config_reader_list.at (wq8l k wqe wql) k Tryz.f129 R=h_config_reader_list.glue (l:=h_config_reader_list.ps) (u:=u_config_reader_list_1003.fs) (fun E1003=>@wqbm k wqe wql R E1003) (h_config_reader_list.lp u_config_reader_list_1003 (wq8l k wqe wql).cx k Tryz.f129 1003 [1,1,0,1,0] (fun _ _=>none) k):=by kernel_rfl
def wqek(k:Nat)(wqe:wq23)(wql:wq2b)(wq1k:wq3z)(wq7:wq24)(wq3:wq12)(wq1:wqs)(wq0:wqn)(wqh:wq35)(wq6:wq1s)(wq7e:wqdq)(wq4g:wqam)(wqd:wq2d): Cxt:=⟨[h_slices_ContainsFunc___int_int_branch.e 65 wq1k,h_config_gives.e 69 wq7,h_field_Seen_Known.e 70 wq3,h_config_reader_must.e 73 wq1,h_config_reader_fault.e 75 wq0,h_field_Seen_Find.e 123 wqh,h_config_reader_name.e 126 wq6,h_config_reader_list.e 129 wqe,h_field_Seen_Word.e 204 wq7e,h_config_reader_rule.e 206 wq4g,h_config_reader_bool.e 207 wqd],[1],[],[(6,(.of [(2,1),(1,1),(0,2),(3,0),(4,0),(5,1),(6,0)] .done)),(16,(.of [(1,1),(2,1),(3,1),(4,1),(5,1),(6,1),(0,2),(7,0),(8,0),(9,1),(10,1),(11,1),(12,0)] .done)),(25,(.of [(5,1),(0,1),(1,1),(2,1),(3,1),(4,1),(6,1),(7,1),(8,0)] .done))]⟩
def wqel(k:Nat)(wqe:wq23)(wql:wq2b)(wq1k:wq3z)(wq7:wq24)(wq3:wq12)(wq1:wqs)(wq0:wqn)(wqh:wq35)(wq6:wq1s)(wq7e:wqdq)(wq4g:wqam)(wqd:wq2d){R:Type}(x0:(List dT72))(x1:(List ((List UInt8)×(List Int))))(x2:(List dT56))(x3:Nat)(x4:Int)(x5 x6:(List UInt8))(x7:Bool)(x8 x9:Int)(x10:Bool)(x11:(List UInt8))(x12 x13:Int)(x14:Nat)(x15 x16:Bool)(x17 x18:(List Int))(x19:Int)(K:((List dT72)→(List ((List UInt8)×(List Int)))→(List dT56)→Nat→Int→Option R))(E:((List dT72)→(List ((List UInt8)×(List Int)))→(List dT56)→Nat→Int→Int→Option R)): Option R:=cond (decide (x19>8)) (wq0 R x0 x4 8 (fun y24 y25=>E x0 x1 x2 x3 y24 y25)) (cond (decide ((x2.length:Int)≥500)) (wq0 R x0 x4 9 (fun y24 y25=>E x0 x1 x2 x3 y24 y25)) (wq3 R x0 x4 [[107,101,121],[118,97,108,117,101],[114,97,116,101,95,108,105,109,105,116],[115,104,97,100,111,119,95,109,111,100,101],[100,101,115,99,114,105,112,116,111,114,115]] (fun y24 y25=>wq7 R y24 y25 (fun y26=>wq1 R x0 x4 [107,101,121] (fun y27=>wq6 R x0 y27 (fun y28=>wqh R x0 x4 [118,97,108,117,101] (fun y29 y30=>cond y30 (wq7e R x0 y29 (fun y31 y32 y33=>wq7 R y32 y33 (fun y34=>wq1k R x18 x0 x1 x2 x3 y28 y31 false x8 x9 x10 x11 x12 x13 x14 x15 x16 x17 (fun y35 y36 y37 y38 y39 y40 y41 y42 y43 y44 y45 y46 y47 y48 y49 y50 y51 y52=>cond y52 (wq0 R y35 x4 7 (fun y53 y54=>E y35 y36 y37 y38 y53 y54)) (cond (fits y37.length (@List.length (@Kd.T kdT56) [(y39,(y40,(y41,(y42,(y43,(y44,((y45,(y46,(y47,(y48,(y49,y50))))),y51)))))))]) 136) (wqh R y35 x4 [114,97,116,101,95,108,105,109,105,116] (fun y53 y54=>cond y54 (wq4g R y35 y36 (y37++[(y39,(y40,(y41,(y42,(y43,(y44,((y45,(y46,(y47,(y48,(y49,y50))))),y51)))))))]) y38 y53 (fun y55 y56 y57 y58 y59 y60 y61 y62 y63 y64=>wqd R y55 x4 [115,104,97,100,111,119,95,109,111,100,101] (fun y65=>cond (cond y65 (!true) false) (wqh R y55 x4 [115,104,97,100,111,119,95,109,111,100,101] (fun y66 y67=>wq0 R y55 y66 17 (fun y68 y69=>E y55 y56 y57 y58 y68 y69))) (wqe R y55 y56 y57 y58 x4 y42 (y37.length:Int) (@Go.IntKind.wrap Go.IntKind.i64 (x19+1)) (fun y66 y67 y68 y69 y70=>cond (inb (y37.length:Int) (y68.length:Int)) (@SH (@List (@Kd.T kdT56)) R (List.set y68 (y37.length:Int).toNat (y39,(y40,(y41,(y42,(y43,(true,((y59,(y60,(y61,(y62,(y65,y64))))),y70)))))))) (fun y71=>K y66 y67 y71 y69 (y37.length:Int))) none) E)) (fun y65 y66=>E y55 y56 y57 y58 y65 y66)) E) (wqd R y35 x4 [115,104,97,100,111,119,95,109,111,100,101] (fun y55=>cond (cond y55 (!y44) false) (wqh R y35 x4 [115,104,97,100,111,119,95,109,111,100,101] (fun y56 y57=>wq0 R y35 y56 17 (fun y58 y59=>E y35 y36 (y37++[(y39,(y40,(y41,(y42,(y43,(y44,((y45,(y46,(y47,(y48,(y49,y50))))),y51)))))))]) y38 y58 y59))) (wqe R y35 y36 (y37++[(y39,(y40,(y41,(y42,(y43,(y44,((y45,(y46,(y47,(y48,(y49,y50))))),y51)))))))]) y38 x4 y42 (y37.length:Int) (@Go.IntKind.wrap Go.IntKind.i64 (x19+1)) (fun y56 y57 y58 y59 y60=>cond (inb (y37.length:Int) (y58.length:Int)) (@SH (@List (@Kd.T kdT56)) R (List.set y58 (y37.length:Int).toNat (y39,(y40,(y41,(y42,(y43,(y44,((y45,(y46,(y47,(y48,(y55,y50))))),y60)))))))) (fun y61=>K y56 y57 y61 y59 (y37.length:Int))) none) E)) (fun y55 y56=>E y35 y36 (y37++[(y39,(y40,(y41,(y42,(y43,(y44,((y45,(y46,(y47,(y48,(y49,y50))))),y51)))))))]) y38 y55 y56)))) none))) (fun y34 y35=>E x0 x1 x2 x3 y34 y35))) (wq1k R x18 x0 x1 x2 x3 y28 x6 true x8 x9 x10 x11 x12 x13 x14 x15 x16 x17 (fun y31 y32 y33 y34 y35 y36 y37 y38 y39 y40 y41 y42 y43 y44 y45 y46 y47 y48=>cond y48 (wq0 R y31 x4 7 (fun y49 y50=>E y31 y32 y33 y34 y49 y50)) (cond (fits y33.length (@List.length (@Kd.T kdT56) [(y35,(y36,(y37,(y38,(y39,(y40,((y41,(y42,(y43,(y44,(y45,y46))))),y47)))))))]) 136) (wqh R y31 x4 [114,97,116,101,95,108,105,109,105,116] (fun y49 y50=>cond y50 (wq4g R y31 y32 (y33++[(y35,(y36,(y37,(y38,(y39,(y40,((y41,(y42,(y43,(y44,(y45,y46))))),y47)))))))]) y34 y49 (fun y51 y52 y53 y54 y55 y56 y57 y58 y59 y60=>wqd R y51 x4 [115,104,97,100,111,119,95,109,111,100,101] (fun y61=>cond (cond y61 (!true) false) (wqh R y51 x4 [115,104,97,100,111,119,95,109,111,100,101] (fun y62 y63=>wq0 R y51 y62 17 (fun y64 y65=>E y51 y52 y53 y54 y64 y65))) (wqe R y51 y52 y53 y54 x4 y38 (y33.length:Int) (@Go.IntKind.wrap Go.IntKind.i64 (x19+1)) (fun y62 y63 y64 y65 y66=>cond (inb (y33.length:Int) (y64.length:Int)) (@SH (@List (@Kd.T kdT56)) R (List.set y64 (y33.length:Int).toNat (y35,(y36,(y37,(y38,(y39,(true,((y55,(y56,(y57,(y58,(y61,y60))))),y66)))))))) (fun y67=>K y62 y63 y67 y65 (y33.length:Int))) none) E)) (fun y61 y62=>E y51 y52 y53 y54 y61 y62)) E) (wqd R y31 x4 [115,104,97,100,111,119,95,109,111,100,101] (fun y51=>cond (cond y51 (!y40) false) (wqh R y31 x4 [115,104,97,100,111,119,95,109,111,100,101] (fun y52 y53=>wq0 R y31 y52 17 (fun y54 y55=>E y31 y32 (y33++[(y35,(y36,(y37,(y38,(y39,(y40,((y41,(y42,(y43,(y44,(y45,y46))))),y47)))))))]) y34 y54 y55))) (wqe R y31 y32 (y33++[(y35,(y36,(y37,(y38,(y39,(y40,((y41,(y42,(y43,(y44,(y45,y46))))),y47)))))))]) y34 x4 y38 (y33.length:Int) (@Go.IntKind.wrap Go.IntKind.i64 (x19+1)) (fun y52 y53 y54 y55 y56=>cond (inb (y33.length:Int) (y54.length:Int)) (@SH (@List (@Kd.T kdT56)) R (List.set y54 (y33.length:Int).toNat (y35,(y36,(y37,(y38,(y39,(y40,((y41,(y42,(y43,(y44,(y51,y46))))),y56)))))))) (fun y57=>K y52 y53 y57 y55 (y33.length:Int))) none) E)) (fun y51 y52=>E y31 y32 (y33++[(y35,(y36,(y37,(y38,(y39,(y40,((y41,(y42,(y43,(y44,(y45,y46))))),y47)))))))]) y34 y51 y52)))) none))))) (fun y28 y29=>E x0 x1 x2 x3 y28 y29)) (fun y27 y28=>E x0 x1 x2 x3 y27 y28)) (fun y26 y27=>E x0 x1 x2 x3 y26 y27))))
theorem wqkr(k:Nat)(wqe:wq23)(wql:wq2b)(wq1k:wq3z)(wq7:wq24)(wq3:wq12)(wq1:wqs)(wq0:wqn)(wqh:wq35)(wq6:wq1s)(wq7e:wqdq)(wq4g:wqam)(wqd:wq2d)(R:Type): h_config_reader_branch.at (wqek k wqe wql wq1k wq7 wq3 wq1 wq0 wqh wq6 wq7e wq4g wqd) k Tryz.f175 R=@wqel k wqe wql wq1k wq7 wq3 wq1 wq0 wqh wq6 wq7e wq4g wqd R:=by kernel_rfl
mutual
def wq2e:Nat→wq23
 |0,_,_,_,_,_,_,_,_,_,_,_=>none
 |k+1,R,x0,x1,x2,x3,x4,x5,x6,x7,K,E=>wqbm k (wq2e k) (FR_config_reader_branch k) (fun s0 s1 s2 s3 s4 s5 s6 s7 s8 s9 s10=>wq5w k (wq2e k) (FR_config_reader_branch k) k s0 s1 s2 s3 s4 s5 s6 s7 s8 s9 s10 K E) x0 x1 x2 x3 x4 x5 x6 x7 K E
def FR_config_reader_branch:Nat→wq2b
 |0,_,_,_,_,_,_,_,_,_,_,_,_,_,_,_,_,_,_,_,_,_,_,_=>none
 |k+1,R,x0,x1,x2,x3,x4,x5,x6,x7,x8,x9,x10,x11,x12,x13,x14,x15,x16,x17,x18,x19,K,E=>wqel k (wq2e k) (FR_config_reader_branch k) (@wq33 k) (@wq1r k) (@wq1g k) (@wq11 k) (@wqo k) (@wq2c k) (@wq26 k) (@wqb4 k) (@wq8j k) (@wq2w k) x0 x1 x2 x3 x4 x5 x6 x7 x8 x9 x10 x11 x12 x13 x14 x15 x16 x17 x18 x19 K E
end
def wq8m(k:Nat){R:Type}(x0:(List dT72))(x1:(List ((List UInt8)×(List Int))))(x2:(List dT56))(x3:Nat)(x4 x5 x6 x7:Int)(K:((List dT72)→(List ((List UInt8)×(List Int)))→(List dT56)→Nat→(List Int)→Option R))(E:((List dT72)→(List ((List UInt8)×(List Int)))→(List dT56)→Nat→Int→Int→Option R)): Option R:=wq2e k R x0 x1 x2 x3 x4 x5 x6 x7 K E
theorem wqmq(k:Nat): DOK Tryz.prog 129 (h_config_reader_list.run (wq2e k))∧DOK Tryz.prog 175 (h_config_reader_branch.run (FR_config_reader_branch k)):=by
 induction k with
 |zero=>exact⟨h_config_reader_list.ok0 fun R=>by kernel_rfl,h_config_reader_branch.ok0 fun R=>by kernel_rfl⟩
 |succ k ih =>
  obtain⟨ih_config_reader_list,ih_config_reader_branch⟩:=ih
  exact⟨dok h_config_reader_list (wq8l k (wq2e k) (FR_config_reader_branch k)) Tryz.f129 k (ok1 (wqf6 k) (ok1 ih_config_reader_branch ok0)) (by kernel_rfl) (by kernel_rfl) fun R=>h_config_reader_list.f1 u_config_reader_list_1003 (wqbm k (wq2e k) (FR_config_reader_branch k)) (wqo9 k (wq2e k) (FR_config_reader_branch k) R) (wqg7 k (wq2e k) (FR_config_reader_branch k) (fun _ _=>none) k) (by kernel_rfl),dok h_config_reader_branch (wqek k (wq2e k) (FR_config_reader_branch k) (@wq33 k) (@wq1r k) (@wq1g k) (@wq11 k) (@wqo k) (@wq2c k) (@wq26 k) (@wqb4 k) (@wq8j k) (@wq2w k)) Tryz.f175 k (ok1 (wqaq k) (ok1 (wq6b k) (ok1 (wqa5 k) (ok1 (wq8g k) (ok1 (wq67 k) (ok1 (wq7a k) (ok1 (wqbl k) (ok1 ih_config_reader_list (ok1 (wqu4 k) (ok1 (wqo8 k) (ok1 (wqg5 k) ok0))))))))))) (by kernel_rfl) (by kernel_rfl) fun R=>wqkr k (wq2e k) (FR_config_reader_branch k) (@wq33 k) (@wq1r k) (@wq1g k) (@wq11 k) (@wqo k) (@wq2c k) (@wq26 k) (@wqb4 k) (@wq8j k) (@wq2w k) R⟩
theorem wqoa(k:Nat): DOK Tryz.prog 129 (h_config_reader_list.run (@wq8m k)):=(wqmq k).1
end Go.Proofs.YtabkhphoacmcdaaGreatDoor.Pvm
namespace Go.Proofs.YtabkhphoacmcdaaGreatDoor.Pvm
open Go Go.Proofs
def h_config_reader_domain_1:Sh:=⟨[.g [.a .str,.s kI],.o 11 9 0 [.a .str]],some ([.o 11 9 0 [.a .str]],[.a .bool]),none⟩
def wqip(k:Nat): Cxt:=⟨[],[11],[],[]⟩
def wqiq(k:Nat){R:Type}(x0:(List UInt8))(x1:(List Int))(x2:(List UInt8))(K:((List UInt8)→Bool→Option R)): Option R:=K x2 (x0 == x2)
def wq8n:=@wqiq
theorem wqir(k:Nat): DOK Tryz.prog 128 (h_config_reader_domain_1.run (@wq8n k)):=dok h_config_reader_domain_1 (wqip k) Tryz.f128 k ok0 (by kernel_rfl) (by kernel_rfl) fun R=>by kernel_rfl
def wqis(k:Nat): Ent:=h_config_reader_domain_1.e 128 (@wq8n k)
def h_slices_IndexFunc___api_Domain_api_Domain_domain:Sh:=⟨[.s (.pr .str (.sl kI)),.c 128 [.o 300 9 0 [.a .str]]],some ([.o 300 9 0 [.a .str]],[.a kI]),none⟩
def u_slices_IndexFunc___api_Domain_api_Domain_domain_1002:Cu:=⟨1,[0,1,7,8],[.o 300 9 0 [.a .str],.s (.pr .str (.sl kI)),.c 128 [.r 300 0],.a kI,.a kI]⟩
def wq43(k:Nat): Cxt:=⟨[wqis k],[300],[(1002,u_slices_IndexFunc___api_Domain_api_Domain_domain_1002.spec)],[]⟩
def wq3h(k:Nat){R:Type}(E1002:((List UInt8)→(List ((List UInt8)×(List Int)))→Int→Int→Option R))(s0:(List UInt8))(s1:(List ((List UInt8)×(List Int))))(s2 s3:Int)(K:((List UInt8)→Int→Option R)): Option R:=cond (decide (s3<s2)) (cond (inb s3 (s1.length:Int)) (wq8n k (s1.getD s3.toNat (Kd.zero (@Kd.pr Kd.str (@Kd.sl kI)))).1 (s1.getD s3.toNat (Kd.zero (@Kd.pr Kd.str (@Kd.sl kI)))).2 s0 (fun y8 y9=>cond y9 (K y8 s3) (E1002 y8 s1 s2 (@Go.IntKind.wrap Go.IntKind.i64 (s3+1))))) none) (K s0 (@Neg.neg Int @Int.instNegInt (1:Int)))
def wq44(k:Nat){R:Type}(E1002:((List UInt8)→(List ((List UInt8)×(List Int)))→Int→Int→Option R))(x0:(List ((List UInt8)×(List Int))))(x1:(List UInt8))(K:((List UInt8)→Int→Option R)): Option R:=E1002 x1 x0 (x0.length:Int) 0
def wq1v(k:Nat){R:Type}: Nat→(List UInt8)→(List ((List UInt8)×(List Int)))→Int→Int→((List UInt8)→Int→Option R)→Option R
 |0,_,_,_,_,_=>none
 |n+1,s0,s1,s2,s3,K=>wq3h k (fun s0 s1 s2 s3=>wq1v k n s0 s1 s2 s3 K) s0 s1 s2 s3 K
theorem wq5u(k:Nat){R:Type}: ∀(I:Nat→St→Option R) (n:Nat),h_slices_IndexFunc___api_Domain_api_Domain_domain.lp u_slices_IndexFunc___api_Domain_api_Domain_domain_1002 (wq43 k).cx k Tryz.f174 1002 [1,0,1,0] I n=wq1v k n:=h_slices_IndexFunc___api_Domain_api_Domain_domain.lok u_slices_IndexFunc___api_Domain_api_Domain_domain_1002 (B:=wq3h k) (L:=wq1v k) (fun I=>by kernel_rfl) (fun I=>by kernel_rfl) (fun n=>by kernel_rfl) (fun _ _ _ _=>rfl)
def wq2v(k:Nat){R:Type}(x0:(List ((List UInt8)×(List Int))))(x1:(List UInt8))(K:((List UInt8)→Int→Option R)): Option R:=wq44 k (fun s0 s1 s2 s3=>wq1v k k s0 s1 s2 s3 K) x0 x1 K
theorem wq7i(k:Nat): DOK Tryz.prog 174 (h_slices_IndexFunc___api_Domain_api_Domain_domain.run (@wq2v k)):=dok h_slices_IndexFunc___api_Domain_api_Domain_domain (wq43 k) Tryz.f174 k (ok1 (wqir k) ok0) (by kernel_rfl) (by kernel_rfl) fun R=>h_slices_IndexFunc___api_Domain_api_Domain_domain.f1 u_slices_IndexFunc___api_Domain_api_Domain_domain_1002 (wq44 k) (by kernel_rfl) (wq5u k (fun _ _=>none) k) (by kernel_rfl)
def wq7j(k:Nat): Ent:=h_slices_IndexFunc___api_Domain_api_Domain_domain.e 174 (@wq2v k)
def h_slices_ContainsFunc___api_Domain_api_Domain_domain:Sh:=⟨[.s (.pr .str (.sl kI)),.c 128 [.o 300 9 0 [.a .str]]],some ([.o 300 9 0 [.a .str]],[.a .bool]),none⟩
abbrev wq2k:Type 1:=(R:Type)→(List ((List UInt8)×(List Int)))→(List UInt8)→((List UInt8)→Bool→Option R)→Option R
def wq6t(k:Nat): Cxt:=⟨[wq7j k],[300],[],[]⟩
def wq6u(k:Nat){R:Type}(x0:(List ((List UInt8)×(List Int))))(x1:(List UInt8))(K:((List UInt8)→Bool→Option R)): Option R:=wq2v k x0 x1 (fun y5 y6=>K y5 (decide (y6≥0)))
def wq1z:=@wq6u
theorem wq6v(k:Nat): DOK Tryz.prog 127 (h_slices_ContainsFunc___api_Domain_api_Domain_domain.run (@wq1z k)):=dok h_slices_ContainsFunc___api_Domain_api_Domain_domain (wq6t k) Tryz.f127 k (ok1 (wq7i k) ok0) (by kernel_rfl) (by kernel_rfl) fun R=>by kernel_rfl
def h_config_reader_domain:Sh:=⟨[.o 1 79 0 [.s kdT72,.w 21 64 (.pr .str (.sl kI)),.w 51 57 kdT56,.a .flt],.a kI],some ([.o 1 79 0 [.s kdT72,.w 21 64 (.pr .str (.sl kI)),.w 51 57 kdT56,.a .flt]],[]),some ([.o 1 79 0 [.s kdT72,.w 21 64 (.pr .str (.sl kI)),.w 51 57 kdT56,.a .flt]],[.i 29 (.g [.a kI,.a kI])])⟩
abbrev wq45:Type 1:=(R:Type)→(List dT72)→(List ((List UInt8)×(List Int)))→(List dT56)→Nat→Int→((List dT72)→(List ((List UInt8)×(List Int)))→(List dT56)→Nat→Option R)→((List dT72)→(List ((List UInt8)×(List Int)))→(List dT56)→Nat→Int→Int→Option R)→Option R
def wqem(k:Nat)(wq7:wq24)(wq3:wq12)(wq1:wqs)(wq0:wqn)(wq6:wq1s)(wqx:wq2k)(wqe:wq23): Cxt:=⟨[h_config_gives.e 69 wq7,h_field_Seen_Known.e 70 wq3,h_config_reader_must.e 73 wq1,h_config_reader_fault.e 75 wq0,h_config_reader_name.e 126 wq6,h_slices_ContainsFunc___api_Domain_api_Domain_domain.e 127 wqx,h_config_reader_list.e 129 wqe],[1],[],[(5,(.of [(0,1),(1,1),(2,1),(3,1),(4,1),(5,1),(6,1),(7,1),(8,0),(9,0),(10,1),(11,1),(12,1),(13,0)] .done)),(7,(.of [(0,1),(1,1),(2,1),(3,1),(5,1),(6,1),(7,1),(8,1),(12,1),(4,1),(9,1),(10,1),(11,1),(13,1),(14,1),(15,0)] .done))]⟩
def wqen(k:Nat)(wq7:wq24)(wq3:wq12)(wq1:wqs)(wq0:wqn)(wq6:wq1s)(wqx:wq2k)(wqe:wq23){R:Type}(x0:(List dT72))(x1:(List ((List UInt8)×(List Int))))(x2:(List dT56))(x3:Nat)(x4:Int)(K:((List dT72)→(List ((List UInt8)×(List Int)))→(List dT56)→Nat→Option R))(E:((List dT72)→(List ((List UInt8)×(List Int)))→(List dT56)→Nat→Int→Int→Option R)): Option R:=wq3 R x0 x4 [[100,111,109,97,105,110],[100,101,115,99,114,105,112,116,111,114,115]] (fun y9 y10=>wq7 R y9 y10 (fun y11=>wq1 R x0 x4 [100,111,109,97,105,110] (fun y12=>wq6 R x0 y12 (fun y13=>wqx R x1 y13 (fun y14 y15=>cond y15 (wq0 R x0 y12 7 (fun y16 y17=>E x0 x1 x2 x3 y16 y17)) (cond (fits x1.length (@List.length (@Kd.T (@Kd.pr Kd.str (@Kd.sl kI))) [(y14,[])]) 40) (wqe R x0 (x1++[(y14,[])]) x2 x3 x4 (@Go.IntKind.wrap Go.IntKind.i64 (((x1++[(y14,[])]).length:Int)-1)) (@Neg.neg Int @Int.instNegInt (1:Int)) 1 (fun y16 y17 y18 y19 y20=>cond (inb (@Go.IntKind.wrap Go.IntKind.i64 ((y17.length:Int)-1)) (y17.length:Int)) (@SH (@List (@Kd.T (@Kd.pr Kd.str (@Kd.sl kI)))) R (List.set y17 (@Go.IntKind.wrap Go.IntKind.i64 ((y17.length:Int)-1)).toNat ((y17.getD (@Go.IntKind.wrap Go.IntKind.i64 ((y17.length:Int)-1)).toNat (Kd.zero (@Kd.pr Kd.str (@Kd.sl kI)))).1,y20)) (fun y21=>K y16 y21 y18 y19)) none) E) none))) (fun y13 y14=>E x0 x1 x2 x3 y13 y14)) (fun y12 y13=>E x0 x1 x2 x3 y12 y13)) (fun y11 y12=>E x0 x1 x2 x3 y11 y12))
theorem wqks(k:Nat)(wq7:wq24)(wq3:wq12)(wq1:wqs)(wq0:wqn)(wq6:wq1s)(wqx:wq2k)(wqe:wq23)(R:Type): h_config_reader_domain.at (wqem k wq7 wq3 wq1 wq0 wq6 wqx wqe) k Tryz.f76 R=@wqen k wq7 wq3 wq1 wq0 wq6 wqx wqe R:=by kernel_rfl
def wq3o(k:Nat){R:Type}:= @wqen k (@wq1r k) (@wq1g k) (@wq11 k) (@wqo k) (@wq26 k) (@wq1z k) (@wq8m k) R
theorem wqkt(k:Nat): DOK Tryz.prog 76 (h_config_reader_domain.run (@wq3o k)):=dok h_config_reader_domain (wqem k (@wq1r k) (@wq1g k) (@wq11 k) (@wqo k) (@wq26 k) (@wq1z k) (@wq8m k)) Tryz.f76 k (ok1 (wq6b k) (ok1 (wqa5 k) (ok1 (wq8g k) (ok1 (wq67 k) (ok1 (wqbl k) (ok1 (wq6v k) (ok1 (wqoa k) ok0))))))) (by kernel_rfl) (by kernel_rfl) fun R=>wqks k (@wq1r k) (@wq1g k) (@wq11 k) (@wqo k) (@wq26 k) (@wq1z k) (@wq8m k) R
def h_config_reader_root:Sh:=⟨[.o 1 79 0 [.s kdT72,.w 21 64 (.pr .str (.sl kI)),.w 51 57 kdT56,.a .flt]],some ([.o 1 79 0 [.s kdT72,.w 21 64 (.pr .str (.sl kI)),.w 51 57 kdT56,.a .flt]],[]),some ([.o 1 79 0 [.s kdT72,.w 21 64 (.pr .str (.sl kI)),.w 51 57 kdT56,.a .flt]],[.i 29 (.g [.a kI,.a kI])])⟩
def u_config_reader_root_1005:Cu:=⟨1,[0,30,31,32],[.o 1 79 0 [.s kdT72,.w 21 64 (.pr .str (.sl kI)),.w 51 57 kdT56,.a .flt],.r 1 0,.s kI,.a kI,.a kI]⟩
def wq8o(k:Nat)(wq7:wq24)(wq3:wq12)(wqg:wq2o)(wq4:wq1l)(wq1:wqs)(wq1d:wq4l)(wq0:wqn)(wq16:wq45): Cxt:=⟨[h_config_gives.e 69 wq7,h_field_Seen_Known.e 70 wq3,h_ratio_Parse.e 71 wqg,h_config_reader_ratio.e 72 wq4,h_config_reader_must.e 73 wq1,h_config_reader_items.e 74 wq1d,h_config_reader_fault.e 75 wq0,h_config_reader_domain.e 76 wq16],[1],[(1005,u_config_reader_root_1005.spec)],[]⟩
def wqc4(k:Nat)(wq7:wq24)(wq3:wq12)(wqg:wq2o)(wq4:wq1l)(wq1:wqs)(wq1d:wq4l)(wq0:wqn)(wq16:wq45){R:Type}(E1005:((List dT72)→(List ((List UInt8)×(List Int)))→(List dT56)→Nat→(List Int)→Int→Int→Option R))(s0:(List dT72))(s1:(List ((List UInt8)×(List Int))))(s2:(List dT56))(s3:Nat)(s4:(List Int))(s5 s6:Int)(K:((List dT72)→(List ((List UInt8)×(List Int)))→(List dT56)→Nat→Option R))(E:((List dT72)→(List ((List UInt8)×(List Int)))→(List dT56)→Nat→Int→Int→Option R)): Option R:=cond (decide (s6<s5)) (cond (inb s6 (s4.length:Int)) (cond (decide (s6≥16)) (wq0 R s0 (s4.getD s6.toNat kI.zero) 9 (fun y12 y13=>E s0 s1 s2 s3 y12 y13)) (wq16 R s0 s1 s2 s3 (s4.getD s6.toNat kI.zero) (fun y12 y13 y14 y15=>E1005 y12 y13 y14 y15 s4 s5 (@Go.IntKind.wrap Go.IntKind.i64 (s6+1))) E)) none) (K s0 s1 s2 s3)
def wqbn(k:Nat)(wq7:wq24)(wq3:wq12)(wqg:wq2o)(wq4:wq1l)(wq1:wqs)(wq1d:wq4l)(wq0:wqn)(wq16:wq45){R:Type}(E1005:((List dT72)→(List ((List UInt8)×(List Int)))→(List dT56)→Nat→(List Int)→Int→Int→Option R))(x0:(List dT72))(x1:(List ((List UInt8)×(List Int))))(x2:(List dT56))(x3:Nat)(K:((List dT72)→(List ((List UInt8)×(List Int)))→(List dT56)→Nat→Option R))(E:((List dT72)→(List ((List UInt8)×(List Int)))→(List dT56)→Nat→Int→Int→Option R)): Option R:=wq3 R x0 0 [[110,101,97,114],[100,111,109,97,105,110,115]] (fun y9 y10=>wq7 R y9 y10 (fun y11=>wqg R [48,46,56] (fun y12 y13=>wq4 R x0 0 [110,101,97,114] y12 (fun y14=>wq1 R x0 0 [100,111,109,97,105,110,115] (fun y15=>wq1d R x0 0 [100,111,109,97,105,110,115] (fun y16=>E1005 x0 x1 x2 y14 y16 (y16.length:Int) 0) (fun y16 y17=>E x0 x1 x2 y14 y16 y17)) (fun y15 y16=>E x0 x1 x2 y14 y15 y16)) (fun y14 y15=>E x0 x1 x2 y12 y14 y15))) (fun y11 y12=>E x0 x1 x2 x3 y11 y12))
def wq5x(k:Nat)(wq7:wq24)(wq3:wq12)(wqg:wq2o)(wq4:wq1l)(wq1:wqs)(wq1d:wq4l)(wq0:wqn)(wq16:wq45){R:Type}: Nat→(List dT72)→(List ((List UInt8)×(List Int)))→(List dT56)→Nat→(List Int)→Int→Int→((List dT72)→(List ((List UInt8)×(List Int)))→(List dT56)→Nat→Option R)→((List dT72)→(List ((List UInt8)×(List Int)))→(List dT56)→Nat→Int→Int→Option R)→Option R
 |0,_,_,_,_,_,_,_,_,_=>none
 |n+1,s0,s1,s2,s3,s4,s5,s6,K,E=>wqc4 k wq7 wq3 wqg wq4 wq1 wq1d wq0 wq16 (fun s0 s1 s2 s3 s4 s5 s6=>wq5x k wq7 wq3 wqg wq4 wq1 wq1d wq0 wq16 n s0 s1 s2 s3 s4 s5 s6 K E) s0 s1 s2 s3 s4 s5 s6 K E
theorem wqg8(k:Nat)(wq7:wq24)(wq3:wq12)(wqg:wq2o)(wq4:wq1l)(wq1:wqs)(wq1d:wq4l)(wq0:wqn)(wq16:wq45){R:Type}: ∀(I:Nat→St→Option R) (n:Nat),h_config_reader_root.lp u_config_reader_root_1005 (wq8o k wq7 wq3 wqg wq4 wq1 wq1d wq0 wq16).cx k Tryz.f37 1005 [1,1,1,1,1,0] I n=wq5x k wq7 wq3 wqg wq4 wq1 wq1d wq0 wq16 n:=h_config_reader_root.lok u_config_reader_root_1005 (B:=wqc4 k wq7 wq3 wqg wq4 wq1 wq1d wq0 wq16) (L:=wq5x k wq7 wq3 wqg wq4 wq1 wq1d wq0 wq16) (fun I=>by kernel_rfl) (fun I=>by kernel_rfl) (fun n=>by kernel_rfl) (fun _ _ _ _=>rfl)
theorem wqob(k:Nat)(wq7:wq24)(wq3:wq12)(wqg:wq2o)(wq4:wq1l)(wq1:wqs)(wq1d:wq4l)(wq0:wqn)(wq16:wq45)(R:Type): h_config_reader_root.at (wq8o k wq7 wq3 wqg wq4 wq1 wq1d wq0 wq16) k Tryz.f37 R=h_config_reader_root.glue (l:=h_config_reader_root.ps) (u:=u_config_reader_root_1005.fs) (fun E1005=>@wqbn k wq7 wq3 wqg wq4 wq1 wq1d wq0 wq16 R E1005) (h_config_reader_root.lp u_config_reader_root_1005 (wq8o k wq7 wq3 wqg wq4 wq1 wq1d wq0 wq16).cx k Tryz.f37 1005 [1,1,1,1,1,0] (fun _ _=>none) k):=by kernel_rfl
def wqbo(k:Nat){R:Type}(x0:(List dT72))(x1:(List ((List UInt8)×(List Int))))(x2:(List dT56))(x3:Nat)(K:((List dT72)→(List ((List UInt8)×(List Int)))→(List dT56)→Nat→Option R))(E:((List dT72)→(List ((List UInt8)×(List Int)))→(List dT56)→Nat→Int→Int→Option R)): Option R:=wqbn k (@wq1r k) (@wq1g k) (@wq2i k) (@wq22 k) (@wq11 k) (@wq32 k) (@wqo k) (@wq3o k) (fun s0 s1 s2 s3 s4 s5 s6=>wq5x k (@wq1r k) (@wq1g k) (@wq2i k) (@wq22 k) (@wq11 k) (@wq32 k) (@wqo k) (@wq3o k) k s0 s1 s2 s3 s4 s5 s6 K E) x0 x1 x2 x3 K E
theorem wqoc(k:Nat): DOK Tryz.prog 37 (h_config_reader_root.run (@wqbo k)):=dok h_config_reader_root (wq8o k (@wq1r k) (@wq1g k) (@wq2i k) (@wq22 k) (@wq11 k) (@wq32 k) (@wqo k) (@wq3o k)) Tryz.f37 k (ok1 (wq6b k) (ok1 (wqa5 k) (ok1 (wqki k) (ok1 (wqf7 k) (ok1 (wq8g k) (ok1 (wqf6 k) (ok1 (wq67 k) (ok1 (wqkt k) ok0)))))))) (by kernel_rfl) (by kernel_rfl) fun R=>h_config_reader_root.f1 u_config_reader_root_1005 (wqbn k (@wq1r k) (@wq1g k) (@wq2i k) (@wq22 k) (@wq11 k) (@wq32 k) (@wqo k) (@wq3o k)) (wqob k (@wq1r k) (@wq1g k) (@wq2i k) (@wq22 k) (@wq11 k) (@wq32 k) (@wqo k) (@wq3o k) R) (wqg8 k (@wq1r k) (@wq1g k) (@wq2i k) (@wq22 k) (@wq11 k) (@wq32 k) (@wqo k) (@wq3o k) (fun _ _=>none) k) (by kernel_rfl)
def h_lex_sign:Sh:=⟨[.a (.int .u8)],some ([],[.a .bool]),none⟩
def wq1ba(k:Nat): Cxt:=⟨[],[],[],[]⟩
def wq1bb(k:Nat){R:Type}(x0:Int)(K:(Bool→Option R)): Option R:=K (cond (cond (cond (cond (cond (cond (decide (x0≥97)) (decide (x0≤122)) false) true (cond (decide (x0≥65)) (decide (x0≤90)) false)) true (cond (decide (x0≥48)) (decide (x0≤57)) false)) true (x0 == 95)) true (x0 == 45)) true (x0 == 46))
def wqwj:=@wq1bb
theorem wq1bc(k:Nat): DOK Tryz.prog 235 (h_lex_sign.run (@wqwj k)):=dok h_lex_sign (wq1ba k) Tryz.f235 k ok0 (by kernel_rfl) (by kernel_rfl) fun R=>by kernel_rfl
def wq1bd(k:Nat): Ent:=h_lex_sign.e 235 (@wqwj k)
def h_lex_Signs:Sh:=⟨[.a .str],some ([],[.a .bool]),none⟩
def u_lex_Signs_1002:Cu:=⟨0,[0,5,6],[.a .str,.a kI,.a kI]⟩
def wqzs(k:Nat): Cxt:=⟨[wq1bd k],[],[(1002,u_lex_Signs_1002.spec)],[]⟩
def wqku(k:Nat){R:Type}(E1002:((List UInt8)→Int→Int→Option R))(s0:(List UInt8))(s1 s2:Int)(K:(Bool→Option R)): Option R:=cond (decide (s2<s1)) (cond (inb s2 (s0.length:Int)) (wqwj k ((s0.getD s2.toNat 0).toNat:Int) (fun y7=>cond (!y7) (K false) (E1002 s0 s1 (@Go.IntKind.wrap Go.IntKind.i64 (s2+1))))) none) (K (!(s0 == [])))
def wqzt(k:Nat){R:Type}(E1002:((List UInt8)→Int→Int→Option R))(x0:(List UInt8))(K:(Bool→Option R)): Option R:=E1002 x0 (x0.length:Int) 0
def wqco(k:Nat){R:Type}: Nat→(List UInt8)→Int→Int→(Bool→Option R)→Option R
 |0,_,_,_,_=>none
 |n+1,s0,s1,s2,K=>wqku k (fun s0 s1 s2=>wqco k n s0 s1 s2 K) s0 s1 s2 K
theorem wqpr(k:Nat){R:Type}: ∀(I:Nat→St→Option R) (n:Nat),h_lex_Signs.lp u_lex_Signs_1002 (wqzs k).cx k Tryz.f202 1002 [1,0,1,0] I n=wqco k n:=h_lex_Signs.lok u_lex_Signs_1002 (B:=wqku k) (L:=wqco k) (fun I=>by kernel_rfl) (fun I=>by kernel_rfl) (fun n=>by kernel_rfl) (fun _ _ _ _=>rfl)
def wqlz(k:Nat){R:Type}(x0:(List UInt8))(K:(Bool→Option R)): Option R:=wqzt k (fun s0 s1 s2=>wqco k k s0 s1 s2 K) x0 K
theorem wqzu(k:Nat): DOK Tryz.prog 202 (h_lex_Signs.run (@wqlz k)):=dok h_lex_Signs (wqzs k) Tryz.f202 k (ok1 (wq1bc k) ok0) (by kernel_rfl) (by kernel_rfl) fun R=>h_lex_Signs.f1 u_lex_Signs_1002 (wqzt k) (by kernel_rfl) (wqpr k (fun _ _=>none) k) (by kernel_rfl)
def wqzv(k:Nat): Ent:=h_lex_Signs.e 202 (@wqlz k)
def h_show_apart:Sh:=⟨[.s .str],some ([],[.a .bool]),none⟩
def u_show_apart_1003:Cu:=⟨0,[3,7,8,9],[.m 73 .one .bool,.s .str,.a kI,.a kI]⟩
def wqwk(k:Nat): Cxt:=⟨[wqzv k],[],[(1003,u_show_apart_1003.spec)],[]⟩
def wqjn(k:Nat){R:Type}(E1003:((List (List UInt8×Bool))→(List (List UInt8))→Int→Int→Option R))(s0:(List (List UInt8×Bool)))(s1:(List (List UInt8)))(s2 s3:Int)(K:(Bool→Option R)): Option R:=cond (decide (s3<s2)) (cond (inb s3 (s1.length:Int)) (wqlz k (s1.getD s3.toNat Kd.str.zero) (fun y8=>cond ((cond (!y8) true (decide (((s1.getD s3.toNat Kd.str.zero).length:Int)>64))) == false) (cond (mget Kd.bool (s1.getD s3.toNat Kd.str.zero) s0) (K false) (E1003 (mset Kd.bool (s1.getD s3.toNat Kd.str.zero) true s0) s1 s2 (@Go.IntKind.wrap Go.IntKind.i64 (s3+1)))) (K false))) none) (K true)
def wqwl(k:Nat){R:Type}(E1003:((List (List UInt8×Bool))→(List (List UInt8))→Int→Int→Option R))(x0:(List (List UInt8)))(K:(Bool→Option R)): Option R:=E1003 [] x0 (x0.length:Int) 0
def wqb5(k:Nat){R:Type}: Nat→(List (List UInt8×Bool))→(List (List UInt8))→Int→Int→(Bool→Option R)→Option R
 |0,_,_,_,_,_=>none
 |n+1,s0,s1,s2,s3,K=>wqjn k (fun s0 s1 s2 s3=>wqb5 k n s0 s1 s2 s3 K) s0 s1 s2 s3 K
theorem wqod(k:Nat){R:Type}: ∀(I:Nat→St→Option R) (n:Nat),h_show_apart.lp u_show_apart_1003 (wqwk k).cx k Tryz.f165 1003 [1,1,0,1,0] I n=wqb5 k n:=h_show_apart.lok u_show_apart_1003 (B:=wqjn k) (L:=wqb5 k) (fun I=>by kernel_rfl) (fun I=>by kernel_rfl) (fun n=>by kernel_rfl) (fun _ _ _ _=>rfl)
def wqoe(k:Nat){R:Type}(x0:(List (List UInt8)))(K:(Bool→Option R)): Option R:=wqwl k (fun s0 s1 s2 s3=>wqb5 k k s0 s1 s2 s3 K) x0 K
theorem wq15r(k:Nat): DOK Tryz.prog 165 (h_show_apart.run (@wqoe k)):=dok h_show_apart (wqwk k) Tryz.f165 k (ok1 (wqzu k) ok0) (by kernel_rfl) (by kernel_rfl) fun R=>h_show_apart.f1 u_show_apart_1003 (wqwl k) (by kernel_rfl) (wqod k (fun _ _=>none) k) (by kernel_rfl)
def wq15s(k:Nat): Ent:=h_show_apart.e 165 (@wqoe k)
def wqsy:List LS:=[.obj 1 [.sl (.pr (.int .i64) (.pr (.int .i64) (.pr (.int .i64) (.pr .str .bool))))],.obj 2 [.any,.any]]
def wqsz(k:Nat): CTab:=CTab.nil
def wqg9{R:Type}(K:((List dT156)→Int→Int→Option R)): Out→Option R
 |.ret [] [(1,.var 110 [.v (.sl (.pr (.int .i64) (.pr (.int .i64) (.pr (.int .i64) (.pr .str .bool))))) y0]),(2,.var 29 [.v (.int .i64) y1,.v (.int .i64) y2])]=>K y0 y1 y2
 |_=>none
def wqps:RetSpec:=⟨[],[(1,.obj 1 [.sl (.pr (.int .i64) (.pr (.int .i64) (.pr (.int .i64) (.pr .str .bool))))]),(2,.obj 2 [.any,.any])],[]⟩
def wqwm:List (Nat×CutSpec):=[]
def wqu5:List (Nat×Plan):=[(7,(.of [(0,2),(1,0),(2,0)] .done))]
def wqit(k:Nat): Ctx:=⟨tyT,wqwm,wqsz k,[],[1,2],wqu5,@SH⟩
def wqcp:Code:=Tryz.f149.body.getD .skip
def wqt0(k:Nat){R:Type}(x0:(List dT156))(x1 x2:Int)(K:((List dT156)→Int→Int→Option R)): Option R:=K x0 x1 x2
theorem wqwn(k:Nat){R:Type}(I:Nat→St→Option R)(x0:(List dT156))(x1 x2:Int)(K:((List dT156)→Int→Int→Option R)): fnCK (wqit k) k (at_ [1] wqcp) 12 [] wqps [.ptr 1 0,.ptr 2 0] 5 (.nilif) [(1,.var 110 [.v (.sl (.pr (.int .i64) (.pr (.int .i64) (.pr (.int .i64) (.pr .str .bool))))) x0]),(2,.var 29 [.v (.int .i64) x1,.v (.int .i64) x2])] (wqg9 K)=wqt0 k x0 x1 x2 K:=by kernel_rfl
def wqgp(k:Nat){R:Type}(x0:(List dT156))(x1 x2:Int)(K:((List dT156)→Int→Int→Option R)): Option R:=wqt0 k x0 x1 x2 K
theorem wqwo(k:Nat){R:Type}(x0:(List dT156))(x1 x2:Int)(K:((List dT156)→Int→Int→Option R)): fnCK (wqit k) k (at_ [1] wqcp) 12 [] wqps [.ptr 1 0,.ptr 2 0] 5 (.nilif) [(1,.var 110 [.v (.sl (.pr (.int .i64) (.pr (.int .i64) (.pr (.int .i64) (.pr .str .bool))))) x0]),(2,.var 29 [.v (.int .i64) x1,.v (.int .i64) x2])] (wqg9 K)=wqgp k x0 x1 x2 K:=by
 exact wqwn k (fun _ _=>none) x0 x1 x2 K
def wqna(k:Nat){R:Type}: PV→List PV→List (Nm×HObj)→(Out→Option R)→Option R
 |.nilif,[.ptr 1 0,.ptr 2 0],[(1,.var 110 [.v (.sl (.pr (.int .i64) (.pr (.int .i64) (.pr (.int .i64) (.pr .str .bool))))) x0]),(2,.var 29 [.v (.int .i64) x1,.v (.int .i64) x2])],K=>wqgp k x0 x1 x2 (fun y0 y1 y2=>K (.ret [] [(1,.var 110 [.v (.sl (.pr (.int .i64) (.pr (.int .i64) (.pr (.int .i64) (.pr .str .bool))))) y0]),(2,.var 29 [.v (.int .i64) y1,.v (.int .i64) y2])]))
 |_,_,_,_=>none
theorem wqwp(k:Nat): (wqsz k).Ok Tryz.prog:=CTab.nil_ok
theorem wq119(k:Nat){rec:PV}{ps:List PV}{hp:List (Nm×HObj)}{R:Type}{K:Out→Option R}{r:R}(h:wqna k rec ps hp K=some r): DoesToD Tryz.prog 149 rec ps hp fun out=>K out=some r:=by
 unfold wqna at h
 split at h
 ·rw[←wqwo]at h
  have:=wqze (P:=Tryz.prog) (cx:=wqit k) (f:=149) ⟨tyT_ok,wqwp k,fun _ _=>rfl⟩ (by kernel_rfl) (fn:=Tryz.f149) (id:=0) (ops:=opsAt (at_ [0] wqcp)) (c:=at_ [1] wqcp) (by kernel_rfl) (by kernel_rfl) (by kernel_rfl) (rs:=[]) (by kernel_rfl) (by kernel_rfl) h
  exact this.mono fun out ho=>by
   unfold wqg9 at ho
   split at ho<;>first|exact ho|cases ho
 ·cases h
def wqt1(k:Nat): CTab:=CTab.nil
def wqga{R:Type}(K:((List dT156)→Int→Int→Option R)): Out→Option R
 |.ret [] [(1,.var 110 [.v (.sl (.pr (.int .i64) (.pr (.int .i64) (.pr (.int .i64) (.pr .str .bool))))) y0]),(2,.var 29 [.v (.int .i64) y1,.v (.int .i64) y2])]=>K y0 y1 y2
 |_=>none
def wqpt:RetSpec:=⟨[],[(1,.obj 1 [.sl (.pr (.int .i64) (.pr (.int .i64) (.pr (.int .i64) (.pr .str .bool))))]),(2,.obj 2 [.any,.any])],[]⟩
def wqwq:List (Nat×CutSpec):=[]
def wqu6:List (Nat×Plan):=[(7,(.of [(0,2),(1,0),(2,0)] .done))]
def wqiu(k:Nat): Ctx:=⟨tyT,wqwq,wqt1 k,[],[1,2],wqu6,@SH⟩
def wqcq:Code:=Tryz.f149.body.getD .skip
def wqt2(k:Nat){R:Type}(x0:(List dT156))(x1 x2 x3 x4:Int)(K:((List dT156)→Int→Int→Option R)): Option R:=K [] x3 x4
theorem wqwr(k:Nat){R:Type}(I:Nat→St→Option R)(x0:(List dT156))(x1 x2 x3 x4:Int)(K:((List dT156)→Int→Int→Option R)): fnCK (wqiu k) k (at_ [1] wqcq) 12 [] wqpt [.ptr 1 0,.ptr 2 0] 5 (.ifc 29 (.agg [.v (.int .i64) x3,.v (.int .i64) x4])) [(1,.var 110 [.v (.sl (.pr (.int .i64) (.pr (.int .i64) (.pr (.int .i64) (.pr .str .bool))))) x0]),(2,.var 29 [.v (.int .i64) x1,.v (.int .i64) x2])] (wqga K)=wqt2 k x0 x1 x2 x3 x4 K:=by kernel_rfl
def wqgq(k:Nat){R:Type}(x0:(List dT156))(x1 x2 x3 x4:Int)(K:((List dT156)→Int→Int→Option R)): Option R:=wqt2 k x0 x1 x2 x3 x4 K
theorem wqws(k:Nat){R:Type}(x0:(List dT156))(x1 x2 x3 x4:Int)(K:((List dT156)→Int→Int→Option R)): fnCK (wqiu k) k (at_ [1] wqcq) 12 [] wqpt [.ptr 1 0,.ptr 2 0] 5 (.ifc 29 (.agg [.v (.int .i64) x3,.v (.int .i64) x4])) [(1,.var 110 [.v (.sl (.pr (.int .i64) (.pr (.int .i64) (.pr (.int .i64) (.pr .str .bool))))) x0]),(2,.var 29 [.v (.int .i64) x1,.v (.int .i64) x2])] (wqga K)=wqgq k x0 x1 x2 x3 x4 K:=by
 exact wqwr k (fun _ _=>none) x0 x1 x2 x3 x4 K
def wqnb(k:Nat){R:Type}: PV→List PV→List (Nm×HObj)→(Out→Option R)→Option R
 |.ifc 29 (.agg [.v (.int .i64) x3,.v (.int .i64) x4]),[.ptr 1 0,.ptr 2 0],[(1,.var 110 [.v (.sl (.pr (.int .i64) (.pr (.int .i64) (.pr (.int .i64) (.pr .str .bool))))) x0]),(2,.var 29 [.v (.int .i64) x1,.v (.int .i64) x2])],K=>wqgq k x0 x1 x2 x3 x4 (fun y0 y1 y2=>K (.ret [] [(1,.var 110 [.v (.sl (.pr (.int .i64) (.pr (.int .i64) (.pr (.int .i64) (.pr .str .bool))))) y0]),(2,.var 29 [.v (.int .i64) y1,.v (.int .i64) y2])]))
 |_,_,_,_=>none
theorem wqwt(k:Nat): (wqt1 k).Ok Tryz.prog:=CTab.nil_ok
theorem wq11a(k:Nat){rec:PV}{ps:List PV}{hp:List (Nm×HObj)}{R:Type}{K:Out→Option R}{r:R}(h:wqnb k rec ps hp K=some r): DoesToD Tryz.prog 149 rec ps hp fun out=>K out=some r:=by
 unfold wqnb at h
 split at h
 ·rw[←wqws]at h
  have:=wqze (P:=Tryz.prog) (cx:=wqiu k) (f:=149) ⟨tyT_ok,wqwt k,fun _ _=>rfl⟩ (by kernel_rfl) (fn:=Tryz.f149) (id:=0) (ops:=opsAt (at_ [0] wqcq)) (c:=at_ [1] wqcq) (by kernel_rfl) (by kernel_rfl) (by kernel_rfl) (rs:=[]) (by kernel_rfl) (by kernel_rfl) h
  exact this.mono fun out ho=>by
   unfold wqga at ho
   split at ho<;>first|exact ho|cases ho
 ·cases h
def h_strings_HasPrefix:Sh:=⟨[.a .str,.a .str],some ([],[.a .bool]),none⟩
def wqpu(k:Nat): Cxt:=⟨[wqjg k],[],[],[]⟩
def wqpv(k:Nat){R:Type}(x0 x1:(List UInt8))(K:(Bool→Option R)): Option R:=wq8x k x0 x1 K
def wqcr:=@wqpv
theorem wqpw(k:Nat): DOK Tryz.prog 41 (h_strings_HasPrefix.run (@wqcr k)):=dok h_strings_HasPrefix (wqpu k) Tryz.f41 k (ok1 (wqjf k) ok0) (by kernel_rfl) (by kernel_rfl) fun R=>by kernel_rfl
def wqpx(k:Nat): Ent:=h_strings_HasPrefix.e 41 (@wqcr k)
def h_lex_dash:Sh:=⟨[.a .str],some ([],[.a .bool]),none⟩
abbrev wqro:Type 1:=(R:Type)→(List UInt8)→(Bool→Option R)→Option R
def wq1be(k:Nat): Cxt:=⟨[wqpx k],[],[],[]⟩
def wq1bf(k:Nat){R:Type}(x0:(List UInt8))(K:(Bool→Option R)): Option R:=cond ((x0 == [(45:UInt8)]) == false) (wqcr k x0 [45,32] K) (K true)
def wqhp:=@wq1bf
theorem wq13k(k:Nat): DOK Tryz.prog 193 (h_lex_dash.run (@wqhp k)):=dok h_lex_dash (wq1be k) Tryz.f193 k (ok1 (wqpw k) ok0) (by kernel_rfl) (by kernel_rfl) fun R=>by kernel_rfl
def wq1bg(k:Nat): Ent:=h_lex_dash.e 193 (@wqhp k)
def h_lex_key:Sh:=⟨[.a .str],some ([],[.a .str]),none⟩
abbrev wqwu:Type 1:=(R:Type)→(List UInt8)→((List UInt8)→Option R)→Option R
def wq1dj(k:Nat): Cxt:=⟨[wq13a k,wqzv k],[],[],[]⟩
def wq1dk(k:Nat){R:Type}(x0:(List UInt8))(K:((List UInt8)→Option R)): Option R:=wq87 k x0 58 (fun y4 y5 y6=>cond ((!y6) == false) (wqlz k y4 (fun y7=>cond ((!(((!y7) == false)&&((!(y5 == [])) == true))) || (inb 0 (y5.length:Int))) (cond (cond (!y7) true (cond (!(y5 == [])) (((y5.getD (Int.toNat 0) 0).toNat:Int) != 32) false)) (K []) (K y4)) none)) (K []))
def wqm0:=@wq1dk
theorem wq17l(k:Nat): DOK Tryz.prog 195 (h_lex_key.run (@wqm0 k)):=dok h_lex_key (wq1dj k) Tryz.f195 k (ok1 (wqsu k) (ok1 (wqzu k) ok0)) (by kernel_rfl) (by kernel_rfl) fun R=>by kernel_rfl
def wq1dl(k:Nat): Ent:=h_lex_key.e 195 (@wqm0 k)
def h_lex_lexer_gives:Sh:=⟨[.o 1 200 0 [.a kI,.a kI,.a .str,.a kI,.w 21 157 kdT156],.a kI],some ([.o 1 200 0 [.a kI,.a kI,.a .str,.a kI,.w 21 157 kdT156]],[]),some ([.o 1 200 0 [.a kI,.a kI,.a .str,.a kI,.w 21 157 kdT156]],[.i 29 (.g [.a kI,.a kI])])⟩
abbrev wqdr:Type 1:=(R:Type)→Int→Int→(List UInt8)→Int→(List dT156)→Int→(Int→Int→(List UInt8)→Int→(List dT156)→Option R)→(Int→Int→(List UInt8)→Int→(List dT156)→Int→Int→Option R)→Option R
def wqu7(k:Nat): Cxt:=⟨[],[1],[],[]⟩
def wqu8(k:Nat){R:Type}(x0 x1:Int)(x2:(List UInt8))(x3:Int)(x4:(List dT156))(x5:Int)(K:(Int→Int→(List UInt8)→Int→(List dT156)→Option R))(E:(Int→Int→(List UInt8)→Int→(List dT156)→Int→Int→Option R)): Option R:=E x0 x1 x2 x3 x4 x5 x0
def wq1y:=@wqu8
theorem wq92(k:Nat): DOK Tryz.prog 191 (h_lex_lexer_gives.run (@wq1y k)):=dok h_lex_lexer_gives (wqu7 k) Tryz.f191 k ok0 (by kernel_rfl) (by kernel_rfl) fun R=>by kernel_rfl
def wqb6(k:Nat): Ent:=h_lex_lexer_gives.e 191 (@wq1y k)
def h_lex_lexer_piece:Sh:=⟨[.o 1 200 0 [.a kI,.a kI,.a .str,.a kI,.w 21 157 kdT156],.a kI,.a .str,.a .bool,.a kI],some ([.o 1 200 0 [.a kI,.a kI,.a .str,.a kI,.w 21 157 kdT156]],[]),none⟩
abbrev wqds:Type 1:=(R:Type)→Int→Int→(List UInt8)→Int→(List dT156)→Int→(List UInt8)→Bool→Int→(Int→Int→(List UInt8)→Int→(List dT156)→Option R)→Option R
def wqu9(k:Nat): Cxt:=⟨[],[1],[],[(0,(.of [(0,1),(1,1),(2,1),(3,1),(5,1),(6,1),(7,1),(8,1),(9,1),(11,1),(12,1),(13,1),(14,1),(16,1),(17,1),(18,1),(21,1),(22,1),(4,1),(10,1),(15,1),(19,1),(20,1),(23,1),(24,0),(25,0),(26,1),(27,1),(28,0)] .done))]⟩
def wqua(k:Nat){R:Type}(x0 x1:Int)(x2:(List UInt8))(x3:Int)(x4:(List dT156))(x5:Int)(x6:(List UInt8))(x7:Bool)(x8:Int)(K:(Int→Int→(List UInt8)→Int→(List dT156)→Option R)): Option R:=cond (fits x4.length (@List.length (@Kd.T kdT156) [(x5,(x0,((@Go.IntKind.wrap Go.IntKind.i64 (x1+x3)),(x6,x7))))]) 48) (K x0 x1 x2 (@Go.IntKind.wrap Go.IntKind.i64 (x3+x8)) (x4++[(x5,(x0,((@Go.IntKind.wrap Go.IntKind.i64 (x1+x3)),(x6,x7))))])) none
def wq5c:=@wqua
theorem wqjo(k:Nat): DOK Tryz.prog 194 (h_lex_lexer_piece.run (@wq5c k)):=dok h_lex_lexer_piece (wqu9 k) Tryz.f194 k ok0 (by kernel_rfl) (by kernel_rfl) fun R=>by kernel_rfl
def wqub(k:Nat): Ent:=h_lex_lexer_piece.e 194 (@wq5c k)
def h_lex_lexer_rest:Sh:=⟨[.o 1 200 0 [.a kI,.a kI,.a .str,.a kI,.w 21 157 kdT156]],some ([.o 1 200 0 [.a kI,.a kI,.a .str,.a kI,.w 21 157 kdT156]],[.a .str]),none⟩
def u_lex_lexer_rest_1001:Cu:=⟨1,[0],[.o 1 200 0 [.a kI,.a kI,.a .str,.a kI,.w 21 157 kdT156],.r 1 0]⟩
def wqkv(k:Nat): Cxt:=⟨[],[1],[(1001,u_lex_lexer_rest_1001.spec)],[(1,(.of [(0,1),(1,1),(2,1),(4,1),(5,1),(6,1),(7,1),(3,1),(8,1),(9,1),(10,1),(11,1),(12,1),(13,1),(14,1),(15,1),(17,1),(18,1),(19,1),(16,1),(20,1),(21,1),(22,1),(23,1)] .done)),(3,(.of [(0,1),(1,1),(2,1),(3,1),(5,1),(6,1),(7,1),(4,1),(8,1),(9,1),(10,1)] .done))]⟩
def wqf8(k:Nat){R:Type}(E1001:(Int→Int→(List UInt8)→Int→(List dT156)→Option R))(s0 s1:Int)(s2:(List UInt8))(s3:Int)(s4:(List dT156))(K:(Int→Int→(List UInt8)→Int→(List dT156)→(List UInt8)→Option R)): Option R:=cond ((!((decide (s3<(s2.length:Int))) == true)) || (inb s3 (s2.length:Int))) (cond (cond (decide (s3<(s2.length:Int))) (((s2.getD s3.toNat 0).toNat:Int) == 32) false) (E1001 s0 s1 s2 (@Go.IntKind.wrap Go.IntKind.i64 (s3+1)) s4) (cond (bnd s3 (s2.length:Int) (s2.length:Int)) (K s0 s1 s2 s3 s4 (cut s2 s3 (s2.length:Int))) none)) none
def wqkw(k:Nat){R:Type}(E1001:(Int→Int→(List UInt8)→Int→(List dT156)→Option R))(x0 x1:Int)(x2:(List UInt8))(x3:Int)(x4:(List dT156))(K:(Int→Int→(List UInt8)→Int→(List dT156)→(List UInt8)→Option R)): Option R:=E1001 x0 x1 x2 x3 x4
def wq81(k:Nat){R:Type}: Nat→Int→Int→(List UInt8)→Int→(List dT156)→(Int→Int→(List UInt8)→Int→(List dT156)→(List UInt8)→Option R)→Option R
 |0,_,_,_,_,_,_=>none
 |n+1,s0,s1,s2,s3,s4,K=>wqf8 k (fun s0 s1 s2 s3 s4=>wq81 k n s0 s1 s2 s3 s4 K) s0 s1 s2 s3 s4 K
theorem wqiv(k:Nat){R:Type}: ∀(I:Nat→St→Option R) (n:Nat),h_lex_lexer_rest.lp u_lex_lexer_rest_1001 (wqkv k).cx k Tryz.f192 1001 [1,0,0] I n=wq81 k n:=h_lex_lexer_rest.lok u_lex_lexer_rest_1001 (B:=wqf8 k) (L:=wq81 k) (fun I=>by kernel_rfl) (fun I=>by kernel_rfl) (fun n=>by kernel_rfl) (fun _ _ _ _=>rfl)
def wq6w(k:Nat){R:Type}(x0 x1:Int)(x2:(List UInt8))(x3:Int)(x4:(List dT156))(K:(Int→Int→(List UInt8)→Int→(List dT156)→(List UInt8)→Option R)): Option R:=wqkw k (fun s0 s1 s2 s3 s4=>wq81 k k s0 s1 s2 s3 s4 K) x0 x1 x2 x3 x4 K
theorem wqwv(k:Nat): DOK Tryz.prog 192 (h_lex_lexer_rest.run (@wq6w k)):=dok h_lex_lexer_rest (wqkv k) Tryz.f192 k ok0 (by kernel_rfl) (by kernel_rfl) fun R=>h_lex_lexer_rest.f1 u_lex_lexer_rest_1001 (wqkw k) (by kernel_rfl) (wqiv k (fun _ _=>none) k) (by kernel_rfl)
def wqww(k:Nat): Ent:=h_lex_lexer_rest.e 192 (@wq6w k)
def h_strings_IndexByte:Sh:=⟨[.a .str,.a (.int .u8)],some ([],[.a kI]),none⟩
abbrev wqbp:Type 1:=(R:Type)→(List UInt8)→Int→(Int→Option R)→Option R
def wqpy(k:Nat): Cxt:=⟨[wqjd k],[],[],[]⟩
def wqpz(k:Nat){R:Type}(x0:(List UInt8))(x1:Int)(K:(Int→Option R)): Option R:=wq8w k x0 x1 K
def wq2a:=@wqpz
theorem wqgr(k:Nat): DOK Tryz.prog 231 (h_strings_IndexByte.run (@wq2a k)):=dok h_strings_IndexByte (wqpy k) Tryz.f231 k (ok1 (wqjc k) ok0) (by kernel_rfl) (by kernel_rfl) fun R=>by kernel_rfl
def wqq0(k:Nat): Ent:=h_strings_IndexByte.e 231 (@wq2a k)
def h_lex_lexer_taken:Sh:=⟨[.o 1 200 0 [.a kI,.a kI,.a .str,.a kI,.w 21 157 kdT156],.a .str],some ([.o 1 200 0 [.a kI,.a kI,.a .str,.a kI,.w 21 157 kdT156]],[.a (.int .u8),.a kI]),some ([.o 1 200 0 [.a kI,.a kI,.a .str,.a kI,.w 21 157 kdT156]],[.i 29 (.g [.a kI,.a kI])])⟩
def wquc(k:Nat): Cxt:=⟨[wqb6 k,wqq0 k],[1],[],[(14,(.of [(0,1),(1,1),(3,1),(4,1),(2,0),(5,0),(6,1),(7,1)] .done))]⟩
def wqud(k:Nat){R:Type}(x0 x1:Int)(x2:(List UInt8))(x3:Int)(x4:(List dT156))(x5:(List UInt8))(K E:(Int→Int→(List UInt8)→Int→(List dT156)→Int→Int→Option R)): Option R:=cond (x5 == []) (wq1y k x0 x1 x2 x3 x4 3 (fun y10 y11 y12 y13 y14=>cond (inb 0 (x5.length:Int)) (cond (((x5.getD (Int.toNat 0) 0).toNat:Int) == 92) (cond (inb 0 (x5.length:Int)) (K y10 y11 y12 y13 y14 ((x5.getD (Int.toNat 0) 0).toNat:Int) 1) none) (cond (((x5.getD (Int.toNat 0) 0).toNat:Int) == 34) (cond (inb 0 (x5.length:Int)) (K y10 y11 y12 y13 y14 ((x5.getD (Int.toNat 0) 0).toNat:Int) 1) none) (cond (((x5.getD (Int.toNat 0) 0).toNat:Int) == 110) (K y10 y11 y12 y13 y14 10 1) (cond (((x5.getD (Int.toNat 0) 0).toNat:Int) == 116) (K y10 y11 y12 y13 y14 9 1) (cond (((x5.getD (Int.toNat 0) 0).toNat:Int) == 120) (cond (decide ((x5.length:Int)<3)) (wq1y k y10 y11 y12 y13 y14 3 (fun y15 y16 y17 y18 y19=>cond (inb 1 (x5.length:Int)) (cond (inb 2 (x5.length:Int)) (wq2a k [48,49,50,51,52,53,54,55,56,57,97,98,99,100,101,102] ((x5.getD (Int.toNat 1) 0).toNat:Int) (fun y20=>wq2a k [48,49,50,51,52,53,54,55,56,57,97,98,99,100,101,102] ((x5.getD (Int.toNat 2) 0).toNat:Int) (fun y21=>cond (cond (decide (y20<0)) true (decide (y21<0))) (wq1y k y15 y16 y17 y18 y19 3 (fun y22 y23 y24 y25 y26=>K y22 y23 y24 y25 y26 (@Go.IntKind.wrap Go.IntKind.u8 (@Go.IntKind.wrap Go.IntKind.i64 ((@Go.IntKind.wrap Go.IntKind.i64 ((16:Int)*y20))+y21))) 3) E) (K y15 y16 y17 y18 y19 (@Go.IntKind.wrap Go.IntKind.u8 (@Go.IntKind.wrap Go.IntKind.i64 ((@Go.IntKind.wrap Go.IntKind.i64 ((16:Int)*y20))+y21))) 3)))) none) none) E) (cond (inb 1 (x5.length:Int)) (cond (inb 2 (x5.length:Int)) (wq2a k [48,49,50,51,52,53,54,55,56,57,97,98,99,100,101,102] ((x5.getD (Int.toNat 1) 0).toNat:Int) (fun y15=>wq2a k [48,49,50,51,52,53,54,55,56,57,97,98,99,100,101,102] ((x5.getD (Int.toNat 2) 0).toNat:Int) (fun y16=>cond (cond (decide (y15<0)) true (decide (y16<0))) (wq1y k y10 y11 y12 y13 y14 3 (fun y17 y18 y19 y20 y21=>K y17 y18 y19 y20 y21 (@Go.IntKind.wrap Go.IntKind.u8 (@Go.IntKind.wrap Go.IntKind.i64 ((@Go.IntKind.wrap Go.IntKind.i64 ((16:Int)*y15))+y16))) 3) E) (K y10 y11 y12 y13 y14 (@Go.IntKind.wrap Go.IntKind.u8 (@Go.IntKind.wrap Go.IntKind.i64 ((@Go.IntKind.wrap Go.IntKind.i64 ((16:Int)*y15))+y16))) 3)))) none) none)) (wq1y k y10 y11 y12 y13 y14 3 (fun y15 y16 y17 y18 y19=>K y15 y16 y17 y18 y19 0 0) E)))))) none) E) (cond (inb 0 (x5.length:Int)) (cond (((x5.getD (Int.toNat 0) 0).toNat:Int) == 92) (cond (inb 0 (x5.length:Int)) (K x0 x1 x2 x3 x4 ((x5.getD (Int.toNat 0) 0).toNat:Int) 1) none) (cond (((x5.getD (Int.toNat 0) 0).toNat:Int) == 34) (cond (inb 0 (x5.length:Int)) (K x0 x1 x2 x3 x4 ((x5.getD (Int.toNat 0) 0).toNat:Int) 1) none) (cond (((x5.getD (Int.toNat 0) 0).toNat:Int) == 110) (K x0 x1 x2 x3 x4 10 1) (cond (((x5.getD (Int.toNat 0) 0).toNat:Int) == 116) (K x0 x1 x2 x3 x4 9 1) (cond (((x5.getD (Int.toNat 0) 0).toNat:Int) == 120) (cond (decide ((x5.length:Int)<3)) (wq1y k x0 x1 x2 x3 x4 3 (fun y10 y11 y12 y13 y14=>cond (inb 1 (x5.length:Int)) (cond (inb 2 (x5.length:Int)) (wq2a k [48,49,50,51,52,53,54,55,56,57,97,98,99,100,101,102] ((x5.getD (Int.toNat 1) 0).toNat:Int) (fun y15=>wq2a k [48,49,50,51,52,53,54,55,56,57,97,98,99,100,101,102] ((x5.getD (Int.toNat 2) 0).toNat:Int) (fun y16=>cond (cond (decide (y15<0)) true (decide (y16<0))) (wq1y k y10 y11 y12 y13 y14 3 (fun y17 y18 y19 y20 y21=>K y17 y18 y19 y20 y21 (@Go.IntKind.wrap Go.IntKind.u8 (@Go.IntKind.wrap Go.IntKind.i64 ((@Go.IntKind.wrap Go.IntKind.i64 ((16:Int)*y15))+y16))) 3) E) (K y10 y11 y12 y13 y14 (@Go.IntKind.wrap Go.IntKind.u8 (@Go.IntKind.wrap Go.IntKind.i64 ((@Go.IntKind.wrap Go.IntKind.i64 ((16:Int)*y15))+y16))) 3)))) none) none) E) (cond (inb 1 (x5.length:Int)) (cond (inb 2 (x5.length:Int)) (wq2a k [48,49,50,51,52,53,54,55,56,57,97,98,99,100,101,102] ((x5.getD (Int.toNat 1) 0).toNat:Int) (fun y10=>wq2a k [48,49,50,51,52,53,54,55,56,57,97,98,99,100,101,102] ((x5.getD (Int.toNat 2) 0).toNat:Int) (fun y11=>cond (cond (decide (y10<0)) true (decide (y11<0))) (wq1y k x0 x1 x2 x3 x4 3 (fun y12 y13 y14 y15 y16=>K y12 y13 y14 y15 y16 (@Go.IntKind.wrap Go.IntKind.u8 (@Go.IntKind.wrap Go.IntKind.i64 ((@Go.IntKind.wrap Go.IntKind.i64 ((16:Int)*y10))+y11))) 3) E) (K x0 x1 x2 x3 x4 (@Go.IntKind.wrap Go.IntKind.u8 (@Go.IntKind.wrap Go.IntKind.i64 ((@Go.IntKind.wrap Go.IntKind.i64 ((16:Int)*y10))+y11))) 3)))) none) none)) (wq1y k x0 x1 x2 x3 x4 3 (fun y10 y11 y12 y13 y14=>K y10 y11 y12 y13 y14 0 0) E)))))) none)
def wqex:=@wqud
theorem wque(k:Nat): DOK Tryz.prog 255 (h_lex_lexer_taken.run (@wqex k)):=dok h_lex_lexer_taken (wquc k) Tryz.f255 k (ok1 (wq92 k) (ok1 (wqgr k) ok0)) (by kernel_rfl) (by kernel_rfl) fun R=>by kernel_rfl
def wquf(k:Nat): Ent:=h_lex_lexer_taken.e 255 (@wqex k)
end Go.Proofs.YtabkhphoacmcdaaGreatDoor.Pvm
set_option maxHeartbeats 2000000
set_option maxRecDepth 100000
namespace Go.Proofs.YtabkhphoacmcdaaGreatDoor.Pvm
open Go Go.Proofs Go.RowKit
theorem wq15t (b g cap:Nat) (p:Value) (l:List UInt8) (cur:Array Value) (w:World) (hbk:w.heap[b]? = some (.cells #[p,.slice (some ⟨g,0,none⟩) l.length cap] 89 (0,0))) (h0:l≠[])
 (hg:w.heap[g]? = some (.cells cur 5 (0,0))) (hnc:l.length≤cap) (hcm:cap≤maxLen) (hcs:cur.size=cap) (htake:∀(j:Nat) (x:UInt8),l[j]? = some x→w.cell? ⟨g,j,none⟩=some (.int .u8 x.toNat)) :
 Calls Tryz.prog 45 #[.pointer (some ⟨b,0,none⟩)] w fun e w'=>e = .returned (.string ⟨l.toArray⟩)∧w'=w.drew.freeze ⟨g,0,none⟩ l.length:=by
 have hl0:l.length≠0:=by simpa using h0
 have mixed:Tryz.prog.follows .mixedOrders=true:=by kernel_rfl
 have t86:Tryz.prog.underlying 140=some (.pointer 5):=by kernel_rfl
 have c1:w.drew.cell? ⟨b,1,none⟩=some (.slice (some ⟨g,0,none⟩) l.length cap):=by
  have:w.drew.heap[b]? = some (.cells #[p,.slice (some ⟨g,0,none⟩) l.length cap] 89 (0,0)):=hbk
  rw[Lib.cell_of_heap this];rfl
 have hSD:(Builtin.unsafeSliceData_ #[22] 140 #[.slice (some ⟨g,0,none⟩) l.length cap]).run Tryz.prog w.drew = .ok (.pointer (some ⟨g,0,none⟩)) w.drew :=
  Lib.run_unsafeSliceData_row _ _ _ _ _ _ (by omega)
 have hUS:(Builtin.unsafeString_ #[140,3] 9 #[.pointer (some ⟨g,0,none⟩),.int .i64 l.length]).run Tryz.prog w.drew = .ok (.string ⟨l.toArray⟩) (w.drew.freeze ⟨g,0,none⟩ l.length):=by
  refine Lib.run_unsafeString_row w.drew 140 3 9 5 t86 (by kernel_rfl) g cur.size (by have hg':w.drew.heap[g]? = some (.cells cur 5 (0,0)):=hg;simp[World.shape?,hg']) l h0 (by omega) (by unfold maxLen at hcm;omega) ?_
  intro j x hx
  have:=htake j x hx
  rw[show(⟨g,0,none⟩:Addr).add j=⟨g,j,none⟩ by simp[Addr.add];omega]
  exact this
 go_enter Tryz.func45,Tryz.ntmps45
 go_wp2
 go_region_o
 all_goals (go_wp2;go_ret;exact⟨rfl,rfl⟩)
theorem wq1bh(W:World)(q:Option Addr): (Builtin.unsafeString_ #[140,3] 9 #[.pointer q,.int .i64 0]).run Tryz.prog W = .ok (.string .empty) W :=
 Lib.run_unsafeString_none W _ _ _ q
theorem wq1bi(b:Nat)(p:Value)(w:World)(hbk:w.heap[b]? = some (.cells #[p,.slice none 0 0] 89 (0,0))):
 Calls Tryz.prog 45 #[.pointer (some ⟨b,0,none⟩)] w fun e w'=>e = .returned (.string ⟨#[]⟩)∧w'=w.drew:=by
 have hUS:=wq1bh
 have mixed:Tryz.prog.follows .mixedOrders=true:=by kernel_rfl
 have c1:w.drew.cell? ⟨b,1,none⟩=some (.slice none 0 0):=by
  have:w.drew.heap[b]? = some (.cells #[p,.slice none 0 0] 89 (0,0)):=hbk
  rw[Lib.cell_of_heap this];rfl
 have hSD:(Builtin.unsafeSliceData_ #[22] 140 #[.slice none 0 0]).run Tryz.prog w.drew = .ok (.pointer none) w.drew:=rfl
 go_enter Tryz.func45,Tryz.ntmps45
 go_wp2
 go_region_o
 all_goals (go_wp2;go_ret;exact⟨rfl,rfl⟩)
theorem wq18w(b g cap:Nat)(p:Value)(w:World)(hc0:cap≠0)(hbk:w.heap[b]? = some (.cells #[p,.slice (some ⟨g,0,none⟩) 0 cap] 89 (0,0))):
 Calls Tryz.prog 45 #[.pointer (some ⟨b,0,none⟩)] w fun e w'=>e = .returned (.string ⟨#[]⟩)∧w'=w.drew:=by
 have hUS:=wq1bh
 have mixed:Tryz.prog.follows .mixedOrders=true:=by kernel_rfl
 have c1:w.drew.cell? ⟨b,1,none⟩=some (.slice (some ⟨g,0,none⟩) 0 cap):=by
  have:w.drew.heap[b]? = some (.cells #[p,.slice (some ⟨g,0,none⟩) 0 cap] 89 (0,0)):=hbk
  rw[Lib.cell_of_heap this];rfl
 have hSD:(Builtin.unsafeSliceData_ #[22] 140 #[.slice (some ⟨g,0,none⟩) 0 cap]).run Tryz.prog w.drew = .ok (.pointer (some ⟨g,0,none⟩)) w.drew :=
  Lib.run_unsafeSliceData_row _ _ _ _ _ _ hc0
 clear hc0
 go_enter Tryz.func45,Tryz.ntmps45
 go_wp2
 go_region_o
 all_goals (go_wp2;go_ret;exact⟨rfl,rfl⟩)
theorem wq13l(b g:Nat)(p:Value)(cur:Array Value)(w:World)(hbk:w.heap[b]? = some (.cells #[p,.slice (some ⟨g,0,none⟩) 0 0] 89 (0,0)))(hg:w.heap[g]? = some (.cells cur 5 (0,0))):
 Calls Tryz.prog 45 #[.pointer (some ⟨b,0,none⟩)] w fun e w'=>e = .returned (.string ⟨#[]⟩)∧∃ o,w'=(w.alloc o).drew:=by
 have hUS:=wq1bh
 have hlt:b<w.heap.size:=(Array.getElem?_eq_some_iff.1 hbk).1
 have mixed:Tryz.prog.follows .mixedOrders=true:=by kernel_rfl
 have c1:w.drew.cell? ⟨b,1,none⟩=some (.slice (some ⟨g,0,none⟩) 0 0):=by
  have:w.drew.heap[b]? = some (.cells #[p,.slice (some ⟨g,0,none⟩) 0 0] 89 (0,0)):=hbk
  rw[Lib.cell_of_heap this];rfl
 have hSD:(Builtin.unsafeSliceData_ #[22] 140 #[.slice (some ⟨g,0,none⟩) 0 0]).run Tryz.prog w.drew = .ok (.pointer (some ⟨w.drew.heap.size,0,none⟩)) (w.drew.alloc (.view ⟨g,0,none⟩ 5)) :=
  Lib.run_unsafeSliceData_zero w.drew _ _ 5 (by kernel_rfl) ⟨g,0,none⟩ 0 (5,cur.size) (by have hg':w.drew.heap[g]? = some (.cells cur 5 (0,0)):=hg;simp[World.shape?,hg'])
 have c2:(w.drew.alloc (.view ⟨g,0,none⟩ 5)).cell? ⟨b,1,none⟩=some (.slice (some ⟨g,0,none⟩) 0 0):=by
  have:(w.drew.alloc (.view ⟨g,0,none⟩ 5)).heap[b]? = _:=(Lib.alloc_old w.drew _ b hlt).trans hbk
  rw[Lib.cell_of_heap this];rfl
 have c3:(w.alloc (.view ⟨g,0,none⟩ 5)).drew.cell? ⟨b,1,none⟩=some (.slice (some ⟨g,0,none⟩) 0 0):=c2
 have c0:w.cell? ⟨b,1,none⟩=some (.slice (some ⟨g,0,none⟩) 0 0):=c1
 go_enter Tryz.func45,Tryz.ntmps45
 go_wp2
 go_region_o
 all_goals (go_wp2;go_ret;exact⟨rfl,_,rfl⟩)
def allB:List Int→Bool
 |[]=>true
 |x::r=>decide (0≤x)&&decide (x<256)&&allB r
def wqau:List LS:=[.obj 1 [.nps 1 0,.own 21 5 (.int .u8)]]
def wq6c(k:Nat){R:Type}(x0:List Int)(K:List Int→List UInt8→Option R): Option R:=bif allB x0 then K x0 (wq4s x0)else none
def wq5o(k:Nat){R:Type}: List PV→List (Nm×HObj)→(Out→Option R)→Option R
 |[.ptr 1 0],[(21,.row 5 (.int .u8) x0),(1,.var 89 [.nps 1 0,.row 21])],K=>wq6c k x0 (fun y0 y1=>K (.ret [.v .str y1] [(1,.var 89 [.nps 1 0,.v (.sl (.int .u8)) y0])]))
 |_,_,_=>none
theorem wqeo(vs:Array Value)(w:World): (callFunc 45 vs).run Tryz.prog w = .ok (.enter 45 vs) w:=by
 have h1:Tryz.prog.funcs[45]? = some Tryz.f45:=by kernel_rfl
 have h2:(Tryz.f45.name == "runtime.NumGoroutine")=false:=by kernel_rfl
 have h3:Tryz.f45.body.isNone=false:=by kernel_rfl
 unfold callFunc
 rw[Sem.run_bind]
 have e2:(program).run Tryz.prog w = .ok Tryz.prog w:=rfl
 rw[e2,Result.andThen_ok,h1]
 simp only[h2,h3,Bool.false_eq_true,if_false]
 rfl
theorem wq1eb:∀ {l:List Int},allB l=true→∀(i:Nat) (y:Int),l[i]? = some y→0≤y∧y<256
 |[],_,i,y,h=>by simp at h
 |x::r,hb,0,y,h=>by
  simp only[allB,Bool.and_eq_true,decide_eq_true_eq]at hb
  simp at h;subst h;exact hb.1
 |x::r,hb,i+1,y,h=>by
  simp only[allB,Bool.and_eq_true]at hb
  exact wq1eb hb.2 i y (by simpa using h)
theorem wq15u {G:Gh} {w w':World} {x0:List Int} {HP:List (Nm×HObj)} (hHP:HP=[(21,.row 5 (.int .u8) x0),(1,.var 89 [.nps 1 0,.row 21])])
 (obj:∀ n o,mkH HP n=some o→RO (mkH HP) G w n o) (dis:Dis (mkH HP) G w) (hblk:∀ b,b<w.heap.size→(∀ g,(G.rv 21).ownBlock=some g→b≠g)→w'.heap[b]? = w.heap[b]?)
 (hcell:∀ g o,(G.rv 21).ownBlock=some g→w'.cell? ⟨g,o,none⟩=w.cell? ⟨g,o,none⟩) (grow:w.heap.size≤w'.heap.size) (os:w'.os=w.os) (tape:w'.tape=w.tape) (out:w'.output=w.output) :
 Fin HP [(1,.var 89 [.nps 1 0,.v (.sl (.int .u8)) x0])] G w G w':=by
 have l1:mkH HP 1=some (.var 89 [.nps 1 0,.row 21]):=by subst hHP;rfl
 have l2:mkH HP 21=some (.row 5 (.int .u8) x0):=by subst hHP;rfl
 generalize hHS:[((1:Nm),HObj.var 89 [.nps 1 0,.v (.sl (.int .u8)) x0])]=HS
 have m1:mkH HS 1=some (.var 89 [.nps 1 0,.v (.sl (.int .u8)) x0]):=by subst hHS;rfl
 have mo:∀ n o,mkH HS n=some o→n=1:=by
  intro n o h
  subst hHS
  simp only[mkH,look]at h
  cases hb:Nat.beq 1 n with
  |true=>exact(Nat.eq_of_beq_eq_true hb).symm
  |false=>rw[hb]at h;cases h
 have bk1:blkOf (mkH HP) G 1=some (G.bk 1):=by simp[blkOf,l1]
 have bk2:blkOf (mkH HP) G 21=(G.rv 21).ownBlock:=by simp[blkOf,l2]
 have ck1:blkOf (mkH HS) G 1=some (G.bk 1):=by simp[blkOf,m1]
 have ck:∀ n b,blkOf (mkH HS) G n=some b→n=1∧b=G.bk 1:=by
  intro n b h
  cases hn:mkH HS n with
  |none=>simp[blkOf,hn]at h
  |some o=>have:=mo n o hn;subst this;rw[ck1]at h;cases h;exact⟨rfl,rfl⟩
 have hne:∀ g,(G.rv 21).ownBlock=some g→G.bk 1≠g:=fun g hg e=>by
  have:=dis.inj 1 21 g (by rw[bk1,e]) (by rw[bk2,hg])
  cases this
 obtain⟨vs,hw,q1,t1,rfl,hq1,q2,t2,rfl,hq2,rfl⟩:=obj 1 _ l1
 obtain⟨rfl,_⟩:=hq2
 have hlt:G.bk 1<w.heap.size:=(Array.getElem?_eq_some_iff.1 hw).1
 have hw':w'.heap[G.bk 1]? = some (.cells [q1,G.rv 21].toArray 89 (0,0)):=by rw[hblk _ hlt hne];exact hw
 have hdat:RD w' (okB (mkH HS) G) (.sl (.int .u8)) x0 [G.rv 21]:=by
  have hro:=obj 21 _ l2
  obtain⟨us,hown,hr,_⟩:=hro
  rcases hown.2 with⟨hv,hn⟩|⟨g,cap,cur,hv,_,hgb,hnc,hcm,hcs,_⟩
  ·exact⟨none,0,by rw[hv,hn],by omega,.inl (List.eq_nil_of_length_eq_zero hn)⟩
  ·have hgo:(G.rv 21).ownBlock=some g:=by rw[hv];rfl
   refine⟨_,cap,by rw[hv],hnc,.inr ⟨_,rfl,?_,?_,?_⟩⟩
   ·refine⟨fun n hn => ?_,fun hx=>dis.xo 21 g (by rw[bk2,hgo]) hx⟩
    obtain⟨_,e⟩:=ck n g hn
    exact hne g hgo e.symm
   ·have:g<w.heap.size:=(Array.getElem?_eq_some_iff.1 hgb).1
    exact Nat.lt_of_lt_of_le this grow
   ·intro i y hy
    obtain⟨c,hc,hu⟩:=hr.get i y hy
    refine⟨c,hc,fun j u hj => ?_⟩
    have:=hown.cells hgo _ _ (hu j u hj)
    rw[Addr.add_lit]at this ⊢
    rw[hcell g _ hgo]
    exact this
 refine⟨fun n o hn => ?_,fun n m b h1 h2=>(ck n b h1).1.trans (ck m b h2).1.symm,fun n t cs hn o ho => ?_,fun n ag V es hn o ho=>(wqp9 (by rw[hHP];rfl) hn).elim,fun b hb hf=>hblk b hb fun g hg e=>hf 21 (by rw[bk2,hg,e]),rfl,fun n b hn => .inl ⟨1,by rw[(ck n b hn).2];exact bk1⟩,grow,os,tape,out⟩
 ·have:=mo n o hn;subst this
  rw[m1]at hn;cases hn
  refine⟨_,hw',_,_,rfl,?_,_,_,rfl,hdat,rfl⟩
  rcases hq1 with h|⟨h,_⟩
  ·exact .inl h
  ·exact .inr ⟨h,_,_,m1⟩
 ·have e1:=mo n o ho
  subst e1
  have e2:mkH HS 1=some o:=ho
  have e3:mkH HP 1=some (.var t cs):=hn
  rw[m1]at e2;rw[l1]at e3;cases e2;cases e3
  exact⟨⟨_,rfl⟩,rfl⟩
theorem wqcs(k:Nat){ps:List PV}{hp:List (Nm×HObj)}{R:Type}{K:Out→Option R}{r:R}(h:wq5o k ps hp K=some r): DoesTo Tryz.prog 45 ps hp fun out=>K out=some r:=by
 unfold wq5o at h
 split at h
 ·next x0 =>
  intro G w vals hr obj dis
  unfold wq6c at h
  cases hb:allB x0 with
  |false=>rw[hb]at h;cases h
  |true =>
   rw[hb,cond_true]at h
   obtain⟨v0,l0,rfl,h0,rfl⟩:=hr
   obtain⟨rfl,_⟩:=h0
   generalize hHP:[(21,HObj.row 5 (.int .u8) x0),(1,.var 89 [.nps 1 0,.row 21])]=HP at *
   have l1:mkH HP 1=some (.var 89 [.nps 1 0,.row 21]):=by subst hHP;rfl
   have l2:mkH HP 21=some (.row 5 (.int .u8) x0):=by subst hHP;rfl
   show Does _ _ #[_] _ _
   unfold Does
   rw[wqeo]
   obtain⟨vs,hw,q1,t1,rfl,hq1,q2,t2,rfl,hq2,rfl⟩:=obj 1 _ l1
   obtain⟨rfl,_⟩:=hq2
   have hro:=obj 21 _ l2
   obtain⟨us,hown,hrd,_⟩:=hro
   have fin:∀ {e:Ending} {w':World},e = .returned (.string ⟨(wq4s x0).toArray⟩)→(∀ b,b<w.heap.size→(∀ g,(G.rv 21).ownBlock=some g→b≠g)→w'.heap[b]? = w.heap[b]?)→(∀ g o,(G.rv 21).ownBlock=some g→w'.cell? ⟨g,o,none⟩=w.cell? ⟨g,o,none⟩)→w.heap.size≤w'.heap.size→w'.os=w.os→w'.tape=w.tape→w'.output=w.output →
    ∃ out,K out=some r∧∃ G',OutIs G' w' e out∧Fin HP out.hs G w G' w':=by
    intro e w' he h1 h2 h3 h4 h5 h6
    exact⟨_,h,G,⟨_,he,rfl⟩,wq15u hHP.symm obj dis h1 h2 h3 h4 h5 h6⟩
   rcases hown.2 with⟨hv,hn⟩|⟨g,cap,cur,hv,_,hgb,hnc,hcm,hcs,htk⟩
   ·have hx:x0=[]:=List.eq_nil_of_length_eq_zero hn
    subst hx
    rw[hv]at hw
    refine Calls.mono (wq1bi (G.bk 1) q1 w hw) fun e w' hh => ?_
    obtain⟨rfl,rfl⟩:=hh
    exact fin rfl (fun _ _ _=>rfl) (fun _ _ _=>rfl) (Nat.le_refl _) rfl rfl rfl
   ·have hgo:(G.rv 21).ownBlock=some g:=by rw[hv];rfl
    rw[hv]at hw
    by_cases hx:x0=[]
    ·subst hx
     by_cases hc0:cap=0
     ·subst hc0
      refine Calls.mono (wq13l (G.bk 1) g q1 cur w hw hgb) fun e w' hh => ?_
      obtain⟨rfl,o,rfl⟩:=hh
      have hold:∀ b,b<w.heap.size→(w.alloc o).drew.heap[b]? = w.heap[b]? := fun b hb=>Lib.alloc_old w _ b hb
      refine fin rfl (fun b hb _=>hold b hb) (fun g' o' hg' => ?_) (by have:=World.size_alloc w o;show _≤(w.alloc o).heap.size;omega) rfl rfl rfl
      rw[hgo]at hg';cases hg'
      exact World.cell?_of_block (hold g (Array.getElem?_eq_some_iff.1 hgb).1)
     ·refine Calls.mono (wq18w (G.bk 1) g cap q1 w hc0 hw) fun e w' hh => ?_
      obtain⟨rfl,rfl⟩:=hh
      exact fin rfl (fun _ _ _=>rfl) (fun _ _ _=>rfl) (Nat.le_refl _) rfl rfl rfl
    ·have hlen:(wq4s x0).length=x0.length:=by simp[wq4s]
     have hbytes:∀(j:Nat) (x:UInt8),(wq4s x0)[j]? = some x→w.cell? ⟨g,j,none⟩=some (.int .u8 x.toNat):=by
      intro j x hj
      have hjl:j<x0.length:=by rw[←hlen];exact(List.getElem?_eq_some_iff.1 hj).1
      have hy:x0[j]? = some x0[j]:=by simp[hjl]
      obtain⟨c,hc,hu⟩:=hrd.get j _ hy
      have hc:c=[.int .u8 x0[j]]:=hc
      have h9:=hown.cells hgo _ _ (hu 0 (.int .u8 x0[j]) (by rw[hc];rfl))
      rw[Addr.add_lit]at h9
      have hj2:x=UInt8.ofNat (x0[j]).toNat:=by
       simp only[wq4s,List.getElem?_map,hy,Option.map_some,Option.some.injEq]at hj
       exact hj.symm
      obtain⟨h10,h11⟩:=wq1eb hb j _ hy
      have:((x.toNat:Nat):Int)=x0[j]:=by
       rw[hj2,UInt8.toNat_ofNat']
       omega
      rw[this]
      have e0:0+(j*Kd.sz (.int .u8)+0)=j:=by simp[Kd.sz]
      rw[e0]at h9
      exact h9
     rw[←hlen]at hw
     have hne:wq4s x0≠[]:=by intro e;rw[e]at hlen;exact hx (List.eq_nil_of_length_eq_zero hlen.symm)
     refine Calls.mono (wq15t (G.bk 1) g cap q1 (wq4s x0) cur w hw hne hgb (by omega) hcm (by simpa [Kd.sz]using hcs) hbytes) fun e w' hh => ?_
     obtain⟨rfl,rfl⟩:=hh
     have hfz:∀ b,b≠g→(w.drew.freeze ⟨g,0,none⟩ (wq4s x0).length).heap[b]? = w.heap[b]? := by
      intro b hb
      unfold World.freeze
      split
      ·rfl
      ·show(w.heap.modify g _)[b]? = _
       rw[Array.getElem?_modify,if_neg (Ne.symm hb)]
     refine fin rfl (fun b _ hb=>hfz b (hb g hgo)) (fun g' o' hg' => ?_) ?_ ?_ ?_ ?_
     ·rw[hgo]at hg';cases hg'
      unfold World.freeze
      split
      ·rfl
      ·simp only[World.cell?,World.drew,Array.getElem?_modify,if_true,hgb,Option.map_some]
     all_goals
      unfold World.freeze
      split
      ·first|rfl|exact Nat.le_refl _
      ·first|rfl|(show w.heap.size≤(w.heap.modify g _).size;rw[Array.size_modify];exact Nat.le_refl _)
 ·cases h
end Go.Proofs.YtabkhphoacmcdaaGreatDoor.Pvm
set_option maxHeartbeats 1000000
namespace Go.Proofs.YtabkhphoacmcdaaGreatDoor.Pvm
open Go Go.Proofs Go.RowKit
theorem wq11b(b:Nat)(w:World)(h0:w.cell? ⟨b,0,none⟩=some (.pointer (some ⟨b,0,none⟩))):
 Calls Tryz.prog 89 #[.pointer (some ⟨b,0,none⟩)] w fun e w'=>e = .returned (.tuple #[])∧w'=w:=by
 have t76:Tryz.prog.underlying 87=some (.pointer 89):=by kernel_rfl
 have hs:(Tryz.prog.info? 89).isSome=true:=by kernel_rfl
 obtain⟨j,hj⟩:=Option.isSome_iff_exists.1 hs
 go_enter Tryz.func89,Tryz.ntmps89
 go_wp2
 rw[Lib.run_neq_ptr_same w _ t76 hj]
 go_wp2
 go_end0
 exact⟨rfl,rfl⟩
theorem wqyf(b:Nat)(w:World)(h0:w.cell? ⟨b,0,none⟩=some (.pointer none))(hsh:w.shape? b=some (89,2))(hfz:w.frozen? ⟨b,0,none⟩=false):
 Calls Tryz.prog 89 #[.pointer (some ⟨b,0,none⟩)] w fun e w'=>e = .returned (.tuple #[])∧w'=w.setCell ⟨b,0,none⟩ (.pointer (some ⟨b,0,none⟩)):=by
 have t76:Tryz.prog.underlying 87=some (.pointer 89):=by kernel_rfl
 have t89:Tryz.prog.underlying 184=some .unsafePointer:=by kernel_rfl
 have hs:(Tryz.prog.info? 89).map (·.size)=some 2:=by kernel_rfl
 obtain⟨j,hj,hjs⟩:=Option.map_eq_some_iff.1 hs
 have hlies:liesAt Tryz.prog Tryz.prog.depth 89 (2 / Tryz.prog.cellsOf 89) 0 89 1=true:=by kernel_rfl
 go_enter Tryz.func89,Tryz.ntmps89
 go_wp2
 rw[Lib.run_to_unsafe w ⟨b,0,none⟩ t76 t89 hj (by rw[hjs];decide) hsh (Nat.zero_lt_succ 1)]
 simp only[Result.andThen]
 rw[Oper.upon_value]
 go_wp2
 rw[run_callFunc_extern Tryz.func137 (by kernel_rfl) (by kernel_rfl) (by kernel_rfl) (e:=Extern.AbiNoEscape.same) (by kernel_rfl)]
 rw[Lib.run_noEscape]
 simp only[Result.andThen]
 rw[Oper.upon_value]
 go_wp2
 rw[Lib.run_from_unsafe w ⟨b,0,none⟩ t89 t76 hj hsh hlies]
 simp only[Result.andThen]
 rw[Oper.upon_value]
 go_wp2
 go_end0
 exact⟨rfl,rfl⟩
end Go.Proofs.YtabkhphoacmcdaaGreatDoor.Pvm
set_option maxRecDepth 1000000
namespace Go.Proofs.YtabkhphoacmcdaaGreatDoor.Pvm
open Go Go.Proofs
def wqff:List LS:=[.obj 1 [.nps 1 0,.own 21 5 (.int .u8)]]
def wqag(k:Nat){R:Type}(x0:List Int)(K:List Int→Option R): Option R:=K x0
def wq6d(k:Nat){R:Type}: List PV→List (Nm×HObj)→(Out→Option R)→Option R
 |[.ptr 1 0],[(21,.row 5 (.int .u8) x0),(1,.var 89 [.nps 1 0,.row 21])],K=>wqag k x0 (fun y0=>K (.ret [] [(21,.row 5 (.int .u8) y0),(1,.var 89 [.nps 1 0,.row 21])]))
 |_,_,_=>none
theorem wqct(vs:Array Value)(w:World): (callFunc 89 vs).run Tryz.prog w = .ok (.enter 89 vs) w:=by
 have h1:Tryz.prog.funcs[89]? = some Tryz.f89:=by kernel_rfl
 have h2:(Tryz.f89.name == "runtime.NumGoroutine")=false:=by kernel_rfl
 have h3:Tryz.f89.body.isNone=false:=by kernel_rfl
 unfold callFunc
 rw[Sem.run_bind]
 have e2:(program).run Tryz.prog w = .ok Tryz.prog w:=rfl
 rw[e2,Result.andThen_ok,h1]
 simp only[h2,h3,Bool.false_eq_true,if_false]
 rfl
theorem wqgi(k:Nat){ps:List PV}{hp:List (Nm×HObj)}{R:Type}{K:Out→Option R}{r:R}(h:wq6d k ps hp K=some r): DoesTo Tryz.prog 89 ps hp fun out=>K out=some r:=by
 unfold wq6d at h
 split at h
 ·next x0 =>
  intro G w vals hr obj dis
  obtain⟨v0,l0,rfl,h0,rfl⟩:=hr
  obtain⟨rfl,_⟩:=h0
  generalize hHP:[(21,HObj.row 5 (.int .u8) x0),(1,.var 89 [.nps 1 0,.row 21])]=HP at *
  have hK:K (.ret [] HP)=some r:=by subst hHP;exact h
  have l1:mkH HP 1=some (.var 89 [.nps 1 0,.row 21]):=by subst hHP;rfl
  have hob:=obj 1 _ l1
  obtain⟨vs,hw,q1,t1,rfl,hq1,q2,t2,rfl,hq2,rfl⟩:=hob
  show Does _ _ #[_] _ _
  unfold Does
  rw[wqct]
  have hcell:w.cell? ⟨G.bk 1,0,none⟩=some q1:=by simp[World.cell?,hw]
  have hlt:G.bk 1<w.heap.size:=(Array.getElem?_eq_some_iff.1 hw).1
  rcases hq1 with rfl|⟨rfl,_⟩
  ·refine Calls.mono (wqyf (G.bk 1) w hcell (by simp[World.shape?,hw]) (by simp[World.frozen?,hw])) fun e w' hh => ?_
   obtain⟨rfl,rfl⟩:=hh
   have oth:∀ b,b≠G.bk 1→(w.setCell ⟨G.bk 1,0,none⟩ (.pointer (some ⟨G.bk 1,0,none⟩))).heap[b]? = w.heap[b]? := fun b hb=>Go.Deep.blk_setCell_other w _ _ b hb
   have bk1:blkOf (mkH HP) G 1=some (G.bk 1):=by simp[blkOf,l1]
   have C:Carry (mkH HP) G w (mkH HP) G (w.setCell ⟨G.bk 1,0,none⟩ (.pointer (some ⟨G.bk 1,0,none⟩))) .row :=
    ⟨fun b ho _=>⟨ho,oth b fun e=>ho.1 1 (by rw[bk1,e])⟩,fun n t cs hn=>⟨⟨cs,hn⟩,rfl⟩,fun n ag V es hn=>⟨⟨es,hn⟩,rfl⟩,fun b hx _=>⟨.inr hx,oth b fun e=>dis.xo 1 b (by rw[bk1,e]) hx⟩,fun n e K xs hn=>⟨⟨rfl,e,K,xs,hn⟩,fun m hm=>by cases hm;exact⟨e,xs,hn,Nat.le_refl _⟩⟩⟩
   have hq2':=RV.carry C _ _ hq2
   refine⟨.ret [] HP,hK,G,⟨_,rfl,⟨[],rfl,rfl⟩⟩,⟨fun n o hn => ?_,dis.inj,fun n t cs hn o ho => ?_,fun n ag V es hn o ho=>(wqp9 (by rw[←hHP];rfl) hn).elim,fun b hb hf=>oth b fun e=>hf 1 (by rw[bk1,e]),rfl,fun n b hb => .inl ⟨n,hb⟩,by simp[World.setCell],rfl,rfl,rfl⟩⟩
   ·by_cases hn1:n=1
    ·subst hn1
     rw[show mkH (Out.hs (.ret [] HP)) 1=some (.var 89 [.nps 1 0,.row 21])from l1]at hn
     cases hn
     refine⟨[.pointer (some ⟨G.bk 1,0,none⟩),q2],?_,_,_,rfl,.inr ⟨rfl,89,_,l1⟩,_,_,rfl,hq2',rfl⟩
     have hw2:=(Array.getElem?_eq_some_iff.1 hw).2
     simp only[World.setCell,Array.getElem?_modify,if_pos,hw]
     simp
    ·have hne:∀ b,blkOf (mkH HP) G n=some b→b≠G.bk 1:=fun b hb e=>hn1 (dis.inj n 1 b hb (by rw[bk1,e]))
     have:=RO.carry C hn (obj n o hn) (fun b hb=>oth b (hne b hb)) rfl rfl
     rwa [wqh2]at this
   ·have e1:look HP n=some o:=ho
    rw[hn]at e1;cases e1
    exact⟨⟨cs,rfl⟩,rfl⟩
  ·refine Calls.mono (wq11b (G.bk 1) w hcell) fun e w' hh => ?_
   obtain⟨rfl,rfl⟩:=hh
   refine⟨.ret [] HP,hK,G,⟨_,rfl,⟨[],rfl,rfl⟩⟩,⟨obj,dis.inj,fun n t cs hn o ho => ?_,fun n ag V es hn o ho=>(wqp9 (by rw[←hHP];rfl) hn).elim,fun _ _ _=>rfl,rfl,fun n b hb => .inl ⟨n,hb⟩,Nat.le_refl _,rfl,rfl,rfl⟩⟩
   have e1:look HP n=some o:=ho
   rw[hn]at e1;cases e1
   exact⟨⟨cs,rfl⟩,rfl⟩
 ·cases h
end Go.Proofs.YtabkhphoacmcdaaGreatDoor.Pvm
set_option maxHeartbeats 0
namespace Go.Proofs.YtabkhphoacmcdaaGreatDoor.Pvm
open Go Go.Proofs
def h_strings_Builder_WriteByte:Sh:=⟨[.o 1 89 0 [.p 1 0,.w 21 5 (.int .u8)],.a (.int .u8)],some ([.o 1 89 0 [.p 1 0,.w 21 5 (.int .u8)]],[.ni]),none⟩
def wqgj(k:Nat): Cxt:=⟨[⟨89,wqff,wq6d k⟩],[1],[],[]⟩
def wqgk(k:Nat){R:Type}(x0:(List Int))(x1:Int)(K:((List Int)→Option R)): Option R:=wqag k x0 (fun y5=>cond (fits y5.length (@List.length (@Kd.T (@Kd.int Go.IntKind.u8)) [x1]) 1) (K (y5++[x1])) none)
def wq3a:=@wqgk
theorem wqah(k:Nat): DOK Tryz.prog 254 (h_strings_Builder_WriteByte.run (@wq3a k)):=dok h_strings_Builder_WriteByte (wqgj k) Tryz.f254 k (ok1 (fun _ _ _ _ _ h=>wqgi k h) ok0) (by kernel_rfl) (by kernel_rfl) fun R=>by kernel_rfl
def wqai(k:Nat): Ent:=h_strings_Builder_WriteByte.e 254 (@wq3a k)
def h_lex_lexer_double:Sh:=⟨[.o 1 200 0 [.a kI,.a kI,.a .str,.a kI,.w 21 157 kdT156],.a .str],some ([.o 1 200 0 [.a kI,.a kI,.a .str,.a kI,.w 21 157 kdT156]],[.a .str,.a kI]),some ([.o 1 200 0 [.a kI,.a kI,.a .str,.a kI,.w 21 157 kdT156]],[.i 29 (.g [.a kI,.a kI])])⟩
abbrev wqcu:Type 1:=(R:Type)→Int→Int→(List UInt8)→Int→(List dT156)→(List UInt8)→(Int→Int→(List UInt8)→Int→(List dT156)→(List UInt8)→Int→Option R)→(Int→Int→(List UInt8)→Int→(List dT156)→Int→Int→Option R)→Option R
def u_lex_lexer_double_1003:Cu:=⟨1,[0,1,6,7],[.o 1 200 0 [.a kI,.a kI,.a .str,.a kI,.w 21 157 kdT156],.r 1 0,.a .str,.o 16 89 0 [.p 16 0,.w 36 5 (.int .u8)],.a kI]⟩
def wqhq(k:Nat): Cxt:=⟨[⟨45,wqau,wq5o k⟩,wqb6 k,wqai k,wquf k],[1],[(1003,u_lex_lexer_double_1003.spec)],[]⟩
def wqd9(k:Nat){R:Type}(E1003:(Int→Int→(List UInt8)→Int→(List dT156)→(List UInt8)→(List Int)→Int→Option R))(s0 s1:Int)(s2:(List UInt8))(s3:Int)(s4:(List dT156))(s5:(List UInt8))(s6:(List Int))(s7:Int)(K:(Int→Int→(List UInt8)→Int→(List dT156)→(List UInt8)→Int→Option R))(E:(Int→Int→(List UInt8)→Int→(List dT156)→Int→Int→Option R)): Option R:=cond (decide (s7<(s5.length:Int))) (cond (inb s7 (s5.length:Int)) (cond (((s5.getD s7.toNat 0).toNat:Int) == 34) (wq6c k s6 (fun y13 y14=>K s0 s1 s2 s3 s4 y14 (@Go.IntKind.wrap Go.IntKind.i64 (s7+1)))) (cond (((s5.getD s7.toNat 0).toNat:Int) == 92) (cond (bnd (@Go.IntKind.wrap Go.IntKind.i64 (s7+1)) (s5.length:Int) (s5.length:Int)) (wqex k s0 s1 s2 s3 s4 (cut s5 (@Go.IntKind.wrap Go.IntKind.i64 (s7+1)) (s5.length:Int)) (fun y13 y14 y15 y16 y17 y18 y19=>wq3a k s6 y18 (fun y20=>E1003 y13 y14 y15 y16 y17 s5 y20 (@Go.IntKind.wrap Go.IntKind.i64 ((@Go.IntKind.wrap Go.IntKind.i64 (s7+y19))+1)))) E) none) (cond (inb s7 (s5.length:Int)) (wq3a k s6 ((s5.getD s7.toNat 0).toNat:Int) (fun y13=>E1003 s0 s1 s2 s3 s4 s5 y13 (@Go.IntKind.wrap Go.IntKind.i64 (s7+1)))) none))) none) (wq1y k s0 s1 s2 s3 s4 3 (fun y13 y14 y15 y16 y17=>K y13 y14 y15 y16 y17 [] 0) E)
def wqhr(k:Nat){R:Type}(E1003:(Int→Int→(List UInt8)→Int→(List dT156)→(List UInt8)→(List Int)→Int→Option R))(x0 x1:Int)(x2:(List UInt8))(x3:Int)(x4:(List dT156))(x5:(List UInt8))(K:(Int→Int→(List UInt8)→Int→(List dT156)→(List UInt8)→Int→Option R))(E:(Int→Int→(List UInt8)→Int→(List dT156)→Int→Int→Option R)): Option R:=E1003 x0 x1 x2 x3 x4 x5 [] 1
def wq73(k:Nat){R:Type}: Nat→Int→Int→(List UInt8)→Int→(List dT156)→(List UInt8)→(List Int)→Int→(Int→Int→(List UInt8)→Int→(List dT156)→(List UInt8)→Int→Option R)→(Int→Int→(List UInt8)→Int→(List dT156)→Int→Int→Option R)→Option R
 |0,_,_,_,_,_,_,_,_,_,_=>none
 |n+1,s0,s1,s2,s3,s4,s5,s6,s7,K,E=>wqd9 k (fun s0 s1 s2 s3 s4 s5 s6 s7=>wq73 k n s0 s1 s2 s3 s4 s5 s6 s7 K E) s0 s1 s2 s3 s4 s5 s6 s7 K E
theorem wqh7(k:Nat){R:Type}: ∀(I:Nat→St→Option R) (n:Nat),h_lex_lexer_double.lp u_lex_lexer_double_1003 (wqhq k).cx k Tryz.f230 1003 [1,1,0,1,0] I n=wq73 k n:=h_lex_lexer_double.lok u_lex_lexer_double_1003 (B:=wqd9 k) (L:=wq73 k) (fun I=>by kernel_rfl) (fun I=>by kernel_rfl) (fun n=>by kernel_rfl) (fun _ _ _ _=>rfl)
def wqa6(k:Nat){R:Type}(x0 x1:Int)(x2:(List UInt8))(x3:Int)(x4:(List dT156))(x5:(List UInt8))(K:(Int→Int→(List UInt8)→Int→(List dT156)→(List UInt8)→Int→Option R))(E:(Int→Int→(List UInt8)→Int→(List dT156)→Int→Int→Option R)): Option R:=wqhr k (fun s0 s1 s2 s3 s4 s5 s6 s7=>wq73 k k s0 s1 s2 s3 s4 s5 s6 s7 K E) x0 x1 x2 x3 x4 x5 K E
theorem wqrp(k:Nat): DOK Tryz.prog 230 (h_lex_lexer_double.run (@wqa6 k)):=dok h_lex_lexer_double (wqhq k) Tryz.f230 k (ok1 (fun _ _ _ _ _ h=>wqcs k h) (ok1 (wq92 k) (ok1 (wqah k) (ok1 (wque k) ok0)))) (by kernel_rfl) (by kernel_rfl) fun R=>h_lex_lexer_double.f1 u_lex_lexer_double_1003 (wqhr k) (by kernel_rfl) (wqh7 k (fun _ _=>none) k) (by kernel_rfl)
def h_lex_lexer_single:Sh:=⟨[.o 1 200 0 [.a kI,.a kI,.a .str,.a kI,.w 21 157 kdT156],.a .str],some ([.o 1 200 0 [.a kI,.a kI,.a .str,.a kI,.w 21 157 kdT156]],[.a .str,.a kI]),some ([.o 1 200 0 [.a kI,.a kI,.a .str,.a kI,.w 21 157 kdT156]],[.i 29 (.g [.a kI,.a kI])])⟩
abbrev wqcv:Type 1:=(R:Type)→Int→Int→(List UInt8)→Int→(List dT156)→(List UInt8)→(Int→Int→(List UInt8)→Int→(List dT156)→(List UInt8)→Int→Option R)→(Int→Int→(List UInt8)→Int→(List dT156)→Int→Int→Option R)→Option R
def u_lex_lexer_single_1003:Cu:=⟨1,[0,1,6,7],[.o 1 200 0 [.a kI,.a kI,.a .str,.a kI,.w 21 157 kdT156],.r 1 0,.a .str,.o 16 89 0 [.p 16 0,.w 36 5 (.int .u8)],.a kI]⟩
def wqhs(k:Nat): Cxt:=⟨[⟨45,wqau,wq5o k⟩,wqb6 k,wqai k],[1],[(1003,u_lex_lexer_single_1003.spec)],[]⟩
def wqda(k:Nat){R:Type}(E1003:(Int→Int→(List UInt8)→Int→(List dT156)→(List UInt8)→(List Int)→Int→Option R))(s0 s1:Int)(s2:(List UInt8))(s3:Int)(s4:(List dT156))(s5:(List UInt8))(s6:(List Int))(s7:Int)(K:(Int→Int→(List UInt8)→Int→(List dT156)→(List UInt8)→Int→Option R))(E:(Int→Int→(List UInt8)→Int→(List dT156)→Int→Int→Option R)): Option R:=cond (decide (s7<(s5.length:Int))) (cond (inb s7 (s5.length:Int)) (cond (((s5.getD s7.toNat 0).toNat:Int) != 39) (cond (inb s7 (s5.length:Int)) (wq3a k s6 ((s5.getD s7.toNat 0).toNat:Int) (fun y13=>E1003 s0 s1 s2 s3 s4 s5 y13 (@Go.IntKind.wrap Go.IntKind.i64 (s7+1)))) none) (cond ((!((decide ((@Go.IntKind.wrap Go.IntKind.i64 (s7+1))≥(s5.length:Int))) == false)) || (inb (@Go.IntKind.wrap Go.IntKind.i64 (s7+1)) (s5.length:Int))) (cond (cond (decide ((@Go.IntKind.wrap Go.IntKind.i64 (s7+1))≥(s5.length:Int))) true (((s5.getD (@Go.IntKind.wrap Go.IntKind.i64 (s7+1)).toNat 0).toNat:Int) != 39)) (wq6c k s6 (fun y13 y14=>K s0 s1 s2 s3 s4 y14 (@Go.IntKind.wrap Go.IntKind.i64 (s7+1)))) (wq3a k s6 39 (fun y13=>E1003 s0 s1 s2 s3 s4 s5 y13 (@Go.IntKind.wrap Go.IntKind.i64 ((@Go.IntKind.wrap Go.IntKind.i64 (s7+1))+1))))) none)) none) (wq1y k s0 s1 s2 s3 s4 3 (fun y13 y14 y15 y16 y17=>K y13 y14 y15 y16 y17 [] 0) E)
def wqht(k:Nat){R:Type}(E1003:(Int→Int→(List UInt8)→Int→(List dT156)→(List UInt8)→(List Int)→Int→Option R))(x0 x1:Int)(x2:(List UInt8))(x3:Int)(x4:(List dT156))(x5:(List UInt8))(K:(Int→Int→(List UInt8)→Int→(List dT156)→(List UInt8)→Int→Option R))(E:(Int→Int→(List UInt8)→Int→(List dT156)→Int→Int→Option R)): Option R:=E1003 x0 x1 x2 x3 x4 x5 [] 1
def wq74(k:Nat){R:Type}: Nat→Int→Int→(List UInt8)→Int→(List dT156)→(List UInt8)→(List Int)→Int→(Int→Int→(List UInt8)→Int→(List dT156)→(List UInt8)→Int→Option R)→(Int→Int→(List UInt8)→Int→(List dT156)→Int→Int→Option R)→Option R
 |0,_,_,_,_,_,_,_,_,_,_=>none
 |n+1,s0,s1,s2,s3,s4,s5,s6,s7,K,E=>wqda k (fun s0 s1 s2 s3 s4 s5 s6 s7=>wq74 k n s0 s1 s2 s3 s4 s5 s6 s7 K E) s0 s1 s2 s3 s4 s5 s6 s7 K E
theorem wqh8(k:Nat){R:Type}: ∀(I:Nat→St→Option R) (n:Nat),h_lex_lexer_single.lp u_lex_lexer_single_1003 (wqhs k).cx k Tryz.f229 1003 [1,1,0,1,0] I n=wq74 k n:=h_lex_lexer_single.lok u_lex_lexer_single_1003 (B:=wqda k) (L:=wq74 k) (fun I=>by kernel_rfl) (fun I=>by kernel_rfl) (fun n=>by kernel_rfl) (fun _ _ _ _=>rfl)
def wqa7(k:Nat){R:Type}(x0 x1:Int)(x2:(List UInt8))(x3:Int)(x4:(List dT156))(x5:(List UInt8))(K:(Int→Int→(List UInt8)→Int→(List dT156)→(List UInt8)→Int→Option R))(E:(Int→Int→(List UInt8)→Int→(List dT156)→Int→Int→Option R)): Option R:=wqht k (fun s0 s1 s2 s3 s4 s5 s6 s7=>wq74 k k s0 s1 s2 s3 s4 s5 s6 s7 K E) x0 x1 x2 x3 x4 x5 K E
theorem wqrq(k:Nat): DOK Tryz.prog 229 (h_lex_lexer_single.run (@wqa7 k)):=dok h_lex_lexer_single (wqhs k) Tryz.f229 k (ok1 (fun _ _ _ _ _ h=>wqcs k h) (ok1 (wq92 k) (ok1 (wqah k) ok0))) (by kernel_rfl) (by kernel_rfl) fun R=>h_lex_lexer_single.f1 u_lex_lexer_single_1003 (wqht k) (by kernel_rfl) (wqh8 k (fun _ _=>none) k) (by kernel_rfl)
def h_lex_lexer_text:Sh:=⟨[.o 1 200 0 [.a kI,.a kI,.a .str,.a kI,.w 21 157 kdT156],.a .str],some ([.o 1 200 0 [.a kI,.a kI,.a .str,.a kI,.w 21 157 kdT156]],[]),some ([.o 1 200 0 [.a kI,.a kI,.a .str,.a kI,.w 21 157 kdT156]],[.i 29 (.g [.a kI,.a kI])])⟩
def wqkx(k:Nat)(wqu:wqdr)(wqi4:wqro)(wqm:wqds)(wqmb:wqwu)(wq6k:wqcv)(wq6l:wqcu)(wq5z:wqbp): Cxt:=⟨[h_lex_lexer_gives.e 191 wqu,h_lex_dash.e 193 wqi4,h_lex_lexer_piece.e 194 wqm,h_lex_key.e 195 wqmb,h_lex_lexer_single.e 229 wq6k,h_lex_lexer_double.e 230 wq6l,h_strings_IndexByte.e 231 wq5z],[1],[],[]⟩
def wqky(k:Nat)(wqu:wqdr)(wqi4:wqro)(wqm:wqds)(wqmb:wqwu)(wq6k:wqcv)(wq6l:wqcu)(wq5z:wqbp){R:Type}(x0 x1:Int)(x2:(List UInt8))(x3:Int)(x4:(List dT156))(x5:(List UInt8))(K:(Int→Int→(List UInt8)→Int→(List dT156)→Option R))(E:(Int→Int→(List UInt8)→Int→(List dT156)→Int→Int→Option R)): Option R:=cond (inb 0 (x5.length:Int)) (cond (((x5.getD (Int.toNat 0) 0).toNat:Int) == 39) (wq6k R x0 x1 x2 x3 x4 x5 (fun y10 y11 y12 y13 y14 y15 y16=>cond (y16 != (x5.length:Int)) (wqu R y10 y11 y12 y13 y14 3 (fun y17 y18 y19 y20 y21=>cond (decide ((y15.length:Int)>200)) (wqu R y17 y18 y19 y20 y21 4 (fun y22 y23 y24 y25 y26=>wqm R y22 y23 y24 y25 y26 3 y15 true y16 K) E) (wqm R y17 y18 y19 y20 y21 3 y15 true y16 K)) E) (cond (decide ((y15.length:Int)>200)) (wqu R y10 y11 y12 y13 y14 4 (fun y17 y18 y19 y20 y21=>wqm R y17 y18 y19 y20 y21 3 y15 true y16 K) E) (wqm R y10 y11 y12 y13 y14 3 y15 true y16 K))) E) (cond (((x5.getD (Int.toNat 0) 0).toNat:Int) == 34) (wq6l R x0 x1 x2 x3 x4 x5 (fun y10 y11 y12 y13 y14 y15 y16=>cond (y16 != (x5.length:Int)) (wqu R y10 y11 y12 y13 y14 3 (fun y17 y18 y19 y20 y21=>cond (decide ((y15.length:Int)>200)) (wqu R y17 y18 y19 y20 y21 4 (fun y22 y23 y24 y25 y26=>wqm R y22 y23 y24 y25 y26 3 y15 true y16 K) E) (wqm R y17 y18 y19 y20 y21 3 y15 true y16 K)) E) (cond (decide ((y15.length:Int)>200)) (wqu R y10 y11 y12 y13 y14 4 (fun y17 y18 y19 y20 y21=>wqm R y17 y18 y19 y20 y21 3 y15 true y16 K) E) (wqm R y10 y11 y12 y13 y14 3 y15 true y16 K))) E) (cond (inb 0 (x5.length:Int)) (wq5z R [91,93,123,125,38,42,33,124,62,37,64,44,63,96] ((x5.getD (Int.toNat 0) 0).toNat:Int) (fun y10=>cond ((decide (y10≥0)) == false) (wqi4 R x5 (fun y11=>cond (y11 == false) (wqmb R x5 (fun y12=>cond (!(y12 == [])) (wqu R x0 x1 x2 x3 x4 4 (fun y13 y14 y15 y16 y17=>cond ((x5.length:Int) != (x5.length:Int)) (wqu R y13 y14 y15 y16 y17 3 (fun y18 y19 y20 y21 y22=>cond (decide ((x5.length:Int)>200)) (wqu R y18 y19 y20 y21 y22 4 (fun y23 y24 y25 y26 y27=>wqm R y23 y24 y25 y26 y27 3 x5 false (x5.length:Int) K) E) (wqm R y18 y19 y20 y21 y22 3 x5 false (x5.length:Int) K)) E) (cond (decide ((x5.length:Int)>200)) (wqu R y13 y14 y15 y16 y17 4 (fun y18 y19 y20 y21 y22=>wqm R y18 y19 y20 y21 y22 3 x5 false (x5.length:Int) K) E) (wqm R y13 y14 y15 y16 y17 3 x5 false (x5.length:Int) K))) E) (cond ((x5.length:Int) != (x5.length:Int)) (wqu R x0 x1 x2 x3 x4 3 (fun y13 y14 y15 y16 y17=>cond (decide ((x5.length:Int)>200)) (wqu R y13 y14 y15 y16 y17 4 (fun y18 y19 y20 y21 y22=>wqm R y18 y19 y20 y21 y22 3 x5 false (x5.length:Int) K) E) (wqm R y13 y14 y15 y16 y17 3 x5 false (x5.length:Int) K)) E) (cond (decide ((x5.length:Int)>200)) (wqu R x0 x1 x2 x3 x4 4 (fun y13 y14 y15 y16 y17=>wqm R y13 y14 y15 y16 y17 3 x5 false (x5.length:Int) K) E) (wqm R x0 x1 x2 x3 x4 3 x5 false (x5.length:Int) K))))) (wqu R x0 x1 x2 x3 x4 4 (fun y12 y13 y14 y15 y16=>cond ((x5.length:Int) != (x5.length:Int)) (wqu R y12 y13 y14 y15 y16 3 (fun y17 y18 y19 y20 y21=>cond (decide ((x5.length:Int)>200)) (wqu R y17 y18 y19 y20 y21 4 (fun y22 y23 y24 y25 y26=>wqm R y22 y23 y24 y25 y26 3 x5 false (x5.length:Int) K) E) (wqm R y17 y18 y19 y20 y21 3 x5 false (x5.length:Int) K)) E) (cond (decide ((x5.length:Int)>200)) (wqu R y12 y13 y14 y15 y16 4 (fun y17 y18 y19 y20 y21=>wqm R y17 y18 y19 y20 y21 3 x5 false (x5.length:Int) K) E) (wqm R y12 y13 y14 y15 y16 3 x5 false (x5.length:Int) K))) E))) (wqu R x0 x1 x2 x3 x4 4 (fun y11 y12 y13 y14 y15=>cond ((x5.length:Int) != (x5.length:Int)) (wqu R y11 y12 y13 y14 y15 3 (fun y16 y17 y18 y19 y20=>cond (decide ((x5.length:Int)>200)) (wqu R y16 y17 y18 y19 y20 4 (fun y21 y22 y23 y24 y25=>wqm R y21 y22 y23 y24 y25 3 x5 false (x5.length:Int) K) E) (wqm R y16 y17 y18 y19 y20 3 x5 false (x5.length:Int) K)) E) (cond (decide ((x5.length:Int)>200)) (wqu R y11 y12 y13 y14 y15 4 (fun y16 y17 y18 y19 y20=>wqm R y16 y17 y18 y19 y20 3 x5 false (x5.length:Int) K) E) (wqm R y11 y12 y13 y14 y15 3 x5 false (x5.length:Int) K))) E))) none))) none
theorem wqwx(k:Nat)(wqu:wqdr)(wqi4:wqro)(wqm:wqds)(wqmb:wqwu)(wq6k:wqcv)(wq6l:wqcu)(wq5z:wqbp)(R:Type): h_lex_lexer_text.at (wqkx k wqu wqi4 wqm wqmb wq6k wq6l wq5z) k Tryz.f196 R=@wqky k wqu wqi4 wqm wqmb wq6k wq6l wq5z R:=by kernel_rfl
def wq9q(k:Nat){R:Type}:= @wqky k (@wq1y k) (@wqhp k) (@wq5c k) (@wqm0 k) (@wqa7 k) (@wqa6 k) (@wq2a k) R
theorem wqwy(k:Nat): DOK Tryz.prog 196 (h_lex_lexer_text.run (@wq9q k)):=dok h_lex_lexer_text (wqkx k (@wq1y k) (@wqhp k) (@wq5c k) (@wqm0 k) (@wqa7 k) (@wqa6 k) (@wq2a k)) Tryz.f196 k (ok1 (wq92 k) (ok1 (wq13k k) (ok1 (wqjo k) (ok1 (wq17l k) (ok1 (wqrq k) (ok1 (wqrp k) (ok1 (wqgr k) ok0))))))) (by kernel_rfl) (by kernel_rfl) fun R=>wqwx k (@wq1y k) (@wqhp k) (@wq5c k) (@wqm0 k) (@wqa7 k) (@wqa6 k) (@wq2a k) R
def wqwz(k:Nat): Ent:=h_lex_lexer_text.e 196 (@wq9q k)
def h_lex_lexer_row:Sh:=⟨[.o 1 200 0 [.a kI,.a kI,.a .str,.a kI,.w 21 157 kdT156]],some ([.o 1 200 0 [.a kI,.a kI,.a .str,.a kI,.w 21 157 kdT156]],[]),some ([.o 1 200 0 [.a kI,.a kI,.a .str,.a kI,.w 21 157 kdT156]],[.i 29 (.g [.a kI,.a kI])])⟩
def u_lex_lexer_row_1003:Cu:=⟨1,[0,2],[.o 1 200 0 [.a kI,.a kI,.a .str,.a kI,.w 21 157 kdT156],.r 1 0,.a .str]⟩
def wqnc(k:Nat): Cxt:=⟨[wqb6 k,wqww k,wq1bg k,wqub k,wq1dl k,wqwz k],[1],[(1003,u_lex_lexer_row_1003.spec)],[]⟩
def wqgb(k:Nat){R:Type}(E1003:(Int→Int→(List UInt8)→Int→(List dT156)→(List UInt8)→Option R))(s0 s1:Int)(s2:(List UInt8))(s3:Int)(s4:(List dT156))(s5:(List UInt8))(K:(Int→Int→(List UInt8)→Int→(List dT156)→Option R))(E:(Int→Int→(List UInt8)→Int→(List dT156)→Int→Int→Option R)): Option R:=wqhp k s5 (fun y11=>cond y11 (wq5c k s0 s1 s2 s3 s4 1 [] false 1 (fun y12 y13 y14 y15 y16=>wq6w k y12 y13 y14 y15 y16 E1003)) (wqm0 k s5 (fun y12=>cond (!(y12 == [])) (cond (decide ((y12.length:Int)>64)) (wq1y k s0 s1 s2 s3 s4 5 (fun y13 y14 y15 y16 y17=>wq5c k y13 y14 y15 y16 y17 2 y12 false (@Go.IntKind.wrap Go.IntKind.i64 ((y12.length:Int)+1)) (fun y18 y19 y20 y21 y22=>wq6w k y18 y19 y20 y21 y22 (fun y23 y24 y25 y26 y27 y28=>cond (!(y28 == [])) (wq9q k y23 y24 y25 y26 y27 y28 K E) (K y23 y24 y25 y26 y27)))) E) (wq5c k s0 s1 s2 s3 s4 2 y12 false (@Go.IntKind.wrap Go.IntKind.i64 ((y12.length:Int)+1)) (fun y13 y14 y15 y16 y17=>wq6w k y13 y14 y15 y16 y17 (fun y18 y19 y20 y21 y22 y23=>cond (!(y23 == [])) (wq9q k y18 y19 y20 y21 y22 y23 K E) (K y18 y19 y20 y21 y22))))) (cond (!(s5 == [])) (wq9q k s0 s1 s2 s3 s4 s5 K E) (K s0 s1 s2 s3 s4)))))
def wqnd(k:Nat){R:Type}(E1003:(Int→Int→(List UInt8)→Int→(List dT156)→(List UInt8)→Option R))(x0 x1:Int)(x2:(List UInt8))(x3:Int)(x4:(List dT156))(K:(Int→Int→(List UInt8)→Int→(List dT156)→Option R))(E:(Int→Int→(List UInt8)→Int→(List dT156)→Int→Int→Option R)): Option R:=cond (cond (decide (x1<0)) true (decide (x1>16384))) (wq1y k x0 x1 x2 x3 x4 6 (fun y10 y11 y12 y13 y14=>wq6w k y10 y11 y12 y13 y14 E1003) E) (wq6w k x0 x1 x2 x3 x4 E1003)
def wq8p(k:Nat){R:Type}: Nat→Int→Int→(List UInt8)→Int→(List dT156)→(List UInt8)→(Int→Int→(List UInt8)→Int→(List dT156)→Option R)→(Int→Int→(List UInt8)→Int→(List dT156)→Int→Int→Option R)→Option R
 |0,_,_,_,_,_,_,_,_=>none
 |n+1,s0,s1,s2,s3,s4,s5,K,E=>wqgb k (fun s0 s1 s2 s3 s4 s5=>wq8p k n s0 s1 s2 s3 s4 s5 K E) s0 s1 s2 s3 s4 s5 K E
theorem wqjy(k:Nat){R:Type}: ∀(I:Nat→St→Option R) (n:Nat),h_lex_lexer_row.lp u_lex_lexer_row_1003 (wqnc k).cx k Tryz.f150 1003 [1,1,0,0] I n=wq8p k n:=h_lex_lexer_row.lok u_lex_lexer_row_1003 (B:=wqgb k) (L:=wq8p k) (fun I=>by kernel_rfl) (fun I=>by kernel_rfl) (fun n=>by kernel_rfl) (fun _ _ _ _=>rfl)
def wqh9(k:Nat){R:Type}(x0 x1:Int)(x2:(List UInt8))(x3:Int)(x4:(List dT156))(K:(Int→Int→(List UInt8)→Int→(List dT156)→Option R))(E:(Int→Int→(List UInt8)→Int→(List dT156)→Int→Int→Option R)): Option R:=wqnd k (fun s0 s1 s2 s3 s4 s5=>wq8p k k s0 s1 s2 s3 s4 s5 K E) x0 x1 x2 x3 x4 K E
theorem wqyg(k:Nat): DOK Tryz.prog 150 (h_lex_lexer_row.run (@wqh9 k)):=dok h_lex_lexer_row (wqnc k) Tryz.f150 k (ok1 (wq92 k) (ok1 (wqwv k) (ok1 (wq13k k) (ok1 (wqjo k) (ok1 (wq17l k) (ok1 (wqwy k) ok0)))))) (by kernel_rfl) (by kernel_rfl) fun R=>h_lex_lexer_row.f1 u_lex_lexer_row_1003 (wqnd k) (by kernel_rfl) (wqjy k (fun _ _=>none) k) (by kernel_rfl)
def wqzw:List LS:=[.ag [.any,.any,.any]]
def wq17m(k:Nat): CTab:=(CTab.add 150 h_lex_lexer_row.sig (h_lex_lexer_row.run (@wqh9 k)) CTab.nil)
def wqof{R:Type}(K:((List dT156)→Int→Int→Option R)): Out→Option R
 |.ret [.v (.sl (.pr (.int .i64) (.pr (.int .i64) (.pr (.int .i64) (.pr .str .bool))))) y0,.agg [.v (.int .i64) y1,.v (.int .i64) y2]] []=>K y0 y1 y2
 |_=>none
def wq13m:RetSpec:=⟨[.sl (.pr (.int .i64) (.pr (.int .i64) (.pr (.int .i64) (.pr .str .bool)))),.ag [.any,.any]],[],[]⟩
def wq15v:List (Nat×CutSpec):=[]
def wq13n:List (Nat×Plan):=[]
def wqx0(k:Nat): Ctx:=⟨tyT,wq15v,wq17m k,[2,3],[],wq13n,@SH⟩
def wq8q:Code:=Tryz.f100.body.getD .skip
def wqiw(k:Nat){R:Type}: PV→List PV→List (Nm×HObj)→(Out→Option R)→Option R
 |.nilif,[.ptr 1 0,.ptr 2 0],[(1,.var 110 [.v (.sl (.pr (.int .i64) (.pr (.int .i64) (.pr (.int .i64) (.pr .str .bool))))) x0]),(2,.var 29 [.v (.int .i64) x1,.v (.int .i64) x2])],K=>wqgp k x0 x1 x2 (fun y0 y1 y2=>K (.ret [] [(1,.var 110 [.v (.sl (.pr (.int .i64) (.pr (.int .i64) (.pr (.int .i64) (.pr .str .bool))))) y0]),(2,.var 29 [.v (.int .i64) y1,.v (.int .i64) y2])]))
 |.ifc 29 (.agg [.v (.int .i64) x3,.v (.int .i64) x4]),[.ptr 1 0,.ptr 2 0],[(1,.var 110 [.v (.sl (.pr (.int .i64) (.pr (.int .i64) (.pr (.int .i64) (.pr .str .bool))))) x0]),(2,.var 29 [.v (.int .i64) x1,.v (.int .i64) x2])],K=>wqgq k x0 x1 x2 x3 x4 (fun y0 y1 y2=>K (.ret [] [(1,.var 110 [.v (.sl (.pr (.int .i64) (.pr (.int .i64) (.pr (.int .i64) (.pr .str .bool))))) y0]),(2,.var 29 [.v (.int .i64) y1,.v (.int .i64) y2])]))
 |_,_,_,_=>none
def wq17n(k:Nat){R:Type}(x0 x1:Int)(x2:(List UInt8))(K:((List dT156)→Int→Int→Option R)): Option R:=wqh9 k x0 x1 x2 0 [] (fun y6 y7 y8 y9 y10=>wqgp k y10 0 0 K) (fun y6 y7 y8 y9 y10 y11 y12=>wqgq k [] 0 0 y11 y12 K)
theorem wq15w(k:Nat){R:Type}(I:Nat→St→Option R)(x0 x1:Int)(x2:(List UInt8))(K:((List dT156)→Int→Int→Option R)): fnDK (wqx0 k) k [300,400] [at_ [0] wq8q] (opsAt (at_ [1,0] wq8q)) (at_ [1,1] wq8q) 16 [.cell 2 110,.cell 3 29] wq13m (wqiw k) wqsy [(300,0),(400,0)] [.agg [.v (.int .i64) x0,.v (.int .i64) x1,.v .str x2]] [] (wqof K)=wq17n k x0 x1 x2 K:=by kernel_rfl
def wqv3(k:Nat){R:Type}(x0 x1:Int)(x2:(List UInt8))(K:((List dT156)→Int→Int→Option R)): Option R:=wq17n k x0 x1 x2 K
theorem wq15x(k:Nat){R:Type}(x0 x1:Int)(x2:(List UInt8))(K:((List dT156)→Int→Int→Option R)): fnDK (wqx0 k) k [300,400] [at_ [0] wq8q] (opsAt (at_ [1,0] wq8q)) (at_ [1,1] wq8q) 16 [.cell 2 110,.cell 3 29] wq13m (wqiw k) wqsy [(300,0),(400,0)] [.agg [.v (.int .i64) x0,.v (.int .i64) x1,.v .str x2]] [] (wqof K)=wqv3 k x0 x1 x2 K:=by
 exact wq15w k (fun _ _=>none) x0 x1 x2 K
def wqm1(k:Nat){R:Type}: List PV→List (Nm×HObj)→(Out→Option R)→Option R
 |[.agg [.v (.int .i64) x0,.v (.int .i64) x1,.v .str x2]],[],K=>wqv3 k x0 x1 x2 (fun y0 y1 y2=>K (.ret [.v (.sl (.pr (.int .i64) (.pr (.int .i64) (.pr (.int .i64) (.pr .str .bool))))) y0,.agg [.v (.int .i64) y1,.v (.int .i64) y2]] []))
 |_,_,_=>none
theorem wq15y(k:Nat): (wq17m k).Ok Tryz.prog:=(wqzf (wqyg k) CTab.nil_ok)
theorem wqyh(k:Nat){R:Type}(rec:PV)(ps:List PV)(hp:List (Nm×HObj))(K:Out→Option R)(r:R)(h:wqiw k rec ps hp K=some r): DoesToD Tryz.prog 149 rec ps hp fun out=>K out=some r:=by
 unfold wqiw at h
 split at h
 ·exact wq119 k h
 ·exact wq11a k h
 ·cases h
theorem wq17o(k:Nat){ps:List PV}{hp:List (Nm×HObj)}{R:Type}{K:Out→Option R}{r:R}(h:wqm1 k ps hp K=some r): DoesTo Tryz.prog 100 ps hp fun out=>K out=some r:=by
 unfold wqm1 at h
 split at h
 ·rw[←wq15x]at h
  have:=wq1ax (P:=Tryz.prog) (cx:=wqx0 k) (f:=100) ⟨tyT_ok,wq15y k,fun _ _=>rfl⟩ (by kernel_rfl) (fn:=Tryz.f100) (id:=1) (pre:=[at_ [0] wq8q]) (rest:=at_ [1,1] wq8q) (ops:=opsAt (at_ [1,0] wq8q)) (by kernel_rfl) (by kernel_rfl) (by kernel_rfl) (rs:=[.cell 2 110,.cell 3 29]) (by kernel_rfl) (by kernel_rfl) (by kernel_rfl) (g:=149) (s:=5) (xs:=[.tmp 2,.tmp 3]) (by kernel_rfl) (Invokes.of (fn:=Tryz.f149) (by kernel_rfl) (c:=Tryz.f149.body.getD .skip) (by kernel_rfl) (by kernel_rfl)) (wqyh k) h
  exact this.mono fun out ho=>by
   unfold wqof at ho
   split at ho<;>first|exact ho|cases ho
 ·cases h
def h_line_quoted:Sh:=⟨[.a .str,.a kI],some ([],[.a kI,.a .bool]),none⟩
def u_line_quoted_1003:Cu:=⟨0,[0,6,7],[.a .str,.a (.int .u8),.a kI]⟩
def wqt3(k:Nat): Cxt:=⟨[],[],[(1003,u_line_quoted_1003.spec)],[]⟩
def wqhu(k:Nat){R:Type}(E1003:((List UInt8)→Int→Int→Option R))(s0:(List UInt8))(s1 s2:Int)(K:(Int→Bool→Option R)): Option R:=cond (decide (s2<(s0.length:Int))) (cond ((!((s1 == 34) == true)) || (inb s2 (s0.length:Int))) (cond (cond (s1 == 34) (((s0.getD s2.toNat 0).toNat:Int) == 92) false) (E1003 s0 s1 (@Go.IntKind.wrap Go.IntKind.i64 ((@Go.IntKind.wrap Go.IntKind.i64 (s2+1))+1))) (cond (inb s2 (s0.length:Int)) (cond (((s0.getD s2.toNat 0).toNat:Int) != s1) (E1003 s0 s1 (@Go.IntKind.wrap Go.IntKind.i64 (s2+1))) (cond ((!((cond (s1 == 39) (decide ((@Go.IntKind.wrap Go.IntKind.i64 (s2+1))<(s0.length:Int))) false) == true)) || (inb (@Go.IntKind.wrap Go.IntKind.i64 (s2+1)) (s0.length:Int))) (cond (cond (cond (s1 == 39) (decide ((@Go.IntKind.wrap Go.IntKind.i64 (s2+1))<(s0.length:Int))) false) (((s0.getD (@Go.IntKind.wrap Go.IntKind.i64 (s2+1)).toNat 0).toNat:Int) == s1) false) (E1003 s0 s1 (@Go.IntKind.wrap Go.IntKind.i64 ((@Go.IntKind.wrap Go.IntKind.i64 (s2+1))+1))) (K s2 true)) none)) none)) none) (K 0 false)
def wqt4(k:Nat){R:Type}(E1003:((List UInt8)→Int→Int→Option R))(x0:(List UInt8))(x1:Int)(K:(Int→Bool→Option R)): Option R:=cond (inb x1 (x0.length:Int)) (E1003 x0 ((x0.getD x1.toNat 0).toNat:Int) (@Go.IntKind.wrap Go.IntKind.i64 (x1+1))) none
def wqa8(k:Nat){R:Type}: Nat→(List UInt8)→Int→Int→(Int→Bool→Option R)→Option R
 |0,_,_,_,_=>none
 |n+1,s0,s1,s2,K=>wqhu k (fun s0 s1 s2=>wqa8 k n s0 s1 s2 K) s0 s1 s2 K
theorem wqmr(k:Nat){R:Type}: ∀(I:Nat→St→Option R) (n:Nat),h_line_quoted.lp u_line_quoted_1003 (wqt3 k).cx k Tryz.f147 1003 [1,1,0,1,0] I n=wqa8 k n:=h_line_quoted.lok u_line_quoted_1003 (B:=wqhu k) (L:=wqa8 k) (fun I=>by kernel_rfl) (fun I=>by kernel_rfl) (fun n=>by kernel_rfl) (fun _ _ _ _=>rfl)
def wqgs(k:Nat){R:Type}(x0:(List UInt8))(x1:Int)(K:(Int→Bool→Option R)): Option R:=wqt4 k (fun s0 s1 s2=>wqa8 k k s0 s1 s2 K) x0 x1 K
theorem wq13o(k:Nat): DOK Tryz.prog 147 (h_line_quoted.run (@wqgs k)):=dok h_line_quoted (wqt3 k) Tryz.f147 k ok0 (by kernel_rfl) (by kernel_rfl) fun R=>h_line_quoted.f1 u_line_quoted_1003 (wqt4 k) (by kernel_rfl) (wqmr k (fun _ _=>none) k) (by kernel_rfl)
def wq13p(k:Nat): Ent:=h_line_quoted.e 147 (@wqgs k)
def h_strings_trimRightByte:Sh:=⟨[.a .str,.a (.int .u8)],some ([],[.a .str]),none⟩
def u_strings_trimRightByte_1001:Cu:=⟨0,[0,1],[.a .str,.a (.int .u8)]⟩
def wqdb(k:Nat): Cxt:=⟨[],[],[(1001,u_strings_trimRightByte_1001.spec)],[]⟩
def wq9r(k:Nat){R:Type}(E1001:((List UInt8)→Int→Option R))(s0:(List UInt8))(s1:Int)(K:((List UInt8)→Option R)): Option R:=cond ((!((decide ((s0.length:Int)>0)) == true)) || (inb (@Go.IntKind.wrap Go.IntKind.i64 ((s0.length:Int)-1)) (s0.length:Int))) (cond (cond (decide ((s0.length:Int)>0)) (((s0.getD (@Go.IntKind.wrap Go.IntKind.i64 ((s0.length:Int)-1)).toNat 0).toNat:Int) == s1) false) (cond (bnd 0 (@Go.IntKind.wrap Go.IntKind.i64 ((s0.length:Int)-1)) (s0.length:Int)) (E1001 (cut s0 0 (@Go.IntKind.wrap Go.IntKind.i64 ((s0.length:Int)-1))) s1) none) (K s0)) none
def wqdc(k:Nat){R:Type}(E1001:((List UInt8)→Int→Option R))(x0:(List UInt8))(x1:Int)(K:((List UInt8)→Option R)): Option R:=E1001 x0 x1
def wq4z(k:Nat){R:Type}: Nat→(List UInt8)→Int→((List UInt8)→Option R)→Option R
 |0,_,_,_=>none
 |n+1,s0,s1,K=>wq9r k (fun s0 s1=>wq4z k n s0 s1 K) s0 s1 K
theorem wqep(k:Nat){R:Type}: ∀(I:Nat→St→Option R) (n:Nat),h_strings_trimRightByte.lp u_strings_trimRightByte_1001 (wqdb k).cx k Tryz.f188 1001 [1,0,0] I n=wq4z k n:=h_strings_trimRightByte.lok u_strings_trimRightByte_1001 (B:=wq9r k) (L:=wq4z k) (fun I=>by kernel_rfl) (fun I=>by kernel_rfl) (fun n=>by kernel_rfl) (fun _ _ _ _=>rfl)
def wq9e(k:Nat){R:Type}(x0:(List UInt8))(x1:Int)(K:((List UInt8)→Option R)): Option R:=wqdc k (fun s0 s1=>wq4z k k s0 s1 K) x0 x1 K
theorem wqjz(k:Nat): DOK Tryz.prog 188 (h_strings_trimRightByte.run (@wq9e k)):=dok h_strings_trimRightByte (wqdb k) Tryz.f188 k ok0 (by kernel_rfl) (by kernel_rfl) fun R=>h_strings_trimRightByte.f1 u_strings_trimRightByte_1001 (wqdc k) (by kernel_rfl) (wqep k (fun _ _=>none) k) (by kernel_rfl)
def wqk0(k:Nat): Ent:=h_strings_trimRightByte.e 188 (@wq9e k)
def h_strings_TrimRight:Sh:=⟨[.a .str,.j],some ([],[.a .str]),none⟩
def wqq1(k:Nat): Cxt:=⟨[wqk0 k],[],[],[]⟩
def wqq2(k:Nat){R:Type}(x0:(List UInt8))(x1:UInt8)(K:((List UInt8)→Option R)): Option R:=cond (cond (x0 == []) true ([x1] == [])) (K x0) (cond (cond ((@List.length UInt8 [x1]:Int) == 1) (decide (((([x1]).getD (Int.toNat 0) 0).toNat:Int)<128)) false) (wq9e k x0 ((([x1]).getD (Int.toNat 0) 0).toNat:Int) K) none)
def wq9j:=@wqq2
theorem wqq3(k:Nat): DOK Tryz.prog 148 (h_strings_TrimRight.run (@wq9j k)):=dok h_strings_TrimRight (wqq1 k) Tryz.f148 k (ok1 (wqjz k) ok0) (by kernel_rfl) (by kernel_rfl) fun R=>by kernel_rfl
def wqq4(k:Nat): Ent:=h_strings_TrimRight.e 148 (@wq9j k)
def h_line_Strip:Sh:=⟨[.a .str],some ([],[.a .str,.a .bool]),none⟩
def u_line_Strip_1003:Cu:=⟨0,[0,4,5],[.a .str,.a kI,.a kI]⟩
def wqx1(k:Nat): Cxt:=⟨[wq13p k,wqq4 k],[],[(1003,u_line_Strip_1003.spec)],[]⟩
def wqjp(k:Nat){R:Type}(E1003:((List UInt8)→Int→Int→Option R))(s0:(List UInt8))(s1 s2:Int)(K:((List UInt8)→Bool→Option R)): Option R:=cond (decide (s2<(s0.length:Int))) (cond ((!((decide (s2>0)) == true)) || (inb (@Go.IntKind.wrap Go.IntKind.i64 (s2-1)) (s0.length:Int))) (cond (cond (decide (s2>0)) (((s0.getD (@Go.IntKind.wrap Go.IntKind.i64 (s2-1)).toNat 0).toNat:Int) != 32) false) (E1003 s0 s1 (@Go.IntKind.wrap Go.IntKind.i64 (s2+1))) (cond (inb s2 (s0.length:Int)) (cond (((s0.getD s2.toNat 0).toNat:Int) == 35) (cond (bnd 0 s2 (s0.length:Int)) (wq9j k (cut s0 0 s2) 32 (fun y7=>K y7 true)) none) (cond (((s0.getD s2.toNat 0).toNat:Int) == 39) (wqgs k s0 s2 (fun y7 y8=>cond (!y8) (K [] false) (E1003 s0 s1 (@Go.IntKind.wrap Go.IntKind.i64 (y7+1))))) (cond (((s0.getD s2.toNat 0).toNat:Int) == 34) (wqgs k s0 s2 (fun y7 y8=>cond (!y8) (K [] false) (E1003 s0 s1 (@Go.IntKind.wrap Go.IntKind.i64 (y7+1))))) (E1003 s0 s1 (@Go.IntKind.wrap Go.IntKind.i64 (s2+1)))))) none)) none) (cond (bnd 0 s1 (s0.length:Int)) (wq9j k (cut s0 0 s1) 32 (fun y7=>K y7 true)) none)
def wqx2(k:Nat){R:Type}(E1003:((List UInt8)→Int→Int→Option R))(x0:(List UInt8))(K:((List UInt8)→Bool→Option R)): Option R:=E1003 x0 (x0.length:Int) 0
def wqb7(k:Nat){R:Type}: Nat→(List UInt8)→Int→Int→((List UInt8)→Bool→Option R)→Option R
 |0,_,_,_,_=>none
 |n+1,s0,s1,s2,K=>wqjp k (fun s0 s1 s2=>wqb7 k n s0 s1 s2 K) s0 s1 s2 K
theorem wqog(k:Nat){R:Type}: ∀(I:Nat→St→Option R) (n:Nat),h_line_Strip.lp u_line_Strip_1003 (wqx1 k).cx k Tryz.f99 1003 [1,0,1,1,0,1,0] I n=wqb7 k n:=h_line_Strip.lok u_line_Strip_1003 (B:=wqjp k) (L:=wqb7 k) (fun I=>by kernel_rfl) (fun I=>by kernel_rfl) (fun n=>by kernel_rfl) (fun _ _ _ _=>rfl)
def wqix(k:Nat){R:Type}(x0:(List UInt8))(K:((List UInt8)→Bool→Option R)): Option R:=wqx2 k (fun s0 s1 s2=>wqb7 k k s0 s1 s2 K) x0 K
theorem wqx3(k:Nat): DOK Tryz.prog 99 (h_line_Strip.run (@wqix k)):=dok h_line_Strip (wqx1 k) Tryz.f99 k (ok1 (wq13o k) (ok1 (wqq3 k) ok0)) (by kernel_rfl) (by kernel_rfl) fun R=>h_line_Strip.f1 u_line_Strip_1003 (wqx2 k) (by kernel_rfl) (wqog k (fun _ _=>none) k) (by kernel_rfl)
def wqx4(k:Nat): Ent:=h_line_Strip.e 99 (@wqix k)
def h_show_plain:Sh:=⟨[.a .str],some ([],[.a .bool]),none⟩
def u_show_plain_1002:Cu:=⟨0,[0,9,10],[.a .str,.a kI,.a kI]⟩
def wqx5(k:Nat): Cxt:=⟨[wqx4 k,⟨100,wqzw,wqm1 k⟩],[],[(1002,u_show_plain_1002.spec)],[]⟩
def wqjq(k:Nat){R:Type}(E1002:((List UInt8)→Int→Int→Option R))(s0:(List UInt8))(s1 s2:Int)(K:(Bool→Option R)): Option R:=cond (decide (s2<s1)) (cond (inb s2 (s0.length:Int)) (cond ((!((decide (((s0.getD s2.toNat 0).toNat:Int)<32)) == false)) || (inb s2 (s0.length:Int))) (cond (cond (decide (((s0.getD s2.toNat 0).toNat:Int)<32)) true (((s0.getD s2.toNat 0).toNat:Int) == 127)) (K false) (E1002 s0 s1 (@Go.IntKind.wrap Go.IntKind.i64 (s2+1)))) none) none) (wqix k s0 (fun y7 y8=>cond (cond (cond (s0 == []) true (!y8)) true (!(y7 == s0))) (K false) (wqv3 k 0 0 s0 (fun y9 y10 y11=>cond ((!((cond (y10 == 0) ((y9.length:Int) == 1) false) == true)) || (inb 0 (y9.length:Int))) (cond ((!((cond (cond (y10 == 0) ((y9.length:Int) == 1) false) ((y9.getD (Int.toNat 0) kdT156.zero).1 == 3) false) == true)) || (inb 0 (y9.length:Int))) (cond ((!((cond (cond (cond (y10 == 0) ((y9.length:Int) == 1) false) ((y9.getD (Int.toNat 0) kdT156.zero).1 == 3) false) (((((y9.getD (Int.toNat 0) kdT156.zero).2).2).2).1 == s0) false) == true)) || (inb 0 (y9.length:Int))) (K (cond (cond (cond (cond (y10 == 0) ((y9.length:Int) == 1) false) ((y9.getD (Int.toNat 0) kdT156.zero).1 == 3) false) (((((y9.getD (Int.toNat 0) kdT156.zero).2).2).2).1 == s0) false) (!((((y9.getD (Int.toNat 0) kdT156.zero).2).2).2).2) false)) none) none) none))))
def wqx6(k:Nat){R:Type}(E1002:((List UInt8)→Int→Int→Option R))(x0:(List UInt8))(K:(Bool→Option R)): Option R:=E1002 x0 (x0.length:Int) 0
def wqb8(k:Nat){R:Type}: Nat→(List UInt8)→Int→Int→(Bool→Option R)→Option R
 |0,_,_,_,_=>none
 |n+1,s0,s1,s2,K=>wqjq k (fun s0 s1 s2=>wqb8 k n s0 s1 s2 K) s0 s1 s2 K
theorem wqoh(k:Nat){R:Type}: ∀(I:Nat→St→Option R) (n:Nat),h_show_plain.lp u_show_plain_1002 (wqx5 k).cx k Tryz.f164 1002 [1,0,1,0] I n=wqb8 k n:=h_show_plain.lok u_show_plain_1002 (B:=wqjq k) (L:=wqb8 k) (fun I=>by kernel_rfl) (fun I=>by kernel_rfl) (fun n=>by kernel_rfl) (fun _ _ _ _=>rfl)
def wqoi(k:Nat){R:Type}(x0:(List UInt8))(K:(Bool→Option R)): Option R:=wqx6 k (fun s0 s1 s2=>wqb8 k k s0 s1 s2 K) x0 K
theorem wq15z(k:Nat): DOK Tryz.prog 164 (h_show_plain.run (@wqoi k)):=dok h_show_plain (wqx5 k) Tryz.f164 k (ok1 (wqx3 k) (ok1 (fun _ _ _ _ _ h=>wq17o k h) ok0)) (by kernel_rfl) (by kernel_rfl) fun R=>h_show_plain.f1 u_show_plain_1002 (wqx6 k) (by kernel_rfl) (wqoh k (fun _ _=>none) k) (by kernel_rfl)
def wq160(k:Nat): Ent:=h_show_plain.e 164 (@wqoi k)
def h_show_may:Sh:=⟨[.g [.a kI,.a kI,.a .str,.a .bool,.s .str,.s kI]],some ([],[.a .bool]),none⟩
def wq1bj(k:Nat): Cxt:=⟨[wq160 k,wq15s k],[],[],[]⟩
def wq1bk(k:Nat){R:Type}(x0 x1:Int)(x2:(List UInt8))(x3:Bool)(x4:(List (List UInt8)))(x5:(List Int))(K:(Bool→Option R)): Option R:=cond (x0 == 1) (cond ((cond (cond ((x4.length:Int) == 0) ((x5.length:Int) == 0) false) (decide ((x2.length:Int)≤200)) false) == true) (cond (x3 == false) (wqoi k x2 K) (K true)) (K false)) (cond (x0 == 2) (K (cond (cond (cond (x2 == []) (!x3) false) ((x4.length:Int) == 0) false) (decide ((x5.length:Int)>0)) false)) (cond (x0 == 3) (cond ((cond (cond (cond (x2 == []) (!x3) false) (decide ((x5.length:Int)>0)) false) ((x4.length:Int) == (x5.length:Int)) false) == true) (wqoe k x4 K) (K false)) (K false)))
def wqx7:=@wq1bk
theorem wq1bl(k:Nat): DOK Tryz.prog 111 (h_show_may.run (@wqx7 k)):=dok h_show_may (wq1bj k) Tryz.f111 k (ok1 (wq15z k) (ok1 (wq15r k) ok0)) (by kernel_rfl) (by kernel_rfl) fun R=>by kernel_rfl
def wq1bm(k:Nat): Ent:=h_show_may.e 111 (@wqx7 k)
def h_show_walk:Sh:=⟨[.g [.s kdT72],.a kI,.a kI],some ([],[.a kI]),none⟩
abbrev wqbq:Type 1:=(R:Type)→(List dT72)→Int→Int→(Int→Option R)→Option R
def u_show_walk_1005:Cu:=⟨0,[2,3,7,35,36,37],[.a kI,.o 13 38 0 [.s kdT72],.a kI,.s kI,.a kI,.a kI]⟩
def wqm2(k:Nat)(wq55:wqbq): Cxt:=⟨[h_show_walk.e 68 wq55,wq1bm k],[],[(1005,u_show_walk_1005.spec)],[]⟩
def wqkz(k:Nat)(wq55:wqbq){R:Type}(E1005:(Int→(List dT72)→Int→(List Int)→Int→Int→Option R))(s0:Int)(s1:(List dT72))(s2:Int)(s3:(List Int))(s4 s5:Int)(K:(Int→Option R)): Option R:=cond (decide (s5<s4)) (cond (inb s5 (s3.length:Int)) (cond ((s3.getD s5.toNat kI.zero) != s2) (K (@Neg.neg Int @Int.instNegInt (1:Int))) (wq55 R s1 (s3.getD s5.toNat kI.zero) (@Go.IntKind.wrap Go.IntKind.i64 (s0+1)) (fun y10=>cond (decide (y10<0)) (K (@Neg.neg Int @Int.instNegInt (1:Int))) (E1005 s0 s1 y10 s3 s4 (@Go.IntKind.wrap Go.IntKind.i64 (s5+1)))))) none) (K s2)
def wqrr(k:Nat)(wq55:wqbq){R:Type}(E1005:(Int→(List dT72)→Int→(List Int)→Int→Int→Option R))(x0:(List dT72))(x1 x2:Int)(K:(Int→Option R)): Option R:=cond ((!((cond (decide (x1≥(x0.length:Int))) true (decide (x2>24))) == false)) || (inb x1 (x0.length:Int))) (cond ((cond (decide (x1≥(x0.length:Int))) true (decide (x2>24))) == false) (wqx7 k (x0.getD x1.toNat kdT72.zero).1 ((x0.getD x1.toNat kdT72.zero).2).1 (((x0.getD x1.toNat kdT72.zero).2).2).1 ((((x0.getD x1.toNat kdT72.zero).2).2).2).1 (((((x0.getD x1.toNat kdT72.zero).2).2).2).2).1 (((((x0.getD x1.toNat kdT72.zero).2).2).2).2).2 (fun y7=>cond (!y7) (K (@Neg.neg Int @Int.instNegInt (1:Int))) (cond (inb x1 (x0.length:Int)) (E1005 x2 x0 (@Go.IntKind.wrap Go.IntKind.i64 (x1+1)) (((((x0.getD x1.toNat kdT72.zero).2).2).2).2).2 (((((((x0.getD x1.toNat kdT72.zero).2).2).2).2).2).length:Int) 0) none))) (K (@Neg.neg Int @Int.instNegInt (1:Int)))) none
def wqcw(k:Nat)(wq55:wqbq){R:Type}: Nat→Int→(List dT72)→Int→(List Int)→Int→Int→(Int→Option R)→Option R
 |0,_,_,_,_,_,_,_=>none
 |n+1,s0,s1,s2,s3,s4,s5,K=>wqkz k wq55 (fun s0 s1 s2 s3 s4 s5=>wqcw k wq55 n s0 s1 s2 s3 s4 s5 K) s0 s1 s2 s3 s4 s5 K
theorem wqq5(k:Nat)(wq55:wqbq){R:Type}: ∀(I:Nat→St→Option R) (n:Nat),h_show_walk.lp u_show_walk_1005 (wqm2 k wq55).cx k Tryz.f68 1005 [1,1,1,0,1,0] I n=wqcw k wq55 n:=h_show_walk.lok u_show_walk_1005 (B:=wqkz k wq55) (L:=wqcw k wq55) (fun I=>by kernel_rfl) (fun I=>by kernel_rfl) (fun n=>by kernel_rfl) (fun _ _ _ _=>rfl)
theorem wq18x(k:Nat)(wq55:wqbq)(R:Type): h_show_walk.at (wqm2 k wq55) k Tryz.f68 R=h_show_walk.glue (l:=h_show_walk.ps) (u:=u_show_walk_1005.fs) (fun E1005=>@wqrr k wq55 R E1005) (h_show_walk.lp u_show_walk_1005 (wqm2 k wq55).cx k Tryz.f68 1005 [1,1,1,0,1,0] (fun _ _=>none) k):=by kernel_rfl
def wq9s:Nat→wqbq
 |0,_,_,_,_,_=>none
 |k+1,R,x0,x1,x2,K=>wqrr k (wq9s k) (fun s0 s1 s2 s3 s4 s5=>wqcw k (wq9s k) k s0 s1 s2 s3 s4 s5 K) x0 x1 x2 K
def wqrs(k:Nat){R:Type}(x0:(List dT72))(x1 x2:Int)(K:(Int→Option R)): Option R:=wq9s k R x0 x1 x2 K
theorem wq161(k:Nat): DOK Tryz.prog 68 (h_show_walk.run (wq9s k)):=by
 induction k with
 |zero=>exact h_show_walk.ok0 fun R=>by kernel_rfl
 |succ k ih =>
  have ih_show_walk:=ih
  exact dok h_show_walk (wqm2 k (wq9s k)) Tryz.f68 k (ok1 ih_show_walk (ok1 (wq1bl k) ok0)) (by kernel_rfl) (by kernel_rfl) fun R=>h_show_walk.f1 u_show_walk_1005 (wqrr k (wq9s k)) (wq18x k (wq9s k) R) (wqq5 k (wq9s k) (fun _ _=>none) k) (by kernel_rfl)
theorem wq18y(k:Nat): DOK Tryz.prog 68 (h_show_walk.run (@wqrs k)):=(wq161 k)
def wq18z(k:Nat): Ent:=h_show_walk.e 68 (@wqrs k)
def h_show_Check:Sh:=⟨[.g [.s kdT72]],some ([],[.a kI]),none⟩
def wq162(k:Nat): Cxt:=⟨[wq18z k],[],[],[(1,(.of [(0,1),(1,1),(2,1),(3,1),(4,1),(5,1),(6,1),(7,1),(8,1),(9,1),(10,1),(13,1),(11,1),(14,2),(15,1),(12,0),(16,1),(17,1)] .done))]⟩
def wq163(k:Nat){R:Type}(x0:(List dT72))(K:(Int→Option R)): Option R:=cond ((cond (decide ((x0.length:Int)<1)) true (decide ((x0.length:Int)>2000))) == false) (wqrs k x0 0 1 (fun y4=>cond (y4 != (x0.length:Int)) (K 1) (K 0))) (K 1)
def wqoj:=@wq163
theorem wq164(k:Nat): DOK Tryz.prog 35 (h_show_Check.run (@wqoj k)):=dok h_show_Check (wq162 k) Tryz.f35 k (ok1 (wq18y k) ok0) (by kernel_rfl) (by kernel_rfl) fun R=>by kernel_rfl
def wqt5:List LS:=[.ag [.sl (.pr (.int .i64) (.pr (.int .i64) (.pr .str (.pr .bool (.pr (.sl .str) (.sl (.int .i64)))))))]]
def wqzx(k:Nat): CTab:=(CTab.add 35 h_show_Check.sig (h_show_Check.run (@wqoj k)) (CTab.add 37 h_config_reader_root.sig (h_config_reader_root.run (@wqbo k)) CTab.nil))
def wqiy{R:Type}(K:((List ((List UInt8)×(List Int)))→(List dT56)→Int→Int→Option R)): Out→Option R
 |.ret [.agg [.v (.sl (.pr .str (.sl (.int .i64)))) y0,.v (.sl (.pr .str (.pr .str (.pr .bool (.pr (.int .i64) (.pr (.int .i64) (.pr .bool (.pr (.pr .str (.pr (.int .i64) (.pr (.int .i64) (.pr .flt (.pr .bool .bool))))) (.sl (.int .i64)))))))))) y1],.agg [.v (.int .i64) y2,.v (.int .i64) y3]] []=>K y0 y1 y2 y3
 |_=>none
def wqx8:RetSpec:=⟨[.ag [.sl (.pr .str (.sl (.int .i64))),.sl (.pr .str (.pr .str (.pr .bool (.pr (.int .i64) (.pr (.int .i64) (.pr .bool (.pr (.pr .str (.pr (.int .i64) (.pr (.int .i64) (.pr .flt (.pr .bool .bool))))) (.sl (.int .i64)))))))))],.ag [.any,.any]],[],[]⟩
def wq11c:List (Nat×CutSpec):=[]
def wqyi:List (Nat×Plan):=[]
def wqok(k:Nat): Ctx:=⟨tyT,wq11c,wqzx k,[2,3],[],wqyi,@SH⟩
def wq48:Code:=Tryz.f16.body.getD .skip
def wqfg(k:Nat){R:Type}: PV→List PV→List (Nm×HObj)→(Out→Option R)→Option R
 |.nilif,[.ptr 1 0,.ptr 2 0],[(1,.var 27 [.v (.sl (.pr .str (.sl (.int .i64)))) x0,.v (.sl (.pr .str (.pr .str (.pr .bool (.pr (.int .i64) (.pr (.int .i64) (.pr .bool (.pr (.pr .str (.pr (.int .i64) (.pr (.int .i64) (.pr .flt (.pr .bool .bool))))) (.sl (.int .i64)))))))))) x1]),(2,.var 29 [.v (.int .i64) x2,.v (.int .i64) x3])],K=>wqe9 k x0 x1 x2 x3 (fun y0 y1 y2 y3=>K (.ret [] [(1,.var 27 [.v (.sl (.pr .str (.sl (.int .i64)))) y0,.v (.sl (.pr .str (.pr .str (.pr .bool (.pr (.int .i64) (.pr (.int .i64) (.pr .bool (.pr (.pr .str (.pr (.int .i64) (.pr (.int .i64) (.pr .flt (.pr .bool .bool))))) (.sl (.int .i64)))))))))) y1]),(2,.var 29 [.v (.int .i64) y2,.v (.int .i64) y3])]))
 |.ifc 29 (.agg [.v (.int .i64) x4,.v (.int .i64) x5]),[.ptr 1 0,.ptr 2 0],[(1,.var 27 [.v (.sl (.pr .str (.sl (.int .i64)))) x0,.v (.sl (.pr .str (.pr .str (.pr .bool (.pr (.int .i64) (.pr (.int .i64) (.pr .bool (.pr (.pr .str (.pr (.int .i64) (.pr (.int .i64) (.pr .flt (.pr .bool .bool))))) (.sl (.int .i64)))))))))) x1]),(2,.var 29 [.v (.int .i64) x2,.v (.int .i64) x3])],K=>wqea k x0 x1 x2 x3 x4 x5 (fun y0 y1 y2 y3=>K (.ret [] [(1,.var 27 [.v (.sl (.pr .str (.sl (.int .i64)))) y0,.v (.sl (.pr .str (.pr .str (.pr .bool (.pr (.int .i64) (.pr (.int .i64) (.pr .bool (.pr (.pr .str (.pr (.int .i64) (.pr (.int .i64) (.pr .flt (.pr .bool .bool))))) (.sl (.int .i64)))))))))) y1]),(2,.var 29 [.v (.int .i64) y2,.v (.int .i64) y3])]))
 |_,_,_,_=>none
def wqzy(k:Nat){R:Type}(x0:(List dT72))(K:((List ((List UInt8)×(List Int)))→(List dT56)→Int→Int→Option R)): Option R:=wqoj k x0 (fun y4=>cond (y4 != 0) (K [] [] 11 0) (wqbo k x0 [] [] 0 (fun y5 y6 y7 y8=>wqe9 k y6 y7 0 0 K) (fun y5 y6 y7 y8 y9 y10=>wqea k [] [] 0 0 y9 y10 K)))
theorem wq11d(k:Nat){R:Type}(I:Nat→St→Option R)(x0:(List dT72))(K:((List ((List UInt8)×(List Int)))→(List dT56)→Int→Int→Option R)): fnDK (wqok k) k [300,400] [at_ [0] wq48,at_ [1,0] wq48] (opsAt (at_ [1,1,0] wq48)) (at_ [1,1,1] wq48) 22 [.cell 2 27,.cell 3 29] wqx8 (wqfg k) wqn5 [(300,0),(400,0)] [.agg [.v (.sl (.pr (.int .i64) (.pr (.int .i64) (.pr .str (.pr .bool (.pr (.sl .str) (.sl (.int .i64)))))))) x0]] [] (wqiy K)=wqzy k x0 K:=by kernel_rfl
def wqfp(k:Nat){R:Type}(x0:(List dT72))(K:((List ((List UInt8)×(List Int)))→(List dT56)→Int→Int→Option R)): Option R:=wqzy k x0 K
theorem wq11e(k:Nat){R:Type}(x0:(List dT72))(K:((List ((List UInt8)×(List Int)))→(List dT56)→Int→Int→Option R)): fnDK (wqok k) k [300,400] [at_ [0] wq48,at_ [1,0] wq48] (opsAt (at_ [1,1,0] wq48)) (at_ [1,1,1] wq48) 22 [.cell 2 27,.cell 3 29] wqx8 (wqfg k) wqn5 [(300,0),(400,0)] [.agg [.v (.sl (.pr (.int .i64) (.pr (.int .i64) (.pr .str (.pr .bool (.pr (.sl .str) (.sl (.int .i64)))))))) x0]] [] (wqiy K)=wqfp k x0 K:=by
 exact wq11d k (fun _ _=>none) x0 K
def wqgt(k:Nat){R:Type}: List PV→List (Nm×HObj)→(Out→Option R)→Option R
 |[.agg [.v (.sl (.pr (.int .i64) (.pr (.int .i64) (.pr .str (.pr .bool (.pr (.sl .str) (.sl (.int .i64)))))))) x0]],[],K=>wqfp k x0 (fun y0 y1 y2 y3=>K (.ret [.agg [.v (.sl (.pr .str (.sl (.int .i64)))) y0,.v (.sl (.pr .str (.pr .str (.pr .bool (.pr (.int .i64) (.pr (.int .i64) (.pr .bool (.pr (.pr .str (.pr (.int .i64) (.pr (.int .i64) (.pr .flt (.pr .bool .bool))))) (.sl (.int .i64)))))))))) y1],.agg [.v (.int .i64) y2,.v (.int .i64) y3]] []))
 |_,_,_=>none
theorem wq11f(k:Nat): (wqzx k).Ok Tryz.prog:=(wqzf (wq164 k) (wqzf (wqoc k) CTab.nil_ok))
theorem wqug(k:Nat){R:Type}(rec:PV)(ps:List PV)(hp:List (Nm×HObj))(K:Out→Option R)(r:R)(h:wqfg k rec ps hp K=some r): DoesToD Tryz.prog 36 rec ps hp fun out=>K out=some r:=by
 unfold wqfg at h
 split at h
 ·exact wqwh k h
 ·exact wqwi k h
 ·cases h
theorem wqzz(k:Nat){ps:List PV}{hp:List (Nm×HObj)}{R:Type}{K:Out→Option R}{r:R}(h:wqgt k ps hp K=some r): DoesTo Tryz.prog 16 ps hp fun out=>K out=some r:=by
 unfold wqgt at h
 split at h
 ·rw[←wq11e]at h
  have:=wq1ax (P:=Tryz.prog) (cx:=wqok k) (f:=16) ⟨tyT_ok,wq11f k,fun _ _=>rfl⟩ (by kernel_rfl) (fn:=Tryz.f16) (id:=3) (pre:=[at_ [0] wq48,at_ [1,0] wq48]) (rest:=at_ [1,1,1] wq48) (ops:=opsAt (at_ [1,1,0] wq48)) (by kernel_rfl) (by kernel_rfl) (by kernel_rfl) (rs:=[.cell 2 27,.cell 3 29]) (by kernel_rfl) (by kernel_rfl) (by kernel_rfl) (g:=36) (s:=10) (xs:=[.tmp 2,.tmp 3]) (by kernel_rfl) (Invokes.of (fn:=Tryz.f36) (by kernel_rfl) (c:=Tryz.f36.body.getD .skip) (by kernel_rfl) (by kernel_rfl)) (wqug k) h
  exact this.mono fun out ho=>by
   unfold wqiy at ho
   split at ho<;>first|exact ho|cases ho
 ·cases h
def wqq6(wqc8:(R:Type)→(List dT72)→((List ((List UInt8)×(List Int)))→(List dT56)→Int→Int→Option R)→Option R){R:Type}: List PV→List (Nm×HObj)→(Out→Option R)→Option R
 |[.agg [.v (.sl (.pr (.int .i64) (.pr (.int .i64) (.pr .str (.pr .bool (.pr (.sl .str) (.sl (.int .i64)))))))) x0]],[],K=>wqc8 R x0 (fun y0 y1 y2 y3=>K (.ret [.agg [.v (.sl (.pr .str (.sl (.int .i64)))) y0,.v (.sl (.pr .str (.pr .str (.pr .bool (.pr (.int .i64) (.pr (.int .i64) (.pr .bool (.pr (.pr .str (.pr (.int .i64) (.pr (.int .i64) (.pr .flt (.pr .bool .bool))))) (.sl (.int .i64)))))))))) y1],.agg [.v (.int .i64) y2,.v (.int .i64) y3]] []))
 |_,_,_=>none
def wqx9:List LS:=[.obj 1 [.sl (.pr (.int .i64) (.pr (.int .i64) (.pr .str (.pr .bool (.pr (.sl .str) (.sl (.int .i64)))))))],.obj 2 [.any,.any]]
def wqxa(k:Nat): CTab:=CTab.nil
def wqha{R:Type}(K:((List dT72)→Int→Int→Option R)): Out→Option R
 |.ret [] [(1,.var 38 [.v (.sl (.pr (.int .i64) (.pr (.int .i64) (.pr .str (.pr .bool (.pr (.sl .str) (.sl (.int .i64)))))))) y0]),(2,.var 29 [.v (.int .i64) y1,.v (.int .i64) y2])]=>K y0 y1 y2
 |_=>none
def wqt6:RetSpec:=⟨[],[(1,.obj 1 [.sl (.pr (.int .i64) (.pr (.int .i64) (.pr .str (.pr .bool (.pr (.sl .str) (.sl (.int .i64)))))))]),(2,.obj 2 [.any,.any])],[]⟩
def wqyj:List (Nat×CutSpec):=[]
def wqxb:List (Nat×Plan):=[(7,(.of [(0,1),(1,2),(2,0),(3,0)] .done))]
def wql0(k:Nat): Ctx:=⟨tyT,wqyj,wqxa k,[],[1,2],wqxb,@SH⟩
def wqeb:Code:=Tryz.f101.body.getD .skip
def wqxc(k:Nat){R:Type}(x0:(List dT72))(x1 x2:Int)(K:((List dT72)→Int→Int→Option R)): Option R:=K x0 x1 x2
theorem wqyk(k:Nat){R:Type}(I:Nat→St→Option R)(x0:(List dT72))(x1 x2:Int)(K:((List dT72)→Int→Int→Option R)): fnCK (wql0 k) k (at_ [1] wqeb) 13 [] wqt6 [.ptr 1 0,.ptr 2 0] 5 (.nilif) [(1,.var 38 [.v (.sl (.pr (.int .i64) (.pr (.int .i64) (.pr .str (.pr .bool (.pr (.sl .str) (.sl (.int .i64)))))))) x0]),(2,.var 29 [.v (.int .i64) x1,.v (.int .i64) x2])] (wqha K)=wqxc k x0 x1 x2 K:=by kernel_rfl
def wqiz(k:Nat){R:Type}(x0:(List dT72))(x1 x2:Int)(K:((List dT72)→Int→Int→Option R)): Option R:=wqxc k x0 x1 x2 K
theorem wqyl(k:Nat){R:Type}(x0:(List dT72))(x1 x2:Int)(K:((List dT72)→Int→Int→Option R)): fnCK (wql0 k) k (at_ [1] wqeb) 13 [] wqt6 [.ptr 1 0,.ptr 2 0] 5 (.nilif) [(1,.var 38 [.v (.sl (.pr (.int .i64) (.pr (.int .i64) (.pr .str (.pr .bool (.pr (.sl .str) (.sl (.int .i64)))))))) x0]),(2,.var 29 [.v (.int .i64) x1,.v (.int .i64) x2])] (wqha K)=wqiz k x0 x1 x2 K:=by
 exact wqyk k (fun _ _=>none) x0 x1 x2 K
def wqq7(k:Nat){R:Type}: PV→List PV→List (Nm×HObj)→(Out→Option R)→Option R
 |.nilif,[.ptr 1 0,.ptr 2 0],[(1,.var 38 [.v (.sl (.pr (.int .i64) (.pr (.int .i64) (.pr .str (.pr .bool (.pr (.sl .str) (.sl (.int .i64)))))))) x0]),(2,.var 29 [.v (.int .i64) x1,.v (.int .i64) x2])],K=>wqiz k x0 x1 x2 (fun y0 y1 y2=>K (.ret [] [(1,.var 38 [.v (.sl (.pr (.int .i64) (.pr (.int .i64) (.pr .str (.pr .bool (.pr (.sl .str) (.sl (.int .i64)))))))) y0]),(2,.var 29 [.v (.int .i64) y1,.v (.int .i64) y2])]))
 |_,_,_,_=>none
theorem wqym(k:Nat): (wqxa k).Ok Tryz.prog:=CTab.nil_ok
theorem wq13q(k:Nat){rec:PV}{ps:List PV}{hp:List (Nm×HObj)}{R:Type}{K:Out→Option R}{r:R}(h:wqq7 k rec ps hp K=some r): DoesToD Tryz.prog 101 rec ps hp fun out=>K out=some r:=by
 unfold wqq7 at h
 split at h
 ·rw[←wqyl]at h
  have:=wqze (P:=Tryz.prog) (cx:=wql0 k) (f:=101) ⟨tyT_ok,wqym k,fun _ _=>rfl⟩ (by kernel_rfl) (fn:=Tryz.f101) (id:=0) (ops:=opsAt (at_ [0] wqeb)) (c:=at_ [1] wqeb) (by kernel_rfl) (by kernel_rfl) (by kernel_rfl) (rs:=[]) (by kernel_rfl) (by kernel_rfl) h
  exact this.mono fun out ho=>by
   unfold wqha at ho
   split at ho<;>first|exact ho|cases ho
 ·cases h
def wqxd(k:Nat): CTab:=CTab.nil
def wqhb{R:Type}(K:((List dT72)→Int→Int→Option R)): Out→Option R
 |.ret [] [(1,.var 38 [.v (.sl (.pr (.int .i64) (.pr (.int .i64) (.pr .str (.pr .bool (.pr (.sl .str) (.sl (.int .i64)))))))) y0]),(2,.var 29 [.v (.int .i64) y1,.v (.int .i64) y2])]=>K y0 y1 y2
 |_=>none
def wqt7:RetSpec:=⟨[],[(1,.obj 1 [.sl (.pr (.int .i64) (.pr (.int .i64) (.pr .str (.pr .bool (.pr (.sl .str) (.sl (.int .i64)))))))]),(2,.obj 2 [.any,.any])],[]⟩
def wqyn:List (Nat×CutSpec):=[]
def wqxe:List (Nat×Plan):=[(7,(.of [(0,1),(1,2),(2,0),(3,0)] .done))]
def wql1(k:Nat): Ctx:=⟨tyT,wqyn,wqxd k,[],[1,2],wqxe,@SH⟩
def wqec:Code:=Tryz.f101.body.getD .skip
def wqxf(k:Nat){R:Type}(x0:(List dT72))(x1 x2 x3 x4:Int)(K:((List dT72)→Int→Int→Option R)): Option R:=K [] x3 x4
theorem wqyo(k:Nat){R:Type}(I:Nat→St→Option R)(x0:(List dT72))(x1 x2 x3 x4:Int)(K:((List dT72)→Int→Int→Option R)): fnCK (wql1 k) k (at_ [1] wqec) 13 [] wqt7 [.ptr 1 0,.ptr 2 0] 5 (.ifc 29 (.agg [.v (.int .i64) x3,.v (.int .i64) x4])) [(1,.var 38 [.v (.sl (.pr (.int .i64) (.pr (.int .i64) (.pr .str (.pr .bool (.pr (.sl .str) (.sl (.int .i64)))))))) x0]),(2,.var 29 [.v (.int .i64) x1,.v (.int .i64) x2])] (wqhb K)=wqxf k x0 x1 x2 x3 x4 K:=by kernel_rfl
def wqdt(k:Nat){R:Type}(x0:(List dT72))(x1 x2 x3 x4:Int)(K:((List dT72)→Int→Int→Option R)): Option R:=wqxf k x0 x1 x2 x3 x4 K
theorem wqyp(k:Nat){R:Type}(x0:(List dT72))(x1 x2 x3 x4:Int)(K:((List dT72)→Int→Int→Option R)): fnCK (wql1 k) k (at_ [1] wqec) 13 [] wqt7 [.ptr 1 0,.ptr 2 0] 5 (.ifc 29 (.agg [.v (.int .i64) x3,.v (.int .i64) x4])) [(1,.var 38 [.v (.sl (.pr (.int .i64) (.pr (.int .i64) (.pr .str (.pr .bool (.pr (.sl .str) (.sl (.int .i64)))))))) x0]),(2,.var 29 [.v (.int .i64) x1,.v (.int .i64) x2])] (wqhb K)=wqdt k x0 x1 x2 x3 x4 K:=by
 exact wqyo k (fun _ _=>none) x0 x1 x2 x3 x4 K
def wqq8(k:Nat){R:Type}: PV→List PV→List (Nm×HObj)→(Out→Option R)→Option R
 |.ifc 29 (.agg [.v (.int .i64) x3,.v (.int .i64) x4]),[.ptr 1 0,.ptr 2 0],[(1,.var 38 [.v (.sl (.pr (.int .i64) (.pr (.int .i64) (.pr .str (.pr .bool (.pr (.sl .str) (.sl (.int .i64)))))))) x0]),(2,.var 29 [.v (.int .i64) x1,.v (.int .i64) x2])],K=>wqdt k x0 x1 x2 x3 x4 (fun y0 y1 y2=>K (.ret [] [(1,.var 38 [.v (.sl (.pr (.int .i64) (.pr (.int .i64) (.pr .str (.pr .bool (.pr (.sl .str) (.sl (.int .i64)))))))) y0]),(2,.var 29 [.v (.int .i64) y1,.v (.int .i64) y2])]))
 |_,_,_,_=>none
theorem wqyq(k:Nat): (wqxd k).Ok Tryz.prog:=CTab.nil_ok
theorem wq13r(k:Nat){rec:PV}{ps:List PV}{hp:List (Nm×HObj)}{R:Type}{K:Out→Option R}{r:R}(h:wqq8 k rec ps hp K=some r): DoesToD Tryz.prog 101 rec ps hp fun out=>K out=some r:=by
 unfold wqq8 at h
 split at h
 ·rw[←wqyp]at h
  have:=wqze (P:=Tryz.prog) (cx:=wql1 k) (f:=101) ⟨tyT_ok,wqyq k,fun _ _=>rfl⟩ (by kernel_rfl) (fn:=Tryz.f101) (id:=0) (ops:=opsAt (at_ [0] wqec)) (c:=at_ [1] wqec) (by kernel_rfl) (by kernel_rfl) (by kernel_rfl) (rs:=[]) (by kernel_rfl) (by kernel_rfl) h
  exact this.mono fun out ho=>by
   unfold wqhb at ho
   split at ho<;>first|exact ho|cases ho
 ·cases h
def h_doc_gives:Sh:=⟨[.a kI,.a kI],none,some ([],[.i 29 (.g [.a kI,.a kI])])⟩
def wq190(k:Nat): Cxt:=⟨[],[],[],[]⟩
def wq191(k:Nat){R:Type}(x0 x1:Int)(E:(Int→Int→Option R)): Option R:=E x0 x1
def wq9b:=@wq191
theorem wqm3(k:Nat): DOK Tryz.prog 102 (h_doc_gives.run (@wq9b k)):=dok h_doc_gives (wq190 k) Tryz.f102 k ok0 (by kernel_rfl) (by kernel_rfl) fun R=>by kernel_rfl
def wqrt(k:Nat): Ent:=h_doc_gives.e 102 (@wq9b k)
def h_doc_parser_next:Sh:=⟨[.o 1 155 0 [.s kdT156,.w 21 73 kdT72],.a kI,.a kI],some ([.o 1 155 0 [.s kdT156,.w 21 73 kdT72]],[.a .bool]),none⟩
def wquh(k:Nat): Cxt:=⟨[],[1],[],[]⟩
def wqui(k:Nat){R:Type}(x0:(List dT156))(x1:(List dT72))(x2 x3:Int)(K:((List dT156)→(List dT72)→Bool→Option R)): Option R:=cond ((!((decide ((x0.length:Int)>0)) == true)) || (inb 0 (x0.length:Int))) (cond ((!((cond (decide ((x0.length:Int)>0)) ((x0.getD (Int.toNat 0) kdT156.zero).1 == x2) false) == true)) || (inb 0 (x0.length:Int))) (K x0 x1 (cond (cond (decide ((x0.length:Int)>0)) ((x0.getD (Int.toNat 0) kdT156.zero).1 == x2) false) ((((x0.getD (Int.toNat 0) kdT156.zero).2).2).1 == x3) false)) none) none
def wqb9:=@wqui
theorem wqjr(k:Nat): DOK Tryz.prog 197 (h_doc_parser_next.run (@wqb9 k)):=dok h_doc_parser_next (wquh k) Tryz.f197 k ok0 (by kernel_rfl) (by kernel_rfl) fun R=>by kernel_rfl
def wqjs(k:Nat): Ent:=h_doc_parser_next.e 197 (@wqb9 k)
def h_doc_parser_take:Sh:=⟨[.o 1 155 0 [.s kdT156,.w 21 73 kdT72]],some ([.o 1 155 0 [.s kdT156,.w 21 73 kdT72]],[.g [.a kI,.a kI,.a kI,.a .str,.a .bool]]),none⟩
def wquj(k:Nat): Cxt:=⟨[],[1],[],[]⟩
def wquk(k:Nat){R:Type}(x0:(List dT156))(x1:(List dT72))(K:((List dT156)→(List dT72)→Int→Int→Int→(List UInt8)→Bool→Option R)): Option R:=cond (inb 0 (x0.length:Int)) (cond (bnd 1 (x0.length:Int) (x0.length:Int)) (K (cut x0 1 (x0.length:Int)) x1 (x0.getD (Int.toNat 0) kdT156.zero).1 ((x0.getD (Int.toNat 0) kdT156.zero).2).1 (((x0.getD (Int.toNat 0) kdT156.zero).2).2).1 ((((x0.getD (Int.toNat 0) kdT156.zero).2).2).2).1 ((((x0.getD (Int.toNat 0) kdT156.zero).2).2).2).2) none) none
def wq93:=@wquk
theorem wqey(k:Nat): DOK Tryz.prog 151 (h_doc_parser_take.run (@wq93 k)):=dok h_doc_parser_take (wquj k) Tryz.f151 k ok0 (by kernel_rfl) (by kernel_rfl) fun R=>by kernel_rfl
def wqez(k:Nat): Ent:=h_doc_parser_take.e 151 (@wq93 k)
def h_doc_parser_block:Sh:=⟨[.o 1 155 0 [.s kdT156,.w 21 73 kdT72],.a kI],some ([.o 1 155 0 [.s kdT156,.w 21 73 kdT72]],[.a kI]),some ([.o 1 155 0 [.s kdT156,.w 21 73 kdT72]],[.i 29 (.g [.a kI,.a kI])])⟩
abbrev wq19:Type 1:=(R:Type)→(List dT156)→(List dT72)→Int→((List dT156)→(List dT72)→Int→Option R)→((List dT156)→(List dT72)→Int→Int→Option R)→Option R
def h_doc_parser_list:Sh:=⟨[.o 1 155 0 [.s kdT156,.w 21 73 kdT72],.a kI,.a kI,.a kI],some ([.o 1 155 0 [.s kdT156,.w 21 73 kdT72]],[]),some ([.o 1 155 0 [.s kdT156,.w 21 73 kdT72]],[.i 29 (.g [.a kI,.a kI])])⟩
abbrev wq1h:Type 1:=(R:Type)→(List dT156)→(List dT72)→Int→Int→Int→((List dT156)→(List dT72)→Option R)→((List dT156)→(List dT72)→Int→Int→Option R)→Option R
def h_doc_parser_pairs:Sh:=⟨[.o 1 155 0 [.s kdT156,.w 21 73 kdT72],.a kI,.a kI,.a kI],some ([.o 1 155 0 [.s kdT156,.w 21 73 kdT72]],[]),some ([.o 1 155 0 [.s kdT156,.w 21 73 kdT72]],[.i 29 (.g [.a kI,.a kI])])⟩
abbrev wq1a:Type 1:=(R:Type)→(List dT156)→(List dT72)→Int→Int→Int→((List dT156)→(List dT72)→Option R)→((List dT156)→(List dT72)→Int→Int→Option R)→Option R
def h_doc_parser_under:Sh:=⟨[.o 1 155 0 [.s kdT156,.w 21 73 kdT72],.g [.a kI,.a kI,.a kI,.a .str,.a .bool],.a kI],some ([.o 1 155 0 [.s kdT156,.w 21 73 kdT72]],[.a kI]),some ([.o 1 155 0 [.s kdT156,.w 21 73 kdT72]],[.i 29 (.g [.a kI,.a kI])])⟩
abbrev wq1b:Type 1:=(R:Type)→(List dT156)→(List dT72)→Int→Int→Int→(List UInt8)→Bool→Int→((List dT156)→(List dT72)→Int→Option R)→((List dT156)→(List dT72)→Int→Int→Option R)→Option R
def wqhv(k:Nat)(wq8:wq19)(wqa:wq1h)(wq9:wq1a)(wq5:wq1b): Cxt:=⟨[wqrt k,wqez k,h_doc_parser_list.e 152 wqa,h_doc_parser_pairs.e 153 wq9],[1],[],[(9,(.of [(0,1),(1,1),(2,1),(3,1),(4,1),(6,1),(5,1),(7,1),(8,1),(9,0),(10,0),(11,1),(12,1),(13,1),(14,0)] .done)),(14,(.of [(0,1),(1,1),(2,1),(3,1),(5,1),(6,1),(8,1),(10,1),(4,1),(7,1),(9,1),(11,1),(12,1),(13,1),(14,0)] .done))]⟩
def wqhw(k:Nat)(wq8:wq19)(wqa:wq1h)(wq9:wq1a)(wq5:wq1b){R:Type}(x0:(List dT156))(x1:(List dT72))(x2:Int)(K:((List dT156)→(List dT72)→Int→Option R))(E:((List dT156)→(List dT72)→Int→Int→Option R)): Option R:=cond (inb 0 (x0.length:Int)) (cond (cond (decide ((x0.getD (Int.toNat 0) kdT156.zero).1<1)) true (decide ((x0.getD (Int.toNat 0) kdT156.zero).1>3))) (wq9b k 6 ((x0.getD (Int.toNat 0) kdT156.zero).2).1 (fun y7 y8=>E x0 x1 y7 y8)) (cond (decide (x2>24)) (wq9b k 8 ((x0.getD (Int.toNat 0) kdT156.zero).2).1 (fun y7 y8=>E x0 x1 y7 y8)) (cond (decide ((x1.length:Int)≥2000)) (wq9b k 9 ((x0.getD (Int.toNat 0) kdT156.zero).2).1 (fun y7 y8=>E x0 x1 y7 y8)) (cond (fits x1.length (@List.length (@Kd.T kdT72) [((0:(@Kd.T kI)),(((x0.getD (Int.toNat 0) kdT156.zero).2).1,([],(false,([],[])))))]) 88) (cond ((x0.getD (Int.toNat 0) kdT156.zero).1 == 3) (wq93 k x0 (x1++[(0,(((x0.getD (Int.toNat 0) kdT156.zero).2).1,([],(false,([],[])))))]) (fun y7 y8 y9 y10 y11 y12 y13=>cond (inb (x1.length:Int) (y8.length:Int)) (@SH (@List (@Kd.T kdT72)) R (List.set y8 (x1.length:Int).toNat (1,(((x0.getD (Int.toNat 0) kdT156.zero).2).1,(((((x0.getD (Int.toNat 0) kdT156.zero).2).2).2).1,(((((x0.getD (Int.toNat 0) kdT156.zero).2).2).2).2,([],[])))))) (fun y14=>K y7 y14 (x1.length:Int))) none)) (cond ((x0.getD (Int.toNat 0) kdT156.zero).1 == 1) (wqa R x0 (x1++[(0,(((x0.getD (Int.toNat 0) kdT156.zero).2).1,([],(false,([],[])))))]) (x1.length:Int) (((x0.getD (Int.toNat 0) kdT156.zero).2).2).1 x2 (fun y7 y8=>K y7 y8 (x1.length:Int)) E) (wq9 R x0 (x1++[(0,(((x0.getD (Int.toNat 0) kdT156.zero).2).1,([],(false,([],[])))))]) (x1.length:Int) (((x0.getD (Int.toNat 0) kdT156.zero).2).2).1 x2 (fun y7 y8=>K y7 y8 (x1.length:Int)) E))) none)))) none
theorem wqru(k:Nat)(wq8:wq19)(wqa:wq1h)(wq9:wq1a)(wq5:wq1b)(R:Type): h_doc_parser_block.at (wqhv k wq8 wqa wq9 wq5) k Tryz.f103 R=@wqhw k wq8 wqa wq9 wq5 R:=by kernel_rfl
def u_doc_parser_list_1001:Cu:=⟨1,[0,1,2,3,8],[.o 1 155 0 [.s kdT156,.w 21 73 kdT72],.r 1 0,.a kI,.a kI,.a kI,.w 100008 3 kI]⟩
def wqba(k:Nat)(wq8:wq19)(wqa:wq1h)(wq9:wq1a)(wq5:wq1b): Cxt:=⟨[wqez k,wqjs k,h_doc_parser_under.e 198 wq5],[1],[(1001,u_doc_parser_list_1001.spec)],[(3,(.of [(0,1),(1,1),(2,1),(3,1),(5,1),(6,1),(7,1),(8,1),(9,1),(11,1),(12,1),(4,1),(10,1),(13,1),(14,1),(15,0),(16,1),(17,1),(18,0)] .done))]⟩
def wqeq(k:Nat)(wq8:wq19)(wqa:wq1h)(wq9:wq1a)(wq5:wq1b){R:Type}(E1001:((List dT156)→(List dT72)→Int→Int→Int→(List Int)→Option R))(s0:(List dT156))(s1:(List dT72))(s2 s3 s4:Int)(s5:(List Int))(K:((List dT156)→(List dT72)→Option R))(E:((List dT156)→(List dT72)→Int→Int→Option R)): Option R:=wqb9 k s0 s1 1 s3 (fun y11 y12 y13=>cond y13 (wq93 k y11 y12 (fun y14 y15 y16 y17 y18 y19 y20=>wq5 R y14 y15 y16 y17 y18 y19 y20 s4 (fun y21 y22 y23=>cond (fits s5.length (@List.length (@Kd.T kI) [y23]) 8) (E1001 y21 y22 s2 s3 s4 (s5++[y23])) none) E)) (cond (inb s2 (y12.length:Int)) (@SH (@List (@Kd.T kdT72)) R (List.set y12 s2.toNat (2,(((y12.getD s2.toNat kdT72.zero).2).1,((((y12.getD s2.toNat kdT72.zero).2).2).1,(((((y12.getD s2.toNat kdT72.zero).2).2).2).1,((((((y12.getD s2.toNat kdT72.zero).2).2).2).2).1,(((((y12.getD s2.toNat kdT72.zero).2).2).2).2).2)))))) (fun y14=>cond (inb s2 (y14.length:Int)) (@SH (@List (@Kd.T kdT72)) R (List.set y14 s2.toNat ((y14.getD s2.toNat kdT72.zero).1,(((y14.getD s2.toNat kdT72.zero).2).1,((((y14.getD s2.toNat kdT72.zero).2).2).1,(((((y14.getD s2.toNat kdT72.zero).2).2).2).1,((((((y14.getD s2.toNat kdT72.zero).2).2).2).2).1,s5)))))) (fun y15=>K y11 y15)) none)) none))
def wqf0(k:Nat)(wq8:wq19)(wqa:wq1h)(wq9:wq1a)(wq5:wq1b){R:Type}(E1001:((List dT156)→(List dT72)→Int→Int→Int→(List Int)→Option R))(x0:(List dT156))(x1:(List dT72))(x2 x3 x4:Int)(K:((List dT156)→(List dT72)→Option R))(E:((List dT156)→(List dT72)→Int→Int→Option R)): Option R:=E1001 x0 x1 x2 x3 x4 []
def wq7k(k:Nat)(wq8:wq19)(wqa:wq1h)(wq9:wq1a)(wq5:wq1b){R:Type}: Nat→(List dT156)→(List dT72)→Int→Int→Int→(List Int)→((List dT156)→(List dT72)→Option R)→((List dT156)→(List dT72)→Int→Int→Option R)→Option R
 |0,_,_,_,_,_,_,_,_=>none
 |n+1,s0,s1,s2,s3,s4,s5,K,E=>wqeq k wq8 wqa wq9 wq5 (fun s0 s1 s2 s3 s4 s5=>wq7k k wq8 wqa wq9 wq5 n s0 s1 s2 s3 s4 s5 K E) s0 s1 s2 s3 s4 s5 K E
theorem wqhx(k:Nat)(wq8:wq19)(wqa:wq1h)(wq9:wq1a)(wq5:wq1b){R:Type}: ∀(I:Nat→St→Option R) (n:Nat),h_doc_parser_list.lp u_doc_parser_list_1001 (wqba k wq8 wqa wq9 wq5).cx k Tryz.f152 1001 [1,0,0] I n=wq7k k wq8 wqa wq9 wq5 n:=h_doc_parser_list.lok u_doc_parser_list_1001 (B:=wqeq k wq8 wqa wq9 wq5) (L:=wq7k k wq8 wqa wq9 wq5) (fun I=>by kernel_rfl) (fun I=>by kernel_rfl) (fun n=>by kernel_rfl) (fun _ _ _ _=>rfl)
theorem wqul(k:Nat)(wq8:wq19)(wqa:wq1h)(wq9:wq1a)(wq5:wq1b)(R:Type): h_doc_parser_list.at (wqba k wq8 wqa wq9 wq5) k Tryz.f152 R=h_doc_parser_list.glue (l:=h_doc_parser_list.ps) (u:=u_doc_parser_list_1001.fs) (fun E1001=>@wqf0 k wq8 wqa wq9 wq5 R E1001) (h_doc_parser_list.lp u_doc_parser_list_1001 (wqba k wq8 wqa wq9 wq5).cx k Tryz.f152 1001 [1,0,0] (fun _ _=>none) k):=by kernel_rfl
def u_doc_parser_pairs_1002:Cu:=⟨1,[0,1,2,3,8,9],[.o 1 155 0 [.s kdT156,.w 21 73 kdT72],.r 1 0,.a kI,.a kI,.a kI,.w 100008 9 .str,.w 100009 3 kI]⟩
def wqa9(k:Nat)(wq8:wq19)(wqa:wq1h)(wq9:wq1a)(wq5:wq1b): Cxt:=⟨[wqrt k,wq7z k,wqez k,wqjs k,h_doc_parser_under.e 198 wq5],[1],[(1002,u_doc_parser_pairs_1002.spec)],[]⟩
def wqdd(k:Nat)(wq8:wq19)(wqa:wq1h)(wq9:wq1a)(wq5:wq1b){R:Type}(E1002:((List dT156)→(List dT72)→Int→Int→Int→(List (List UInt8))→(List Int)→Option R))(s0:(List dT156))(s1:(List dT72))(s2 s3 s4:Int)(s5:(List (List UInt8)))(s6:(List Int))(K:((List dT156)→(List dT72)→Option R))(E:((List dT156)→(List dT72)→Int→Int→Option R)): Option R:=wqb9 k s0 s1 2 s3 (fun y12 y13 y14=>cond y14 (wq93 k y12 y13 (fun y15 y16 y17 y18 y19 y20 y21=>wq3k k s5 y20 (fun y22=>cond y22 (wq9b k 7 y18 (fun y23 y24=>E y15 y16 y23 y24)) (cond (fits s5.length (@List.length (@Kd.T Kd.str) [y20]) 16) (wq5 R y15 y16 y17 y18 y19 y20 y21 s4 (fun y23 y24 y25=>cond (fits s6.length (@List.length (@Kd.T kI) [y25]) 8) (E1002 y23 y24 s2 s3 s4 (s5++[y20]) (s6++[y25])) none) E) none)))) (cond (inb s2 (y13.length:Int)) (@SH (@List (@Kd.T kdT72)) R (List.set y13 s2.toNat (3,(((y13.getD s2.toNat kdT72.zero).2).1,((((y13.getD s2.toNat kdT72.zero).2).2).1,(((((y13.getD s2.toNat kdT72.zero).2).2).2).1,((((((y13.getD s2.toNat kdT72.zero).2).2).2).2).1,(((((y13.getD s2.toNat kdT72.zero).2).2).2).2).2)))))) (fun y15=>@SH (@List (@Kd.T kdT72)) R (List.set y15 s2.toNat ((y15.getD s2.toNat kdT72.zero).1,(((y15.getD s2.toNat kdT72.zero).2).1,((((y15.getD s2.toNat kdT72.zero).2).2).1,(((((y15.getD s2.toNat kdT72.zero).2).2).2).1,(s5,(((((y15.getD s2.toNat kdT72.zero).2).2).2).2).2)))))) (fun y16=>@SH (@List (@Kd.T kdT72)) R (List.set y16 s2.toNat ((y16.getD s2.toNat kdT72.zero).1,(((y16.getD s2.toNat kdT72.zero).2).1,((((y16.getD s2.toNat kdT72.zero).2).2).1,(((((y16.getD s2.toNat kdT72.zero).2).2).2).1,((((((y16.getD s2.toNat kdT72.zero).2).2).2).2).1,s6)))))) (fun y17=>K y12 y17)))) none))
def wqdu(k:Nat)(wq8:wq19)(wqa:wq1h)(wq9:wq1a)(wq5:wq1b){R:Type}(E1002:((List dT156)→(List dT72)→Int→Int→Int→(List (List UInt8))→(List Int)→Option R))(x0:(List dT156))(x1:(List dT72))(x2 x3 x4:Int)(K:((List dT156)→(List dT72)→Option R))(E:((List dT156)→(List dT72)→Int→Int→Option R)): Option R:=E1002 x0 x1 x2 x3 x4 [] []
def wq75(k:Nat)(wq8:wq19)(wqa:wq1h)(wq9:wq1a)(wq5:wq1b){R:Type}: Nat→(List dT156)→(List dT72)→Int→Int→Int→(List (List UInt8))→(List Int)→((List dT156)→(List dT72)→Option R)→((List dT156)→(List dT72)→Int→Int→Option R)→Option R
 |0,_,_,_,_,_,_,_,_,_=>none
 |n+1,s0,s1,s2,s3,s4,s5,s6,K,E=>wqdd k wq8 wqa wq9 wq5 (fun s0 s1 s2 s3 s4 s5 s6=>wq75 k wq8 wqa wq9 wq5 n s0 s1 s2 s3 s4 s5 s6 K E) s0 s1 s2 s3 s4 s5 s6 K E
theorem wqhc(k:Nat)(wq8:wq19)(wqa:wq1h)(wq9:wq1a)(wq5:wq1b){R:Type}: ∀(I:Nat→St→Option R) (n:Nat),h_doc_parser_pairs.lp u_doc_parser_pairs_1002 (wqa9 k wq8 wqa wq9 wq5).cx k Tryz.f153 1002 [1,1,0,0] I n=wq75 k wq8 wqa wq9 wq5 n:=h_doc_parser_pairs.lok u_doc_parser_pairs_1002 (B:=wqdd k wq8 wqa wq9 wq5) (L:=wq75 k wq8 wqa wq9 wq5) (fun I=>by kernel_rfl) (fun I=>by kernel_rfl) (fun n=>by kernel_rfl) (fun _ _ _ _=>rfl)
theorem wqrv(k:Nat)(wq8:wq19)(wqa:wq1h)(wq9:wq1a)(wq5:wq1b)(R:Type): h_doc_parser_pairs.at (wqa9 k wq8 wqa wq9 wq5) k Tryz.f153 R=h_doc_parser_pairs.glue (l:=h_doc_parser_pairs.ps) (u:=u_doc_parser_pairs_1002.fs) (fun E1002=>@wqdu k wq8 wqa wq9 wq5 R E1002) (h_doc_parser_pairs.lp u_doc_parser_pairs_1002 (wqa9 k wq8 wqa wq9 wq5).cx k Tryz.f153 1002 [1,1,0,0] (fun _ _=>none) k):=by kernel_rfl
def wqhy(k:Nat)(wq8:wq19)(wqa:wq1h)(wq9:wq1a)(wq5:wq1b): Cxt:=⟨[wqrt k,h_doc_parser_block.e 103 wq8],[1],[],[(1,(.of [(0,1),(1,1),(2,1),(3,1),(4,1),(5,1),(6,1),(7,1),(8,1),(9,1),(14,1),(10,1),(11,1),(12,1),(13,1),(15,1),(16,1),(17,1)] .done))]⟩
def wqhz(k:Nat)(wq8:wq19)(wqa:wq1h)(wq9:wq1a)(wq5:wq1b){R:Type}(x0:(List dT156))(x1:(List dT72))(x2 x3 x4:Int)(x5:(List UInt8))(x6:Bool)(x7:Int)(K:((List dT156)→(List dT72)→Int→Option R))(E:((List dT156)→(List dT72)→Int→Int→Option R)): Option R:=cond ((!(((x0.length:Int) == 0) == false)) || (inb 0 (x0.length:Int))) (cond (cond ((x0.length:Int) == 0) true (decide ((((x0.getD (Int.toNat 0) kdT156.zero).2).2).1≤x4))) (wq9b k 10 x3 (fun y12 y13=>E x0 x1 y12 y13)) (wq8 R x0 x1 (@Go.IntKind.wrap Go.IntKind.i64 (x7+1)) K E)) none
theorem wqrw(k:Nat)(wq8:wq19)(wqa:wq1h)(wq9:wq1a)(wq5:wq1b)(R:Type): h_doc_parser_under.at (wqhy k wq8 wqa wq9 wq5) k Tryz.f198 R=@wqhz k wq8 wqa wq9 wq5 R:=by kernel_rfl
mutual
def wq13:Nat→wq19
 |0,_,_,_,_,_,_=>none
 |k+1,R,x0,x1,x2,K,E=>wqhw k (wq13 k) (FR_doc_parser_list k) (FR_doc_parser_pairs k) (FR_doc_parser_under k) x0 x1 x2 K E
def FR_doc_parser_list:Nat→wq1h
 |0,_,_,_,_,_,_,_,_=>none
 |k+1,R,x0,x1,x2,x3,x4,K,E=>wqf0 k (wq13 k) (FR_doc_parser_list k) (FR_doc_parser_pairs k) (FR_doc_parser_under k) (fun s0 s1 s2 s3 s4 s5=>wq7k k (wq13 k) (FR_doc_parser_list k) (FR_doc_parser_pairs k) (FR_doc_parser_under k) k s0 s1 s2 s3 s4 s5 K E) x0 x1 x2 x3 x4 K E
def FR_doc_parser_pairs:Nat→wq1a
 |0,_,_,_,_,_,_,_,_=>none
 |k+1,R,x0,x1,x2,x3,x4,K,E=>wqdu k (wq13 k) (FR_doc_parser_list k) (FR_doc_parser_pairs k) (FR_doc_parser_under k) (fun s0 s1 s2 s3 s4 s5 s6=>wq75 k (wq13 k) (FR_doc_parser_list k) (FR_doc_parser_pairs k) (FR_doc_parser_under k) k s0 s1 s2 s3 s4 s5 s6 K E) x0 x1 x2 x3 x4 K E
def FR_doc_parser_under:Nat→wq1b
 |0,_,_,_,_,_,_,_,_,_,_,_=>none
 |k+1,R,x0,x1,x2,x3,x4,x5,x6,x7,K,E=>wqhz k (wq13 k) (FR_doc_parser_list k) (FR_doc_parser_pairs k) (FR_doc_parser_under k) x0 x1 x2 x3 x4 x5 x6 x7 K E
end
def wqdv(k:Nat){R:Type}(x0:(List dT156))(x1:(List dT72))(x2:Int)(K:((List dT156)→(List dT72)→Int→Option R))(E:((List dT156)→(List dT72)→Int→Int→Option R)): Option R:=wq13 k R x0 x1 x2 K E
theorem wqq9(k:Nat): DOK Tryz.prog 103 (h_doc_parser_block.run (wq13 k))∧DOK Tryz.prog 152 (h_doc_parser_list.run (FR_doc_parser_list k))∧DOK Tryz.prog 153 (h_doc_parser_pairs.run (FR_doc_parser_pairs k))∧DOK Tryz.prog 198 (h_doc_parser_under.run (FR_doc_parser_under k)):=by
 induction k with
 |zero=>exact⟨h_doc_parser_block.ok0 fun R=>by kernel_rfl,h_doc_parser_list.ok0 fun R=>by kernel_rfl,h_doc_parser_pairs.ok0 fun R=>by kernel_rfl,h_doc_parser_under.ok0 fun R=>by kernel_rfl⟩
 |succ k ih =>
  obtain⟨ih_doc_parser_block,ih_doc_parser_list,ih_doc_parser_pairs,ih_doc_parser_under⟩:=ih
  exact⟨dok h_doc_parser_block (wqhv k (wq13 k) (FR_doc_parser_list k) (FR_doc_parser_pairs k) (FR_doc_parser_under k)) Tryz.f103 k (ok1 (wqm3 k) (ok1 (wqey k) (ok1 ih_doc_parser_list (ok1 ih_doc_parser_pairs ok0)))) (by kernel_rfl) (by kernel_rfl) fun R=>wqru k (wq13 k) (FR_doc_parser_list k) (FR_doc_parser_pairs k) (FR_doc_parser_under k) R,dok h_doc_parser_list (wqba k (wq13 k) (FR_doc_parser_list k) (FR_doc_parser_pairs k) (FR_doc_parser_under k)) Tryz.f152 k (ok1 (wqey k) (ok1 (wqjr k) (ok1 ih_doc_parser_under ok0))) (by kernel_rfl) (by kernel_rfl) fun R=>h_doc_parser_list.f1 u_doc_parser_list_1001 (wqf0 k (wq13 k) (FR_doc_parser_list k) (FR_doc_parser_pairs k) (FR_doc_parser_under k)) (wqul k (wq13 k) (FR_doc_parser_list k) (FR_doc_parser_pairs k) (FR_doc_parser_under k) R) (wqhx k (wq13 k) (FR_doc_parser_list k) (FR_doc_parser_pairs k) (FR_doc_parser_under k) (fun _ _=>none) k) (by kernel_rfl),dok h_doc_parser_pairs (wqa9 k (wq13 k) (FR_doc_parser_list k) (FR_doc_parser_pairs k) (FR_doc_parser_under k)) Tryz.f153 k (ok1 (wqm3 k) (ok1 (wq7y k) (ok1 (wqey k) (ok1 (wqjr k) (ok1 ih_doc_parser_under ok0))))) (by kernel_rfl) (by kernel_rfl) fun R=>h_doc_parser_pairs.f1 u_doc_parser_pairs_1002 (wqdu k (wq13 k) (FR_doc_parser_list k) (FR_doc_parser_pairs k) (FR_doc_parser_under k)) (wqrv k (wq13 k) (FR_doc_parser_list k) (FR_doc_parser_pairs k) (FR_doc_parser_under k) R) (wqhc k (wq13 k) (FR_doc_parser_list k) (FR_doc_parser_pairs k) (FR_doc_parser_under k) (fun _ _=>none) k) (by kernel_rfl),dok h_doc_parser_under (wqhy k (wq13 k) (FR_doc_parser_list k) (FR_doc_parser_pairs k) (FR_doc_parser_under k)) Tryz.f198 k (ok1 (wqm3 k) (ok1 ih_doc_parser_block ok0)) (by kernel_rfl) (by kernel_rfl) fun R=>wqrw k (wq13 k) (FR_doc_parser_list k) (FR_doc_parser_pairs k) (FR_doc_parser_under k) R⟩
theorem wqrx(k:Nat): DOK Tryz.prog 103 (h_doc_parser_block.run (@wqdv k)):=(wqq9 k).1
end Go.Proofs.YtabkhphoacmcdaaGreatDoor.Pvm
namespace Go.Proofs.YtabkhphoacmcdaaGreatDoor.Pvm
open Go Go.Proofs
def wq1bn:List LS:=[.sl (.pr (.int .i64) (.pr (.int .i64) (.pr (.int .i64) (.pr .str .bool))))]
def wq1bo(k:Nat): CTab:=(CTab.add 102 h_doc_gives.sig (h_doc_gives.run (@wq9b k)) (CTab.add 103 h_doc_parser_block.sig (h_doc_parser_block.run (@wqdv k)) CTab.nil))
def wqry{R:Type}(K:((List dT72)→Int→Int→Option R)): Out→Option R
 |.ret [.agg [.v (.sl (.pr (.int .i64) (.pr (.int .i64) (.pr .str (.pr .bool (.pr (.sl .str) (.sl (.int .i64)))))))) y0],.agg [.v (.int .i64) y1,.v (.int .i64) y2]] []=>K y0 y1 y2
 |_=>none
def wq17p:RetSpec:=⟨[.ag [.sl (.pr (.int .i64) (.pr (.int .i64) (.pr .str (.pr .bool (.pr (.sl .str) (.sl (.int .i64)))))))],.ag [.any,.any]],[],[]⟩
def wq192:List (Nat×CutSpec):=[]
def wq165:List (Nat×Plan):=[]
def wq11g(k:Nat): Ctx:=⟨tyT,wq192,wq1bo k,[2,3],[],wq165,@SH⟩
def wqaa:Code:=Tryz.f59.body.getD .skip
def wqm4(k:Nat){R:Type}: PV→List PV→List (Nm×HObj)→(Out→Option R)→Option R
 |.nilif,[.ptr 1 0,.ptr 2 0],[(1,.var 38 [.v (.sl (.pr (.int .i64) (.pr (.int .i64) (.pr .str (.pr .bool (.pr (.sl .str) (.sl (.int .i64)))))))) x0]),(2,.var 29 [.v (.int .i64) x1,.v (.int .i64) x2])],K=>wqiz k x0 x1 x2 (fun y0 y1 y2=>K (.ret [] [(1,.var 38 [.v (.sl (.pr (.int .i64) (.pr (.int .i64) (.pr .str (.pr .bool (.pr (.sl .str) (.sl (.int .i64)))))))) y0]),(2,.var 29 [.v (.int .i64) y1,.v (.int .i64) y2])]))
 |.ifc 29 (.agg [.v (.int .i64) x3,.v (.int .i64) x4]),[.ptr 1 0,.ptr 2 0],[(1,.var 38 [.v (.sl (.pr (.int .i64) (.pr (.int .i64) (.pr .str (.pr .bool (.pr (.sl .str) (.sl (.int .i64)))))))) x0]),(2,.var 29 [.v (.int .i64) x1,.v (.int .i64) x2])],K=>wqdt k x0 x1 x2 x3 x4 (fun y0 y1 y2=>K (.ret [] [(1,.var 38 [.v (.sl (.pr (.int .i64) (.pr (.int .i64) (.pr .str (.pr .bool (.pr (.sl .str) (.sl (.int .i64)))))))) y0]),(2,.var 29 [.v (.int .i64) y1,.v (.int .i64) y2])]))
 |_,_,_,_=>none
def wq1bp(k:Nat){R:Type}(x0:(List dT156))(K:((List dT72)→Int→Int→Option R)): Option R:=cond ((x0.length:Int) == 0) (wq9b k 10 1 (fun y4 y5=>wqdt k [] 0 0 y4 y5 K)) (wqdv k x0 [] 1 (fun y4 y5 y6=>cond (decide ((y4.length:Int)>0)) (cond (inb 0 (y4.length:Int)) (wq9b k 6 ((y4.getD (Int.toNat 0) kdT156.zero).2).1 (fun y7 y8=>wqdt k [] 0 0 y7 y8 K)) none) (wqiz k y5 0 0 K)) (fun y4 y5 y6 y7=>wqdt k [] 0 0 y6 y7 K))
theorem wq193(k:Nat){R:Type}(I:Nat→St→Option R)(x0:(List dT156))(K:((List dT72)→Int→Int→Option R)): fnDK (wq11g k) k [300,400] [at_ [0] wqaa] (opsAt (at_ [1,0] wqaa)) (at_ [1,1] wqaa) 34 [.cell 2 38,.cell 3 29] wq17p (wqm4 k) wqx9 [(300,0),(400,0)] [.v (.sl (.pr (.int .i64) (.pr (.int .i64) (.pr (.int .i64) (.pr .str .bool))))) x0] [] (wqry K)=wq1bp k x0 K:=by kernel_rfl
def wq166(k:Nat){R:Type}(x0:(List dT156))(K:((List dT72)→Int→Int→Option R)): Option R:=wq1bp k x0 K
theorem wq194(k:Nat){R:Type}(x0:(List dT156))(K:((List dT72)→Int→Int→Option R)): fnDK (wq11g k) k [300,400] [at_ [0] wqaa] (opsAt (at_ [1,0] wqaa)) (at_ [1,1] wqaa) 34 [.cell 2 38,.cell 3 29] wq17p (wqm4 k) wqx9 [(300,0),(400,0)] [.v (.sl (.pr (.int .i64) (.pr (.int .i64) (.pr (.int .i64) (.pr .str .bool))))) x0] [] (wqry K)=wq166 k x0 K:=by
 exact wq193 k (fun _ _=>none) x0 K
def wqxg(k:Nat){R:Type}: List PV→List (Nm×HObj)→(Out→Option R)→Option R
 |[.v (.sl (.pr (.int .i64) (.pr (.int .i64) (.pr (.int .i64) (.pr .str .bool))))) x0],[],K=>wq166 k x0 (fun y0 y1 y2=>K (.ret [.agg [.v (.sl (.pr (.int .i64) (.pr (.int .i64) (.pr .str (.pr .bool (.pr (.sl .str) (.sl (.int .i64)))))))) y0],.agg [.v (.int .i64) y1,.v (.int .i64) y2]] []))
 |_,_,_=>none
theorem wq195(k:Nat): (wq1bo k).Ok Tryz.prog:=(wqzf (wqm3 k) (wqzf (wqrx k) CTab.nil_ok))
theorem wq11h(k:Nat){R:Type}(rec:PV)(ps:List PV)(hp:List (Nm×HObj))(K:Out→Option R)(r:R)(h:wqm4 k rec ps hp K=some r): DoesToD Tryz.prog 101 rec ps hp fun out=>K out=some r:=by
 unfold wqm4 at h
 split at h
 ·exact wq13q k h
 ·exact wq13r k h
 ·cases h
theorem wq1f9(k:Nat){ps:List PV}{hp:List (Nm×HObj)}{R:Type}{K:Out→Option R}{r:R}(h:wqxg k ps hp K=some r): DoesTo Tryz.prog 59 ps hp fun out=>K out=some r:=by
 unfold wqxg at h
 split at h
 ·rw[←wq194]at h
  have:=wq1ax (P:=Tryz.prog) (cx:=wq11g k) (f:=59) ⟨tyT_ok,wq195 k,fun _ _=>rfl⟩ (by kernel_rfl) (fn:=Tryz.f59) (id:=1) (pre:=[at_ [0] wqaa]) (rest:=at_ [1,1] wqaa) (ops:=opsAt (at_ [1,0] wqaa)) (by kernel_rfl) (by kernel_rfl) (by kernel_rfl) (rs:=[.cell 2 38,.cell 3 29]) (by kernel_rfl) (by kernel_rfl) (by kernel_rfl) (g:=101) (s:=5) (xs:=[.tmp 2,.tmp 3]) (by kernel_rfl) (Invokes.of (fn:=Tryz.f101) (by kernel_rfl) (c:=Tryz.f101.body.getD .skip) (by kernel_rfl) (by kernel_rfl)) (wq11h k) h
  exact this.mono fun out ho=>by
   unfold wqry at ho
   split at ho<;>first|exact ho|cases ho
 ·cases h
def h_lex_All:Sh:=⟨[.s kdT150],some ([],[.s kdT156,.g [.a kI,.a kI]]),none⟩
def u_lex_All_1003:Cu:=⟨0,[3,4,9,10,11],[.o 13 29 0 [.a kI,.a kI],.w 100004 157 kdT156,.s kdT150,.a kI,.a kI]⟩
def wq17q(k:Nat): Cxt:=⟨[⟨100,wqzw,wqm1 k⟩],[],[(1003,u_lex_All_1003.spec)],[(7,(.of [(1,1),(0,1),(2,0)] .done))]⟩
def wqqa(k:Nat){R:Type}(E1003:(Int→Int→(List dT156)→(List dT150)→Int→Int→Option R))(s0 s1:Int)(s2:(List dT156))(s3:(List dT150))(s4 s5:Int)(K:((List dT156)→Int→Int→Option R)): Option R:=cond (decide (s5<s4)) (cond (inb s5 (s3.length:Int)) (wqv3 k (s3.getD s5.toNat kdT150.zero).1 ((s3.getD s5.toNat kdT150.zero).2).1 ((s3.getD s5.toNat kdT150.zero).2).2 (fun y10 y11 y12=>cond (y11 != 0) (K [] y11 y12) (cond (fits s2.length y10.length 48) (E1003 s0 s1 (s2++y10) s3 s4 (@Go.IntKind.wrap Go.IntKind.i64 (s5+1))) none))) none) (K s2 0 0)
def wq17r(k:Nat){R:Type}(E1003:(Int→Int→(List dT156)→(List dT150)→Int→Int→Option R))(x0:(List dT150))(K:((List dT156)→Int→Int→Option R)): Option R:=E1003 0 0 [] x0 (x0.length:Int) 0
def wqfh(k:Nat){R:Type}: Nat→Int→Int→(List dT156)→(List dT150)→Int→Int→((List dT156)→Int→Int→Option R)→Option R
 |0,_,_,_,_,_,_,_=>none
 |n+1,s0,s1,s2,s3,s4,s5,K=>wqqa k (fun s0 s1 s2 s3 s4 s5=>wqfh k n s0 s1 s2 s3 s4 s5 K) s0 s1 s2 s3 s4 s5 K
theorem wqum(k:Nat){R:Type}: ∀(I:Nat→St→Option R) (n:Nat),h_lex_All.lp u_lex_All_1003 (wq17q k).cx k Tryz.f58 1003 [1,1,0,1,0] I n=wqfh k n:=h_lex_All.lok u_lex_All_1003 (B:=wqqa k) (L:=wqfh k) (fun I=>by kernel_rfl) (fun I=>by kernel_rfl) (fun n=>by kernel_rfl) (fun _ _ _ _=>rfl)
def wq11i(k:Nat){R:Type}(x0:(List dT150))(K:((List dT156)→Int→Int→Option R)): Option R:=wq17r k (fun s0 s1 s2 s3 s4 s5=>wqfh k k s0 s1 s2 s3 s4 s5 K) x0 K
theorem wq1dm(k:Nat): DOK Tryz.prog 58 (h_lex_All.run (@wq11i k)):=dok h_lex_All (wq17q k) Tryz.f58 k (ok1 (fun _ _ _ _ _ h=>wq17o k h) ok0) (by kernel_rfl) (by kernel_rfl) fun R=>h_lex_All.f1 u_lex_All_1003 (wq17r k) (by kernel_rfl) (wqum k (fun _ _=>none) k) (by kernel_rfl)
def wq1dn(k:Nat): Ent:=h_lex_All.e 58 (@wq11i k)
def cntB(s:List UInt8)(c:UInt8): Int:=Lib.countByte s c
def wq11j:List LS:=[.sl (.int .u8),.any]
def wqxh(k:Nat){R:Type}(x0:List Int)(x1:Int)(K:Int→Option R): Option R:=K (cntB (wq4s x0) (UInt8.ofNat x1.toNat))
def wqj0(k:Nat){R:Type}: List PV→List (Nm×HObj)→(Out→Option R)→Option R
 |[.v (.sl (.int .u8)) x0,.v (.int .u8) x1],[],K=>wqxh k x0 x1 (fun y0=>K (.ret [.v (.int .i64) y0] []))
 |_,_,_=>none
theorem wq167(k:Nat){ps:List PV}{hp:List (Nm×HObj)}{R:Type}{K:Out→Option R}{r:R}(h:wqj0 k ps hp K=some r): DoesTo Tryz.prog 220 ps hp fun out=>K out=some r:=by
 unfold wqj0 at h
 split at h
 ·next x0 x1 =>
  intro G w vals hr obj dis
  obtain⟨v0,l0,rfl,h0,v1,l1,rfl,h1,rfl⟩:=hr
  have e1:v1 = .int .u8 x1:=by simpa [RV,RD]using h1
  subst e1
  have hb:=wq1b0 (P:=Tryz.prog) h0
  have hrun:(callFunc 220 #[v0,.int .u8 x1]).run Tryz.prog w = .ok (.value (.int .i64 (cntB (wq4s x0) (UInt8.ofNat x1.toNat)))) w:=by
   refine wq12z (fn:=Tryz.f220) (g:=Extern.BytealgCount.count) (by kernel_rfl) (by kernel_rfl) (by kernel_rfl) (by kernel_rfl) (by kernel_rfl) _ w ?_
   have hs:=Lib.run_countString (P:=Tryz.prog) ⟨(wq4s x0).toArray⟩ x1 w
   change Sem.run Tryz.prog (do
    let b ←Extern.Bytes.bytesOf v0
    let c' ←Extern.Bytes.asByte (.int .u8 x1)
    pure (goInt (b.foldl (fun n x=>if x == c' then n+1 else n) (0:Nat)))) w=_
   change Sem.run Tryz.prog (do
    let b ←Extern.Bytes.bytesOf (.string ⟨(wq4s x0).toArray⟩)
    let c' ←Extern.Bytes.asByte (.int .u8 x1)
    pure (goInt (b.foldl (fun n x=>if x == c' then n+1 else n) (0:Nat)))) w=_ at hs
   rw[Sem.run_bind]at hs ⊢
   rw[hb]
   exact hs
  show Does _ _ #[_,_] _ _
  unfold Does
  rw[hrun]
  exact⟨.ret [.v (.int .i64) _] [],h,G,⟨_,rfl,rfl⟩,wqw4⟩
 ·cases h
def h_bytes_Count:Sh:=⟨[.s (.int .u8),.k (.int .u8)],some ([],[.a kI]),none⟩
def wq13s(k:Nat): Cxt:=⟨[⟨220,wq11j,wqj0 k⟩],[],[],[]⟩
def wq13t(k:Nat){R:Type}(x0:(List Int))(x1:Int)(K:(Int→Option R)): Option R:=wqxh k x0 (([x1]).getD (Int.toNat 0) (Kd.zero (@Kd.int Go.IntKind.u8))) K
def wql2:=@wq13t
theorem wq13u(k:Nat): DOK Tryz.prog 183 (h_bytes_Count.run (@wql2 k)):=dok h_bytes_Count (wq13s k) Tryz.f183 k (ok1 (fun _ _ _ _ _ h=>wq167 k h) ok0) (by kernel_rfl) (by kernel_rfl) fun R=>by kernel_rfl
def wq13v(k:Nat): Ent:=h_bytes_Count.e 183 (@wql2 k)
def wqrz:List LS:=[.sl (.int .u8),.any]
def wql3(k:Nat){R:Type}(x0:List Int)(x1:Int)(K:Int→Option R): Option R:=K (wqja (wq4s x0) x1)
def wqdw(k:Nat){R:Type}: List PV→List (Nm×HObj)→(Out→Option R)→Option R
 |[.v (.sl (.int .u8)) x0,.v (.int .u8) x1],[],K=>wql3 k x0 x1 (fun y0=>K (.ret [.v (.int .i64) y0] []))
 |_,_,_=>none
theorem wqxi(k:Nat){ps:List PV}{hp:List (Nm×HObj)}{R:Type}{K:Out→Option R}{r:R}(h:wqdw k ps hp K=some r): DoesTo Tryz.prog 250 ps hp fun out=>K out=some r:=by
 unfold wqdw at h
 split at h
 ·next x0 x1 =>
  intro G w vals hr obj dis
  obtain⟨v0,l0,rfl,h0,v1,l1,rfl,h1,rfl⟩:=hr
  have e1:v1 = .int .u8 x1:=by simpa [RV,RD]using h1
  subst e1
  have hb:=wq1b0 (P:=Tryz.prog) h0
  have hrun:(callFunc 250 #[v0,.int .u8 x1]).run Tryz.prog w = .ok (.value (.int .i64 (wqja (wq4s x0) x1))) w:=by
   refine wq12z (fn:=Tryz.f250) (g:=Extern.BytealgIndexByte.indexByte) (by kernel_rfl) (by kernel_rfl) (by kernel_rfl) (by kernel_rfl) (by kernel_rfl) _ w ?_
   have hs:=wqzj (P:=Tryz.prog) (wq4s x0) x1 w
   change Sem.run Tryz.prog (do
    let b ←Extern.Bytes.bytesOf v0
    let c ←Extern.Bytes.asByte (.int .u8 x1)
    match(List.range b.size).find? fun i=>b[i]! == c with
    |some i=>pure (goInt i)
    |none=>pure (goInt (-1))) w=_
   change Sem.run Tryz.prog (do
    let b ←Extern.Bytes.bytesOf (.string ⟨(wq4s x0).toArray⟩)
    let c ←Extern.Bytes.asByte (.int .u8 x1)
    match(List.range b.size).find? fun i=>b[i]! == c with
    |some i=>pure (goInt i)
    |none=>pure (goInt (-1))) w=_ at hs
   rw[Sem.run_bind]at hs ⊢
   rw[hb]
   exact hs
  show Does _ _ #[_,_] _ _
  unfold Does
  rw[hrun]
  exact⟨.ret [.v (.int .i64) _] [],h,G,⟨_,rfl,rfl⟩,wqw4⟩
 ·cases h
def h_bytes_IndexByte:Sh:=⟨[.s (.int .u8),.a (.int .u8)],some ([],[.a kI]),none⟩
abbrev wqdx:Type 1:=(R:Type)→(List Int)→Int→(Int→Option R)→Option R
def wqun(k:Nat): Cxt:=⟨[⟨250,wqrz,wqdw k⟩],[],[],[]⟩
def wquo(k:Nat){R:Type}(x0:(List Int))(x1:Int)(K:(Int→Option R)): Option R:=wql3 k x0 x1 K
def wqbb:=@wquo
theorem wqup(k:Nat): DOK Tryz.prog 221 (h_bytes_IndexByte.run (@wqbb k)):=dok h_bytes_IndexByte (wqun k) Tryz.f221 k (ok1 (fun _ _ _ _ _ h=>wqxi k h) ok0) (by kernel_rfl) (by kernel_rfl) fun R=>by kernel_rfl
def h_bytes_Index:Sh:=⟨[.s (.int .u8),.k (.int .u8)],some ([],[.a kI]),none⟩
def wqt8(k:Nat)(wq7f:wqdx): Cxt:=⟨[h_bytes_IndexByte.e 221 wq7f],[],[],[]⟩
def wqt9(k:Nat)(wq7f:wqdx){R:Type}(x0:(List Int))(x1:Int)(K:(Int→Option R)): Option R:=wq7f R x0 (([x1]).getD (Int.toNat 0) (Kd.zero (@Kd.int Go.IntKind.u8))) K
theorem wq13w(k:Nat)(wq7f:wqdx)(R:Type): h_bytes_Index.at (wqt8 k wq7f) k Tryz.f184 R=@wqt9 k wq7f R:=by kernel_rfl
def wql4(k:Nat){R:Type}:= @wqt9 k (@wqbb k) R
theorem wq13x(k:Nat): DOK Tryz.prog 184 (h_bytes_Index.run (@wql4 k)):=dok h_bytes_Index (wqt8 k (@wqbb k)) Tryz.f184 k (ok1 (wqup k) ok0) (by kernel_rfl) (by kernel_rfl) fun R=>wq13w k (@wqbb k) R
def wq13y(k:Nat): Ent:=h_bytes_Index.e 184 (@wql4 k)
def h_bytes_genSplit:Sh:=⟨[.s (.int .u8),.k (.int .u8),.a kI,.a kI],some ([],[.s (.sl (.int .u8))]),none⟩
def u_bytes_genSplit_1011:Cu:=⟨0,[0,1,2,3,9,10],[.s (.int .u8),.k (.int .u8),.a kI,.a kI,.w 100009 22 (.sl (.int .u8)),.a kI]⟩
def wql5(k:Nat): Cxt:=⟨[wq13v k,wq13y k],[],[(1011,u_bytes_genSplit_1011.spec)],[]⟩
def wqf9(k:Nat){R:Type}(E1011:((List Int)→Int→Int→Int→(List (List Int))→Int→Option R))(s0:(List Int))(s1 s2 s3:Int)(s4:(List (List Int)))(s5:Int)(K:((List (List Int))→Option R)): Option R:=cond (decide (s5<s3)) (wql4 k s0 s1 (fun y10=>cond (decide (y10<0)) (cond (inb s5 (s4.length:Int)) (cond (bnd 0 (@Go.IntKind.wrap Go.IntKind.i64 (s5+1)) ((List.set s4 s5.toNat s0).length:Int)) (K (cut (List.set s4 s5.toNat s0) 0 (@Go.IntKind.wrap Go.IntKind.i64 (s5+1)))) none) none) (cond ((bnd 0 (@Go.IntKind.wrap Go.IntKind.i64 (y10+s2)) (@Go.IntKind.wrap Go.IntKind.i64 (y10+s2)))&&(decide ((@Go.IntKind.wrap Go.IntKind.i64 (y10+s2))≤(s0.length:Int)))) (cond (inb s5 (s4.length:Int)) (cond (bnd (@Go.IntKind.wrap Go.IntKind.i64 (y10+(@List.length (@Kd.T (@Kd.int Go.IntKind.u8)) [s1]:Int))) (s0.length:Int) (s0.length:Int)) (E1011 (cut s0 (@Go.IntKind.wrap Go.IntKind.i64 (y10+(@List.length (@Kd.T (@Kd.int Go.IntKind.u8)) [s1]:Int))) (s0.length:Int)) s1 s2 s3 (List.set s4 s5.toNat (cut s0 0 (@Go.IntKind.wrap Go.IntKind.i64 (y10+s2)))) (@Go.IntKind.wrap Go.IntKind.i64 (s5+1))) none) none) none))) (cond (inb s5 (s4.length:Int)) (cond (bnd 0 (@Go.IntKind.wrap Go.IntKind.i64 (s5+1)) ((List.set s4 s5.toNat s0).length:Int)) (K (cut (List.set s4 s5.toNat s0) 0 (@Go.IntKind.wrap Go.IntKind.i64 (s5+1)))) none) none)
def wql6(k:Nat){R:Type}(E1011:((List Int)→Int→Int→Int→(List (List Int))→Int→Option R))(x0:(List Int))(x1 x2 x3:Int)(K:((List (List Int))→Option R)): Option R:=cond (x3 == 0) (K []) (cond (decide (x3<0)) (wql2 k x0 x1 (fun y8=>cond (mkB (cond false (@ite (@Kd.T kI) ((@Go.IntKind.wrap Go.IntKind.i64 ((x0.length:Int)+1))>(@Go.IntKind.wrap Go.IntKind.i64 (y8+1))) (@Int.decLt (@Go.IntKind.wrap Go.IntKind.i64 (y8+1)) (@Go.IntKind.wrap Go.IntKind.i64 ((x0.length:Int)+1))) (@Go.IntKind.wrap Go.IntKind.i64 ((x0.length:Int)+1)) (@Go.IntKind.wrap Go.IntKind.i64 (y8+1))) (@ite (@Kd.T kI) ((@Go.IntKind.wrap Go.IntKind.i64 ((x0.length:Int)+1))<(@Go.IntKind.wrap Go.IntKind.i64 (y8+1))) (@Int.decLt (@Go.IntKind.wrap Go.IntKind.i64 ((x0.length:Int)+1)) (@Go.IntKind.wrap Go.IntKind.i64 (y8+1))) (@Go.IntKind.wrap Go.IntKind.i64 ((x0.length:Int)+1)) (@Go.IntKind.wrap Go.IntKind.i64 (y8+1)))) (cond false (@ite (@Kd.T kI) ((@Go.IntKind.wrap Go.IntKind.i64 ((x0.length:Int)+1))>(@Go.IntKind.wrap Go.IntKind.i64 (y8+1))) (@Int.decLt (@Go.IntKind.wrap Go.IntKind.i64 (y8+1)) (@Go.IntKind.wrap Go.IntKind.i64 ((x0.length:Int)+1))) (@Go.IntKind.wrap Go.IntKind.i64 ((x0.length:Int)+1)) (@Go.IntKind.wrap Go.IntKind.i64 (y8+1))) (@ite (@Kd.T kI) ((@Go.IntKind.wrap Go.IntKind.i64 ((x0.length:Int)+1))<(@Go.IntKind.wrap Go.IntKind.i64 (y8+1))) (@Int.decLt (@Go.IntKind.wrap Go.IntKind.i64 ((x0.length:Int)+1)) (@Go.IntKind.wrap Go.IntKind.i64 (y8+1))) (@Go.IntKind.wrap Go.IntKind.i64 ((x0.length:Int)+1)) (@Go.IntKind.wrap Go.IntKind.i64 (y8+1)))) 24) (E1011 x0 x1 x2 (@Go.IntKind.wrap Go.IntKind.i64 ((cond false (@ite (@Kd.T kI) ((@Go.IntKind.wrap Go.IntKind.i64 ((x0.length:Int)+1))>(@Go.IntKind.wrap Go.IntKind.i64 (y8+1))) (@Int.decLt (@Go.IntKind.wrap Go.IntKind.i64 (y8+1)) (@Go.IntKind.wrap Go.IntKind.i64 ((x0.length:Int)+1))) (@Go.IntKind.wrap Go.IntKind.i64 ((x0.length:Int)+1)) (@Go.IntKind.wrap Go.IntKind.i64 (y8+1))) (@ite (@Kd.T kI) ((@Go.IntKind.wrap Go.IntKind.i64 ((x0.length:Int)+1))<(@Go.IntKind.wrap Go.IntKind.i64 (y8+1))) (@Int.decLt (@Go.IntKind.wrap Go.IntKind.i64 ((x0.length:Int)+1)) (@Go.IntKind.wrap Go.IntKind.i64 (y8+1))) (@Go.IntKind.wrap Go.IntKind.i64 ((x0.length:Int)+1)) (@Go.IntKind.wrap Go.IntKind.i64 (y8+1))))-1)) (zeros (@Kd.sl (@Kd.int Go.IntKind.u8)) (cond false (@ite (@Kd.T kI) ((@Go.IntKind.wrap Go.IntKind.i64 ((x0.length:Int)+1))>(@Go.IntKind.wrap Go.IntKind.i64 (y8+1))) (@Int.decLt (@Go.IntKind.wrap Go.IntKind.i64 (y8+1)) (@Go.IntKind.wrap Go.IntKind.i64 ((x0.length:Int)+1))) (@Go.IntKind.wrap Go.IntKind.i64 ((x0.length:Int)+1)) (@Go.IntKind.wrap Go.IntKind.i64 (y8+1))) (@ite (@Kd.T kI) ((@Go.IntKind.wrap Go.IntKind.i64 ((x0.length:Int)+1))<(@Go.IntKind.wrap Go.IntKind.i64 (y8+1))) (@Int.decLt (@Go.IntKind.wrap Go.IntKind.i64 ((x0.length:Int)+1)) (@Go.IntKind.wrap Go.IntKind.i64 (y8+1))) (@Go.IntKind.wrap Go.IntKind.i64 ((x0.length:Int)+1)) (@Go.IntKind.wrap Go.IntKind.i64 (y8+1))))) 0) none)) (cond (mkB (cond false (@ite (@Kd.T kI) ((@Go.IntKind.wrap Go.IntKind.i64 ((x0.length:Int)+1))>x3) (@Int.decLt x3 (@Go.IntKind.wrap Go.IntKind.i64 ((x0.length:Int)+1))) (@Go.IntKind.wrap Go.IntKind.i64 ((x0.length:Int)+1)) x3) (@ite (@Kd.T kI) ((@Go.IntKind.wrap Go.IntKind.i64 ((x0.length:Int)+1))<x3) (@Int.decLt (@Go.IntKind.wrap Go.IntKind.i64 ((x0.length:Int)+1)) x3) (@Go.IntKind.wrap Go.IntKind.i64 ((x0.length:Int)+1)) x3)) (cond false (@ite (@Kd.T kI) ((@Go.IntKind.wrap Go.IntKind.i64 ((x0.length:Int)+1))>x3) (@Int.decLt x3 (@Go.IntKind.wrap Go.IntKind.i64 ((x0.length:Int)+1))) (@Go.IntKind.wrap Go.IntKind.i64 ((x0.length:Int)+1)) x3) (@ite (@Kd.T kI) ((@Go.IntKind.wrap Go.IntKind.i64 ((x0.length:Int)+1))<x3) (@Int.decLt (@Go.IntKind.wrap Go.IntKind.i64 ((x0.length:Int)+1)) x3) (@Go.IntKind.wrap Go.IntKind.i64 ((x0.length:Int)+1)) x3)) 24) (E1011 x0 x1 x2 (@Go.IntKind.wrap Go.IntKind.i64 ((cond false (@ite (@Kd.T kI) ((@Go.IntKind.wrap Go.IntKind.i64 ((x0.length:Int)+1))>x3) (@Int.decLt x3 (@Go.IntKind.wrap Go.IntKind.i64 ((x0.length:Int)+1))) (@Go.IntKind.wrap Go.IntKind.i64 ((x0.length:Int)+1)) x3) (@ite (@Kd.T kI) ((@Go.IntKind.wrap Go.IntKind.i64 ((x0.length:Int)+1))<x3) (@Int.decLt (@Go.IntKind.wrap Go.IntKind.i64 ((x0.length:Int)+1)) x3) (@Go.IntKind.wrap Go.IntKind.i64 ((x0.length:Int)+1)) x3))-1)) (zeros (@Kd.sl (@Kd.int Go.IntKind.u8)) (cond false (@ite (@Kd.T kI) ((@Go.IntKind.wrap Go.IntKind.i64 ((x0.length:Int)+1))>x3) (@Int.decLt x3 (@Go.IntKind.wrap Go.IntKind.i64 ((x0.length:Int)+1))) (@Go.IntKind.wrap Go.IntKind.i64 ((x0.length:Int)+1)) x3) (@ite (@Kd.T kI) ((@Go.IntKind.wrap Go.IntKind.i64 ((x0.length:Int)+1))<x3) (@Int.decLt (@Go.IntKind.wrap Go.IntKind.i64 ((x0.length:Int)+1)) x3) (@Go.IntKind.wrap Go.IntKind.i64 ((x0.length:Int)+1)) x3))) 0) none))
def wq82(k:Nat){R:Type}: Nat→(List Int)→Int→Int→Int→(List (List Int))→Int→((List (List Int))→Option R)→Option R
 |0,_,_,_,_,_,_,_=>none
 |n+1,s0,s1,s2,s3,s4,s5,K=>wqf9 k (fun s0 s1 s2 s3 s4 s5=>wq82 k n s0 s1 s2 s3 s4 s5 K) s0 s1 s2 s3 s4 s5 K
theorem wqj1(k:Nat){R:Type}: ∀(I:Nat→St→Option R) (n:Nat),h_bytes_genSplit.lp u_bytes_genSplit_1011 (wql5 k).cx k Tryz.f141 1011 [1,1,1,1,1,1,1,1,0,0] I n=wq82 k n:=h_bytes_genSplit.lok u_bytes_genSplit_1011 (B:=wqf9 k) (L:=wq82 k) (fun I=>by kernel_rfl) (fun I=>by kernel_rfl) (fun n=>by kernel_rfl) (fun _ _ _ _=>rfl)
def wqgc(k:Nat){R:Type}(x0:(List Int))(x1 x2 x3:Int)(K:((List (List Int))→Option R)): Option R:=wql6 k (fun s0 s1 s2 s3 s4 s5=>wq82 k k s0 s1 s2 s3 s4 s5 K) x0 x1 x2 x3 K
theorem wqxj(k:Nat): DOK Tryz.prog 141 (h_bytes_genSplit.run (@wqgc k)):=dok h_bytes_genSplit (wql5 k) Tryz.f141 k (ok1 (wq13u k) (ok1 (wq13x k) ok0)) (by kernel_rfl) (by kernel_rfl) fun R=>h_bytes_genSplit.f1 u_bytes_genSplit_1011 (wql6 k) (by kernel_rfl) (wqj1 k (fun _ _=>none) k) (by kernel_rfl)
def wqxk(k:Nat): Ent:=h_bytes_genSplit.e 141 (@wqgc k)
def h_bytes_Split:Sh:=⟨[.s (.int .u8),.k (.int .u8)],some ([],[.s (.sl (.int .u8))]),none⟩
def wq13z(k:Nat): Cxt:=⟨[wqxk k],[],[],[]⟩
def wq140(k:Nat){R:Type}(x0:(List Int))(x1:Int)(K:((List (List Int))→Option R)): Option R:=wqgc k x0 x1 0 (@Neg.neg Int @Int.instNegInt (1:Int)) K
def wql7:=@wq140
theorem wq141(k:Nat): DOK Tryz.prog 95 (h_bytes_Split.run (@wql7 k)):=dok h_bytes_Split (wq13z k) Tryz.f95 k (ok1 (wqxj k) ok0) (by kernel_rfl) (by kernel_rfl) fun R=>by kernel_rfl
def wq142(k:Nat): Ent:=h_bytes_Split.e 95 (@wql7 k)
def h_line_odd:Sh:=⟨[.a (.int .i32)],some ([],[.a .bool]),none⟩
def wq1bq(k:Nat): Cxt:=⟨[],[],[],[]⟩
def wq1br(k:Nat){R:Type}(x0:Int)(K:(Bool→Option R)): Option R:=K (cond (cond (decide (x0≥0)) (decide (x0<32)) false) true (x0 == 127))
def wq143:=@wq1br
theorem wq144(k:Nat): DOK Tryz.prog 97 (h_line_odd.run (@wq143 k)):=dok h_line_odd (wq1bq k) Tryz.f97 k ok0 (by kernel_rfl) (by kernel_rfl) fun R=>by kernel_rfl
def wq1bs(k:Nat): Ent:=h_line_odd.e 97 (@wq143 k)
end Go.Proofs.YtabkhphoacmcdaaGreatDoor.Pvm
namespace Go.Proofs
open Go.Shelf
def Tryz.laysLaysGwn15_ren:Go.Shelf.Ren:=⟨fun|15=>96|20=>142|n=>n,fun|9=>9|23=>146|3=>3|4=>4|0=>0|21=>21|n=>n,fun|n=>n⟩
theorem Tryz.laysLaysGwn15:Go.Proofs.LaysGw.n15 Tryz.prog Tryz.laysLaysGwn15_ren:={
 mixed:=by kernel_rfl
 f15:=Tryz.func96.trans (congrArg some (by kernel_rfl))
 f20:=Tryz.func142.trans (congrArg some (by kernel_rfl))
 t0:=Tryz.underlying0
 a0:=Tryz.isAgg0
 z0:=Tryz.sizeOf0
 v0:=Tryz.zeroValue0
 i0:=by kernel_rfl
 t3:=Tryz.underlying3
 a3:=Tryz.isAgg3
 z3:=Tryz.sizeOf3
 v3:=Tryz.zeroValue3
 i3:=by kernel_rfl
 t4:=Tryz.underlying4
 a4:=Tryz.isAgg4
 z4:=Tryz.sizeOf4
 v4:=Tryz.zeroValue4
 i4:=by kernel_rfl
 t9:=Tryz.underlying9
 a9:=Tryz.isAgg9
 z9:=Tryz.sizeOf9
 v9:=Tryz.zeroValue9
 i9:=by kernel_rfl
 t21:=Tryz.underlying21
 a21:=Tryz.isAgg21
 z21:=Tryz.sizeOf21
 v21:=Tryz.zeroValue21
 i21:=by kernel_rfl
 t23:=Tryz.underlying146
 a23:=Tryz.isAgg146
 z23:=Tryz.sizeOf146
 v23:=Tryz.zeroValue146
 i23:=by kernel_rfl }
end Go.Proofs
namespace Go.Proofs.YtabkhphoacmcdaaGreatDoor.Pvm
open Go Go.Proofs Go.RowKit Go.Shelf
def oddP(n:Nat): Bool:=cond (cond (decide ((n:Int)≥0)) (decide ((n:Int)<32)) false) true ((n:Int) == 127)
def idxOdd(s:List UInt8): Int:=Lib.idxFunc oddP true ⟨s.toArray⟩
def wqms:List LS:=[.any,.clo []]
def wqgu(k:Nat){R:Type}(x0:List UInt8)(K:Int→Option R): Option R:=K (idxOdd x0)
def wqar(k:Nat){R:Type}: List PV→List (Nm×HObj)→(Out→Option R)→Option R
 |[.v .str x0,.clo 97 []],[],K=>wqgu k x0 (fun y0=>K (.ret [.v (.int .i64) y0] []))
 |_,_,_=>none
theorem wq1do(w:World): PredGrows Tryz.prog 97 #[] oddP w:=by
 intro W x hx hb
 exact wq17i (P:=Tryz.prog) (f:=97) (fn:=Tryz.f97) (c:=Tryz.f97.body.getD .skip) (by kernel_rfl) (by kernel_rfl) (by kernel_rfl) (ps:=[.v (.int .i32) (x:Int)]) (b:=oddP x)
  (wq144 0 _ _ _ lawK (oddP x) rfl) (vals:=[.int .i32 (x:Int)]) ⟨_,[],rfl,rfl,rfl⟩
theorem wqqb(k:Nat){ps:List PV}{hp:List (Nm×HObj)}{R:Type}{K:Out→Option R}{r:R}(h:wqar k ps hp K=some r): DoesTo Tryz.prog 96 ps hp fun out=>K out=some r:=by
 unfold wqar at h
 split at h
 ·next x0 =>
  intro G w vals hr obj dis
  obtain⟨v0,l0,rfl,h0,v1,l1,rfl,h1,rfl⟩:=hr
  have e0:v0 = .string ⟨x0.toArray⟩:=by simpa [RV,RD]using h0
  obtain⟨vs,e1,hvs⟩:=h1
  obtain rfl:vs=[]:=hvs
  subst e0 e1
  have c:=Any.strings_IndexFunc_grows Tryz.laysLaysGwn15 97 #[] (enters (P:=Tryz.prog) (fn:=Tryz.f97) (c:=Tryz.f97.body.getD .skip) (by kernel_rfl) (by kernel_rfl) (by kernel_rfl)) oddP ⟨x0.toArray⟩ w (wq1do w)
  show Does _ _ #[_,_] _ _
  unfold Does
  rw[enters (P:=Tryz.prog) (fn:=Tryz.f96) (c:=Tryz.f96.body.getD .skip) (by kernel_rfl) (by kernel_rfl) (by kernel_rfl)]
  refine Calls.mono c fun e w' hh => ?_
  obtain⟨rfl,b⟩:=hh
  exact⟨.ret [.v (.int .i64) (idxOdd x0)] [],h,G,⟨_,rfl,rfl⟩,wq17j b⟩
 ·cases h
end Go.Proofs.YtabkhphoacmcdaaGreatDoor.Pvm
namespace Go.Proofs.YtabkhphoacmcdaaGreatDoor.Pvm
open Go Go.Proofs
def h_strings_trimLeftByte:Sh:=⟨[.a .str,.a (.int .u8)],some ([],[.a .str]),none⟩
def u_strings_trimLeftByte_1001:Cu:=⟨0,[0,1],[.a .str,.a (.int .u8)]⟩
def wqer(k:Nat): Cxt:=⟨[],[],[(1001,u_strings_trimLeftByte_1001.spec)],[]⟩
def wqaj(k:Nat){R:Type}(E1001:((List UInt8)→Int→Option R))(s0:(List UInt8))(s1:Int)(K:((List UInt8)→Option R)): Option R:=cond ((!((decide ((s0.length:Int)>0)) == true)) || (inb 0 (s0.length:Int))) (cond (cond (decide ((s0.length:Int)>0)) (((s0.getD (Int.toNat 0) 0).toNat:Int) == s1) false) (cond (bnd 1 (s0.length:Int) (s0.length:Int)) (E1001 (cut s0 1 (s0.length:Int)) s1) none) (K s0)) none
def wqes(k:Nat){R:Type}(E1001:((List UInt8)→Int→Option R))(x0:(List UInt8))(x1:Int)(K:((List UInt8)→Option R)): Option R:=E1001 x0 x1
def wq5e(k:Nat){R:Type}: Nat→(List UInt8)→Int→((List UInt8)→Option R)→Option R
 |0,_,_,_=>none
 |n+1,s0,s1,K=>wqaj k (fun s0 s1=>wq5e k n s0 s1 K) s0 s1 K
theorem wqf1(k:Nat){R:Type}: ∀(I:Nat→St→Option R) (n:Nat),h_strings_trimLeftByte.lp u_strings_trimLeftByte_1001 (wqer k).cx k Tryz.f143 1001 [1,0,0] I n=wq5e k n:=h_strings_trimLeftByte.lok u_strings_trimLeftByte_1001 (B:=wqaj k) (L:=wq5e k) (fun I=>by kernel_rfl) (fun I=>by kernel_rfl) (fun n=>by kernel_rfl) (fun _ _ _ _=>rfl)
def wq9t(k:Nat){R:Type}(x0:(List UInt8))(x1:Int)(K:((List UInt8)→Option R)): Option R:=wqes k (fun s0 s1=>wq5e k k s0 s1 K) x0 x1 K
theorem wql8(k:Nat): DOK Tryz.prog 143 (h_strings_trimLeftByte.run (@wq9t k)):=dok h_strings_trimLeftByte (wqer k) Tryz.f143 k ok0 (by kernel_rfl) (by kernel_rfl) fun R=>h_strings_trimLeftByte.f1 u_strings_trimLeftByte_1001 (wqes k) (by kernel_rfl) (wqf1 k (fun _ _=>none) k) (by kernel_rfl)
def wql9(k:Nat): Ent:=h_strings_trimLeftByte.e 143 (@wq9t k)
def h_strings_TrimLeft:Sh:=⟨[.a .str,.j],some ([],[.a .str]),none⟩
def wqs0(k:Nat): Cxt:=⟨[wql9 k],[],[],[]⟩
def wqs1(k:Nat){R:Type}(x0:(List UInt8))(x1:UInt8)(K:((List UInt8)→Option R)): Option R:=cond (cond (x0 == []) true ([x1] == [])) (K x0) (cond (cond ((@List.length UInt8 [x1]:Int) == 1) (decide (((([x1]).getD (Int.toNat 0) 0).toNat:Int)<128)) false) (wq9t k x0 ((([x1]).getD (Int.toNat 0) 0).toNat:Int) K) none)
def wqdy:=@wqs1
theorem wqs2(k:Nat): DOK Tryz.prog 98 (h_strings_TrimLeft.run (@wqdy k)):=dok h_strings_TrimLeft (wqs0 k) Tryz.f98 k (ok1 (wql8 k) ok0) (by kernel_rfl) (by kernel_rfl) fun R=>by kernel_rfl
def wqs3(k:Nat): Ent:=h_strings_TrimLeft.e 98 (@wqdy k)
def h_line_Lines:Sh:=⟨[.s (.int .u8)],some ([],[.s kdT150,.g [.a kI,.a kI]]),none⟩
def u_line_Lines_1005:Cu:=⟨0,[3,4,17,18,19],[.o 13 29 0 [.a kI,.a kI],.w 100004 151 kdT150,.s (.sl (.int .u8)),.a kI,.a kI]⟩
def wqxl(k:Nat): Cxt:=⟨[wq142 k,⟨96,wqms,wqar k⟩,wq1bs k,wqs3 k,wqx4 k],[],[(1005,u_line_Lines_1005.spec)],[]⟩
def wqjt(k:Nat){R:Type}(E1005:(Int→Int→(List dT150)→(List (List Int))→Int→Int→Option R))(s0 s1:Int)(s2:(List dT150))(s3:(List (List Int)))(s4 s5:Int)(K:((List dT150)→Int→Int→Option R)): Option R:=cond (decide (s5<s4)) (cond (inb s5 (s3.length:Int)) (wqgu k (wq4s (s3.getD s5.toNat (Kd.zero (@Kd.sl (@Kd.int Go.IntKind.u8))))) (fun y10=>cond (decide (y10≥0)) (K [] 2 (@Go.IntKind.wrap Go.IntKind.i64 (s5+1))) (wqdy k (wq4s (s3.getD s5.toNat (Kd.zero (@Kd.sl (@Kd.int Go.IntKind.u8))))) 32 (fun y11=>wqix k y11 (fun y12 y13=>cond (!y13) (K [] 3 (@Go.IntKind.wrap Go.IntKind.i64 (s5+1))) (cond (!(y12 == [])) (cond (fits s2.length (@List.length (@Kd.T kdT150) [((@Go.IntKind.wrap Go.IntKind.i64 (s5+1)),((@Go.IntKind.wrap Go.IntKind.i64 (((wq4s (s3.getD s5.toNat (Kd.zero (@Kd.sl (@Kd.int Go.IntKind.u8))))).length:Int)-(y11.length:Int))),y12))]) 32) (E1005 s0 s1 (s2++[((@Go.IntKind.wrap Go.IntKind.i64 (s5+1)),((@Go.IntKind.wrap Go.IntKind.i64 (((wq4s (s3.getD s5.toNat (Kd.zero (@Kd.sl (@Kd.int Go.IntKind.u8))))).length:Int)-(y11.length:Int))),y12))]) s3 s4 (@Go.IntKind.wrap Go.IntKind.i64 (s5+1))) none) (E1005 s0 s1 s2 s3 s4 (@Go.IntKind.wrap Go.IntKind.i64 (s5+1))))))))) none) (K s2 0 0)
def wqxm(k:Nat){R:Type}(E1005:(Int→Int→(List dT150)→(List (List Int))→Int→Int→Option R))(x0:(List Int))(K:((List dT150)→Int→Int→Option R)): Option R:=cond (decide ((x0.length:Int)>16384)) (K [] 1 1) (wql7 k x0 10 (fun y5=>E1005 0 0 [] y5 (y5.length:Int) 0))
def wqbc(k:Nat){R:Type}: Nat→Int→Int→(List dT150)→(List (List Int))→Int→Int→((List dT150)→Int→Int→Option R)→Option R
 |0,_,_,_,_,_,_,_=>none
 |n+1,s0,s1,s2,s3,s4,s5,K=>wqjt k (fun s0 s1 s2 s3 s4 s5=>wqbc k n s0 s1 s2 s3 s4 s5 K) s0 s1 s2 s3 s4 s5 K
theorem wqol(k:Nat){R:Type}: ∀(I:Nat→St→Option R) (n:Nat),h_line_Lines.lp u_line_Lines_1005 (wqxl k).cx k Tryz.f57 1005 [1,1,1,0,1,0] I n=wqbc k n:=h_line_Lines.lok u_line_Lines_1005 (B:=wqjt k) (L:=wqbc k) (fun I=>by kernel_rfl) (fun I=>by kernel_rfl) (fun n=>by kernel_rfl) (fun _ _ _ _=>rfl)
def wqom(k:Nat){R:Type}(x0:(List Int))(K:((List dT150)→Int→Int→Option R)): Option R:=wqxm k (fun s0 s1 s2 s3 s4 s5=>wqbc k k s0 s1 s2 s3 s4 s5 K) x0 K
theorem wq168(k:Nat): DOK Tryz.prog 57 (h_line_Lines.run (@wqom k)):=dok h_line_Lines (wqxl k) Tryz.f57 k (ok1 (wq141 k) (ok1 (fun _ _ _ _ _ h=>wqqb k h) (ok1 (wq144 k) (ok1 (wqs2 k) (ok1 (wqx3 k) ok0))))) (by kernel_rfl) (by kernel_rfl) fun R=>h_line_Lines.f1 u_line_Lines_1005 (wqxm k) (by kernel_rfl) (wqol k (fun _ _=>none) k) (by kernel_rfl)
def wq169(k:Nat): Ent:=h_line_Lines.e 57 (@wqom k)
def h_doc_Parse:Sh:=⟨[.s (.int .u8)],some ([],[.g [.s kdT72],.g [.a kI,.a kI]]),none⟩
def wq196(k:Nat): Cxt:=⟨[wq169 k,wq1dn k,⟨59,wq1bn,wqxg k⟩],[],[],[(3,(.of [(0,1),(1,2),(2,0),(3,0)] .done)),(6,(.of [(0,1),(1,2),(2,0),(3,0)] .done))]⟩
def wq197(k:Nat){R:Type}(x0:(List Int))(K:((List dT72)→Int→Int→Option R)): Option R:=wqom k x0 (fun y4 y5 y6=>cond (y5 != 0) (K [] y5 y6) (wq11i k y4 (fun y7 y8 y9=>cond (y8 != 0) (K [] y8 y9) (wq166 k y7 K))))
def wqs4:=@wq197
theorem wq198(k:Nat): DOK Tryz.prog 29 (h_doc_Parse.run (@wqs4 k)):=dok h_doc_Parse (wq196 k) Tryz.f29 k (ok1 (wq168 k) (ok1 (wq1dm k) (ok1 (fun _ _ _ _ _ h=>wq1f9 k h) ok0))) (by kernel_rfl) (by kernel_rfl) fun R=>by kernel_rfl
def wq199(k:Nat): Ent:=h_doc_Parse.e 29 (@wqs4 k)
def h_config_Parse:Sh:=⟨[.s (.int .u8)],some ([],[.g [.s (.pr .str (.sl kI)),.s kdT56],.g [.a kI,.a kI]]),none⟩
abbrev wqhd:Type 1:=(R:Type)→(List Int)→((List ((List UInt8)×(List Int)))→(List dT56)→Int→Int→Option R)→Option R
def wq11k(k:Nat): Cxt:=⟨[⟨16,wqt5,wqgt k⟩,wq199 k],[],[],[(3,(.of [(0,1),(1,2),(2,0),(3,0)] .done))]⟩
def wq11l(k:Nat){R:Type}(x0:(List Int))(K:((List ((List UInt8)×(List Int)))→(List dT56)→Int→Int→Option R)): Option R:=wqs4 k x0 (fun y4 y5 y6=>cond (y5 != 0) (K [] [] y5 y6) (wqfp k y4 K))
def wqfi:=@wq11l
theorem wq11m(k:Nat): DOK Tryz.prog 11 (h_config_Parse.run (@wqfi k)):=dok h_config_Parse (wq11k k) Tryz.f11 k (ok1 (fun _ _ _ _ _ h=>wqzz k h) (ok1 (wq198 k) ok0)) (by kernel_rfl) (by kernel_rfl) fun R=>by kernel_rfl
def h_ref1_Order:Sh:=⟨[.a .flt,.a .flt],some ([],[.a kI]),none⟩
abbrev wqla:Type 1:=(R:Type)→Nat→Nat→(Int→Option R)→Option R
def wq16a(k:Nat): Cxt:=⟨[wqw5 k,wq112 k],[],[],[]⟩
def wqj2(k:Nat){R:Type}(x0 x1:Nat)(K:(Int→Option R)): Option R:=wqw k x0 (fun y5=>cond (y5 == false) (wqw k x1 (fun y6=>cond y6 (wqw k x0 (fun y7=>cond (y7 == true) (wqw k x1 (fun y8=>cond y8 (K 0) (wqw k x0 (fun y9=>cond y9 (K 1) (K (@Neg.neg Int @Int.instNegInt (1:Int))))))) (wqw k x0 (fun y8=>cond y8 (K 1) (K (@Neg.neg Int @Int.instNegInt (1:Int))))))) (cond (@fltIs @Go.BinOp.lss x0 x1) (K (@Neg.neg Int @Int.instNegInt (1:Int))) (cond (@fltIs @Go.BinOp.gtr x0 x1) (K 1) (wqq k x0 (fun y7=>wqq k x1 (fun y8=>cond (y7 == y8) (K 0) (wqq k x0 (fun y9=>cond y9 (K (@Neg.neg Int @Int.instNegInt (1:Int))) (K 1)))))))))) (wqw k x0 (fun y6=>cond (y6 == true) (wqw k x1 (fun y7=>cond y7 (K 0) (wqw k x0 (fun y8=>cond y8 (K 1) (K (@Neg.neg Int @Int.instNegInt (1:Int))))))) (wqw k x0 (fun y7=>cond y7 (K 1) (K (@Neg.neg Int @Int.instNegInt (1:Int))))))))
def wq4e:=@wqj2
theorem wqxn(k:Nat): DOK Tryz.prog 108 (h_ref1_Order.run (@wq4e k)):=dok h_ref1_Order (wq16a k) Tryz.f108 k (ok1 (wqfx k) (ok1 (wqce k) ok0)) (by kernel_rfl) (by kernel_rfl) fun R=>by kernel_rfl
def wq16b(k:Nat): Ent:=h_ref1_Order.e 108 (@wq4e k)
def h_ref1_Alike:Sh:=⟨[.a .flt,.a .flt],some ([],[.a .bool]),none⟩
abbrev wqlb:Type 1:=(R:Type)→Nat→Nat→(Bool→Option R)→Option R
def wq16c(k:Nat): Cxt:=⟨[wq16b k],[],[],[]⟩
def wqxo(k:Nat){R:Type}(x0 x1:Nat)(K:(Bool→Option R)): Option R:=wq4e k x0 x1 (fun y5=>K (y5 == 0))
def wq9u:=@wqxo
theorem wqxp(k:Nat): DOK Tryz.prog 63 (h_ref1_Alike.run (@wq9u k)):=dok h_ref1_Alike (wq16c k) Tryz.f63 k (ok1 (wqxn k) ok0) (by kernel_rfl) (by kernel_rfl) fun R=>by kernel_rfl
def wq16d(k:Nat): Ent:=h_ref1_Alike.e 63 (@wq9u k)
def h_ref15_SameRule:Sh:=⟨[.g [.a .str,.a kI,.a kI,.a .flt,.a .bool,.a .bool],.g [.a .str,.a kI,.a kI,.a .flt,.a .bool,.a .bool]],some ([],[.a .bool]),none⟩
def wqxq(k:Nat): Cxt:=⟨[wq16d k],[],[],[]⟩
def wqlc(k:Nat){R:Type}(x0:(List UInt8))(x1 x2:Int)(x3:Nat)(x4 x5:Bool)(x6:(List UInt8))(x7 x8:Int)(x9:Nat)(x10 x11:Bool)(K:(Bool→Option R)): Option R:=cond ((cond (cond (cond (cond (x0 == x6) (x1 == x7) false) (x2 == x8) false) (x4 == x10) false) (x5 == x11) false) == true) (wq9u k x3 x9 K) (K false)
def wq5r:=@wqlc
theorem wqld(k:Nat): DOK Tryz.prog 32 (h_ref15_SameRule.run (@wq5r k)):=dok h_ref15_SameRule (wqxq k) Tryz.f32 k (ok1 (wqxp k) ok0) (by kernel_rfl) (by kernel_rfl) fun R=>by kernel_rfl
def wqle(k:Nat): Ent:=h_ref15_SameRule.e 32 (@wq5r k)
def h_ref1_Ints:Sh:=⟨[.s kI,.s kI],some ([],[.a .bool]),none⟩
def u_ref1_Ints_1004:Cu:=⟨0,[0,1,5],[.s kI,.s kI,.a kI]⟩
def wq100(k:Nat): Cxt:=⟨[],[],[(1004,u_ref1_Ints_1004.spec)],[(6,(.of [(0,1),(1,1),(2,1),(4,1),(5,1),(6,1),(3,1),(7,1),(8,1)] .done))]⟩
def wqcx(k:Nat){R:Type}(E1004:((List Int)→(List Int)→Int→Option R))(s0 s1:(List Int))(s2:Int)(K:(Bool→Option R)): Option R:=cond (decide (s2<(s0.length:Int))) (cond (inb s2 (s0.length:Int)) (cond (inb s2 (s1.length:Int)) (cond ((s0.getD s2.toNat kI.zero) != (s1.getD s2.toNat kI.zero)) (K false) (E1004 s0 s1 (@Go.IntKind.wrap Go.IntKind.i64 (s2+1)))) none) none) (K true)
def wqs5(k:Nat){R:Type}(E1004:((List Int)→(List Int)→Int→Option R))(x0 x1:(List Int))(K:(Bool→Option R)): Option R:=cond ((x0.length:Int) != (x1.length:Int)) (K false) (E1004 x0 x1 0)
def wq6x(k:Nat){R:Type}: Nat→(List Int)→(List Int)→Int→(Bool→Option R)→Option R
 |0,_,_,_,_=>none
 |n+1,s0,s1,s2,K=>wqcx k (fun s0 s1 s2=>wq6x k n s0 s1 s2 K) s0 s1 s2 K
theorem wqqc(k:Nat){R:Type}: ∀(I:Nat→St→Option R) (n:Nat),h_ref1_Ints.lp u_ref1_Ints_1004 (wq100 k).cx k Tryz.f31 1004 [1,1,0,1,0] I n=wq6x k n:=h_ref1_Ints.lok u_ref1_Ints_1004 (B:=wqcx k) (L:=wq6x k) (fun I=>by kernel_rfl) (fun I=>by kernel_rfl) (fun n=>by kernel_rfl) (fun _ _ _ _=>rfl)
def wqdz(k:Nat){R:Type}(x0 x1:(List Int))(K:(Bool→Option R)): Option R:=wqs5 k (fun s0 s1 s2=>wq6x k k s0 s1 s2 K) x0 x1 K
theorem wq19a(k:Nat): DOK Tryz.prog 31 (h_ref1_Ints.run (@wqdz k)):=dok h_ref1_Ints (wq100 k) Tryz.f31 k ok0 (by kernel_rfl) (by kernel_rfl) fun R=>h_ref1_Ints.f1 u_ref1_Ints_1004 (wqs5 k) (by kernel_rfl) (wqqc k (fun _ _=>none) k) (by kernel_rfl)
def wq19b(k:Nat): Ent:=h_ref1_Ints.e 31 (@wqdz k)
def h_ref15_Same:Sh:=⟨[.g [.s (.pr .str (.sl kI)),.s kdT56],.g [.s (.pr .str (.sl kI)),.s kdT56]],some ([],[.a .bool]),none⟩
abbrev wqc5:Type 1:=(R:Type)→(List ((List UInt8)×(List Int)))→(List dT56)→(List ((List UInt8)×(List Int)))→(List dT56)→(Bool→Option R)→Option R
def u_ref15_Same_1004:Cu:=⟨0,[2,3,5],[.o 12 27 0 [.s (.pr .str (.sl kI)),.s kdT56],.o 13 27 0 [.s (.pr .str (.sl kI)),.s kdT56],.a kI]⟩
def u_ref15_Same_1009:Cu:=⟨0,[2,3,6],[.o 12 27 0 [.s (.pr .str (.sl kI)),.s kdT56],.o 13 27 0 [.s (.pr .str (.sl kI)),.s kdT56],.a kI]⟩
def wqj3(k:Nat): Cxt:=⟨[wq19b k,wqle k],[],[(1004,u_ref15_Same_1004.spec),(1009,u_ref15_Same_1009.spec)],[(6,(.of [(0,1),(2,1),(6,1),(8,1),(1,1),(3,1),(4,1),(5,1),(7,1),(9,1),(10,1),(11,1),(12,1),(13,1),(14,1),(16,1),(20,1),(22,1),(15,1),(17,1),(18,1),(19,1),(21,1),(23,1),(24,1),(25,1),(26,0),(27,1),(28,1)] .done)),(11,(.of [(0,1),(2,1),(5,1),(7,1),(1,1),(3,1),(4,1),(6,2),(8,1),(9,2)] (.alt 10 (.of [(11,0),(12,0),(13,0)] .done) (.op 11 0 (.of [(10,0),(12,0),(13,0)] .done)))))]⟩
def wq94(k:Nat){R:Type}(E1004 E1009:((List ((List UInt8)×(List Int)))→(List dT56)→(List ((List UInt8)×(List Int)))→(List dT56)→Int→Option R))(s0:(List ((List UInt8)×(List Int))))(s1:(List dT56))(s2:(List ((List UInt8)×(List Int))))(s3:(List dT56))(s4:Int)(K:(Bool→Option R)): Option R:=cond (decide (s4<(s0.length:Int))) (cond (inb s4 (s0.length:Int)) (cond (inb s4 (s2.length:Int)) (cond ((!((!((s0.getD s4.toNat (Kd.zero (@Kd.pr Kd.str (@Kd.sl kI)))).1 == (s2.getD s4.toNat (Kd.zero (@Kd.pr Kd.str (@Kd.sl kI)))).1)) == false)) || (inb s4 (s0.length:Int))) (cond ((!((!((s0.getD s4.toNat (Kd.zero (@Kd.pr Kd.str (@Kd.sl kI)))).1 == (s2.getD s4.toNat (Kd.zero (@Kd.pr Kd.str (@Kd.sl kI)))).1)) == false)) || (inb s4 (s2.length:Int))) (cond ((!((s0.getD s4.toNat (Kd.zero (@Kd.pr Kd.str (@Kd.sl kI)))).1 == (s2.getD s4.toNat (Kd.zero (@Kd.pr Kd.str (@Kd.sl kI)))).1)) == false) (wqdz k (s0.getD s4.toNat (Kd.zero (@Kd.pr Kd.str (@Kd.sl kI)))).2 (s2.getD s4.toNat (Kd.zero (@Kd.pr Kd.str (@Kd.sl kI)))).2 (fun y10=>cond (!y10) (K false) (E1004 s0 s1 s2 s3 (@Go.IntKind.wrap Go.IntKind.i64 (s4+1))))) (K false)) none) none) none) none) (E1009 s0 s1 s2 s3 0)
def wqe0(k:Nat){R:Type}(E1009:((List ((List UInt8)×(List Int)))→(List dT56)→(List ((List UInt8)×(List Int)))→(List dT56)→Int→Option R))(s0:(List ((List UInt8)×(List Int))))(s1:(List dT56))(s2:(List ((List UInt8)×(List Int))))(s3:(List dT56))(s4:Int)(K:(Bool→Option R)): Option R:=cond (decide (s4<(s1.length:Int))) (cond (inb s4 (s1.length:Int)) (cond (inb s4 (s3.length:Int)) (dupT (@Shp.b @Shp.o @Shp.o) (cond ((cond (cond (cond (cond (cond (!((s1.getD s4.toNat kdT56.zero).1 == (s3.getD s4.toNat kdT56.zero).1)) true (!(((s1.getD s4.toNat kdT56.zero).2).1 == ((s3.getD s4.toNat kdT56.zero).2).1))) true (!((((s1.getD s4.toNat kdT56.zero).2).2).1 == (((s3.getD s4.toNat kdT56.zero).2).2).1))) true (((((s1.getD s4.toNat kdT56.zero).2).2).2).1 != ((((s3.getD s4.toNat kdT56.zero).2).2).2).1)) true ((((((s1.getD s4.toNat kdT56.zero).2).2).2).2).1 != (((((s3.getD s4.toNat kdT56.zero).2).2).2).2).1)) true (!(((((((s1.getD s4.toNat kdT56.zero).2).2).2).2).2).1 == ((((((s3.getD s4.toNat kdT56.zero).2).2).2).2).2).1))) == false) (wq5r k ((((((((s1.getD s4.toNat kdT56.zero).2).2).2).2).2).2).1).1 (((((((((s1.getD s4.toNat kdT56.zero).2).2).2).2).2).2).1).2).1 ((((((((((s1.getD s4.toNat kdT56.zero).2).2).2).2).2).2).1).2).2).1 (((((((((((s1.getD s4.toNat kdT56.zero).2).2).2).2).2).2).1).2).2).2).1 ((((((((((((s1.getD s4.toNat kdT56.zero).2).2).2).2).2).2).1).2).2).2).2).1 ((((((((((((s1.getD s4.toNat kdT56.zero).2).2).2).2).2).2).1).2).2).2).2).2 ((((((((s3.getD s4.toNat kdT56.zero).2).2).2).2).2).2).1).1 (((((((((s3.getD s4.toNat kdT56.zero).2).2).2).2).2).2).1).2).1 ((((((((((s3.getD s4.toNat kdT56.zero).2).2).2).2).2).2).1).2).2).1 (((((((((((s3.getD s4.toNat kdT56.zero).2).2).2).2).2).2).1).2).2).2).1 ((((((((((((s3.getD s4.toNat kdT56.zero).2).2).2).2).2).2).1).2).2).2).2).1 ((((((((((((s3.getD s4.toNat kdT56.zero).2).2).2).2).2).2).1).2).2).2).2).2 (fun y10=>cond ((!y10) == false) (wqdz k (((((((s1.getD s4.toNat kdT56.zero).2).2).2).2).2).2).2 (((((((s3.getD s4.toNat kdT56.zero).2).2).2).2).2).2).2 (fun y11=>cond (!y11) (K false) (E1009 s0 s1 s2 s3 (@Go.IntKind.wrap Go.IntKind.i64 (s4+1))))) (K false))) (K false))) none) none) (K true)
def wq7b(k:Nat){R:Type}(E1009:((List ((List UInt8)×(List Int)))→(List dT56)→(List ((List UInt8)×(List Int)))→(List dT56)→Int→Option R))(s0:(List ((List UInt8)×(List Int))))(s1:(List dT56))(s2:(List ((List UInt8)×(List Int))))(s3:(List dT56))(s4:Int)(K:(Bool→Option R)): Option R:=cond (decide (s4<(s1.length:Int))) (cond (inb s4 (s1.length:Int)) (cond (inb s4 (s3.length:Int)) (cond ((cond (cond (cond (cond (cond (!((s1.getD s4.toNat kdT56.zero).1 == (s3.getD s4.toNat kdT56.zero).1)) true (!(((s1.getD s4.toNat kdT56.zero).2).1 == ((s3.getD s4.toNat kdT56.zero).2).1))) true (!((((s1.getD s4.toNat kdT56.zero).2).2).1 == (((s3.getD s4.toNat kdT56.zero).2).2).1))) true (((((s1.getD s4.toNat kdT56.zero).2).2).2).1 != ((((s3.getD s4.toNat kdT56.zero).2).2).2).1)) true ((((((s1.getD s4.toNat kdT56.zero).2).2).2).2).1 != (((((s3.getD s4.toNat kdT56.zero).2).2).2).2).1)) true (!(((((((s1.getD s4.toNat kdT56.zero).2).2).2).2).2).1 == ((((((s3.getD s4.toNat kdT56.zero).2).2).2).2).2).1))) == false) (wq5r k ((((((((s1.getD s4.toNat kdT56.zero).2).2).2).2).2).2).1).1 (((((((((s1.getD s4.toNat kdT56.zero).2).2).2).2).2).2).1).2).1 ((((((((((s1.getD s4.toNat kdT56.zero).2).2).2).2).2).2).1).2).2).1 (((((((((((s1.getD s4.toNat kdT56.zero).2).2).2).2).2).2).1).2).2).2).1 ((((((((((((s1.getD s4.toNat kdT56.zero).2).2).2).2).2).2).1).2).2).2).2).1 ((((((((((((s1.getD s4.toNat kdT56.zero).2).2).2).2).2).2).1).2).2).2).2).2 ((((((((s3.getD s4.toNat kdT56.zero).2).2).2).2).2).2).1).1 (((((((((s3.getD s4.toNat kdT56.zero).2).2).2).2).2).2).1).2).1 ((((((((((s3.getD s4.toNat kdT56.zero).2).2).2).2).2).2).1).2).2).1 (((((((((((s3.getD s4.toNat kdT56.zero).2).2).2).2).2).2).1).2).2).2).1 ((((((((((((s3.getD s4.toNat kdT56.zero).2).2).2).2).2).2).1).2).2).2).2).1 ((((((((((((s3.getD s4.toNat kdT56.zero).2).2).2).2).2).2).1).2).2).2).2).2 (fun y10=>cond ((!y10) == false) (wqdz k (((((((s1.getD s4.toNat kdT56.zero).2).2).2).2).2).2).2 (((((((s3.getD s4.toNat kdT56.zero).2).2).2).2).2).2).2 (fun y11=>cond (!y11) (K false) (E1009 s0 s1 s2 s3 (@Go.IntKind.wrap Go.IntKind.i64 (s4+1))))) (K false))) (K false)) none) none) (K true)
theorem wqmt(k:Nat){R:Type}: @wqe0 k R=@wq7b k R:=by funext E1009 s0 s1 s2 s3 s4 K;unfold wqe0 wq7b;simp only[wq12u,show ∀(R:Type) (a:Option R),both a a=a from fun R a=>by unfold both;exact if_pos rfl]
def wqon(k:Nat){R:Type}(E1004:((List ((List UInt8)×(List Int)))→(List dT56)→(List ((List UInt8)×(List Int)))→(List dT56)→Int→Option R))(x0:(List ((List UInt8)×(List Int))))(x1:(List dT56))(x2:(List ((List UInt8)×(List Int))))(x3:(List dT56))(K:(Bool→Option R)): Option R:=cond (cond ((x0.length:Int) != (x2.length:Int)) true ((x1.length:Int) != (x3.length:Int))) (K false) (E1004 x0 x1 x2 x3 0)
def wq49(k:Nat){R:Type}: Nat→(List ((List UInt8)×(List Int)))→(List dT56)→(List ((List UInt8)×(List Int)))→(List dT56)→Int→(Bool→Option R)→Option R
 |0,_,_,_,_,_,_=>none
 |n+1,s0,s1,s2,s3,s4,K=>wq7b k (fun s0 s1 s2 s3 s4=>wq49 k n s0 s1 s2 s3 s4 K) s0 s1 s2 s3 s4 K
theorem wqoo(k:Nat){R:Type}: ∀(I:Nat→St→Option R) (n:Nat),h_ref15_Same.lp u_ref15_Same_1009 (wqj3 k).cx k Tryz.f13 1009 [1,1,1,0,1,0] I n=wq49 k n:=h_ref15_Same.lok u_ref15_Same_1009 (B:=wq7b k) (L:=wq49 k) (fun I=>(show _=wqe0 k (u_ref15_Same_1009.cur (I 1009)) by kernel_rfl).trans (by simp only[wqmt])) (fun I=>by kernel_rfl) (fun n=>by kernel_rfl) (fun _ _ _ _=>rfl)
def wq66(k:Nat){R:Type}: Nat→(List ((List UInt8)×(List Int)))→(List dT56)→(List ((List UInt8)×(List Int)))→(List dT56)→Int→(Bool→Option R)→Option R
 |0,_,_,_,_,_,_=>none
 |n+1,s0,s1,s2,s3,s4,K=>wq94 k (fun s0 s1 s2 s3 s4=>wq66 k n s0 s1 s2 s3 s4 K) (fun s0 s1 s2 s3 s4=>wq49 k k s0 s1 s2 s3 s4 K) s0 s1 s2 s3 s4 K
theorem wqop(k:Nat){R:Type}: ∀(I:Nat→St→Option R) (n:Nat),h_ref15_Same.lp u_ref15_Same_1004 (wqj3 k).cx k Tryz.f13 1004 [1,1,0,1,0] I n=wq66 k n:=h_ref15_Same.lokA u_ref15_Same_1004 (fun I J=>h_ref15_Same.glue (l:=u_ref15_Same_1004.fs) (u:=u_ref15_Same_1009.fs) (fun E1009=>wq94 k J E1009) (wq49 k k)) (fun I=>wq66 k ) (fun I f=>by kernel_rfl) (fun I=>(show _=h_ref15_Same.glue (l:=u_ref15_Same_1004.fs) (u:=u_ref15_Same_1009.fs) (fun E1009=>wq94 k (u_ref15_Same_1004.cur (I 1004)) E1009) (h_ref15_Same.lp u_ref15_Same_1009 (wqj3 k).cx k Tryz.f13 1009 [1,1,1,0,1,0] I k) by kernel_rfl).trans (by rw[wqoo])) (fun I=>by kernel_rfl) (fun I n=>by kernel_rfl) (fun _ _ _ _=>rfl)
def wq6y(k:Nat){R:Type}(x0:(List ((List UInt8)×(List Int))))(x1:(List dT56))(x2:(List ((List UInt8)×(List Int))))(x3:(List dT56))(K:(Bool→Option R)): Option R:=wqon k (fun s0 s1 s2 s3 s4=>wq66 k k s0 s1 s2 s3 s4 K) x0 x1 x2 x3 K
theorem wqxr(k:Nat): DOK Tryz.prog 13 (h_ref15_Same.run (@wq6y k)):=dok h_ref15_Same (wqj3 k) Tryz.f13 k (ok1 (wq19a k) (ok1 (wqld k) ok0)) (by kernel_rfl) (by kernel_rfl) fun R=>h_ref15_Same.f1 u_ref15_Same_1004 (wqon k) (by kernel_rfl) (wqop k (fun _ _=>none) k) (by kernel_rfl)
def h_law17_awake:Sh:=⟨[],some ([],[.a .bool]),none⟩
abbrev wqj4:Type 1:=(R:Type)→(Bool→Option R)→Option R
def wqta(k:Nat)(wqaf:wqhd)(wq5n:wqc5)(wq3i:wq9a)(wqc8:(R:Type)→(List dT72)→((List ((List UInt8)×(List Int)))→(List dT56)→Int→Int→Option R)→Option R)(wq3t:wqa2): Cxt:=⟨[h_config_Parse.e 11 wqaf,h_ref15_Same.e 13 wq5n,h_config_Check.e 14 wq3i,⟨16,wqt5,wqq6 wqc8⟩,h_config_Same.e 23 wq3t],[],[],[]⟩
def wqtb(k:Nat)(wqaf:wqhd)(wq5n:wqc5)(wq3i:wq9a)(wqc8:(R:Type)→(List dT72)→((List ((List UInt8)×(List Int)))→(List dT56)→Int→Int→Option R)→Option R)(wq3t:wqa2){R:Type}(K:(Bool→Option R)): Option R:=wqaf R [100,111,109,97,105,110,115,58,10,32,32,45,32,100,111,109,97,105,110,58,32,115,104,111,112,10,32,32,32,32,100,101,115,99,114,105,112,116,111,114,115,58,10,32,32,32,32,32,32,45,32,107,101,121,58,32,117,115,101,114,10,32,32,32,32,32,32,32,32,114,97,116,101,95,108,105,109,105,116,58,10,32,32,32,32,32,32,32,32,32,32,117,110,105,116,58,32,109,105,110,117,116,101,10,32,32,32,32,32,32,32,32,32,32,114,101,113,117,101,115,116,115,95,112,101,114,95,117,110,105,116,58,32,49,48,10] (fun y3 y4 y5 y6=>wqc8 R [] (fun y7 y8 y9 y10=>cond (((y5 == 0)&&(y6 == 0)) == true) (wq5n R y3 y4 [([115,104,111,112],[0])] [([117,115,101,114],([],(true,(0,((@Neg.neg Int @Int.instNegInt (1:Int)),(true,(([],(2,(10,(4605380978949069210,(false,false))))),[])))))))] (fun y11=>cond (y11 == true) (wq3i R y3 y4 (fun y12=>cond ((y12 == 0) == true) (wq3i R [] [] (fun y13=>cond ((cond (y13 == 1) ((y9 == 11)&&(y10 == 0)) false) == true) (wq3t R y3 y4 [([115,104,111,112],[0])] [([117,115,101,114],([],(true,(0,((@Neg.neg Int @Int.instNegInt (1:Int)),(true,(([],(2,(10,(4605380978949069210,(false,false))))),[])))))))] (fun y14=>cond (y14 == true) (wq3t R y3 y4 [] [] (fun y15=>K (!y15))) (K false))) (K false))) (K false))) (K false))) (K false)))
theorem wq145(k:Nat)(wqaf:wqhd)(wq5n:wqc5)(wq3i:wq9a)(wqc8:(R:Type)→(List dT72)→((List ((List UInt8)×(List Int)))→(List dT56)→Int→Int→Option R)→Option R)(wq3t:wqa2)(R:Type): h_law17_awake.at (wqta k wqaf wq5n wq3i wqc8 wq3t) k Tryz.f10 R=@wqtb k wqaf wq5n wq3i wqc8 wq3t R:=by kernel_rfl
def wq5s(k:Nat){R:Type}:= @wqtb k (@wqfi k) (@wq6y k) (@wq4x k) (@wqfp k) (@wq4i k) R
theorem wq146(k:Nat): DOK Tryz.prog 10 (h_law17_awake.run (@wq5s k)):=dok h_law17_awake (wqta k (@wqfi k) (@wq6y k) (@wq4x k) (@wqfp k) (@wq4i k)) Tryz.f10 k (ok1 (wq11m k) (ok1 (wqxr k) (ok1 (wqpk k) (ok1 (fun _ _ _ _ _ h=>wqzz k (by unfold wqq6 at h;unfold wqgt;exact h)) (ok1 (wqsx k) ok0))))) (by kernel_rfl) (by kernel_rfl) fun R=>wq145 k (@wqfi k) (@wq6y k) (@wq4x k) (@wqfp k) (@wq4i k) R
end Go.Proofs.YtabkhphoacmcdaaGreatDoor.Pvm
end
