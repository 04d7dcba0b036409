/- For every number n the Go function ConfigDeep of turncocklaw17 returns true. -/
import Derived.Test.YtabkhphoacmcdaaGreatDoorChecked
import Derived.WalkKit
import Derived.WalkSpells
import Derived.WalkLawsBesides
import Derived.Lib.Builder
import Derived.Lib.AppendStr
import Derived.Lib.UnsafeStr
import Derived.Laws.Externs
import Derived.Shelf.RegionOpenPlain
import Derived.Deep.Heap
import Derived.Lib.Bytealg
import Derived.Shelf.GgClosure.StringsIndexFuncTop
import Derived.Shelf.Strings.FuncGrows
import Derived.Shelf.Strings.Repeat
import Derived.KernelRfl
import Derived.Test.YtabkhphoacmcdaaGreatDoorCards
import Derived.Test.YtabkhphoacmcdaaGreatDoorTie
import Derived.LaidMore
import Derived.Lay
import Derived.SevenTiedAt
import Derived.Stop.Joined
import Derived.Test.YtabkhphoacmcdaaGreatDoorRows
import Derived.Test.YtabkhphoacmcdaaGreatDoorConfigDeepM0
import Derived.Test.YtabkhphoacmcdaaGreatDoorConfigDeepM1
import Derived.Test.YtabkhphoacmcdaaGreatDoorConfigDeepM2
set_option linter.unusedVariables false
set_option linter.unusedSimpArgs false
set_option linter.unusedSectionVars false
noncomputable section
set_option maxRecDepth 1000000
set_option maxHeartbeats 0
namespace Go.Proofs.YtabkhphoacmcdaaGreatDoor.Pvm
open Go Go.Proofs
abbrev wq2h:Type 1:=(R:Type)→(List dT72)→(List ((List UInt8)×(List Int)))→(List dT56)→Nat→Int→Int→Int→Int→((List dT72)→(List ((List UInt8)×(List Int)))→(List dT56)→Nat→(List Int)→Option R)→((List dT72)→(List ((List UInt8)×(List Int)))→(List dT56)→Nat→Int→Int→Option R)→Option R
abbrev wq22:Type 1:=(R:Type)→(List dT72)→(List ((List UInt8)×(List Int)))→(List dT56)→Nat→Int→(List UInt8)→(List UInt8)→Bool→Int→Int→Bool→(List UInt8)→Int→Int→Nat→Bool→Bool→(List Int)→(List Int)→Int→((List dT72)→(List ((List UInt8)×(List Int)))→(List dT56)→Nat→Int→Option R)→((List dT72)→(List ((List UInt8)×(List Int)))→(List dT56)→Nat→Int→Int→Option R)→Option R
abbrev wq1r:Type 1:=(R:Type)→(List Int)→(List dT72)→(List ((List UInt8)×(List Int)))→(List dT56)→Nat→(List UInt8)→(List UInt8)→Bool→Int→Int→Bool→(List UInt8)→Int→Int→Nat→Bool→Bool→(List Int)→((List dT72)→(List ((List UInt8)×(List Int)))→(List dT56)→Nat→(List UInt8)→(List UInt8)→Bool→Int→Int→Bool→(List UInt8)→Int→Int→Nat→Bool→Bool→(List Int)→Bool→Option R)→Option R
abbrev wq2q:Type 1:=(R:Type)→(List dT72)→(List ((List UInt8)×(List Int)))→(List dT56)→Nat→Int→((List dT72)→(List ((List UInt8)×(List Int)))→(List dT56)→Nat→(List UInt8)→Int→Int→Nat→Bool→Bool→Option R)→((List dT72)→(List ((List UInt8)×(List Int)))→(List dT56)→Nat→Int→Int→Option R)→Option R
def h_config_reader_list:Sh:=⟨[.o 1 79 0 [.s kdT72,.w 21 64 (.pr .str (.sl kI)),.w 51 57 kdT56,.a .flt],.a kI,.a kI,.a kI,.a kI],some ([.o 1 79 0 [.s kdT72,.w 21 64 (.pr .str (.sl kI)),.w 51 57 kdT56,.a .flt]],[.s kI]),some ([.o 1 79 0 [.s kdT72,.w 21 64 (.pr .str (.sl kI)),.w 51 57 kdT56,.a .flt]],[.i 29 (.g [.a kI,.a kI])])⟩
def h_config_reader_branch:Sh:=⟨[.o 1 79 0 [.s kdT72,.w 21 64 (.pr .str (.sl kI)),.w 51 57 kdT56,.a .flt],.a kI,.g [.a .str,.a .str,.a .bool,.a kI,.a kI,.a .bool,.a .str,.a kI,.a kI,.a .flt,.a .bool,.a .bool,.s kI],.b kI,.a kI],some ([.o 1 79 0 [.s kdT72,.w 21 64 (.pr .str (.sl kI)),.w 51 57 kdT56,.a .flt]],[.a kI]),some ([.o 1 79 0 [.s kdT72,.w 21 64 (.pr .str (.sl kI)),.w 51 57 kdT56,.a .flt]],[.i 29 (.g [.a kI,.a kI])])⟩
def u_config_reader_list_1003:Cu:=⟨1,[0,2,3,4,11,16,17,18],[.o 1 79 0 [.s kdT72,.w 21 64 (.pr .str (.sl kI)),.w 51 57 kdT56,.a .flt],.r 1 0,.a kI,.a kI,.a kI,.w 100011 3 kI,.s kI,.a kI,.a kI]⟩
def wq5z(k:Nat)(wqd:wq2h)(wqj:wq22): Cxt:=⟨[wqh0 k,h_config_reader_branch.e 175 wqj],[1],[(1003,u_config_reader_list_1003.spec)],[]⟩
def wq8u(k:Nat)(wqd:wq2h)(wqj:wq22){R:Type}(E1003:((List dT72)→(List ((List UInt8)×(List Int)))→(List dT56)→Nat→Int→Int→Int→(List Int)→(List Int)→Int→Int→Option R))(s0:(List dT72))(s1:(List ((List UInt8)×(List Int))))(s2:(List dT56))(s3:Nat)(s4 s5 s6:Int)(s7 s8:(List Int))(s9 s10:Int)(K:((List dT72)→(List ((List UInt8)×(List Int)))→(List dT56)→Nat→(List Int)→Option R))(E:((List dT72)→(List ((List UInt8)×(List Int)))→(List dT56)→Nat→Int→Int→Option R)): Option R:=cond (decide (s10<s9)) (cond (inb s10 (s8.length:Int)) (wqj R s0 s1 s2 s3 (s8.getD s10.toNat kI.zero) [] [] false s4 s5 false [] 0 0 0 false false [] s7 s6 (fun y16 y17 y18 y19 y20=>cond (fits s7.length (@List.length (@Kd.T kI) [y20]) 8) (E1003 y16 y17 y18 y19 s4 s5 s6 (s7++[y20]) s8 s9 (@Go.IntKind.wrap Go.IntKind.i64 (s10+1))) none) E) none) (K s0 s1 s2 s3 s7)
def wq8g(k:Nat)(wqd:wq2h)(wqj:wq22){R:Type}(E1003:((List dT72)→(List ((List UInt8)×(List Int)))→(List dT56)→Nat→Int→Int→Int→(List Int)→(List Int)→Int→Int→Option R))(x0:(List dT72))(x1:(List ((List UInt8)×(List Int))))(x2:(List dT56))(x3:Nat)(x4 x5 x6 x7:Int)(K:((List dT72)→(List ((List UInt8)×(List Int)))→(List dT56)→Nat→(List Int)→Option R))(E:((List dT72)→(List ((List UInt8)×(List Int)))→(List dT56)→Nat→Int→Int→Option R)): Option R:=wq2f k x0 x4 [100,101,115,99,114,105,112,116,111,114,115] (fun y13=>E1003 x0 x1 x2 x3 x5 x6 x7 [] y13 (y13.length:Int) 0) (fun y13 y14=>E x0 x1 x2 x3 y13 y14)
def wq40(k:Nat)(wqd:wq2h)(wqj:wq22){R:Type}: Nat→(List dT72)→(List ((List UInt8)×(List Int)))→(List dT56)→Nat→Int→Int→Int→(List Int)→(List Int)→Int→Int→((List dT72)→(List ((List UInt8)×(List Int)))→(List dT56)→Nat→(List Int)→Option R)→((List dT72)→(List ((List UInt8)×(List Int)))→(List dT56)→Nat→Int→Int→Option R)→Option R
 |0,_,_,_,_,_,_,_,_,_,_,_,_,_=>none
 |n+1,s0,s1,s2,s3,s4,s5,s6,s7,s8,s9,s10,K,E=>wq8u k wqd wqj (fun s0 s1 s2 s3 s4 s5 s6 s7 s8 s9 s10=>wq40 k wqd wqj n s0 s1 s2 s3 s4 s5 s6 s7 s8 s9 s10 K E) s0 s1 s2 s3 s4 s5 s6 s7 s8 s9 s10 K E
theorem wqc2(k:Nat)(wqd:wq2h)(wqj:wq22){R:Type}: ∀(I:Nat→St→Option R) (n:Nat),h_config_reader_list.lp u_config_reader_list_1003 (wq5z k wqd wqj).cx k Tryz.f129 1003 [1,1,0,1,0] I n=wq40 k wqd wqj n:=h_config_reader_list.lok u_config_reader_list_1003 (B:=wq8u k wqd wqj) (L:=wq40 k wqd wqj) (fun I=>by kernel_rfl) (fun I=>by kernel_rfl) (fun n=>by kernel_rfl) (fun _ _ _ _=>rfl)
theorem wqi8(k:Nat)(wqd:wq2h)(wqj:wq22)(R:Type): h_config_reader_list.at (wq5z k wqd wqj) k Tryz.f129 R=h_config_reader_list.glue (l:=h_config_reader_list.ps) (u:=u_config_reader_list_1003.fs) (fun E1003=>@wq8g k wqd wqj R E1003) (h_config_reader_list.lp u_config_reader_list_1003 (wq5z k wqd wqj).cx k Tryz.f129 1003 [1,1,0,1,0] (fun _ _=>none) k):=by kernel_rfl
def wqak(k:Nat)(wqd:wq2h)(wqj:wq22)(wq1e:wq1r)(wq7:(R:Type)→Int→Int→(Unit→Option R)→(Int→Int→Option R)→Option R)(wq2:(R:Type)→(List dT72)→Int→(List (List UInt8))→(Int→Int→Option R)→Option R)(wq1:(R:Type)→dT37→Int→(List UInt8)→(Int→Option R)→(Int→Int→Option R)→Option R)(wq0:(R:Type)→dT37→Int→Int→(Int→Int→Option R)→Option R)(wqf:(R:Type)→(List dT72)→Int→(List UInt8)→(Int→Bool→Option R)→Option R)(wq6:(R:Type)→dT37→Int→((List UInt8)→Option R)→(Int→Int→Option R)→Option R)(wq56:(R:Type)→(List dT72)→Int→((List UInt8)→Int→Int→Option R)→Option R)(wq37:wq2q)(wqc:(R:Type)→dT37→Int→(List UInt8)→(Bool→Option R)→(Int→Int→Option R)→Option R): Cxt:=⟨[h_slices_ContainsFunc___int_int_branch.e 65 wq1e,h_config_gives.e 69 wq7,h_field_Seen_Known.e 70 wq2,h_config_reader_must.e 73 wq1,h_config_reader_fault.e 75 wq0,h_field_Seen_Find.e 123 wqf,h_config_reader_name.e 126 wq6,h_config_reader_list.e 129 wqd,h_field_Seen_Word.e 204 wq56,h_config_reader_rule.e 206 wq37,h_config_reader_bool.e 207 wqc],[1],[],[(6,(.of [(2,1),(1,1),(0,2),(3,0),(4,0),(5,1),(6,0)] .done)),(16,(.of [(1,1),(2,1),(3,1),(4,1),(5,1),(6,1),(0,2),(7,0),(8,0),(9,1),(10,1),(11,1),(12,0)] .done)),(25,(.of [(5,1),(0,1),(1,1),(2,1),(3,1),(4,1),(6,1),(7,1),(8,0)] .done))]⟩
def wqal(k:Nat)(wqd:wq2h)(wqj:wq22)(wq1e:wq1r)(wq7:(R:Type)→Int→Int→(Unit→Option R)→(Int→Int→Option R)→Option R)(wq2:(R:Type)→(List dT72)→Int→(List (List UInt8))→(Int→Int→Option R)→Option R)(wq1:(R:Type)→dT37→Int→(List UInt8)→(Int→Option R)→(Int→Int→Option R)→Option R)(wq0:(R:Type)→dT37→Int→Int→(Int→Int→Option R)→Option R)(wqf:(R:Type)→(List dT72)→Int→(List UInt8)→(Int→Bool→Option R)→Option R)(wq6:(R:Type)→dT37→Int→((List UInt8)→Option R)→(Int→Int→Option R)→Option R)(wq56:(R:Type)→(List dT72)→Int→((List UInt8)→Int→Int→Option R)→Option R)(wq37:wq2q)(wqc:(R:Type)→dT37→Int→(List UInt8)→(Bool→Option R)→(Int→Int→Option R)→Option R){R:Type}(x0:(List dT72))(x1:(List ((List UInt8)×(List Int))))(x2:(List dT56))(x3:Nat)(x4:Int)(x5 x6:(List UInt8))(x7:Bool)(x8 x9:Int)(x10:Bool)(x11:(List UInt8))(x12 x13:Int)(x14:Nat)(x15 x16:Bool)(x17 x18:(List Int))(x19:Int)(K:((List dT72)→(List ((List UInt8)×(List Int)))→(List dT56)→Nat→Int→Option R))(E:((List dT72)→(List ((List UInt8)×(List Int)))→(List dT56)→Nat→Int→Int→Option R)): Option R:=cond (decide (x19>8)) (wq0 R x0 x4 8 (fun y24 y25=>E x0 x1 x2 x3 y24 y25)) (cond (decide ((x2.length:Int)≥500)) (wq0 R x0 x4 9 (fun y24 y25=>E x0 x1 x2 x3 y24 y25)) (wq2 R x0 x4 [[107,101,121],[118,97,108,117,101],[114,97,116,101,95,108,105,109,105,116],[115,104,97,100,111,119,95,109,111,100,101],[100,101,115,99,114,105,112,116,111,114,115]] (fun y24 y25=>wq7 R y24 y25 (fun y26=>wq1 R x0 x4 [107,101,121] (fun y27=>wq6 R x0 y27 (fun y28=>wqf R x0 x4 [118,97,108,117,101] (fun y29 y30=>cond y30 (wq56 R x0 y29 (fun y31 y32 y33=>wq7 R y32 y33 (fun y34=>wq1e R x18 x0 x1 x2 x3 y28 y31 false x8 x9 x10 x11 x12 x13 x14 x15 x16 x17 (fun y35 y36 y37 y38 y39 y40 y41 y42 y43 y44 y45 y46 y47 y48 y49 y50 y51 y52=>cond y52 (wq0 R y35 x4 7 (fun y53 y54=>E y35 y36 y37 y38 y53 y54)) (cond (fits y37.length (@List.length (@Kd.T kdT56) [(y39,(y40,(y41,(y42,(y43,(y44,((y45,(y46,(y47,(y48,(y49,y50))))),y51)))))))]) 136) (wqf R y35 x4 [114,97,116,101,95,108,105,109,105,116] (fun y53 y54=>cond y54 (wq37 R y35 y36 (y37++[(y39,(y40,(y41,(y42,(y43,(y44,((y45,(y46,(y47,(y48,(y49,y50))))),y51)))))))]) y38 y53 (fun y55 y56 y57 y58 y59 y60 y61 y62 y63 y64=>wqc R y55 x4 [115,104,97,100,111,119,95,109,111,100,101] (fun y65=>cond (cond y65 (!true) false) (wqf R y55 x4 [115,104,97,100,111,119,95,109,111,100,101] (fun y66 y67=>wq0 R y55 y66 17 (fun y68 y69=>E y55 y56 y57 y58 y68 y69))) (wqd R y55 y56 y57 y58 x4 y42 (y37.length:Int) (@Go.IntKind.wrap Go.IntKind.i64 (x19+1)) (fun y66 y67 y68 y69 y70=>cond (inb (y37.length:Int) (y68.length:Int)) (@SH (@List (@Kd.T kdT56)) R (List.set y68 (y37.length:Int).toNat (y39,(y40,(y41,(y42,(y43,(true,((y59,(y60,(y61,(y62,(y65,y64))))),y70)))))))) (fun y71=>K y66 y67 y71 y69 (y37.length:Int))) none) E)) (fun y65 y66=>E y55 y56 y57 y58 y65 y66)) E) (wqc R y35 x4 [115,104,97,100,111,119,95,109,111,100,101] (fun y55=>cond (cond y55 (!y44) false) (wqf R y35 x4 [115,104,97,100,111,119,95,109,111,100,101] (fun y56 y57=>wq0 R y35 y56 17 (fun y58 y59=>E y35 y36 (y37++[(y39,(y40,(y41,(y42,(y43,(y44,((y45,(y46,(y47,(y48,(y49,y50))))),y51)))))))]) y38 y58 y59))) (wqd R y35 y36 (y37++[(y39,(y40,(y41,(y42,(y43,(y44,((y45,(y46,(y47,(y48,(y49,y50))))),y51)))))))]) y38 x4 y42 (y37.length:Int) (@Go.IntKind.wrap Go.IntKind.i64 (x19+1)) (fun y56 y57 y58 y59 y60=>cond (inb (y37.length:Int) (y58.length:Int)) (@SH (@List (@Kd.T kdT56)) R (List.set y58 (y37.length:Int).toNat (y39,(y40,(y41,(y42,(y43,(y44,((y45,(y46,(y47,(y48,(y55,y50))))),y60)))))))) (fun y61=>K y56 y57 y61 y59 (y37.length:Int))) none) E)) (fun y55 y56=>E y35 y36 (y37++[(y39,(y40,(y41,(y42,(y43,(y44,((y45,(y46,(y47,(y48,(y49,y50))))),y51)))))))]) y38 y55 y56)))) none))) (fun y34 y35=>E x0 x1 x2 x3 y34 y35))) (wq1e R x18 x0 x1 x2 x3 y28 x6 true x8 x9 x10 x11 x12 x13 x14 x15 x16 x17 (fun y31 y32 y33 y34 y35 y36 y37 y38 y39 y40 y41 y42 y43 y44 y45 y46 y47 y48=>cond y48 (wq0 R y31 x4 7 (fun y49 y50=>E y31 y32 y33 y34 y49 y50)) (cond (fits y33.length (@List.length (@Kd.T kdT56) [(y35,(y36,(y37,(y38,(y39,(y40,((y41,(y42,(y43,(y44,(y45,y46))))),y47)))))))]) 136) (wqf R y31 x4 [114,97,116,101,95,108,105,109,105,116] (fun y49 y50=>cond y50 (wq37 R y31 y32 (y33++[(y35,(y36,(y37,(y38,(y39,(y40,((y41,(y42,(y43,(y44,(y45,y46))))),y47)))))))]) y34 y49 (fun y51 y52 y53 y54 y55 y56 y57 y58 y59 y60=>wqc R y51 x4 [115,104,97,100,111,119,95,109,111,100,101] (fun y61=>cond (cond y61 (!true) false) (wqf R y51 x4 [115,104,97,100,111,119,95,109,111,100,101] (fun y62 y63=>wq0 R y51 y62 17 (fun y64 y65=>E y51 y52 y53 y54 y64 y65))) (wqd R y51 y52 y53 y54 x4 y38 (y33.length:Int) (@Go.IntKind.wrap Go.IntKind.i64 (x19+1)) (fun y62 y63 y64 y65 y66=>cond (inb (y33.length:Int) (y64.length:Int)) (@SH (@List (@Kd.T kdT56)) R (List.set y64 (y33.length:Int).toNat (y35,(y36,(y37,(y38,(y39,(true,((y55,(y56,(y57,(y58,(y61,y60))))),y66)))))))) (fun y67=>K y62 y63 y67 y65 (y33.length:Int))) none) E)) (fun y61 y62=>E y51 y52 y53 y54 y61 y62)) E) (wqc R y31 x4 [115,104,97,100,111,119,95,109,111,100,101] (fun y51=>cond (cond y51 (!y40) false) (wqf R y31 x4 [115,104,97,100,111,119,95,109,111,100,101] (fun y52 y53=>wq0 R y31 y52 17 (fun y54 y55=>E y31 y32 (y33++[(y35,(y36,(y37,(y38,(y39,(y40,((y41,(y42,(y43,(y44,(y45,y46))))),y47)))))))]) y34 y54 y55))) (wqd R y31 y32 (y33++[(y35,(y36,(y37,(y38,(y39,(y40,((y41,(y42,(y43,(y44,(y45,y46))))),y47)))))))]) y34 x4 y38 (y33.length:Int) (@Go.IntKind.wrap Go.IntKind.i64 (x19+1)) (fun y52 y53 y54 y55 y56=>cond (inb (y33.length:Int) (y54.length:Int)) (@SH (@List (@Kd.T kdT56)) R (List.set y54 (y33.length:Int).toNat (y35,(y36,(y37,(y38,(y39,(y40,((y41,(y42,(y43,(y44,(y51,y46))))),y56)))))))) (fun y57=>K y52 y53 y57 y55 (y33.length:Int))) none) E)) (fun y51 y52=>E y31 y32 (y33++[(y35,(y36,(y37,(y38,(y39,(y40,((y41,(y42,(y43,(y44,(y45,y46))))),y47)))))))]) y34 y51 y52)))) none))))) (fun y28 y29=>E x0 x1 x2 x3 y28 y29)) (fun y27 y28=>E x0 x1 x2 x3 y27 y28)) (fun y26 y27=>E x0 x1 x2 x3 y26 y27))))
theorem wqfo(k:Nat)(wqd:wq2h)(wqj:wq22)(wq1e:wq1r)(wq7:(R:Type)→Int→Int→(Unit→Option R)→(Int→Int→Option R)→Option R)(wq2:(R:Type)→(List dT72)→Int→(List (List UInt8))→(Int→Int→Option R)→Option R)(wq1:(R:Type)→dT37→Int→(List UInt8)→(Int→Option R)→(Int→Int→Option R)→Option R)(wq0:(R:Type)→dT37→Int→Int→(Int→Int→Option R)→Option R)(wqf:(R:Type)→(List dT72)→Int→(List UInt8)→(Int→Bool→Option R)→Option R)(wq6:(R:Type)→dT37→Int→((List UInt8)→Option R)→(Int→Int→Option R)→Option R)(wq56:(R:Type)→(List dT72)→Int→((List UInt8)→Int→Int→Option R)→Option R)(wq37:wq2q)(wqc:(R:Type)→dT37→Int→(List UInt8)→(Bool→Option R)→(Int→Int→Option R)→Option R)(R:Type): h_config_reader_branch.at (wqak k wqd wqj wq1e wq7 wq2 wq1 wq0 wqf wq6 wq56 wq37 wqc) k Tryz.f175 R=@wqal k wqd wqj wq1e wq7 wq2 wq1 wq0 wqf wq6 wq56 wq37 wqc R:=by kernel_rfl
mutual
def wq1w:Nat→(R:Type)→(List dT72)→(List ((List UInt8)×(List Int)))→(List dT56)→Nat→Int→Int→Int→Int→((List dT72)→(List ((List UInt8)×(List Int)))→(List dT56)→Nat→(List Int)→Option R)→((List dT72)→(List ((List UInt8)×(List Int)))→(List dT56)→Nat→Int→Int→Option R)→Option R
 |0,_,_,_,_,_,_,_,_,_,_,_=>none
 |k+1,R,x0,x1,x2,x3,x4,x5,x6,x7,K,E=>wq8g k (wq1w k) (FR_config_reader_branch k) (fun s0 s1 s2 s3 s4 s5 s6 s7 s8 s9 s10=>wq40 k (wq1w k) (FR_config_reader_branch k) k s0 s1 s2 s3 s4 s5 s6 s7 s8 s9 s10 K E) x0 x1 x2 x3 x4 x5 x6 x7 K E
def FR_config_reader_branch:Nat→(R:Type)→(List dT72)→(List ((List UInt8)×(List Int)))→(List dT56)→Nat→Int→(List UInt8)→(List UInt8)→Bool→Int→Int→Bool→(List UInt8)→Int→Int→Nat→Bool→Bool→(List Int)→(List Int)→Int→((List dT72)→(List ((List UInt8)×(List Int)))→(List dT56)→Nat→Int→Option R)→((List dT72)→(List ((List UInt8)×(List Int)))→(List dT56)→Nat→Int→Int→Option R)→Option R
 |0,_,_,_,_,_,_,_,_,_,_,_,_,_,_,_,_,_,_,_,_,_,_,_=>none
 |k+1,R,x0,x1,x2,x3,x4,x5,x6,x7,x8,x9,x10,x11,x12,x13,x14,x15,x16,x17,x18,x19,K,E=>wqal k (wq1w k) (FR_config_reader_branch k) (@wq2g k) (@wq1i k) (@wq1c k) (@wqt k) (@wqk k) (@wq1v k) (@wq1q k) (@wq80 k) (@wq5x k) (@wq2e k) x0 x1 x2 x3 x4 x5 x6 x7 x8 x9 x10 x11 x12 x13 x14 x15 x16 x17 x18 x19 K E
end
def wq60(k:Nat){R:Type}(x0:(List dT72))(x1:(List ((List UInt8)×(List Int))))(x2:(List dT56))(x3:Nat)(x4 x5 x6 x7:Int)(K:((List dT72)→(List ((List UInt8)×(List Int)))→(List dT56)→Nat→(List Int)→Option R))(E:((List dT72)→(List ((List UInt8)×(List Int)))→(List dT56)→Nat→Int→Int→Option R)): Option R:=wq1w k R x0 x1 x2 x3 x4 x5 x6 x7 K E
theorem wqh4(k:Nat): DOK Tryz.prog 129 (h_config_reader_list.run (wq1w k))∧DOK Tryz.prog 175 (h_config_reader_branch.run (FR_config_reader_branch k)):=by
 induction k with
 |zero=>exact⟨h_config_reader_list.ok0 fun R=>by kernel_rfl,h_config_reader_branch.ok0 fun R=>by kernel_rfl⟩
 |succ k ih =>
  obtain⟨ih_config_reader_list,ih_config_reader_branch⟩:=ih
  exact⟨dok h_config_reader_list (wq5z k (wq1w k) (FR_config_reader_branch k)) (fn:=Tryz.f129) (k:=k) (ok1 (wqb6 k) (ok1 ih_config_reader_branch ok0)) (by kernel_rfl) (by kernel_rfl) fun R=>h_config_reader_list.f1 u_config_reader_list_1003 (wq8g k (wq1w k) (FR_config_reader_branch k)) (wqi8 k (wq1w k) (FR_config_reader_branch k) R) (wqc2 k (wq1w k) (FR_config_reader_branch k) (fun _ _=>none) k) (by kernel_rfl),dok h_config_reader_branch (wqak k (wq1w k) (FR_config_reader_branch k) (@wq2g k) (@wq1i k) (@wq1c k) (@wqt k) (@wqk k) (@wq1v k) (@wq1q k) (@wq80 k) (@wq5x k) (@wq2e k)) (fn:=Tryz.f175) (k:=k) (ok1 (wq7o k) (ok1 (wq4c k) (ok1 (wq73 k) (ok1 (wq5t k) (ok1 (wq4a k) (ok1 (wq53 k) (ok1 (wq8e k) (ok1 ih_config_reader_list (ok1 (wqn5 k) (ok1 (wqi7 k) (ok1 (wqbz k) ok0))))))))))) (by kernel_rfl) (by kernel_rfl) fun R=>wqfo k (wq1w k) (FR_config_reader_branch k) (@wq2g k) (@wq1i k) (@wq1c k) (@wqt k) (@wqk k) (@wq1v k) (@wq1q k) (@wq80 k) (@wq5x k) (@wq2e k) R⟩
theorem wqi9(k:Nat): DOK Tryz.prog 129 (h_config_reader_list.run (@wq60 k)):=(wqh4 k).1
end Go.Proofs.YtabkhphoacmcdaaGreatDoor.Pvm
namespace Go.Proofs.YtabkhphoacmcdaaGreatDoor.Pvm
open Go Go.Proofs
def h_config_reader_domain_1:Sh:=⟨[.g [.a .str,.s kI],.o 11 9 0 [.a .str]],some ([.o 11 9 0 [.a .str]],[.a .bool]),none⟩
def wqe6(k:Nat): Cxt:=⟨[],[11],[],[]⟩
def wqe7(k:Nat){R:Type}(x0:(List UInt8))(x1:(List Int))(x2:(List UInt8))(K:((List UInt8)→Bool→Option R)): Option R:=K x2 (x0 == x2)
def wq61(k:Nat){R:Type}(x0:(List UInt8))(x1:(List Int))(x2:(List UInt8))(K:((List UInt8)→Bool→Option R)): Option R:=wqe7 k x0 x1 x2 K
theorem wqe8(k:Nat): DOK Tryz.prog 128 (h_config_reader_domain_1.run (@wq61 k)):=dok h_config_reader_domain_1 (wqe6 k) (fn:=Tryz.f128) (k:=k) ok0 (by kernel_rfl) (by kernel_rfl) fun R=>by kernel_rfl
def wqe9(k:Nat): Ent:=h_config_reader_domain_1.e 128 (@wq61 k)
def h_slices_IndexFunc___api_Domain_api_Domain_domain:Sh:=⟨[.s (.pr .str (.sl kI)),.c 128 [.o 300 9 0 [.a .str]]],some ([.o 300 9 0 [.a .str]],[.a kI]),none⟩
def u_slices_IndexFunc___api_Domain_api_Domain_domain_1002:Cu:=⟨1,[0,1,7,8],[.o 300 9 0 [.a .str],.s (.pr .str (.sl kI)),.c 128 [.r 300 0],.a kI,.a kI]⟩
def wq30(k:Nat): Cxt:=⟨[wqe9 k],[300],[(1002,u_slices_IndexFunc___api_Domain_api_Domain_domain_1002.spec)],[]⟩
def wq2s(k:Nat){R:Type}(E1002:((List UInt8)→(List ((List UInt8)×(List Int)))→Int→Int→Option R))(s0:(List UInt8))(s1:(List ((List UInt8)×(List Int))))(s2 s3:Int)(K:((List UInt8)→Int→Option R)): Option R:=cond (decide (s3<s2)) (cond (inb s3 (s1.length:Int)) (wq61 k (s1.getD s3.toNat (Kd.zero (@Kd.pr Kd.str (@Kd.sl kI)))).1 (s1.getD s3.toNat (Kd.zero (@Kd.pr Kd.str (@Kd.sl kI)))).2 s0 (fun y8 y9=>cond y9 (K y8 s3) (E1002 y8 s1 s2 (@Go.IntKind.wrap Go.IntKind.i64 (s3+1))))) none) (K s0 (@Neg.neg Int @Int.instNegInt (1:Int)))
def wq31(k:Nat){R:Type}(E1002:((List UInt8)→(List ((List UInt8)×(List Int)))→Int→Int→Option R))(x0:(List ((List UInt8)×(List Int))))(x1:(List UInt8))(K:((List UInt8)→Int→Option R)): Option R:=E1002 x1 x0 (x0.length:Int) 0
def wq1l(k:Nat){R:Type}: Nat→(List UInt8)→(List ((List UInt8)×(List Int)))→Int→Int→((List UInt8)→Int→Option R)→Option R
 |0,_,_,_,_,_=>none
 |n+1,s0,s1,s2,s3,K=>wq2s k (fun s0 s1 s2 s3=>wq1l k n s0 s1 s2 s3 K) s0 s1 s2 s3 K
theorem wq3y(k:Nat){R:Type}: ∀(I:Nat→St→Option R) (n:Nat),h_slices_IndexFunc___api_Domain_api_Domain_domain.lp u_slices_IndexFunc___api_Domain_api_Domain_domain_1002 (wq30 k).cx k Tryz.f174 1002 [1,0,1,0] I n=wq1l k n:=h_slices_IndexFunc___api_Domain_api_Domain_domain.lok u_slices_IndexFunc___api_Domain_api_Domain_domain_1002 (B:=wq2s k) (L:=wq1l k) (fun I=>by kernel_rfl) (fun I=>by kernel_rfl) (fun n=>by kernel_rfl) (fun _ _ _ _=>rfl)
def wq2c(k:Nat){R:Type}(x0:(List ((List UInt8)×(List Int))))(x1:(List UInt8))(K:((List UInt8)→Int→Option R)): Option R:=wq31 k (fun s0 s1 s2 s3=>wq1l k k s0 s1 s2 s3 K) x0 x1 K
theorem wq5a(k:Nat): DOK Tryz.prog 174 (h_slices_IndexFunc___api_Domain_api_Domain_domain.run (@wq2c k)):=dok h_slices_IndexFunc___api_Domain_api_Domain_domain (wq30 k) (fn:=Tryz.f174) (k:=k) (ok1 (wqe8 k) ok0) (by kernel_rfl) (by kernel_rfl) fun R=>h_slices_IndexFunc___api_Domain_api_Domain_domain.f1 u_slices_IndexFunc___api_Domain_api_Domain_domain_1002 (wq31 k) (by kernel_rfl) (wq3y k (fun _ _=>none) k) (by kernel_rfl)
def wq5b(k:Nat): Ent:=h_slices_IndexFunc___api_Domain_api_Domain_domain.e 174 (@wq2c k)
def h_slices_ContainsFunc___api_Domain_api_Domain_domain:Sh:=⟨[.s (.pr .str (.sl kI)),.c 128 [.o 300 9 0 [.a .str]]],some ([.o 300 9 0 [.a .str]],[.a .bool]),none⟩
def wq4o(k:Nat): Cxt:=⟨[wq5b k],[300],[],[]⟩
def wq4p(k:Nat){R:Type}(x0:(List ((List UInt8)×(List Int))))(x1:(List UInt8))(K:((List UInt8)→Bool→Option R)): Option R:=wq2c k x0 x1 (fun y5 y6=>K y5 (decide (y6≥0)))
def wq1m(k:Nat){R:Type}(x0:(List ((List UInt8)×(List Int))))(x1:(List UInt8))(K:((List UInt8)→Bool→Option R)): Option R:=wq4p k x0 x1 K
theorem wq4q(k:Nat): DOK Tryz.prog 127 (h_slices_ContainsFunc___api_Domain_api_Domain_domain.run (@wq1m k)):=dok h_slices_ContainsFunc___api_Domain_api_Domain_domain (wq4o k) (fn:=Tryz.f127) (k:=k) (ok1 (wq5a k) ok0) (by kernel_rfl) (by kernel_rfl) fun R=>by kernel_rfl
abbrev wq2r:Type 1:=(R:Type)→(List dT72)→(List ((List UInt8)×(List Int)))→(List dT56)→Nat→Int→Int→Int→Int→((List dT72)→(List ((List UInt8)×(List Int)))→(List dT56)→Nat→(List Int)→Option R)→((List dT72)→(List ((List UInt8)×(List Int)))→(List dT56)→Nat→Int→Int→Option R)→Option R
def h_config_reader_domain:Sh:=⟨[.o 1 79 0 [.s kdT72,.w 21 64 (.pr .str (.sl kI)),.w 51 57 kdT56,.a .flt],.a kI],some ([.o 1 79 0 [.s kdT72,.w 21 64 (.pr .str (.sl kI)),.w 51 57 kdT56,.a .flt]],[]),some ([.o 1 79 0 [.s kdT72,.w 21 64 (.pr .str (.sl kI)),.w 51 57 kdT56,.a .flt]],[.i 29 (.g [.a kI,.a kI])])⟩
def wqam(k:Nat)(wq7:(R:Type)→Int→Int→(Unit→Option R)→(Int→Int→Option R)→Option R)(wq2:(R:Type)→(List dT72)→Int→(List (List UInt8))→(Int→Int→Option R)→Option R)(wq1:(R:Type)→dT37→Int→(List UInt8)→(Int→Option R)→(Int→Int→Option R)→Option R)(wq0:(R:Type)→dT37→Int→Int→(Int→Int→Option R)→Option R)(wq6:(R:Type)→dT37→Int→((List UInt8)→Option R)→(Int→Int→Option R)→Option R)(wqm:(R:Type)→(List ((List UInt8)×(List Int)))→(List UInt8)→((List UInt8)→Bool→Option R)→Option R)(wqd:wq2r): Cxt:=⟨[h_config_gives.e 69 wq7,h_field_Seen_Known.e 70 wq2,h_config_reader_must.e 73 wq1,h_config_reader_fault.e 75 wq0,h_config_reader_name.e 126 wq6,h_slices_ContainsFunc___api_Domain_api_Domain_domain.e 127 wqm,h_config_reader_list.e 129 wqd],[1],[],[(5,(.of [(0,1),(1,1),(2,1),(3,1),(4,1),(5,1),(6,1),(7,1),(8,0),(9,0),(10,1),(11,1),(12,1),(13,0)] .done)),(7,(.of [(0,1),(1,1),(2,1),(3,1),(5,1),(6,1),(7,1),(8,1),(12,1),(4,1),(9,1),(10,1),(11,1),(13,1),(14,1),(15,0)] .done))]⟩
def wqan(k:Nat)(wq7:(R:Type)→Int→Int→(Unit→Option R)→(Int→Int→Option R)→Option R)(wq2:(R:Type)→(List dT72)→Int→(List (List UInt8))→(Int→Int→Option R)→Option R)(wq1:(R:Type)→dT37→Int→(List UInt8)→(Int→Option R)→(Int→Int→Option R)→Option R)(wq0:(R:Type)→dT37→Int→Int→(Int→Int→Option R)→Option R)(wq6:(R:Type)→dT37→Int→((List UInt8)→Option R)→(Int→Int→Option R)→Option R)(wqm:(R:Type)→(List ((List UInt8)×(List Int)))→(List UInt8)→((List UInt8)→Bool→Option R)→Option R)(wqd:wq2r){R:Type}(x0:(List dT72))(x1:(List ((List UInt8)×(List Int))))(x2:(List dT56))(x3:Nat)(x4:Int)(K:((List dT72)→(List ((List UInt8)×(List Int)))→(List dT56)→Nat→Option R))(E:((List dT72)→(List ((List UInt8)×(List Int)))→(List dT56)→Nat→Int→Int→Option R)): Option R:=wq2 R x0 x4 [[100,111,109,97,105,110],[100,101,115,99,114,105,112,116,111,114,115]] (fun y9 y10=>wq7 R y9 y10 (fun y11=>wq1 R x0 x4 [100,111,109,97,105,110] (fun y12=>wq6 R x0 y12 (fun y13=>wqm R x1 y13 (fun y14 y15=>cond y15 (wq0 R x0 y12 7 (fun y16 y17=>E x0 x1 x2 x3 y16 y17)) (cond (fits x1.length (@List.length (@Kd.T (@Kd.pr Kd.str (@Kd.sl kI))) [(y14,[])]) 40) (wqd R x0 (x1++[(y14,[])]) x2 x3 x4 (@Go.IntKind.wrap Go.IntKind.i64 (((x1++[(y14,[])]).length:Int)-1)) (@Neg.neg Int @Int.instNegInt (1:Int)) 1 (fun y16 y17 y18 y19 y20=>cond (inb (@Go.IntKind.wrap Go.IntKind.i64 ((y17.length:Int)-1)) (y17.length:Int)) (@SH (@List (@Kd.T (@Kd.pr Kd.str (@Kd.sl kI)))) R (List.set y17 (@Go.IntKind.wrap Go.IntKind.i64 ((y17.length:Int)-1)).toNat ((y17.getD (@Go.IntKind.wrap Go.IntKind.i64 ((y17.length:Int)-1)).toNat (Kd.zero (@Kd.pr Kd.str (@Kd.sl kI)))).1,y20)) (fun y21=>K y16 y21 y18 y19)) none) E) none))) (fun y13 y14=>E x0 x1 x2 x3 y13 y14)) (fun y12 y13=>E x0 x1 x2 x3 y12 y13)) (fun y11 y12=>E x0 x1 x2 x3 y11 y12))
theorem wqfp(k:Nat)(wq7:(R:Type)→Int→Int→(Unit→Option R)→(Int→Int→Option R)→Option R)(wq2:(R:Type)→(List dT72)→Int→(List (List UInt8))→(Int→Int→Option R)→Option R)(wq1:(R:Type)→dT37→Int→(List UInt8)→(Int→Option R)→(Int→Int→Option R)→Option R)(wq0:(R:Type)→dT37→Int→Int→(Int→Int→Option R)→Option R)(wq6:(R:Type)→dT37→Int→((List UInt8)→Option R)→(Int→Int→Option R)→Option R)(wqm:(R:Type)→(List ((List UInt8)×(List Int)))→(List UInt8)→((List UInt8)→Bool→Option R)→Option R)(wqd:wq2r)(R:Type): h_config_reader_domain.at (wqam k wq7 wq2 wq1 wq0 wq6 wqm wqd) k Tryz.f76 R=@wqan k wq7 wq2 wq1 wq0 wq6 wqm wqd R:=by kernel_rfl
def wq2u(k:Nat){R:Type}(x0:(List dT72))(x1:(List ((List UInt8)×(List Int))))(x2:(List dT56))(x3:Nat)(x4:Int)(K:((List dT72)→(List ((List UInt8)×(List Int)))→(List dT56)→Nat→Option R))(E:((List dT72)→(List ((List UInt8)×(List Int)))→(List dT56)→Nat→Int→Int→Option R)): Option R:=wqan k (@wq1i k) (@wq1c k) (@wqt k) (@wqk k) (@wq1q k) (@wq1m k) (@wq60 k) x0 x1 x2 x3 x4 K E
theorem wqfq(k:Nat): DOK Tryz.prog 76 (h_config_reader_domain.run (@wq2u k)):=dok h_config_reader_domain (wqam k (@wq1i k) (@wq1c k) (@wqt k) (@wqk k) (@wq1q k) (@wq1m k) (@wq60 k)) (fn:=Tryz.f76) (k:=k) (ok1 (wq4c k) (ok1 (wq73 k) (ok1 (wq5t k) (ok1 (wq4a k) (ok1 (wq8e k) (ok1 (wq4q k) (ok1 (wqi9 k) ok0))))))) (by kernel_rfl) (by kernel_rfl) fun R=>wqfp k (@wq1i k) (@wq1c k) (@wqt k) (@wqk k) (@wq1q k) (@wq1m k) (@wq60 k) R
abbrev wq1j:Type 1:=(R:Type)→dT37→Int→(List UInt8)→((List Int)→Option R)→(Int→Int→Option R)→Option R
abbrev wq1g:Type 1:=(R:Type)→(List dT72)→(List ((List UInt8)×(List Int)))→(List dT56)→Nat→Int→((List dT72)→(List ((List UInt8)×(List Int)))→(List dT56)→Nat→Option R)→((List dT72)→(List ((List UInt8)×(List Int)))→(List dT56)→Nat→Int→Int→Option R)→Option R
def h_config_reader_root:Sh:=⟨[.o 1 79 0 [.s kdT72,.w 21 64 (.pr .str (.sl kI)),.w 51 57 kdT56,.a .flt]],some ([.o 1 79 0 [.s kdT72,.w 21 64 (.pr .str (.sl kI)),.w 51 57 kdT56,.a .flt]],[]),some ([.o 1 79 0 [.s kdT72,.w 21 64 (.pr .str (.sl kI)),.w 51 57 kdT56,.a .flt]],[.i 29 (.g [.a kI,.a kI])])⟩
def u_config_reader_root_1005:Cu:=⟨1,[0,30,31,32],[.o 1 79 0 [.s kdT72,.w 21 64 (.pr .str (.sl kI)),.w 51 57 kdT56,.a .flt],.r 1 0,.s kI,.a kI,.a kI]⟩
def wq62(k:Nat)(wq7:(R:Type)→Int→Int→(Unit→Option R)→(Int→Int→Option R)→Option R)(wq2:(R:Type)→(List dT72)→Int→(List (List UInt8))→(Int→Int→Option R)→Option R)(wqe:(R:Type)→(List UInt8)→(Nat→Bool→Option R)→Option R)(wq3:(R:Type)→dT37→Int→(List UInt8)→Nat→(Nat→Option R)→(Int→Int→Option R)→Option R)(wq1:(R:Type)→dT37→Int→(List UInt8)→(Int→Option R)→(Int→Int→Option R)→Option R)(wq17:wq1j)(wq0:(R:Type)→dT37→Int→Int→(Int→Int→Option R)→Option R)(wq10:wq1g): Cxt:=⟨[h_config_gives.e 69 wq7,h_field_Seen_Known.e 70 wq2,h_ratio_Parse.e 71 wqe,h_config_reader_ratio.e 72 wq3,h_config_reader_must.e 73 wq1,h_config_reader_items.e 74 wq17,h_config_reader_fault.e 75 wq0,h_config_reader_domain.e 76 wq10],[1],[(1005,u_config_reader_root_1005.spec)],[]⟩
def wq8v(k:Nat)(wq7:(R:Type)→Int→Int→(Unit→Option R)→(Int→Int→Option R)→Option R)(wq2:(R:Type)→(List dT72)→Int→(List (List UInt8))→(Int→Int→Option R)→Option R)(wqe:(R:Type)→(List UInt8)→(Nat→Bool→Option R)→Option R)(wq3:(R:Type)→dT37→Int→(List UInt8)→Nat→(Nat→Option R)→(Int→Int→Option R)→Option R)(wq1:(R:Type)→dT37→Int→(List UInt8)→(Int→Option R)→(Int→Int→Option R)→Option R)(wq17:wq1j)(wq0:(R:Type)→dT37→Int→Int→(Int→Int→Option R)→Option R)(wq10:wq1g){R:Type}(E1005:((List dT72)→(List ((List UInt8)×(List Int)))→(List dT56)→Nat→(List Int)→Int→Int→Option R))(s0:(List dT72))(s1:(List ((List UInt8)×(List Int))))(s2:(List dT56))(s3:Nat)(s4:(List Int))(s5 s6:Int)(K:((List dT72)→(List ((List UInt8)×(List Int)))→(List dT56)→Nat→Option R))(E:((List dT72)→(List ((List UInt8)×(List Int)))→(List dT56)→Nat→Int→Int→Option R)): Option R:=cond (decide (s6<s5)) (cond (inb s6 (s4.length:Int)) (cond (decide (s6≥16)) (wq0 R s0 (s4.getD s6.toNat kI.zero) 9 (fun y12 y13=>E s0 s1 s2 s3 y12 y13)) (wq10 R s0 s1 s2 s3 (s4.getD s6.toNat kI.zero) (fun y12 y13 y14 y15=>E1005 y12 y13 y14 y15 s4 s5 (@Go.IntKind.wrap Go.IntKind.i64 (s6+1))) E)) none) (K s0 s1 s2 s3)
def wq8h(k:Nat)(wq7:(R:Type)→Int→Int→(Unit→Option R)→(Int→Int→Option R)→Option R)(wq2:(R:Type)→(List dT72)→Int→(List (List UInt8))→(Int→Int→Option R)→Option R)(wqe:(R:Type)→(List UInt8)→(Nat→Bool→Option R)→Option R)(wq3:(R:Type)→dT37→Int→(List UInt8)→Nat→(Nat→Option R)→(Int→Int→Option R)→Option R)(wq1:(R:Type)→dT37→Int→(List UInt8)→(Int→Option R)→(Int→Int→Option R)→Option R)(wq17:wq1j)(wq0:(R:Type)→dT37→Int→Int→(Int→Int→Option R)→Option R)(wq10:wq1g){R:Type}(E1005:((List dT72)→(List ((List UInt8)×(List Int)))→(List dT56)→Nat→(List Int)→Int→Int→Option R))(x0:(List dT72))(x1:(List ((List UInt8)×(List Int))))(x2:(List dT56))(x3:Nat)(K:((List dT72)→(List ((List UInt8)×(List Int)))→(List dT56)→Nat→Option R))(E:((List dT72)→(List ((List UInt8)×(List Int)))→(List dT56)→Nat→Int→Int→Option R)): Option R:=wq2 R x0 0 [[110,101,97,114],[100,111,109,97,105,110,115]] (fun y9 y10=>wq7 R y9 y10 (fun y11=>wqe R [48,46,56] (fun y12 y13=>wq3 R x0 0 [110,101,97,114] y12 (fun y14=>wq1 R x0 0 [100,111,109,97,105,110,115] (fun y15=>wq17 R x0 0 [100,111,109,97,105,110,115] (fun y16=>E1005 x0 x1 x2 y14 y16 (y16.length:Int) 0) (fun y16 y17=>E x0 x1 x2 y14 y16 y17)) (fun y15 y16=>E x0 x1 x2 y14 y15 y16)) (fun y14 y15=>E x0 x1 x2 y12 y14 y15))) (fun y11 y12=>E x0 x1 x2 x3 y11 y12))
def wq41(k:Nat)(wq7:(R:Type)→Int→Int→(Unit→Option R)→(Int→Int→Option R)→Option R)(wq2:(R:Type)→(List dT72)→Int→(List (List UInt8))→(Int→Int→Option R)→Option R)(wqe:(R:Type)→(List UInt8)→(Nat→Bool→Option R)→Option R)(wq3:(R:Type)→dT37→Int→(List UInt8)→Nat→(Nat→Option R)→(Int→Int→Option R)→Option R)(wq1:(R:Type)→dT37→Int→(List UInt8)→(Int→Option R)→(Int→Int→Option R)→Option R)(wq17:wq1j)(wq0:(R:Type)→dT37→Int→Int→(Int→Int→Option R)→Option R)(wq10:wq1g){R:Type}: Nat→(List dT72)→(List ((List UInt8)×(List Int)))→(List dT56)→Nat→(List Int)→Int→Int→((List dT72)→(List ((List UInt8)×(List Int)))→(List dT56)→Nat→Option R)→((List dT72)→(List ((List UInt8)×(List Int)))→(List dT56)→Nat→Int→Int→Option R)→Option R
 |0,_,_,_,_,_,_,_,_,_=>none
 |n+1,s0,s1,s2,s3,s4,s5,s6,K,E=>wq8v k wq7 wq2 wqe wq3 wq1 wq17 wq0 wq10 (fun s0 s1 s2 s3 s4 s5 s6=>wq41 k wq7 wq2 wqe wq3 wq1 wq17 wq0 wq10 n s0 s1 s2 s3 s4 s5 s6 K E) s0 s1 s2 s3 s4 s5 s6 K E
theorem wqc3(k:Nat)(wq7:(R:Type)→Int→Int→(Unit→Option R)→(Int→Int→Option R)→Option R)(wq2:(R:Type)→(List dT72)→Int→(List (List UInt8))→(Int→Int→Option R)→Option R)(wqe:(R:Type)→(List UInt8)→(Nat→Bool→Option R)→Option R)(wq3:(R:Type)→dT37→Int→(List UInt8)→Nat→(Nat→Option R)→(Int→Int→Option R)→Option R)(wq1:(R:Type)→dT37→Int→(List UInt8)→(Int→Option R)→(Int→Int→Option R)→Option R)(wq17:wq1j)(wq0:(R:Type)→dT37→Int→Int→(Int→Int→Option R)→Option R)(wq10:wq1g){R:Type}: ∀(I:Nat→St→Option R) (n:Nat),h_config_reader_root.lp u_config_reader_root_1005 (wq62 k wq7 wq2 wqe wq3 wq1 wq17 wq0 wq10).cx k Tryz.f37 1005 [1,1,1,1,1,0] I n=wq41 k wq7 wq2 wqe wq3 wq1 wq17 wq0 wq10 n:=h_config_reader_root.lok u_config_reader_root_1005 (B:=wq8v k wq7 wq2 wqe wq3 wq1 wq17 wq0 wq10) (L:=wq41 k wq7 wq2 wqe wq3 wq1 wq17 wq0 wq10) (fun I=>by kernel_rfl) (fun I=>by kernel_rfl) (fun n=>by kernel_rfl) (fun _ _ _ _=>rfl)
theorem wqia(k:Nat)(wq7:(R:Type)→Int→Int→(Unit→Option R)→(Int→Int→Option R)→Option R)(wq2:(R:Type)→(List dT72)→Int→(List (List UInt8))→(Int→Int→Option R)→Option R)(wqe:(R:Type)→(List UInt8)→(Nat→Bool→Option R)→Option R)(wq3:(R:Type)→dT37→Int→(List UInt8)→Nat→(Nat→Option R)→(Int→Int→Option R)→Option R)(wq1:(R:Type)→dT37→Int→(List UInt8)→(Int→Option R)→(Int→Int→Option R)→Option R)(wq17:wq1j)(wq0:(R:Type)→dT37→Int→Int→(Int→Int→Option R)→Option R)(wq10:wq1g)(R:Type): h_config_reader_root.at (wq62 k wq7 wq2 wqe wq3 wq1 wq17 wq0 wq10) k Tryz.f37 R=h_config_reader_root.glue (l:=h_config_reader_root.ps) (u:=u_config_reader_root_1005.fs) (fun E1005=>@wq8h k wq7 wq2 wqe wq3 wq1 wq17 wq0 wq10 R E1005) (h_config_reader_root.lp u_config_reader_root_1005 (wq62 k wq7 wq2 wqe wq3 wq1 wq17 wq0 wq10).cx k Tryz.f37 1005 [1,1,1,1,1,0] (fun _ _=>none) k):=by kernel_rfl
def wq8i(k:Nat){R:Type}(x0:(List dT72))(x1:(List ((List UInt8)×(List Int))))(x2:(List dT56))(x3:Nat)(K:((List dT72)→(List ((List UInt8)×(List Int)))→(List dT56)→Nat→Option R))(E:((List dT72)→(List ((List UInt8)×(List Int)))→(List dT56)→Nat→Int→Int→Option R)): Option R:=wq8h k (@wq1i k) (@wq1c k) (@wq2o k) (@wq1o k) (@wqt k) (@wq2f k) (@wqk k) (@wq2u k) (fun s0 s1 s2 s3 s4 s5 s6=>wq41 k (@wq1i k) (@wq1c k) (@wq2o k) (@wq1o k) (@wqt k) (@wq2f k) (@wqk k) (@wq2u k) k s0 s1 s2 s3 s4 s5 s6 K E) x0 x1 x2 x3 K E
theorem wqib(k:Nat): DOK Tryz.prog 37 (h_config_reader_root.run (@wq8i k)):=dok h_config_reader_root (wq62 k (@wq1i k) (@wq1c k) (@wq2o k) (@wq1o k) (@wqt k) (@wq2f k) (@wqk k) (@wq2u k)) (fn:=Tryz.f37) (k:=k) (ok1 (wq4c k) (ok1 (wq73 k) (ok1 (wqfk k) (ok1 (wqb7 k) (ok1 (wq5t k) (ok1 (wqb6 k) (ok1 (wq4a k) (ok1 (wqfq k) ok0)))))))) (by kernel_rfl) (by kernel_rfl) fun R=>h_config_reader_root.f1 u_config_reader_root_1005 (wq8h k (@wq1i k) (@wq1c k) (@wq2o k) (@wq1o k) (@wqt k) (@wq2f k) (@wqk k) (@wq2u k)) (wqia k (@wq1i k) (@wq1c k) (@wq2o k) (@wq1o k) (@wqt k) (@wq2f k) (@wqk k) (@wq2u k) R) (wqc3 k (@wq1i k) (@wq1c k) (@wq2o k) (@wq1o k) (@wqt k) (@wq2f k) (@wqk k) (@wq2u k) (fun _ _=>none) k) (by kernel_rfl)
def h_lex_sign:Sh:=⟨[.a (.int .u8)],some ([],[.a .bool]),none⟩
def wq11u(k:Nat): Cxt:=⟨[],[],[],[]⟩
def wq11v(k:Nat){R:Type}(x0:Int)(K:(Bool→Option R)): Option R:=K (cond (cond (cond (cond (cond (cond (decide (x0≥97)) (decide (x0≤122)) false) true (cond (decide (x0≥65)) (decide (x0≤90)) false)) true (cond (decide (x0≥48)) (decide (x0≤57)) false)) true (x0 == 95)) true (x0 == 45)) true (x0 == 46))
def wqpb(k:Nat){R:Type}(x0:Int)(K:(Bool→Option R)): Option R:=wq11v k x0 K
theorem wq11w(k:Nat): DOK Tryz.prog 235 (h_lex_sign.run (@wqpb k)):=dok h_lex_sign (wq11u k) (fn:=Tryz.f235) (k:=k) ok0 (by kernel_rfl) (by kernel_rfl) fun R=>by kernel_rfl
def wq11x(k:Nat): Ent:=h_lex_sign.e 235 (@wqpb k)
def h_lex_Signs:Sh:=⟨[.a .str],some ([],[.a .bool]),none⟩
def u_lex_Signs_1002:Cu:=⟨0,[0,5,6],[.a .str,.a kI,.a kI]⟩
def wqs2(k:Nat): Cxt:=⟨[wq11x k],[],[(1002,u_lex_Signs_1002.spec)],[]⟩
def wqfr(k:Nat){R:Type}(E1002:((List UInt8)→Int→Int→Option R))(s0:(List UInt8))(s1 s2:Int)(K:(Bool→Option R)): Option R:=cond (decide (s2<s1)) (cond (inb s2 (s0.length:Int)) (wqpb k ((s0.getD s2.toNat 0).toNat:Int) (fun y7=>cond (!y7) (K false) (E1002 s0 s1 (@Go.IntKind.wrap Go.IntKind.i64 (s2+1))))) none) (K (!(s0 == [])))
def wqs3(k:Nat){R:Type}(E1002:((List UInt8)→Int→Int→Option R))(x0:(List UInt8))(K:(Bool→Option R)): Option R:=E1002 x0 (x0.length:Int) 0
def wq97(k:Nat){R:Type}: Nat→(List UInt8)→Int→Int→(Bool→Option R)→Option R
 |0,_,_,_,_=>none
 |n+1,s0,s1,s2,K=>wqfr k (fun s0 s1 s2=>wq97 k n s0 s1 s2 K) s0 s1 s2 K
theorem wqjh(k:Nat){R:Type}: ∀(I:Nat→St→Option R) (n:Nat),h_lex_Signs.lp u_lex_Signs_1002 (wqs2 k).cx k Tryz.f202 1002 [1,0,1,0] I n=wq97 k n:=h_lex_Signs.lok u_lex_Signs_1002 (B:=wqfr k) (L:=wq97 k) (fun I=>by kernel_rfl) (fun I=>by kernel_rfl) (fun n=>by kernel_rfl) (fun _ _ _ _=>rfl)
def wqgn(k:Nat){R:Type}(x0:(List UInt8))(K:(Bool→Option R)): Option R:=wqs3 k (fun s0 s1 s2=>wq97 k k s0 s1 s2 K) x0 K
theorem wqs4(k:Nat): DOK Tryz.prog 202 (h_lex_Signs.run (@wqgn k)):=dok h_lex_Signs (wqs2 k) (fn:=Tryz.f202) (k:=k) (ok1 (wq11w k) ok0) (by kernel_rfl) (by kernel_rfl) fun R=>h_lex_Signs.f1 u_lex_Signs_1002 (wqs3 k) (by kernel_rfl) (wqjh k (fun _ _=>none) k) (by kernel_rfl)
def wqs5(k:Nat): Ent:=h_lex_Signs.e 202 (@wqgn k)
def h_show_apart:Sh:=⟨[.s .str],some ([],[.a .bool]),none⟩
def u_show_apart_1003:Cu:=⟨0,[3,7,8,9],[.m 73 .one .bool,.s .str,.a kI,.a kI]⟩
def wqpc(k:Nat): Cxt:=⟨[wqs5 k],[],[(1003,u_show_apart_1003.spec)],[]⟩
def wqeu(k:Nat){R:Type}(E1003:((List (List UInt8×Bool))→(List (List UInt8))→Int→Int→Option R))(s0:(List (List UInt8×Bool)))(s1:(List (List UInt8)))(s2 s3:Int)(K:(Bool→Option R)): Option R:=cond (decide (s3<s2)) (cond (inb s3 (s1.length:Int)) (wqgn k (s1.getD s3.toNat Kd.str.zero) (fun y8=>cond ((cond (!y8) true (decide (((s1.getD s3.toNat Kd.str.zero).length:Int)>64))) == false) (cond (mget Kd.bool (s1.getD s3.toNat Kd.str.zero) s0) (K false) (E1003 (mset Kd.bool (s1.getD s3.toNat Kd.str.zero) true s0) s1 s2 (@Go.IntKind.wrap Go.IntKind.i64 (s3+1)))) (K false))) none) (K true)
def wqpd(k:Nat){R:Type}(E1003:((List (List UInt8×Bool))→(List (List UInt8))→Int→Int→Option R))(x0:(List (List UInt8)))(K:(Bool→Option R)): Option R:=E1003 [] x0 (x0.length:Int) 0
def wq81(k:Nat){R:Type}: Nat→(List (List UInt8×Bool))→(List (List UInt8))→Int→Int→(Bool→Option R)→Option R
 |0,_,_,_,_,_=>none
 |n+1,s0,s1,s2,s3,K=>wqeu k (fun s0 s1 s2 s3=>wq81 k n s0 s1 s2 s3 K) s0 s1 s2 s3 K
theorem wqic(k:Nat){R:Type}: ∀(I:Nat→St→Option R) (n:Nat),h_show_apart.lp u_show_apart_1003 (wqpc k).cx k Tryz.f165 1003 [1,1,0,1,0] I n=wq81 k n:=h_show_apart.lok u_show_apart_1003 (B:=wqeu k) (L:=wq81 k) (fun I=>by kernel_rfl) (fun I=>by kernel_rfl) (fun n=>by kernel_rfl) (fun _ _ _ _=>rfl)
def wqid(k:Nat){R:Type}(x0:(List (List UInt8)))(K:(Bool→Option R)): Option R:=wqpd k (fun s0 s1 s2 s3=>wq81 k k s0 s1 s2 s3 K) x0 K
theorem wqwm(k:Nat): DOK Tryz.prog 165 (h_show_apart.run (@wqid k)):=dok h_show_apart (wqpc k) (fn:=Tryz.f165) (k:=k) (ok1 (wqs4 k) ok0) (by kernel_rfl) (by kernel_rfl) fun R=>h_show_apart.f1 u_show_apart_1003 (wqpd k) (by kernel_rfl) (wqic k (fun _ _=>none) k) (by kernel_rfl)
def wqwn(k:Nat): Ent:=h_show_apart.e 165 (@wqid k)
def wqlx:List LS:=[.obj 1 [.sl (.pr (.int .i64) (.pr (.int .i64) (.pr (.int .i64) (.pr .str .bool))))],.obj 2 [.any,.any]]
def wqly(k:Nat): CTab:=CTab.nil
def wqc4{R:Type}(K:((List dT156)→Int→Int→Option R)): Out→Option R
 |.ret [] [(1,.var 110 [.v (.sl (.pr (.int .i64) (.pr (.int .i64) (.pr (.int .i64) (.pr .str .bool))))) y0]),(2,.var 29 [.v (.int .i64) y1,.v (.int .i64) y2])]=>K y0 y1 y2
 |_=>none
def wqji:RetSpec:=⟨[],[(1,.obj 1 [.sl (.pr (.int .i64) (.pr (.int .i64) (.pr (.int .i64) (.pr .str .bool))))]),(2,.obj 2 [.any,.any])],[]⟩
def wqpe:List (Nat×CutSpec):=[]
def wqn6:List (Nat×Plan):=[(7,(.of [(0,2),(1,0),(2,0)] .done))]
def wqea(k:Nat): Ctx:=⟨tyT,wqpe,wqly k,[],[1,2],wqn6,@SH⟩
def wq98:Code:=Tryz.f149.body.getD .skip
def wqlz(k:Nat){R:Type}(x0:(List dT156))(x1 x2:Int)(K:((List dT156)→Int→Int→Option R)): Option R:=K x0 x1 x2
theorem wqpf(k:Nat){R:Type}(I:Nat→St→Option R)(x0:(List dT156))(x1 x2:Int)(K:((List dT156)→Int→Int→Option R)): fnCK (wqea k) k (at_ [1] wq98) 12 [] wqji [.ptr 1 0,.ptr 2 0] 5 (.nilif) [(1,.var 110 [.v (.sl (.pr (.int .i64) (.pr (.int .i64) (.pr (.int .i64) (.pr .str .bool))))) x0]),(2,.var 29 [.v (.int .i64) x1,.v (.int .i64) x2])] (wqc4 K)=wqlz k x0 x1 x2 K:=by kernel_rfl
def wqce(k:Nat){R:Type}(x0:(List dT156))(x1 x2:Int)(K:((List dT156)→Int→Int→Option R)): Option R:=wqlz k x0 x1 x2 K
theorem wqpg(k:Nat){R:Type}(x0:(List dT156))(x1 x2:Int)(K:((List dT156)→Int→Int→Option R)): fnCK (wqea k) k (at_ [1] wq98) 12 [] wqji [.ptr 1 0,.ptr 2 0] 5 (.nilif) [(1,.var 110 [.v (.sl (.pr (.int .i64) (.pr (.int .i64) (.pr (.int .i64) (.pr .str .bool))))) x0]),(2,.var 29 [.v (.int .i64) x1,.v (.int .i64) x2])] (wqc4 K)=wqce k x0 x1 x2 K:=by
 exact wqpf k (fun _ _=>none) x0 x1 x2 K
def wqhl(k:Nat){R:Type}: PV→List PV→List (Nm×HObj)→(Out→Option R)→Option R
 |.nilif,[.ptr 1 0,.ptr 2 0],[(1,.var 110 [.v (.sl (.pr (.int .i64) (.pr (.int .i64) (.pr (.int .i64) (.pr .str .bool))))) x0]),(2,.var 29 [.v (.int .i64) x1,.v (.int .i64) x2])],K=>wqce k x0 x1 x2 (fun y0 y1 y2=>K (.ret [] [(1,.var 110 [.v (.sl (.pr (.int .i64) (.pr (.int .i64) (.pr (.int .i64) (.pr .str .bool))))) y0]),(2,.var 29 [.v (.int .i64) y1,.v (.int .i64) y2])]))
 |_,_,_,_=>none
theorem wqph(k:Nat): (wqly k).Ok Tryz.prog:=CTab.nil_ok
theorem wqt7(k:Nat){rec:PV}{ps:List PV}{hp:List (Nm×HObj)}{R:Type}{K:Out→Option R}{r:R}(h:wqhl k rec ps hp K=some r): DoesToD Tryz.prog 149 rec ps hp fun out=>K out=some r:=by
 unfold wqhl at h
 split at h
 ·rw[←wqpg]at h
  have:=wqrs (P:=Tryz.prog) (cx:=wqea k) (f:=149) ⟨tyT_ok,wqph k,fun _ _=>rfl⟩ (by kernel_rfl) (fn:=Tryz.f149) (id:=0) (ops:=opsAt (at_ [0] wq98)) (c:=at_ [1] wq98) (by kernel_rfl) (by kernel_rfl) (by kernel_rfl) (rs:=[]) (by kernel_rfl) (by kernel_rfl) h
  exact this.mono fun out ho=>by
   unfold wqc4 at ho
   split at ho<;>first|exact ho|cases ho
 ·cases h
def wqm0(k:Nat): CTab:=CTab.nil
def wqc5{R:Type}(K:((List dT156)→Int→Int→Option R)): Out→Option R
 |.ret [] [(1,.var 110 [.v (.sl (.pr (.int .i64) (.pr (.int .i64) (.pr (.int .i64) (.pr .str .bool))))) y0]),(2,.var 29 [.v (.int .i64) y1,.v (.int .i64) y2])]=>K y0 y1 y2
 |_=>none
def wqjj:RetSpec:=⟨[],[(1,.obj 1 [.sl (.pr (.int .i64) (.pr (.int .i64) (.pr (.int .i64) (.pr .str .bool))))]),(2,.obj 2 [.any,.any])],[]⟩
def wqpi:List (Nat×CutSpec):=[]
def wqn7:List (Nat×Plan):=[(7,(.of [(0,2),(1,0),(2,0)] .done))]
def wqeb(k:Nat): Ctx:=⟨tyT,wqpi,wqm0 k,[],[1,2],wqn7,@SH⟩
def wq99:Code:=Tryz.f149.body.getD .skip
def wqm1(k:Nat){R:Type}(x0:(List dT156))(x1 x2 x3 x4:Int)(K:((List dT156)→Int→Int→Option R)): Option R:=K [] x3 x4
theorem wqpj(k:Nat){R:Type}(I:Nat→St→Option R)(x0:(List dT156))(x1 x2 x3 x4:Int)(K:((List dT156)→Int→Int→Option R)): fnCK (wqeb k) k (at_ [1] wq99) 12 [] wqjj [.ptr 1 0,.ptr 2 0] 5 (.ifc 29 (.agg [.v (.int .i64) x3,.v (.int .i64) x4])) [(1,.var 110 [.v (.sl (.pr (.int .i64) (.pr (.int .i64) (.pr (.int .i64) (.pr .str .bool))))) x0]),(2,.var 29 [.v (.int .i64) x1,.v (.int .i64) x2])] (wqc5 K)=wqm1 k x0 x1 x2 x3 x4 K:=by kernel_rfl
def wqcf(k:Nat){R:Type}(x0:(List dT156))(x1 x2 x3 x4:Int)(K:((List dT156)→Int→Int→Option R)): Option R:=wqm1 k x0 x1 x2 x3 x4 K
theorem wqpk(k:Nat){R:Type}(x0:(List dT156))(x1 x2 x3 x4:Int)(K:((List dT156)→Int→Int→Option R)): fnCK (wqeb k) k (at_ [1] wq99) 12 [] wqjj [.ptr 1 0,.ptr 2 0] 5 (.ifc 29 (.agg [.v (.int .i64) x3,.v (.int .i64) x4])) [(1,.var 110 [.v (.sl (.pr (.int .i64) (.pr (.int .i64) (.pr (.int .i64) (.pr .str .bool))))) x0]),(2,.var 29 [.v (.int .i64) x1,.v (.int .i64) x2])] (wqc5 K)=wqcf k x0 x1 x2 x3 x4 K:=by
 exact wqpj k (fun _ _=>none) x0 x1 x2 x3 x4 K
def wqhm(k:Nat){R:Type}: PV→List PV→List (Nm×HObj)→(Out→Option R)→Option R
 |.ifc 29 (.agg [.v (.int .i64) x3,.v (.int .i64) x4]),[.ptr 1 0,.ptr 2 0],[(1,.var 110 [.v (.sl (.pr (.int .i64) (.pr (.int .i64) (.pr (.int .i64) (.pr .str .bool))))) x0]),(2,.var 29 [.v (.int .i64) x1,.v (.int .i64) x2])],K=>wqcf k x0 x1 x2 x3 x4 (fun y0 y1 y2=>K (.ret [] [(1,.var 110 [.v (.sl (.pr (.int .i64) (.pr (.int .i64) (.pr (.int .i64) (.pr .str .bool))))) y0]),(2,.var 29 [.v (.int .i64) y1,.v (.int .i64) y2])]))
 |_,_,_,_=>none
theorem wqpl(k:Nat): (wqm0 k).Ok Tryz.prog:=CTab.nil_ok
theorem wqt8(k:Nat){rec:PV}{ps:List PV}{hp:List (Nm×HObj)}{R:Type}{K:Out→Option R}{r:R}(h:wqhm k rec ps hp K=some r): DoesToD Tryz.prog 149 rec ps hp fun out=>K out=some r:=by
 unfold wqhm at h
 split at h
 ·rw[←wqpk]at h
  have:=wqrs (P:=Tryz.prog) (cx:=wqeb k) (f:=149) ⟨tyT_ok,wqpl k,fun _ _=>rfl⟩ (by kernel_rfl) (fn:=Tryz.f149) (id:=0) (ops:=opsAt (at_ [0] wq99)) (c:=at_ [1] wq99) (by kernel_rfl) (by kernel_rfl) (by kernel_rfl) (rs:=[]) (by kernel_rfl) (by kernel_rfl) h
  exact this.mono fun out ho=>by
   unfold wqc5 at ho
   split at ho<;>first|exact ho|cases ho
 ·cases h
def h_strings_HasPrefix:Sh:=⟨[.a .str,.a .str],some ([],[.a .bool]),none⟩
def wqjk(k:Nat): Cxt:=⟨[wqes k],[],[],[]⟩
def wqjl(k:Nat){R:Type}(x0 x1:(List UInt8))(K:(Bool→Option R)): Option R:=wq7y k x0 x1 K
def wq9a(k:Nat){R:Type}(x0 x1:(List UInt8))(K:(Bool→Option R)): Option R:=wqjl k x0 x1 K
theorem wqjm(k:Nat): DOK Tryz.prog 41 (h_strings_HasPrefix.run (@wq9a k)):=dok h_strings_HasPrefix (wqjk k) (fn:=Tryz.f41) (k:=k) (ok1 (wqer k) ok0) (by kernel_rfl) (by kernel_rfl) fun R=>by kernel_rfl
def wqjn(k:Nat): Ent:=h_strings_HasPrefix.e 41 (@wq9a k)
def h_lex_dash:Sh:=⟨[.a .str],some ([],[.a .bool]),none⟩
def wq11y(k:Nat): Cxt:=⟨[wqjn k],[],[],[]⟩
def wq11z(k:Nat){R:Type}(x0:(List UInt8))(K:(Bool→Option R)): Option R:=cond ((x0 == [(45:UInt8)]) == false) (wq9a k x0 [45,32] K) (K true)
def wq7r(k:Nat){R:Type}(x0:(List UInt8))(K:(Bool→Option R)): Option R:=wq11z k x0 K
theorem wqut(k:Nat): DOK Tryz.prog 193 (h_lex_dash.run (@wq7r k)):=dok h_lex_dash (wq11y k) (fn:=Tryz.f193) (k:=k) (ok1 (wqjm k) ok0) (by kernel_rfl) (by kernel_rfl) fun R=>by kernel_rfl
def h_lex_key:Sh:=⟨[.a .str],some ([],[.a .str]),none⟩
def wq13a(k:Nat): Cxt:=⟨[wqup k,wqs5 k],[],[],[]⟩
def wq13b(k:Nat){R:Type}(x0:(List UInt8))(K:((List UInt8)→Option R)): Option R:=wq8s k x0 58 (fun y4 y5 y6=>cond ((!y6) == false) (wqgn k y4 (fun y7=>cond ((!(((!y7) == false)&&((!(y5 == [])) == true))) || (inb 0 (y5.length:Int))) (cond (cond (!y7) true (cond (!(y5 == [])) (((y5.getD (Int.toNat 0) 0).toNat:Int) != 32) false)) (K []) (K y4)) none)) (K []))
def wqad(k:Nat){R:Type}(x0:(List UInt8))(K:((List UInt8)→Option R)): Option R:=wq13b k x0 K
theorem wqym(k:Nat): DOK Tryz.prog 195 (h_lex_key.run (@wqad k)):=dok h_lex_key (wq13a k) (fn:=Tryz.f195) (k:=k) (ok1 (wqlu k) (ok1 (wqs4 k) ok0)) (by kernel_rfl) (by kernel_rfl) fun R=>by kernel_rfl
def h_lex_lexer_gives:Sh:=⟨[.o 1 200 0 [.a kI,.a kI,.a .str,.a kI,.w 21 157 kdT156],.a kI],some ([.o 1 200 0 [.a kI,.a kI,.a .str,.a kI,.w 21 157 kdT156]],[]),some ([.o 1 200 0 [.a kI,.a kI,.a .str,.a kI,.w 21 157 kdT156]],[.i 29 (.g [.a kI,.a kI])])⟩
def wqn8(k:Nat): Cxt:=⟨[],[1],[],[]⟩
def wqn9(k:Nat){R:Type}(x0 x1:Int)(x2:(List UInt8))(x3:Int)(x4:(List dT156))(x5:Int)(K:(Int→Int→(List UInt8)→Int→(List dT156)→Option R))(E:(Int→Int→(List UInt8)→Int→(List dT156)→Int→Int→Option R)): Option R:=E x0 x1 x2 x3 x4 x5 x0
def wq13(k:Nat){R:Type}(x0 x1:Int)(x2:(List UInt8))(x3:Int)(x4:(List dT156))(x5:Int)(K:(Int→Int→(List UInt8)→Int→(List dT156)→Option R))(E:(Int→Int→(List UInt8)→Int→(List dT156)→Int→Int→Option R)): Option R:=wqn9 k x0 x1 x2 x3 x4 x5 K E
theorem wq6b(k:Nat): DOK Tryz.prog 191 (h_lex_lexer_gives.run (@wq13 k)):=dok h_lex_lexer_gives (wqn8 k) (fn:=Tryz.f191) (k:=k) ok0 (by kernel_rfl) (by kernel_rfl) fun R=>by kernel_rfl
def wqaz(k:Nat): Ent:=h_lex_lexer_gives.e 191 (@wq13 k)
def h_lex_lexer_piece:Sh:=⟨[.o 1 200 0 [.a kI,.a kI,.a .str,.a kI,.w 21 157 kdT156],.a kI,.a .str,.a .bool,.a kI],some ([.o 1 200 0 [.a kI,.a kI,.a .str,.a kI,.w 21 157 kdT156]],[]),none⟩
def wqna(k:Nat): Cxt:=⟨[],[1],[],[(0,(.of [(0,1),(1,1),(2,1),(3,1),(5,1),(6,1),(7,1),(8,1),(9,1),(11,1),(12,1),(13,1),(14,1),(16,1),(17,1),(18,1),(21,1),(22,1),(4,1),(10,1),(15,1),(19,1),(20,1),(23,1),(24,0),(25,0),(26,1),(27,1),(28,0)] .done))]⟩
def wqnb(k:Nat){R:Type}(x0 x1:Int)(x2:(List UInt8))(x3:Int)(x4:(List dT156))(x5:Int)(x6:(List UInt8))(x7:Bool)(x8:Int)(K:(Int→Int→(List UInt8)→Int→(List dT156)→Option R)): Option R:=cond (fits x4.length (@List.length (@Kd.T kdT156) [(x5,(x0,((@Go.IntKind.wrap Go.IntKind.i64 (x1+x3)),(x6,x7))))]) 48) (K x0 x1 x2 (@Go.IntKind.wrap Go.IntKind.i64 (x3+x8)) (x4++[(x5,(x0,((@Go.IntKind.wrap Go.IntKind.i64 (x1+x3)),(x6,x7))))])) none
def wq2w(k:Nat){R:Type}(x0 x1:Int)(x2:(List UInt8))(x3:Int)(x4:(List dT156))(x5:Int)(x6:(List UInt8))(x7:Bool)(x8:Int)(K:(Int→Int→(List UInt8)→Int→(List dT156)→Option R)): Option R:=wqnb k x0 x1 x2 x3 x4 x5 x6 x7 x8 K
theorem wqev(k:Nat): DOK Tryz.prog 194 (h_lex_lexer_piece.run (@wq2w k)):=dok h_lex_lexer_piece (wqna k) (fn:=Tryz.f194) (k:=k) ok0 (by kernel_rfl) (by kernel_rfl) fun R=>by kernel_rfl
def h_lex_lexer_rest:Sh:=⟨[.o 1 200 0 [.a kI,.a kI,.a .str,.a kI,.w 21 157 kdT156]],some ([.o 1 200 0 [.a kI,.a kI,.a .str,.a kI,.w 21 157 kdT156]],[.a .str]),none⟩
def u_lex_lexer_rest_1001:Cu:=⟨1,[0],[.o 1 200 0 [.a kI,.a kI,.a .str,.a kI,.w 21 157 kdT156],.r 1 0]⟩
def wqfs(k:Nat): Cxt:=⟨[],[1],[(1001,u_lex_lexer_rest_1001.spec)],[(1,(.of [(0,1),(1,1),(2,1),(4,1),(5,1),(6,1),(7,1),(3,1),(8,1),(9,1),(10,1),(11,1),(12,1),(13,1),(14,1),(15,1),(17,1),(18,1),(19,1),(16,1),(20,1),(21,1),(22,1),(23,1)] .done)),(3,(.of [(0,1),(1,1),(2,1),(3,1),(5,1),(6,1),(7,1),(4,1),(8,1),(9,1),(10,1)] .done))]⟩
def wqb8(k:Nat){R:Type}(E1001:(Int→Int→(List UInt8)→Int→(List dT156)→Option R))(s0 s1:Int)(s2:(List UInt8))(s3:Int)(s4:(List dT156))(K:(Int→Int→(List UInt8)→Int→(List dT156)→(List UInt8)→Option R)): Option R:=cond ((!((decide (s3<(s2.length:Int))) == true)) || (inb s3 (s2.length:Int))) (cond (cond (decide (s3<(s2.length:Int))) (((s2.getD s3.toNat 0).toNat:Int) == 32) false) (E1001 s0 s1 s2 (@Go.IntKind.wrap Go.IntKind.i64 (s3+1)) s4) (cond (bnd s3 (s2.length:Int) (s2.length:Int)) (K s0 s1 s2 s3 s4 (cut s2 s3 (s2.length:Int))) none)) none
def wqft(k:Nat){R:Type}(E1001:(Int→Int→(List UInt8)→Int→(List dT156)→Option R))(x0 x1:Int)(x2:(List UInt8))(x3:Int)(x4:(List dT156))(K:(Int→Int→(List UInt8)→Int→(List dT156)→(List UInt8)→Option R)): Option R:=E1001 x0 x1 x2 x3 x4
def wq5m(k:Nat){R:Type}: Nat→Int→Int→(List UInt8)→Int→(List dT156)→(Int→Int→(List UInt8)→Int→(List dT156)→(List UInt8)→Option R)→Option R
 |0,_,_,_,_,_,_=>none
 |n+1,s0,s1,s2,s3,s4,K=>wqb8 k (fun s0 s1 s2 s3 s4=>wq5m k n s0 s1 s2 s3 s4 K) s0 s1 s2 s3 s4 K
theorem wqec(k:Nat){R:Type}: ∀(I:Nat→St→Option R) (n:Nat),h_lex_lexer_rest.lp u_lex_lexer_rest_1001 (wqfs k).cx k Tryz.f192 1001 [1,0,0] I n=wq5m k n:=h_lex_lexer_rest.lok u_lex_lexer_rest_1001 (B:=wqb8 k) (L:=wq5m k) (fun I=>by kernel_rfl) (fun I=>by kernel_rfl) (fun n=>by kernel_rfl) (fun _ _ _ _=>rfl)
def wq4r(k:Nat){R:Type}(x0 x1:Int)(x2:(List UInt8))(x3:Int)(x4:(List dT156))(K:(Int→Int→(List UInt8)→Int→(List dT156)→(List UInt8)→Option R)): Option R:=wqft k (fun s0 s1 s2 s3 s4=>wq5m k k s0 s1 s2 s3 s4 K) x0 x1 x2 x3 x4 K
theorem wqpm(k:Nat): DOK Tryz.prog 192 (h_lex_lexer_rest.run (@wq4r k)):=dok h_lex_lexer_rest (wqfs k) (fn:=Tryz.f192) (k:=k) ok0 (by kernel_rfl) (by kernel_rfl) fun R=>h_lex_lexer_rest.f1 u_lex_lexer_rest_1001 (wqft k) (by kernel_rfl) (wqec k (fun _ _=>none) k) (by kernel_rfl)
def h_strings_IndexByte:Sh:=⟨[.a .str,.a (.int .u8)],some ([],[.a kI]),none⟩
def wqjo(k:Nat): Cxt:=⟨[wqeq k],[],[],[]⟩
def wqjp(k:Nat){R:Type}(x0:(List UInt8))(x1:Int)(K:(Int→Option R)): Option R:=wq7x k x0 x1 K
def wq1u(k:Nat){R:Type}(x0:(List UInt8))(x1:Int)(K:(Int→Option R)): Option R:=wqjp k x0 x1 K
theorem wqcg(k:Nat): DOK Tryz.prog 231 (h_strings_IndexByte.run (@wq1u k)):=dok h_strings_IndexByte (wqjo k) (fn:=Tryz.f231) (k:=k) (ok1 (wqep k) ok0) (by kernel_rfl) (by kernel_rfl) fun R=>by kernel_rfl
def wqjq(k:Nat): Ent:=h_strings_IndexByte.e 231 (@wq1u k)
def h_lex_lexer_taken:Sh:=⟨[.o 1 200 0 [.a kI,.a kI,.a .str,.a kI,.w 21 157 kdT156],.a .str],some ([.o 1 200 0 [.a kI,.a kI,.a .str,.a kI,.w 21 157 kdT156]],[.a (.int .u8),.a kI]),some ([.o 1 200 0 [.a kI,.a kI,.a .str,.a kI,.w 21 157 kdT156]],[.i 29 (.g [.a kI,.a kI])])⟩
def wqnc(k:Nat): Cxt:=⟨[wqaz k,wqjq k],[1],[],[(14,(.of [(0,1),(1,1),(3,1),(4,1),(2,0),(5,0),(6,1),(7,1)] .done))]⟩
def wqnd(k:Nat){R:Type}(x0 x1:Int)(x2:(List UInt8))(x3:Int)(x4:(List dT156))(x5:(List UInt8))(K E:(Int→Int→(List UInt8)→Int→(List dT156)→Int→Int→Option R)): Option R:=cond (x5 == []) (wq13 k x0 x1 x2 x3 x4 3 (fun y10 y11 y12 y13 y14=>cond (inb 0 (x5.length:Int)) (cond (((x5.getD (Int.toNat 0) 0).toNat:Int) == 92) (cond (inb 0 (x5.length:Int)) (K y10 y11 y12 y13 y14 ((x5.getD (Int.toNat 0) 0).toNat:Int) 1) none) (cond (((x5.getD (Int.toNat 0) 0).toNat:Int) == 34) (cond (inb 0 (x5.length:Int)) (K y10 y11 y12 y13 y14 ((x5.getD (Int.toNat 0) 0).toNat:Int) 1) none) (cond (((x5.getD (Int.toNat 0) 0).toNat:Int) == 110) (K y10 y11 y12 y13 y14 10 1) (cond (((x5.getD (Int.toNat 0) 0).toNat:Int) == 116) (K y10 y11 y12 y13 y14 9 1) (cond (((x5.getD (Int.toNat 0) 0).toNat:Int) == 120) (cond (decide ((x5.length:Int)<3)) (wq13 k y10 y11 y12 y13 y14 3 (fun y15 y16 y17 y18 y19=>cond (inb 1 (x5.length:Int)) (cond (inb 2 (x5.length:Int)) (wq1u k [48,49,50,51,52,53,54,55,56,57,97,98,99,100,101,102] ((x5.getD (Int.toNat 1) 0).toNat:Int) (fun y20=>wq1u k [48,49,50,51,52,53,54,55,56,57,97,98,99,100,101,102] ((x5.getD (Int.toNat 2) 0).toNat:Int) (fun y21=>cond (cond (decide (y20<0)) true (decide (y21<0))) (wq13 k y15 y16 y17 y18 y19 3 (fun y22 y23 y24 y25 y26=>K y22 y23 y24 y25 y26 (@Go.IntKind.wrap Go.IntKind.u8 (@Go.IntKind.wrap Go.IntKind.i64 ((@Go.IntKind.wrap Go.IntKind.i64 ((16:Int)*y20))+y21))) 3) E) (K y15 y16 y17 y18 y19 (@Go.IntKind.wrap Go.IntKind.u8 (@Go.IntKind.wrap Go.IntKind.i64 ((@Go.IntKind.wrap Go.IntKind.i64 ((16:Int)*y20))+y21))) 3)))) none) none) E) (cond (inb 1 (x5.length:Int)) (cond (inb 2 (x5.length:Int)) (wq1u k [48,49,50,51,52,53,54,55,56,57,97,98,99,100,101,102] ((x5.getD (Int.toNat 1) 0).toNat:Int) (fun y15=>wq1u k [48,49,50,51,52,53,54,55,56,57,97,98,99,100,101,102] ((x5.getD (Int.toNat 2) 0).toNat:Int) (fun y16=>cond (cond (decide (y15<0)) true (decide (y16<0))) (wq13 k y10 y11 y12 y13 y14 3 (fun y17 y18 y19 y20 y21=>K y17 y18 y19 y20 y21 (@Go.IntKind.wrap Go.IntKind.u8 (@Go.IntKind.wrap Go.IntKind.i64 ((@Go.IntKind.wrap Go.IntKind.i64 ((16:Int)*y15))+y16))) 3) E) (K y10 y11 y12 y13 y14 (@Go.IntKind.wrap Go.IntKind.u8 (@Go.IntKind.wrap Go.IntKind.i64 ((@Go.IntKind.wrap Go.IntKind.i64 ((16:Int)*y15))+y16))) 3)))) none) none)) (wq13 k y10 y11 y12 y13 y14 3 (fun y15 y16 y17 y18 y19=>K y15 y16 y17 y18 y19 0 0) E)))))) none) E) (cond (inb 0 (x5.length:Int)) (cond (((x5.getD (Int.toNat 0) 0).toNat:Int) == 92) (cond (inb 0 (x5.length:Int)) (K x0 x1 x2 x3 x4 ((x5.getD (Int.toNat 0) 0).toNat:Int) 1) none) (cond (((x5.getD (Int.toNat 0) 0).toNat:Int) == 34) (cond (inb 0 (x5.length:Int)) (K x0 x1 x2 x3 x4 ((x5.getD (Int.toNat 0) 0).toNat:Int) 1) none) (cond (((x5.getD (Int.toNat 0) 0).toNat:Int) == 110) (K x0 x1 x2 x3 x4 10 1) (cond (((x5.getD (Int.toNat 0) 0).toNat:Int) == 116) (K x0 x1 x2 x3 x4 9 1) (cond (((x5.getD (Int.toNat 0) 0).toNat:Int) == 120) (cond (decide ((x5.length:Int)<3)) (wq13 k x0 x1 x2 x3 x4 3 (fun y10 y11 y12 y13 y14=>cond (inb 1 (x5.length:Int)) (cond (inb 2 (x5.length:Int)) (wq1u k [48,49,50,51,52,53,54,55,56,57,97,98,99,100,101,102] ((x5.getD (Int.toNat 1) 0).toNat:Int) (fun y15=>wq1u k [48,49,50,51,52,53,54,55,56,57,97,98,99,100,101,102] ((x5.getD (Int.toNat 2) 0).toNat:Int) (fun y16=>cond (cond (decide (y15<0)) true (decide (y16<0))) (wq13 k y10 y11 y12 y13 y14 3 (fun y17 y18 y19 y20 y21=>K y17 y18 y19 y20 y21 (@Go.IntKind.wrap Go.IntKind.u8 (@Go.IntKind.wrap Go.IntKind.i64 ((@Go.IntKind.wrap Go.IntKind.i64 ((16:Int)*y15))+y16))) 3) E) (K y10 y11 y12 y13 y14 (@Go.IntKind.wrap Go.IntKind.u8 (@Go.IntKind.wrap Go.IntKind.i64 ((@Go.IntKind.wrap Go.IntKind.i64 ((16:Int)*y15))+y16))) 3)))) none) none) E) (cond (inb 1 (x5.length:Int)) (cond (inb 2 (x5.length:Int)) (wq1u k [48,49,50,51,52,53,54,55,56,57,97,98,99,100,101,102] ((x5.getD (Int.toNat 1) 0).toNat:Int) (fun y10=>wq1u k [48,49,50,51,52,53,54,55,56,57,97,98,99,100,101,102] ((x5.getD (Int.toNat 2) 0).toNat:Int) (fun y11=>cond (cond (decide (y10<0)) true (decide (y11<0))) (wq13 k x0 x1 x2 x3 x4 3 (fun y12 y13 y14 y15 y16=>K y12 y13 y14 y15 y16 (@Go.IntKind.wrap Go.IntKind.u8 (@Go.IntKind.wrap Go.IntKind.i64 ((@Go.IntKind.wrap Go.IntKind.i64 ((16:Int)*y10))+y11))) 3) E) (K x0 x1 x2 x3 x4 (@Go.IntKind.wrap Go.IntKind.u8 (@Go.IntKind.wrap Go.IntKind.i64 ((@Go.IntKind.wrap Go.IntKind.i64 ((16:Int)*y10))+y11))) 3)))) none) none)) (wq13 k x0 x1 x2 x3 x4 3 (fun y10 y11 y12 y13 y14=>K y10 y11 y12 y13 y14 0 0) E)))))) none)
def wqb0(k:Nat){R:Type}(x0 x1:Int)(x2:(List UInt8))(x3:Int)(x4:(List dT156))(x5:(List UInt8))(K E:(Int→Int→(List UInt8)→Int→(List dT156)→Int→Int→Option R)): Option R:=wqnd k x0 x1 x2 x3 x4 x5 K E
theorem wqne(k:Nat): DOK Tryz.prog 255 (h_lex_lexer_taken.run (@wqb0 k)):=dok h_lex_lexer_taken (wqnc k) (fn:=Tryz.f255) (k:=k) (ok1 (wq6b k) (ok1 (wqcg k) ok0)) (by kernel_rfl) (by kernel_rfl) fun R=>by kernel_rfl
def wqnf(k:Nat): Ent:=h_lex_lexer_taken.e 255 (@wqb0 k)
end Go.Proofs.YtabkhphoacmcdaaGreatDoor.Pvm
set_option maxHeartbeats 2000000
set_option maxRecDepth 100000
namespace Go.Proofs.YtabkhphoacmcdaaGreatDoor.Pvm
open Go Go.Proofs Go.RowKit
theorem wqwo (b g cap:Nat) (p:Value) (l:List UInt8) (cur:Array Value) (w:World) (hbk:w.heap[b]? = some (.cells #[p,.slice (some ⟨g,0,none⟩) l.length cap] 89 (0,0))) (h0:l≠[])
 (hg:w.heap[g]? = some (.cells cur 5 (0,0))) (hnc:l.length≤cap) (hcm:cap≤maxLen) (hcs:cur.size=cap) (htake:∀(j:Nat) (x:UInt8),l[j]? = some x→w.cell? ⟨g,j,none⟩=some (.int .u8 x.toNat)) :
 Calls Tryz.prog 45 #[.pointer (some ⟨b,0,none⟩)] w fun e w'=>e = .returned (.string ⟨l.toArray⟩)∧w'=w.drew.freeze ⟨g,0,none⟩ l.length:=by
 have hl0:l.length≠0:=by simpa using h0
 have mixed:Tryz.prog.follows .mixedOrders=true:=by kernel_rfl
 have t86:Tryz.prog.underlying 140=some (.pointer 5):=by kernel_rfl
 have c1:w.drew.cell? ⟨b,1,none⟩=some (.slice (some ⟨g,0,none⟩) l.length cap):=by
  have:w.drew.heap[b]? = some (.cells #[p,.slice (some ⟨g,0,none⟩) l.length cap] 89 (0,0)):=hbk
  rw[Lib.cell_of_heap this];rfl
 have hSD:(Builtin.unsafeSliceData_ #[22] 140 #[.slice (some ⟨g,0,none⟩) l.length cap]).run Tryz.prog w.drew = .ok (.pointer (some ⟨g,0,none⟩)) w.drew :=
  Lib.run_unsafeSliceData_row _ _ _ _ _ _ (by omega)
 have hUS:(Builtin.unsafeString_ #[140,3] 9 #[.pointer (some ⟨g,0,none⟩),.int .i64 l.length]).run Tryz.prog w.drew = .ok (.string ⟨l.toArray⟩) (w.drew.freeze ⟨g,0,none⟩ l.length):=by
  refine Lib.run_unsafeString_row w.drew 140 3 9 5 t86 (by kernel_rfl) g cur.size (by have hg':w.drew.heap[g]? = some (.cells cur 5 (0,0)):=hg;simp[World.shape?,hg']) l h0 (by omega) (by unfold maxLen at hcm;omega) ?_
  intro j x hx
  have:=htake j x hx
  rw[show(⟨g,0,none⟩:Addr).add j=⟨g,j,none⟩ by simp[Addr.add];omega]
  exact this
 go_enter Tryz.func45,Tryz.ntmps45
 go_wp2
 go_region_o
 all_goals (go_wp2;go_ret;exact⟨rfl,rfl⟩)
theorem wq120(W:World)(q:Option Addr): (Builtin.unsafeString_ #[140,3] 9 #[.pointer q,.int .i64 0]).run Tryz.prog W = .ok (.string .empty) W :=
 Lib.run_unsafeString_none W _ _ _ q
theorem wq121(b:Nat)(p:Value)(w:World)(hbk:w.heap[b]? = some (.cells #[p,.slice none 0 0] 89 (0,0))):
 Calls Tryz.prog 45 #[.pointer (some ⟨b,0,none⟩)] w fun e w'=>e = .returned (.string ⟨#[]⟩)∧w'=w.drew:=by
 have hUS:=wq120
 have mixed:Tryz.prog.follows .mixedOrders=true:=by kernel_rfl
 have c1:w.drew.cell? ⟨b,1,none⟩=some (.slice none 0 0):=by
  have:w.drew.heap[b]? = some (.cells #[p,.slice none 0 0] 89 (0,0)):=hbk
  rw[Lib.cell_of_heap this];rfl
 have hSD:(Builtin.unsafeSliceData_ #[22] 140 #[.slice none 0 0]).run Tryz.prog w.drew = .ok (.pointer none) w.drew:=rfl
 go_enter Tryz.func45,Tryz.ntmps45
 go_wp2
 go_region_o
 all_goals (go_wp2;go_ret;exact⟨rfl,rfl⟩)
theorem wqzg(b g cap:Nat)(p:Value)(w:World)(hc0:cap≠0)(hbk:w.heap[b]? = some (.cells #[p,.slice (some ⟨g,0,none⟩) 0 cap] 89 (0,0))):
 Calls Tryz.prog 45 #[.pointer (some ⟨b,0,none⟩)] w fun e w'=>e = .returned (.string ⟨#[]⟩)∧w'=w.drew:=by
 have hUS:=wq120
 have mixed:Tryz.prog.follows .mixedOrders=true:=by kernel_rfl
 have c1:w.drew.cell? ⟨b,1,none⟩=some (.slice (some ⟨g,0,none⟩) 0 cap):=by
  have:w.drew.heap[b]? = some (.cells #[p,.slice (some ⟨g,0,none⟩) 0 cap] 89 (0,0)):=hbk
  rw[Lib.cell_of_heap this];rfl
 have hSD:(Builtin.unsafeSliceData_ #[22] 140 #[.slice (some ⟨g,0,none⟩) 0 cap]).run Tryz.prog w.drew = .ok (.pointer (some ⟨g,0,none⟩)) w.drew :=
  Lib.run_unsafeSliceData_row _ _ _ _ _ _ hc0
 clear hc0
 go_enter Tryz.func45,Tryz.ntmps45
 go_wp2
 go_region_o
 all_goals (go_wp2;go_ret;exact⟨rfl,rfl⟩)
theorem wquu(b g:Nat)(p:Value)(cur:Array Value)(w:World)(hbk:w.heap[b]? = some (.cells #[p,.slice (some ⟨g,0,none⟩) 0 0] 89 (0,0)))(hg:w.heap[g]? = some (.cells cur 5 (0,0))):
 Calls Tryz.prog 45 #[.pointer (some ⟨b,0,none⟩)] w fun e w'=>e = .returned (.string ⟨#[]⟩)∧∃ o,w'=(w.alloc o).drew:=by
 have hUS:=wq120
 have hlt:b<w.heap.size:=(Array.getElem?_eq_some_iff.1 hbk).1
 have mixed:Tryz.prog.follows .mixedOrders=true:=by kernel_rfl
 have c1:w.drew.cell? ⟨b,1,none⟩=some (.slice (some ⟨g,0,none⟩) 0 0):=by
  have:w.drew.heap[b]? = some (.cells #[p,.slice (some ⟨g,0,none⟩) 0 0] 89 (0,0)):=hbk
  rw[Lib.cell_of_heap this];rfl
 have hSD:(Builtin.unsafeSliceData_ #[22] 140 #[.slice (some ⟨g,0,none⟩) 0 0]).run Tryz.prog w.drew = .ok (.pointer (some ⟨w.drew.heap.size,0,none⟩)) (w.drew.alloc (.view ⟨g,0,none⟩ 5)) :=
  Lib.run_unsafeSliceData_zero w.drew _ _ 5 (by kernel_rfl) ⟨g,0,none⟩ 0 (5,cur.size) (by have hg':w.drew.heap[g]? = some (.cells cur 5 (0,0)):=hg;simp[World.shape?,hg'])
 have c2:(w.drew.alloc (.view ⟨g,0,none⟩ 5)).cell? ⟨b,1,none⟩=some (.slice (some ⟨g,0,none⟩) 0 0):=by
  have:(w.drew.alloc (.view ⟨g,0,none⟩ 5)).heap[b]? = _:=(Lib.alloc_old w.drew _ b hlt).trans hbk
  rw[Lib.cell_of_heap this];rfl
 have c3:(w.alloc (.view ⟨g,0,none⟩ 5)).drew.cell? ⟨b,1,none⟩=some (.slice (some ⟨g,0,none⟩) 0 0):=c2
 have c0:w.cell? ⟨b,1,none⟩=some (.slice (some ⟨g,0,none⟩) 0 0):=c1
 go_enter Tryz.func45,Tryz.ntmps45
 go_wp2
 go_region_o
 all_goals (go_wp2;go_ret;exact⟨rfl,_,rfl⟩)
def allB:List Int→Bool
 |[]=>true
 |x::r=>decide (0≤x)&&decide (x<256)&&allB r
def wq7s:List LS:=[.obj 1 [.nps 1 0,.own 21 5 (.int .u8)]]
def wq4e(k:Nat){R:Type}(x0:List Int)(K:List Int→List UInt8→Option R): Option R:=bif allB x0 then K x0 (wq3z x0)else none
def wq3v(k:Nat){R:Type}: List PV→List (Nm×HObj)→(Out→Option R)→Option R
 |[.ptr 1 0],[(21,.row 5 (.int .u8) x0),(1,.var 89 [.nps 1 0,.row 21])],K=>wq4e k x0 (fun y0 y1=>K (.ret [.v .str y1] [(1,.var 89 [.nps 1 0,.v (.sl (.int .u8)) y0])]))
 |_,_,_=>none
theorem wqao(vs:Array Value)(w:World): (callFunc 45 vs).run Tryz.prog w = .ok (.enter 45 vs) w:=by
 have h1:Tryz.prog.funcs[45]? = some Tryz.f45:=by kernel_rfl
 have h2:(Tryz.f45.name == "runtime.NumGoroutine")=false:=by kernel_rfl
 have h3:Tryz.f45.body.isNone=false:=by kernel_rfl
 unfold callFunc
 rw[Sem.run_bind]
 have e2:(program).run Tryz.prog w = .ok Tryz.prog w:=rfl
 rw[e2,Result.andThen_ok,h1]
 simp only[h2,h3,Bool.false_eq_true,if_false]
 rfl
theorem wq13s:∀ {l:List Int},allB l=true→∀(i:Nat) (y:Int),l[i]? = some y→0≤y∧y<256
 |[],_,i,y,h=>by simp at h
 |x::r,hb,0,y,h=>by
  simp only[allB,Bool.and_eq_true,decide_eq_true_eq]at hb
  simp at h;subst h;exact hb.1
 |x::r,hb,i+1,y,h=>by
  simp only[allB,Bool.and_eq_true]at hb
  exact wq13s hb.2 i y (by simpa using h)
theorem wqwp {G:Gh} {w w':World} {x0:List Int} {HP:List (Nm×HObj)} (hHP:HP=[(21,.row 5 (.int .u8) x0),(1,.var 89 [.nps 1 0,.row 21])])
 (obj:∀ n o,mkH HP n=some o→RO (mkH HP) G w n o) (dis:Dis (mkH HP) G w) (hblk:∀ b,b<w.heap.size→(∀ g,(G.rv 21).ownBlock=some g→b≠g)→w'.heap[b]? = w.heap[b]?)
 (hcell:∀ g o,(G.rv 21).ownBlock=some g→w'.cell? ⟨g,o,none⟩=w.cell? ⟨g,o,none⟩) (grow:w.heap.size≤w'.heap.size) (os:w'.os=w.os) (tape:w'.tape=w.tape) (out:w'.output=w.output) :
 Fin HP [(1,.var 89 [.nps 1 0,.v (.sl (.int .u8)) x0])] G w G w':=by
 have l1:mkH HP 1=some (.var 89 [.nps 1 0,.row 21]):=by subst hHP;rfl
 have l2:mkH HP 21=some (.row 5 (.int .u8) x0):=by subst hHP;rfl
 generalize hHS:[((1:Nm),HObj.var 89 [.nps 1 0,.v (.sl (.int .u8)) x0])]=HS
 have m1:mkH HS 1=some (.var 89 [.nps 1 0,.v (.sl (.int .u8)) x0]):=by subst hHS;rfl
 have mo:∀ n o,mkH HS n=some o→n=1:=by
  intro n o h
  subst hHS
  simp only[mkH,look]at h
  cases hb:Nat.beq 1 n with
  |true=>exact(Nat.eq_of_beq_eq_true hb).symm
  |false=>rw[hb]at h;cases h
 have bk1:blkOf (mkH HP) G 1=some (G.bk 1):=by simp[blkOf,l1]
 have bk2:blkOf (mkH HP) G 21=(G.rv 21).ownBlock:=by simp[blkOf,l2]
 have ck1:blkOf (mkH HS) G 1=some (G.bk 1):=by simp[blkOf,m1]
 have ck:∀ n b,blkOf (mkH HS) G n=some b→n=1∧b=G.bk 1:=by
  intro n b h
  cases hn:mkH HS n with
  |none=>simp[blkOf,hn]at h
  |some o=>have:=mo n o hn;subst this;rw[ck1]at h;cases h;exact⟨rfl,rfl⟩
 have hne:∀ g,(G.rv 21).ownBlock=some g→G.bk 1≠g:=fun g hg e=>by
  have:=dis.inj 1 21 g (by rw[bk1,e]) (by rw[bk2,hg])
  cases this
 obtain⟨vs,hw,q1,t1,rfl,hq1,q2,t2,rfl,hq2,rfl⟩:=obj 1 _ l1
 obtain⟨rfl,_⟩:=hq2
 have hlt:G.bk 1<w.heap.size:=(Array.getElem?_eq_some_iff.1 hw).1
 have hw':w'.heap[G.bk 1]? = some (.cells [q1,G.rv 21].toArray 89 (0,0)):=by rw[hblk _ hlt hne];exact hw
 have hdat:RD w' (okB (mkH HS) G) (.sl (.int .u8)) x0 [G.rv 21]:=by
  have hro:=obj 21 _ l2
  obtain⟨us,hown,hr,_⟩:=hro
  rcases hown.2 with⟨hv,hn⟩|⟨g,cap,cur,hv,_,hgb,hnc,hcm,hcs,_⟩
  ·exact⟨none,0,by rw[hv,hn],by omega,.inl (List.eq_nil_of_length_eq_zero hn)⟩
  ·have hgo:(G.rv 21).ownBlock=some g:=by rw[hv];rfl
   refine⟨_,cap,by rw[hv],hnc,.inr ⟨_,rfl,?_,?_,?_⟩⟩
   ·refine⟨fun n hn => ?_,fun hx=>dis.xo 21 g (by rw[bk2,hgo]) hx⟩
    obtain⟨_,e⟩:=ck n g hn
    exact hne g hgo e.symm
   ·have:g<w.heap.size:=(Array.getElem?_eq_some_iff.1 hgb).1
    exact Nat.lt_of_lt_of_le this grow
   ·intro i y hy
    obtain⟨c,hc,hu⟩:=hr.get i y hy
    refine⟨c,hc,fun j u hj => ?_⟩
    have:=hown.cells hgo _ _ (hu j u hj)
    rw[Addr.add_lit]at this ⊢
    rw[hcell g _ hgo]
    exact this
 refine⟨fun n o hn => ?_,fun n m b h1 h2=>(ck n b h1).1.trans (ck m b h2).1.symm,fun n t cs hn o ho => ?_,fun n ag V es hn o ho=>(wqiz (by rw[hHP];rfl) hn).elim,fun b hb hf=>hblk b hb fun g hg e=>hf 21 (by rw[bk2,hg,e]),rfl,fun n b hn => .inl ⟨1,by rw[(ck n b hn).2];exact bk1⟩,grow,os,tape,out⟩
 ·have:=mo n o hn;subst this
  rw[m1]at hn;cases hn
  refine⟨_,hw',_,_,rfl,?_,_,_,rfl,hdat,rfl⟩
  rcases hq1 with h|⟨h,_⟩
  ·exact .inl h
  ·exact .inr ⟨h,_,_,m1⟩
 ·have e1:=mo n o ho
  subst e1
  have e2:mkH HS 1=some o:=ho
  have e3:mkH HP 1=some (.var t cs):=hn
  rw[m1]at e2;rw[l1]at e3;cases e2;cases e3
  exact⟨⟨_,rfl⟩,rfl⟩
theorem wq9b(k:Nat){ps:List PV}{hp:List (Nm×HObj)}{R:Type}{K:Out→Option R}{r:R}(h:wq3v k ps hp K=some r): DoesTo Tryz.prog 45 ps hp fun out=>K out=some r:=by
 unfold wq3v at h
 split at h
 ·next x0 =>
  intro G w vals hr obj dis
  unfold wq4e at h
  cases hb:allB x0 with
  |false=>rw[hb]at h;cases h
  |true =>
   rw[hb,cond_true]at h
   obtain⟨v0,l0,rfl,h0,rfl⟩:=hr
   obtain⟨rfl,_⟩:=h0
   generalize hHP:[(21,HObj.row 5 (.int .u8) x0),(1,.var 89 [.nps 1 0,.row 21])]=HP at *
   have l1:mkH HP 1=some (.var 89 [.nps 1 0,.row 21]):=by subst hHP;rfl
   have l2:mkH HP 21=some (.row 5 (.int .u8) x0):=by subst hHP;rfl
   show Does _ _ #[_] _ _
   unfold Does
   rw[wqao]
   obtain⟨vs,hw,q1,t1,rfl,hq1,q2,t2,rfl,hq2,rfl⟩:=obj 1 _ l1
   obtain⟨rfl,_⟩:=hq2
   have hro:=obj 21 _ l2
   obtain⟨us,hown,hrd,_⟩:=hro
   have fin:∀ {e:Ending} {w':World},e = .returned (.string ⟨(wq3z x0).toArray⟩)→(∀ b,b<w.heap.size→(∀ g,(G.rv 21).ownBlock=some g→b≠g)→w'.heap[b]? = w.heap[b]?)→(∀ g o,(G.rv 21).ownBlock=some g→w'.cell? ⟨g,o,none⟩=w.cell? ⟨g,o,none⟩)→w.heap.size≤w'.heap.size→w'.os=w.os→w'.tape=w.tape→w'.output=w.output →
    ∃ out,K out=some r∧∃ G',OutIs G' w' e out∧Fin HP out.hs G w G' w':=by
    intro e w' he h1 h2 h3 h4 h5 h6
    exact⟨_,h,G,⟨_,he,rfl⟩,wqwp hHP.symm obj dis h1 h2 h3 h4 h5 h6⟩
   rcases hown.2 with⟨hv,hn⟩|⟨g,cap,cur,hv,_,hgb,hnc,hcm,hcs,htk⟩
   ·have hx:x0=[]:=List.eq_nil_of_length_eq_zero hn
    subst hx
    rw[hv]at hw
    refine Calls.mono (wq121 (G.bk 1) q1 w hw) fun e w' hh => ?_
    obtain⟨rfl,rfl⟩:=hh
    exact fin rfl (fun _ _ _=>rfl) (fun _ _ _=>rfl) (Nat.le_refl _) rfl rfl rfl
   ·have hgo:(G.rv 21).ownBlock=some g:=by rw[hv];rfl
    rw[hv]at hw
    by_cases hx:x0=[]
    ·subst hx
     by_cases hc0:cap=0
     ·subst hc0
      refine Calls.mono (wquu (G.bk 1) g q1 cur w hw hgb) fun e w' hh => ?_
      obtain⟨rfl,o,rfl⟩:=hh
      have hold:∀ b,b<w.heap.size→(w.alloc o).drew.heap[b]? = w.heap[b]? := fun b hb=>Lib.alloc_old w _ b hb
      refine fin rfl (fun b hb _=>hold b hb) (fun g' o' hg' => ?_) (by have:=World.size_alloc w o;show _≤(w.alloc o).heap.size;omega) rfl rfl rfl
      rw[hgo]at hg';cases hg'
      exact World.cell?_of_block (hold g (Array.getElem?_eq_some_iff.1 hgb).1)
     ·refine Calls.mono (wqzg (G.bk 1) g cap q1 w hc0 hw) fun e w' hh => ?_
      obtain⟨rfl,rfl⟩:=hh
      exact fin rfl (fun _ _ _=>rfl) (fun _ _ _=>rfl) (Nat.le_refl _) rfl rfl rfl
    ·have hlen:(wq3z x0).length=x0.length:=by simp[wq3z]
     have hbytes:∀(j:Nat) (x:UInt8),(wq3z x0)[j]? = some x→w.cell? ⟨g,j,none⟩=some (.int .u8 x.toNat):=by
      intro j x hj
      have hjl:j<x0.length:=by rw[←hlen];exact(List.getElem?_eq_some_iff.1 hj).1
      have hy:x0[j]? = some x0[j]:=by simp[hjl]
      obtain⟨c,hc,hu⟩:=hrd.get j _ hy
      have hc:c=[.int .u8 x0[j]]:=hc
      have h9:=hown.cells hgo _ _ (hu 0 (.int .u8 x0[j]) (by rw[hc];rfl))
      rw[Addr.add_lit]at h9
      have hj2:x=UInt8.ofNat (x0[j]).toNat:=by
       simp only[wq3z,List.getElem?_map,hy,Option.map_some,Option.some.injEq]at hj
       exact hj.symm
      obtain⟨h10,h11⟩:=wq13s hb j _ hy
      have:((x.toNat:Nat):Int)=x0[j]:=by
       rw[hj2,UInt8.toNat_ofNat']
       omega
      rw[this]
      have e0:0+(j*Kd.sz (.int .u8)+0)=j:=by simp[Kd.sz]
      rw[e0]at h9
      exact h9
     rw[←hlen]at hw
     have hne:wq3z x0≠[]:=by intro e;rw[e]at hlen;exact hx (List.eq_nil_of_length_eq_zero hlen.symm)
     refine Calls.mono (wqwo (G.bk 1) g cap q1 (wq3z x0) cur w hw hne hgb (by omega) hcm (by simpa [Kd.sz]using hcs) hbytes) fun e w' hh => ?_
     obtain⟨rfl,rfl⟩:=hh
     have hfz:∀ b,b≠g→(w.drew.freeze ⟨g,0,none⟩ (wq3z x0).length).heap[b]? = w.heap[b]? := by
      intro b hb
      unfold World.freeze
      split
      ·rfl
      ·show(w.heap.modify g _)[b]? = _
       rw[Array.getElem?_modify,if_neg (Ne.symm hb)]
     refine fin rfl (fun b _ hb=>hfz b (hb g hgo)) (fun g' o' hg' => ?_) ?_ ?_ ?_ ?_
     ·rw[hgo]at hg';cases hg'
      unfold World.freeze
      split
      ·rfl
      ·simp only[World.cell?,World.drew,Array.getElem?_modify,if_true,hgb,Option.map_some]
     all_goals
      unfold World.freeze
      split
      ·first|rfl|exact Nat.le_refl _
      ·first|rfl|(show w.heap.size≤(w.heap.modify g _).size;rw[Array.size_modify];exact Nat.le_refl _)
 ·cases h
end Go.Proofs.YtabkhphoacmcdaaGreatDoor.Pvm
set_option maxHeartbeats 1000000
namespace Go.Proofs.YtabkhphoacmcdaaGreatDoor.Pvm
open Go Go.Proofs Go.RowKit
theorem wqt9(b:Nat)(w:World)(h0:w.cell? ⟨b,0,none⟩=some (.pointer (some ⟨b,0,none⟩))):
 Calls Tryz.prog 89 #[.pointer (some ⟨b,0,none⟩)] w fun e w'=>e = .returned (.tuple #[])∧w'=w:=by
 have t76:Tryz.prog.underlying 87=some (.pointer 89):=by kernel_rfl
 have hs:(Tryz.prog.info? 89).isSome=true:=by kernel_rfl
 obtain⟨j,hj⟩:=Option.isSome_iff_exists.1 hs
 go_enter Tryz.func89,Tryz.ntmps89
 go_wp2
 rw[Lib.run_neq_ptr_same w _ t76 hj]
 go_wp2
 go_end0
 exact⟨rfl,rfl⟩
theorem wqqq(b:Nat)(w:World)(h0:w.cell? ⟨b,0,none⟩=some (.pointer none))(hsh:w.shape? b=some (89,2))(hfz:w.frozen? ⟨b,0,none⟩=false):
 Calls Tryz.prog 89 #[.pointer (some ⟨b,0,none⟩)] w fun e w'=>e = .returned (.tuple #[])∧w'=w.setCell ⟨b,0,none⟩ (.pointer (some ⟨b,0,none⟩)):=by
 have t76:Tryz.prog.underlying 87=some (.pointer 89):=by kernel_rfl
 have t89:Tryz.prog.underlying 184=some .unsafePointer:=by kernel_rfl
 have hs:(Tryz.prog.info? 89).map (·.size)=some 2:=by kernel_rfl
 obtain⟨j,hj,hjs⟩:=Option.map_eq_some_iff.1 hs
 have hlies:liesAt Tryz.prog Tryz.prog.depth 89 (2 / Tryz.prog.cellsOf 89) 0 89 1=true:=by kernel_rfl
 go_enter Tryz.func89,Tryz.ntmps89
 go_wp2
 rw[Lib.run_to_unsafe w ⟨b,0,none⟩ t76 t89 hj (by rw[hjs];decide) hsh (Nat.zero_lt_succ 1)]
 simp only[Result.andThen]
 rw[Oper.upon_value]
 go_wp2
 rw[run_callFunc_extern Tryz.func137 (by kernel_rfl) (by kernel_rfl) (by kernel_rfl) (e:=Extern.AbiNoEscape.same) (by kernel_rfl)]
 rw[Lib.run_noEscape]
 simp only[Result.andThen]
 rw[Oper.upon_value]
 go_wp2
 rw[Lib.run_from_unsafe w ⟨b,0,none⟩ t89 t76 hj hsh hlies]
 simp only[Result.andThen]
 rw[Oper.upon_value]
 go_wp2
 go_end0
 exact⟨rfl,rfl⟩
end Go.Proofs.YtabkhphoacmcdaaGreatDoor.Pvm
set_option maxRecDepth 1000000
namespace Go.Proofs.YtabkhphoacmcdaaGreatDoor.Pvm
open Go Go.Proofs
def wqbh:List LS:=[.obj 1 [.nps 1 0,.own 21 5 (.int .u8)]]
def wq7f(k:Nat){R:Type}(x0:List Int)(K:List Int→Option R): Option R:=K x0
def wq4f(k:Nat){R:Type}: List PV→List (Nm×HObj)→(Out→Option R)→Option R
 |[.ptr 1 0],[(21,.row 5 (.int .u8) x0),(1,.var 89 [.nps 1 0,.row 21])],K=>wq7f k x0 (fun y0=>K (.ret [] [(21,.row 5 (.int .u8) y0),(1,.var 89 [.nps 1 0,.row 21])]))
 |_,_,_=>none
theorem wq9c(vs:Array Value)(w:World): (callFunc 89 vs).run Tryz.prog w = .ok (.enter 89 vs) w:=by
 have h1:Tryz.prog.funcs[89]? = some Tryz.f89:=by kernel_rfl
 have h2:(Tryz.f89.name == "runtime.NumGoroutine")=false:=by kernel_rfl
 have h3:Tryz.f89.body.isNone=false:=by kernel_rfl
 unfold callFunc
 rw[Sem.run_bind]
 have e2:(program).run Tryz.prog w = .ok Tryz.prog w:=rfl
 rw[e2,Result.andThen_ok,h1]
 simp only[h2,h3,Bool.false_eq_true,if_false]
 rfl
theorem wqc9(k:Nat){ps:List PV}{hp:List (Nm×HObj)}{R:Type}{K:Out→Option R}{r:R}(h:wq4f k ps hp K=some r): DoesTo Tryz.prog 89 ps hp fun out=>K out=some r:=by
 unfold wq4f at h
 split at h
 ·next x0 =>
  intro G w vals hr obj dis
  obtain⟨v0,l0,rfl,h0,rfl⟩:=hr
  obtain⟨rfl,_⟩:=h0
  generalize hHP:[(21,HObj.row 5 (.int .u8) x0),(1,.var 89 [.nps 1 0,.row 21])]=HP at *
  have hK:K (.ret [] HP)=some r:=by subst hHP;exact h
  have l1:mkH HP 1=some (.var 89 [.nps 1 0,.row 21]):=by subst hHP;rfl
  have hob:=obj 1 _ l1
  obtain⟨vs,hw,q1,t1,rfl,hq1,q2,t2,rfl,hq2,rfl⟩:=hob
  show Does _ _ #[_] _ _
  unfold Does
  rw[wq9c]
  have hcell:w.cell? ⟨G.bk 1,0,none⟩=some q1:=by simp[World.cell?,hw]
  have hlt:G.bk 1<w.heap.size:=(Array.getElem?_eq_some_iff.1 hw).1
  rcases hq1 with rfl|⟨rfl,_⟩
  ·refine Calls.mono (wqqq (G.bk 1) w hcell (by simp[World.shape?,hw]) (by simp[World.frozen?,hw])) fun e w' hh => ?_
   obtain⟨rfl,rfl⟩:=hh
   have oth:∀ b,b≠G.bk 1→(w.setCell ⟨G.bk 1,0,none⟩ (.pointer (some ⟨G.bk 1,0,none⟩))).heap[b]? = w.heap[b]? := fun b hb=>Go.Deep.blk_setCell_other w _ _ b hb
   have bk1:blkOf (mkH HP) G 1=some (G.bk 1):=by simp[blkOf,l1]
   have C:Carry (mkH HP) G w (mkH HP) G (w.setCell ⟨G.bk 1,0,none⟩ (.pointer (some ⟨G.bk 1,0,none⟩))) .row :=
    ⟨fun b ho _=>⟨ho,oth b fun e=>ho.1 1 (by rw[bk1,e])⟩,fun n t cs hn=>⟨⟨cs,hn⟩,rfl⟩,fun n ag V es hn=>⟨⟨es,hn⟩,rfl⟩,fun b hx _=>⟨.inr hx,oth b fun e=>dis.xo 1 b (by rw[bk1,e]) hx⟩,fun n e K xs hn=>⟨⟨rfl,e,K,xs,hn⟩,fun m hm=>by cases hm;exact⟨e,xs,hn,Nat.le_refl _⟩⟩⟩
   have hq2':=RV.carry C _ _ hq2
   refine⟨.ret [] HP,hK,G,⟨_,rfl,⟨[],rfl,rfl⟩⟩,⟨fun n o hn => ?_,dis.inj,fun n t cs hn o ho => ?_,fun n ag V es hn o ho=>(wqiz (by rw[←hHP];rfl) hn).elim,fun b hb hf=>oth b fun e=>hf 1 (by rw[bk1,e]),rfl,fun n b hb => .inl ⟨n,hb⟩,by simp[World.setCell],rfl,rfl,rfl⟩⟩
   ·by_cases hn1:n=1
    ·subst hn1
     rw[show mkH (Out.hs (.ret [] HP)) 1=some (.var 89 [.nps 1 0,.row 21])from l1]at hn
     cases hn
     refine⟨[.pointer (some ⟨G.bk 1,0,none⟩),q2],?_,_,_,rfl,.inr ⟨rfl,89,_,l1⟩,_,_,rfl,hq2',rfl⟩
     have hw2:=(Array.getElem?_eq_some_iff.1 hw).2
     simp only[World.setCell,Array.getElem?_modify,if_pos,hw]
     simp
    ·have hne:∀ b,blkOf (mkH HP) G n=some b→b≠G.bk 1:=fun b hb e=>hn1 (dis.inj n 1 b hb (by rw[bk1,e]))
     have:=RO.carry C hn (obj n o hn) (fun b hb=>oth b (hne b hb)) rfl rfl
     rwa [wqcq]at this
   ·have e1:look HP n=some o:=ho
    rw[hn]at e1;cases e1
    exact⟨⟨cs,rfl⟩,rfl⟩
  ·refine Calls.mono (wqt9 (G.bk 1) w hcell) fun e w' hh => ?_
   obtain⟨rfl,rfl⟩:=hh
   refine⟨.ret [] HP,hK,G,⟨_,rfl,⟨[],rfl,rfl⟩⟩,⟨obj,dis.inj,fun n t cs hn o ho => ?_,fun n ag V es hn o ho=>(wqiz (by rw[←hHP];rfl) hn).elim,fun _ _ _=>rfl,rfl,fun n b hb => .inl ⟨n,hb⟩,Nat.le_refl _,rfl,rfl,rfl⟩⟩
   have e1:look HP n=some o:=ho
   rw[hn]at e1;cases e1
   exact⟨⟨cs,rfl⟩,rfl⟩
 ·cases h
end Go.Proofs.YtabkhphoacmcdaaGreatDoor.Pvm
set_option maxHeartbeats 0
namespace Go.Proofs.YtabkhphoacmcdaaGreatDoor.Pvm
open Go Go.Proofs
def h_strings_Builder_WriteByte:Sh:=⟨[.o 1 89 0 [.p 1 0,.w 21 5 (.int .u8)],.a (.int .u8)],some ([.o 1 89 0 [.p 1 0,.w 21 5 (.int .u8)]],[.ni]),none⟩
def wqca(k:Nat): Cxt:=⟨[⟨89,wqbh,wq4f k⟩],[1],[],[]⟩
def wqcb(k:Nat){R:Type}(x0:(List Int))(x1:Int)(K:((List Int)→Option R)): Option R:=wq7f k x0 (fun y5=>cond (fits y5.length (@List.length (@Kd.T (@Kd.int Go.IntKind.u8)) [x1]) 1) (K (y5++[x1])) none)
def wq2k(k:Nat){R:Type}(x0:(List Int))(x1:Int)(K:((List Int)→Option R)): Option R:=wqcb k x0 x1 K
theorem wq7g(k:Nat): DOK Tryz.prog 254 (h_strings_Builder_WriteByte.run (@wq2k k)):=dok h_strings_Builder_WriteByte (wqca k) (fn:=Tryz.f254) (k:=k) (ok1 (fun _ _ _ _ _ h=>wqc9 k h) ok0) (by kernel_rfl) (by kernel_rfl) fun R=>by kernel_rfl
def wq7h(k:Nat): Ent:=h_strings_Builder_WriteByte.e 254 (@wq2k k)
def h_lex_lexer_double:Sh:=⟨[.o 1 200 0 [.a kI,.a kI,.a .str,.a kI,.w 21 157 kdT156],.a .str],some ([.o 1 200 0 [.a kI,.a kI,.a .str,.a kI,.w 21 157 kdT156]],[.a .str,.a kI]),some ([.o 1 200 0 [.a kI,.a kI,.a .str,.a kI,.w 21 157 kdT156]],[.i 29 (.g [.a kI,.a kI])])⟩
def u_lex_lexer_double_1003:Cu:=⟨1,[0,1,6,7],[.o 1 200 0 [.a kI,.a kI,.a .str,.a kI,.w 21 157 kdT156],.r 1 0,.a .str,.o 16 89 0 [.p 16 0,.w 36 5 (.int .u8)],.a kI]⟩
def wqdb(k:Nat): Cxt:=⟨[⟨45,wq7s,wq3v k⟩,wqaz k,wq7h k,wqnf k],[1],[(1003,u_lex_lexer_double_1003.spec)],[]⟩
def wq9p(k:Nat){R:Type}(E1003:(Int→Int→(List UInt8)→Int→(List dT156)→(List UInt8)→(List Int)→Int→Option R))(s0 s1:Int)(s2:(List UInt8))(s3:Int)(s4:(List dT156))(s5:(List UInt8))(s6:(List Int))(s7:Int)(K:(Int→Int→(List UInt8)→Int→(List dT156)→(List UInt8)→Int→Option R))(E:(Int→Int→(List UInt8)→Int→(List dT156)→Int→Int→Option R)): Option R:=cond (decide (s7<(s5.length:Int))) (cond (inb s7 (s5.length:Int)) (cond (((s5.getD s7.toNat 0).toNat:Int) == 34) (wq4e k s6 (fun y13 y14=>K s0 s1 s2 s3 s4 y14 (@Go.IntKind.wrap Go.IntKind.i64 (s7+1)))) (cond (((s5.getD s7.toNat 0).toNat:Int) == 92) (cond (bnd (@Go.IntKind.wrap Go.IntKind.i64 (s7+1)) (s5.length:Int) (s5.length:Int)) (wqb0 k s0 s1 s2 s3 s4 (cut s5 (@Go.IntKind.wrap Go.IntKind.i64 (s7+1)) (s5.length:Int)) (fun y13 y14 y15 y16 y17 y18 y19=>wq2k k s6 y18 (fun y20=>E1003 y13 y14 y15 y16 y17 s5 y20 (@Go.IntKind.wrap Go.IntKind.i64 ((@Go.IntKind.wrap Go.IntKind.i64 (s7+y19))+1)))) E) none) (cond (inb s7 (s5.length:Int)) (wq2k k s6 ((s5.getD s7.toNat 0).toNat:Int) (fun y13=>E1003 s0 s1 s2 s3 s4 s5 y13 (@Go.IntKind.wrap Go.IntKind.i64 (s7+1)))) none))) none) (wq13 k s0 s1 s2 s3 s4 3 (fun y13 y14 y15 y16 y17=>K y13 y14 y15 y16 y17 [] 0) E)
def wqdc(k:Nat){R:Type}(E1003:(Int→Int→(List UInt8)→Int→(List dT156)→(List UInt8)→(List Int)→Int→Option R))(x0 x1:Int)(x2:(List UInt8))(x3:Int)(x4:(List dT156))(x5:(List UInt8))(K:(Int→Int→(List UInt8)→Int→(List dT156)→(List UInt8)→Int→Option R))(E:(Int→Int→(List UInt8)→Int→(List dT156)→Int→Int→Option R)): Option R:=E1003 x0 x1 x2 x3 x4 x5 [] 1
def wq4v(k:Nat){R:Type}: Nat→Int→Int→(List UInt8)→Int→(List dT156)→(List UInt8)→(List Int)→Int→(Int→Int→(List UInt8)→Int→(List dT156)→(List UInt8)→Int→Option R)→(Int→Int→(List UInt8)→Int→(List dT156)→Int→Int→Option R)→Option R
 |0,_,_,_,_,_,_,_,_,_,_=>none
 |n+1,s0,s1,s2,s3,s4,s5,s6,s7,K,E=>wq9p k (fun s0 s1 s2 s3 s4 s5 s6 s7=>wq4v k n s0 s1 s2 s3 s4 s5 s6 s7 K E) s0 s1 s2 s3 s4 s5 s6 s7 K E
theorem wqcu(k:Nat){R:Type}: ∀(I:Nat→St→Option R) (n:Nat),h_lex_lexer_double.lp u_lex_lexer_double_1003 (wqdb k).cx k Tryz.f230 1003 [1,1,0,1,0] I n=wq4v k n:=h_lex_lexer_double.lok u_lex_lexer_double_1003 (B:=wq9p k) (L:=wq4v k) (fun I=>by kernel_rfl) (fun I=>by kernel_rfl) (fun n=>by kernel_rfl) (fun _ _ _ _=>rfl)
def wq74(k:Nat){R:Type}(x0 x1:Int)(x2:(List UInt8))(x3:Int)(x4:(List dT156))(x5:(List UInt8))(K:(Int→Int→(List UInt8)→Int→(List dT156)→(List UInt8)→Int→Option R))(E:(Int→Int→(List UInt8)→Int→(List dT156)→Int→Int→Option R)): Option R:=wqdc k (fun s0 s1 s2 s3 s4 s5 s6 s7=>wq4v k k s0 s1 s2 s3 s4 s5 s6 s7 K E) x0 x1 x2 x3 x4 x5 K E
theorem wql2(k:Nat): DOK Tryz.prog 230 (h_lex_lexer_double.run (@wq74 k)):=dok h_lex_lexer_double (wqdb k) (fn:=Tryz.f230) (k:=k) (ok1 (fun _ _ _ _ _ h=>wq9b k h) (ok1 (wq6b k) (ok1 (wq7g k) (ok1 (wqne k) ok0)))) (by kernel_rfl) (by kernel_rfl) fun R=>h_lex_lexer_double.f1 u_lex_lexer_double_1003 (wqdc k) (by kernel_rfl) (wqcu k (fun _ _=>none) k) (by kernel_rfl)
def h_lex_lexer_single:Sh:=⟨[.o 1 200 0 [.a kI,.a kI,.a .str,.a kI,.w 21 157 kdT156],.a .str],some ([.o 1 200 0 [.a kI,.a kI,.a .str,.a kI,.w 21 157 kdT156]],[.a .str,.a kI]),some ([.o 1 200 0 [.a kI,.a kI,.a .str,.a kI,.w 21 157 kdT156]],[.i 29 (.g [.a kI,.a kI])])⟩
def u_lex_lexer_single_1003:Cu:=⟨1,[0,1,6,7],[.o 1 200 0 [.a kI,.a kI,.a .str,.a kI,.w 21 157 kdT156],.r 1 0,.a .str,.o 16 89 0 [.p 16 0,.w 36 5 (.int .u8)],.a kI]⟩
def wqdd(k:Nat): Cxt:=⟨[⟨45,wq7s,wq3v k⟩,wqaz k,wq7h k],[1],[(1003,u_lex_lexer_single_1003.spec)],[]⟩
def wq9q(k:Nat){R:Type}(E1003:(Int→Int→(List UInt8)→Int→(List dT156)→(List UInt8)→(List Int)→Int→Option R))(s0 s1:Int)(s2:(List UInt8))(s3:Int)(s4:(List dT156))(s5:(List UInt8))(s6:(List Int))(s7:Int)(K:(Int→Int→(List UInt8)→Int→(List dT156)→(List UInt8)→Int→Option R))(E:(Int→Int→(List UInt8)→Int→(List dT156)→Int→Int→Option R)): Option R:=cond (decide (s7<(s5.length:Int))) (cond (inb s7 (s5.length:Int)) (cond (((s5.getD s7.toNat 0).toNat:Int) != 39) (cond (inb s7 (s5.length:Int)) (wq2k k s6 ((s5.getD s7.toNat 0).toNat:Int) (fun y13=>E1003 s0 s1 s2 s3 s4 s5 y13 (@Go.IntKind.wrap Go.IntKind.i64 (s7+1)))) none) (cond ((!((decide ((@Go.IntKind.wrap Go.IntKind.i64 (s7+1))≥(s5.length:Int))) == false)) || (inb (@Go.IntKind.wrap Go.IntKind.i64 (s7+1)) (s5.length:Int))) (cond (cond (decide ((@Go.IntKind.wrap Go.IntKind.i64 (s7+1))≥(s5.length:Int))) true (((s5.getD (@Go.IntKind.wrap Go.IntKind.i64 (s7+1)).toNat 0).toNat:Int) != 39)) (wq4e k s6 (fun y13 y14=>K s0 s1 s2 s3 s4 y14 (@Go.IntKind.wrap Go.IntKind.i64 (s7+1)))) (wq2k k s6 39 (fun y13=>E1003 s0 s1 s2 s3 s4 s5 y13 (@Go.IntKind.wrap Go.IntKind.i64 ((@Go.IntKind.wrap Go.IntKind.i64 (s7+1))+1))))) none)) none) (wq13 k s0 s1 s2 s3 s4 3 (fun y13 y14 y15 y16 y17=>K y13 y14 y15 y16 y17 [] 0) E)
def wqde(k:Nat){R:Type}(E1003:(Int→Int→(List UInt8)→Int→(List dT156)→(List UInt8)→(List Int)→Int→Option R))(x0 x1:Int)(x2:(List UInt8))(x3:Int)(x4:(List dT156))(x5:(List UInt8))(K:(Int→Int→(List UInt8)→Int→(List dT156)→(List UInt8)→Int→Option R))(E:(Int→Int→(List UInt8)→Int→(List dT156)→Int→Int→Option R)): Option R:=E1003 x0 x1 x2 x3 x4 x5 [] 1
def wq4w(k:Nat){R:Type}: Nat→Int→Int→(List UInt8)→Int→(List dT156)→(List UInt8)→(List Int)→Int→(Int→Int→(List UInt8)→Int→(List dT156)→(List UInt8)→Int→Option R)→(Int→Int→(List UInt8)→Int→(List dT156)→Int→Int→Option R)→Option R
 |0,_,_,_,_,_,_,_,_,_,_=>none
 |n+1,s0,s1,s2,s3,s4,s5,s6,s7,K,E=>wq9q k (fun s0 s1 s2 s3 s4 s5 s6 s7=>wq4w k n s0 s1 s2 s3 s4 s5 s6 s7 K E) s0 s1 s2 s3 s4 s5 s6 s7 K E
theorem wqcv(k:Nat){R:Type}: ∀(I:Nat→St→Option R) (n:Nat),h_lex_lexer_single.lp u_lex_lexer_single_1003 (wqdd k).cx k Tryz.f229 1003 [1,1,0,1,0] I n=wq4w k n:=h_lex_lexer_single.lok u_lex_lexer_single_1003 (B:=wq9q k) (L:=wq4w k) (fun I=>by kernel_rfl) (fun I=>by kernel_rfl) (fun n=>by kernel_rfl) (fun _ _ _ _=>rfl)
def wq75(k:Nat){R:Type}(x0 x1:Int)(x2:(List UInt8))(x3:Int)(x4:(List dT156))(x5:(List UInt8))(K:(Int→Int→(List UInt8)→Int→(List dT156)→(List UInt8)→Int→Option R))(E:(Int→Int→(List UInt8)→Int→(List dT156)→Int→Int→Option R)): Option R:=wqde k (fun s0 s1 s2 s3 s4 s5 s6 s7=>wq4w k k s0 s1 s2 s3 s4 s5 s6 s7 K E) x0 x1 x2 x3 x4 x5 K E
theorem wql3(k:Nat): DOK Tryz.prog 229 (h_lex_lexer_single.run (@wq75 k)):=dok h_lex_lexer_single (wqdd k) (fn:=Tryz.f229) (k:=k) (ok1 (fun _ _ _ _ _ h=>wq9b k h) (ok1 (wq6b k) (ok1 (wq7g k) ok0))) (by kernel_rfl) (by kernel_rfl) fun R=>h_lex_lexer_single.f1 u_lex_lexer_single_1003 (wqde k) (by kernel_rfl) (wqcv k (fun _ _=>none) k) (by kernel_rfl)
abbrev wq3o:Type 1:=(R:Type)→Int→Int→(List UInt8)→Int→(List dT156)→Int→(Int→Int→(List UInt8)→Int→(List dT156)→Option R)→(Int→Int→(List UInt8)→Int→(List dT156)→Int→Int→Option R)→Option R
abbrev wq3h:Type 1:=(R:Type)→Int→Int→(List UInt8)→Int→(List dT156)→(List UInt8)→(Int→Int→(List UInt8)→Int→(List dT156)→(List UInt8)→Int→Option R)→(Int→Int→(List UInt8)→Int→(List dT156)→Int→Int→Option R)→Option R
abbrev wq3i:Type 1:=(R:Type)→Int→Int→(List UInt8)→Int→(List dT156)→(List UInt8)→(Int→Int→(List UInt8)→Int→(List dT156)→(List UInt8)→Int→Option R)→(Int→Int→(List UInt8)→Int→(List dT156)→Int→Int→Option R)→Option R
def h_lex_lexer_text:Sh:=⟨[.o 1 200 0 [.a kI,.a kI,.a .str,.a kI,.w 21 157 kdT156],.a .str],some ([.o 1 200 0 [.a kI,.a kI,.a .str,.a kI,.w 21 157 kdT156]],[]),some ([.o 1 200 0 [.a kI,.a kI,.a .str,.a kI,.w 21 157 kdT156]],[.i 29 (.g [.a kI,.a kI])])⟩
def wqfu(k:Nat)(wqa:wq3o)(wq2v:(R:Type)→(List UInt8)→(Bool→Option R)→Option R)(wq4:(R:Type)→Int→Int→(List UInt8)→Int→(List dT156)→Int→(List UInt8)→Bool→Int→(Int→Int→(List UInt8)→Int→(List dT156)→Option R)→Option R)(wq3k:(R:Type)→(List UInt8)→((List UInt8)→Option R)→Option R)(wq4i:wq3h)(wq4j:wq3i)(wq43:(R:Type)→(List UInt8)→Int→(Int→Option R)→Option R): Cxt:=⟨[h_lex_lexer_gives.e 191 wqa,h_lex_dash.e 193 wq2v,h_lex_lexer_piece.e 194 wq4,h_lex_key.e 195 wq3k,h_lex_lexer_single.e 229 wq4i,h_lex_lexer_double.e 230 wq4j,h_strings_IndexByte.e 231 wq43],[1],[],[]⟩
def wqfv(k:Nat)(wqa:wq3o)(wq2v:(R:Type)→(List UInt8)→(Bool→Option R)→Option R)(wq4:(R:Type)→Int→Int→(List UInt8)→Int→(List dT156)→Int→(List UInt8)→Bool→Int→(Int→Int→(List UInt8)→Int→(List dT156)→Option R)→Option R)(wq3k:(R:Type)→(List UInt8)→((List UInt8)→Option R)→Option R)(wq4i:wq3h)(wq4j:wq3i)(wq43:(R:Type)→(List UInt8)→Int→(Int→Option R)→Option R){R:Type}(x0 x1:Int)(x2:(List UInt8))(x3:Int)(x4:(List dT156))(x5:(List UInt8))(K:(Int→Int→(List UInt8)→Int→(List dT156)→Option R))(E:(Int→Int→(List UInt8)→Int→(List dT156)→Int→Int→Option R)): Option R:=cond (inb 0 (x5.length:Int)) (cond (((x5.getD (Int.toNat 0) 0).toNat:Int) == 39) (wq4i R x0 x1 x2 x3 x4 x5 (fun y10 y11 y12 y13 y14 y15 y16=>cond (y16 != (x5.length:Int)) (wqa R y10 y11 y12 y13 y14 3 (fun y17 y18 y19 y20 y21=>cond (decide ((y15.length:Int)>200)) (wqa R y17 y18 y19 y20 y21 4 (fun y22 y23 y24 y25 y26=>wq4 R y22 y23 y24 y25 y26 3 y15 true y16 K) E) (wq4 R y17 y18 y19 y20 y21 3 y15 true y16 K)) E) (cond (decide ((y15.length:Int)>200)) (wqa R y10 y11 y12 y13 y14 4 (fun y17 y18 y19 y20 y21=>wq4 R y17 y18 y19 y20 y21 3 y15 true y16 K) E) (wq4 R y10 y11 y12 y13 y14 3 y15 true y16 K))) E) (cond (((x5.getD (Int.toNat 0) 0).toNat:Int) == 34) (wq4j R x0 x1 x2 x3 x4 x5 (fun y10 y11 y12 y13 y14 y15 y16=>cond (y16 != (x5.length:Int)) (wqa R y10 y11 y12 y13 y14 3 (fun y17 y18 y19 y20 y21=>cond (decide ((y15.length:Int)>200)) (wqa R y17 y18 y19 y20 y21 4 (fun y22 y23 y24 y25 y26=>wq4 R y22 y23 y24 y25 y26 3 y15 true y16 K) E) (wq4 R y17 y18 y19 y20 y21 3 y15 true y16 K)) E) (cond (decide ((y15.length:Int)>200)) (wqa R y10 y11 y12 y13 y14 4 (fun y17 y18 y19 y20 y21=>wq4 R y17 y18 y19 y20 y21 3 y15 true y16 K) E) (wq4 R y10 y11 y12 y13 y14 3 y15 true y16 K))) E) (cond (inb 0 (x5.length:Int)) (wq43 R [91,93,123,125,38,42,33,124,62,37,64,44,63,96] ((x5.getD (Int.toNat 0) 0).toNat:Int) (fun y10=>cond ((decide (y10≥0)) == false) (wq2v R x5 (fun y11=>cond (y11 == false) (wq3k R x5 (fun y12=>cond (!(y12 == [])) (wqa R x0 x1 x2 x3 x4 4 (fun y13 y14 y15 y16 y17=>cond ((x5.length:Int) != (x5.length:Int)) (wqa R y13 y14 y15 y16 y17 3 (fun y18 y19 y20 y21 y22=>cond (decide ((x5.length:Int)>200)) (wqa R y18 y19 y20 y21 y22 4 (fun y23 y24 y25 y26 y27=>wq4 R y23 y24 y25 y26 y27 3 x5 false (x5.length:Int) K) E) (wq4 R y18 y19 y20 y21 y22 3 x5 false (x5.length:Int) K)) E) (cond (decide ((x5.length:Int)>200)) (wqa R y13 y14 y15 y16 y17 4 (fun y18 y19 y20 y21 y22=>wq4 R y18 y19 y20 y21 y22 3 x5 false (x5.length:Int) K) E) (wq4 R y13 y14 y15 y16 y17 3 x5 false (x5.length:Int) K))) E) (cond ((x5.length:Int) != (x5.length:Int)) (wqa R x0 x1 x2 x3 x4 3 (fun y13 y14 y15 y16 y17=>cond (decide ((x5.length:Int)>200)) (wqa R y13 y14 y15 y16 y17 4 (fun y18 y19 y20 y21 y22=>wq4 R y18 y19 y20 y21 y22 3 x5 false (x5.length:Int) K) E) (wq4 R y13 y14 y15 y16 y17 3 x5 false (x5.length:Int) K)) E) (cond (decide ((x5.length:Int)>200)) (wqa R x0 x1 x2 x3 x4 4 (fun y13 y14 y15 y16 y17=>wq4 R y13 y14 y15 y16 y17 3 x5 false (x5.length:Int) K) E) (wq4 R x0 x1 x2 x3 x4 3 x5 false (x5.length:Int) K))))) (wqa R x0 x1 x2 x3 x4 4 (fun y12 y13 y14 y15 y16=>cond ((x5.length:Int) != (x5.length:Int)) (wqa R y12 y13 y14 y15 y16 3 (fun y17 y18 y19 y20 y21=>cond (decide ((x5.length:Int)>200)) (wqa R y17 y18 y19 y20 y21 4 (fun y22 y23 y24 y25 y26=>wq4 R y22 y23 y24 y25 y26 3 x5 false (x5.length:Int) K) E) (wq4 R y17 y18 y19 y20 y21 3 x5 false (x5.length:Int) K)) E) (cond (decide ((x5.length:Int)>200)) (wqa R y12 y13 y14 y15 y16 4 (fun y17 y18 y19 y20 y21=>wq4 R y17 y18 y19 y20 y21 3 x5 false (x5.length:Int) K) E) (wq4 R y12 y13 y14 y15 y16 3 x5 false (x5.length:Int) K))) E))) (wqa R x0 x1 x2 x3 x4 4 (fun y11 y12 y13 y14 y15=>cond ((x5.length:Int) != (x5.length:Int)) (wqa R y11 y12 y13 y14 y15 3 (fun y16 y17 y18 y19 y20=>cond (decide ((x5.length:Int)>200)) (wqa R y16 y17 y18 y19 y20 4 (fun y21 y22 y23 y24 y25=>wq4 R y21 y22 y23 y24 y25 3 x5 false (x5.length:Int) K) E) (wq4 R y16 y17 y18 y19 y20 3 x5 false (x5.length:Int) K)) E) (cond (decide ((x5.length:Int)>200)) (wqa R y11 y12 y13 y14 y15 4 (fun y16 y17 y18 y19 y20=>wq4 R y16 y17 y18 y19 y20 3 x5 false (x5.length:Int) K) E) (wq4 R y11 y12 y13 y14 y15 3 x5 false (x5.length:Int) K))) E))) none))) none
theorem wqpn(k:Nat)(wqa:wq3o)(wq2v:(R:Type)→(List UInt8)→(Bool→Option R)→Option R)(wq4:(R:Type)→Int→Int→(List UInt8)→Int→(List dT156)→Int→(List UInt8)→Bool→Int→(Int→Int→(List UInt8)→Int→(List dT156)→Option R)→Option R)(wq3k:(R:Type)→(List UInt8)→((List UInt8)→Option R)→Option R)(wq4i:wq3h)(wq4j:wq3i)(wq43:(R:Type)→(List UInt8)→Int→(Int→Option R)→Option R)(R:Type): h_lex_lexer_text.at (wqfu k wqa wq2v wq4 wq3k wq4i wq4j wq43) k Tryz.f196 R=@wqfv k wqa wq2v wq4 wq3k wq4i wq4j wq43 R:=by kernel_rfl
def wq4s(k:Nat){R:Type}(x0 x1:Int)(x2:(List UInt8))(x3:Int)(x4:(List dT156))(x5:(List UInt8))(K:(Int→Int→(List UInt8)→Int→(List dT156)→Option R))(E:(Int→Int→(List UInt8)→Int→(List dT156)→Int→Int→Option R)): Option R:=wqfv k (@wq13 k) (@wq7r k) (@wq2w k) (@wqad k) (@wq75 k) (@wq74 k) (@wq1u k) x0 x1 x2 x3 x4 x5 K E
theorem wqpo(k:Nat): DOK Tryz.prog 196 (h_lex_lexer_text.run (@wq4s k)):=dok h_lex_lexer_text (wqfu k (@wq13 k) (@wq7r k) (@wq2w k) (@wqad k) (@wq75 k) (@wq74 k) (@wq1u k)) (fn:=Tryz.f196) (k:=k) (ok1 (wq6b k) (ok1 (wqut k) (ok1 (wqev k) (ok1 (wqym k) (ok1 (wql3 k) (ok1 (wql2 k) (ok1 (wqcg k) ok0))))))) (by kernel_rfl) (by kernel_rfl) fun R=>wqpn k (@wq13 k) (@wq7r k) (@wq2w k) (@wqad k) (@wq75 k) (@wq74 k) (@wq1u k) R
abbrev wq20:Type 1:=(R:Type)→Int→Int→(List UInt8)→Int→(List dT156)→Int→(Int→Int→(List UInt8)→Int→(List dT156)→Option R)→(Int→Int→(List UInt8)→Int→(List dT156)→Int→Int→Option R)→Option R
abbrev wq23:Type 1:=(R:Type)→Int→Int→(List UInt8)→Int→(List dT156)→(Int→Int→(List UInt8)→Int→(List dT156)→(List UInt8)→Option R)→Option R
abbrev wq21:Type 1:=(R:Type)→Int→Int→(List UInt8)→Int→(List dT156)→Int→(List UInt8)→Bool→Int→(Int→Int→(List UInt8)→Int→(List dT156)→Option R)→Option R
abbrev wq24:Type 1:=(R:Type)→Int→Int→(List UInt8)→Int→(List dT156)→(List UInt8)→(Int→Int→(List UInt8)→Int→(List dT156)→Option R)→(Int→Int→(List UInt8)→Int→(List dT156)→Int→Int→Option R)→Option R
def h_lex_lexer_row:Sh:=⟨[.o 1 200 0 [.a kI,.a kI,.a .str,.a kI,.w 21 157 kdT156]],some ([.o 1 200 0 [.a kI,.a kI,.a .str,.a kI,.w 21 157 kdT156]],[]),some ([.o 1 200 0 [.a kI,.a kI,.a .str,.a kI,.w 21 157 kdT156]],[.i 29 (.g [.a kI,.a kI])])⟩
def u_lex_lexer_row_1003:Cu:=⟨1,[0,2],[.o 1 200 0 [.a kI,.a kI,.a .str,.a kI,.w 21 157 kdT156],.r 1 0,.a .str]⟩
def wqae(k:Nat)(wqa:wq20)(wq1k:wq23)(wq2v:(R:Type)→(List UInt8)→(Bool→Option R)→Option R)(wq4:wq21)(wq3k:(R:Type)→(List UInt8)→((List UInt8)→Option R)→Option R)(wq1p:wq24): Cxt:=⟨[h_lex_lexer_gives.e 191 wqa,h_lex_lexer_rest.e 192 wq1k,h_lex_dash.e 193 wq2v,h_lex_lexer_piece.e 194 wq4,h_lex_key.e 195 wq3k,h_lex_lexer_text.e 196 wq1p],[1],[(1003,u_lex_lexer_row_1003.spec)],[]⟩
def wqc6(k:Nat)(wqa:wq20)(wq1k:wq23)(wq2v:(R:Type)→(List UInt8)→(Bool→Option R)→Option R)(wq4:wq21)(wq3k:(R:Type)→(List UInt8)→((List UInt8)→Option R)→Option R)(wq1p:wq24){R:Type}(E1003:(Int→Int→(List UInt8)→Int→(List dT156)→(List UInt8)→Option R))(s0 s1:Int)(s2:(List UInt8))(s3:Int)(s4:(List dT156))(s5:(List UInt8))(K:(Int→Int→(List UInt8)→Int→(List dT156)→Option R))(E:(Int→Int→(List UInt8)→Int→(List dT156)→Int→Int→Option R)): Option R:=wq2v R s5 (fun y11=>cond y11 (wq4 R s0 s1 s2 s3 s4 1 [] false 1 (fun y12 y13 y14 y15 y16=>wq1k R y12 y13 y14 y15 y16 E1003)) (wq3k R s5 (fun y12=>cond (!(y12 == [])) (cond (decide ((y12.length:Int)>64)) (wqa R s0 s1 s2 s3 s4 5 (fun y13 y14 y15 y16 y17=>wq4 R y13 y14 y15 y16 y17 2 y12 false (@Go.IntKind.wrap Go.IntKind.i64 ((y12.length:Int)+1)) (fun y18 y19 y20 y21 y22=>wq1k R y18 y19 y20 y21 y22 (fun y23 y24 y25 y26 y27 y28=>cond (!(y28 == [])) (wq1p R y23 y24 y25 y26 y27 y28 K E) (K y23 y24 y25 y26 y27)))) E) (wq4 R s0 s1 s2 s3 s4 2 y12 false (@Go.IntKind.wrap Go.IntKind.i64 ((y12.length:Int)+1)) (fun y13 y14 y15 y16 y17=>wq1k R y13 y14 y15 y16 y17 (fun y18 y19 y20 y21 y22 y23=>cond (!(y23 == [])) (wq1p R y18 y19 y20 y21 y22 y23 K E) (K y18 y19 y20 y21 y22))))) (cond (!(s5 == [])) (wq1p R s0 s1 s2 s3 s4 s5 K E) (K s0 s1 s2 s3 s4)))))
def wqcw(k:Nat)(wqa:wq20)(wq1k:wq23)(wq2v:(R:Type)→(List UInt8)→(Bool→Option R)→Option R)(wq4:wq21)(wq3k:(R:Type)→(List UInt8)→((List UInt8)→Option R)→Option R)(wq1p:wq24){R:Type}(E1003:(Int→Int→(List UInt8)→Int→(List dT156)→(List UInt8)→Option R))(x0 x1:Int)(x2:(List UInt8))(x3:Int)(x4:(List dT156))(K:(Int→Int→(List UInt8)→Int→(List dT156)→Option R))(E:(Int→Int→(List UInt8)→Int→(List dT156)→Int→Int→Option R)): Option R:=cond (cond (decide (x1<0)) true (decide (x1>16384))) (wqa R x0 x1 x2 x3 x4 6 (fun y10 y11 y12 y13 y14=>wq1k R y10 y11 y12 y13 y14 E1003) E) (wq1k R x0 x1 x2 x3 x4 E1003)
def wq63(k:Nat)(wqa:wq20)(wq1k:wq23)(wq2v:(R:Type)→(List UInt8)→(Bool→Option R)→Option R)(wq4:wq21)(wq3k:(R:Type)→(List UInt8)→((List UInt8)→Option R)→Option R)(wq1p:wq24){R:Type}: Nat→Int→Int→(List UInt8)→Int→(List dT156)→(List UInt8)→(Int→Int→(List UInt8)→Int→(List dT156)→Option R)→(Int→Int→(List UInt8)→Int→(List dT156)→Int→Int→Option R)→Option R
 |0,_,_,_,_,_,_,_,_=>none
 |n+1,s0,s1,s2,s3,s4,s5,K,E=>wqc6 k wqa wq1k wq2v wq4 wq3k wq1p (fun s0 s1 s2 s3 s4 s5=>wq63 k wqa wq1k wq2v wq4 wq3k wq1p n s0 s1 s2 s3 s4 s5 K E) s0 s1 s2 s3 s4 s5 K E
theorem wqf3(k:Nat)(wqa:wq20)(wq1k:wq23)(wq2v:(R:Type)→(List UInt8)→(Bool→Option R)→Option R)(wq4:wq21)(wq3k:(R:Type)→(List UInt8)→((List UInt8)→Option R)→Option R)(wq1p:wq24){R:Type}: ∀(I:Nat→St→Option R) (n:Nat),h_lex_lexer_row.lp u_lex_lexer_row_1003 (wqae k wqa wq1k wq2v wq4 wq3k wq1p).cx k Tryz.f150 1003 [1,1,0,0] I n=wq63 k wqa wq1k wq2v wq4 wq3k wq1p n:=h_lex_lexer_row.lok u_lex_lexer_row_1003 (B:=wqc6 k wqa wq1k wq2v wq4 wq3k wq1p) (L:=wq63 k wqa wq1k wq2v wq4 wq3k wq1p) (fun I=>by kernel_rfl) (fun I=>by kernel_rfl) (fun n=>by kernel_rfl) (fun _ _ _ _=>rfl)
theorem wqqr(k:Nat)(wqa:wq20)(wq1k:wq23)(wq2v:(R:Type)→(List UInt8)→(Bool→Option R)→Option R)(wq4:wq21)(wq3k:(R:Type)→(List UInt8)→((List UInt8)→Option R)→Option R)(wq1p:wq24)(R:Type): h_lex_lexer_row.at (wqae k wqa wq1k wq2v wq4 wq3k wq1p) k Tryz.f150 R=h_lex_lexer_row.glue (l:=h_lex_lexer_row.ps) (u:=u_lex_lexer_row_1003.fs) (fun E1003=>@wqcw k wqa wq1k wq2v wq4 wq3k wq1p R E1003) (h_lex_lexer_row.lp u_lex_lexer_row_1003 (wqae k wqa wq1k wq2v wq4 wq3k wq1p).cx k Tryz.f150 1003 [1,1,0,0] (fun _ _=>none) k):=by kernel_rfl
def wqcx(k:Nat){R:Type}(x0 x1:Int)(x2:(List UInt8))(x3:Int)(x4:(List dT156))(K:(Int→Int→(List UInt8)→Int→(List dT156)→Option R))(E:(Int→Int→(List UInt8)→Int→(List dT156)→Int→Int→Option R)): Option R:=wqcw k (@wq13 k) (@wq4r k) (@wq7r k) (@wq2w k) (@wqad k) (@wq4s k) (fun s0 s1 s2 s3 s4 s5=>wq63 k (@wq13 k) (@wq4r k) (@wq7r k) (@wq2w k) (@wqad k) (@wq4s k) k s0 s1 s2 s3 s4 s5 K E) x0 x1 x2 x3 x4 K E
theorem wqqs(k:Nat): DOK Tryz.prog 150 (h_lex_lexer_row.run (@wqcx k)):=dok h_lex_lexer_row (wqae k (@wq13 k) (@wq4r k) (@wq7r k) (@wq2w k) (@wqad k) (@wq4s k)) (fn:=Tryz.f150) (k:=k) (ok1 (wq6b k) (ok1 (wqpm k) (ok1 (wqut k) (ok1 (wqev k) (ok1 (wqym k) (ok1 (wqpo k) ok0)))))) (by kernel_rfl) (by kernel_rfl) fun R=>h_lex_lexer_row.f1 u_lex_lexer_row_1003 (wqcw k (@wq13 k) (@wq4r k) (@wq7r k) (@wq2w k) (@wqad k) (@wq4s k)) (wqqr k (@wq13 k) (@wq4r k) (@wq7r k) (@wq2w k) (@wqad k) (@wq4s k) R) (wqf3 k (@wq13 k) (@wq4r k) (@wq7r k) (@wq2w k) (@wqad k) (@wq4s k) (fun _ _=>none) k) (by kernel_rfl)
def wqs6:List LS:=[.ag [.any,.any,.any]]
def wqyn(k:Nat): CTab:=(CTab.add 150 h_lex_lexer_row.sig (h_lex_lexer_row.run (@wqcx k)) CTab.nil)
def wqie{R:Type}(K:((List dT156)→Int→Int→Option R)): Out→Option R
 |.ret [.v (.sl (.pr (.int .i64) (.pr (.int .i64) (.pr (.int .i64) (.pr .str .bool))))) y0,.agg [.v (.int .i64) y1,.v (.int .i64) y2]] []=>K y0 y1 y2
 |_=>none
def wquv:RetSpec:=⟨[.sl (.pr (.int .i64) (.pr (.int .i64) (.pr (.int .i64) (.pr .str .bool)))),.ag [.any,.any]],[],[]⟩
def wqwq:List (Nat×CutSpec):=[]
def wquw:List (Nat×Plan):=[]
def wqpp(k:Nat): Ctx:=⟨tyT,wqwq,wqyn k,[2,3],[],wquw,@SH⟩
def wq64:Code:=Tryz.f100.body.getD .skip
def wqed(k:Nat){R:Type}: PV→List PV→List (Nm×HObj)→(Out→Option R)→Option R
 |.nilif,[.ptr 1 0,.ptr 2 0],[(1,.var 110 [.v (.sl (.pr (.int .i64) (.pr (.int .i64) (.pr (.int .i64) (.pr .str .bool))))) x0]),(2,.var 29 [.v (.int .i64) x1,.v (.int .i64) x2])],K=>wqce k x0 x1 x2 (fun y0 y1 y2=>K (.ret [] [(1,.var 110 [.v (.sl (.pr (.int .i64) (.pr (.int .i64) (.pr (.int .i64) (.pr .str .bool))))) y0]),(2,.var 29 [.v (.int .i64) y1,.v (.int .i64) y2])]))
 |.ifc 29 (.agg [.v (.int .i64) x3,.v (.int .i64) x4]),[.ptr 1 0,.ptr 2 0],[(1,.var 110 [.v (.sl (.pr (.int .i64) (.pr (.int .i64) (.pr (.int .i64) (.pr .str .bool))))) x0]),(2,.var 29 [.v (.int .i64) x1,.v (.int .i64) x2])],K=>wqcf k x0 x1 x2 x3 x4 (fun y0 y1 y2=>K (.ret [] [(1,.var 110 [.v (.sl (.pr (.int .i64) (.pr (.int .i64) (.pr (.int .i64) (.pr .str .bool))))) y0]),(2,.var 29 [.v (.int .i64) y1,.v (.int .i64) y2])]))
 |_,_,_,_=>none
def wqyo(k:Nat){R:Type}(x0 x1:Int)(x2:(List UInt8))(K:((List dT156)→Int→Int→Option R)): Option R:=wqcx k x0 x1 x2 0 [] (fun y6 y7 y8 y9 y10=>wqce k y10 0 0 K) (fun y6 y7 y8 y9 y10 y11 y12=>wqcf k [] 0 0 y11 y12 K)
theorem wqwr(k:Nat){R:Type}(I:Nat→St→Option R)(x0 x1:Int)(x2:(List UInt8))(K:((List dT156)→Int→Int→Option R)): fnDK (wqpp k) k [300,400] [at_ [0] wq64] (opsAt (at_ [1,0] wq64)) (at_ [1,1] wq64) 16 [.cell 2 110,.cell 3 29] wquv (wqed k) wqlx [(300,0),(400,0)] [.agg [.v (.int .i64) x0,.v (.int .i64) x1,.v .str x2]] [] (wqie K)=wqyo k x0 x1 x2 K:=by kernel_rfl
def wqo3(k:Nat){R:Type}(x0 x1:Int)(x2:(List UInt8))(K:((List dT156)→Int→Int→Option R)): Option R:=wqyo k x0 x1 x2 K
theorem wqws(k:Nat){R:Type}(x0 x1:Int)(x2:(List UInt8))(K:((List dT156)→Int→Int→Option R)): fnDK (wqpp k) k [300,400] [at_ [0] wq64] (opsAt (at_ [1,0] wq64)) (at_ [1,1] wq64) 16 [.cell 2 110,.cell 3 29] wquv (wqed k) wqlx [(300,0),(400,0)] [.agg [.v (.int .i64) x0,.v (.int .i64) x1,.v .str x2]] [] (wqie K)=wqo3 k x0 x1 x2 K:=by
 exact wqwr k (fun _ _=>none) x0 x1 x2 K
def wqgo(k:Nat){R:Type}: List PV→List (Nm×HObj)→(Out→Option R)→Option R
 |[.agg [.v (.int .i64) x0,.v (.int .i64) x1,.v .str x2]],[],K=>wqo3 k x0 x1 x2 (fun y0 y1 y2=>K (.ret [.v (.sl (.pr (.int .i64) (.pr (.int .i64) (.pr (.int .i64) (.pr .str .bool))))) y0,.agg [.v (.int .i64) y1,.v (.int .i64) y2]] []))
 |_,_,_=>none
theorem wqwt(k:Nat): (wqyn k).Ok Tryz.prog:=(wqrt (wqqs k) CTab.nil_ok)
theorem wqqt(k:Nat){R:Type}(rec:PV)(ps:List PV)(hp:List (Nm×HObj))(K:Out→Option R)(r:R)(h:wqed k rec ps hp K=some r): DoesToD Tryz.prog 149 rec ps hp fun out=>K out=some r:=by
 unfold wqed at h
 split at h
 ·exact wqt7 k h
 ·exact wqt8 k h
 ·cases h
theorem wqyp(k:Nat){ps:List PV}{hp:List (Nm×HObj)}{R:Type}{K:Out→Option R}{r:R}(h:wqgo k ps hp K=some r): DoesTo Tryz.prog 100 ps hp fun out=>K out=some r:=by
 unfold wqgo at h
 split at h
 ·rw[←wqws]at h
  have:=wq11e (P:=Tryz.prog) (cx:=wqpp k) (f:=100) ⟨tyT_ok,wqwt k,fun _ _=>rfl⟩ (by kernel_rfl) (fn:=Tryz.f100) (id:=1) (pre:=[at_ [0] wq64]) (rest:=at_ [1,1] wq64) (ops:=opsAt (at_ [1,0] wq64)) (by kernel_rfl) (by kernel_rfl) (by kernel_rfl) (rs:=[.cell 2 110,.cell 3 29]) (by kernel_rfl) (by kernel_rfl) (by kernel_rfl) (g:=149) (s:=5) (xs:=[.tmp 2,.tmp 3]) (by kernel_rfl) (Invokes.of (fn:=Tryz.f149) (by kernel_rfl) (c:=Tryz.f149.body.getD .skip) (by kernel_rfl) (by kernel_rfl)) (wqqt k) h
  exact this.mono fun out ho=>by
   unfold wqie at ho
   split at ho<;>first|exact ho|cases ho
 ·cases h
def h_line_quoted:Sh:=⟨[.a .str,.a kI],some ([],[.a kI,.a .bool]),none⟩
def u_line_quoted_1003:Cu:=⟨0,[0,6,7],[.a .str,.a (.int .u8),.a kI]⟩
def wqm2(k:Nat): Cxt:=⟨[],[],[(1003,u_line_quoted_1003.spec)],[]⟩
def wqdf(k:Nat){R:Type}(E1003:((List UInt8)→Int→Int→Option R))(s0:(List UInt8))(s1 s2:Int)(K:(Int→Bool→Option R)): Option R:=cond (decide (s2<(s0.length:Int))) (cond ((!((s1 == 34) == true)) || (inb s2 (s0.length:Int))) (cond (cond (s1 == 34) (((s0.getD s2.toNat 0).toNat:Int) == 92) false) (E1003 s0 s1 (@Go.IntKind.wrap Go.IntKind.i64 ((@Go.IntKind.wrap Go.IntKind.i64 (s2+1))+1))) (cond (inb s2 (s0.length:Int)) (cond (((s0.getD s2.toNat 0).toNat:Int) != s1) (E1003 s0 s1 (@Go.IntKind.wrap Go.IntKind.i64 (s2+1))) (cond ((!((cond (s1 == 39) (decide ((@Go.IntKind.wrap Go.IntKind.i64 (s2+1))<(s0.length:Int))) false) == true)) || (inb (@Go.IntKind.wrap Go.IntKind.i64 (s2+1)) (s0.length:Int))) (cond (cond (cond (s1 == 39) (decide ((@Go.IntKind.wrap Go.IntKind.i64 (s2+1))<(s0.length:Int))) false) (((s0.getD (@Go.IntKind.wrap Go.IntKind.i64 (s2+1)).toNat 0).toNat:Int) == s1) false) (E1003 s0 s1 (@Go.IntKind.wrap Go.IntKind.i64 ((@Go.IntKind.wrap Go.IntKind.i64 (s2+1))+1))) (K s2 true)) none)) none)) none) (K 0 false)
def wqm3(k:Nat){R:Type}(E1003:((List UInt8)→Int→Int→Option R))(x0:(List UInt8))(x1:Int)(K:(Int→Bool→Option R)): Option R:=cond (inb x1 (x0.length:Int)) (E1003 x0 ((x0.getD x1.toNat 0).toNat:Int) (@Go.IntKind.wrap Go.IntKind.i64 (x1+1))) none
def wq76(k:Nat){R:Type}: Nat→(List UInt8)→Int→Int→(Int→Bool→Option R)→Option R
 |0,_,_,_,_=>none
 |n+1,s0,s1,s2,K=>wqdf k (fun s0 s1 s2=>wq76 k n s0 s1 s2 K) s0 s1 s2 K
theorem wqh5(k:Nat){R:Type}: ∀(I:Nat→St→Option R) (n:Nat),h_line_quoted.lp u_line_quoted_1003 (wqm2 k).cx k Tryz.f147 1003 [1,1,0,1,0] I n=wq76 k n:=h_line_quoted.lok u_line_quoted_1003 (B:=wqdf k) (L:=wq76 k) (fun I=>by kernel_rfl) (fun I=>by kernel_rfl) (fun n=>by kernel_rfl) (fun _ _ _ _=>rfl)
def wqch(k:Nat){R:Type}(x0:(List UInt8))(x1:Int)(K:(Int→Bool→Option R)): Option R:=wqm3 k (fun s0 s1 s2=>wq76 k k s0 s1 s2 K) x0 x1 K
theorem wqux(k:Nat): DOK Tryz.prog 147 (h_line_quoted.run (@wqch k)):=dok h_line_quoted (wqm2 k) (fn:=Tryz.f147) (k:=k) ok0 (by kernel_rfl) (by kernel_rfl) fun R=>h_line_quoted.f1 u_line_quoted_1003 (wqm3 k) (by kernel_rfl) (wqh5 k (fun _ _=>none) k) (by kernel_rfl)
def wquy(k:Nat): Ent:=h_line_quoted.e 147 (@wqch k)
def h_strings_trimRightByte:Sh:=⟨[.a .str,.a (.int .u8)],some ([],[.a .str]),none⟩
def u_strings_trimRightByte_1001:Cu:=⟨0,[0,1],[.a .str,.a (.int .u8)]⟩
def wq9r(k:Nat): Cxt:=⟨[],[],[(1001,u_strings_trimRightByte_1001.spec)],[]⟩
def wq6r(k:Nat){R:Type}(E1001:((List UInt8)→Int→Option R))(s0:(List UInt8))(s1:Int)(K:((List UInt8)→Option R)): Option R:=cond ((!((decide ((s0.length:Int)>0)) == true)) || (inb (@Go.IntKind.wrap Go.IntKind.i64 ((s0.length:Int)-1)) (s0.length:Int))) (cond (cond (decide ((s0.length:Int)>0)) (((s0.getD (@Go.IntKind.wrap Go.IntKind.i64 ((s0.length:Int)-1)).toNat 0).toNat:Int) == s1) false) (cond (bnd 0 (@Go.IntKind.wrap Go.IntKind.i64 ((s0.length:Int)-1)) (s0.length:Int)) (E1001 (cut s0 0 (@Go.IntKind.wrap Go.IntKind.i64 ((s0.length:Int)-1))) s1) none) (K s0)) none
def wq9s(k:Nat){R:Type}(E1001:((List UInt8)→Int→Option R))(x0:(List UInt8))(x1:Int)(K:((List UInt8)→Option R)): Option R:=E1001 x0 x1
def wq3j(k:Nat){R:Type}: Nat→(List UInt8)→Int→((List UInt8)→Option R)→Option R
 |0,_,_,_=>none
 |n+1,s0,s1,K=>wq6r k (fun s0 s1=>wq3j k n s0 s1 K) s0 s1 K
theorem wqap(k:Nat){R:Type}: ∀(I:Nat→St→Option R) (n:Nat),h_strings_trimRightByte.lp u_strings_trimRightByte_1001 (wq9r k).cx k Tryz.f188 1001 [1,0,0] I n=wq3j k n:=h_strings_trimRightByte.lok u_strings_trimRightByte_1001 (B:=wq6r k) (L:=wq3j k) (fun I=>by kernel_rfl) (fun I=>by kernel_rfl) (fun n=>by kernel_rfl) (fun _ _ _ _=>rfl)
def wq6i(k:Nat){R:Type}(x0:(List UInt8))(x1:Int)(K:((List UInt8)→Option R)): Option R:=wq9s k (fun s0 s1=>wq3j k k s0 s1 K) x0 x1 K
theorem wqf4(k:Nat): DOK Tryz.prog 188 (h_strings_trimRightByte.run (@wq6i k)):=dok h_strings_trimRightByte (wq9r k) (fn:=Tryz.f188) (k:=k) ok0 (by kernel_rfl) (by kernel_rfl) fun R=>h_strings_trimRightByte.f1 u_strings_trimRightByte_1001 (wq9s k) (by kernel_rfl) (wqap k (fun _ _=>none) k) (by kernel_rfl)
def wqf5(k:Nat): Ent:=h_strings_trimRightByte.e 188 (@wq6i k)
def h_strings_TrimRight:Sh:=⟨[.a .str,.j],some ([],[.a .str]),none⟩
def wqjr(k:Nat): Cxt:=⟨[wqf5 k],[],[],[]⟩
def wqjs(k:Nat){R:Type}(x0:(List UInt8))(x1:UInt8)(K:((List UInt8)→Option R)): Option R:=cond (cond (x0 == []) true ([x1] == [])) (K x0) (cond (cond ((@List.length UInt8 [x1]:Int) == 1) (decide (((([x1]).getD (Int.toNat 0) 0).toNat:Int)<128)) false) (wq6i k x0 ((([x1]).getD (Int.toNat 0) 0).toNat:Int) K) none)
def wq6l(k:Nat){R:Type}(x0:(List UInt8))(x1:UInt8)(K:((List UInt8)→Option R)): Option R:=wqjs k x0 x1 K
theorem wqjt(k:Nat): DOK Tryz.prog 148 (h_strings_TrimRight.run (@wq6l k)):=dok h_strings_TrimRight (wqjr k) (fn:=Tryz.f148) (k:=k) (ok1 (wqf4 k) ok0) (by kernel_rfl) (by kernel_rfl) fun R=>by kernel_rfl
def wqju(k:Nat): Ent:=h_strings_TrimRight.e 148 (@wq6l k)
def h_line_Strip:Sh:=⟨[.a .str],some ([],[.a .str,.a .bool]),none⟩
def u_line_Strip_1003:Cu:=⟨0,[0,4,5],[.a .str,.a kI,.a kI]⟩
def wqpq(k:Nat): Cxt:=⟨[wquy k,wqju k],[],[(1003,u_line_Strip_1003.spec)],[]⟩
def wqew(k:Nat){R:Type}(E1003:((List UInt8)→Int→Int→Option R))(s0:(List UInt8))(s1 s2:Int)(K:((List UInt8)→Bool→Option R)): Option R:=cond (decide (s2<(s0.length:Int))) (cond ((!((decide (s2>0)) == true)) || (inb (@Go.IntKind.wrap Go.IntKind.i64 (s2-1)) (s0.length:Int))) (cond (cond (decide (s2>0)) (((s0.getD (@Go.IntKind.wrap Go.IntKind.i64 (s2-1)).toNat 0).toNat:Int) != 32) false) (E1003 s0 s1 (@Go.IntKind.wrap Go.IntKind.i64 (s2+1))) (cond (inb s2 (s0.length:Int)) (cond (((s0.getD s2.toNat 0).toNat:Int) == 35) (cond (bnd 0 s2 (s0.length:Int)) (wq6l k (cut s0 0 s2) 32 (fun y7=>K y7 true)) none) (cond (((s0.getD s2.toNat 0).toNat:Int) == 39) (wqch k s0 s2 (fun y7 y8=>cond (!y8) (K [] false) (E1003 s0 s1 (@Go.IntKind.wrap Go.IntKind.i64 (y7+1))))) (cond (((s0.getD s2.toNat 0).toNat:Int) == 34) (wqch k s0 s2 (fun y7 y8=>cond (!y8) (K [] false) (E1003 s0 s1 (@Go.IntKind.wrap Go.IntKind.i64 (y7+1))))) (E1003 s0 s1 (@Go.IntKind.wrap Go.IntKind.i64 (s2+1)))))) none)) none) (cond (bnd 0 s1 (s0.length:Int)) (wq6l k (cut s0 0 s1) 32 (fun y7=>K y7 true)) none)
def wqpr(k:Nat){R:Type}(E1003:((List UInt8)→Int→Int→Option R))(x0:(List UInt8))(K:((List UInt8)→Bool→Option R)): Option R:=E1003 x0 (x0.length:Int) 0
def wq82(k:Nat){R:Type}: Nat→(List UInt8)→Int→Int→((List UInt8)→Bool→Option R)→Option R
 |0,_,_,_,_=>none
 |n+1,s0,s1,s2,K=>wqew k (fun s0 s1 s2=>wq82 k n s0 s1 s2 K) s0 s1 s2 K
theorem wqif(k:Nat){R:Type}: ∀(I:Nat→St→Option R) (n:Nat),h_line_Strip.lp u_line_Strip_1003 (wqpq k).cx k Tryz.f99 1003 [1,0,1,1,0,1,0] I n=wq82 k n:=h_line_Strip.lok u_line_Strip_1003 (B:=wqew k) (L:=wq82 k) (fun I=>by kernel_rfl) (fun I=>by kernel_rfl) (fun n=>by kernel_rfl) (fun _ _ _ _=>rfl)
def wqee(k:Nat){R:Type}(x0:(List UInt8))(K:((List UInt8)→Bool→Option R)): Option R:=wqpr k (fun s0 s1 s2=>wq82 k k s0 s1 s2 K) x0 K
theorem wqps(k:Nat): DOK Tryz.prog 99 (h_line_Strip.run (@wqee k)):=dok h_line_Strip (wqpq k) (fn:=Tryz.f99) (k:=k) (ok1 (wqux k) (ok1 (wqjt k) ok0)) (by kernel_rfl) (by kernel_rfl) fun R=>h_line_Strip.f1 u_line_Strip_1003 (wqpr k) (by kernel_rfl) (wqif k (fun _ _=>none) k) (by kernel_rfl)
def wqpt(k:Nat): Ent:=h_line_Strip.e 99 (@wqee k)
def h_show_plain:Sh:=⟨[.a .str],some ([],[.a .bool]),none⟩
def u_show_plain_1002:Cu:=⟨0,[0,9,10],[.a .str,.a kI,.a kI]⟩
def wqpu(k:Nat): Cxt:=⟨[wqpt k,⟨100,wqs6,wqgo k⟩],[],[(1002,u_show_plain_1002.spec)],[]⟩
def wqex(k:Nat){R:Type}(E1002:((List UInt8)→Int→Int→Option R))(s0:(List UInt8))(s1 s2:Int)(K:(Bool→Option R)): Option R:=cond (decide (s2<s1)) (cond (inb s2 (s0.length:Int)) (cond ((!((decide (((s0.getD s2.toNat 0).toNat:Int)<32)) == false)) || (inb s2 (s0.length:Int))) (cond (cond (decide (((s0.getD s2.toNat 0).toNat:Int)<32)) true (((s0.getD s2.toNat 0).toNat:Int) == 127)) (K false) (E1002 s0 s1 (@Go.IntKind.wrap Go.IntKind.i64 (s2+1)))) none) none) (wqee k s0 (fun y7 y8=>cond (cond (cond (s0 == []) true (!y8)) true (!(y7 == s0))) (K false) (wqo3 k 0 0 s0 (fun y9 y10 y11=>cond ((!((cond (y10 == 0) ((y9.length:Int) == 1) false) == true)) || (inb 0 (y9.length:Int))) (cond ((!((cond (cond (y10 == 0) ((y9.length:Int) == 1) false) ((y9.getD (Int.toNat 0) kdT156.zero).1 == 3) false) == true)) || (inb 0 (y9.length:Int))) (cond ((!((cond (cond (cond (y10 == 0) ((y9.length:Int) == 1) false) ((y9.getD (Int.toNat 0) kdT156.zero).1 == 3) false) (((((y9.getD (Int.toNat 0) kdT156.zero).2).2).2).1 == s0) false) == true)) || (inb 0 (y9.length:Int))) (K (cond (cond (cond (cond (y10 == 0) ((y9.length:Int) == 1) false) ((y9.getD (Int.toNat 0) kdT156.zero).1 == 3) false) (((((y9.getD (Int.toNat 0) kdT156.zero).2).2).2).1 == s0) false) (!((((y9.getD (Int.toNat 0) kdT156.zero).2).2).2).2) false)) none) none) none))))
def wqpv(k:Nat){R:Type}(E1002:((List UInt8)→Int→Int→Option R))(x0:(List UInt8))(K:(Bool→Option R)): Option R:=E1002 x0 (x0.length:Int) 0
def wq83(k:Nat){R:Type}: Nat→(List UInt8)→Int→Int→(Bool→Option R)→Option R
 |0,_,_,_,_=>none
 |n+1,s0,s1,s2,K=>wqex k (fun s0 s1 s2=>wq83 k n s0 s1 s2 K) s0 s1 s2 K
theorem wqig(k:Nat){R:Type}: ∀(I:Nat→St→Option R) (n:Nat),h_show_plain.lp u_show_plain_1002 (wqpu k).cx k Tryz.f164 1002 [1,0,1,0] I n=wq83 k n:=h_show_plain.lok u_show_plain_1002 (B:=wqex k) (L:=wq83 k) (fun I=>by kernel_rfl) (fun I=>by kernel_rfl) (fun n=>by kernel_rfl) (fun _ _ _ _=>rfl)
def wqih(k:Nat){R:Type}(x0:(List UInt8))(K:(Bool→Option R)): Option R:=wqpv k (fun s0 s1 s2=>wq83 k k s0 s1 s2 K) x0 K
theorem wqwu(k:Nat): DOK Tryz.prog 164 (h_show_plain.run (@wqih k)):=dok h_show_plain (wqpu k) (fn:=Tryz.f164) (k:=k) (ok1 (wqps k) (ok1 (fun _ _ _ _ _ h=>wqyp k h) ok0)) (by kernel_rfl) (by kernel_rfl) fun R=>h_show_plain.f1 u_show_plain_1002 (wqpv k) (by kernel_rfl) (wqig k (fun _ _=>none) k) (by kernel_rfl)
def wqwv(k:Nat): Ent:=h_show_plain.e 164 (@wqih k)
def h_show_may:Sh:=⟨[.g [.a kI,.a kI,.a .str,.a .bool,.s .str,.s kI]],some ([],[.a .bool]),none⟩
def wq122(k:Nat): Cxt:=⟨[wqwv k,wqwn k],[],[],[]⟩
def wq123(k:Nat){R:Type}(x0 x1:Int)(x2:(List UInt8))(x3:Bool)(x4:(List (List UInt8)))(x5:(List Int))(K:(Bool→Option R)): Option R:=cond (x0 == 1) (cond ((cond (cond ((x4.length:Int) == 0) ((x5.length:Int) == 0) false) (decide ((x2.length:Int)≤200)) false) == true) (cond (x3 == false) (wqih k x2 K) (K true)) (K false)) (cond (x0 == 2) (K (cond (cond (cond (x2 == []) (!x3) false) ((x4.length:Int) == 0) false) (decide ((x5.length:Int)>0)) false)) (cond (x0 == 3) (cond ((cond (cond (cond (x2 == []) (!x3) false) (decide ((x5.length:Int)>0)) false) ((x4.length:Int) == (x5.length:Int)) false) == true) (wqid k x4 K) (K false)) (K false)))
def wqpw(k:Nat){R:Type}(x0 x1:Int)(x2:(List UInt8))(x3:Bool)(x4:(List (List UInt8)))(x5:(List Int))(K:(Bool→Option R)): Option R:=wq123 k x0 x1 x2 x3 x4 x5 K
theorem wq124(k:Nat): DOK Tryz.prog 111 (h_show_may.run (@wqpw k)):=dok h_show_may (wq122 k) (fn:=Tryz.f111) (k:=k) (ok1 (wqwu k) (ok1 (wqwm k) ok0)) (by kernel_rfl) (by kernel_rfl) fun R=>by kernel_rfl
def wq125(k:Nat): Ent:=h_show_may.e 111 (@wqpw k)
def h_show_walk:Sh:=⟨[.g [.s kdT72],.a kI,.a kI],some ([],[.a kI]),none⟩
def u_show_walk_1005:Cu:=⟨0,[2,3,7,35,36,37],[.a kI,.o 13 38 0 [.s kdT72],.a kI,.s kI,.a kI,.a kI]⟩
def wqgp(k:Nat)(wq3m:(R:Type)→(List dT72)→Int→Int→(Int→Option R)→Option R): Cxt:=⟨[h_show_walk.e 68 wq3m,wq125 k],[],[(1005,u_show_walk_1005.spec)],[]⟩
def wqfw(k:Nat)(wq3m:(R:Type)→(List dT72)→Int→Int→(Int→Option R)→Option R){R:Type}(E1005:(Int→(List dT72)→Int→(List Int)→Int→Int→Option R))(s0:Int)(s1:(List dT72))(s2:Int)(s3:(List Int))(s4 s5:Int)(K:(Int→Option R)): Option R:=cond (decide (s5<s4)) (cond (inb s5 (s3.length:Int)) (cond ((s3.getD s5.toNat kI.zero) != s2) (K (@Neg.neg Int @Int.instNegInt (1:Int))) (wq3m R s1 (s3.getD s5.toNat kI.zero) (@Go.IntKind.wrap Go.IntKind.i64 (s0+1)) (fun y10=>cond (decide (y10<0)) (K (@Neg.neg Int @Int.instNegInt (1:Int))) (E1005 s0 s1 y10 s3 s4 (@Go.IntKind.wrap Go.IntKind.i64 (s5+1)))))) none) (K s2)
def wql4(k:Nat)(wq3m:(R:Type)→(List dT72)→Int→Int→(Int→Option R)→Option R){R:Type}(E1005:(Int→(List dT72)→Int→(List Int)→Int→Int→Option R))(x0:(List dT72))(x1 x2:Int)(K:(Int→Option R)): Option R:=cond ((!((cond (decide (x1≥(x0.length:Int))) true (decide (x2>24))) == false)) || (inb x1 (x0.length:Int))) (cond ((cond (decide (x1≥(x0.length:Int))) true (decide (x2>24))) == false) (wqpw k (x0.getD x1.toNat kdT72.zero).1 ((x0.getD x1.toNat kdT72.zero).2).1 (((x0.getD x1.toNat kdT72.zero).2).2).1 ((((x0.getD x1.toNat kdT72.zero).2).2).2).1 (((((x0.getD x1.toNat kdT72.zero).2).2).2).2).1 (((((x0.getD x1.toNat kdT72.zero).2).2).2).2).2 (fun y7=>cond (!y7) (K (@Neg.neg Int @Int.instNegInt (1:Int))) (cond (inb x1 (x0.length:Int)) (E1005 x2 x0 (@Go.IntKind.wrap Go.IntKind.i64 (x1+1)) (((((x0.getD x1.toNat kdT72.zero).2).2).2).2).2 (((((((x0.getD x1.toNat kdT72.zero).2).2).2).2).2).length:Int) 0) none))) (K (@Neg.neg Int @Int.instNegInt (1:Int)))) none
def wq9d(k:Nat)(wq3m:(R:Type)→(List dT72)→Int→Int→(Int→Option R)→Option R){R:Type}: Nat→Int→(List dT72)→Int→(List Int)→Int→Int→(Int→Option R)→Option R
 |0,_,_,_,_,_,_,_=>none
 |n+1,s0,s1,s2,s3,s4,s5,K=>wqfw k wq3m (fun s0 s1 s2 s3 s4 s5=>wq9d k wq3m n s0 s1 s2 s3 s4 s5 K) s0 s1 s2 s3 s4 s5 K
theorem wqjv(k:Nat)(wq3m:(R:Type)→(List dT72)→Int→Int→(Int→Option R)→Option R){R:Type}: ∀(I:Nat→St→Option R) (n:Nat),h_show_walk.lp u_show_walk_1005 (wqgp k wq3m).cx k Tryz.f68 1005 [1,1,1,0,1,0] I n=wq9d k wq3m n:=h_show_walk.lok u_show_walk_1005 (B:=wqfw k wq3m) (L:=wq9d k wq3m) (fun I=>by kernel_rfl) (fun I=>by kernel_rfl) (fun n=>by kernel_rfl) (fun _ _ _ _=>rfl)
theorem wqzh(k:Nat)(wq3m:(R:Type)→(List dT72)→Int→Int→(Int→Option R)→Option R)(R:Type): h_show_walk.at (wqgp k wq3m) k Tryz.f68 R=h_show_walk.glue (l:=h_show_walk.ps) (u:=u_show_walk_1005.fs) (fun E1005=>@wql4 k wq3m R E1005) (h_show_walk.lp u_show_walk_1005 (wqgp k wq3m).cx k Tryz.f68 1005 [1,1,1,0,1,0] (fun _ _=>none) k):=by kernel_rfl
def wq6s:Nat→(R:Type)→(List dT72)→Int→Int→(Int→Option R)→Option R
 |0,_,_,_,_,_=>none
 |k+1,R,x0,x1,x2,K=>wql4 k (wq6s k) (fun s0 s1 s2 s3 s4 s5=>wq9d k (wq6s k) k s0 s1 s2 s3 s4 s5 K) x0 x1 x2 K
def wql5(k:Nat){R:Type}(x0:(List dT72))(x1 x2:Int)(K:(Int→Option R)): Option R:=wq6s k R x0 x1 x2 K
theorem wqww(k:Nat): DOK Tryz.prog 68 (h_show_walk.run (wq6s k)):=by
 induction k with
 |zero=>exact h_show_walk.ok0 fun R=>by kernel_rfl
 |succ k ih =>
  have ih_show_walk:=ih
  exact dok h_show_walk (wqgp k (wq6s k)) (fn:=Tryz.f68) (k:=k) (ok1 ih_show_walk (ok1 (wq124 k) ok0)) (by kernel_rfl) (by kernel_rfl) fun R=>h_show_walk.f1 u_show_walk_1005 (wql4 k (wq6s k)) (wqzh k (wq6s k) R) (wqjv k (wq6s k) (fun _ _=>none) k) (by kernel_rfl)
theorem wqzi(k:Nat): DOK Tryz.prog 68 (h_show_walk.run (@wql5 k)):=(wqww k)
def wqzj(k:Nat): Ent:=h_show_walk.e 68 (@wql5 k)
def h_show_Check:Sh:=⟨[.g [.s kdT72]],some ([],[.a kI]),none⟩
def wqwx(k:Nat): Cxt:=⟨[wqzj k],[],[],[(1,(.of [(0,1),(1,1),(2,1),(3,1),(4,1),(5,1),(6,1),(7,1),(8,1),(9,1),(10,1),(13,1),(11,1),(14,2),(15,1),(12,0),(16,1),(17,1)] .done))]⟩
def wqwy(k:Nat){R:Type}(x0:(List dT72))(K:(Int→Option R)): Option R:=cond ((cond (decide ((x0.length:Int)<1)) true (decide ((x0.length:Int)>2000))) == false) (wql5 k x0 0 1 (fun y4=>cond (y4 != (x0.length:Int)) (K 1) (K 0))) (K 1)
def wqii(k:Nat){R:Type}(x0:(List dT72))(K:(Int→Option R)): Option R:=wqwy k x0 K
theorem wqwz(k:Nat): DOK Tryz.prog 35 (h_show_Check.run (@wqii k)):=dok h_show_Check (wqwx k) (fn:=Tryz.f35) (k:=k) (ok1 (wqzi k) ok0) (by kernel_rfl) (by kernel_rfl) fun R=>by kernel_rfl
def wqm4:List LS:=[.ag [.sl (.pr (.int .i64) (.pr (.int .i64) (.pr .str (.pr .bool (.pr (.sl .str) (.sl (.int .i64)))))))]]
def wqs7(k:Nat): CTab:=(CTab.add 35 h_show_Check.sig (h_show_Check.run (@wqii k)) (CTab.add 37 h_config_reader_root.sig (h_config_reader_root.run (@wq8i k)) CTab.nil))
def wqef{R:Type}(K:((List ((List UInt8)×(List Int)))→(List dT56)→Int→Int→Option R)): Out→Option R
 |.ret [.agg [.v (.sl (.pr .str (.sl (.int .i64)))) y0,.v (.sl (.pr .str (.pr .str (.pr .bool (.pr (.int .i64) (.pr (.int .i64) (.pr .bool (.pr (.pr .str (.pr (.int .i64) (.pr (.int .i64) (.pr .flt (.pr .bool .bool))))) (.sl (.int .i64)))))))))) y1],.agg [.v (.int .i64) y2,.v (.int .i64) y3]] []=>K y0 y1 y2 y3
 |_=>none
def wqpx:RetSpec:=⟨[.ag [.sl (.pr .str (.sl (.int .i64))),.sl (.pr .str (.pr .str (.pr .bool (.pr (.int .i64) (.pr (.int .i64) (.pr .bool (.pr (.pr .str (.pr (.int .i64) (.pr (.int .i64) (.pr .flt (.pr .bool .bool))))) (.sl (.int .i64)))))))))],.ag [.any,.any]],[],[]⟩
def wqta:List (Nat×CutSpec):=[]
def wqqu:List (Nat×Plan):=[]
def wqij(k:Nat): Ctx:=⟨tyT,wqta,wqs7 k,[2,3],[],wqqu,@SH⟩
def wq33:Code:=Tryz.f16.body.getD .skip
def wqbi(k:Nat){R:Type}: PV→List PV→List (Nm×HObj)→(Out→Option R)→Option R
 |.nilif,[.ptr 1 0,.ptr 2 0],[(1,.var 27 [.v (.sl (.pr .str (.sl (.int .i64)))) x0,.v (.sl (.pr .str (.pr .str (.pr .bool (.pr (.int .i64) (.pr (.int .i64) (.pr .bool (.pr (.pr .str (.pr (.int .i64) (.pr (.int .i64) (.pr .flt (.pr .bool .bool))))) (.sl (.int .i64)))))))))) x1]),(2,.var 29 [.v (.int .i64) x2,.v (.int .i64) x3])],K=>wqaa k x0 x1 x2 x3 (fun y0 y1 y2 y3=>K (.ret [] [(1,.var 27 [.v (.sl (.pr .str (.sl (.int .i64)))) y0,.v (.sl (.pr .str (.pr .str (.pr .bool (.pr (.int .i64) (.pr (.int .i64) (.pr .bool (.pr (.pr .str (.pr (.int .i64) (.pr (.int .i64) (.pr .flt (.pr .bool .bool))))) (.sl (.int .i64)))))))))) y1]),(2,.var 29 [.v (.int .i64) y2,.v (.int .i64) y3])]))
 |.ifc 29 (.agg [.v (.int .i64) x4,.v (.int .i64) x5]),[.ptr 1 0,.ptr 2 0],[(1,.var 27 [.v (.sl (.pr .str (.sl (.int .i64)))) x0,.v (.sl (.pr .str (.pr .str (.pr .bool (.pr (.int .i64) (.pr (.int .i64) (.pr .bool (.pr (.pr .str (.pr (.int .i64) (.pr (.int .i64) (.pr .flt (.pr .bool .bool))))) (.sl (.int .i64)))))))))) x1]),(2,.var 29 [.v (.int .i64) x2,.v (.int .i64) x3])],K=>wqab k x0 x1 x2 x3 x4 x5 (fun y0 y1 y2 y3=>K (.ret [] [(1,.var 27 [.v (.sl (.pr .str (.sl (.int .i64)))) y0,.v (.sl (.pr .str (.pr .str (.pr .bool (.pr (.int .i64) (.pr (.int .i64) (.pr .bool (.pr (.pr .str (.pr (.int .i64) (.pr (.int .i64) (.pr .flt (.pr .bool .bool))))) (.sl (.int .i64)))))))))) y1]),(2,.var 29 [.v (.int .i64) y2,.v (.int .i64) y3])]))
 |_,_,_,_=>none
def wqs8(k:Nat){R:Type}(x0:(List dT72))(K:((List ((List UInt8)×(List Int)))→(List dT56)→Int→Int→Option R)): Option R:=wqii k x0 (fun y4=>cond (y4 != 0) (K [] [] 11 0) (wq8i k x0 [] [] 0 (fun y5 y6 y7 y8=>wqaa k y6 y7 0 0 K) (fun y5 y6 y7 y8 y9 y10=>wqab k [] [] 0 0 y9 y10 K)))
theorem wqtb(k:Nat){R:Type}(I:Nat→St→Option R)(x0:(List dT72))(K:((List ((List UInt8)×(List Int)))→(List dT56)→Int→Int→Option R)): fnDK (wqij k) k [300,400] [at_ [0] wq33,at_ [1,0] wq33] (opsAt (at_ [1,1,0] wq33)) (at_ [1,1,1] wq33) 22 [.cell 2 27,.cell 3 29] wqpx (wqbi k) wqhg [(300,0),(400,0)] [.agg [.v (.sl (.pr (.int .i64) (.pr (.int .i64) (.pr .str (.pr .bool (.pr (.sl .str) (.sl (.int .i64)))))))) x0]] [] (wqef K)=wqs8 k x0 K:=by kernel_rfl
def wqbq(k:Nat){R:Type}(x0:(List dT72))(K:((List ((List UInt8)×(List Int)))→(List dT56)→Int→Int→Option R)): Option R:=wqs8 k x0 K
theorem wqtc(k:Nat){R:Type}(x0:(List dT72))(K:((List ((List UInt8)×(List Int)))→(List dT56)→Int→Int→Option R)): fnDK (wqij k) k [300,400] [at_ [0] wq33,at_ [1,0] wq33] (opsAt (at_ [1,1,0] wq33)) (at_ [1,1,1] wq33) 22 [.cell 2 27,.cell 3 29] wqpx (wqbi k) wqhg [(300,0),(400,0)] [.agg [.v (.sl (.pr (.int .i64) (.pr (.int .i64) (.pr .str (.pr .bool (.pr (.sl .str) (.sl (.int .i64)))))))) x0]] [] (wqef K)=wqbq k x0 K:=by
 exact wqtb k (fun _ _=>none) x0 K
def wqci(k:Nat){R:Type}: List PV→List (Nm×HObj)→(Out→Option R)→Option R
 |[.agg [.v (.sl (.pr (.int .i64) (.pr (.int .i64) (.pr .str (.pr .bool (.pr (.sl .str) (.sl (.int .i64)))))))) x0]],[],K=>wqbq k x0 (fun y0 y1 y2 y3=>K (.ret [.agg [.v (.sl (.pr .str (.sl (.int .i64)))) y0,.v (.sl (.pr .str (.pr .str (.pr .bool (.pr (.int .i64) (.pr (.int .i64) (.pr .bool (.pr (.pr .str (.pr (.int .i64) (.pr (.int .i64) (.pr .flt (.pr .bool .bool))))) (.sl (.int .i64)))))))))) y1],.agg [.v (.int .i64) y2,.v (.int .i64) y3]] []))
 |_,_,_=>none
theorem wqtd(k:Nat): (wqs7 k).Ok Tryz.prog:=(wqrt (wqwz k) (wqrt (wqib k) CTab.nil_ok))
theorem wqng(k:Nat){R:Type}(rec:PV)(ps:List PV)(hp:List (Nm×HObj))(K:Out→Option R)(r:R)(h:wqbi k rec ps hp K=some r): DoesToD Tryz.prog 36 rec ps hp fun out=>K out=some r:=by
 unfold wqbi at h
 split at h
 ·exact wqp2 k h
 ·exact wqp3 k h
 ·cases h
theorem wqs9(k:Nat){ps:List PV}{hp:List (Nm×HObj)}{R:Type}{K:Out→Option R}{r:R}(h:wqci k ps hp K=some r): DoesTo Tryz.prog 16 ps hp fun out=>K out=some r:=by
 unfold wqci at h
 split at h
 ·rw[←wqtc]at h
  have:=wq11e (P:=Tryz.prog) (cx:=wqij k) (f:=16) ⟨tyT_ok,wqtd k,fun _ _=>rfl⟩ (by kernel_rfl) (fn:=Tryz.f16) (id:=3) (pre:=[at_ [0] wq33,at_ [1,0] wq33]) (rest:=at_ [1,1,1] wq33) (ops:=opsAt (at_ [1,1,0] wq33)) (by kernel_rfl) (by kernel_rfl) (by kernel_rfl) (rs:=[.cell 2 27,.cell 3 29]) (by kernel_rfl) (by kernel_rfl) (by kernel_rfl) (g:=36) (s:=10) (xs:=[.tmp 2,.tmp 3]) (by kernel_rfl) (Invokes.of (fn:=Tryz.f36) (by kernel_rfl) (c:=Tryz.f36.body.getD .skip) (by kernel_rfl) (by kernel_rfl)) (wqng k) h
  exact this.mono fun out ho=>by
   unfold wqef at ho
   split at ho<;>first|exact ho|cases ho
 ·cases h
def wqpy:List LS:=[.obj 1 [.sl (.pr (.int .i64) (.pr (.int .i64) (.pr .str (.pr .bool (.pr (.sl .str) (.sl (.int .i64)))))))],.obj 2 [.any,.any]]
def wqpz(k:Nat): CTab:=CTab.nil
def wqcy{R:Type}(K:((List dT72)→Int→Int→Option R)): Out→Option R
 |.ret [] [(1,.var 38 [.v (.sl (.pr (.int .i64) (.pr (.int .i64) (.pr .str (.pr .bool (.pr (.sl .str) (.sl (.int .i64)))))))) y0]),(2,.var 29 [.v (.int .i64) y1,.v (.int .i64) y2])]=>K y0 y1 y2
 |_=>none
def wqm5:RetSpec:=⟨[],[(1,.obj 1 [.sl (.pr (.int .i64) (.pr (.int .i64) (.pr .str (.pr .bool (.pr (.sl .str) (.sl (.int .i64)))))))]),(2,.obj 2 [.any,.any])],[]⟩
def wqqv:List (Nat×CutSpec):=[]
def wqq0:List (Nat×Plan):=[(7,(.of [(0,1),(1,2),(2,0),(3,0)] .done))]
def wqfx(k:Nat): Ctx:=⟨tyT,wqqv,wqpz k,[],[1,2],wqq0,@SH⟩
def wqaf:Code:=Tryz.f101.body.getD .skip
def wqq1(k:Nat){R:Type}(x0:(List dT72))(x1 x2:Int)(K:((List dT72)→Int→Int→Option R)): Option R:=K x0 x1 x2
theorem wqqw(k:Nat){R:Type}(I:Nat→St→Option R)(x0:(List dT72))(x1 x2:Int)(K:((List dT72)→Int→Int→Option R)): fnCK (wqfx k) k (at_ [1] wqaf) 13 [] wqm5 [.ptr 1 0,.ptr 2 0] 5 (.nilif) [(1,.var 38 [.v (.sl (.pr (.int .i64) (.pr (.int .i64) (.pr .str (.pr .bool (.pr (.sl .str) (.sl (.int .i64)))))))) x0]),(2,.var 29 [.v (.int .i64) x1,.v (.int .i64) x2])] (wqcy K)=wqq1 k x0 x1 x2 K:=by kernel_rfl
def wqeg(k:Nat){R:Type}(x0:(List dT72))(x1 x2:Int)(K:((List dT72)→Int→Int→Option R)): Option R:=wqq1 k x0 x1 x2 K
theorem wqqx(k:Nat){R:Type}(x0:(List dT72))(x1 x2:Int)(K:((List dT72)→Int→Int→Option R)): fnCK (wqfx k) k (at_ [1] wqaf) 13 [] wqm5 [.ptr 1 0,.ptr 2 0] 5 (.nilif) [(1,.var 38 [.v (.sl (.pr (.int .i64) (.pr (.int .i64) (.pr .str (.pr .bool (.pr (.sl .str) (.sl (.int .i64)))))))) x0]),(2,.var 29 [.v (.int .i64) x1,.v (.int .i64) x2])] (wqcy K)=wqeg k x0 x1 x2 K:=by
 exact wqqw k (fun _ _=>none) x0 x1 x2 K
def wqjw(k:Nat){R:Type}: PV→List PV→List (Nm×HObj)→(Out→Option R)→Option R
 |.nilif,[.ptr 1 0,.ptr 2 0],[(1,.var 38 [.v (.sl (.pr (.int .i64) (.pr (.int .i64) (.pr .str (.pr .bool (.pr (.sl .str) (.sl (.int .i64)))))))) x0]),(2,.var 29 [.v (.int .i64) x1,.v (.int .i64) x2])],K=>wqeg k x0 x1 x2 (fun y0 y1 y2=>K (.ret [] [(1,.var 38 [.v (.sl (.pr (.int .i64) (.pr (.int .i64) (.pr .str (.pr .bool (.pr (.sl .str) (.sl (.int .i64)))))))) y0]),(2,.var 29 [.v (.int .i64) y1,.v (.int .i64) y2])]))
 |_,_,_,_=>none
theorem wqqy(k:Nat): (wqpz k).Ok Tryz.prog:=CTab.nil_ok
theorem wquz(k:Nat){rec:PV}{ps:List PV}{hp:List (Nm×HObj)}{R:Type}{K:Out→Option R}{r:R}(h:wqjw k rec ps hp K=some r): DoesToD Tryz.prog 101 rec ps hp fun out=>K out=some r:=by
 unfold wqjw at h
 split at h
 ·rw[←wqqx]at h
  have:=wqrs (P:=Tryz.prog) (cx:=wqfx k) (f:=101) ⟨tyT_ok,wqqy k,fun _ _=>rfl⟩ (by kernel_rfl) (fn:=Tryz.f101) (id:=0) (ops:=opsAt (at_ [0] wqaf)) (c:=at_ [1] wqaf) (by kernel_rfl) (by kernel_rfl) (by kernel_rfl) (rs:=[]) (by kernel_rfl) (by kernel_rfl) h
  exact this.mono fun out ho=>by
   unfold wqcy at ho
   split at ho<;>first|exact ho|cases ho
 ·cases h
def wqq2(k:Nat): CTab:=CTab.nil
def wqcz{R:Type}(K:((List dT72)→Int→Int→Option R)): Out→Option R
 |.ret [] [(1,.var 38 [.v (.sl (.pr (.int .i64) (.pr (.int .i64) (.pr .str (.pr .bool (.pr (.sl .str) (.sl (.int .i64)))))))) y0]),(2,.var 29 [.v (.int .i64) y1,.v (.int .i64) y2])]=>K y0 y1 y2
 |_=>none
def wqm6:RetSpec:=⟨[],[(1,.obj 1 [.sl (.pr (.int .i64) (.pr (.int .i64) (.pr .str (.pr .bool (.pr (.sl .str) (.sl (.int .i64)))))))]),(2,.obj 2 [.any,.any])],[]⟩
def wqqz:List (Nat×CutSpec):=[]
def wqq3:List (Nat×Plan):=[(7,(.of [(0,1),(1,2),(2,0),(3,0)] .done))]
def wqfy(k:Nat): Ctx:=⟨tyT,wqqz,wqq2 k,[],[1,2],wqq3,@SH⟩
def wqag:Code:=Tryz.f101.body.getD .skip
def wqq4(k:Nat){R:Type}(x0:(List dT72))(x1 x2 x3 x4:Int)(K:((List dT72)→Int→Int→Option R)): Option R:=K [] x3 x4
theorem wqr0(k:Nat){R:Type}(I:Nat→St→Option R)(x0:(List dT72))(x1 x2 x3 x4:Int)(K:((List dT72)→Int→Int→Option R)): fnCK (wqfy k) k (at_ [1] wqag) 13 [] wqm6 [.ptr 1 0,.ptr 2 0] 5 (.ifc 29 (.agg [.v (.int .i64) x3,.v (.int .i64) x4])) [(1,.var 38 [.v (.sl (.pr (.int .i64) (.pr (.int .i64) (.pr .str (.pr .bool (.pr (.sl .str) (.sl (.int .i64)))))))) x0]),(2,.var 29 [.v (.int .i64) x1,.v (.int .i64) x2])] (wqcz K)=wqq4 k x0 x1 x2 x3 x4 K:=by kernel_rfl
def wqa0(k:Nat){R:Type}(x0:(List dT72))(x1 x2 x3 x4:Int)(K:((List dT72)→Int→Int→Option R)): Option R:=wqq4 k x0 x1 x2 x3 x4 K
theorem wqr1(k:Nat){R:Type}(x0:(List dT72))(x1 x2 x3 x4:Int)(K:((List dT72)→Int→Int→Option R)): fnCK (wqfy k) k (at_ [1] wqag) 13 [] wqm6 [.ptr 1 0,.ptr 2 0] 5 (.ifc 29 (.agg [.v (.int .i64) x3,.v (.int .i64) x4])) [(1,.var 38 [.v (.sl (.pr (.int .i64) (.pr (.int .i64) (.pr .str (.pr .bool (.pr (.sl .str) (.sl (.int .i64)))))))) x0]),(2,.var 29 [.v (.int .i64) x1,.v (.int .i64) x2])] (wqcz K)=wqa0 k x0 x1 x2 x3 x4 K:=by
 exact wqr0 k (fun _ _=>none) x0 x1 x2 x3 x4 K
def wqjx(k:Nat){R:Type}: PV→List PV→List (Nm×HObj)→(Out→Option R)→Option R
 |.ifc 29 (.agg [.v (.int .i64) x3,.v (.int .i64) x4]),[.ptr 1 0,.ptr 2 0],[(1,.var 38 [.v (.sl (.pr (.int .i64) (.pr (.int .i64) (.pr .str (.pr .bool (.pr (.sl .str) (.sl (.int .i64)))))))) x0]),(2,.var 29 [.v (.int .i64) x1,.v (.int .i64) x2])],K=>wqa0 k x0 x1 x2 x3 x4 (fun y0 y1 y2=>K (.ret [] [(1,.var 38 [.v (.sl (.pr (.int .i64) (.pr (.int .i64) (.pr .str (.pr .bool (.pr (.sl .str) (.sl (.int .i64)))))))) y0]),(2,.var 29 [.v (.int .i64) y1,.v (.int .i64) y2])]))
 |_,_,_,_=>none
theorem wqr2(k:Nat): (wqq2 k).Ok Tryz.prog:=CTab.nil_ok
theorem wqv0(k:Nat){rec:PV}{ps:List PV}{hp:List (Nm×HObj)}{R:Type}{K:Out→Option R}{r:R}(h:wqjx k rec ps hp K=some r): DoesToD Tryz.prog 101 rec ps hp fun out=>K out=some r:=by
 unfold wqjx at h
 split at h
 ·rw[←wqr1]at h
  have:=wqrs (P:=Tryz.prog) (cx:=wqfy k) (f:=101) ⟨tyT_ok,wqr2 k,fun _ _=>rfl⟩ (by kernel_rfl) (fn:=Tryz.f101) (id:=0) (ops:=opsAt (at_ [0] wqag)) (c:=at_ [1] wqag) (by kernel_rfl) (by kernel_rfl) (by kernel_rfl) (rs:=[]) (by kernel_rfl) (by kernel_rfl) h
  exact this.mono fun out ho=>by
   unfold wqcz at ho
   split at ho<;>first|exact ho|cases ho
 ·cases h
def h_doc_gives:Sh:=⟨[.a kI,.a kI],none,some ([],[.i 29 (.g [.a kI,.a kI])])⟩
def wqzk(k:Nat): Cxt:=⟨[],[],[],[]⟩
def wqzl(k:Nat){R:Type}(x0 x1:Int)(E:(Int→Int→Option R)): Option R:=E x0 x1
def wq6g(k:Nat){R:Type}(x0 x1:Int)(E:(Int→Int→Option R)): Option R:=wqzl k x0 x1 E
theorem wqgq(k:Nat): DOK Tryz.prog 102 (h_doc_gives.run (@wq6g k)):=dok h_doc_gives (wqzk k) (fn:=Tryz.f102) (k:=k) ok0 (by kernel_rfl) (by kernel_rfl) fun R=>by kernel_rfl
def wql6(k:Nat): Ent:=h_doc_gives.e 102 (@wq6g k)
def h_doc_parser_next:Sh:=⟨[.o 1 155 0 [.s kdT156,.w 21 73 kdT72],.a kI,.a kI],some ([.o 1 155 0 [.s kdT156,.w 21 73 kdT72]],[.a .bool]),none⟩
def wqnh(k:Nat): Cxt:=⟨[],[1],[],[]⟩
def wqni(k:Nat){R:Type}(x0:(List dT156))(x1:(List dT72))(x2 x3:Int)(K:((List dT156)→(List dT72)→Bool→Option R)): Option R:=cond ((!((decide ((x0.length:Int)>0)) == true)) || (inb 0 (x0.length:Int))) (cond ((!((cond (decide ((x0.length:Int)>0)) ((x0.getD (Int.toNat 0) kdT156.zero).1 == x2) false) == true)) || (inb 0 (x0.length:Int))) (K x0 x1 (cond (cond (decide ((x0.length:Int)>0)) ((x0.getD (Int.toNat 0) kdT156.zero).1 == x2) false) ((((x0.getD (Int.toNat 0) kdT156.zero).2).2).1 == x3) false)) none) none
def wq84(k:Nat){R:Type}(x0:(List dT156))(x1:(List dT72))(x2 x3:Int)(K:((List dT156)→(List dT72)→Bool→Option R)): Option R:=wqni k x0 x1 x2 x3 K
theorem wqey(k:Nat): DOK Tryz.prog 197 (h_doc_parser_next.run (@wq84 k)):=dok h_doc_parser_next (wqnh k) (fn:=Tryz.f197) (k:=k) ok0 (by kernel_rfl) (by kernel_rfl) fun R=>by kernel_rfl
def wqez(k:Nat): Ent:=h_doc_parser_next.e 197 (@wq84 k)
def h_doc_parser_take:Sh:=⟨[.o 1 155 0 [.s kdT156,.w 21 73 kdT72]],some ([.o 1 155 0 [.s kdT156,.w 21 73 kdT72]],[.g [.a kI,.a kI,.a kI,.a .str,.a .bool]]),none⟩
def wqnj(k:Nat): Cxt:=⟨[],[1],[],[]⟩
def wqnk(k:Nat){R:Type}(x0:(List dT156))(x1:(List dT72))(K:((List dT156)→(List dT72)→Int→Int→Int→(List UInt8)→Bool→Option R)): Option R:=cond (inb 0 (x0.length:Int)) (cond (bnd 1 (x0.length:Int) (x0.length:Int)) (K (cut x0 1 (x0.length:Int)) x1 (x0.getD (Int.toNat 0) kdT156.zero).1 ((x0.getD (Int.toNat 0) kdT156.zero).2).1 (((x0.getD (Int.toNat 0) kdT156.zero).2).2).1 ((((x0.getD (Int.toNat 0) kdT156.zero).2).2).2).1 ((((x0.getD (Int.toNat 0) kdT156.zero).2).2).2).2) none) none
def wq6c(k:Nat){R:Type}(x0:(List dT156))(x1:(List dT72))(K:((List dT156)→(List dT72)→Int→Int→Int→(List UInt8)→Bool→Option R)): Option R:=wqnk k x0 x1 K
theorem wqb1(k:Nat): DOK Tryz.prog 151 (h_doc_parser_take.run (@wq6c k)):=dok h_doc_parser_take (wqnj k) (fn:=Tryz.f151) (k:=k) ok0 (by kernel_rfl) (by kernel_rfl) fun R=>by kernel_rfl
def wqb2(k:Nat): Ent:=h_doc_parser_take.e 151 (@wq6c k)
abbrev wq19:Type 1:=(R:Type)→(List dT156)→(List dT72)→Int→((List dT156)→(List dT72)→Int→Option R)→((List dT156)→(List dT72)→Int→Int→Option R)→Option R
abbrev wq1h:Type 1:=(R:Type)→(List dT156)→(List dT72)→Int→Int→Int→((List dT156)→(List dT72)→Option R)→((List dT156)→(List dT72)→Int→Int→Option R)→Option R
abbrev wq1a:Type 1:=(R:Type)→(List dT156)→(List dT72)→Int→Int→Int→((List dT156)→(List dT72)→Option R)→((List dT156)→(List dT72)→Int→Int→Option R)→Option R
abbrev wq1b:Type 1:=(R:Type)→(List dT156)→(List dT72)→Int→Int→Int→(List UInt8)→Bool→Int→((List dT156)→(List dT72)→Int→Option R)→((List dT156)→(List dT72)→Int→Int→Option R)→Option R
def h_doc_parser_block:Sh:=⟨[.o 1 155 0 [.s kdT156,.w 21 73 kdT72],.a kI],some ([.o 1 155 0 [.s kdT156,.w 21 73 kdT72]],[.a kI]),some ([.o 1 155 0 [.s kdT156,.w 21 73 kdT72]],[.i 29 (.g [.a kI,.a kI])])⟩
def h_doc_parser_list:Sh:=⟨[.o 1 155 0 [.s kdT156,.w 21 73 kdT72],.a kI,.a kI,.a kI],some ([.o 1 155 0 [.s kdT156,.w 21 73 kdT72]],[]),some ([.o 1 155 0 [.s kdT156,.w 21 73 kdT72]],[.i 29 (.g [.a kI,.a kI])])⟩
def h_doc_parser_pairs:Sh:=⟨[.o 1 155 0 [.s kdT156,.w 21 73 kdT72],.a kI,.a kI,.a kI],some ([.o 1 155 0 [.s kdT156,.w 21 73 kdT72]],[]),some ([.o 1 155 0 [.s kdT156,.w 21 73 kdT72]],[.i 29 (.g [.a kI,.a kI])])⟩
def h_doc_parser_under:Sh:=⟨[.o 1 155 0 [.s kdT156,.w 21 73 kdT72],.g [.a kI,.a kI,.a kI,.a .str,.a .bool],.a kI],some ([.o 1 155 0 [.s kdT156,.w 21 73 kdT72]],[.a kI]),some ([.o 1 155 0 [.s kdT156,.w 21 73 kdT72]],[.i 29 (.g [.a kI,.a kI])])⟩
def wqdg(k:Nat)(wq8:wq19)(wqb:wq1h)(wq9:wq1a)(wq5:wq1b): Cxt:=⟨[wql6 k,wqb2 k,h_doc_parser_list.e 152 wqb,h_doc_parser_pairs.e 153 wq9],[1],[],[(9,(.of [(0,1),(1,1),(2,1),(3,1),(4,1),(6,1),(5,1),(7,1),(8,1),(9,0),(10,0),(11,1),(12,1),(13,1),(14,0)] .done)),(14,(.of [(0,1),(1,1),(2,1),(3,1),(5,1),(6,1),(8,1),(10,1),(4,1),(7,1),(9,1),(11,1),(12,1),(13,1),(14,0)] .done))]⟩
def wqdh(k:Nat)(wq8:wq19)(wqb:wq1h)(wq9:wq1a)(wq5:wq1b){R:Type}(x0:(List dT156))(x1:(List dT72))(x2:Int)(K:((List dT156)→(List dT72)→Int→Option R))(E:((List dT156)→(List dT72)→Int→Int→Option R)): Option R:=cond (inb 0 (x0.length:Int)) (cond (cond (decide ((x0.getD (Int.toNat 0) kdT156.zero).1<1)) true (decide ((x0.getD (Int.toNat 0) kdT156.zero).1>3))) (wq6g k 6 ((x0.getD (Int.toNat 0) kdT156.zero).2).1 (fun y7 y8=>E x0 x1 y7 y8)) (cond (decide (x2>24)) (wq6g k 8 ((x0.getD (Int.toNat 0) kdT156.zero).2).1 (fun y7 y8=>E x0 x1 y7 y8)) (cond (decide ((x1.length:Int)≥2000)) (wq6g k 9 ((x0.getD (Int.toNat 0) kdT156.zero).2).1 (fun y7 y8=>E x0 x1 y7 y8)) (cond (fits x1.length (@List.length (@Kd.T kdT72) [((0:(@Kd.T kI)),(((x0.getD (Int.toNat 0) kdT156.zero).2).1,([],(false,([],[])))))]) 88) (cond ((x0.getD (Int.toNat 0) kdT156.zero).1 == 3) (wq6c k x0 (x1++[(0,(((x0.getD (Int.toNat 0) kdT156.zero).2).1,([],(false,([],[])))))]) (fun y7 y8 y9 y10 y11 y12 y13=>cond (inb (x1.length:Int) (y8.length:Int)) (@SH (@List (@Kd.T kdT72)) R (List.set y8 (x1.length:Int).toNat (1,(((x0.getD (Int.toNat 0) kdT156.zero).2).1,(((((x0.getD (Int.toNat 0) kdT156.zero).2).2).2).1,(((((x0.getD (Int.toNat 0) kdT156.zero).2).2).2).2,([],[])))))) (fun y14=>K y7 y14 (x1.length:Int))) none)) (cond ((x0.getD (Int.toNat 0) kdT156.zero).1 == 1) (wqb R x0 (x1++[(0,(((x0.getD (Int.toNat 0) kdT156.zero).2).1,([],(false,([],[])))))]) (x1.length:Int) (((x0.getD (Int.toNat 0) kdT156.zero).2).2).1 x2 (fun y7 y8=>K y7 y8 (x1.length:Int)) E) (wq9 R x0 (x1++[(0,(((x0.getD (Int.toNat 0) kdT156.zero).2).1,([],(false,([],[])))))]) (x1.length:Int) (((x0.getD (Int.toNat 0) kdT156.zero).2).2).1 x2 (fun y7 y8=>K y7 y8 (x1.length:Int)) E))) none)))) none
theorem wql7(k:Nat)(wq8:wq19)(wqb:wq1h)(wq9:wq1a)(wq5:wq1b)(R:Type): h_doc_parser_block.at (wqdg k wq8 wqb wq9 wq5) k Tryz.f103 R=@wqdh k wq8 wqb wq9 wq5 R:=by kernel_rfl
def u_doc_parser_list_1001:Cu:=⟨1,[0,1,2,3,8],[.o 1 155 0 [.s kdT156,.w 21 73 kdT72],.r 1 0,.a kI,.a kI,.a kI,.w 100008 3 kI]⟩
def wq85(k:Nat)(wq8:wq19)(wqb:wq1h)(wq9:wq1a)(wq5:wq1b): Cxt:=⟨[wqb2 k,wqez k,h_doc_parser_under.e 198 wq5],[1],[(1001,u_doc_parser_list_1001.spec)],[(3,(.of [(0,1),(1,1),(2,1),(3,1),(5,1),(6,1),(7,1),(8,1),(9,1),(11,1),(12,1),(4,1),(10,1),(13,1),(14,1),(15,0),(16,1),(17,1),(18,0)] .done))]⟩
def wqaq(k:Nat)(wq8:wq19)(wqb:wq1h)(wq9:wq1a)(wq5:wq1b){R:Type}(E1001:((List dT156)→(List dT72)→Int→Int→Int→(List Int)→Option R))(s0:(List dT156))(s1:(List dT72))(s2 s3 s4:Int)(s5:(List Int))(K:((List dT156)→(List dT72)→Option R))(E:((List dT156)→(List dT72)→Int→Int→Option R)): Option R:=wq84 k s0 s1 1 s3 (fun y11 y12 y13=>cond y13 (wq6c k y11 y12 (fun y14 y15 y16 y17 y18 y19 y20=>wq5 R y14 y15 y16 y17 y18 y19 y20 s4 (fun y21 y22 y23=>cond (fits s5.length (@List.length (@Kd.T kI) [y23]) 8) (E1001 y21 y22 s2 s3 s4 (s5++[y23])) none) E)) (cond (inb s2 (y12.length:Int)) (@SH (@List (@Kd.T kdT72)) R (List.set y12 s2.toNat (2,(((y12.getD s2.toNat kdT72.zero).2).1,((((y12.getD s2.toNat kdT72.zero).2).2).1,(((((y12.getD s2.toNat kdT72.zero).2).2).2).1,((((((y12.getD s2.toNat kdT72.zero).2).2).2).2).1,(((((y12.getD s2.toNat kdT72.zero).2).2).2).2).2)))))) (fun y14=>cond (inb s2 (y14.length:Int)) (@SH (@List (@Kd.T kdT72)) R (List.set y14 s2.toNat ((y14.getD s2.toNat kdT72.zero).1,(((y14.getD s2.toNat kdT72.zero).2).1,((((y14.getD s2.toNat kdT72.zero).2).2).1,(((((y14.getD s2.toNat kdT72.zero).2).2).2).1,((((((y14.getD s2.toNat kdT72.zero).2).2).2).2).1,s5)))))) (fun y15=>K y11 y15)) none)) none))
def wqb3(k:Nat)(wq8:wq19)(wqb:wq1h)(wq9:wq1a)(wq5:wq1b){R:Type}(E1001:((List dT156)→(List dT72)→Int→Int→Int→(List Int)→Option R))(x0:(List dT156))(x1:(List dT72))(x2 x3 x4:Int)(K:((List dT156)→(List dT72)→Option R))(E:((List dT156)→(List dT72)→Int→Int→Option R)): Option R:=E1001 x0 x1 x2 x3 x4 []
def wq5c(k:Nat)(wq8:wq19)(wqb:wq1h)(wq9:wq1a)(wq5:wq1b){R:Type}: Nat→(List dT156)→(List dT72)→Int→Int→Int→(List Int)→((List dT156)→(List dT72)→Option R)→((List dT156)→(List dT72)→Int→Int→Option R)→Option R
 |0,_,_,_,_,_,_,_,_=>none
 |n+1,s0,s1,s2,s3,s4,s5,K,E=>wqaq k wq8 wqb wq9 wq5 (fun s0 s1 s2 s3 s4 s5=>wq5c k wq8 wqb wq9 wq5 n s0 s1 s2 s3 s4 s5 K E) s0 s1 s2 s3 s4 s5 K E
theorem wqdi(k:Nat)(wq8:wq19)(wqb:wq1h)(wq9:wq1a)(wq5:wq1b){R:Type}: ∀(I:Nat→St→Option R) (n:Nat),h_doc_parser_list.lp u_doc_parser_list_1001 (wq85 k wq8 wqb wq9 wq5).cx k Tryz.f152 1001 [1,0,0] I n=wq5c k wq8 wqb wq9 wq5 n:=h_doc_parser_list.lok u_doc_parser_list_1001 (B:=wqaq k wq8 wqb wq9 wq5) (L:=wq5c k wq8 wqb wq9 wq5) (fun I=>by kernel_rfl) (fun I=>by kernel_rfl) (fun n=>by kernel_rfl) (fun _ _ _ _=>rfl)
theorem wqnl(k:Nat)(wq8:wq19)(wqb:wq1h)(wq9:wq1a)(wq5:wq1b)(R:Type): h_doc_parser_list.at (wq85 k wq8 wqb wq9 wq5) k Tryz.f152 R=h_doc_parser_list.glue (l:=h_doc_parser_list.ps) (u:=u_doc_parser_list_1001.fs) (fun E1001=>@wqb3 k wq8 wqb wq9 wq5 R E1001) (h_doc_parser_list.lp u_doc_parser_list_1001 (wq85 k wq8 wqb wq9 wq5).cx k Tryz.f152 1001 [1,0,0] (fun _ _=>none) k):=by kernel_rfl
def u_doc_parser_pairs_1002:Cu:=⟨1,[0,1,2,3,8,9],[.o 1 155 0 [.s kdT156,.w 21 73 kdT72],.r 1 0,.a kI,.a kI,.a kI,.w 100008 9 .str,.w 100009 3 kI]⟩
def wq77(k:Nat)(wq8:wq19)(wqb:wq1h)(wq9:wq1a)(wq5:wq1b): Cxt:=⟨[wql6 k,wq5j k,wqb2 k,wqez k,h_doc_parser_under.e 198 wq5],[1],[(1002,u_doc_parser_pairs_1002.spec)],[]⟩
def wq9t(k:Nat)(wq8:wq19)(wqb:wq1h)(wq9:wq1a)(wq5:wq1b){R:Type}(E1002:((List dT156)→(List dT72)→Int→Int→Int→(List (List UInt8))→(List Int)→Option R))(s0:(List dT156))(s1:(List dT72))(s2 s3 s4:Int)(s5:(List (List UInt8)))(s6:(List Int))(K:((List dT156)→(List dT72)→Option R))(E:((List dT156)→(List dT72)→Int→Int→Option R)): Option R:=wq84 k s0 s1 2 s3 (fun y12 y13 y14=>cond y14 (wq6c k y12 y13 (fun y15 y16 y17 y18 y19 y20 y21=>wq2t k s5 y20 (fun y22=>cond y22 (wq6g k 7 y18 (fun y23 y24=>E y15 y16 y23 y24)) (cond (fits s5.length (@List.length (@Kd.T Kd.str) [y20]) 16) (wq5 R y15 y16 y17 y18 y19 y20 y21 s4 (fun y23 y24 y25=>cond (fits s6.length (@List.length (@Kd.T kI) [y25]) 8) (E1002 y23 y24 s2 s3 s4 (s5++[y20]) (s6++[y25])) none) E) none)))) (cond (inb s2 (y13.length:Int)) (@SH (@List (@Kd.T kdT72)) R (List.set y13 s2.toNat (3,(((y13.getD s2.toNat kdT72.zero).2).1,((((y13.getD s2.toNat kdT72.zero).2).2).1,(((((y13.getD s2.toNat kdT72.zero).2).2).2).1,((((((y13.getD s2.toNat kdT72.zero).2).2).2).2).1,(((((y13.getD s2.toNat kdT72.zero).2).2).2).2).2)))))) (fun y15=>@SH (@List (@Kd.T kdT72)) R (List.set y15 s2.toNat ((y15.getD s2.toNat kdT72.zero).1,(((y15.getD s2.toNat kdT72.zero).2).1,((((y15.getD s2.toNat kdT72.zero).2).2).1,(((((y15.getD s2.toNat kdT72.zero).2).2).2).1,(s5,(((((y15.getD s2.toNat kdT72.zero).2).2).2).2).2)))))) (fun y16=>@SH (@List (@Kd.T kdT72)) R (List.set y16 s2.toNat ((y16.getD s2.toNat kdT72.zero).1,(((y16.getD s2.toNat kdT72.zero).2).1,((((y16.getD s2.toNat kdT72.zero).2).2).1,(((((y16.getD s2.toNat kdT72.zero).2).2).2).1,((((((y16.getD s2.toNat kdT72.zero).2).2).2).2).1,s6)))))) (fun y17=>K y12 y17)))) none))
def wqa1(k:Nat)(wq8:wq19)(wqb:wq1h)(wq9:wq1a)(wq5:wq1b){R:Type}(E1002:((List dT156)→(List dT72)→Int→Int→Int→(List (List UInt8))→(List Int)→Option R))(x0:(List dT156))(x1:(List dT72))(x2 x3 x4:Int)(K:((List dT156)→(List dT72)→Option R))(E:((List dT156)→(List dT72)→Int→Int→Option R)): Option R:=E1002 x0 x1 x2 x3 x4 [] []
def wq4x(k:Nat)(wq8:wq19)(wqb:wq1h)(wq9:wq1a)(wq5:wq1b){R:Type}: Nat→(List dT156)→(List dT72)→Int→Int→Int→(List (List UInt8))→(List Int)→((List dT156)→(List dT72)→Option R)→((List dT156)→(List dT72)→Int→Int→Option R)→Option R
 |0,_,_,_,_,_,_,_,_,_=>none
 |n+1,s0,s1,s2,s3,s4,s5,s6,K,E=>wq9t k wq8 wqb wq9 wq5 (fun s0 s1 s2 s3 s4 s5 s6=>wq4x k wq8 wqb wq9 wq5 n s0 s1 s2 s3 s4 s5 s6 K E) s0 s1 s2 s3 s4 s5 s6 K E
theorem wqd0(k:Nat)(wq8:wq19)(wqb:wq1h)(wq9:wq1a)(wq5:wq1b){R:Type}: ∀(I:Nat→St→Option R) (n:Nat),h_doc_parser_pairs.lp u_doc_parser_pairs_1002 (wq77 k wq8 wqb wq9 wq5).cx k Tryz.f153 1002 [1,1,0,0] I n=wq4x k wq8 wqb wq9 wq5 n:=h_doc_parser_pairs.lok u_doc_parser_pairs_1002 (B:=wq9t k wq8 wqb wq9 wq5) (L:=wq4x k wq8 wqb wq9 wq5) (fun I=>by kernel_rfl) (fun I=>by kernel_rfl) (fun n=>by kernel_rfl) (fun _ _ _ _=>rfl)
theorem wql8(k:Nat)(wq8:wq19)(wqb:wq1h)(wq9:wq1a)(wq5:wq1b)(R:Type): h_doc_parser_pairs.at (wq77 k wq8 wqb wq9 wq5) k Tryz.f153 R=h_doc_parser_pairs.glue (l:=h_doc_parser_pairs.ps) (u:=u_doc_parser_pairs_1002.fs) (fun E1002=>@wqa1 k wq8 wqb wq9 wq5 R E1002) (h_doc_parser_pairs.lp u_doc_parser_pairs_1002 (wq77 k wq8 wqb wq9 wq5).cx k Tryz.f153 1002 [1,1,0,0] (fun _ _=>none) k):=by kernel_rfl
def wqdj(k:Nat)(wq8:wq19)(wqb:wq1h)(wq9:wq1a)(wq5:wq1b): Cxt:=⟨[wql6 k,h_doc_parser_block.e 103 wq8],[1],[],[(1,(.of [(0,1),(1,1),(2,1),(3,1),(4,1),(5,1),(6,1),(7,1),(8,1),(9,1),(14,1),(10,1),(11,1),(12,1),(13,1),(15,1),(16,1),(17,1)] .done))]⟩
def wqdk(k:Nat)(wq8:wq19)(wqb:wq1h)(wq9:wq1a)(wq5:wq1b){R:Type}(x0:(List dT156))(x1:(List dT72))(x2 x3 x4:Int)(x5:(List UInt8))(x6:Bool)(x7:Int)(K:((List dT156)→(List dT72)→Int→Option R))(E:((List dT156)→(List dT72)→Int→Int→Option R)): Option R:=cond ((!(((x0.length:Int) == 0) == false)) || (inb 0 (x0.length:Int))) (cond (cond ((x0.length:Int) == 0) true (decide ((((x0.getD (Int.toNat 0) kdT156.zero).2).2).1≤x4))) (wq6g k 10 x3 (fun y12 y13=>E x0 x1 y12 y13)) (wq8 R x0 x1 (@Go.IntKind.wrap Go.IntKind.i64 (x7+1)) K E)) none
theorem wql9(k:Nat)(wq8:wq19)(wqb:wq1h)(wq9:wq1a)(wq5:wq1b)(R:Type): h_doc_parser_under.at (wqdj k wq8 wqb wq9 wq5) k Tryz.f198 R=@wqdk k wq8 wqb wq9 wq5 R:=by kernel_rfl
mutual
def wqv:Nat→(R:Type)→(List dT156)→(List dT72)→Int→((List dT156)→(List dT72)→Int→Option R)→((List dT156)→(List dT72)→Int→Int→Option R)→Option R
 |0,_,_,_,_,_,_=>none
 |k+1,R,x0,x1,x2,K,E=>wqdh k (wqv k) (FR_doc_parser_list k) (FR_doc_parser_pairs k) (FR_doc_parser_under k) x0 x1 x2 K E
def FR_doc_parser_list:Nat→(R:Type)→(List dT156)→(List dT72)→Int→Int→Int→((List dT156)→(List dT72)→Option R)→((List dT156)→(List dT72)→Int→Int→Option R)→Option R
 |0,_,_,_,_,_,_,_,_=>none
 |k+1,R,x0,x1,x2,x3,x4,K,E=>wqb3 k (wqv k) (FR_doc_parser_list k) (FR_doc_parser_pairs k) (FR_doc_parser_under k) (fun s0 s1 s2 s3 s4 s5=>wq5c k (wqv k) (FR_doc_parser_list k) (FR_doc_parser_pairs k) (FR_doc_parser_under k) k s0 s1 s2 s3 s4 s5 K E) x0 x1 x2 x3 x4 K E
def FR_doc_parser_pairs:Nat→(R:Type)→(List dT156)→(List dT72)→Int→Int→Int→((List dT156)→(List dT72)→Option R)→((List dT156)→(List dT72)→Int→Int→Option R)→Option R
 |0,_,_,_,_,_,_,_,_=>none
 |k+1,R,x0,x1,x2,x3,x4,K,E=>wqa1 k (wqv k) (FR_doc_parser_list k) (FR_doc_parser_pairs k) (FR_doc_parser_under k) (fun s0 s1 s2 s3 s4 s5 s6=>wq4x k (wqv k) (FR_doc_parser_list k) (FR_doc_parser_pairs k) (FR_doc_parser_under k) k s0 s1 s2 s3 s4 s5 s6 K E) x0 x1 x2 x3 x4 K E
def FR_doc_parser_under:Nat→(R:Type)→(List dT156)→(List dT72)→Int→Int→Int→(List UInt8)→Bool→Int→((List dT156)→(List dT72)→Int→Option R)→((List dT156)→(List dT72)→Int→Int→Option R)→Option R
 |0,_,_,_,_,_,_,_,_,_,_,_=>none
 |k+1,R,x0,x1,x2,x3,x4,x5,x6,x7,K,E=>wqdk k (wqv k) (FR_doc_parser_list k) (FR_doc_parser_pairs k) (FR_doc_parser_under k) x0 x1 x2 x3 x4 x5 x6 x7 K E
end
def wqa2(k:Nat){R:Type}(x0:(List dT156))(x1:(List dT72))(x2:Int)(K:((List dT156)→(List dT72)→Int→Option R))(E:((List dT156)→(List dT72)→Int→Int→Option R)): Option R:=wqv k R x0 x1 x2 K E
theorem wqjy(k:Nat): DOK Tryz.prog 103 (h_doc_parser_block.run (wqv k))∧DOK Tryz.prog 152 (h_doc_parser_list.run (FR_doc_parser_list k))∧DOK Tryz.prog 153 (h_doc_parser_pairs.run (FR_doc_parser_pairs k))∧DOK Tryz.prog 198 (h_doc_parser_under.run (FR_doc_parser_under k)):=by
 induction k with
 |zero=>exact⟨h_doc_parser_block.ok0 fun R=>by kernel_rfl,h_doc_parser_list.ok0 fun R=>by kernel_rfl,h_doc_parser_pairs.ok0 fun R=>by kernel_rfl,h_doc_parser_under.ok0 fun R=>by kernel_rfl⟩
 |succ k ih =>
  obtain⟨ih_doc_parser_block,ih_doc_parser_list,ih_doc_parser_pairs,ih_doc_parser_under⟩:=ih
  exact⟨dok h_doc_parser_block (wqdg k (wqv k) (FR_doc_parser_list k) (FR_doc_parser_pairs k) (FR_doc_parser_under k)) (fn:=Tryz.f103) (k:=k) (ok1 (wqgq k) (ok1 (wqb1 k) (ok1 ih_doc_parser_list (ok1 ih_doc_parser_pairs ok0)))) (by kernel_rfl) (by kernel_rfl) fun R=>wql7 k (wqv k) (FR_doc_parser_list k) (FR_doc_parser_pairs k) (FR_doc_parser_under k) R,dok h_doc_parser_list (wq85 k (wqv k) (FR_doc_parser_list k) (FR_doc_parser_pairs k) (FR_doc_parser_under k)) (fn:=Tryz.f152) (k:=k) (ok1 (wqb1 k) (ok1 (wqey k) (ok1 ih_doc_parser_under ok0))) (by kernel_rfl) (by kernel_rfl) fun R=>h_doc_parser_list.f1 u_doc_parser_list_1001 (wqb3 k (wqv k) (FR_doc_parser_list k) (FR_doc_parser_pairs k) (FR_doc_parser_under k)) (wqnl k (wqv k) (FR_doc_parser_list k) (FR_doc_parser_pairs k) (FR_doc_parser_under k) R) (wqdi k (wqv k) (FR_doc_parser_list k) (FR_doc_parser_pairs k) (FR_doc_parser_under k) (fun _ _=>none) k) (by kernel_rfl),dok h_doc_parser_pairs (wq77 k (wqv k) (FR_doc_parser_list k) (FR_doc_parser_pairs k) (FR_doc_parser_under k)) (fn:=Tryz.f153) (k:=k) (ok1 (wqgq k) (ok1 (wq5i k) (ok1 (wqb1 k) (ok1 (wqey k) (ok1 ih_doc_parser_under ok0))))) (by kernel_rfl) (by kernel_rfl) fun R=>h_doc_parser_pairs.f1 u_doc_parser_pairs_1002 (wqa1 k (wqv k) (FR_doc_parser_list k) (FR_doc_parser_pairs k) (FR_doc_parser_under k)) (wql8 k (wqv k) (FR_doc_parser_list k) (FR_doc_parser_pairs k) (FR_doc_parser_under k) R) (wqd0 k (wqv k) (FR_doc_parser_list k) (FR_doc_parser_pairs k) (FR_doc_parser_under k) (fun _ _=>none) k) (by kernel_rfl),dok h_doc_parser_under (wqdj k (wqv k) (FR_doc_parser_list k) (FR_doc_parser_pairs k) (FR_doc_parser_under k)) (fn:=Tryz.f198) (k:=k) (ok1 (wqgq k) (ok1 ih_doc_parser_block ok0)) (by kernel_rfl) (by kernel_rfl) fun R=>wql9 k (wqv k) (FR_doc_parser_list k) (FR_doc_parser_pairs k) (FR_doc_parser_under k) R⟩
theorem wqla(k:Nat): DOK Tryz.prog 103 (h_doc_parser_block.run (@wqa2 k)):=(wqjy k).1
end Go.Proofs.YtabkhphoacmcdaaGreatDoor.Pvm
namespace Go.Proofs.YtabkhphoacmcdaaGreatDoor.Pvm
open Go Go.Proofs
def wq126:List LS:=[.sl (.pr (.int .i64) (.pr (.int .i64) (.pr (.int .i64) (.pr .str .bool))))]
def wq127(k:Nat): CTab:=(CTab.add 102 h_doc_gives.sig (h_doc_gives.run (@wq6g k)) (CTab.add 103 h_doc_parser_block.sig (h_doc_parser_block.run (@wqa2 k)) CTab.nil))
def wqlb{R:Type}(K:((List dT72)→Int→Int→Option R)): Out→Option R
 |.ret [.agg [.v (.sl (.pr (.int .i64) (.pr (.int .i64) (.pr .str (.pr .bool (.pr (.sl .str) (.sl (.int .i64)))))))) y0],.agg [.v (.int .i64) y1,.v (.int .i64) y2]] []=>K y0 y1 y2
 |_=>none
def wqyq:RetSpec:=⟨[.ag [.sl (.pr (.int .i64) (.pr (.int .i64) (.pr .str (.pr .bool (.pr (.sl .str) (.sl (.int .i64)))))))],.ag [.any,.any]],[],[]⟩
def wqzm:List (Nat×CutSpec):=[]
def wqx0:List (Nat×Plan):=[]
def wqte(k:Nat): Ctx:=⟨tyT,wqzm,wq127 k,[2,3],[],wqx0,@SH⟩
def wq78:Code:=Tryz.f59.body.getD .skip
def wqgr(k:Nat){R:Type}: PV→List PV→List (Nm×HObj)→(Out→Option R)→Option R
 |.nilif,[.ptr 1 0,.ptr 2 0],[(1,.var 38 [.v (.sl (.pr (.int .i64) (.pr (.int .i64) (.pr .str (.pr .bool (.pr (.sl .str) (.sl (.int .i64)))))))) x0]),(2,.var 29 [.v (.int .i64) x1,.v (.int .i64) x2])],K=>wqeg k x0 x1 x2 (fun y0 y1 y2=>K (.ret [] [(1,.var 38 [.v (.sl (.pr (.int .i64) (.pr (.int .i64) (.pr .str (.pr .bool (.pr (.sl .str) (.sl (.int .i64)))))))) y0]),(2,.var 29 [.v (.int .i64) y1,.v (.int .i64) y2])]))
 |.ifc 29 (.agg [.v (.int .i64) x3,.v (.int .i64) x4]),[.ptr 1 0,.ptr 2 0],[(1,.var 38 [.v (.sl (.pr (.int .i64) (.pr (.int .i64) (.pr .str (.pr .bool (.pr (.sl .str) (.sl (.int .i64)))))))) x0]),(2,.var 29 [.v (.int .i64) x1,.v (.int .i64) x2])],K=>wqa0 k x0 x1 x2 x3 x4 (fun y0 y1 y2=>K (.ret [] [(1,.var 38 [.v (.sl (.pr (.int .i64) (.pr (.int .i64) (.pr .str (.pr .bool (.pr (.sl .str) (.sl (.int .i64)))))))) y0]),(2,.var 29 [.v (.int .i64) y1,.v (.int .i64) y2])]))
 |_,_,_,_=>none
def wq128(k:Nat){R:Type}(x0:(List dT156))(K:((List dT72)→Int→Int→Option R)): Option R:=cond ((x0.length:Int) == 0) (wq6g k 10 1 (fun y4 y5=>wqa0 k [] 0 0 y4 y5 K)) (wqa2 k x0 [] 1 (fun y4 y5 y6=>cond (decide ((y4.length:Int)>0)) (cond (inb 0 (y4.length:Int)) (wq6g k 6 ((y4.getD (Int.toNat 0) kdT156.zero).2).1 (fun y7 y8=>wqa0 k [] 0 0 y7 y8 K)) none) (wqeg k y5 0 0 K)) (fun y4 y5 y6 y7=>wqa0 k [] 0 0 y6 y7 K))
theorem wqzn(k:Nat){R:Type}(I:Nat→St→Option R)(x0:(List dT156))(K:((List dT72)→Int→Int→Option R)): fnDK (wqte k) k [300,400] [at_ [0] wq78] (opsAt (at_ [1,0] wq78)) (at_ [1,1] wq78) 34 [.cell 2 38,.cell 3 29] wqyq (wqgr k) wqpy [(300,0),(400,0)] [.v (.sl (.pr (.int .i64) (.pr (.int .i64) (.pr (.int .i64) (.pr .str .bool))))) x0] [] (wqlb K)=wq128 k x0 K:=by kernel_rfl
def wqx1(k:Nat){R:Type}(x0:(List dT156))(K:((List dT72)→Int→Int→Option R)): Option R:=wq128 k x0 K
theorem wqzo(k:Nat){R:Type}(x0:(List dT156))(K:((List dT72)→Int→Int→Option R)): fnDK (wqte k) k [300,400] [at_ [0] wq78] (opsAt (at_ [1,0] wq78)) (at_ [1,1] wq78) 34 [.cell 2 38,.cell 3 29] wqyq (wqgr k) wqpy [(300,0),(400,0)] [.v (.sl (.pr (.int .i64) (.pr (.int .i64) (.pr (.int .i64) (.pr .str .bool))))) x0] [] (wqlb K)=wqx1 k x0 K:=by
 exact wqzn k (fun _ _=>none) x0 K
def wqq5(k:Nat){R:Type}: List PV→List (Nm×HObj)→(Out→Option R)→Option R
 |[.v (.sl (.pr (.int .i64) (.pr (.int .i64) (.pr (.int .i64) (.pr .str .bool))))) x0],[],K=>wqx1 k x0 (fun y0 y1 y2=>K (.ret [.agg [.v (.sl (.pr (.int .i64) (.pr (.int .i64) (.pr .str (.pr .bool (.pr (.sl .str) (.sl (.int .i64)))))))) y0],.agg [.v (.int .i64) y1,.v (.int .i64) y2]] []))
 |_,_,_=>none
theorem wqzp(k:Nat): (wq127 k).Ok Tryz.prog:=(wqrt (wqgq k) (wqrt (wqla k) CTab.nil_ok))
theorem wqtf(k:Nat){R:Type}(rec:PV)(ps:List PV)(hp:List (Nm×HObj))(K:Out→Option R)(r:R)(h:wqgr k rec ps hp K=some r): DoesToD Tryz.prog 101 rec ps hp fun out=>K out=some r:=by
 unfold wqgr at h
 split at h
 ·exact wquz k h
 ·exact wqv0 k h
 ·cases h
theorem wq149(k:Nat){ps:List PV}{hp:List (Nm×HObj)}{R:Type}{K:Out→Option R}{r:R}(h:wqq5 k ps hp K=some r): DoesTo Tryz.prog 59 ps hp fun out=>K out=some r:=by
 unfold wqq5 at h
 split at h
 ·rw[←wqzo]at h
  have:=wq11e (P:=Tryz.prog) (cx:=wqte k) (f:=59) ⟨tyT_ok,wqzp k,fun _ _=>rfl⟩ (by kernel_rfl) (fn:=Tryz.f59) (id:=1) (pre:=[at_ [0] wq78]) (rest:=at_ [1,1] wq78) (ops:=opsAt (at_ [1,0] wq78)) (by kernel_rfl) (by kernel_rfl) (by kernel_rfl) (rs:=[.cell 2 38,.cell 3 29]) (by kernel_rfl) (by kernel_rfl) (by kernel_rfl) (g:=101) (s:=5) (xs:=[.tmp 2,.tmp 3]) (by kernel_rfl) (Invokes.of (fn:=Tryz.f101) (by kernel_rfl) (c:=Tryz.f101.body.getD .skip) (by kernel_rfl) (by kernel_rfl)) (wqtf k) h
  exact this.mono fun out ho=>by
   unfold wqlb at ho
   split at ho<;>first|exact ho|cases ho
 ·cases h
def h_lex_All:Sh:=⟨[.s kdT150],some ([],[.s kdT156,.g [.a kI,.a kI]]),none⟩
def u_lex_All_1003:Cu:=⟨0,[3,4,9,10,11],[.o 13 29 0 [.a kI,.a kI],.w 100004 157 kdT156,.s kdT150,.a kI,.a kI]⟩
def wqyr(k:Nat): Cxt:=⟨[⟨100,wqs6,wqgo k⟩],[],[(1003,u_lex_All_1003.spec)],[(7,(.of [(1,1),(0,1),(2,0)] .done))]⟩
def wqjz(k:Nat){R:Type}(E1003:(Int→Int→(List dT156)→(List dT150)→Int→Int→Option R))(s0 s1:Int)(s2:(List dT156))(s3:(List dT150))(s4 s5:Int)(K:((List dT156)→Int→Int→Option R)): Option R:=cond (decide (s5<s4)) (cond (inb s5 (s3.length:Int)) (wqo3 k (s3.getD s5.toNat kdT150.zero).1 ((s3.getD s5.toNat kdT150.zero).2).1 ((s3.getD s5.toNat kdT150.zero).2).2 (fun y10 y11 y12=>cond (y11 != 0) (K [] y11 y12) (cond (fits s2.length y10.length 48) (E1003 s0 s1 (s2++y10) s3 s4 (@Go.IntKind.wrap Go.IntKind.i64 (s5+1))) none))) none) (K s2 0 0)
def wqys(k:Nat){R:Type}(E1003:(Int→Int→(List dT156)→(List dT150)→Int→Int→Option R))(x0:(List dT150))(K:((List dT156)→Int→Int→Option R)): Option R:=E1003 0 0 [] x0 (x0.length:Int) 0
def wqbj(k:Nat){R:Type}: Nat→Int→Int→(List dT156)→(List dT150)→Int→Int→((List dT156)→Int→Int→Option R)→Option R
 |0,_,_,_,_,_,_,_=>none
 |n+1,s0,s1,s2,s3,s4,s5,K=>wqjz k (fun s0 s1 s2 s3 s4 s5=>wqbj k n s0 s1 s2 s3 s4 s5 K) s0 s1 s2 s3 s4 s5 K
theorem wqnm(k:Nat){R:Type}: ∀(I:Nat→St→Option R) (n:Nat),h_lex_All.lp u_lex_All_1003 (wqyr k).cx k Tryz.f58 1003 [1,1,0,1,0] I n=wqbj k n:=h_lex_All.lok u_lex_All_1003 (B:=wqjz k) (L:=wqbj k) (fun I=>by kernel_rfl) (fun I=>by kernel_rfl) (fun n=>by kernel_rfl) (fun _ _ _ _=>rfl)
def wqtg(k:Nat){R:Type}(x0:(List dT150))(K:((List dT156)→Int→Int→Option R)): Option R:=wqys k (fun s0 s1 s2 s3 s4 s5=>wqbj k k s0 s1 s2 s3 s4 s5 K) x0 K
theorem wq13c(k:Nat): DOK Tryz.prog 58 (h_lex_All.run (@wqtg k)):=dok h_lex_All (wqyr k) (fn:=Tryz.f58) (k:=k) (ok1 (fun _ _ _ _ _ h=>wqyp k h) ok0) (by kernel_rfl) (by kernel_rfl) fun R=>h_lex_All.f1 u_lex_All_1003 (wqys k) (by kernel_rfl) (wqnm k (fun _ _=>none) k) (by kernel_rfl)
def wq13d(k:Nat): Ent:=h_lex_All.e 58 (@wqtg k)
def cntB(s:List UInt8)(c:UInt8): Int:=Lib.countByte s c
def wqth:List LS:=[.sl (.int .u8),.any]
def wqq6(k:Nat){R:Type}(x0:List Int)(x1:Int)(K:Int→Option R): Option R:=K (cntB (wq3z x0) (UInt8.ofNat x1.toNat))
def wqeh(k:Nat){R:Type}: List PV→List (Nm×HObj)→(Out→Option R)→Option R
 |[.v (.sl (.int .u8)) x0,.v (.int .u8) x1],[],K=>wqq6 k x0 x1 (fun y0=>K (.ret [.v (.int .i64) y0] []))
 |_,_,_=>none
theorem wqx2(k:Nat){ps:List PV}{hp:List (Nm×HObj)}{R:Type}{K:Out→Option R}{r:R}(h:wqeh k ps hp K=some r): DoesTo Tryz.prog 220 ps hp fun out=>K out=some r:=by
 unfold wqeh at h
 split at h
 ·next x0 x1 =>
  intro G w vals hr obj dis
  obtain⟨v0,l0,rfl,h0,v1,l1,rfl,h1,rfl⟩:=hr
  have e1:v1 = .int .u8 x1:=by simpa [RV,RD]using h1
  subst e1
  have hb:=wq11i (P:=Tryz.prog) h0
  have hrun:(callFunc 220 #[v0,.int .u8 x1]).run Tryz.prog w = .ok (.value (.int .i64 (cntB (wq3z x0) (UInt8.ofNat x1.toNat)))) w:=by
   refine wqyl (fn:=Tryz.f220) (g:=Extern.BytealgCount.count) (by kernel_rfl) (by kernel_rfl) (by kernel_rfl) (by kernel_rfl) (by kernel_rfl) _ w ?_
   have hs:=Lib.run_countString (P:=Tryz.prog) ⟨(wq3z x0).toArray⟩ x1 w
   change Sem.run Tryz.prog (do
    let b ←Extern.Bytes.bytesOf v0
    let c' ←Extern.Bytes.asByte (.int .u8 x1)
    pure (goInt (b.foldl (fun n x=>if x == c' then n+1 else n) (0:Nat)))) w=_
   change Sem.run Tryz.prog (do
    let b ←Extern.Bytes.bytesOf (.string ⟨(wq3z x0).toArray⟩)
    let c' ←Extern.Bytes.asByte (.int .u8 x1)
    pure (goInt (b.foldl (fun n x=>if x == c' then n+1 else n) (0:Nat)))) w=_ at hs
   rw[Sem.run_bind]at hs ⊢
   rw[hb]
   exact hs
  show Does _ _ #[_,_] _ _
  unfold Does
  rw[hrun]
  exact⟨.ret [.v (.int .i64) _] [],h,G,⟨_,rfl,rfl⟩,wqt3⟩
 ·cases h
def h_bytes_Count:Sh:=⟨[.s (.int .u8),.k (.int .u8)],some ([],[.a kI]),none⟩
def wqv1(k:Nat): Cxt:=⟨[⟨220,wqth,wqeh k⟩],[],[],[]⟩
def wqv2(k:Nat){R:Type}(x0:(List Int))(x1:Int)(K:(Int→Option R)): Option R:=wqq6 k x0 (([x1]).getD (Int.toNat 0) (Kd.zero (@Kd.int Go.IntKind.u8))) K
def wqfz(k:Nat){R:Type}(x0:(List Int))(x1:Int)(K:(Int→Option R)): Option R:=wqv2 k x0 x1 K
theorem wqv3(k:Nat): DOK Tryz.prog 183 (h_bytes_Count.run (@wqfz k)):=dok h_bytes_Count (wqv1 k) (fn:=Tryz.f183) (k:=k) (ok1 (fun _ _ _ _ _ h=>wqx2 k h) ok0) (by kernel_rfl) (by kernel_rfl) fun R=>by kernel_rfl
def wqv4(k:Nat): Ent:=h_bytes_Count.e 183 (@wqfz k)
def wqlc:List LS:=[.sl (.int .u8),.any]
def wqg0(k:Nat){R:Type}(x0:List Int)(x1:Int)(K:Int→Option R): Option R:=K (wqp5 (wq3z x0) x1)
def wqa3(k:Nat){R:Type}: List PV→List (Nm×HObj)→(Out→Option R)→Option R
 |[.v (.sl (.int .u8)) x0,.v (.int .u8) x1],[],K=>wqg0 k x0 x1 (fun y0=>K (.ret [.v (.int .i64) y0] []))
 |_,_,_=>none
theorem wqq7(k:Nat){ps:List PV}{hp:List (Nm×HObj)}{R:Type}{K:Out→Option R}{r:R}(h:wqa3 k ps hp K=some r): DoesTo Tryz.prog 250 ps hp fun out=>K out=some r:=by
 unfold wqa3 at h
 split at h
 ·next x0 x1 =>
  intro G w vals hr obj dis
  obtain⟨v0,l0,rfl,h0,v1,l1,rfl,h1,rfl⟩:=hr
  have e1:v1 = .int .u8 x1:=by simpa [RV,RD]using h1
  subst e1
  have hb:=wq11i (P:=Tryz.prog) h0
  have hrun:(callFunc 250 #[v0,.int .u8 x1]).run Tryz.prog w = .ok (.value (.int .i64 (wqp5 (wq3z x0) x1))) w:=by
   refine wqyl (fn:=Tryz.f250) (g:=Extern.BytealgIndexByte.indexByte) (by kernel_rfl) (by kernel_rfl) (by kernel_rfl) (by kernel_rfl) (by kernel_rfl) _ w ?_
   have hs:=wqrz (P:=Tryz.prog) (wq3z x0) x1 w
   change Sem.run Tryz.prog (do
    let b ←Extern.Bytes.bytesOf v0
    let c ←Extern.Bytes.asByte (.int .u8 x1)
    match(List.range b.size).find? fun i=>b[i]! == c with
    |some i=>pure (goInt i)
    |none=>pure (goInt (-1))) w=_
   change Sem.run Tryz.prog (do
    let b ←Extern.Bytes.bytesOf (.string ⟨(wq3z x0).toArray⟩)
    let c ←Extern.Bytes.asByte (.int .u8 x1)
    match(List.range b.size).find? fun i=>b[i]! == c with
    |some i=>pure (goInt i)
    |none=>pure (goInt (-1))) w=_ at hs
   rw[Sem.run_bind]at hs ⊢
   rw[hb]
   exact hs
  show Does _ _ #[_,_] _ _
  unfold Does
  rw[hrun]
  exact⟨.ret [.v (.int .i64) _] [],h,G,⟨_,rfl,rfl⟩,wqt3⟩
 ·cases h
def h_bytes_IndexByte:Sh:=⟨[.s (.int .u8),.a (.int .u8)],some ([],[.a kI]),none⟩
def wqnn(k:Nat): Cxt:=⟨[⟨250,wqlc,wqa3 k⟩],[],[],[]⟩
def wqno(k:Nat){R:Type}(x0:(List Int))(x1:Int)(K:(Int→Option R)): Option R:=wqg0 k x0 x1 K
def wq86(k:Nat){R:Type}(x0:(List Int))(x1:Int)(K:(Int→Option R)): Option R:=wqno k x0 x1 K
theorem wqnp(k:Nat): DOK Tryz.prog 221 (h_bytes_IndexByte.run (@wq86 k)):=dok h_bytes_IndexByte (wqnn k) (fn:=Tryz.f221) (k:=k) (ok1 (fun _ _ _ _ _ h=>wqq7 k h) ok0) (by kernel_rfl) (by kernel_rfl) fun R=>by kernel_rfl
def h_bytes_Index:Sh:=⟨[.s (.int .u8),.k (.int .u8)],some ([],[.a kI]),none⟩
def wqm7(k:Nat)(wq57:(R:Type)→(List Int)→Int→(Int→Option R)→Option R): Cxt:=⟨[h_bytes_IndexByte.e 221 wq57],[],[],[]⟩
def wqm8(k:Nat)(wq57:(R:Type)→(List Int)→Int→(Int→Option R)→Option R){R:Type}(x0:(List Int))(x1:Int)(K:(Int→Option R)): Option R:=wq57 R x0 (([x1]).getD (Int.toNat 0) (Kd.zero (@Kd.int Go.IntKind.u8))) K
theorem wqv5(k:Nat)(wq57:(R:Type)→(List Int)→Int→(Int→Option R)→Option R)(R:Type): h_bytes_Index.at (wqm7 k wq57) k Tryz.f184 R=@wqm8 k wq57 R:=by kernel_rfl
def wqg1(k:Nat){R:Type}(x0:(List Int))(x1:Int)(K:(Int→Option R)): Option R:=wqm8 k (@wq86 k) x0 x1 K
theorem wqv6(k:Nat): DOK Tryz.prog 184 (h_bytes_Index.run (@wqg1 k)):=dok h_bytes_Index (wqm7 k (@wq86 k)) (fn:=Tryz.f184) (k:=k) (ok1 (wqnp k) ok0) (by kernel_rfl) (by kernel_rfl) fun R=>wqv5 k (@wq86 k) R
def wqv7(k:Nat): Ent:=h_bytes_Index.e 184 (@wqg1 k)
def h_bytes_genSplit:Sh:=⟨[.s (.int .u8),.k (.int .u8),.a kI,.a kI],some ([],[.s (.sl (.int .u8))]),none⟩
def u_bytes_genSplit_1011:Cu:=⟨0,[0,1,2,3,9,10],[.s (.int .u8),.k (.int .u8),.a kI,.a kI,.w 100009 22 (.sl (.int .u8)),.a kI]⟩
def wqg2(k:Nat): Cxt:=⟨[wqv4 k,wqv7 k],[],[(1011,u_bytes_genSplit_1011.spec)],[]⟩
def wqb9(k:Nat){R:Type}(E1011:((List Int)→Int→Int→Int→(List (List Int))→Int→Option R))(s0:(List Int))(s1 s2 s3:Int)(s4:(List (List Int)))(s5:Int)(K:((List (List Int))→Option R)): Option R:=cond (decide (s5<s3)) (wqg1 k s0 s1 (fun y10=>cond (decide (y10<0)) (cond (inb s5 (s4.length:Int)) (cond (bnd 0 (@Go.IntKind.wrap Go.IntKind.i64 (s5+1)) ((List.set s4 s5.toNat s0).length:Int)) (K (cut (List.set s4 s5.toNat s0) 0 (@Go.IntKind.wrap Go.IntKind.i64 (s5+1)))) none) none) (cond ((bnd 0 (@Go.IntKind.wrap Go.IntKind.i64 (y10+s2)) (@Go.IntKind.wrap Go.IntKind.i64 (y10+s2)))&&(decide ((@Go.IntKind.wrap Go.IntKind.i64 (y10+s2))≤(s0.length:Int)))) (cond (inb s5 (s4.length:Int)) (cond (bnd (@Go.IntKind.wrap Go.IntKind.i64 (y10+(@List.length (@Kd.T (@Kd.int Go.IntKind.u8)) [s1]:Int))) (s0.length:Int) (s0.length:Int)) (E1011 (cut s0 (@Go.IntKind.wrap Go.IntKind.i64 (y10+(@List.length (@Kd.T (@Kd.int Go.IntKind.u8)) [s1]:Int))) (s0.length:Int)) s1 s2 s3 (List.set s4 s5.toNat (cut s0 0 (@Go.IntKind.wrap Go.IntKind.i64 (y10+s2)))) (@Go.IntKind.wrap Go.IntKind.i64 (s5+1))) none) none) none))) (cond (inb s5 (s4.length:Int)) (cond (bnd 0 (@Go.IntKind.wrap Go.IntKind.i64 (s5+1)) ((List.set s4 s5.toNat s0).length:Int)) (K (cut (List.set s4 s5.toNat s0) 0 (@Go.IntKind.wrap Go.IntKind.i64 (s5+1)))) none) none)
def wqg3(k:Nat){R:Type}(E1011:((List Int)→Int→Int→Int→(List (List Int))→Int→Option R))(x0:(List Int))(x1 x2 x3:Int)(K:((List (List Int))→Option R)): Option R:=cond (x3 == 0) (K []) (cond (decide (x3<0)) (wqfz k x0 x1 (fun y8=>cond (mkB (cond false (@ite (@Kd.T kI) ((@Go.IntKind.wrap Go.IntKind.i64 ((x0.length:Int)+1))>(@Go.IntKind.wrap Go.IntKind.i64 (y8+1))) (@Int.decLt (@Go.IntKind.wrap Go.IntKind.i64 (y8+1)) (@Go.IntKind.wrap Go.IntKind.i64 ((x0.length:Int)+1))) (@Go.IntKind.wrap Go.IntKind.i64 ((x0.length:Int)+1)) (@Go.IntKind.wrap Go.IntKind.i64 (y8+1))) (@ite (@Kd.T kI) ((@Go.IntKind.wrap Go.IntKind.i64 ((x0.length:Int)+1))<(@Go.IntKind.wrap Go.IntKind.i64 (y8+1))) (@Int.decLt (@Go.IntKind.wrap Go.IntKind.i64 ((x0.length:Int)+1)) (@Go.IntKind.wrap Go.IntKind.i64 (y8+1))) (@Go.IntKind.wrap Go.IntKind.i64 ((x0.length:Int)+1)) (@Go.IntKind.wrap Go.IntKind.i64 (y8+1)))) (cond false (@ite (@Kd.T kI) ((@Go.IntKind.wrap Go.IntKind.i64 ((x0.length:Int)+1))>(@Go.IntKind.wrap Go.IntKind.i64 (y8+1))) (@Int.decLt (@Go.IntKind.wrap Go.IntKind.i64 (y8+1)) (@Go.IntKind.wrap Go.IntKind.i64 ((x0.length:Int)+1))) (@Go.IntKind.wrap Go.IntKind.i64 ((x0.length:Int)+1)) (@Go.IntKind.wrap Go.IntKind.i64 (y8+1))) (@ite (@Kd.T kI) ((@Go.IntKind.wrap Go.IntKind.i64 ((x0.length:Int)+1))<(@Go.IntKind.wrap Go.IntKind.i64 (y8+1))) (@Int.decLt (@Go.IntKind.wrap Go.IntKind.i64 ((x0.length:Int)+1)) (@Go.IntKind.wrap Go.IntKind.i64 (y8+1))) (@Go.IntKind.wrap Go.IntKind.i64 ((x0.length:Int)+1)) (@Go.IntKind.wrap Go.IntKind.i64 (y8+1)))) 24) (E1011 x0 x1 x2 (@Go.IntKind.wrap Go.IntKind.i64 ((cond false (@ite (@Kd.T kI) ((@Go.IntKind.wrap Go.IntKind.i64 ((x0.length:Int)+1))>(@Go.IntKind.wrap Go.IntKind.i64 (y8+1))) (@Int.decLt (@Go.IntKind.wrap Go.IntKind.i64 (y8+1)) (@Go.IntKind.wrap Go.IntKind.i64 ((x0.length:Int)+1))) (@Go.IntKind.wrap Go.IntKind.i64 ((x0.length:Int)+1)) (@Go.IntKind.wrap Go.IntKind.i64 (y8+1))) (@ite (@Kd.T kI) ((@Go.IntKind.wrap Go.IntKind.i64 ((x0.length:Int)+1))<(@Go.IntKind.wrap Go.IntKind.i64 (y8+1))) (@Int.decLt (@Go.IntKind.wrap Go.IntKind.i64 ((x0.length:Int)+1)) (@Go.IntKind.wrap Go.IntKind.i64 (y8+1))) (@Go.IntKind.wrap Go.IntKind.i64 ((x0.length:Int)+1)) (@Go.IntKind.wrap Go.IntKind.i64 (y8+1))))-1)) (zeros (@Kd.sl (@Kd.int Go.IntKind.u8)) (cond false (@ite (@Kd.T kI) ((@Go.IntKind.wrap Go.IntKind.i64 ((x0.length:Int)+1))>(@Go.IntKind.wrap Go.IntKind.i64 (y8+1))) (@Int.decLt (@Go.IntKind.wrap Go.IntKind.i64 (y8+1)) (@Go.IntKind.wrap Go.IntKind.i64 ((x0.length:Int)+1))) (@Go.IntKind.wrap Go.IntKind.i64 ((x0.length:Int)+1)) (@Go.IntKind.wrap Go.IntKind.i64 (y8+1))) (@ite (@Kd.T kI) ((@Go.IntKind.wrap Go.IntKind.i64 ((x0.length:Int)+1))<(@Go.IntKind.wrap Go.IntKind.i64 (y8+1))) (@Int.decLt (@Go.IntKind.wrap Go.IntKind.i64 ((x0.length:Int)+1)) (@Go.IntKind.wrap Go.IntKind.i64 (y8+1))) (@Go.IntKind.wrap Go.IntKind.i64 ((x0.length:Int)+1)) (@Go.IntKind.wrap Go.IntKind.i64 (y8+1))))) 0) none)) (cond (mkB (cond false (@ite (@Kd.T kI) ((@Go.IntKind.wrap Go.IntKind.i64 ((x0.length:Int)+1))>x3) (@Int.decLt x3 (@Go.IntKind.wrap Go.IntKind.i64 ((x0.length:Int)+1))) (@Go.IntKind.wrap Go.IntKind.i64 ((x0.length:Int)+1)) x3) (@ite (@Kd.T kI) ((@Go.IntKind.wrap Go.IntKind.i64 ((x0.length:Int)+1))<x3) (@Int.decLt (@Go.IntKind.wrap Go.IntKind.i64 ((x0.length:Int)+1)) x3) (@Go.IntKind.wrap Go.IntKind.i64 ((x0.length:Int)+1)) x3)) (cond false (@ite (@Kd.T kI) ((@Go.IntKind.wrap Go.IntKind.i64 ((x0.length:Int)+1))>x3) (@Int.decLt x3 (@Go.IntKind.wrap Go.IntKind.i64 ((x0.length:Int)+1))) (@Go.IntKind.wrap Go.IntKind.i64 ((x0.length:Int)+1)) x3) (@ite (@Kd.T kI) ((@Go.IntKind.wrap Go.IntKind.i64 ((x0.length:Int)+1))<x3) (@Int.decLt (@Go.IntKind.wrap Go.IntKind.i64 ((x0.length:Int)+1)) x3) (@Go.IntKind.wrap Go.IntKind.i64 ((x0.length:Int)+1)) x3)) 24) (E1011 x0 x1 x2 (@Go.IntKind.wrap Go.IntKind.i64 ((cond false (@ite (@Kd.T kI) ((@Go.IntKind.wrap Go.IntKind.i64 ((x0.length:Int)+1))>x3) (@Int.decLt x3 (@Go.IntKind.wrap Go.IntKind.i64 ((x0.length:Int)+1))) (@Go.IntKind.wrap Go.IntKind.i64 ((x0.length:Int)+1)) x3) (@ite (@Kd.T kI) ((@Go.IntKind.wrap Go.IntKind.i64 ((x0.length:Int)+1))<x3) (@Int.decLt (@Go.IntKind.wrap Go.IntKind.i64 ((x0.length:Int)+1)) x3) (@Go.IntKind.wrap Go.IntKind.i64 ((x0.length:Int)+1)) x3))-1)) (zeros (@Kd.sl (@Kd.int Go.IntKind.u8)) (cond false (@ite (@Kd.T kI) ((@Go.IntKind.wrap Go.IntKind.i64 ((x0.length:Int)+1))>x3) (@Int.decLt x3 (@Go.IntKind.wrap Go.IntKind.i64 ((x0.length:Int)+1))) (@Go.IntKind.wrap Go.IntKind.i64 ((x0.length:Int)+1)) x3) (@ite (@Kd.T kI) ((@Go.IntKind.wrap Go.IntKind.i64 ((x0.length:Int)+1))<x3) (@Int.decLt (@Go.IntKind.wrap Go.IntKind.i64 ((x0.length:Int)+1)) x3) (@Go.IntKind.wrap Go.IntKind.i64 ((x0.length:Int)+1)) x3))) 0) none))
def wq5n(k:Nat){R:Type}: Nat→(List Int)→Int→Int→Int→(List (List Int))→Int→((List (List Int))→Option R)→Option R
 |0,_,_,_,_,_,_,_=>none
 |n+1,s0,s1,s2,s3,s4,s5,K=>wqb9 k (fun s0 s1 s2 s3 s4 s5=>wq5n k n s0 s1 s2 s3 s4 s5 K) s0 s1 s2 s3 s4 s5 K
theorem wqei(k:Nat){R:Type}: ∀(I:Nat→St→Option R) (n:Nat),h_bytes_genSplit.lp u_bytes_genSplit_1011 (wqg2 k).cx k Tryz.f141 1011 [1,1,1,1,1,1,1,1,0,0] I n=wq5n k n:=h_bytes_genSplit.lok u_bytes_genSplit_1011 (B:=wqb9 k) (L:=wq5n k) (fun I=>by kernel_rfl) (fun I=>by kernel_rfl) (fun n=>by kernel_rfl) (fun _ _ _ _=>rfl)
def wqc7(k:Nat){R:Type}(x0:(List Int))(x1 x2 x3:Int)(K:((List (List Int))→Option R)): Option R:=wqg3 k (fun s0 s1 s2 s3 s4 s5=>wq5n k k s0 s1 s2 s3 s4 s5 K) x0 x1 x2 x3 K
theorem wqq8(k:Nat): DOK Tryz.prog 141 (h_bytes_genSplit.run (@wqc7 k)):=dok h_bytes_genSplit (wqg2 k) (fn:=Tryz.f141) (k:=k) (ok1 (wqv3 k) (ok1 (wqv6 k) ok0)) (by kernel_rfl) (by kernel_rfl) fun R=>h_bytes_genSplit.f1 u_bytes_genSplit_1011 (wqg3 k) (by kernel_rfl) (wqei k (fun _ _=>none) k) (by kernel_rfl)
def wqq9(k:Nat): Ent:=h_bytes_genSplit.e 141 (@wqc7 k)
def h_bytes_Split:Sh:=⟨[.s (.int .u8),.k (.int .u8)],some ([],[.s (.sl (.int .u8))]),none⟩
def wqv8(k:Nat): Cxt:=⟨[wqq9 k],[],[],[]⟩
def wqv9(k:Nat){R:Type}(x0:(List Int))(x1:Int)(K:((List (List Int))→Option R)): Option R:=wqc7 k x0 x1 0 (@Neg.neg Int @Int.instNegInt (1:Int)) K
def wqg4(k:Nat){R:Type}(x0:(List Int))(x1:Int)(K:((List (List Int))→Option R)): Option R:=wqv9 k x0 x1 K
theorem wqva(k:Nat): DOK Tryz.prog 95 (h_bytes_Split.run (@wqg4 k)):=dok h_bytes_Split (wqv8 k) (fn:=Tryz.f95) (k:=k) (ok1 (wqq8 k) ok0) (by kernel_rfl) (by kernel_rfl) fun R=>by kernel_rfl
def wqvb(k:Nat): Ent:=h_bytes_Split.e 95 (@wqg4 k)
def h_line_odd:Sh:=⟨[.a (.int .i32)],some ([],[.a .bool]),none⟩
def wq129(k:Nat): Cxt:=⟨[],[],[],[]⟩
def wq12a(k:Nat){R:Type}(x0:Int)(K:(Bool→Option R)): Option R:=K (cond (cond (decide (x0≥0)) (decide (x0<32)) false) true (x0 == 127))
def wqvc(k:Nat){R:Type}(x0:Int)(K:(Bool→Option R)): Option R:=wq12a k x0 K
theorem wqvd(k:Nat): DOK Tryz.prog 97 (h_line_odd.run (@wqvc k)):=dok h_line_odd (wq129 k) (fn:=Tryz.f97) (k:=k) ok0 (by kernel_rfl) (by kernel_rfl) fun R=>by kernel_rfl
def wq12b(k:Nat): Ent:=h_line_odd.e 97 (@wqvc k)
end Go.Proofs.YtabkhphoacmcdaaGreatDoor.Pvm
namespace Go.Proofs
open Go.Shelf
def Tryz.laysLaysGwn15_ren:Go.Shelf.Ren:=⟨fun|15=>96|20=>142|n=>n,fun|9=>9|23=>146|3=>3|4=>4|0=>0|21=>21|n=>n,fun|n=>n⟩
theorem Tryz.laysLaysGwn15:Go.Proofs.LaysGw.n15 Tryz.prog Tryz.laysLaysGwn15_ren:={
 mixed:=by kernel_rfl
 f15:=Tryz.func96.trans (congrArg some (by kernel_rfl))
 f20:=Tryz.func142.trans (congrArg some (by kernel_rfl))
 t0:=Tryz.underlying0
 a0:=Tryz.isAgg0
 z0:=Tryz.sizeOf0
 v0:=Tryz.zeroValue0
 i0:=by kernel_rfl
 t3:=Tryz.underlying3
 a3:=Tryz.isAgg3
 z3:=Tryz.sizeOf3
 v3:=Tryz.zeroValue3
 i3:=by kernel_rfl
 t4:=Tryz.underlying4
 a4:=Tryz.isAgg4
 z4:=Tryz.sizeOf4
 v4:=Tryz.zeroValue4
 i4:=by kernel_rfl
 t9:=Tryz.underlying9
 a9:=Tryz.isAgg9
 z9:=Tryz.sizeOf9
 v9:=Tryz.zeroValue9
 i9:=by kernel_rfl
 t21:=Tryz.underlying21
 a21:=Tryz.isAgg21
 z21:=Tryz.sizeOf21
 v21:=Tryz.zeroValue21
 i21:=by kernel_rfl
 t23:=Tryz.underlying146
 a23:=Tryz.isAgg146
 z23:=Tryz.sizeOf146
 v23:=Tryz.zeroValue146
 i23:=by kernel_rfl }
end Go.Proofs
namespace Go.Proofs.YtabkhphoacmcdaaGreatDoor.Pvm
open Go Go.Proofs Go.RowKit Go.Shelf
def oddP(n:Nat): Bool:=cond (cond (decide ((n:Int)≥0)) (decide ((n:Int)<32)) false) true ((n:Int) == 127)
def idxOdd(s:List UInt8): Int:=Lib.idxFunc oddP true ⟨s.toArray⟩
def wqh6:List LS:=[.any,.clo []]
def wqcj(k:Nat){R:Type}(x0:List UInt8)(K:Int→Option R): Option R:=K (idxOdd x0)
def wq7p(k:Nat){R:Type}: List PV→List (Nm×HObj)→(Out→Option R)→Option R
 |[.v .str x0,.clo 97 []],[],K=>wqcj k x0 (fun y0=>K (.ret [.v (.int .i64) y0] []))
 |_,_,_=>none
theorem wq13e(w:World): PredGrows Tryz.prog 97 #[] oddP w:=by
 intro W x hx hb
 exact wqyi (P:=Tryz.prog) (f:=97) (fn:=Tryz.f97) (c:=Tryz.f97.body.getD .skip) (by kernel_rfl) (by kernel_rfl) (by kernel_rfl) (ps:=[.v (.int .i32) (x:Int)]) (b:=oddP x)
  (wqvd 0 _ _ _ lawK (oddP x) rfl) (vals:=[.int .i32 (x:Int)]) ⟨_,[],rfl,rfl,rfl⟩
theorem wqk0(k:Nat){ps:List PV}{hp:List (Nm×HObj)}{R:Type}{K:Out→Option R}{r:R}(h:wq7p k ps hp K=some r): DoesTo Tryz.prog 96 ps hp fun out=>K out=some r:=by
 unfold wq7p at h
 split at h
 ·next x0 =>
  intro G w vals hr obj dis
  obtain⟨v0,l0,rfl,h0,v1,l1,rfl,h1,rfl⟩:=hr
  have e0:v0 = .string ⟨x0.toArray⟩:=by simpa [RV,RD]using h0
  obtain⟨vs,e1,hvs⟩:=h1
  obtain rfl:vs=[]:=hvs
  subst e0 e1
  have c:=Any.strings_IndexFunc_grows Tryz.laysLaysGwn15 97 #[] (enters (P:=Tryz.prog) (fn:=Tryz.f97) (c:=Tryz.f97.body.getD .skip) (by kernel_rfl) (by kernel_rfl) (by kernel_rfl)) oddP ⟨x0.toArray⟩ w (wq13e w)
  show Does _ _ #[_,_] _ _
  unfold Does
  rw[enters (P:=Tryz.prog) (fn:=Tryz.f96) (c:=Tryz.f96.body.getD .skip) (by kernel_rfl) (by kernel_rfl) (by kernel_rfl)]
  refine Calls.mono c fun e w' hh => ?_
  obtain⟨rfl,b⟩:=hh
  exact⟨.ret [.v (.int .i64) (idxOdd x0)] [],h,G,⟨_,rfl,rfl⟩,wqyj b⟩
 ·cases h
end Go.Proofs.YtabkhphoacmcdaaGreatDoor.Pvm
namespace Go.Proofs.YtabkhphoacmcdaaGreatDoor.Pvm
open Go Go.Proofs
def h_strings_trimLeftByte:Sh:=⟨[.a .str,.a (.int .u8)],some ([],[.a .str]),none⟩
def u_strings_trimLeftByte_1001:Cu:=⟨0,[0,1],[.a .str,.a (.int .u8)]⟩
def wqar(k:Nat): Cxt:=⟨[],[],[(1001,u_strings_trimLeftByte_1001.spec)],[]⟩
def wq7i(k:Nat){R:Type}(E1001:((List UInt8)→Int→Option R))(s0:(List UInt8))(s1:Int)(K:((List UInt8)→Option R)): Option R:=cond ((!((decide ((s0.length:Int)>0)) == true)) || (inb 0 (s0.length:Int))) (cond (cond (decide ((s0.length:Int)>0)) (((s0.getD (Int.toNat 0) 0).toNat:Int) == s1) false) (cond (bnd 1 (s0.length:Int) (s0.length:Int)) (E1001 (cut s0 1 (s0.length:Int)) s1) none) (K s0)) none
def wqas(k:Nat){R:Type}(E1001:((List UInt8)→Int→Option R))(x0:(List UInt8))(x1:Int)(K:((List UInt8)→Option R)): Option R:=E1001 x0 x1
def wq3q(k:Nat){R:Type}: Nat→(List UInt8)→Int→((List UInt8)→Option R)→Option R
 |0,_,_,_=>none
 |n+1,s0,s1,K=>wq7i k (fun s0 s1=>wq3q k n s0 s1 K) s0 s1 K
theorem wqb4(k:Nat){R:Type}: ∀(I:Nat→St→Option R) (n:Nat),h_strings_trimLeftByte.lp u_strings_trimLeftByte_1001 (wqar k).cx k Tryz.f143 1001 [1,0,0] I n=wq3q k n:=h_strings_trimLeftByte.lok u_strings_trimLeftByte_1001 (B:=wq7i k) (L:=wq3q k) (fun I=>by kernel_rfl) (fun I=>by kernel_rfl) (fun n=>by kernel_rfl) (fun _ _ _ _=>rfl)
def wq6t(k:Nat){R:Type}(x0:(List UInt8))(x1:Int)(K:((List UInt8)→Option R)): Option R:=wqas k (fun s0 s1=>wq3q k k s0 s1 K) x0 x1 K
theorem wqg5(k:Nat): DOK Tryz.prog 143 (h_strings_trimLeftByte.run (@wq6t k)):=dok h_strings_trimLeftByte (wqar k) (fn:=Tryz.f143) (k:=k) ok0 (by kernel_rfl) (by kernel_rfl) fun R=>h_strings_trimLeftByte.f1 u_strings_trimLeftByte_1001 (wqas k) (by kernel_rfl) (wqb4 k (fun _ _=>none) k) (by kernel_rfl)
def wqg6(k:Nat): Ent:=h_strings_trimLeftByte.e 143 (@wq6t k)
def h_strings_TrimLeft:Sh:=⟨[.a .str,.j],some ([],[.a .str]),none⟩
def wqld(k:Nat): Cxt:=⟨[wqg6 k],[],[],[]⟩
def wqle(k:Nat){R:Type}(x0:(List UInt8))(x1:UInt8)(K:((List UInt8)→Option R)): Option R:=cond (cond (x0 == []) true ([x1] == [])) (K x0) (cond (cond ((@List.length UInt8 [x1]:Int) == 1) (decide (((([x1]).getD (Int.toNat 0) 0).toNat:Int)<128)) false) (wq6t k x0 ((([x1]).getD (Int.toNat 0) 0).toNat:Int) K) none)
def wqa4(k:Nat){R:Type}(x0:(List UInt8))(x1:UInt8)(K:((List UInt8)→Option R)): Option R:=wqle k x0 x1 K
theorem wqlf(k:Nat): DOK Tryz.prog 98 (h_strings_TrimLeft.run (@wqa4 k)):=dok h_strings_TrimLeft (wqld k) (fn:=Tryz.f98) (k:=k) (ok1 (wqg5 k) ok0) (by kernel_rfl) (by kernel_rfl) fun R=>by kernel_rfl
def wqlg(k:Nat): Ent:=h_strings_TrimLeft.e 98 (@wqa4 k)
def h_line_Lines:Sh:=⟨[.s (.int .u8)],some ([],[.s kdT150,.g [.a kI,.a kI]]),none⟩
def u_line_Lines_1005:Cu:=⟨0,[3,4,17,18,19],[.o 13 29 0 [.a kI,.a kI],.w 100004 151 kdT150,.s (.sl (.int .u8)),.a kI,.a kI]⟩
def wqqa(k:Nat): Cxt:=⟨[wqvb k,⟨96,wqh6,wq7p k⟩,wq12b k,wqlg k,wqpt k],[],[(1005,u_line_Lines_1005.spec)],[]⟩
def wqf0(k:Nat){R:Type}(E1005:(Int→Int→(List dT150)→(List (List Int))→Int→Int→Option R))(s0 s1:Int)(s2:(List dT150))(s3:(List (List Int)))(s4 s5:Int)(K:((List dT150)→Int→Int→Option R)): Option R:=cond (decide (s5<s4)) (cond (inb s5 (s3.length:Int)) (wqcj k (wq3z (s3.getD s5.toNat (Kd.zero (@Kd.sl (@Kd.int Go.IntKind.u8))))) (fun y10=>cond (decide (y10≥0)) (K [] 2 (@Go.IntKind.wrap Go.IntKind.i64 (s5+1))) (wqa4 k (wq3z (s3.getD s5.toNat (Kd.zero (@Kd.sl (@Kd.int Go.IntKind.u8))))) 32 (fun y11=>wqee k y11 (fun y12 y13=>cond (!y13) (K [] 3 (@Go.IntKind.wrap Go.IntKind.i64 (s5+1))) (cond (!(y12 == [])) (cond (fits s2.length (@List.length (@Kd.T kdT150) [((@Go.IntKind.wrap Go.IntKind.i64 (s5+1)),((@Go.IntKind.wrap Go.IntKind.i64 (((wq3z (s3.getD s5.toNat (Kd.zero (@Kd.sl (@Kd.int Go.IntKind.u8))))).length:Int)-(y11.length:Int))),y12))]) 32) (E1005 s0 s1 (s2++[((@Go.IntKind.wrap Go.IntKind.i64 (s5+1)),((@Go.IntKind.wrap Go.IntKind.i64 (((wq3z (s3.getD s5.toNat (Kd.zero (@Kd.sl (@Kd.int Go.IntKind.u8))))).length:Int)-(y11.length:Int))),y12))]) s3 s4 (@Go.IntKind.wrap Go.IntKind.i64 (s5+1))) none) (E1005 s0 s1 s2 s3 s4 (@Go.IntKind.wrap Go.IntKind.i64 (s5+1))))))))) none) (K s2 0 0)
def wqqb(k:Nat){R:Type}(E1005:(Int→Int→(List dT150)→(List (List Int))→Int→Int→Option R))(x0:(List Int))(K:((List dT150)→Int→Int→Option R)): Option R:=cond (decide ((x0.length:Int)>16384)) (K [] 1 1) (wqg4 k x0 10 (fun y5=>E1005 0 0 [] y5 (y5.length:Int) 0))
def wq87(k:Nat){R:Type}: Nat→Int→Int→(List dT150)→(List (List Int))→Int→Int→((List dT150)→Int→Int→Option R)→Option R
 |0,_,_,_,_,_,_,_=>none
 |n+1,s0,s1,s2,s3,s4,s5,K=>wqf0 k (fun s0 s1 s2 s3 s4 s5=>wq87 k n s0 s1 s2 s3 s4 s5 K) s0 s1 s2 s3 s4 s5 K
theorem wqik(k:Nat){R:Type}: ∀(I:Nat→St→Option R) (n:Nat),h_line_Lines.lp u_line_Lines_1005 (wqqa k).cx k Tryz.f57 1005 [1,1,1,0,1,0] I n=wq87 k n:=h_line_Lines.lok u_line_Lines_1005 (B:=wqf0 k) (L:=wq87 k) (fun I=>by kernel_rfl) (fun I=>by kernel_rfl) (fun n=>by kernel_rfl) (fun _ _ _ _=>rfl)
def wqil(k:Nat){R:Type}(x0:(List Int))(K:((List dT150)→Int→Int→Option R)): Option R:=wqqb k (fun s0 s1 s2 s3 s4 s5=>wq87 k k s0 s1 s2 s3 s4 s5 K) x0 K
theorem wqx3(k:Nat): DOK Tryz.prog 57 (h_line_Lines.run (@wqil k)):=dok h_line_Lines (wqqa k) (fn:=Tryz.f57) (k:=k) (ok1 (wqva k) (ok1 (fun _ _ _ _ _ h=>wqk0 k h) (ok1 (wqvd k) (ok1 (wqlf k) (ok1 (wqps k) ok0))))) (by kernel_rfl) (by kernel_rfl) fun R=>h_line_Lines.f1 u_line_Lines_1005 (wqqb k) (by kernel_rfl) (wqik k (fun _ _=>none) k) (by kernel_rfl)
def wqx4(k:Nat): Ent:=h_line_Lines.e 57 (@wqil k)
def h_doc_Parse:Sh:=⟨[.s (.int .u8)],some ([],[.g [.s kdT72],.g [.a kI,.a kI]]),none⟩
def wqzq(k:Nat): Cxt:=⟨[wqx4 k,wq13d k,⟨59,wq126,wqq5 k⟩],[],[],[(3,(.of [(0,1),(1,2),(2,0),(3,0)] .done)),(6,(.of [(0,1),(1,2),(2,0),(3,0)] .done))]⟩
def wqzr(k:Nat){R:Type}(x0:(List Int))(K:((List dT72)→Int→Int→Option R)): Option R:=wqil k x0 (fun y4 y5 y6=>cond (y5 != 0) (K [] y5 y6) (wqtg k y4 (fun y7 y8 y9=>cond (y8 != 0) (K [] y8 y9) (wqx1 k y7 K))))
def wqlh(k:Nat){R:Type}(x0:(List Int))(K:((List dT72)→Int→Int→Option R)): Option R:=wqzr k x0 K
theorem wqzs(k:Nat): DOK Tryz.prog 29 (h_doc_Parse.run (@wqlh k)):=dok h_doc_Parse (wqzq k) (fn:=Tryz.f29) (k:=k) (ok1 (wqx3 k) (ok1 (wq13c k) (ok1 (fun _ _ _ _ _ h=>wq149 k h) ok0))) (by kernel_rfl) (by kernel_rfl) fun R=>by kernel_rfl
def wqzt(k:Nat): Ent:=h_doc_Parse.e 29 (@wqlh k)
def h_config_Parse:Sh:=⟨[.s (.int .u8)],some ([],[.g [.s (.pr .str (.sl kI)),.s kdT56],.g [.a kI,.a kI]]),none⟩
def wqti(k:Nat): Cxt:=⟨[⟨16,wqm4,wqci k⟩,wqzt k],[],[],[(3,(.of [(0,1),(1,2),(2,0),(3,0)] .done))]⟩
def wqtj(k:Nat){R:Type}(x0:(List Int))(K:((List ((List UInt8)×(List Int)))→(List dT56)→Int→Int→Option R)): Option R:=wqlh k x0 (fun y4 y5 y6=>cond (y5 != 0) (K [] [] y5 y6) (wqbq k y4 K))
def wq79(k:Nat){R:Type}(x0:(List Int))(K:((List ((List UInt8)×(List Int)))→(List dT56)→Int→Int→Option R)): Option R:=wqtj k x0 K
theorem wqk1(k:Nat): DOK Tryz.prog 11 (h_config_Parse.run (@wq79 k)):=dok h_config_Parse (wqti k) (fn:=Tryz.f11) (k:=k) (ok1 (fun _ _ _ _ _ h=>wqs9 k h) (ok1 (wqzs k) ok0)) (by kernel_rfl) (by kernel_rfl) fun R=>by kernel_rfl
def wqtk(k:Nat): Ent:=h_config_Parse.e 11 (@wq79 k)
def h_cmp_isNaN_float64:Sh:=⟨[.a .flt],some ([],[.a .bool]),none⟩
def wqk2(k:Nat): Cxt:=⟨[],[],[],[]⟩
def wqk3(k:Nat){R:Type}(x0:Nat)(K:(Bool→Option R)): Option R:=K (@fltIs @Go.BinOp.neq x0 x0)
def wq6m(k:Nat){R:Type}(x0:Nat)(K:(Bool→Option R)): Option R:=wqk3 k x0 K
theorem wqk4(k:Nat): DOK Tryz.prog 247 (h_cmp_isNaN_float64.run (@wq6m k)):=dok h_cmp_isNaN_float64 (wqk2 k) (fn:=Tryz.f247) (k:=k) ok0 (by kernel_rfl) (by kernel_rfl) fun R=>by kernel_rfl
def wqk5(k:Nat): Ent:=h_cmp_isNaN_float64.e 247 (@wq6m k)
def h_cmp_Compare_float64:Sh:=⟨[.a .flt,.a .flt],some ([],[.a kI]),none⟩
def wqh7(k:Nat): Cxt:=⟨[wqk5 k],[],[],[]⟩
def wqh8(k:Nat){R:Type}(x0 x1:Nat)(K:(Int→Option R)): Option R:=wq6m k x0 (fun y5=>wq6m k x1 (fun y6=>cond y5 (cond y6 (K 0) (K (@Neg.neg Int @Int.instNegInt (1:Int)))) (cond y6 (K 1) (cond (@fltIs @Go.BinOp.lss x0 x1) (K (@Neg.neg Int @Int.instNegInt (1:Int))) (cond (@fltIs @Go.BinOp.gtr x0 x1) (K 1) (K 0))))))
def wq3l(k:Nat){R:Type}(x0 x1:Nat)(K:(Int→Option R)): Option R:=wqh8 k x0 x1 K
theorem wqba(k:Nat): DOK Tryz.prog 217 (h_cmp_Compare_float64.run (@wq3l k)):=dok h_cmp_Compare_float64 (wqh7 k) (fn:=Tryz.f217) (k:=k) (ok1 (wqk4 k) ok0) (by kernel_rfl) (by kernel_rfl) fun R=>by kernel_rfl
def wqh9(k:Nat): Ent:=h_cmp_Compare_float64.e 217 (@wq3l k)
def h_cmp_isNaN_int:Sh:=⟨[.a kI],some ([],[.a .bool]),none⟩
def wqr3(k:Nat): Cxt:=⟨[],[],[],[]⟩
def wqr4(k:Nat){R:Type}(x0:Int)(K:(Bool→Option R)): Option R:=K (x0 != x0)
def wqah(k:Nat){R:Type}(x0:Int)(K:(Bool→Option R)): Option R:=wqr4 k x0 K
theorem wqr5(k:Nat): DOK Tryz.prog 246 (h_cmp_isNaN_int.run (@wqah k)):=dok h_cmp_isNaN_int (wqr3 k) (fn:=Tryz.f246) (k:=k) ok0 (by kernel_rfl) (by kernel_rfl) fun R=>by kernel_rfl
def wqr6(k:Nat): Ent:=h_cmp_isNaN_int.e 246 (@wqah k)
def h_cmp_Compare_int:Sh:=⟨[.a kI,.a kI],some ([],[.a kI]),none⟩
def wqnq(k:Nat): Cxt:=⟨[wqr6 k],[],[],[]⟩
def wqnr(k:Nat){R:Type}(x0 x1:Int)(K:(Int→Option R)): Option R:=wqah k x0 (fun y5=>wqah k x1 (fun y6=>cond y5 (cond y6 (K 0) (K (@Neg.neg Int @Int.instNegInt (1:Int)))) (cond y6 (K 1) (cond (decide (x0<x1)) (K (@Neg.neg Int @Int.instNegInt (1:Int))) (cond (decide (x0>x1)) (K 1) (K 0))))))
def wq88(k:Nat){R:Type}(x0 x1:Int)(K:(Int→Option R)): Option R:=wqnr k x0 x1 K
theorem wqns(k:Nat): DOK Tryz.prog 216 (h_cmp_Compare_int.run (@wq88 k)):=dok h_cmp_Compare_int (wqnq k) (fn:=Tryz.f216) (k:=k) (ok1 (wqr5 k) ok0) (by kernel_rfl) (by kernel_rfl) fun R=>by kernel_rfl
def h_math_Signbit:Sh:=⟨[.a .flt],some ([],[.a .bool]),none⟩
def wqtl(k:Nat): Cxt:=⟨[⟨170,wq8f,wq4m k⟩],[],[],[]⟩
def wqtm(k:Nat){R:Type}(x0:Nat)(K:(Bool→Option R)): Option R:=wq5o k x0 (fun y4=>K (decide ((@Go.IntKind.wrap Go.IntKind.i64 y4)<0)))
def wq2d(k:Nat){R:Type}(x0:Nat)(K:(Bool→Option R)): Option R:=wqtm k x0 K
theorem wqbk(k:Nat): DOK Tryz.prog 161 (h_math_Signbit.run (@wq2d k)):=dok h_math_Signbit (wqtl k) (fn:=Tryz.f161) (k:=k) (ok1 (fun _ _ _ _ _ h=>wq9y k h) ok0) (by kernel_rfl) (by kernel_rfl) fun R=>by kernel_rfl
def wqtn(k:Nat): Ent:=h_math_Signbit.e 161 (@wq2d k)
def h_ratio_place:Sh:=⟨[.a .flt],some ([],[.a kI]),none⟩
def wqve(k:Nat): Cxt:=⟨[wqp4 k,wqh9 k],[],[],[]⟩
def wqvf(k:Nat){R:Type}(x0:Nat)(K:(Int→Option R)): Option R:=wq2l k x0 (fun y4=>cond y4 (K 2) (wq3l k x0 0 K))
def wqck(k:Nat){R:Type}(x0:Nat)(K:(Int→Option R)): Option R:=wqvf k x0 K
theorem wqvg(k:Nat): DOK Tryz.prog 215 (h_ratio_place.run (@wqck k)):=dok h_ratio_place (wqve k) (fn:=Tryz.f215) (k:=k) (ok1 (wqdx k) (ok1 (wqba k) ok0)) (by kernel_rfl) (by kernel_rfl) fun R=>by kernel_rfl
def h_ratio_Order:Sh:=⟨[.a .flt,.a .flt],some ([],[.a kI]),none⟩
def wqm9(k:Nat)(wqg:(R:Type)→Nat→(Bool→Option R)→Option R)(wq6w:(R:Type)→Nat→(Int→Option R)→Option R)(wq58:(R:Type)→Int→Int→(Int→Option R)→Option R)(wq3n:(R:Type)→Nat→Nat→(Int→Option R)→Option R): Cxt:=⟨[h_math_Signbit.e 161 wqg,h_ratio_place.e 215 wq6w,h_cmp_Compare_int.e 216 wq58,h_cmp_Compare_float64.e 217 wq3n],[],[],[]⟩
def wqma(k:Nat)(wqg:(R:Type)→Nat→(Bool→Option R)→Option R)(wq6w:(R:Type)→Nat→(Int→Option R)→Option R)(wq58:(R:Type)→Int→Int→(Int→Option R)→Option R)(wq3n:(R:Type)→Nat→Nat→(Int→Option R)→Option R){R:Type}(x0 x1:Nat)(K:(Int→Option R)): Option R:=wq6w R x0 (fun y5=>wq6w R x1 (fun y6=>cond (y5 != y6) (wq58 R y5 y6 K) (cond (y5 == 2) (K 0) (cond (y5 != 0) (wq3n R x0 x1 K) (wqg R x0 (fun y7=>wqg R x1 (fun y8=>cond (y7 == y8) (K 0) (cond y7 (K (@Neg.neg Int @Int.instNegInt (1:Int))) (K 1)))))))))
theorem wqvh(k:Nat)(wqg:(R:Type)→Nat→(Bool→Option R)→Option R)(wq6w:(R:Type)→Nat→(Int→Option R)→Option R)(wq58:(R:Type)→Int→Int→(Int→Option R)→Option R)(wq3n:(R:Type)→Nat→Nat→(Int→Option R)→Option R)(R:Type): h_ratio_Order.at (wqm9 k wqg wq6w wq58 wq3n) k Tryz.f181 R=@wqma k wqg wq6w wq58 wq3n R:=by kernel_rfl
def wqat(k:Nat){R:Type}(x0 x1:Nat)(K:(Int→Option R)): Option R:=wqma k (@wq2d k) (@wqck k) (@wq88 k) (@wq3l k) x0 x1 K
theorem wqmb(k:Nat): DOK Tryz.prog 181 (h_ratio_Order.run (@wqat k)):=dok h_ratio_Order (wqm9 k (@wq2d k) (@wqck k) (@wq88 k) (@wq3l k)) (fn:=Tryz.f181) (k:=k) (ok1 (wqbk k) (ok1 (wqvg k) (ok1 (wqns k) (ok1 (wqba k) ok0)))) (by kernel_rfl) (by kernel_rfl) fun R=>wqvh k (@wq2d k) (@wqck k) (@wq88 k) (@wq3l k) R
def wqmc(k:Nat): Ent:=h_ratio_Order.e 181 (@wqat k)
def h_ratio_Same:Sh:=⟨[.a .flt,.a .flt],some ([],[.a .bool]),none⟩
def wqx5(k:Nat): Cxt:=⟨[wqmc k],[],[],[]⟩
def wqx6(k:Nat){R:Type}(x0 x1:Nat)(K:(Bool→Option R)): Option R:=wqat k x0 x1 (fun y5=>K (y5 == 0))
def wq48(k:Nat){R:Type}(x0 x1:Nat)(K:(Bool→Option R)): Option R:=wqx6 k x0 x1 K
theorem wqim(k:Nat): DOK Tryz.prog 140 (h_ratio_Same.run (@wq48 k)):=dok h_ratio_Same (wqx5 k) (fn:=Tryz.f140) (k:=k) (ok1 (wqmb k) ok0) (by kernel_rfl) (by kernel_rfl) fun R=>by kernel_rfl
def wqx7(k:Nat): Ent:=h_ratio_Same.e 140 (@wq48 k)
def h_math_IsInf:Sh:=⟨[.a .flt,.a kI],some ([],[.a .bool]),none⟩
def wqx8(k:Nat): Cxt:=⟨[wq11l k],[],[],[]⟩
def wqx9(k:Nat){R:Type}(x0:Nat)(x1:Int)(K:(Bool→Option R)): Option R:=cond (x1 == 0) (wq4n k x0 (fun y5=>K (@fltIs @Go.BinOp.gtr y5 (9218868437227405311:Nat)))) (cond (decide (x1<0)) (K (@fltIs @Go.BinOp.gtr (@fltNeg x0) (9218868437227405311:Nat))) (K (@fltIs @Go.BinOp.gtr x0 (9218868437227405311:Nat))))
def wqej(k:Nat){R:Type}(x0:Nat)(x1:Int)(K:(Bool→Option R)): Option R:=wqx9 k x0 x1 K
theorem wqxa(k:Nat): DOK Tryz.prog 212 (h_math_IsInf.run (@wqej k)):=dok h_math_IsInf (wqx8 k) (fn:=Tryz.f212) (k:=k) (ok1 (wqj4 k) ok0) (by kernel_rfl) (by kernel_rfl) fun R=>by kernel_rfl
end Go.Proofs.YtabkhphoacmcdaaGreatDoor.Pvm
namespace Go.Proofs
open Go.Shelf
def Tryz.laysLaysn105_ren:Go.Shelf.Ren:=⟨fun|105=>19|212=>40|99=>41|165=>42|166=>43|170=>44|169=>45|263=>86|264=>87|206=>88|240=>89|241=>90|276=>137|277=>138|n=>n,fun|9=>9|3=>3|4=>4|20=>20|0=>0|46=>83|109=>84|5=>5|72=>89|76=>93|51=>134|146=>135|53=>137|148=>138|70=>87|37=>22|75=>92|127=>140|164=>184|80=>96|n=>n,fun|n=>n⟩
theorem Tryz.laysLaysn105:Go.Proofs.Lays.n105 Tryz.prog Tryz.laysLaysn105_ren:={
 mixed:=by kernel_rfl
 f99:=Tryz.func41.trans (congrArg some (by kernel_rfl))
 f105:=Tryz.func19.trans (congrArg some (by kernel_rfl))
 f165:=Tryz.func42.trans (congrArg some (by kernel_rfl))
 f166:=Tryz.func43.trans (congrArg some (by kernel_rfl))
 f169:=Tryz.func45.trans (congrArg some (by kernel_rfl))
 f170:=Tryz.func44.trans (congrArg some (by kernel_rfl))
 f206:=Tryz.func88.trans (congrArg some (by kernel_rfl))
 f212:=Tryz.func40.trans (congrArg some (by kernel_rfl))
 f240:=Tryz.func89.trans (congrArg some (by kernel_rfl))
 f241:=Tryz.func90.trans (congrArg some (by kernel_rfl))
 f263:=Tryz.func86.trans (congrArg some (by kernel_rfl))
 f264:=Tryz.func87.trans (congrArg some (by kernel_rfl))
 f276:=Tryz.func137.trans (congrArg some (by kernel_rfl))
 f277:=Tryz.func138.trans (congrArg some (by kernel_rfl))
 t0:=Tryz.underlying0
 a0:=Tryz.isAgg0
 z0:=Tryz.sizeOf0
 v0:=Tryz.zeroValue0
 t3:=Tryz.underlying3
 a3:=Tryz.isAgg3
 z3:=Tryz.sizeOf3
 v3:=Tryz.zeroValue3
 t4:=Tryz.underlying4
 a4:=Tryz.isAgg4
 z4:=Tryz.sizeOf4
 v4:=Tryz.zeroValue4
 t5:=Tryz.underlying5
 a5:=Tryz.isAgg5
 z5:=Tryz.sizeOf5
 v5:=Tryz.zeroValue5
 t9:=Tryz.underlying9
 a9:=Tryz.isAgg9
 z9:=Tryz.sizeOf9
 v9:=Tryz.zeroValue9
 t20:=Tryz.underlying20
 a20:=Tryz.isAgg20
 z20:=Tryz.sizeOf20
 v20:=Tryz.zeroValue20
 t37:=Tryz.underlying22
 a37:=Tryz.isAgg22
 z37:=Tryz.sizeOf22
 v37:=Tryz.zeroValue22
 t46:=Tryz.underlying83
 a46:=Tryz.isAgg83
 z46:=Tryz.sizeOf83
 v46:=Tryz.zeroValue83
 t51:=Tryz.underlying134
 a51:=Tryz.isAgg134
 z51:=Tryz.sizeOf134
 v51:=Tryz.zeroValue134
 t53:=Tryz.underlying137
 a53:=Tryz.isAgg137
 z53:=Tryz.sizeOf137
 v53:=Tryz.zeroValue137
 t70:=Tryz.underlying87
 a70:=Tryz.isAgg87
 z70:=Tryz.sizeOf87
 v70:=Tryz.zeroValue87
 t72:=Tryz.underlying89
 a72:=Tryz.isAgg89
 z72:=Tryz.sizeOf89
 v72:=Tryz.zeroValue89
 t75:=Tryz.underlying92
 a75:=Tryz.isAgg92
 z75:=Tryz.sizeOf92
 v75:=Tryz.zeroValue92
 t76:=Tryz.underlying93
 a76:=Tryz.isAgg93
 z76:=Tryz.sizeOf93
 v76:=Tryz.zeroValue93
 t109:=Tryz.underlying84
 a109:=Tryz.isAgg84
 z109:=Tryz.sizeOf84
 v109:=Tryz.zeroValue84
 t127:=Tryz.underlying140
 a127:=Tryz.isAgg140
 z127:=Tryz.sizeOf140
 v127:=Tryz.zeroValue140
 t146:=Tryz.underlying135
 a146:=Tryz.isAgg135
 z146:=Tryz.sizeOf135
 v146:=Tryz.zeroValue135
 t148:=Tryz.underlying138
 a148:=Tryz.isAgg138
 z148:=Tryz.sizeOf138
 v148:=Tryz.zeroValue138
 t164:=Tryz.underlying184
 a164:=Tryz.isAgg184
 z164:=Tryz.sizeOf184
 v164:=Tryz.zeroValue184 }
theorem Tryz.extra105:Builder.Extra Tryz.prog Tryz.laysLaysn105_ren where
 sizeBuilder:=by kernel_rfl
 liesBuilder:=by kernel_rfl
 t5:=Tryz.underlying5
 a5:=Tryz.isAgg5
 z5:=Tryz.sizeOf5
 v5:=Tryz.zeroValue5
 infoByte:=by kernel_rfl
 cellsByte:=by kernel_rfl
 sizeByte:=by kernel_rfl
 neB5:=by decide
end Go.Proofs
namespace Go.Proofs.YtabkhphoacmcdaaGreatDoor.Pvm
open Go Go.Proofs Go.RowKit Go.Shelf
def repS(s:List UInt8)(n:Nat): List UInt8:=Lib.repeatL s n
def wqdl:List LS:=[.any,.any]
def wq6u(k:Nat){R:Type}(x0:List UInt8)(x1:Int)(K:List UInt8→Option R): Option R:=bif decide (0≤x1)&&decide (x1≤1000000)&&decide (x0.length≤1000000)then K (repS x0 x1.toNat)else none
def wq7a(k:Nat){R:Type}: List PV→List (Nm×HObj)→(Out→Option R)→Option R
 |[.v .str x0,.v (.int .i64) x1],[],K=>wq6u k x0 x1 (fun y0=>K (.ret [.v .str y0] []))
 |_,_,_=>none
theorem wqg7(k:Nat){ps:List PV}{hp:List (Nm×HObj)}{R:Type}{K:Out→Option R}{r:R}(h:wq7a k ps hp K=some r): DoesTo Tryz.prog 19 ps hp fun out=>K out=some r:=by
 unfold wq7a at h
 split at h
 ·next x0 x1 =>
  intro G w vals hr obj dis
  obtain⟨v0,l0,rfl,h0,v1,l1,rfl,h1,rfl⟩:=hr
  have e0:v0 = .string ⟨x0.toArray⟩:=by simpa [RV,RD]using h0
  have e1:v1 = .int .i64 x1:=by simpa [RV,RD]using h1
  subst e0 e1
  unfold wq6u at h
  cases hx:(decide (0≤x1)&&decide (x1≤1000000)&&decide (x0.length≤1000000))with
  |false=>rw[hx]at h;cases h
  |true =>
   rw[hx,cond_true]at h
   simp only[Bool.and_eq_true,decide_eq_true_eq]at hx
   obtain⟨⟨g0,g1⟩,g2⟩:=hx
   obtain⟨n,rfl⟩:∃ n:Nat,x1=(n:Int):=⟨x1.toNat,(Int.toNat_of_nonneg g0).symm⟩
   have hn:n≤1000000:=by
    have:(n:Int)≤1000000:=g1
    omega
   have hsz:(⟨x0.toArray⟩:ByteArray).size=x0.length:=by simp[ByteArray.size]
   have hmul:x0.length*n≤1000000*1000000:=Nat.mul_le_mul g2 hn
   have c:=Any.strings_Repeat Tryz.laysLaysn105 Tryz.extra105 ⟨x0.toArray⟩ n w (by omega) (by rw[hsz];omega)
   show Does _ _ #[_,_] _ _
   unfold Does
   rw[enters (P:=Tryz.prog) (fn:=Tryz.f19) (c:=Tryz.f19.body.getD .skip) (by kernel_rfl) (by kernel_rfl) (by kernel_rfl)]
   refine Calls.mono c fun e w' hh => ?_
   obtain⟨rfl,b⟩:=hh
   exact⟨.ret [.v .str (repS x0 n)] [],h,G,⟨_,rfl,rfl⟩,wqyj b⟩
 ·cases h
end Go.Proofs.YtabkhphoacmcdaaGreatDoor.Pvm
namespace Go.Proofs.YtabkhphoacmcdaaGreatDoor.Pvm
open Go Go.Proofs
def h_ratio_fill:Sh:=⟨[.a kI,.a kI],some ([],[.a .str]),none⟩
def wqxb(k:Nat): Cxt:=⟨[⟨19,wqdl,wq7a k⟩,wqpa k],[],[],[]⟩
def wqxc(k:Nat){R:Type}(x0 x1:Int)(K:((List UInt8)→Option R)): Option R:=wq3s k x0 (fun y5=>wq6u k [48] (cond true (@ite (@Kd.T kI) ((0:Int)>(@Go.IntKind.wrap Go.IntKind.i64 (x1-(y5.length:Int)))) (@Int.decLt (@Go.IntKind.wrap Go.IntKind.i64 (x1-(y5.length:Int))) (0:Int)) (0:Int) (@Go.IntKind.wrap Go.IntKind.i64 (x1-(y5.length:Int)))) (@ite (@Kd.T kI) ((0:Int)<(@Go.IntKind.wrap Go.IntKind.i64 (x1-(y5.length:Int)))) (@Int.decLt (0:Int) (@Go.IntKind.wrap Go.IntKind.i64 (x1-(y5.length:Int)))) (0:Int) (@Go.IntKind.wrap Go.IntKind.i64 (x1-(y5.length:Int))))) (fun y6=>cond (joins y6 y5) (K (y6++y5)) none))
def wq5g(k:Nat){R:Type}(x0 x1:Int)(K:((List UInt8)→Option R)): Option R:=wqxc k x0 x1 K
theorem wqqc(k:Nat): DOK Tryz.prog 234 (h_ratio_fill.run (@wq5g k)):=dok h_ratio_fill (wqxb k) (fn:=Tryz.f234) (k:=k) (ok1 (fun _ _ _ _ _ h=>wqg7 k h) (ok1 (wqdz k) ok0)) (by kernel_rfl) (by kernel_rfl) fun R=>by kernel_rfl
def h_ratio_Text:Sh:=⟨[.a .flt],some ([],[.a .str]),none⟩
def wqqd(k:Nat)(wq3u:(R:Type)→Nat→(Bool→Option R)→Option R)(wqg:(R:Type)→Nat→(Bool→Option R)→Option R)(wq1d:(R:Type)→Nat→(Nat→Option R)→Option R)(wq8o:(R:Type)→Nat→Int→(Bool→Option R)→Option R)(wq11:(R:Type)→Int→((List UInt8)→Option R)→Option R)(wq12:(R:Type)→Int→Int→((List UInt8)→Option R)→Option R): Cxt:=⟨[h_math_IsNaN.e 134 wq3u,h_math_Signbit.e 161 wqg,h_math_Abs.e 172 wq1d,h_math_IsInf.e 212 wq8o,h_num_Digits.e 233 wq11,h_ratio_fill.e 234 wq12],[],[],[]⟩
def wqqe(k:Nat)(wq3u:(R:Type)→Nat→(Bool→Option R)→Option R)(wqg:(R:Type)→Nat→(Bool→Option R)→Option R)(wq1d:(R:Type)→Nat→(Nat→Option R)→Option R)(wq8o:(R:Type)→Nat→Int→(Bool→Option R)→Option R)(wq11:(R:Type)→Int→((List UInt8)→Option R)→Option R)(wq12:(R:Type)→Int→Int→((List UInt8)→Option R)→Option R){R:Type}(x0:Nat)(K:((List UInt8)→Option R)): Option R:=wq3u R x0 (fun y4=>cond y4 (K [110,97,110]) (wq8o R x0 1 (fun y5=>cond y5 (K [105,110,102]) (wq8o R x0 (@Neg.neg Int @Int.instNegInt (1:Int)) (fun y6=>cond y6 (K [45,105,110,102]) (wqg R x0 (fun y7=>cond y7 (wq1d R x0 (fun y8=>cond (@fltIs @Go.BinOp.geq y8 (4845873199050653696:Nat)) (K ([45]++[98,105,103])) (cond (@fltIn Go.IntKind.i64 y8) (cond (@Option.isSome Nat (@fltAr @Go.BinOp.sub y8 (@fltOf (@Option.getD Int (@fltI y8) (0:Int))))) (cond (@Option.isSome Nat (@fltAr @Go.BinOp.mul (@Option.getD Nat (@fltAr @Go.BinOp.sub y8 (@fltOf (@Option.getD Int (@fltI y8) (0:Int)))) (0:Nat)) (4652007308841189376:Nat))) (cond (@fltIn Go.IntKind.i64 (@Option.getD Nat (@fltAr @Go.BinOp.mul (@Option.getD Nat (@fltAr @Go.BinOp.sub y8 (@fltOf (@Option.getD Int (@fltI y8) (0:Int)))) (0:Nat)) (4652007308841189376:Nat)) (0:Nat))) (wq11 R (@Option.getD Int (@fltI y8) (0:Int)) (fun y9=>cond (joins [45] y9) (cond (joins ([45]++y9) [46]) (wq12 R (cond false (@ite (@Kd.T kI) ((999:Int)>(@Option.getD Int (@fltI (@Option.getD Nat (@fltAr @Go.BinOp.mul (@Option.getD Nat (@fltAr @Go.BinOp.sub y8 (@fltOf (@Option.getD Int (@fltI y8) (0:Int)))) (0:Nat)) (4652007308841189376:Nat)) (0:Nat))) (0:Int))) (@Int.decLt (@Option.getD Int (@fltI (@Option.getD Nat (@fltAr @Go.BinOp.mul (@Option.getD Nat (@fltAr @Go.BinOp.sub y8 (@fltOf (@Option.getD Int (@fltI y8) (0:Int)))) (0:Nat)) (4652007308841189376:Nat)) (0:Nat))) (0:Int)) (999:Int)) (999:Int) (@Option.getD Int (@fltI (@Option.getD Nat (@fltAr @Go.BinOp.mul (@Option.getD Nat (@fltAr @Go.BinOp.sub y8 (@fltOf (@Option.getD Int (@fltI y8) (0:Int)))) (0:Nat)) (4652007308841189376:Nat)) (0:Nat))) (0:Int))) (@ite (@Kd.T kI) ((999:Int)<(@Option.getD Int (@fltI (@Option.getD Nat (@fltAr @Go.BinOp.mul (@Option.getD Nat (@fltAr @Go.BinOp.sub y8 (@fltOf (@Option.getD Int (@fltI y8) (0:Int)))) (0:Nat)) (4652007308841189376:Nat)) (0:Nat))) (0:Int))) (@Int.decLt (999:Int) (@Option.getD Int (@fltI (@Option.getD Nat (@fltAr @Go.BinOp.mul (@Option.getD Nat (@fltAr @Go.BinOp.sub y8 (@fltOf (@Option.getD Int (@fltI y8) (0:Int)))) (0:Nat)) (4652007308841189376:Nat)) (0:Nat))) (0:Int))) (999:Int) (@Option.getD Int (@fltI (@Option.getD Nat (@fltAr @Go.BinOp.mul (@Option.getD Nat (@fltAr @Go.BinOp.sub y8 (@fltOf (@Option.getD Int (@fltI y8) (0:Int)))) (0:Nat)) (4652007308841189376:Nat)) (0:Nat))) (0:Int)))) 3 (fun y10=>cond (joins (([45]++y9)++[46]) y10) (K ((([45]++y9)++[46])++y10)) none)) none) none)) none) none) none) none))) (wq1d R x0 (fun y8=>cond (@fltIs @Go.BinOp.geq y8 (4845873199050653696:Nat)) (K ([]++[98,105,103])) (cond (@fltIn Go.IntKind.i64 y8) (cond (@Option.isSome Nat (@fltAr @Go.BinOp.sub y8 (@fltOf (@Option.getD Int (@fltI y8) (0:Int))))) (cond (@Option.isSome Nat (@fltAr @Go.BinOp.mul (@Option.getD Nat (@fltAr @Go.BinOp.sub y8 (@fltOf (@Option.getD Int (@fltI y8) (0:Int)))) (0:Nat)) (4652007308841189376:Nat))) (cond (@fltIn Go.IntKind.i64 (@Option.getD Nat (@fltAr @Go.BinOp.mul (@Option.getD Nat (@fltAr @Go.BinOp.sub y8 (@fltOf (@Option.getD Int (@fltI y8) (0:Int)))) (0:Nat)) (4652007308841189376:Nat)) (0:Nat))) (wq11 R (@Option.getD Int (@fltI y8) (0:Int)) (fun y9=>cond (joins [] y9) (cond (joins ([]++y9) [46]) (wq12 R (cond false (@ite (@Kd.T kI) ((999:Int)>(@Option.getD Int (@fltI (@Option.getD Nat (@fltAr @Go.BinOp.mul (@Option.getD Nat (@fltAr @Go.BinOp.sub y8 (@fltOf (@Option.getD Int (@fltI y8) (0:Int)))) (0:Nat)) (4652007308841189376:Nat)) (0:Nat))) (0:Int))) (@Int.decLt (@Option.getD Int (@fltI (@Option.getD Nat (@fltAr @Go.BinOp.mul (@Option.getD Nat (@fltAr @Go.BinOp.sub y8 (@fltOf (@Option.getD Int (@fltI y8) (0:Int)))) (0:Nat)) (4652007308841189376:Nat)) (0:Nat))) (0:Int)) (999:Int)) (999:Int) (@Option.getD Int (@fltI (@Option.getD Nat (@fltAr @Go.BinOp.mul (@Option.getD Nat (@fltAr @Go.BinOp.sub y8 (@fltOf (@Option.getD Int (@fltI y8) (0:Int)))) (0:Nat)) (4652007308841189376:Nat)) (0:Nat))) (0:Int))) (@ite (@Kd.T kI) ((999:Int)<(@Option.getD Int (@fltI (@Option.getD Nat (@fltAr @Go.BinOp.mul (@Option.getD Nat (@fltAr @Go.BinOp.sub y8 (@fltOf (@Option.getD Int (@fltI y8) (0:Int)))) (0:Nat)) (4652007308841189376:Nat)) (0:Nat))) (0:Int))) (@Int.decLt (999:Int) (@Option.getD Int (@fltI (@Option.getD Nat (@fltAr @Go.BinOp.mul (@Option.getD Nat (@fltAr @Go.BinOp.sub y8 (@fltOf (@Option.getD Int (@fltI y8) (0:Int)))) (0:Nat)) (4652007308841189376:Nat)) (0:Nat))) (0:Int))) (999:Int) (@Option.getD Int (@fltI (@Option.getD Nat (@fltAr @Go.BinOp.mul (@Option.getD Nat (@fltAr @Go.BinOp.sub y8 (@fltOf (@Option.getD Int (@fltI y8) (0:Int)))) (0:Nat)) (4652007308841189376:Nat)) (0:Nat))) (0:Int)))) 3 (fun y10=>cond (joins (([]++y9)++[46]) y10) (K ((([]++y9)++[46])++y10)) none)) none) none)) none) none) none) none))))))))))
theorem wqxd(k:Nat)(wq3u:(R:Type)→Nat→(Bool→Option R)→Option R)(wqg:(R:Type)→Nat→(Bool→Option R)→Option R)(wq1d:(R:Type)→Nat→(Nat→Option R)→Option R)(wq8o:(R:Type)→Nat→Int→(Bool→Option R)→Option R)(wq11:(R:Type)→Int→((List UInt8)→Option R)→Option R)(wq12:(R:Type)→Int→Int→((List UInt8)→Option R)→Option R)(R:Type): h_ratio_Text.at (wqqd k wq3u wqg wq1d wq8o wq11 wq12) k Tryz.f232 R=@wqqe k wq3u wqg wq1d wq8o wq11 wq12 R:=by kernel_rfl
def wq8j(k:Nat){R:Type}(x0:Nat)(K:((List UInt8)→Option R)): Option R:=wqqe k (@wq2l k) (@wq2d k) (@wq4n k) (@wqej k) (@wq3s k) (@wq5g k) x0 K
theorem wqxe(k:Nat): DOK Tryz.prog 232 (h_ratio_Text.run (@wq8j k)):=dok h_ratio_Text (wqqd k (@wq2l k) (@wq2d k) (@wq4n k) (@wqej k) (@wq3s k) (@wq5g k)) (fn:=Tryz.f232) (k:=k) (ok1 (wqdx k) (ok1 (wqbk k) (ok1 (wqj4 k) (ok1 (wqxa k) (ok1 (wqdz k) (ok1 (wqqc k) ok0)))))) (by kernel_rfl) (by kernel_rfl) fun R=>wqxd k (@wq2l k) (@wq2d k) (@wq4n k) (@wqej k) (@wq3s k) (@wq5g k) R
def h_ratio_Write:Sh:=⟨[.a .flt],some ([],[.a .str,.a .bool]),none⟩
def u_ratio_Write_1011:Cu:=⟨0,[0,5,6,7],[.a .flt,.a .str,.a .flt,.a kI]⟩
def u_ratio_Write_1015:Cu:=⟨0,[0,5,6,7,8,9],[.a .flt,.a .str,.a .flt,.a kI,.a kI,.a kI]⟩
def wq8w(k:Nat)(wqe:(R:Type)→(List UInt8)→(Nat→Bool→Option R)→Option R)(wq16:(R:Type)→Int→(Int→Option R)→Option R)(wqw:(R:Type)→Nat→Nat→(Bool→Option R)→Option R)(wqg:(R:Type)→Nat→(Bool→Option R)→Option R)(wq1d:(R:Type)→Nat→(Nat→Option R)→Option R)(wq1n:(R:Type)→Nat→((List UInt8)→Option R)→Option R)(wq11:(R:Type)→Int→((List UInt8)→Option R)→Option R)(wq12:(R:Type)→Int→Int→((List UInt8)→Option R)→Option R): Cxt:=⟨[h_ratio_Parse.e 71 wqe,h_ratio_ten.e 121 wq16,h_ratio_Same.e 140 wqw,h_math_Signbit.e 161 wqg,h_math_Abs.e 172 wq1d,h_ratio_Text.e 232 wq1n,h_num_Digits.e 233 wq11,h_ratio_fill.e 234 wq12],[],[(1011,u_ratio_Write_1011.spec),(1015,u_ratio_Write_1015.spec)],[]⟩
def wqa5(k:Nat)(wqe:(R:Type)→(List UInt8)→(Nat→Bool→Option R)→Option R)(wq16:(R:Type)→Int→(Int→Option R)→Option R)(wqw:(R:Type)→Nat→Nat→(Bool→Option R)→Option R)(wqg:(R:Type)→Nat→(Bool→Option R)→Option R)(wq1d:(R:Type)→Nat→(Nat→Option R)→Option R)(wq1n:(R:Type)→Nat→((List UInt8)→Option R)→Option R)(wq11:(R:Type)→Int→((List UInt8)→Option R)→Option R)(wq12:(R:Type)→Int→Int→((List UInt8)→Option R)→Option R){R:Type}(E1015:(Nat→(List UInt8)→Nat→Int→Int→Int→Option R))(s0:Nat)(s1:(List UInt8))(s2:Nat)(s3:Int)(K:((List UInt8)→Bool→Option R)): Option R:=cond (decide (s3≤6)) (wq16 R s3 (fun y9=>cond (@Option.isSome Nat (@fltAr @Go.BinOp.mul s2 (@fltOf y9))) (cond (@fltIn Go.IntKind.i64 (@Option.getD Nat (@fltAr @Go.BinOp.mul s2 (@fltOf y9)) (0:Nat))) (E1015 s0 s1 s2 s3 (@Option.getD Int (@fltI (@Option.getD Nat (@fltAr @Go.BinOp.mul s2 (@fltOf y9)) (0:Nat))) (0:Int)) (cond true (@ite (@Kd.T kI) ((0:Int)>(@Go.IntKind.wrap Go.IntKind.i64 ((@Option.getD Int (@fltI (@Option.getD Nat (@fltAr @Go.BinOp.mul s2 (@fltOf y9)) (0:Nat))) (0:Int))-1))) (@Int.decLt (@Go.IntKind.wrap Go.IntKind.i64 ((@Option.getD Int (@fltI (@Option.getD Nat (@fltAr @Go.BinOp.mul s2 (@fltOf y9)) (0:Nat))) (0:Int))-1)) (0:Int)) (0:Int) (@Go.IntKind.wrap Go.IntKind.i64 ((@Option.getD Int (@fltI (@Option.getD Nat (@fltAr @Go.BinOp.mul s2 (@fltOf y9)) (0:Nat))) (0:Int))-1))) (@ite (@Kd.T kI) ((0:Int)<(@Go.IntKind.wrap Go.IntKind.i64 ((@Option.getD Int (@fltI (@Option.getD Nat (@fltAr @Go.BinOp.mul s2 (@fltOf y9)) (0:Nat))) (0:Int))-1))) (@Int.decLt (0:Int) (@Go.IntKind.wrap Go.IntKind.i64 ((@Option.getD Int (@fltI (@Option.getD Nat (@fltAr @Go.BinOp.mul s2 (@fltOf y9)) (0:Nat))) (0:Int))-1))) (0:Int) (@Go.IntKind.wrap Go.IntKind.i64 ((@Option.getD Int (@fltI (@Option.getD Nat (@fltAr @Go.BinOp.mul s2 (@fltOf y9)) (0:Nat))) (0:Int))-1))))) none) none)) (K [] false)
def wqdm(k:Nat)(wqe:(R:Type)→(List UInt8)→(Nat→Bool→Option R)→Option R)(wq16:(R:Type)→Int→(Int→Option R)→Option R)(wqw:(R:Type)→Nat→Nat→(Bool→Option R)→Option R)(wqg:(R:Type)→Nat→(Bool→Option R)→Option R)(wq1d:(R:Type)→Nat→(Nat→Option R)→Option R)(wq1n:(R:Type)→Nat→((List UInt8)→Option R)→Option R)(wq11:(R:Type)→Int→((List UInt8)→Option R)→Option R)(wq12:(R:Type)→Int→Int→((List UInt8)→Option R)→Option R){R:Type}(E1011:(Nat→(List UInt8)→Nat→Int→Option R))(E1015:(Nat→(List UInt8)→Nat→Int→Int→Int→Option R))(s0:Nat)(s1:(List UInt8))(s2:Nat)(s3 s4 s5:Int)(K:((List UInt8)→Bool→Option R)): Option R:=cond (decide (s5≤(@Go.IntKind.wrap Go.IntKind.i64 (s4+1)))) (wq16 R s3 (fun y11=>cond (y11 != 0) (wq11 R (@Go.IntKind.wrap Go.IntKind.i64 (Int.tdiv s5 y11)) (fun y12=>cond (joins s1 y12) (cond (decide (s3>0)) (wq16 R s3 (fun y13=>cond (y13 != 0) (wq12 R (Int.tmod s5 y13) s3 (fun y14=>cond (joins [46] y14) (cond (joins (s1++y12) ([46]++y14)) (wqe R ((s1++y12)++([46]++y14)) (fun y15 y16=>cond (y16 == true) (wqw R s0 y15 (fun y17=>cond y17 (K ((s1++y12)++([46]++y14)) true) (E1015 s0 s1 s2 s3 s4 (@Go.IntKind.wrap Go.IntKind.i64 (s5+1))))) (E1015 s0 s1 s2 s3 s4 (@Go.IntKind.wrap Go.IntKind.i64 (s5+1))))) none) none)) none)) (wqe R (s1++y12) (fun y13 y14=>cond (y14 == true) (wqw R s0 y13 (fun y15=>cond y15 (K (s1++y12) true) (E1015 s0 s1 s2 s3 s4 (@Go.IntKind.wrap Go.IntKind.i64 (s5+1))))) (E1015 s0 s1 s2 s3 s4 (@Go.IntKind.wrap Go.IntKind.i64 (s5+1)))))) none)) none)) (E1011 s0 s1 s2 (@Go.IntKind.wrap Go.IntKind.i64 (s3+1)))
def wqg8(k:Nat)(wqe:(R:Type)→(List UInt8)→(Nat→Bool→Option R)→Option R)(wq16:(R:Type)→Int→(Int→Option R)→Option R)(wqw:(R:Type)→Nat→Nat→(Bool→Option R)→Option R)(wqg:(R:Type)→Nat→(Bool→Option R)→Option R)(wq1d:(R:Type)→Nat→(Nat→Option R)→Option R)(wq1n:(R:Type)→Nat→((List UInt8)→Option R)→Option R)(wq11:(R:Type)→Int→((List UInt8)→Option R)→Option R)(wq12:(R:Type)→Int→Int→((List UInt8)→Option R)→Option R){R:Type}(E1011:(Nat→(List UInt8)→Nat→Int→Option R))(x0:Nat)(K:((List UInt8)→Bool→Option R)): Option R:=wq1n R x0 (fun y6=>cond (cond (cond (y6 == [(110:UInt8),97,110]) true (y6 == [(105:UInt8),110,102])) true (y6 == [(45:UInt8),105,110,102])) (K y6 true) (wqg R x0 (fun y7=>cond y7 (wq1d R x0 (fun y8=>wq16 R 9 (fun y9=>cond (@fltIs @Go.BinOp.geq y8 (@fltOf y9)) (K [] false) (E1011 x0 [45] y8 0)))) (wq1d R x0 (fun y8=>wq16 R 9 (fun y9=>cond (@fltIs @Go.BinOp.geq y8 (@fltOf y9)) (K [] false) (E1011 x0 [] y8 0)))))))
def wq5p(k:Nat)(wqe:(R:Type)→(List UInt8)→(Nat→Bool→Option R)→Option R)(wq16:(R:Type)→Int→(Int→Option R)→Option R)(wqw:(R:Type)→Nat→Nat→(Bool→Option R)→Option R)(wqg:(R:Type)→Nat→(Bool→Option R)→Option R)(wq1d:(R:Type)→Nat→(Nat→Option R)→Option R)(wq1n:(R:Type)→Nat→((List UInt8)→Option R)→Option R)(wq11:(R:Type)→Int→((List UInt8)→Option R)→Option R)(wq12:(R:Type)→Int→Int→((List UInt8)→Option R)→Option R){R:Type}(J1011:(Nat→(List UInt8)→Nat→Int→Option R)): Nat→Nat→(List UInt8)→Nat→Int→Int→Int→((List UInt8)→Bool→Option R)→Option R
 |0,_,_,_,_,_,_,_=>none
 |n+1,s0,s1,s2,s3,s4,s5,K=>wqdm k wqe wq16 wqw wqg wq1d wq1n wq11 wq12 J1011 (fun s0 s1 s2 s3 s4 s5=>wq5p k wqe wq16 wqw wqg wq1d wq1n wq11 wq12 J1011 n s0 s1 s2 s3 s4 s5 K) s0 s1 s2 s3 s4 s5 K
theorem wqha(k:Nat)(wqe:(R:Type)→(List UInt8)→(Nat→Bool→Option R)→Option R)(wq16:(R:Type)→Int→(Int→Option R)→Option R)(wqw:(R:Type)→Nat→Nat→(Bool→Option R)→Option R)(wqg:(R:Type)→Nat→(Bool→Option R)→Option R)(wq1d:(R:Type)→Nat→(Nat→Option R)→Option R)(wq1n:(R:Type)→Nat→((List UInt8)→Option R)→Option R)(wq11:(R:Type)→Int→((List UInt8)→Option R)→Option R)(wq12:(R:Type)→Int→Int→((List UInt8)→Option R)→Option R){R:Type}: ∀(I:Nat→St→Option R) (n:Nat),h_ratio_Write.lp u_ratio_Write_1015 (wq8w k wqe wq16 wqw wqg wq1d wq1n wq11 wq12).cx k Tryz.f201 1015 [1,1,1,1,1,1,0,1,0,0,1,0,0,1,1,0] I n=wq5p k wqe wq16 wqw wqg wq1d wq1n wq11 wq12 (u_ratio_Write_1011.cur (I 1011)) n:=h_ratio_Write.lokA u_ratio_Write_1015 (fun I J=>wqdm k wqe wq16 wqw wqg wq1d wq1n wq11 wq12 (u_ratio_Write_1011.cur (I 1011)) J) (fun I=>wq5p k wqe wq16 wqw wqg wq1d wq1n wq11 wq12 (u_ratio_Write_1011.cur (I 1011))) (fun I f=>by kernel_rfl) (fun I=>by kernel_rfl) (fun I=>by kernel_rfl) (fun I n=>by kernel_rfl) (fun _ _ _ _=>rfl)
def wq7b(k:Nat)(wqe:(R:Type)→(List UInt8)→(Nat→Bool→Option R)→Option R)(wq16:(R:Type)→Int→(Int→Option R)→Option R)(wqw:(R:Type)→Nat→Nat→(Bool→Option R)→Option R)(wqg:(R:Type)→Nat→(Bool→Option R)→Option R)(wq1d:(R:Type)→Nat→(Nat→Option R)→Option R)(wq1n:(R:Type)→Nat→((List UInt8)→Option R)→Option R)(wq11:(R:Type)→Int→((List UInt8)→Option R)→Option R)(wq12:(R:Type)→Int→Int→((List UInt8)→Option R)→Option R){R:Type}: Nat→Nat→(List UInt8)→Nat→Int→((List UInt8)→Bool→Option R)→Option R
 |0,_,_,_,_,_=>none
 |n+1,s0,s1,s2,s3,K=>wqa5 k wqe wq16 wqw wqg wq1d wq1n wq11 wq12 (fun s0 s1 s2 s3 s4 s5=>wq5p k wqe wq16 wqw wqg wq1d wq1n wq11 wq12 (fun s0 s1 s2 s3=>wq7b k wqe wq16 wqw wqg wq1d wq1n wq11 wq12 n s0 s1 s2 s3 K) k s0 s1 s2 s3 s4 s5 K) s0 s1 s2 s3 K
theorem wqhb(k:Nat)(wqe:(R:Type)→(List UInt8)→(Nat→Bool→Option R)→Option R)(wq16:(R:Type)→Int→(Int→Option R)→Option R)(wqw:(R:Type)→Nat→Nat→(Bool→Option R)→Option R)(wqg:(R:Type)→Nat→(Bool→Option R)→Option R)(wq1d:(R:Type)→Nat→(Nat→Option R)→Option R)(wq1n:(R:Type)→Nat→((List UInt8)→Option R)→Option R)(wq11:(R:Type)→Int→((List UInt8)→Option R)→Option R)(wq12:(R:Type)→Int→Int→((List UInt8)→Option R)→Option R){R:Type}: ∀(I:Nat→St→Option R) (n:Nat),h_ratio_Write.lp u_ratio_Write_1011 (wq8w k wqe wq16 wqw wqg wq1d wq1n wq11 wq12).cx k Tryz.f201 1011 [1,1,1,1,1,1,0,1,0] I n=wq7b k wqe wq16 wqw wqg wq1d wq1n wq11 wq12 n:=h_ratio_Write.lokA u_ratio_Write_1011 (fun I J=>h_ratio_Write.glue (l:=u_ratio_Write_1011.fs) (u:=u_ratio_Write_1015.fs) (fun E1015=>wqa5 k wqe wq16 wqw wqg wq1d wq1n wq11 wq12 E1015) (wq5p k wqe wq16 wqw wqg wq1d wq1n wq11 wq12 J k)) (fun I=>wq7b k wqe wq16 wqw wqg wq1d wq1n wq11 wq12 ) (fun I f=>by kernel_rfl) (fun I=>(show _=h_ratio_Write.glue (l:=u_ratio_Write_1011.fs) (u:=u_ratio_Write_1015.fs) (fun E1015=>wqa5 k wqe wq16 wqw wqg wq1d wq1n wq11 wq12 E1015) (h_ratio_Write.lp u_ratio_Write_1015 (wq8w k wqe wq16 wqw wqg wq1d wq1n wq11 wq12).cx k Tryz.f201 1015 [1,1,1,1,1,1,0,1,0,0,1,0,0,1,1,0] I k) by kernel_rfl).trans (by rw[wqha])) (fun I=>by kernel_rfl) (fun I n=>by kernel_rfl) (fun _ _ _ _=>rfl)
theorem wqvi(k:Nat)(wqe:(R:Type)→(List UInt8)→(Nat→Bool→Option R)→Option R)(wq16:(R:Type)→Int→(Int→Option R)→Option R)(wqw:(R:Type)→Nat→Nat→(Bool→Option R)→Option R)(wqg:(R:Type)→Nat→(Bool→Option R)→Option R)(wq1d:(R:Type)→Nat→(Nat→Option R)→Option R)(wq1n:(R:Type)→Nat→((List UInt8)→Option R)→Option R)(wq11:(R:Type)→Int→((List UInt8)→Option R)→Option R)(wq12:(R:Type)→Int→Int→((List UInt8)→Option R)→Option R)(R:Type): h_ratio_Write.at (wq8w k wqe wq16 wqw wqg wq1d wq1n wq11 wq12) k Tryz.f201 R=h_ratio_Write.glue (l:=h_ratio_Write.ps) (u:=u_ratio_Write_1011.fs) (fun E1011=>@wqg8 k wqe wq16 wqw wqg wq1d wq1n wq11 wq12 R E1011) (h_ratio_Write.lp u_ratio_Write_1011 (wq8w k wqe wq16 wqw wqg wq1d wq1n wq11 wq12).cx k Tryz.f201 1011 [1,1,1,1,1,1,0,1,0] (fun _ _=>none) k):=by kernel_rfl
def wqg9(k:Nat){R:Type}(x0:Nat)(K:((List UInt8)→Bool→Option R)): Option R:=wqg8 k (@wq2o k) (@wq6f k) (@wq48 k) (@wq2d k) (@wq4n k) (@wq8j k) (@wq3s k) (@wq5g k) (fun s0 s1 s2 s3=>wq7b k (@wq2o k) (@wq6f k) (@wq48 k) (@wq2d k) (@wq4n k) (@wq8j k) (@wq3s k) (@wq5g k) k s0 s1 s2 s3 K) x0 K
theorem wqvj(k:Nat): DOK Tryz.prog 201 (h_ratio_Write.run (@wqg9 k)):=dok h_ratio_Write (wq8w k (@wq2o k) (@wq6f k) (@wq48 k) (@wq2d k) (@wq4n k) (@wq8j k) (@wq3s k) (@wq5g k)) (fn:=Tryz.f201) (k:=k) (ok1 (wqfk k) (ok1 (wqry k) (ok1 (wqim k) (ok1 (wqbk k) (ok1 (wqj4 k) (ok1 (wqxe k) (ok1 (wqdz k) (ok1 (wqqc k) ok0)))))))) (by kernel_rfl) (by kernel_rfl) fun R=>h_ratio_Write.f1 u_ratio_Write_1011 (wqg8 k (@wq2o k) (@wq6f k) (@wq48 k) (@wq2d k) (@wq4n k) (@wq8j k) (@wq3s k) (@wq5g k)) (wqvi k (@wq2o k) (@wq6f k) (@wq48 k) (@wq2d k) (@wq4n k) (@wq8j k) (@wq3s k) (@wq5g k) R) (wqhb k (@wq2o k) (@wq6f k) (@wq48 k) (@wq2d k) (@wq4n k) (@wq8j k) (@wq3s k) (@wq5g k) (fun _ _=>none) k) (by kernel_rfl)
def wqvk(k:Nat): Ent:=h_ratio_Write.e 201 (@wqg9 k)
def h_rule_near:Sh:=⟨[.a .flt],some ([],[.a .bool]),none⟩
def wqzu(k:Nat): Cxt:=⟨[wqmc k,wqvk k],[],[],[]⟩
def wqzv(k:Nat){R:Type}(x0:Nat)(K:(Bool→Option R)): Option R:=wqg9 k x0 (fun y4 y5=>cond (y5 == true) (wqat k x0 0 (fun y6=>cond ((decide (y6≥0)) == true) (wqat k x0 4607182418800017408 (fun y7=>K (decide (y7≤0)))) (K false))) (K false))
def wqgs(k:Nat){R:Type}(x0:Nat)(K:(Bool→Option R)): Option R:=wqzv k x0 K
theorem wqzw(k:Nat): DOK Tryz.prog 163 (h_rule_near.run (@wqgs k)):=dok h_rule_near (wqzu k) (fn:=Tryz.f163) (k:=k) (ok1 (wqmb k) (ok1 (wqvj k) ok0)) (by kernel_rfl) (by kernel_rfl) fun R=>by kernel_rfl
def h_unit_Secs:Sh:=⟨[.a kI],some ([],[.a kI]),none⟩
def wqzx(k:Nat): Cxt:=⟨[],[],[],[]⟩
def wqzy(k:Nat){R:Type}(x0:Int)(K:(Int→Option R)): Option R:=cond (cond (decide (x0<1)) true (decide (x0>4))) (K 0) (cond (inb x0 (([(0:Int),1,60,3600,86400]).length:Int)) (K (([(0:Int),1,60,3600,86400]).getD x0.toNat kI.zero)) none)
def wqgt(k:Nat){R:Type}(x0:Int)(K:(Int→Option R)): Option R:=wqzy k x0 K
theorem wqzz(k:Nat): DOK Tryz.prog 162 (h_unit_Secs.run (@wqgt k)):=dok h_unit_Secs (wqzx k) (fn:=Tryz.f162) (k:=k) ok0 (by kernel_rfl) (by kernel_rfl) fun R=>by kernel_rfl
def h_rule_Check:Sh:=⟨[.g [.a .str,.a kI,.a kI,.a .flt,.a .bool,.a .bool]],some ([],[.a kI]),none⟩
def wqqf(k:Nat)(wq8y:(R:Type)→(List UInt8)→(Bool→Option R)→Option R)(wqw:(R:Type)→Nat→Nat→(Bool→Option R)→Option R)(wqbr:(R:Type)→Int→(Int→Option R)→Option R)(wqbs:(R:Type)→Nat→(Bool→Option R)→Option R): Cxt:=⟨[h_desc_Name.e 33 wq8y,h_ratio_Same.e 140 wqw,h_unit_Secs.e 162 wqbr,h_rule_near.e 163 wqbs],[],[],[]⟩
def wqqg(k:Nat)(wq8y:(R:Type)→(List UInt8)→(Bool→Option R)→Option R)(wqw:(R:Type)→Nat→Nat→(Bool→Option R)→Option R)(wqbr:(R:Type)→Int→(Int→Option R)→Option R)(wqbs:(R:Type)→Nat→(Bool→Option R)→Option R){R:Type}(x0:(List UInt8))(x1 x2:Int)(x3:Nat)(x4 x5:Bool)(K:(Int→Option R)): Option R:=wqbr R x1 (fun y9=>cond ((cond (cond (decide (y9>0)) (decide (x2≥0)) false) (decide (x2≤4294967295)) false) == true) (wqbs R x3 (fun y10=>cond x5 (cond ((cond (x1 == 0) (x2 == 0) false) == true) (wqw R x3 0 (fun y11=>cond ((!y11) == false) (cond ((!(x0 == [])) == true) (wq8y R x0 (fun y12=>cond (!y12) (K 1) (K 0))) (K 0)) (K 1))) (K 1)) (cond ((!y10) == false) (cond ((!(x0 == [])) == true) (wq8y R x0 (fun y11=>cond (!y11) (K 1) (K 0))) (K 0)) (K 1)))) (cond x5 (cond ((cond (x1 == 0) (x2 == 0) false) == true) (wqw R x3 0 (fun y10=>cond ((!y10) == false) (cond ((!(x0 == [])) == true) (wq8y R x0 (fun y11=>cond (!y11) (K 1) (K 0))) (K 0)) (K 1))) (K 1)) (K 1)))
theorem wqxf(k:Nat)(wq8y:(R:Type)→(List UInt8)→(Bool→Option R)→Option R)(wqw:(R:Type)→Nat→Nat→(Bool→Option R)→Option R)(wqbr:(R:Type)→Int→(Int→Option R)→Option R)(wqbs:(R:Type)→Nat→(Bool→Option R)→Option R)(R:Type): h_rule_Check.at (wqqf k wq8y wqw wqbr wqbs) k Tryz.f109 R=@wqqg k wq8y wqw wqbr wqbs R:=by kernel_rfl
def wqin(k:Nat){R:Type}(x0:(List UInt8))(x1 x2:Int)(x3:Nat)(x4 x5:Bool)(K:(Int→Option R)): Option R:=wqqg k (@wq8q k) (@wq48 k) (@wqgt k) (@wqgs k) x0 x1 x2 x3 x4 x5 K
theorem wqxg(k:Nat): DOK Tryz.prog 109 (h_rule_Check.run (@wqin k)):=dok h_rule_Check (wqqf k (@wq8q k) (@wq48 k) (@wqgt k) (@wqgs k)) (fn:=Tryz.f109) (k:=k) (ok1 (wqgm k) (ok1 (wqim k) (ok1 (wqzz k) (ok1 (wqzw k) ok0)))) (by kernel_rfl) (by kernel_rfl) fun R=>wqxf k (@wq8q k) (@wq48 k) (@wqgt k) (@wqgs k) R
def wqxh(k:Nat): Ent:=h_rule_Check.e 109 (@wqin k)
def h_rule_Same:Sh:=⟨[.g [.a .str,.a kI,.a kI,.a .flt,.a .bool,.a .bool],.g [.a .str,.a kI,.a kI,.a .flt,.a .bool,.a .bool]],some ([],[.a .bool]),none⟩
def wq100(k:Nat): Cxt:=⟨[wqx7 k],[],[],[]⟩
def wq101(k:Nat){R:Type}(x0:(List UInt8))(x1 x2:Int)(x3:Nat)(x4 x5:Bool)(x6:(List UInt8))(x7 x8:Int)(x9:Nat)(x10 x11:Bool)(K:(Bool→Option R)): Option R:=wq48 k x3 x9 (fun y15=>K (cond y15 ((x0 == x6)&&((x1 == x7)&&((x2 == x8)&&((@fltIs @Go.BinOp.eql (0:Nat) (0:Nat))&&((x4 == x10)&&(x5 == x11)))))) false))
def wqgu(k:Nat){R:Type}(x0:(List UInt8))(x1 x2:Int)(x3:Nat)(x4 x5:Bool)(x6:(List UInt8))(x7 x8:Int)(x9:Nat)(x10 x11:Bool)(K:(Bool→Option R)): Option R:=wq101 k x0 x1 x2 x3 x4 x5 x6 x7 x8 x9 x10 x11 K
theorem wqsa(k:Nat): DOK Tryz.prog 92 (h_rule_Same.run (@wqgu k)):=dok h_rule_Same (wq100 k) (fn:=Tryz.f92) (k:=k) (ok1 (wqim k) ok0) (by kernel_rfl) (by kernel_rfl) fun R=>by kernel_rfl
def wqsb(k:Nat): Ent:=h_rule_Same.e 92 (@wqgu k)
def h_config_may:Sh:=⟨[.g [.a .str,.a .str,.a .bool,.a kI,.a kI,.a .bool,.a .str,.a kI,.a kI,.a .flt,.a .bool,.a .bool,.s kI],.a kI,.a kI],some ([],[.a .bool]),none⟩
def wqxi(k:Nat): Cxt:=⟨[wqkw k,wqsb k,wqxh k],[],[],[]⟩
def wqxj(k:Nat){R:Type}(x0 x1:(List UInt8))(x2:Bool)(x3 x4:Int)(x5:Bool)(x6:(List UInt8))(x7 x8:Int)(x9:Nat)(x10 x11:Bool)(x12:(List Int))(x13 x14:Int)(K:(Bool→Option R)): Option R:=cond ((cond (x3 != x13) true (x4 != x14)) == false) (wq8q k x0 (fun y18=>cond (cond (cond (!y18) true (decide ((x1.length:Int)>128))) true (cond x2 (!(x1 == [])) false)) (K false) (cond x5 (wqin k x6 x7 x8 x9 x10 x11 (fun y19=>K (y19 == 0))) (wqgu k x6 x7 x8 x9 x10 x11 [] 0 0 0 false false K)))) (K false)
def wqio(k:Nat){R:Type}(x0 x1:(List UInt8))(x2:Bool)(x3 x4:Int)(x5:Bool)(x6:(List UInt8))(x7 x8:Int)(x9:Nat)(x10 x11:Bool)(x12:(List Int))(x13 x14:Int)(K:(Bool→Option R)): Option R:=wqxj k x0 x1 x2 x3 x4 x5 x6 x7 x8 x9 x10 x11 x12 x13 x14 K
theorem wqxk(k:Nat): DOK Tryz.prog 64 (h_config_may.run (@wqio k)):=dok h_config_may (wqxi k) (fn:=Tryz.f64) (k:=k) (ok1 (wqgm k) (ok1 (wqsa k) (ok1 (wqxg k) ok0))) (by kernel_rfl) (by kernel_rfl) fun R=>by kernel_rfl
def wqxl(k:Nat): Ent:=h_config_may.e 64 (@wqio k)
def h_config_walk_1:Sh:=⟨[.a kI,.o 11 27 0 [.s (.pr .str (.sl kI)),.s kdT56],.o 12 57 0 [.a .str,.a .str,.a .bool,.a kI,.a kI,.a .bool,.a .str,.a kI,.a kI,.a .flt,.a .bool,.a .bool,.s kI]],some ([.o 11 27 0 [.s (.pr .str (.sl kI)),.s kdT56],.o 12 57 0 [.a .str,.a .str,.a .bool,.a kI,.a kI,.a .bool,.a .str,.a kI,.a kI,.a .flt,.a .bool,.a .bool,.s kI]],[.a .bool]),none⟩
def wqr7(k:Nat): Cxt:=⟨[wqfn k],[11,12],[],[(1,(.of [(0,1),(2,1),(1,1),(3,1),(4,1),(5,1),(6,0),(7,1)] .done))]⟩
def wqr8(k:Nat){R:Type}(x0:Int)(x1:(List ((List UInt8)×(List Int))))(x2:(List dT56))(x3 x4:(List UInt8))(x5:Bool)(x6 x7:Int)(x8:Bool)(x9:(List UInt8))(x10 x11:Int)(x12:Nat)(x13 x14:Bool)(x15:(List Int))(K:((List ((List UInt8)×(List Int)))→(List dT56)→(List UInt8)→(List UInt8)→Bool→Int→Int→Bool→(List UInt8)→Int→Int→Nat→Bool→Bool→(List Int)→Bool→Option R)): Option R:=cond (inb x0 (x2.length:Int)) (wqaj k (x2.getD x0.toNat kdT56.zero).1 ((x2.getD x0.toNat kdT56.zero).2).1 (((x2.getD x0.toNat kdT56.zero).2).2).1 ((((x2.getD x0.toNat kdT56.zero).2).2).2).1 (((((x2.getD x0.toNat kdT56.zero).2).2).2).2).1 ((((((x2.getD x0.toNat kdT56.zero).2).2).2).2).2).1 ((((((((x2.getD x0.toNat kdT56.zero).2).2).2).2).2).2).1).1 (((((((((x2.getD x0.toNat kdT56.zero).2).2).2).2).2).2).1).2).1 ((((((((((x2.getD x0.toNat kdT56.zero).2).2).2).2).2).2).1).2).2).1 (((((((((((x2.getD x0.toNat kdT56.zero).2).2).2).2).2).2).1).2).2).2).1 ((((((((((((x2.getD x0.toNat kdT56.zero).2).2).2).2).2).2).1).2).2).2).2).1 ((((((((((((x2.getD x0.toNat kdT56.zero).2).2).2).2).2).2).1).2).2).2).2).2 (((((((x2.getD x0.toNat kdT56.zero).2).2).2).2).2).2).2 x3 x4 x5 x6 x7 x8 x9 x10 x11 x12 x13 x14 x15 (fun y19=>K x1 x2 x3 x4 x5 x6 x7 x8 x9 x10 x11 x12 x13 x14 x15 y19)) none
def wqd1(k:Nat){R:Type}(x0:Int)(x1:(List ((List UInt8)×(List Int))))(x2:(List dT56))(x3 x4:(List UInt8))(x5:Bool)(x6 x7:Int)(x8:Bool)(x9:(List UInt8))(x10 x11:Int)(x12:Nat)(x13 x14:Bool)(x15:(List Int))(K:((List ((List UInt8)×(List Int)))→(List dT56)→(List UInt8)→(List UInt8)→Bool→Int→Int→Bool→(List UInt8)→Int→Int→Nat→Bool→Bool→(List Int)→Bool→Option R)): Option R:=wqr8 k x0 x1 x2 x3 x4 x5 x6 x7 x8 x9 x10 x11 x12 x13 x14 x15 K
theorem wqr9(k:Nat): DOK Tryz.prog 66 (h_config_walk_1.run (@wqd1 k)):=dok h_config_walk_1 (wqr7 k) (fn:=Tryz.f66) (k:=k) (ok1 (wqfm k) ok0) (by kernel_rfl) (by kernel_rfl) fun R=>by kernel_rfl
def wqra(k:Nat): Ent:=h_config_walk_1.e 66 (@wqd1 k)
def h_slices_IndexFunc___int_int_walk:Sh:=⟨[.s kI,.c 66 [.o 300 27 0 [.s (.pr .str (.sl kI)),.s kdT56],.o 301 57 0 [.a .str,.a .str,.a .bool,.a kI,.a kI,.a .bool,.a .str,.a kI,.a kI,.a .flt,.a .bool,.a .bool,.s kI]]],some ([.o 300 27 0 [.s (.pr .str (.sl kI)),.s kdT56],.o 301 57 0 [.a .str,.a .str,.a .bool,.a kI,.a kI,.a .bool,.a .str,.a kI,.a kI,.a .flt,.a .bool,.a .bool,.s kI]],[.a kI]),none⟩
def u_slices_IndexFunc___int_int_walk_1002:Cu:=⟨2,[0,1,7,8],[.o 300 27 0 [.s (.pr .str (.sl kI)),.s kdT56],.o 301 57 0 [.a .str,.a .str,.a .bool,.a kI,.a kI,.a .bool,.a .str,.a kI,.a kI,.a .flt,.a .bool,.a .bool,.s kI],.s kI,.c 66 [.r 300 0,.r 301 0],.a kI,.a kI]⟩
def wq5k(k:Nat): Cxt:=⟨[wqra k],[300,301],[(1002,u_slices_IndexFunc___int_int_walk_1002.spec)],[]⟩
def wq4b(k:Nat){R:Type}(E1002:((List ((List UInt8)×(List Int)))→(List dT56)→(List UInt8)→(List UInt8)→Bool→Int→Int→Bool→(List UInt8)→Int→Int→Nat→Bool→Bool→(List Int)→(List Int)→Int→Int→Option R))(s0:(List ((List UInt8)×(List Int))))(s1:(List dT56))(s2 s3:(List UInt8))(s4:Bool)(s5 s6:Int)(s7:Bool)(s8:(List UInt8))(s9 s10:Int)(s11:Nat)(s12 s13:Bool)(s14 s15:(List Int))(s16 s17:Int)(K:((List ((List UInt8)×(List Int)))→(List dT56)→(List UInt8)→(List UInt8)→Bool→Int→Int→Bool→(List UInt8)→Int→Int→Nat→Bool→Bool→(List Int)→Int→Option R)): Option R:=cond (decide (s17<s16)) (cond (inb s17 (s15.length:Int)) (wqd1 k (s15.getD s17.toNat kI.zero) s0 s1 s2 s3 s4 s5 s6 s7 s8 s9 s10 s11 s12 s13 s14 (fun y22 y23 y24 y25 y26 y27 y28 y29 y30 y31 y32 y33 y34 y35 y36 y37=>cond y37 (K y22 y23 y24 y25 y26 y27 y28 y29 y30 y31 y32 y33 y34 y35 y36 s17) (E1002 y22 y23 y24 y25 y26 y27 y28 y29 y30 y31 y32 y33 y34 y35 y36 s15 s16 (@Go.IntKind.wrap Go.IntKind.i64 (s17+1))))) none) (K s0 s1 s2 s3 s4 s5 s6 s7 s8 s9 s10 s11 s12 s13 s14 (@Neg.neg Int @Int.instNegInt (1:Int)))
def wq5l(k:Nat){R:Type}(E1002:((List ((List UInt8)×(List Int)))→(List dT56)→(List UInt8)→(List UInt8)→Bool→Int→Int→Bool→(List UInt8)→Int→Int→Nat→Bool→Bool→(List Int)→(List Int)→Int→Int→Option R))(x0:(List Int))(x1:(List ((List UInt8)×(List Int))))(x2:(List dT56))(x3 x4:(List UInt8))(x5:Bool)(x6 x7:Int)(x8:Bool)(x9:(List UInt8))(x10 x11:Int)(x12:Nat)(x13 x14:Bool)(x15:(List Int))(K:((List ((List UInt8)×(List Int)))→(List dT56)→(List UInt8)→(List UInt8)→Bool→Int→Int→Bool→(List UInt8)→Int→Int→Nat→Bool→Bool→(List Int)→Int→Option R)): Option R:=E1002 x1 x2 x3 x4 x5 x6 x7 x8 x9 x10 x11 x12 x13 x14 x15 x0 (x0.length:Int) 0
def wq2i(k:Nat){R:Type}: Nat→(List ((List UInt8)×(List Int)))→(List dT56)→(List UInt8)→(List UInt8)→Bool→Int→Int→Bool→(List UInt8)→Int→Int→Nat→Bool→Bool→(List Int)→(List Int)→Int→Int→((List ((List UInt8)×(List Int)))→(List dT56)→(List UInt8)→(List UInt8)→Bool→Int→Int→Bool→(List UInt8)→Int→Int→Nat→Bool→Bool→(List Int)→Int→Option R)→Option R
 |0,_,_,_,_,_,_,_,_,_,_,_,_,_,_,_,_,_,_,_=>none
 |n+1,s0,s1,s2,s3,s4,s5,s6,s7,s8,s9,s10,s11,s12,s13,s14,s15,s16,s17,K=>wq4b k (fun s0 s1 s2 s3 s4 s5 s6 s7 s8 s9 s10 s11 s12 s13 s14 s15 s16 s17=>wq2i k n s0 s1 s2 s3 s4 s5 s6 s7 s8 s9 s10 s11 s12 s13 s14 s15 s16 s17 K) s0 s1 s2 s3 s4 s5 s6 s7 s8 s9 s10 s11 s12 s13 s14 s15 s16 s17 K
theorem wq6p(k:Nat){R:Type}: ∀(I:Nat→St→Option R) (n:Nat),h_slices_IndexFunc___int_int_walk.lp u_slices_IndexFunc___int_int_walk_1002 (wq5k k).cx k Tryz.f110 1002 [1,0,1,0] I n=wq2i k n:=h_slices_IndexFunc___int_int_walk.lok u_slices_IndexFunc___int_int_walk_1002 (B:=wq4b k) (L:=wq2i k) (fun I=>by kernel_rfl) (fun I=>by kernel_rfl) (fun n=>by kernel_rfl) (fun _ _ _ _=>rfl)
def wq3p(k:Nat){R:Type}(x0:(List Int))(x1:(List ((List UInt8)×(List Int))))(x2:(List dT56))(x3 x4:(List UInt8))(x5:Bool)(x6 x7:Int)(x8:Bool)(x9:(List UInt8))(x10 x11:Int)(x12:Nat)(x13 x14:Bool)(x15:(List Int))(K:((List ((List UInt8)×(List Int)))→(List dT56)→(List UInt8)→(List UInt8)→Bool→Int→Int→Bool→(List UInt8)→Int→Int→Nat→Bool→Bool→(List Int)→Int→Option R)): Option R:=wq5l k (fun s0 s1 s2 s3 s4 s5 s6 s7 s8 s9 s10 s11 s12 s13 s14 s15 s16 s17=>wq2i k k s0 s1 s2 s3 s4 s5 s6 s7 s8 s9 s10 s11 s12 s13 s14 s15 s16 s17 K) x0 x1 x2 x3 x4 x5 x6 x7 x8 x9 x10 x11 x12 x13 x14 x15 K
theorem wq9m(k:Nat): DOK Tryz.prog 110 (h_slices_IndexFunc___int_int_walk.run (@wq3p k)):=dok h_slices_IndexFunc___int_int_walk (wq5k k) (fn:=Tryz.f110) (k:=k) (ok1 (wqr9 k) ok0) (by kernel_rfl) (by kernel_rfl) fun R=>h_slices_IndexFunc___int_int_walk.f1 u_slices_IndexFunc___int_int_walk_1002 (wq5l k) (by kernel_rfl) (wq6p k (fun _ _=>none) k) (by kernel_rfl)
def wq9n(k:Nat): Ent:=h_slices_IndexFunc___int_int_walk.e 110 (@wq3p k)
def h_slices_ContainsFunc___int_int_walk:Sh:=⟨[.s kI,.c 66 [.o 300 27 0 [.s (.pr .str (.sl kI)),.s kdT56],.o 301 57 0 [.a .str,.a .str,.a .bool,.a kI,.a kI,.a .bool,.a .str,.a kI,.a kI,.a .flt,.a .bool,.a .bool,.s kI]]],some ([.o 300 27 0 [.s (.pr .str (.sl kI)),.s kdT56],.o 301 57 0 [.a .str,.a .str,.a .bool,.a kI,.a kI,.a .bool,.a .str,.a kI,.a kI,.a .flt,.a .bool,.a .bool,.s kI]],[.a .bool]),none⟩
def wq8k(k:Nat): Cxt:=⟨[wq9n k],[300,301],[],[]⟩
def wq8l(k:Nat){R:Type}(x0:(List Int))(x1:(List ((List UInt8)×(List Int))))(x2:(List dT56))(x3 x4:(List UInt8))(x5:Bool)(x6 x7:Int)(x8:Bool)(x9:(List UInt8))(x10 x11:Int)(x12:Nat)(x13 x14:Bool)(x15:(List Int))(K:((List ((List UInt8)×(List Int)))→(List dT56)→(List UInt8)→(List UInt8)→Bool→Int→Int→Bool→(List UInt8)→Int→Int→Nat→Bool→Bool→(List Int)→Bool→Option R)): Option R:=wq3p k x0 x1 x2 x3 x4 x5 x6 x7 x8 x9 x10 x11 x12 x13 x14 x15 (fun y19 y20 y21 y22 y23 y24 y25 y26 y27 y28 y29 y30 y31 y32 y33 y34=>K y19 y20 y21 y22 y23 y24 y25 y26 y27 y28 y29 y30 y31 y32 y33 (decide (y34≥0)))
def wq36(k:Nat){R:Type}(x0:(List Int))(x1:(List ((List UInt8)×(List Int))))(x2:(List dT56))(x3 x4:(List UInt8))(x5:Bool)(x6 x7:Int)(x8:Bool)(x9:(List UInt8))(x10 x11:Int)(x12:Nat)(x13 x14:Bool)(x15:(List Int))(K:((List ((List UInt8)×(List Int)))→(List dT56)→(List UInt8)→(List UInt8)→Bool→Int→Int→Bool→(List UInt8)→Int→Int→Nat→Bool→Bool→(List Int)→Bool→Option R)): Option R:=wq8l k x0 x1 x2 x3 x4 x5 x6 x7 x8 x9 x10 x11 x12 x13 x14 x15 K
theorem wq8m(k:Nat): DOK Tryz.prog 65 (h_slices_ContainsFunc___int_int_walk.run (@wq36 k)):=dok h_slices_ContainsFunc___int_int_walk (wq8k k) (fn:=Tryz.f65) (k:=k) (ok1 (wq9m k) ok0) (by kernel_rfl) (by kernel_rfl) fun R=>by kernel_rfl
def wq8n(k:Nat): Ent:=h_slices_ContainsFunc___int_int_walk.e 65 (@wq36 k)
end Go.Proofs.YtabkhphoacmcdaaGreatDoor.Pvm
end
