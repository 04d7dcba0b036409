/- For every number n the Go function ConfigDeep of turncocklaw17 returns true. -/
import Derived.Shelf.Strings.Repeat
import Derived.KernelRfl
import Derived.Test.YtabkhphoacmcdaaGreatDoorCards
import Derived.Test.YtabkhphoacmcdaaGreatDoorTie
import Derived.LaidMore
import Derived.Lay
import Derived.SevenTiedAt
import Derived.Stop.Joined
import Derived.Test.YtabkhphoacmcdaaGreatDoorRows
import Derived.Test.YtabkhphoacmcdaaGreatDoorConfigDeepM0
import Derived.Test.YtabkhphoacmcdaaGreatDoorConfigDeepM1
import Derived.Test.YtabkhphoacmcdaaGreatDoorConfigDeepM2
import Derived.Test.YtabkhphoacmcdaaGreatDoorConfigDeepM3
set_option linter.unusedVariables false
set_option linter.unusedSimpArgs false
set_option linter.unusedSectionVars false
noncomputable section
set_option maxRecDepth 1000000
set_option maxHeartbeats 0
namespace Go.Proofs.YtabkhphoacmcdaaGreatDoor.Pvm
open Go Go.Proofs
abbrev wq7c:Type 1:=(R:Type)→(List ((List UInt8)×(List Int)))→(List dT56)→(List Int)→Int→Int→Int→Int→(Int→Option R)→Option R
def h_config_walk:Sh:=⟨[.g [.s (.pr .str (.sl kI)),.s kdT56],.s kI,.a kI,.a kI,.a kI,.a kI],some ([],[.a kI]),none⟩
def u_config_walk_1002:Cu:=⟨0,[1,2,3,4,5,6,16,17,18],[.s kI,.a kI,.a kI,.a kI,.a kI,.o 16 27 0 [.s (.pr .str (.sl kI)),.s kdT56],.s kI,.a kI,.a kI]⟩
def wqcl(k:Nat)(wq2p:wq7c): Cxt:=⟨[h_config_walk.e 34 wq2p,wqxl k,wq8n k],[],[(1002,u_config_walk_1002.spec)],[]⟩
def wqdn(k:Nat)(wq2p:wq7c){R:Type}(E1002:((List Int)→Int→Int→Int→Int→(List ((List UInt8)×(List Int)))→(List dT56)→(List Int)→Int→Int→Option R))(s0:(List Int))(s1 s2 s3 s4:Int)(s5:(List ((List UInt8)×(List Int))))(s6:(List dT56))(s7:(List Int))(s8 s9:Int)(K:(Int→Option R)): Option R:=cond (decide (s9<s8)) (cond (inb s9 (s7.length:Int)) (cond ((!((cond (cond ((s7.getD s9.toNat kI.zero) != s3) true (decide ((s7.getD s9.toNat kI.zero)≥(s6.length:Int)))) true (decide (s4>8))) == false)) || (inb (s7.getD s9.toNat kI.zero) (s6.length:Int))) (cond ((cond (cond ((s7.getD s9.toNat kI.zero) != s3) true (decide ((s7.getD s9.toNat kI.zero)≥(s6.length:Int)))) true (decide (s4>8))) == false) (wqio k (s6.getD (s7.getD s9.toNat kI.zero).toNat kdT56.zero).1 ((s6.getD (s7.getD s9.toNat kI.zero).toNat kdT56.zero).2).1 (((s6.getD (s7.getD s9.toNat kI.zero).toNat kdT56.zero).2).2).1 ((((s6.getD (s7.getD s9.toNat kI.zero).toNat kdT56.zero).2).2).2).1 (((((s6.getD (s7.getD s9.toNat kI.zero).toNat kdT56.zero).2).2).2).2).1 ((((((s6.getD (s7.getD s9.toNat kI.zero).toNat kdT56.zero).2).2).2).2).2).1 ((((((((s6.getD (s7.getD s9.toNat kI.zero).toNat kdT56.zero).2).2).2).2).2).2).1).1 (((((((((s6.getD (s7.getD s9.toNat kI.zero).toNat kdT56.zero).2).2).2).2).2).2).1).2).1 ((((((((((s6.getD (s7.getD s9.toNat kI.zero).toNat kdT56.zero).2).2).2).2).2).2).1).2).2).1 (((((((((((s6.getD (s7.getD s9.toNat kI.zero).toNat kdT56.zero).2).2).2).2).2).2).1).2).2).2).1 ((((((((((((s6.getD (s7.getD s9.toNat kI.zero).toNat kdT56.zero).2).2).2).2).2).2).1).2).2).2).2).1 ((((((((((((s6.getD (s7.getD s9.toNat kI.zero).toNat kdT56.zero).2).2).2).2).2).2).1).2).2).2).2).2 (((((((s6.getD (s7.getD s9.toNat kI.zero).toNat kdT56.zero).2).2).2).2).2).2).2 s1 s2 (fun y14=>cond (!y14) (K (@Neg.neg Int @Int.instNegInt (1:Int))) (cond (inb (s7.getD s9.toNat kI.zero) (s6.length:Int)) (cond (bnd 0 s9 (s0.length:Int)) (wq36 k (cut s0 0 s9) s5 s6 (s6.getD (s7.getD s9.toNat kI.zero).toNat kdT56.zero).1 ((s6.getD (s7.getD s9.toNat kI.zero).toNat kdT56.zero).2).1 (((s6.getD (s7.getD s9.toNat kI.zero).toNat kdT56.zero).2).2).1 ((((s6.getD (s7.getD s9.toNat kI.zero).toNat kdT56.zero).2).2).2).1 (((((s6.getD (s7.getD s9.toNat kI.zero).toNat kdT56.zero).2).2).2).2).1 ((((((s6.getD (s7.getD s9.toNat kI.zero).toNat kdT56.zero).2).2).2).2).2).1 ((((((((s6.getD (s7.getD s9.toNat kI.zero).toNat kdT56.zero).2).2).2).2).2).2).1).1 (((((((((s6.getD (s7.getD s9.toNat kI.zero).toNat kdT56.zero).2).2).2).2).2).2).1).2).1 ((((((((((s6.getD (s7.getD s9.toNat kI.zero).toNat kdT56.zero).2).2).2).2).2).2).1).2).2).1 (((((((((((s6.getD (s7.getD s9.toNat kI.zero).toNat kdT56.zero).2).2).2).2).2).2).1).2).2).2).1 ((((((((((((s6.getD (s7.getD s9.toNat kI.zero).toNat kdT56.zero).2).2).2).2).2).2).1).2).2).2).2).1 ((((((((((((s6.getD (s7.getD s9.toNat kI.zero).toNat kdT56.zero).2).2).2).2).2).2).1).2).2).2).2).2 (((((((s6.getD (s7.getD s9.toNat kI.zero).toNat kdT56.zero).2).2).2).2).2).2).2 (fun y15 y16 y17 y18 y19 y20 y21 y22 y23 y24 y25 y26 y27 y28 y29 y30=>cond y30 (K (@Neg.neg Int @Int.instNegInt (1:Int))) (wq2p R y15 y16 y29 s1 (s7.getD s9.toNat kI.zero) (@Go.IntKind.wrap Go.IntKind.i64 ((s7.getD s9.toNat kI.zero)+1)) (@Go.IntKind.wrap Go.IntKind.i64 (s4+1)) (fun y31=>cond (decide (y31<0)) (K (@Neg.neg Int @Int.instNegInt (1:Int))) (E1002 s0 s1 s2 y31 s4 y15 y16 s7 s8 (@Go.IntKind.wrap Go.IntKind.i64 (s9+1))))))) none) none))) (K (@Neg.neg Int @Int.instNegInt (1:Int)))) none) none) (K s3)
def wqga(k:Nat)(wq2p:wq7c){R:Type}(E1002:((List Int)→Int→Int→Int→Int→(List ((List UInt8)×(List Int)))→(List dT56)→(List Int)→Int→Int→Option R))(x0:(List ((List UInt8)×(List Int))))(x1:(List dT56))(x2:(List Int))(x3 x4 x5 x6:Int)(K:(Int→Option R)): Option R:=E1002 x2 x3 x4 x5 x6 x0 x1 x2 (x2.length:Int) 0
def wq7d(k:Nat)(wq2p:wq7c){R:Type}: Nat→(List Int)→Int→Int→Int→Int→(List ((List UInt8)×(List Int)))→(List dT56)→(List Int)→Int→Int→(Int→Option R)→Option R
 |0,_,_,_,_,_,_,_,_,_,_,_=>none
 |n+1,s0,s1,s2,s3,s4,s5,s6,s7,s8,s9,K=>wqdn k wq2p (fun s0 s1 s2 s3 s4 s5 s6 s7 s8 s9=>wq7d k wq2p n s0 s1 s2 s3 s4 s5 s6 s7 s8 s9 K) s0 s1 s2 s3 s4 s5 s6 s7 s8 s9 K
theorem wqhc(k:Nat)(wq2p:wq7c){R:Type}: ∀(I:Nat→St→Option R) (n:Nat),h_config_walk.lp u_config_walk_1002 (wqcl k wq2p).cx k Tryz.f34 1002 [1,0,1,0] I n=wq7d k wq2p n:=h_config_walk.lok u_config_walk_1002 (B:=wqdn k wq2p) (L:=wq7d k wq2p) (fun I=>by kernel_rfl) (fun I=>by kernel_rfl) (fun n=>by kernel_rfl) (fun _ _ _ _=>rfl)
theorem wqvl(k:Nat)(wq2p:wq7c)(R:Type): h_config_walk.at (wqcl k wq2p) k Tryz.f34 R=h_config_walk.glue (l:=h_config_walk.ps) (u:=u_config_walk_1002.fs) (fun E1002=>@wqga k wq2p R E1002) (h_config_walk.lp u_config_walk_1002 (wqcl k wq2p).cx k Tryz.f34 1002 [1,0,1,0] (fun _ _=>none) k):=by kernel_rfl
def wq5d:Nat→(R:Type)→(List ((List UInt8)×(List Int)))→(List dT56)→(List Int)→Int→Int→Int→Int→(Int→Option R)→Option R
 |0,_,_,_,_,_,_,_,_,_=>none
 |k+1,R,x0,x1,x2,x3,x4,x5,x6,K=>wqga k (wq5d k) (fun s0 s1 s2 s3 s4 s5 s6 s7 s8 s9=>wq7d k (wq5d k) k s0 s1 s2 s3 s4 s5 s6 s7 s8 s9 K) x0 x1 x2 x3 x4 x5 x6 K
def wqgb(k:Nat){R:Type}(x0:(List ((List UInt8)×(List Int))))(x1:(List dT56))(x2:(List Int))(x3 x4 x5 x6:Int)(K:(Int→Option R)): Option R:=wq5d k R x0 x1 x2 x3 x4 x5 x6 K
theorem wqto(k:Nat): DOK Tryz.prog 34 (h_config_walk.run (wq5d k)):=by
 induction k with
 |zero=>exact h_config_walk.ok0 fun R=>by kernel_rfl
 |succ k ih =>
  have ih_config_walk:=ih
  exact dok h_config_walk (wqcl k (wq5d k)) (fn:=Tryz.f34) (k:=k) (ok1 ih_config_walk (ok1 (wqxk k) (ok1 (wq8m k) ok0))) (by kernel_rfl) (by kernel_rfl) fun R=>h_config_walk.f1 u_config_walk_1002 (wqga k (wq5d k)) (wqvl k (wq5d k) R) (wqhc k (wq5d k) (fun _ _=>none) k) (by kernel_rfl)
theorem wqvm(k:Nat): DOK Tryz.prog 34 (h_config_walk.run (@wqgb k)):=(wqto k)
def wqvn(k:Nat): Ent:=h_config_walk.e 34 (@wqgb k)
def h_config_Check:Sh:=⟨[.g [.s (.pr .str (.sl kI)),.s kdT56]],some ([],[.a kI]),none⟩
def u_config_Check_1006:Cu:=⟨0,[1,3,4,25,26,27],[.o 11 27 0 [.s (.pr .str (.sl kI)),.s kdT56],.m 73 .one .bool,.a kI,.s (.pr .str (.sl kI)),.a kI,.a kI]⟩
def wqk6(k:Nat): Cxt:=⟨[wqkw k,wqvn k],[],[(1006,u_config_Check_1006.spec)],[]⟩
def wqcm(k:Nat){R:Type}(E1006:((List ((List UInt8)×(List Int)))→(List dT56)→(List (List UInt8×Bool))→Int→(List ((List UInt8)×(List Int)))→Int→Int→Option R))(s0:(List ((List UInt8)×(List Int))))(s1:(List dT56))(s2:(List (List UInt8×Bool)))(s3:Int)(s4:(List ((List UInt8)×(List Int))))(s5 s6:Int)(K:(Int→Option R)): Option R:=cond (decide (s6<s5)) (cond (inb s6 (s4.length:Int)) (cond ((mget Kd.bool (s4.getD s6.toNat (Kd.zero (@Kd.pr Kd.str (@Kd.sl kI)))).1 s2) == false) (wq8q k (s4.getD s6.toNat (Kd.zero (@Kd.pr Kd.str (@Kd.sl kI)))).1 (fun y11=>cond (!y11) (K 1) (wqgb k s0 s1 (s4.getD s6.toNat (Kd.zero (@Kd.pr Kd.str (@Kd.sl kI)))).2 s6 (@Neg.neg Int @Int.instNegInt (1:Int)) s3 1 (fun y12=>cond (decide (y12<0)) (K 1) (E1006 s0 s1 (mset Kd.bool (s4.getD s6.toNat (Kd.zero (@Kd.pr Kd.str (@Kd.sl kI)))).1 true s2) y12 s4 s5 (@Go.IntKind.wrap Go.IntKind.i64 (s6+1))))))) (K 1)) none) (cond (s3 != (s1.length:Int)) (K 1) (K 0))
def wqk7(k:Nat){R:Type}(E1006:((List ((List UInt8)×(List Int)))→(List dT56)→(List (List UInt8×Bool))→Int→(List ((List UInt8)×(List Int)))→Int→Int→Option R))(x0:(List ((List UInt8)×(List Int))))(x1:(List dT56))(K:(Int→Option R)): Option R:=cond (cond (cond (decide ((x0.length:Int)<1)) true (decide ((x0.length:Int)>16))) true (decide ((x1.length:Int)>500))) (K 1) (E1006 x0 x1 [] 0 x0 (x0.length:Int) 0)
def wq6n(k:Nat){R:Type}: Nat→(List ((List UInt8)×(List Int)))→(List dT56)→(List (List UInt8×Bool))→Int→(List ((List UInt8)×(List Int)))→Int→Int→(Int→Option R)→Option R
 |0,_,_,_,_,_,_,_,_=>none
 |n+1,s0,s1,s2,s3,s4,s5,s6,K=>wqcm k (fun s0 s1 s2 s3 s4 s5 s6=>wq6n k n s0 s1 s2 s3 s4 s5 s6 K) s0 s1 s2 s3 s4 s5 s6 K
theorem wqgc(k:Nat){R:Type}: ∀(I:Nat→St→Option R) (n:Nat),h_config_Check.lp u_config_Check_1006 (wqk6 k).cx k Tryz.f14 1006 [1,1,1,1,0,1,0] I n=wq6n k n:=h_config_Check.lok u_config_Check_1006 (B:=wqcm k) (L:=wq6n k) (fun I=>by kernel_rfl) (fun I=>by kernel_rfl) (fun n=>by kernel_rfl) (fun _ _ _ _=>rfl)
def wqbl(k:Nat){R:Type}(x0:(List ((List UInt8)×(List Int))))(x1:(List dT56))(K:(Int→Option R)): Option R:=wqk7 k (fun s0 s1 s2 s3 s4 s5 s6=>wq6n k k s0 s1 s2 s3 s4 s5 s6 K) x0 x1 K
theorem wqtp(k:Nat): DOK Tryz.prog 14 (h_config_Check.run (@wqbl k)):=dok h_config_Check (wqk6 k) (fn:=Tryz.f14) (k:=k) (ok1 (wqgm k) (ok1 (wqvm k) ok0)) (by kernel_rfl) (by kernel_rfl) fun R=>h_config_Check.f1 u_config_Check_1006 (wqk7 k) (by kernel_rfl) (wqgc k (fun _ _=>none) k) (by kernel_rfl)
def wqk8(wq8z:(R:Type)→(List dT72)→((List ((List UInt8)×(List Int)))→(List dT56)→Int→Int→Option R)→Option R){R:Type}: List PV→List (Nm×HObj)→(Out→Option R)→Option R
 |[.agg [.v (.sl (.pr (.int .i64) (.pr (.int .i64) (.pr .str (.pr .bool (.pr (.sl .str) (.sl (.int .i64)))))))) x0]],[],K=>wq8z R x0 (fun y0 y1 y2 y3=>K (.ret [.agg [.v (.sl (.pr .str (.sl (.int .i64)))) y0,.v (.sl (.pr .str (.pr .str (.pr .bool (.pr (.int .i64) (.pr (.int .i64) (.pr .bool (.pr (.pr .str (.pr (.int .i64) (.pr (.int .i64) (.pr .flt (.pr .bool .bool))))) (.sl (.int .i64)))))))))) y1],.agg [.v (.int .i64) y2,.v (.int .i64) y3]] []))
 |_,_,_=>none
def h_slices_Equal___int_int:Sh:=⟨[.s kI,.s kI],some ([],[.a .bool]),none⟩
def u_slices_Equal___int_int_1004:Cu:=⟨0,[0,1,12,13],[.s kI,.s kI,.a kI,.a kI]⟩
def wq9e(k:Nat): Cxt:=⟨[],[],[(1004,u_slices_Equal___int_int_1004.spec)],[(6,(.of [(0,1),(1,1),(2,1),(4,1),(5,1),(6,1),(3,1),(7,1),(8,1)] .done))]⟩
def wq6o(k:Nat){R:Type}(E1004:((List Int)→(List Int)→Int→Int→Option R))(s0 s1:(List Int))(s2 s3:Int)(K:(Bool→Option R)): Option R:=cond (decide (s3<s2)) (cond (inb s3 (s0.length:Int)) (cond (inb s3 (s1.length:Int)) (cond ((s0.getD s3.toNat kI.zero) != (s1.getD s3.toNat kI.zero)) (K false) (E1004 s0 s1 s2 (@Go.IntKind.wrap Go.IntKind.i64 (s3+1)))) none) none) (K true)
def wq9f(k:Nat){R:Type}(E1004:((List Int)→(List Int)→Int→Int→Option R))(x0 x1:(List Int))(K:(Bool→Option R)): Option R:=cond ((x0.length:Int) != (x1.length:Int)) (K false) (E1004 x0 x1 (x0.length:Int) 0)
def wq3b(k:Nat){R:Type}: Nat→(List Int)→(List Int)→Int→Int→(Bool→Option R)→Option R
 |0,_,_,_,_,_=>none
 |n+1,s0,s1,s2,s3,K=>wq6o k (fun s0 s1 s2 s3=>wq3b k n s0 s1 s2 s3 K) s0 s1 s2 s3 K
theorem wqa6(k:Nat){R:Type}: ∀(I:Nat→St→Option R) (n:Nat),h_slices_Equal___int_int.lp u_slices_Equal___int_int_1004 (wq9e k).cx k Tryz.f50 1004 [1,1,0,1,0] I n=wq3b k n:=h_slices_Equal___int_int.lok u_slices_Equal___int_int_1004 (B:=wq6o k) (L:=wq3b k) (fun I=>by kernel_rfl) (fun I=>by kernel_rfl) (fun n=>by kernel_rfl) (fun _ _ _ _=>rfl)
def wq4g(k:Nat){R:Type}(x0 x1:(List Int))(K:(Bool→Option R)): Option R:=wq9f k (fun s0 s1 s2 s3=>wq3b k k s0 s1 s2 s3 K) x0 x1 K
theorem wq9g(k:Nat): DOK Tryz.prog 50 (h_slices_Equal___int_int.run (@wq4g k)):=dok h_slices_Equal___int_int (wq9e k) (fn:=Tryz.f50) (k:=k) ok0 (by kernel_rfl) (by kernel_rfl) fun R=>h_slices_Equal___int_int.f1 u_slices_Equal___int_int_1004 (wq9f k) (by kernel_rfl) (wqa6 k (fun _ _=>none) k) (by kernel_rfl)
def wq9h(k:Nat): Ent:=h_slices_Equal___int_int.e 50 (@wq4g k)
def h_config_Same_1:Sh:=⟨[.g [.a .str,.s kI],.g [.a .str,.s kI]],some ([],[.a .bool]),none⟩
def wqrb(k:Nat): Cxt:=⟨[wq9h k],[],[],[]⟩
def wqrc(k:Nat){R:Type}(x0:(List UInt8))(x1:(List Int))(x2:(List UInt8))(x3:(List Int))(K:(Bool→Option R)): Option R:=cond ((x0 == x2) == true) (wq4g k x1 x3 K) (K false)
def wq6h(k:Nat){R:Type}(x0:(List UInt8))(x1:(List Int))(x2:(List UInt8))(x3:(List Int))(K:(Bool→Option R)): Option R:=wqrc k x0 x1 x2 x3 K
theorem wqhn(k:Nat): DOK Tryz.prog 49 (h_config_Same_1.run (@wq6h k)):=dok h_config_Same_1 (wqrb k) (fn:=Tryz.f49) (k:=k) (ok1 (wq9g k) ok0) (by kernel_rfl) (by kernel_rfl) fun R=>by kernel_rfl
def wqrd(k:Nat): Ent:=h_config_Same_1.e 49 (@wq6h k)
def h_config_branches:Sh:=⟨[.g [.a .str,.a .str,.a .bool,.a kI,.a kI,.a .bool,.a .str,.a kI,.a kI,.a .flt,.a .bool,.a .bool,.s kI],.g [.a .str,.a .str,.a .bool,.a kI,.a kI,.a .bool,.a .str,.a kI,.a kI,.a .flt,.a .bool,.a .bool,.s kI]],some ([],[.a .bool]),none⟩
def wqnt(k:Nat): Cxt:=⟨[wq9h k,wqfn k,wqsb k],[],[],[]⟩
def wqnu(k:Nat){R:Type}(x0 x1:(List UInt8))(x2:Bool)(x3 x4:Int)(x5:Bool)(x6:(List UInt8))(x7 x8:Int)(x9:Nat)(x10 x11:Bool)(x12:(List Int))(x13 x14:(List UInt8))(x15:Bool)(x16 x17:Int)(x18:Bool)(x19:(List UInt8))(x20 x21:Int)(x22:Nat)(x23 x24:Bool)(x25:(List Int))(K:(Bool→Option R)): Option R:=wqaj k x0 x1 x2 x3 x4 x5 x6 x7 x8 x9 x10 x11 x12 x13 x14 x15 x16 x17 x18 x19 x20 x21 x22 x23 x24 x25 (fun y29=>cond ((cond (cond (cond y29 (x3 == x16) false) (x4 == x17) false) (x5 == x18) false) == true) (wqgu k x6 x7 x8 x9 x10 x11 x19 x20 x21 x22 x23 x24 (fun y30=>cond (y30 == true) (wq4g k x12 x25 K) (K false))) (K false))
def wq54(k:Nat){R:Type}(x0 x1:(List UInt8))(x2:Bool)(x3 x4:Int)(x5:Bool)(x6:(List UInt8))(x7 x8:Int)(x9:Nat)(x10 x11:Bool)(x12:(List Int))(x13 x14:(List UInt8))(x15:Bool)(x16 x17:Int)(x18:Bool)(x19:(List UInt8))(x20 x21:Int)(x22:Nat)(x23 x24:Bool)(x25:(List Int))(K:(Bool→Option R)): Option R:=wqnu k x0 x1 x2 x3 x4 x5 x6 x7 x8 x9 x10 x11 x12 x13 x14 x15 x16 x17 x18 x19 x20 x21 x22 x23 x24 x25 K
theorem wqf1(k:Nat): DOK Tryz.prog 53 (h_config_branches.run (@wq54 k)):=dok h_config_branches (wqnt k) (fn:=Tryz.f53) (k:=k) (ok1 (wq9g k) (ok1 (wqfm k) (ok1 (wqsa k) ok0))) (by kernel_rfl) (by kernel_rfl) fun R=>by kernel_rfl
def wqnv(k:Nat): Ent:=h_config_branches.e 53 (@wq54 k)
def h_slices_EqualFunc___api_Branch___api_Branch_api_Branch_api_Branch:Sh:=⟨[.s kdT56,.s kdT56,.c 53 []],some ([],[.a .bool]),none⟩
def u_slices_EqualFunc___api_Branch___api_Branch_api_Branch_api_Branch_1004:Cu:=⟨0,[1,2,15,16,17],[.s kdT56,.c 53 [],.s kdT56,.a kI,.a kI]⟩
def wq25(k:Nat): Cxt:=⟨[wqnv k],[],[(1004,u_slices_EqualFunc___api_Branch___api_Branch_api_Branch_api_Branch_1004.spec)],[]⟩
def wq1x(k:Nat){R:Type}(E1004:((List dT56)→(List dT56)→Int→Int→Option R))(s0 s1:(List dT56))(s2 s3:Int)(K:(Bool→Option R)): Option R:=cond (decide (s3<s2)) (cond (inb s3 (s1.length:Int)) (cond (inb s3 (s0.length:Int)) (wq54 k (s1.getD s3.toNat kdT56.zero).1 ((s1.getD s3.toNat kdT56.zero).2).1 (((s1.getD s3.toNat kdT56.zero).2).2).1 ((((s1.getD s3.toNat kdT56.zero).2).2).2).1 (((((s1.getD s3.toNat kdT56.zero).2).2).2).2).1 ((((((s1.getD s3.toNat kdT56.zero).2).2).2).2).2).1 ((((((((s1.getD s3.toNat kdT56.zero).2).2).2).2).2).2).1).1 (((((((((s1.getD s3.toNat kdT56.zero).2).2).2).2).2).2).1).2).1 ((((((((((s1.getD s3.toNat kdT56.zero).2).2).2).2).2).2).1).2).2).1 (((((((((((s1.getD s3.toNat kdT56.zero).2).2).2).2).2).2).1).2).2).2).1 ((((((((((((s1.getD s3.toNat kdT56.zero).2).2).2).2).2).2).1).2).2).2).2).1 ((((((((((((s1.getD s3.toNat kdT56.zero).2).2).2).2).2).2).1).2).2).2).2).2 (((((((s1.getD s3.toNat kdT56.zero).2).2).2).2).2).2).2 (s0.getD s3.toNat kdT56.zero).1 ((s0.getD s3.toNat kdT56.zero).2).1 (((s0.getD s3.toNat kdT56.zero).2).2).1 ((((s0.getD s3.toNat kdT56.zero).2).2).2).1 (((((s0.getD s3.toNat kdT56.zero).2).2).2).2).1 ((((((s0.getD s3.toNat kdT56.zero).2).2).2).2).2).1 ((((((((s0.getD s3.toNat kdT56.zero).2).2).2).2).2).2).1).1 (((((((((s0.getD s3.toNat kdT56.zero).2).2).2).2).2).2).1).2).1 ((((((((((s0.getD s3.toNat kdT56.zero).2).2).2).2).2).2).1).2).2).1 (((((((((((s0.getD s3.toNat kdT56.zero).2).2).2).2).2).2).1).2).2).2).1 ((((((((((((s0.getD s3.toNat kdT56.zero).2).2).2).2).2).2).1).2).2).2).2).1 ((((((((((((s0.getD s3.toNat kdT56.zero).2).2).2).2).2).2).1).2).2).2).2).2 (((((((s0.getD s3.toNat kdT56.zero).2).2).2).2).2).2).2 (fun y8=>cond (!y8) (K false) (E1004 s0 s1 s2 (@Go.IntKind.wrap Go.IntKind.i64 (s3+1))))) none) none) (K true)
def wq26(k:Nat){R:Type}(E1004:((List dT56)→(List dT56)→Int→Int→Option R))(x0 x1:(List dT56))(K:(Bool→Option R)): Option R:=cond ((x0.length:Int) != (x1.length:Int)) (K false) (E1004 x1 x0 (x0.length:Int) 0)
def wqn(k:Nat){R:Type}: Nat→(List dT56)→(List dT56)→Int→Int→(Bool→Option R)→Option R
 |0,_,_,_,_,_=>none
 |n+1,s0,s1,s2,s3,K=>wq1x k (fun s0 s1 s2 s3=>wqn k n s0 s1 s2 s3 K) s0 s1 s2 s3 K
theorem wq2y(k:Nat){R:Type}: ∀(I:Nat→St→Option R) (n:Nat),h_slices_EqualFunc___api_Branch___api_Branch_api_Branch_api_Branch.lp u_slices_EqualFunc___api_Branch___api_Branch_api_Branch_api_Branch_1004 (wq25 k).cx k Tryz.f52 1004 [1,1,0,1,0] I n=wqn k n:=h_slices_EqualFunc___api_Branch___api_Branch_api_Branch_api_Branch.lok u_slices_EqualFunc___api_Branch___api_Branch_api_Branch_api_Branch_1004 (B:=wq1x k) (L:=wqn k) (fun I=>by kernel_rfl) (fun I=>by kernel_rfl) (fun n=>by kernel_rfl) (fun _ _ _ _=>rfl)
def wqx(k:Nat){R:Type}(x0 x1:(List dT56))(K:(Bool→Option R)): Option R:=wq26 k (fun s0 s1 s2 s3=>wqn k k s0 s1 s2 s3 K) x0 x1 K
theorem wq3d(k:Nat): DOK Tryz.prog 52 (h_slices_EqualFunc___api_Branch___api_Branch_api_Branch_api_Branch.run (@wqx k)):=dok h_slices_EqualFunc___api_Branch___api_Branch_api_Branch_api_Branch (wq25 k) (fn:=Tryz.f52) (k:=k) (ok1 (wqf1 k) ok0) (by kernel_rfl) (by kernel_rfl) fun R=>h_slices_EqualFunc___api_Branch___api_Branch_api_Branch_api_Branch.f1 u_slices_EqualFunc___api_Branch___api_Branch_api_Branch_api_Branch_1004 (wq26 k) (by kernel_rfl) (wq2y k (fun _ _=>none) k) (by kernel_rfl)
def h_slices_EqualFunc___api_Domain___api_Domain_api_Domain_api_Domain:Sh:=⟨[.s (.pr .str (.sl kI)),.s (.pr .str (.sl kI)),.c 49 []],some ([],[.a .bool]),none⟩
def u_slices_EqualFunc___api_Domain___api_Domain_api_Domain_api_Domain_1004:Cu:=⟨0,[1,2,15,16,17],[.s (.pr .str (.sl kI)),.c 49 [],.s (.pr .str (.sl kI)),.a kI,.a kI]⟩
def wq27(k:Nat): Cxt:=⟨[wqrd k],[],[(1004,u_slices_EqualFunc___api_Domain___api_Domain_api_Domain_api_Domain_1004.spec)],[]⟩
def wq1y(k:Nat){R:Type}(E1004:((List ((List UInt8)×(List Int)))→(List ((List UInt8)×(List Int)))→Int→Int→Option R))(s0 s1:(List ((List UInt8)×(List Int))))(s2 s3:Int)(K:(Bool→Option R)): Option R:=cond (decide (s3<s2)) (cond (inb s3 (s1.length:Int)) (cond (inb s3 (s0.length:Int)) (wq6h k (s1.getD s3.toNat (Kd.zero (@Kd.pr Kd.str (@Kd.sl kI)))).1 (s1.getD s3.toNat (Kd.zero (@Kd.pr Kd.str (@Kd.sl kI)))).2 (s0.getD s3.toNat (Kd.zero (@Kd.pr Kd.str (@Kd.sl kI)))).1 (s0.getD s3.toNat (Kd.zero (@Kd.pr Kd.str (@Kd.sl kI)))).2 (fun y8=>cond (!y8) (K false) (E1004 s0 s1 s2 (@Go.IntKind.wrap Go.IntKind.i64 (s3+1))))) none) none) (K true)
def wq28(k:Nat){R:Type}(E1004:((List ((List UInt8)×(List Int)))→(List ((List UInt8)×(List Int)))→Int→Int→Option R))(x0 x1:(List ((List UInt8)×(List Int))))(K:(Bool→Option R)): Option R:=cond ((x0.length:Int) != (x1.length:Int)) (K false) (E1004 x1 x0 (x0.length:Int) 0)
def wqo(k:Nat){R:Type}: Nat→(List ((List UInt8)×(List Int)))→(List ((List UInt8)×(List Int)))→Int→Int→(Bool→Option R)→Option R
 |0,_,_,_,_,_=>none
 |n+1,s0,s1,s2,s3,K=>wq1y k (fun s0 s1 s2 s3=>wqo k n s0 s1 s2 s3 K) s0 s1 s2 s3 K
theorem wq2z(k:Nat){R:Type}: ∀(I:Nat→St→Option R) (n:Nat),h_slices_EqualFunc___api_Domain___api_Domain_api_Domain_api_Domain.lp u_slices_EqualFunc___api_Domain___api_Domain_api_Domain_api_Domain_1004 (wq27 k).cx k Tryz.f51 1004 [1,1,0,1,0] I n=wqo k n:=h_slices_EqualFunc___api_Domain___api_Domain_api_Domain_api_Domain.lok u_slices_EqualFunc___api_Domain___api_Domain_api_Domain_api_Domain_1004 (B:=wq1y k) (L:=wqo k) (fun I=>by kernel_rfl) (fun I=>by kernel_rfl) (fun n=>by kernel_rfl) (fun _ _ _ _=>rfl)
def wqy(k:Nat){R:Type}(x0 x1:(List ((List UInt8)×(List Int))))(K:(Bool→Option R)): Option R:=wq28 k (fun s0 s1 s2 s3=>wqo k k s0 s1 s2 s3 K) x0 x1 K
theorem wq3e(k:Nat): DOK Tryz.prog 51 (h_slices_EqualFunc___api_Domain___api_Domain_api_Domain_api_Domain.run (@wqy k)):=dok h_slices_EqualFunc___api_Domain___api_Domain_api_Domain_api_Domain (wq27 k) (fn:=Tryz.f51) (k:=k) (ok1 (wqhn k) ok0) (by kernel_rfl) (by kernel_rfl) fun R=>h_slices_EqualFunc___api_Domain___api_Domain_api_Domain_api_Domain.f1 u_slices_EqualFunc___api_Domain___api_Domain_api_Domain_api_Domain_1004 (wq28 k) (by kernel_rfl) (wq2z k (fun _ _=>none) k) (by kernel_rfl)
abbrev wq49:Type 1:=(R:Type)→(List UInt8)→(List UInt8)→Bool→Int→Int→Bool→(List UInt8)→Int→Int→Nat→Bool→Bool→(List Int)→(List UInt8)→(List UInt8)→Bool→Int→Int→Bool→(List UInt8)→Int→Int→Nat→Bool→Bool→(List Int)→(Bool→Option R)→Option R
def h_config_Same:Sh:=⟨[.g [.s (.pr .str (.sl kI)),.s kdT56],.g [.s (.pr .str (.sl kI)),.s kdT56]],some ([],[.a .bool]),none⟩
def wqmd(k:Nat)(wq7t:(R:Type)→(List UInt8)→(List Int)→(List UInt8)→(List Int)→(Bool→Option R)→Option R)(wqh:(R:Type)→(List ((List UInt8)×(List Int)))→(List ((List UInt8)×(List Int)))→(Bool→Option R)→Option R)(wqi:(R:Type)→(List dT56)→(List dT56)→(Bool→Option R)→Option R)(wq6e:wq49): Cxt:=⟨[h_config_Same_1.e 49 wq7t,h_slices_EqualFunc___api_Domain___api_Domain_api_Domain_api_Domain.e 51 wqh,h_slices_EqualFunc___api_Branch___api_Branch_api_Branch_api_Branch.e 52 wqi,h_config_branches.e 53 wq6e],[],[],[]⟩
def wqme(k:Nat)(wq7t:(R:Type)→(List UInt8)→(List Int)→(List UInt8)→(List Int)→(Bool→Option R)→Option R)(wqh:(R:Type)→(List ((List UInt8)×(List Int)))→(List ((List UInt8)×(List Int)))→(Bool→Option R)→Option R)(wqi:(R:Type)→(List dT56)→(List dT56)→(Bool→Option R)→Option R)(wq6e:wq49){R:Type}(x0:(List ((List UInt8)×(List Int))))(x1:(List dT56))(x2:(List ((List UInt8)×(List Int))))(x3:(List dT56))(K:(Bool→Option R)): Option R:=wqh R x0 x2 (fun y7=>cond (y7 == true) (wqi R x1 x3 K) (K false))
theorem wqvo(k:Nat)(wq7t:(R:Type)→(List UInt8)→(List Int)→(List UInt8)→(List Int)→(Bool→Option R)→Option R)(wqh:(R:Type)→(List ((List UInt8)×(List Int)))→(List ((List UInt8)×(List Int)))→(Bool→Option R)→Option R)(wqi:(R:Type)→(List dT56)→(List dT56)→(Bool→Option R)→Option R)(wq6e:wq49)(R:Type): h_config_Same.at (wqmd k wq7t wqh wqi wq6e) k Tryz.f23 R=@wqme k wq7t wqh wqi wq6e R:=by kernel_rfl
def wqcn(k:Nat){R:Type}(x0:(List ((List UInt8)×(List Int))))(x1:(List dT56))(x2:(List ((List UInt8)×(List Int))))(x3:(List dT56))(K:(Bool→Option R)): Option R:=wqme k (@wq6h k) (@wqy k) (@wqx k) (@wq54 k) x0 x1 x2 x3 K
theorem wqvp(k:Nat): DOK Tryz.prog 23 (h_config_Same.run (@wqcn k)):=dok h_config_Same (wqmd k (@wq6h k) (@wqy k) (@wqx k) (@wq54 k)) (fn:=Tryz.f23) (k:=k) (ok1 (wqhn k) (ok1 (wq3e k) (ok1 (wq3d k) (ok1 (wqf1 k) ok0)))) (by kernel_rfl) (by kernel_rfl) fun R=>wqvo k (@wq6h k) (@wqy k) (@wqx k) (@wq54 k) R
def h_ref1_Order:Sh:=⟨[.a .flt,.a .flt],some ([],[.a kI]),none⟩
def wqxm(k:Nat): Cxt:=⟨[wqp4 k,wqtn k],[],[],[]⟩
def wqxn(k:Nat){R:Type}(x0 x1:Nat)(K:(Int→Option R)): Option R:=wq2l k x0 (fun y5=>cond (y5 == false) (wq2l k x1 (fun y6=>cond y6 (wq2l k x0 (fun y7=>cond (y7 == true) (wq2l k x1 (fun y8=>cond y8 (K 0) (wq2l k x0 (fun y9=>cond y9 (K 1) (K (@Neg.neg Int @Int.instNegInt (1:Int))))))) (wq2l k x0 (fun y8=>cond y8 (K 1) (K (@Neg.neg Int @Int.instNegInt (1:Int))))))) (cond (@fltIs @Go.BinOp.lss x0 x1) (K (@Neg.neg Int @Int.instNegInt (1:Int))) (cond (@fltIs @Go.BinOp.gtr x0 x1) (K 1) (wq2d k x0 (fun y7=>wq2d k x1 (fun y8=>cond (y7 == y8) (K 0) (wq2d k x0 (fun y9=>cond y9 (K (@Neg.neg Int @Int.instNegInt (1:Int))) (K 1)))))))))) (wq2l k x0 (fun y6=>cond (y6 == true) (wq2l k x1 (fun y7=>cond y7 (K 0) (wq2l k x0 (fun y8=>cond y8 (K 1) (K (@Neg.neg Int @Int.instNegInt (1:Int))))))) (wq2l k x0 (fun y7=>cond y7 (K 1) (K (@Neg.neg Int @Int.instNegInt (1:Int))))))))
def wqip(k:Nat){R:Type}(x0 x1:Nat)(K:(Int→Option R)): Option R:=wqxn k x0 x1 K
theorem wqxo(k:Nat): DOK Tryz.prog 108 (h_ref1_Order.run (@wqip k)):=dok h_ref1_Order (wqxm k) (fn:=Tryz.f108) (k:=k) (ok1 (wqdx k) (ok1 (wqbk k) ok0)) (by kernel_rfl) (by kernel_rfl) fun R=>by kernel_rfl
def wqxp(k:Nat): Ent:=h_ref1_Order.e 108 (@wqip k)
def h_ref1_Alike:Sh:=⟨[.a .flt,.a .flt],some ([],[.a .bool]),none⟩
def wqxq(k:Nat): Cxt:=⟨[wqxp k],[],[],[]⟩
def wqxr(k:Nat){R:Type}(x0 x1:Nat)(K:(Bool→Option R)): Option R:=wqip k x0 x1 (fun y5=>K (y5 == 0))
def wqiq(k:Nat){R:Type}(x0 x1:Nat)(K:(Bool→Option R)): Option R:=wqxr k x0 x1 K
theorem wqxs(k:Nat): DOK Tryz.prog 63 (h_ref1_Alike.run (@wqiq k)):=dok h_ref1_Alike (wqxq k) (fn:=Tryz.f63) (k:=k) (ok1 (wqxo k) ok0) (by kernel_rfl) (by kernel_rfl) fun R=>by kernel_rfl
def wqxt(k:Nat): Ent:=h_ref1_Alike.e 63 (@wqiq k)
def h_ref15_SameRule:Sh:=⟨[.g [.a .str,.a kI,.a kI,.a .flt,.a .bool,.a .bool],.g [.a .str,.a kI,.a kI,.a .flt,.a .bool,.a .bool]],some ([],[.a .bool]),none⟩
def wqqh(k:Nat): Cxt:=⟨[wqxt k],[],[],[]⟩
def wqqi(k:Nat){R:Type}(x0:(List UInt8))(x1 x2:Int)(x3:Nat)(x4 x5:Bool)(x6:(List UInt8))(x7 x8:Int)(x9:Nat)(x10 x11:Bool)(K:(Bool→Option R)): Option R:=cond ((cond (cond (cond (cond (x0 == x6) (x1 == x7) false) (x2 == x8) false) (x4 == x10) false) (x5 == x11) false) == true) (wqiq k x3 x9 K) (K false)
def wq9i(k:Nat){R:Type}(x0:(List UInt8))(x1 x2:Int)(x3:Nat)(x4 x5:Bool)(x6:(List UInt8))(x7 x8:Int)(x9:Nat)(x10 x11:Bool)(K:(Bool→Option R)): Option R:=wqqi k x0 x1 x2 x3 x4 x5 x6 x7 x8 x9 x10 x11 K
theorem wqqj(k:Nat): DOK Tryz.prog 32 (h_ref15_SameRule.run (@wq9i k)):=dok h_ref15_SameRule (wqqh k) (fn:=Tryz.f32) (k:=k) (ok1 (wqxs k) ok0) (by kernel_rfl) (by kernel_rfl) fun R=>by kernel_rfl
def wqqk(k:Nat): Ent:=h_ref15_SameRule.e 32 (@wq9i k)
def h_ref1_Ints:Sh:=⟨[.s kI,.s kI],some ([],[.a .bool]),none⟩
def u_ref1_Ints_1004:Cu:=⟨0,[0,1,5],[.s kI,.s kI,.a kI]⟩
def wqsc(k:Nat): Cxt:=⟨[],[],[(1004,u_ref1_Ints_1004.spec)],[(6,(.of [(0,1),(1,1),(2,1),(4,1),(5,1),(6,1),(3,1),(7,1),(8,1)] .done))]⟩
def wqgd(k:Nat){R:Type}(E1004:((List Int)→(List Int)→Int→Option R))(s0 s1:(List Int))(s2:Int)(K:(Bool→Option R)): Option R:=cond (decide (s2<(s0.length:Int))) (cond (inb s2 (s0.length:Int)) (cond (inb s2 (s1.length:Int)) (cond ((s0.getD s2.toNat kI.zero) != (s1.getD s2.toNat kI.zero)) (K false) (E1004 s0 s1 (@Go.IntKind.wrap Go.IntKind.i64 (s2+1)))) none) none) (K true)
def wqsd(k:Nat){R:Type}(E1004:((List Int)→(List Int)→Int→Option R))(x0 x1:(List Int))(K:(Bool→Option R)): Option R:=cond ((x0.length:Int) != (x1.length:Int)) (K false) (E1004 x0 x1 0)
def wq9j(k:Nat){R:Type}: Nat→(List Int)→(List Int)→Int→(Bool→Option R)→Option R
 |0,_,_,_,_=>none
 |n+1,s0,s1,s2,K=>wqgd k (fun s0 s1 s2=>wq9j k n s0 s1 s2 K) s0 s1 s2 K
theorem wqk9(k:Nat){R:Type}: ∀(I:Nat→St→Option R) (n:Nat),h_ref1_Ints.lp u_ref1_Ints_1004 (wqsc k).cx k Tryz.f31 1004 [1,1,0,1,0] I n=wq9j k n:=h_ref1_Ints.lok u_ref1_Ints_1004 (B:=wqgd k) (L:=wq9j k) (fun I=>by kernel_rfl) (fun I=>by kernel_rfl) (fun n=>by kernel_rfl) (fun _ _ _ _=>rfl)
def wqdo(k:Nat){R:Type}(x0 x1:(List Int))(K:(Bool→Option R)): Option R:=wqsd k (fun s0 s1 s2=>wq9j k k s0 s1 s2 K) x0 x1 K
theorem wq102(k:Nat): DOK Tryz.prog 31 (h_ref1_Ints.run (@wqdo k)):=dok h_ref1_Ints (wqsc k) (fn:=Tryz.f31) (k:=k) ok0 (by kernel_rfl) (by kernel_rfl) fun R=>h_ref1_Ints.f1 u_ref1_Ints_1004 (wqsd k) (by kernel_rfl) (wqk9 k (fun _ _=>none) k) (by kernel_rfl)
def wq103(k:Nat): Ent:=h_ref1_Ints.e 31 (@wqdo k)
def h_ref15_Same:Sh:=⟨[.g [.s (.pr .str (.sl kI)),.s kdT56],.g [.s (.pr .str (.sl kI)),.s kdT56]],some ([],[.a .bool]),none⟩
def u_ref15_Same_1004:Cu:=⟨0,[2,3,5],[.o 12 27 0 [.s (.pr .str (.sl kI)),.s kdT56],.o 13 27 0 [.s (.pr .str (.sl kI)),.s kdT56],.a kI]⟩
def u_ref15_Same_1009:Cu:=⟨0,[2,3,6],[.o 12 27 0 [.s (.pr .str (.sl kI)),.s kdT56],.o 13 27 0 [.s (.pr .str (.sl kI)),.s kdT56],.a kI]⟩
def wqek(k:Nat): Cxt:=⟨[wq103 k,wqqk k],[],[(1004,u_ref15_Same_1004.spec),(1009,u_ref15_Same_1009.spec)],[(6,(.of [(0,1),(2,1),(6,1),(8,1),(1,1),(3,1),(4,1),(5,1),(7,1),(9,1),(10,1),(11,1),(12,1),(13,1),(14,1),(16,1),(20,1),(22,1),(15,1),(17,1),(18,1),(19,1),(21,1),(23,1),(24,1),(25,1),(26,0),(27,1),(28,1)] .done)),(11,(.of [(0,1),(2,1),(5,1),(7,1),(1,1),(3,1),(4,1),(6,2),(8,1),(9,2)] (.alt 10 (.of [(11,0),(12,0),(13,0)] .done) (.op 11 0 (.of [(10,0),(12,0),(13,0)] .done)))))]⟩
def wqb5(k:Nat){R:Type}(E1004 E1009:((List ((List UInt8)×(List Int)))→(List dT56)→(List ((List UInt8)×(List Int)))→(List dT56)→Int→Option R))(s0:(List ((List UInt8)×(List Int))))(s1:(List dT56))(s2:(List ((List UInt8)×(List Int))))(s3:(List dT56))(s4:Int)(K:(Bool→Option R)): Option R:=cond (decide (s4<(s0.length:Int))) (cond (inb s4 (s0.length:Int)) (cond (inb s4 (s2.length:Int)) (cond ((!((!((s0.getD s4.toNat (Kd.zero (@Kd.pr Kd.str (@Kd.sl kI)))).1 == (s2.getD s4.toNat (Kd.zero (@Kd.pr Kd.str (@Kd.sl kI)))).1)) == false)) || (inb s4 (s0.length:Int))) (cond ((!((!((s0.getD s4.toNat (Kd.zero (@Kd.pr Kd.str (@Kd.sl kI)))).1 == (s2.getD s4.toNat (Kd.zero (@Kd.pr Kd.str (@Kd.sl kI)))).1)) == false)) || (inb s4 (s2.length:Int))) (cond ((!((s0.getD s4.toNat (Kd.zero (@Kd.pr Kd.str (@Kd.sl kI)))).1 == (s2.getD s4.toNat (Kd.zero (@Kd.pr Kd.str (@Kd.sl kI)))).1)) == false) (wqdo k (s0.getD s4.toNat (Kd.zero (@Kd.pr Kd.str (@Kd.sl kI)))).2 (s2.getD s4.toNat (Kd.zero (@Kd.pr Kd.str (@Kd.sl kI)))).2 (fun y10=>cond (!y10) (K false) (E1004 s0 s1 s2 s3 (@Go.IntKind.wrap Go.IntKind.i64 (s4+1))))) (K false)) none) none) none) none) (E1009 s0 s1 s2 s3 0)
def wqa7(k:Nat){R:Type}(E1009:((List ((List UInt8)×(List Int)))→(List dT56)→(List ((List UInt8)×(List Int)))→(List dT56)→Int→Option R))(s0:(List ((List UInt8)×(List Int))))(s1:(List dT56))(s2:(List ((List UInt8)×(List Int))))(s3:(List dT56))(s4:Int)(K:(Bool→Option R)): Option R:=cond (decide (s4<(s1.length:Int))) (cond (inb s4 (s1.length:Int)) (cond (inb s4 (s3.length:Int)) (dupT (@Shp.b @Shp.o @Shp.o) (cond ((cond (cond (cond (cond (cond (!((s1.getD s4.toNat kdT56.zero).1 == (s3.getD s4.toNat kdT56.zero).1)) true (!(((s1.getD s4.toNat kdT56.zero).2).1 == ((s3.getD s4.toNat kdT56.zero).2).1))) true (!((((s1.getD s4.toNat kdT56.zero).2).2).1 == (((s3.getD s4.toNat kdT56.zero).2).2).1))) true (((((s1.getD s4.toNat kdT56.zero).2).2).2).1 != ((((s3.getD s4.toNat kdT56.zero).2).2).2).1)) true ((((((s1.getD s4.toNat kdT56.zero).2).2).2).2).1 != (((((s3.getD s4.toNat kdT56.zero).2).2).2).2).1)) true (!(((((((s1.getD s4.toNat kdT56.zero).2).2).2).2).2).1 == ((((((s3.getD s4.toNat kdT56.zero).2).2).2).2).2).1))) == false) (wq9i k ((((((((s1.getD s4.toNat kdT56.zero).2).2).2).2).2).2).1).1 (((((((((s1.getD s4.toNat kdT56.zero).2).2).2).2).2).2).1).2).1 ((((((((((s1.getD s4.toNat kdT56.zero).2).2).2).2).2).2).1).2).2).1 (((((((((((s1.getD s4.toNat kdT56.zero).2).2).2).2).2).2).1).2).2).2).1 ((((((((((((s1.getD s4.toNat kdT56.zero).2).2).2).2).2).2).1).2).2).2).2).1 ((((((((((((s1.getD s4.toNat kdT56.zero).2).2).2).2).2).2).1).2).2).2).2).2 ((((((((s3.getD s4.toNat kdT56.zero).2).2).2).2).2).2).1).1 (((((((((s3.getD s4.toNat kdT56.zero).2).2).2).2).2).2).1).2).1 ((((((((((s3.getD s4.toNat kdT56.zero).2).2).2).2).2).2).1).2).2).1 (((((((((((s3.getD s4.toNat kdT56.zero).2).2).2).2).2).2).1).2).2).2).1 ((((((((((((s3.getD s4.toNat kdT56.zero).2).2).2).2).2).2).1).2).2).2).2).1 ((((((((((((s3.getD s4.toNat kdT56.zero).2).2).2).2).2).2).1).2).2).2).2).2 (fun y10=>cond ((!y10) == false) (wqdo k (((((((s1.getD s4.toNat kdT56.zero).2).2).2).2).2).2).2 (((((((s3.getD s4.toNat kdT56.zero).2).2).2).2).2).2).2 (fun y11=>cond (!y11) (K false) (E1009 s0 s1 s2 s3 (@Go.IntKind.wrap Go.IntKind.i64 (s4+1))))) (K false))) (K false))) none) none) (K true)
def wq89(k:Nat){R:Type}(E1009:((List ((List UInt8)×(List Int)))→(List dT56)→(List ((List UInt8)×(List Int)))→(List dT56)→Int→Option R))(s0:(List ((List UInt8)×(List Int))))(s1:(List dT56))(s2:(List ((List UInt8)×(List Int))))(s3:(List dT56))(s4:Int)(K:(Bool→Option R)): Option R:=cond (decide (s4<(s1.length:Int))) (cond (inb s4 (s1.length:Int)) (cond (inb s4 (s3.length:Int)) (cond ((cond (cond (cond (cond (cond (!((s1.getD s4.toNat kdT56.zero).1 == (s3.getD s4.toNat kdT56.zero).1)) true (!(((s1.getD s4.toNat kdT56.zero).2).1 == ((s3.getD s4.toNat kdT56.zero).2).1))) true (!((((s1.getD s4.toNat kdT56.zero).2).2).1 == (((s3.getD s4.toNat kdT56.zero).2).2).1))) true (((((s1.getD s4.toNat kdT56.zero).2).2).2).1 != ((((s3.getD s4.toNat kdT56.zero).2).2).2).1)) true ((((((s1.getD s4.toNat kdT56.zero).2).2).2).2).1 != (((((s3.getD s4.toNat kdT56.zero).2).2).2).2).1)) true (!(((((((s1.getD s4.toNat kdT56.zero).2).2).2).2).2).1 == ((((((s3.getD s4.toNat kdT56.zero).2).2).2).2).2).1))) == false) (wq9i k ((((((((s1.getD s4.toNat kdT56.zero).2).2).2).2).2).2).1).1 (((((((((s1.getD s4.toNat kdT56.zero).2).2).2).2).2).2).1).2).1 ((((((((((s1.getD s4.toNat kdT56.zero).2).2).2).2).2).2).1).2).2).1 (((((((((((s1.getD s4.toNat kdT56.zero).2).2).2).2).2).2).1).2).2).2).1 ((((((((((((s1.getD s4.toNat kdT56.zero).2).2).2).2).2).2).1).2).2).2).2).1 ((((((((((((s1.getD s4.toNat kdT56.zero).2).2).2).2).2).2).1).2).2).2).2).2 ((((((((s3.getD s4.toNat kdT56.zero).2).2).2).2).2).2).1).1 (((((((((s3.getD s4.toNat kdT56.zero).2).2).2).2).2).2).1).2).1 ((((((((((s3.getD s4.toNat kdT56.zero).2).2).2).2).2).2).1).2).2).1 (((((((((((s3.getD s4.toNat kdT56.zero).2).2).2).2).2).2).1).2).2).2).1 ((((((((((((s3.getD s4.toNat kdT56.zero).2).2).2).2).2).2).1).2).2).2).2).1 ((((((((((((s3.getD s4.toNat kdT56.zero).2).2).2).2).2).2).1).2).2).2).2).2 (fun y10=>cond ((!y10) == false) (wqdo k (((((((s1.getD s4.toNat kdT56.zero).2).2).2).2).2).2).2 (((((((s3.getD s4.toNat kdT56.zero).2).2).2).2).2).2).2 (fun y11=>cond (!y11) (K false) (E1009 s0 s1 s2 s3 (@Go.IntKind.wrap Go.IntKind.i64 (s4+1))))) (K false))) (K false)) none) none) (K true)
theorem wqhd(k:Nat){R:Type}: @wqa7 k R=@wq89 k R:=by funext E1009 s0 s1 s2 s3 s4 K;unfold wqa7 wq89;simp only[wqyd,show ∀(R:Type) (a:Option R),both a a=a from fun R a=>by unfold both;exact if_pos rfl]
def wqql(k:Nat){R:Type}(E1004:((List ((List UInt8)×(List Int)))→(List dT56)→(List ((List UInt8)×(List Int)))→(List dT56)→Int→Option R))(x0:(List ((List UInt8)×(List Int))))(x1:(List dT56))(x2:(List ((List UInt8)×(List Int))))(x3:(List dT56))(K:(Bool→Option R)): Option R:=cond (cond ((x0.length:Int) != (x2.length:Int)) true ((x1.length:Int) != (x3.length:Int))) (K false) (E1004 x0 x1 x2 x3 0)
def wq6d(k:Nat){R:Type}: Nat→(List ((List UInt8)×(List Int)))→(List dT56)→(List ((List UInt8)×(List Int)))→(List dT56)→Int→(Bool→Option R)→Option R
 |0,_,_,_,_,_,_=>none
 |n+1,s0,s1,s2,s3,s4,K=>wq89 k (fun s0 s1 s2 s3 s4=>wq6d k n s0 s1 s2 s3 s4 K) s0 s1 s2 s3 s4 K
theorem wqir(k:Nat){R:Type}: ∀(I:Nat→St→Option R) (n:Nat),h_ref15_Same.lp u_ref15_Same_1009 (wqek k).cx k Tryz.f13 1009 [1,1,1,0,1,0] I n=wq6d k n:=h_ref15_Same.lok u_ref15_Same_1009 (B:=wq89 k) (L:=wq6d k) (fun I=>(show _=wqa7 k (u_ref15_Same_1009.cur (I 1009)) by kernel_rfl).trans (by simp only[wqhd])) (fun I=>by kernel_rfl) (fun n=>by kernel_rfl) (fun _ _ _ _=>rfl)
def wq8a(k:Nat){R:Type}: Nat→(List ((List UInt8)×(List Int)))→(List dT56)→(List ((List UInt8)×(List Int)))→(List dT56)→Int→(Bool→Option R)→Option R
 |0,_,_,_,_,_,_=>none
 |n+1,s0,s1,s2,s3,s4,K=>wqb5 k (fun s0 s1 s2 s3 s4=>wq8a k n s0 s1 s2 s3 s4 K) (fun s0 s1 s2 s3 s4=>wq6d k k s0 s1 s2 s3 s4 K) s0 s1 s2 s3 s4 K
theorem wqis(k:Nat){R:Type}: ∀(I:Nat→St→Option R) (n:Nat),h_ref15_Same.lp u_ref15_Same_1004 (wqek k).cx k Tryz.f13 1004 [1,1,0,1,0] I n=wq8a k n:=h_ref15_Same.lokA u_ref15_Same_1004 (fun I J=>h_ref15_Same.glue (l:=u_ref15_Same_1004.fs) (u:=u_ref15_Same_1009.fs) (fun E1009=>wqb5 k J E1009) (wq6d k k)) (fun I=>wq8a k ) (fun I f=>by kernel_rfl) (fun I=>(show _=h_ref15_Same.glue (l:=u_ref15_Same_1004.fs) (u:=u_ref15_Same_1009.fs) (fun E1009=>wqb5 k (u_ref15_Same_1004.cur (I 1004)) E1009) (h_ref15_Same.lp u_ref15_Same_1009 (wqek k).cx k Tryz.f13 1009 [1,1,1,0,1,0] I k) by kernel_rfl).trans (by rw[wqir])) (fun I=>by kernel_rfl) (fun I n=>by kernel_rfl) (fun _ _ _ _=>rfl)
def wqel(k:Nat){R:Type}(x0:(List ((List UInt8)×(List Int))))(x1:(List dT56))(x2:(List ((List UInt8)×(List Int))))(x3:(List dT56))(K:(Bool→Option R)): Option R:=wqql k (fun s0 s1 s2 s3 s4=>wq8a k k s0 s1 s2 s3 s4 K) x0 x1 x2 x3 K
theorem wqxu(k:Nat): DOK Tryz.prog 13 (h_ref15_Same.run (@wqel k)):=dok h_ref15_Same (wqek k) (fn:=Tryz.f13) (k:=k) (ok1 (wq102 k) (ok1 (wqqj k) ok0)) (by kernel_rfl) (by kernel_rfl) fun R=>h_ref15_Same.f1 u_ref15_Same_1004 (wqql k) (by kernel_rfl) (wqis k (fun _ _=>none) k) (by kernel_rfl)
def h_law17_awake:Sh:=⟨[],some ([],[.a .bool]),none⟩
def wqmf(k:Nat)(wq7e:(R:Type)→(List Int)→((List ((List UInt8)×(List Int)))→(List dT56)→Int→Int→Option R)→Option R)(wqa9:(R:Type)→(List ((List UInt8)×(List Int)))→(List dT56)→(List ((List UInt8)×(List Int)))→(List dT56)→(Bool→Option R)→Option R)(wq66:(R:Type)→(List ((List UInt8)×(List Int)))→(List dT56)→(Int→Option R)→Option R)(wq8z:(R:Type)→(List dT72)→((List ((List UInt8)×(List Int)))→(List dT56)→Int→Int→Option R)→Option R)(wq6x:(R:Type)→(List ((List UInt8)×(List Int)))→(List dT56)→(List ((List UInt8)×(List Int)))→(List dT56)→(Bool→Option R)→Option R): Cxt:=⟨[h_config_Parse.e 11 wq7e,h_ref15_Same.e 13 wqa9,h_config_Check.e 14 wq66,⟨16,wqm4,wqk8 wq8z⟩,h_config_Same.e 23 wq6x],[],[],[]⟩
def wqmg(k:Nat)(wq7e:(R:Type)→(List Int)→((List ((List UInt8)×(List Int)))→(List dT56)→Int→Int→Option R)→Option R)(wqa9:(R:Type)→(List ((List UInt8)×(List Int)))→(List dT56)→(List ((List UInt8)×(List Int)))→(List dT56)→(Bool→Option R)→Option R)(wq66:(R:Type)→(List ((List UInt8)×(List Int)))→(List dT56)→(Int→Option R)→Option R)(wq8z:(R:Type)→(List dT72)→((List ((List UInt8)×(List Int)))→(List dT56)→Int→Int→Option R)→Option R)(wq6x:(R:Type)→(List ((List UInt8)×(List Int)))→(List dT56)→(List ((List UInt8)×(List Int)))→(List dT56)→(Bool→Option R)→Option R){R:Type}(K:(Bool→Option R)): Option R:=wq7e R [100,111,109,97,105,110,115,58,10,32,32,45,32,100,111,109,97,105,110,58,32,115,104,111,112,10,32,32,32,32,100,101,115,99,114,105,112,116,111,114,115,58,10,32,32,32,32,32,32,45,32,107,101,121,58,32,117,115,101,114,10,32,32,32,32,32,32,32,32,114,97,116,101,95,108,105,109,105,116,58,10,32,32,32,32,32,32,32,32,32,32,117,110,105,116,58,32,109,105,110,117,116,101,10,32,32,32,32,32,32,32,32,32,32,114,101,113,117,101,115,116,115,95,112,101,114,95,117,110,105,116,58,32,49,48,10] (fun y3 y4 y5 y6=>wq8z R [] (fun y7 y8 y9 y10=>cond (((y5 == 0)&&(y6 == 0)) == true) (wqa9 R y3 y4 [([115,104,111,112],[0])] [([117,115,101,114],([],(true,(0,((@Neg.neg Int @Int.instNegInt (1:Int)),(true,(([],(2,(10,(4605380978949069210,(false,false))))),[])))))))] (fun y11=>cond (y11 == true) (wq66 R y3 y4 (fun y12=>cond ((y12 == 0) == true) (wq66 R [] [] (fun y13=>cond ((cond (y13 == 1) ((y9 == 11)&&(y10 == 0)) false) == true) (wq6x R y3 y4 [([115,104,111,112],[0])] [([117,115,101,114],([],(true,(0,((@Neg.neg Int @Int.instNegInt (1:Int)),(true,(([],(2,(10,(4605380978949069210,(false,false))))),[])))))))] (fun y14=>cond (y14 == true) (wq6x R y3 y4 [] [] (fun y15=>K (!y15))) (K false))) (K false))) (K false))) (K false))) (K false)))
theorem wqvq(k:Nat)(wq7e:(R:Type)→(List Int)→((List ((List UInt8)×(List Int)))→(List dT56)→Int→Int→Option R)→Option R)(wqa9:(R:Type)→(List ((List UInt8)×(List Int)))→(List dT56)→(List ((List UInt8)×(List Int)))→(List dT56)→(Bool→Option R)→Option R)(wq66:(R:Type)→(List ((List UInt8)×(List Int)))→(List dT56)→(Int→Option R)→Option R)(wq8z:(R:Type)→(List dT72)→((List ((List UInt8)×(List Int)))→(List dT56)→Int→Int→Option R)→Option R)(wq6x:(R:Type)→(List ((List UInt8)×(List Int)))→(List dT56)→(List ((List UInt8)×(List Int)))→(List dT56)→(Bool→Option R)→Option R)(R:Type): h_law17_awake.at (wqmf k wq7e wqa9 wq66 wq8z wq6x) k Tryz.f10 R=@wqmg k wq7e wqa9 wq66 wq8z wq6x R:=by kernel_rfl
def wq5q(k:Nat){R:Type}(K:(Bool→Option R)): Option R:=wqmg k (@wq79 k) (@wqel k) (@wqbl k) (@wqbq k) (@wqcn k) K
theorem wqvr(k:Nat): DOK Tryz.prog 10 (h_law17_awake.run (@wq5q k)):=dok h_law17_awake (wqmf k (@wq79 k) (@wqel k) (@wqbl k) (@wqbq k) (@wqcn k)) (fn:=Tryz.f10) (k:=k) (ok1 (wqk1 k) (ok1 (wqxu k) (ok1 (wqtp k) (ok1 (fun _ _ _ _ _ h=>wqs9 k (by unfold wqk8 at h;unfold wqci;exact h)) (ok1 (wqvp k) ok0))))) (by kernel_rfl) (by kernel_rfl) fun R=>wqvq k (@wq79 k) (@wqel k) (@wqbl k) (@wqbq k) (@wqcn k) R
def wqvs(k:Nat): Ent:=h_law17_awake.e 10 (@wq5q k)
def h_law17_ConfigDeep:Sh:=⟨[.a kI],some ([],[.a .bool]),none⟩
def u_law17_ConfigDeep_1005:Cu:=⟨0,[0,3,4],[.a kI,.a .str,.a kI]⟩
def wqdp(k:Nat): Cxt:=⟨[wqvs k,wqtk k,⟨19,wqdl,wq7a k⟩],[],[(1005,u_law17_ConfigDeep_1005.spec)],[]⟩
def wq9u(k:Nat){R:Type}(E1005:(Int→(List UInt8)→Int→Option R))(s0:Int)(s1:(List UInt8))(s2:Int)(K:(Bool→Option R)): Option R:=cond (decide (s2<s0)) (wq6u k [32] (@Go.IntKind.wrap Go.IntKind.i64 ((4:Int)+(@Go.IntKind.wrap Go.IntKind.i64 ((4:Int)*s2)))) (fun y7=>cond (joins s1 y7) (cond (joins (s1++y7) [100,101,115,99,114,105,112,116,111,114,115,58,10]) (wq6u k [32] (@Go.IntKind.wrap Go.IntKind.i64 ((6:Int)+(@Go.IntKind.wrap Go.IntKind.i64 ((4:Int)*s2)))) (fun y8=>cond (joins ((s1++y7)++[100,101,115,99,114,105,112,116,111,114,115,58,10]) y8) (cond (joins (((s1++y7)++[100,101,115,99,114,105,112,116,111,114,115,58,10])++y8) [45,32,107,101,121,58,32,107,10]) (E1005 s0 ((((s1++y7)++[100,101,115,99,114,105,112,116,111,114,115,58,10])++y8)++[45,32,107,101,121,58,32,107,10]) (@Go.IntKind.wrap Go.IntKind.i64 (s2+1))) none) none)) none) none)) (wq79 k (wqit s1) (fun y7 y8 y9 y10=>cond (decide (s0>8)) (cond (decide (s0>10)) (cond ((cond ((y9 == 8)&&(y10 == 24)) (((y8.length:Int) == s0) == (decide (s0≤8))) false) == true) (wq5q k K) (K false)) (cond ((cond ((y9 == 8)&&(y10 == 20)) (((y8.length:Int) == s0) == (decide (s0≤8))) false) == true) (wq5q k K) (K false))) (cond (decide (s0>10)) (cond ((cond ((y9 == 0)&&(y10 == 24)) (((y8.length:Int) == s0) == (decide (s0≤8))) false) == true) (wq5q k K) (K false)) (cond ((cond ((y9 == 0)&&(y10 == 0)) (((y8.length:Int) == s0) == (decide (s0≤8))) false) == true) (wq5q k K) (K false)))))
def wqa8(k:Nat){R:Type}(E1005:(Int→(List UInt8)→Int→Option R))(x0:Int)(K:(Bool→Option R)): Option R:=cond (cond (decide (x0<1)) true (decide (x0>14))) (wq5q k K) (E1005 x0 [100,111,109,97,105,110,115,58,10,32,32,45,32,100,111,109,97,105,110,58,32,115,104,111,112,10] 0)
def wq4y(k:Nat){R:Type}: Nat→Int→(List UInt8)→Int→(Bool→Option R)→Option R
 |0,_,_,_,_=>none
 |n+1,s0,s1,s2,K=>wq9u k (fun s0 s1 s2=>wq4y k n s0 s1 s2 K) s0 s1 s2 K
theorem wqd2(k:Nat){R:Type}: ∀(I:Nat→St→Option R) (n:Nat),h_law17_ConfigDeep.lp u_law17_ConfigDeep_1005 (wqdp k).cx k Tryz.f6 1005 [1,1,1,0,1,0] I n=wq4y k n:=h_law17_ConfigDeep.lok u_law17_ConfigDeep_1005 (B:=wq9u k) (L:=wq4y k) (fun I=>by kernel_rfl) (fun I=>by kernel_rfl) (fun n=>by kernel_rfl) (fun _ _ _ _=>rfl)
def wq15(k:Nat){R:Type}(x0:Int)(K:(Bool→Option R)): Option R:=wqa8 k (fun s0 s1 s2=>wq4y k k s0 s1 s2 K) x0 K
theorem wqli(k:Nat): DOK Tryz.prog 6 (h_law17_ConfigDeep.run (@wq15 k)):=dok h_law17_ConfigDeep (wqdp k) (fn:=Tryz.f6) (k:=k) (ok1 (wqvr k) (ok1 (wqk1 k) (ok1 (fun _ _ _ _ _ h=>wqg7 k h) ok0))) (by kernel_rfl) (by kernel_rfl) fun R=>h_law17_ConfigDeep.f1 u_law17_ConfigDeep_1005 (wqa8 k) (by kernel_rfl) (wqd2 k (fun _ _=>none) k) (by kernel_rfl)
theorem aw17{R:Type}(K:Bool→Option R): wq5q 300 K=K true:=by kernel_rfl
theorem cd_1:wq15 300 1 (fun b=>some b)=some true:=by kernel_rfl
theorem cd_2:wq15 300 2 (fun b=>some b)=some true:=by kernel_rfl
theorem cd_3:wq15 300 3 (fun b=>some b)=some true:=by kernel_rfl
theorem cd_4:wq15 300 4 (fun b=>some b)=some true:=by kernel_rfl
theorem cd_5:wq15 300 5 (fun b=>some b)=some true:=by kernel_rfl
theorem cd_6:wq15 300 6 (fun b=>some b)=some true:=by kernel_rfl
theorem cd_7:wq15 300 7 (fun b=>some b)=some true:=by kernel_rfl
theorem cd_8:wq15 300 8 (fun b=>some b)=some true:=by kernel_rfl
theorem cd_9:wq15 300 9 (fun b=>some b)=some true:=by kernel_rfl
theorem cd_10:wq15 300 10 (fun b=>some b)=some true:=by kernel_rfl
theorem cd_11:wq15 300 11 (fun b=>some b)=some true:=by kernel_rfl
theorem cd_12:wq15 300 12 (fun b=>some b)=some true:=by kernel_rfl
theorem cd_13:wq15 300 13 (fun b=>some b)=some true:=by kernel_rfl
theorem cd_14:wq15 300 14 (fun b=>some b)=some true:=by kernel_rfl
theorem wqtq(x:Int): ∃ k,wq15 k x (fun b=>some b)=some true:=by
 refine⟨300,?_⟩
 by_cases h:x<1∨x>14
 ·unfold wq15 wqa8
  have:(cond (decide (x<1)) true (decide (x>14)))=true:=by
   rw[Bool.cond_true_left];simpa using h
  rw[this,cond_true,aw17]
 ·obtain⟨n,rfl⟩:∃ n:Nat,x=n:=⟨x.toNat,by omega⟩
  have hn:1≤n∧n<15:=by omega
  match n,hn with
  |1,_=>exact cd_1
  |2,_=>exact cd_2
  |3,_=>exact cd_3
  |4,_=>exact cd_4
  |5,_=>exact cd_5
  |6,_=>exact cd_6
  |7,_=>exact cd_7
  |8,_=>exact cd_8
  |9,_=>exact cd_9
  |10,_=>exact cd_10
  |11,_=>exact cd_11
  |12,_=>exact cd_12
  |13,_=>exact cd_13
  |14,_=>exact cd_14
  |0,h=>omega
  |n+15,h=>omega
theorem wqre(x:(Kd.int .i64).T)(_:Wf (.int .i64) x): ∃ k,wq15 k x (fun b=>some b)=some true:=wqtq x
end Go.Proofs.YtabkhphoacmcdaaGreatDoor.Pvm
namespace Go.Proofs.YtabkhphoacmcdaaGreatDoor.configDeep
open Go Go.Proofs Go.ChangeShapes Go.WideShapes Go.ChangeAt Go.RowKit Go.Proofs.YtabkhphoacmcdaaGreatDoor.Pvm
theorem own:ownKnob Tryz.prog.godebug=none:=by kernel_rfl
theorem laidOut:laidOutB Tryz.prog=true:=by kernel_rfl
set_option maxRecDepth 100000 in
theorem lifted(os:Os)(started:os.Started)(H:Type)(enc:TypeId×Value→H):
 ReturnsInHanded {} Tryz.checked os 6 .any (fun w args=>(Rows.configDeepSpec.pre enc Tryz.prog Tryz.f6 Rows.configDeepRow.domain false w args∧laidMetH Tryz.prog Rows.configDeepRow.laid w)∧sizedMet enc Tryz.prog Tryz.f6 (OpenSpec.ofChange Rows.configDeepSpec) false w args) (Rows.configDeepSpec.post enc Tryz.prog Tryz.f6 false true false false):=by
 refine returnsInHanded_of_change_and (C:=Tryz.checked) (X:=fun w _=>laidMetH Tryz.prog Rows.configDeepRow.laid w) (fun _ _ _ hh h=>h.of_heap hh) own started (by kernel_rfl) Tryz.func6
  (ChangeSpec.witness_shaped (enc:=enc) (C:=Tryz.checked) (os:=os) (X:=fun w _=>laidMetH Tryz.prog Rows.configDeepRow.laid w) false (World.laidAll Tryz.prog os Rows.configDeepRow.laid) #[.int .i64 0] 8 (World.laidAll_os _ _ _)
   (World.shaped_of_ZipB (by kernel_rfl) (by kernel_rfl)) (by kernel_rfl) (by kernel_rfl) (by kernel_rfl)
   (by rw[MakeChecks.laidMetH_plain _ _ _ (by kernel_rfl)];exact laidMet_laidAll _ (by kernel_rfl) (by kernel_rfl))) ?_
 intro W base args ds gs before hval0 hW hcnd hsz0 hL _
 have hsz:(DataW.weightsEach Tryz.prog (Tryz.f6.params.toList++Rows.configDeepSpec.plain.varTypes Tryz.prog) (ds++gs)).all (· ≤ reachBytes)=true:=hsz0
 have hval:∀(j:Nat) t v,Tryz.f6.params[j]? = some t→args[j]? = some v→Value.okWide Tryz.prog W .any base t v:=hval0
 have hW':=hW
 obtain⟨p,q,hA0,hV,rfl,hfz,hnd⟩:=hW
 have hA:DataW.TrodAll enc Tryz.prog W 0 (fun _=>true) true Tryz.f6.params.toList args.toList ds p:=hA0
 rw[Tryz.params6]at hA hval hsz
 obtain⟨v0,vs0,d0,ds0,p0,q0,hargs,rfl,rfl,h0,r0⟩:=trodAll_cons hA
 obtain⟨rfl,rfl,rfl⟩:=trodAll_nil r0
 obtain rfl:args = #[v0]:=by cases args;simp_all
 obtain⟨rfl,rfl⟩:=trodVars_none hV
 have hws:=wq11g (P:=Tryz.prog) hsz
 have k0:=h0
 have lt0:∀ x∈p0,x.block<W.heap.size:=by obtain⟨m,hm⟩:=k0;exact DataW.trod_lt m _ _ _ hm
 obtain⟨x0,wf0,rv0⟩:=wq147 tyT_ok (n:=9) (K:=(.int .i64)) (by kernel_rfl) (by kernel_rfl) (hval 0 3 v0 rfl rfl) h0 (hws 0 3 d0 rfl rfl) (h:=mkH []) (G:=G0) (fun _=>rfl) (fun _ h=>h)
 obtain⟨k,hk⟩:=wqre x0 wf0
 have hrun:h_law17_ConfigDeep.run (@wq15 k) [.v (.int .i64) x0] [] lawK=some true:=(show _=wq15 k x0 (fun b=>some b) by kernel_rfl).trans hk
 refine(wqyi (fn:=Tryz.f6) (c:=Tryz.f6.body.getD .skip) (by kernel_rfl) (by kernel_rfl) (by kernel_rfl) (wqli k _ _ _ _ _ hrun) (vals:=[v0]) ⟨v0,_,rfl,rv0,rfl⟩).mono fun e W' ⟨he,bel⟩ => ?_
 subst he
 exact⟨_,rfl,_,_,_,[],_,[],hW',trodAll_mk1 (shut_bool Tryz.underlying4 _),(trodAll_cons_mk (Below.trod laidOut (by kernel_rfl) (of_decide_eq_true (by kernel_rfl)) k0 bel lt0) trodAll_mk0),rfl,bel.frame _,fun h=>by cases h⟩
theorem over:Rows.configDeepRow.holds Tryz.pinned (OpenSpec.ofChange Rows.configDeepSpec) :=
 OpenClaim.holds_of_wide 6 Tryz.f6 rfl rfl rfl rfl rfl rfl rfl ⟨rfl,rfl,rfl,rfl,rfl⟩ rfl rfl rfl rfl rfl (by kernel_rfl) Tryz.func6 (by kernel_rfl)
  (of_decide_eq_true (by kernel_rfl)) (by unfold Func.isWrapper;first|(rw[if_pos (by decide +kernel)];kernel_rfl)|(rw[if_neg (by decide +kernel)];exact⟨rfl,rfl⟩))
  (fun os started H enc _=>lifted os started H enc)
theorem tied:Rows.ConfigDeepCardSaid :=
 Claim7.holds_tied_plain_at .later [] [.data,.pinned] true (true,"c61b158f2341520057692774128471b7c7a277b548e973e80533808263959f4a") true over (fun _ h=>by cases h) (by kernel_rfl) (fun _ h=>by cases h) configDeep_row_tie rfl ⟨rfl,rfl⟩ (by kernel_rfl) rfl
  (fun f fn hf hfn=>by
   obtain rfl:f=6:=Option.some.inj ((show Tryz.prog.funcNamed Rows.configDeepRow.func=some 6 by kernel_rfl).symm.trans hf) |>.symm
   obtain rfl:fn=Tryz.f6:=(Option.some.inj (Tryz.func6.symm.trans hfn)).symm
   exact⟨by kernel_rfl,fun j t ht=>by
    rw[Tryz.params6]at ht
    have hm:t∈[3]:=by simpa using Array.mem_of_getElem? ht
    have hall:([3].all fun u => !Tryz.prog.wantsStandIn u)=true:=by kernel_rfl
    exact(show Tryz.prog.wantsStandIn t=false by simpa using List.all_eq_true.1 hall t hm)⟩)
  (by kernel_rfl)
#print axioms tied
end Go.Proofs.YtabkhphoacmcdaaGreatDoor.configDeep
namespace Go.Proofs.YtabkhphoacmcdaaGreatDoor
theorem configDeep_holds:Rows.ConfigDeepCardSaid:=configDeep.tied
end Go.Proofs.YtabkhphoacmcdaaGreatDoor
end
