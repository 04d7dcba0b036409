/- For every number i the Go function ConfigForms of turncocklaw17 returns true. -/
import Derived.Test.YtabkhphoacmcdaaGreatDoorChecked
import Derived.WalkKit
import Derived.WalkSpells
import Derived.WalkLawsBesides
import Derived.Lib.Builder
import Derived.Lib.AppendStr
import Derived.Lib.UnsafeStr
import Derived.Laws.Externs
import Derived.Shelf.RegionOpenPlain
import Derived.Deep.Heap
import Derived.Lib.Bytealg
import Derived.Shelf.GgClosure.StringsIndexFuncTop
import Derived.Shelf.Strings.FuncGrows
import Derived.Shelf.Strings.Repeat
import Derived.Test.YtabkhphoacmcdaaGreatDoorConfigFormsM0
import Derived.Test.YtabkhphoacmcdaaGreatDoorConfigFormsM1
import Derived.Test.YtabkhphoacmcdaaGreatDoorConfigFormsM2
import Derived.Test.YtabkhphoacmcdaaGreatDoorConfigFormsM3
set_option linter.unusedVariables false
set_option linter.unusedSimpArgs false
set_option linter.unusedSectionVars false
noncomputable section
set_option maxRecDepth 1000000
set_option maxHeartbeats 0
noncomputable section
namespace Go.Proofs.YtabkhphoacmcdaaGreatDoor.Pvm
open Go Go.Proofs
abbrev wq3a(R:Type): Type:=(Int→Int→(List UInt8)→Int→(List dT156)→(List UInt8)→Int→Option R)
def wqmw:List LS:=[.obj 1 [.any,.any,.any,.any,.own 21 157 kdT156],.any]
def wq9v{R:Type}(K:wq3a R)(E:(Int→Int→(List UInt8)→Int→(List dT156)→Int→Int→Option R)): Out→Option R
 |.ret [.v .str y5,.v (.int .i64) y6] [(21,.row 157 (.pr (.int .i64) (.pr (.int .i64) (.pr (.int .i64) (.pr .str .bool)))) y4),(1,.var 200 [.v (.int .i64) y0,.v (.int .i64) y1,.v .str y2,.v (.int .i64) y3,.row 21])]=>K y0 y1 y2 y3 y4 y5 y6
 |.pan (.ifc 29 (.agg [.v (.int .i64) z5,.v (.int .i64) z6])) [(21,.row 157 (.pr (.int .i64) (.pr (.int .i64) (.pr (.int .i64) (.pr .str .bool)))) z4),(1,.var 200 [.v (.int .i64) z0,.v (.int .i64) z1,.v .str z2,.v (.int .i64) z3,.row 21])]=>E z0 z1 z2 z3 z4 z5 z6
 |_=>none
def wqg8:RetSpec:=⟨[.any,.any],[(1,.obj 1 [.any,.any,.any,.any,.own 21 157 (.pr (.int .i64) (.pr (.int .i64) (.pr (.int .i64) (.pr .str .bool))))])],[(1,.obj 1 [.any,.any,.any,.any,.own 21 157 (.pr (.int .i64) (.pr (.int .i64) (.pr (.int .i64) (.pr .str .bool))))])]⟩
def wqg9(k:Nat): Ctx:=⟨tyT,[(1003,⟨[(0,.obj 1 [.any,.any,.any,.any,.own 21 157 kdT156]),(1,.any),(6,.obj 16 [.nps 16 0,.own 36 5 (.int .u8)]),(7,.any)],[(1,.obj 1 [.any,.any,.any,.any,.own 21 157 kdT156])]⟩)],(.add 45 wqeb (wq6t k) (.add 191 wq7a (wq58 k) (.add 254 wqc4 (wq4m k) (.add 255 wq10z (wqc3 k) .nil)))),[],[1],[],@SH⟩
def wq7v(s0 s1:Int)(s2:(List UInt8))(s3:Int)(s4:(List dT156))(s5:(List UInt8))(s6:(List Int))(s7:Int): St:=⟨mkT [(0,.ptr 1 0),(1,.v .str s5),(6,.ptr 16 0),(7,.v kI s7)],mkH [(21,.row 157 kdT156 s4),(1,.var 200 [.v kI s0,.v kI s1,.v .str s2,.v kI s3,.row 21]),(36,.row 5 (.int .u8) s6),(16,.var 89 [.nps 16 0,.row 36])]⟩
def wqbm(k:Nat){R:Type}(I:Nat→St→Option R)(n:Nat)(s:St)(K:wq3a R)(E:(Int→Int→(List UInt8)→Int→(List dT156)→Int→Int→Option R)): Option R:=loopK (wqg9 k) k Tryz.f230 wqg8 1003 [1,1,0,1,0] I n s (wq9v K E)
def wqhc(k:Nat){R:Type}(E1003:(Int→Int→(List UInt8)→Int→(List dT156)→(List UInt8)→(List Int)→Int→Option R))(s0 s1:Int)(s2:(List UInt8))(s3:Int)(s4:(List dT156))(s5:(List UInt8))(s6:(List Int))(s7:Int)(K:wq3a R)(E:(Int→Int→(List UInt8)→Int→(List dT156)→Int→Int→Option R)): Option R:=cond (decide (s7<(s5.length:Int))) (cond (inb s7 (s5.length:Int)) (cond (((s5.getD s7.toNat 0).toNat:Int) == 34) (wq7t k s6 (fun y13 y14=>K s0 s1 s2 s3 s4 y14 (@Go.IntKind.wrap Go.IntKind.i64 (s7+1)))) (cond (((s5.getD s7.toNat 0).toNat:Int) == 92) (cond (bnd (@Go.IntKind.wrap Go.IntKind.i64 (s7+1)) (s5.length:Int) (s5.length:Int)) (wqjs k s0 s1 s2 s3 s4 (cut s5 (@Go.IntKind.wrap Go.IntKind.i64 (s7+1)) (s5.length:Int)) (fun y13 y14 y15 y16 y17 y18 y19=>wq48 k s6 y18 (fun y20=>E1003 y13 y14 y15 y16 y17 s5 y20 (@Go.IntKind.wrap Go.IntKind.i64 ((@Go.IntKind.wrap Go.IntKind.i64 (s7+y19))+1)))) E) none) (cond (inb s7 (s5.length:Int)) (wq48 k s6 ((s5.getD s7.toNat 0).toNat:Int) (fun y13=>E1003 s0 s1 s2 s3 s4 s5 y13 (@Go.IntKind.wrap Go.IntKind.i64 (s7+1)))) none))) none) (wq9 k s0 s1 s2 s3 s4 3 (fun y13 y14 y15 y16 y17=>K y13 y14 y15 y16 y17 [] 0) E)
theorem wqov(k:Nat){R:Type}(I:Nat→St→Option R)(s0 s1:Int)(s2:(List UInt8))(s3:Int)(s4:(List dT156))(s5:(List UInt8))(s6:(List Int))(s7:Int)(K:wq3a R)(E:(Int→Int→(List UInt8)→Int→(List dT156)→Int→Int→Option R)): bodyK (wqg9 k) k Tryz.f230 wqg8 [1,1,0,1,0,0] I (wq7v s0 s1 s2 s3 s4 s5 s6 s7) (wq9v K E)=wqhc k (fun s0 s1 s2 s3 s4 s5 s6 s7=>I 1003 (wq7v s0 s1 s2 s3 s4 s5 s6 s7)) s0 s1 s2 s3 s4 s5 s6 s7 K E:=by kernel_rfl
def wqps(k:Nat){R:Type}(E1003:(Int→Int→(List UInt8)→Int→(List dT156)→(List UInt8)→(List Int)→Int→Option R))(x0 x1:Int)(x2:(List UInt8))(x3:Int)(x4:(List dT156))(x5:(List UInt8))(K:wq3a R)(E:(Int→Int→(List UInt8)→Int→(List dT156)→Int→Int→Option R)): Option R:=E1003 x0 x1 x2 x3 x4 x5 [] 1
def wqbn(k:Nat){R:Type}: Nat→Int→Int→(List UInt8)→Int→(List dT156)→(List UInt8)→(List Int)→Int→(Int→Int→(List UInt8)→Int→(List dT156)→(List UInt8)→Int→Option R)→(Int→Int→(List UInt8)→Int→(List dT156)→Int→Int→Option R)→Option R
 |0,_,_,_,_,_,_,_,_,_,_=>none
 |n+1,s0,s1,s2,s3,s4,s5,s6,s7,K,E=>wqhc k (fun s0 s1 s2 s3 s4 s5 s6 s7=>wqbn k n s0 s1 s2 s3 s4 s5 s6 s7 K E) s0 s1 s2 s3 s4 s5 s6 s7 K E
theorem wqow(k:Nat){R:Type}(I:Nat→St→Option R)(K:wq3a R)(E:(Int→Int→(List UInt8)→Int→(List dT156)→Int→Int→Option R))(n:Nat): ∀(s0 s1:Int) (s2:(List UInt8)) (s3:Int) (s4:(List dT156)) (s5:(List UInt8)) (s6:(List Int)) (s7:Int),wqbm k I n (wq7v s0 s1 s2 s3 s4 s5 s6 s7) K E=wqbn k n s0 s1 s2 s3 s4 s5 s6 s7 K E:=by
 induction n with
 |zero=>intros;rfl
 |succ n ih =>
  intro s0 s1 s2 s3 s4 s5 s6 s7
  refine(?_:_=_).trans ((wqov k (upI 1003 (fun s=>wqbm k I n s K E) I) s0 s1 s2 s3 s4 s5 s6 s7 K E).trans ?_)
  ·rfl
  ·simp only[wq43,ih]<;>rfl
def wq88(k:Nat){R:Type}(x0 x1:Int)(x2:(List UInt8))(x3:Int)(x4:(List dT156))(x5:(List UInt8))(K:wq3a R)(E:(Int→Int→(List UInt8)→Int→(List dT156)→Int→Int→Option R)): Option R:=wqps k (fun s0 s1 s2 s3 s4 s5 s6 s7=>wqbn k k s0 s1 s2 s3 s4 s5 s6 s7 K E) x0 x1 x2 x3 x4 x5 K E
theorem wqvy(k:Nat){R:Type}(x0 x1:Int)(x2:(List UInt8))(x3:Int)(x4:(List dT156))(x5:(List UInt8))(K:wq3a R)(E:(Int→Int→(List UInt8)→Int→(List dT156)→Int→Int→Option R)): fnW (wqg9 k) k Tryz.f230 wqg8 [.ptr 1 0,.v .str x5] [(21,.row 157 kdT156 x4),(1,.var 200 [.v kI x0,.v kI x1,.v .str x2,.v kI x3,.row 21])] (wq9v K E)=wq88 k x0 x1 x2 x3 x4 x5 K E:=by
 refine Eq.trans (b:=wqps k (fun s0 s1 s2 s3 s4 s5 s6 s7=>wqbm k (fun _ _=>none) k (wq7v s0 s1 s2 s3 s4 s5 s6 s7) K E) x0 x1 x2 x3 x4 x5 K E) (by kernel_rfl) ?_
 simp only[wqow]<;>rfl
def wqat(k:Nat){R:Type}: List PV→List (Nm×HObj)→(Out→Option R)→Option R
 |[.ptr 1 0,.v .str x5],[(21,.row 157 (.pr (.int .i64) (.pr (.int .i64) (.pr (.int .i64) (.pr .str .bool)))) x4),(1,.var 200 [.v (.int .i64) x0,.v (.int .i64) x1,.v .str x2,.v (.int .i64) x3,.row 21])],K=>wq88 k x0 x1 x2 x3 x4 x5 (fun y0 y1 y2 y3 y4 y5 y6=>K (.ret [.v .str y5,.v (.int .i64) y6] [(21,.row 157 (.pr (.int .i64) (.pr (.int .i64) (.pr (.int .i64) (.pr .str .bool)))) y4),(1,.var 200 [.v (.int .i64) y0,.v (.int .i64) y1,.v .str y2,.v (.int .i64) y3,.row 21])])) (fun z0 z1 z2 z3 z4 z5 z6=>K (.pan (.ifc 29 (.agg [.v (.int .i64) z5,.v (.int .i64) z6])) [(21,.row 157 (.pr (.int .i64) (.pr (.int .i64) (.pr (.int .i64) (.pr .str .bool)))) z4),(1,.var 200 [.v (.int .i64) z0,.v (.int .i64) z1,.v .str z2,.v (.int .i64) z3,.row 21])]))
 |_,_,_=>none
theorem wq13t(k:Nat): DOK Tryz.prog 230 (wqat k):=by
 intro ps hp R K r h
 have h:wqat k ps hp K=some r:=h
 unfold wqat at h
 split at h
 ·rw[←wqvy]at h
  exact fnW_ok ⟨tyT_ok,(CTab.add_ok (fun h=>wqg6 k h) (wqd (wqbb k) (wqd (wqdp k) (wqd (wq16p k) CTab.nil_ok)))),fun _ _=>rfl⟩ mixed (by kernel_rfl) (by kernel_rfl) h fun o ho=>by unfold wq9v at ho;split at ho<;>first|exact ho|cases ho
 ·cases h
end Go.Proofs.YtabkhphoacmcdaaGreatDoor.Pvm
end
noncomputable section
namespace Go.Proofs.YtabkhphoacmcdaaGreatDoor.Pvm
open Go Go.Proofs
abbrev wq3b(R:Type): Type:=(Int→Int→(List UInt8)→Int→(List dT156)→(List UInt8)→Int→Option R)
def wqmx:List LS:=[.obj 1 [.any,.any,.any,.any,.own 21 157 kdT156],.any]
def wq9w{R:Type}(K:wq3b R)(E:(Int→Int→(List UInt8)→Int→(List dT156)→Int→Int→Option R)): Out→Option R
 |.ret [.v .str y5,.v (.int .i64) y6] [(21,.row 157 (.pr (.int .i64) (.pr (.int .i64) (.pr (.int .i64) (.pr .str .bool)))) y4),(1,.var 200 [.v (.int .i64) y0,.v (.int .i64) y1,.v .str y2,.v (.int .i64) y3,.row 21])]=>K y0 y1 y2 y3 y4 y5 y6
 |.pan (.ifc 29 (.agg [.v (.int .i64) z5,.v (.int .i64) z6])) [(21,.row 157 (.pr (.int .i64) (.pr (.int .i64) (.pr (.int .i64) (.pr .str .bool)))) z4),(1,.var 200 [.v (.int .i64) z0,.v (.int .i64) z1,.v .str z2,.v (.int .i64) z3,.row 21])]=>E z0 z1 z2 z3 z4 z5 z6
 |_=>none
def wqga:RetSpec:=⟨[.any,.any],[(1,.obj 1 [.any,.any,.any,.any,.own 21 157 (.pr (.int .i64) (.pr (.int .i64) (.pr (.int .i64) (.pr .str .bool))))])],[(1,.obj 1 [.any,.any,.any,.any,.own 21 157 (.pr (.int .i64) (.pr (.int .i64) (.pr (.int .i64) (.pr .str .bool))))])]⟩
def wqgb(k:Nat): Ctx:=⟨tyT,[(1003,⟨[(0,.obj 1 [.any,.any,.any,.any,.own 21 157 kdT156]),(1,.any),(6,.obj 16 [.nps 16 0,.own 36 5 (.int .u8)]),(7,.any)],[(1,.obj 1 [.any,.any,.any,.any,.own 21 157 kdT156])]⟩)],(.add 45 wqeb (wq6t k) (.add 191 wq7a (wq58 k) (.add 254 wqc4 (wq4m k) .nil))),[],[1],[],@SH⟩
def wq7w(s0 s1:Int)(s2:(List UInt8))(s3:Int)(s4:(List dT156))(s5:(List UInt8))(s6:(List Int))(s7:Int): St:=⟨mkT [(0,.ptr 1 0),(1,.v .str s5),(6,.ptr 16 0),(7,.v kI s7)],mkH [(21,.row 157 kdT156 s4),(1,.var 200 [.v kI s0,.v kI s1,.v .str s2,.v kI s3,.row 21]),(36,.row 5 (.int .u8) s6),(16,.var 89 [.nps 16 0,.row 36])]⟩
def wqbo(k:Nat){R:Type}(I:Nat→St→Option R)(n:Nat)(s:St)(K:wq3b R)(E:(Int→Int→(List UInt8)→Int→(List dT156)→Int→Int→Option R)): Option R:=loopK (wqgb k) k Tryz.f229 wqga 1003 [1,1,0,1,0] I n s (wq9w K E)
def wqhd(k:Nat){R:Type}(E1003:(Int→Int→(List UInt8)→Int→(List dT156)→(List UInt8)→(List Int)→Int→Option R))(s0 s1:Int)(s2:(List UInt8))(s3:Int)(s4:(List dT156))(s5:(List UInt8))(s6:(List Int))(s7:Int)(K:wq3b R)(E:(Int→Int→(List UInt8)→Int→(List dT156)→Int→Int→Option R)): Option R:=cond (decide (s7<(s5.length:Int))) (cond (inb s7 (s5.length:Int)) (cond (((s5.getD s7.toNat 0).toNat:Int) != 39) (cond (inb s7 (s5.length:Int)) (wq48 k s6 ((s5.getD s7.toNat 0).toNat:Int) (fun y13=>E1003 s0 s1 s2 s3 s4 s5 y13 (@Go.IntKind.wrap Go.IntKind.i64 (s7+1)))) none) (cond ((!((decide ((@Go.IntKind.wrap Go.IntKind.i64 (s7+1))≥(s5.length:Int))) == false)) || (inb (@Go.IntKind.wrap Go.IntKind.i64 (s7+1)) (s5.length:Int))) (cond (cond (decide ((@Go.IntKind.wrap Go.IntKind.i64 (s7+1))≥(s5.length:Int))) true (((s5.getD (@Go.IntKind.wrap Go.IntKind.i64 (s7+1)).toNat 0).toNat:Int) != 39)) (wq7t k s6 (fun y13 y14=>K s0 s1 s2 s3 s4 y14 (@Go.IntKind.wrap Go.IntKind.i64 (s7+1)))) (wq48 k s6 39 (fun y13=>E1003 s0 s1 s2 s3 s4 s5 y13 (@Go.IntKind.wrap Go.IntKind.i64 ((@Go.IntKind.wrap Go.IntKind.i64 (s7+1))+1))))) none)) none) (wq9 k s0 s1 s2 s3 s4 3 (fun y13 y14 y15 y16 y17=>K y13 y14 y15 y16 y17 [] 0) E)
theorem wqox(k:Nat){R:Type}(I:Nat→St→Option R)(s0 s1:Int)(s2:(List UInt8))(s3:Int)(s4:(List dT156))(s5:(List UInt8))(s6:(List Int))(s7:Int)(K:wq3b R)(E:(Int→Int→(List UInt8)→Int→(List dT156)→Int→Int→Option R)): bodyK (wqgb k) k Tryz.f229 wqga [1,1,0,1,0,0] I (wq7w s0 s1 s2 s3 s4 s5 s6 s7) (wq9w K E)=wqhd k (fun s0 s1 s2 s3 s4 s5 s6 s7=>I 1003 (wq7w s0 s1 s2 s3 s4 s5 s6 s7)) s0 s1 s2 s3 s4 s5 s6 s7 K E:=by kernel_rfl
def wqpt(k:Nat){R:Type}(E1003:(Int→Int→(List UInt8)→Int→(List dT156)→(List UInt8)→(List Int)→Int→Option R))(x0 x1:Int)(x2:(List UInt8))(x3:Int)(x4:(List dT156))(x5:(List UInt8))(K:wq3b R)(E:(Int→Int→(List UInt8)→Int→(List dT156)→Int→Int→Option R)): Option R:=E1003 x0 x1 x2 x3 x4 x5 [] 1
def wqbp(k:Nat){R:Type}: Nat→Int→Int→(List UInt8)→Int→(List dT156)→(List UInt8)→(List Int)→Int→(Int→Int→(List UInt8)→Int→(List dT156)→(List UInt8)→Int→Option R)→(Int→Int→(List UInt8)→Int→(List dT156)→Int→Int→Option R)→Option R
 |0,_,_,_,_,_,_,_,_,_,_=>none
 |n+1,s0,s1,s2,s3,s4,s5,s6,s7,K,E=>wqhd k (fun s0 s1 s2 s3 s4 s5 s6 s7=>wqbp k n s0 s1 s2 s3 s4 s5 s6 s7 K E) s0 s1 s2 s3 s4 s5 s6 s7 K E
theorem wqoy(k:Nat){R:Type}(I:Nat→St→Option R)(K:wq3b R)(E:(Int→Int→(List UInt8)→Int→(List dT156)→Int→Int→Option R))(n:Nat): ∀(s0 s1:Int) (s2:(List UInt8)) (s3:Int) (s4:(List dT156)) (s5:(List UInt8)) (s6:(List Int)) (s7:Int),wqbo k I n (wq7w s0 s1 s2 s3 s4 s5 s6 s7) K E=wqbp k n s0 s1 s2 s3 s4 s5 s6 s7 K E:=by
 induction n with
 |zero=>intros;rfl
 |succ n ih =>
  intro s0 s1 s2 s3 s4 s5 s6 s7
  refine(?_:_=_).trans ((wqox k (upI 1003 (fun s=>wqbo k I n s K E) I) s0 s1 s2 s3 s4 s5 s6 s7 K E).trans ?_)
  ·rfl
  ·simp only[wq43,ih]<;>rfl
def wq89(k:Nat){R:Type}(x0 x1:Int)(x2:(List UInt8))(x3:Int)(x4:(List dT156))(x5:(List UInt8))(K:wq3b R)(E:(Int→Int→(List UInt8)→Int→(List dT156)→Int→Int→Option R)): Option R:=wqpt k (fun s0 s1 s2 s3 s4 s5 s6 s7=>wqbp k k s0 s1 s2 s3 s4 s5 s6 s7 K E) x0 x1 x2 x3 x4 x5 K E
theorem wqvz(k:Nat){R:Type}(x0 x1:Int)(x2:(List UInt8))(x3:Int)(x4:(List dT156))(x5:(List UInt8))(K:wq3b R)(E:(Int→Int→(List UInt8)→Int→(List dT156)→Int→Int→Option R)): fnW (wqgb k) k Tryz.f229 wqga [.ptr 1 0,.v .str x5] [(21,.row 157 kdT156 x4),(1,.var 200 [.v kI x0,.v kI x1,.v .str x2,.v kI x3,.row 21])] (wq9w K E)=wq89 k x0 x1 x2 x3 x4 x5 K E:=by
 refine Eq.trans (b:=wqpt k (fun s0 s1 s2 s3 s4 s5 s6 s7=>wqbo k (fun _ _=>none) k (wq7w s0 s1 s2 s3 s4 s5 s6 s7) K E) x0 x1 x2 x3 x4 x5 K E) (by kernel_rfl) ?_
 simp only[wqoy]<;>rfl
def wqau(k:Nat){R:Type}: List PV→List (Nm×HObj)→(Out→Option R)→Option R
 |[.ptr 1 0,.v .str x5],[(21,.row 157 (.pr (.int .i64) (.pr (.int .i64) (.pr (.int .i64) (.pr .str .bool)))) x4),(1,.var 200 [.v (.int .i64) x0,.v (.int .i64) x1,.v .str x2,.v (.int .i64) x3,.row 21])],K=>wq89 k x0 x1 x2 x3 x4 x5 (fun y0 y1 y2 y3 y4 y5 y6=>K (.ret [.v .str y5,.v (.int .i64) y6] [(21,.row 157 (.pr (.int .i64) (.pr (.int .i64) (.pr (.int .i64) (.pr .str .bool)))) y4),(1,.var 200 [.v (.int .i64) y0,.v (.int .i64) y1,.v .str y2,.v (.int .i64) y3,.row 21])])) (fun z0 z1 z2 z3 z4 z5 z6=>K (.pan (.ifc 29 (.agg [.v (.int .i64) z5,.v (.int .i64) z6])) [(21,.row 157 (.pr (.int .i64) (.pr (.int .i64) (.pr (.int .i64) (.pr .str .bool)))) z4),(1,.var 200 [.v (.int .i64) z0,.v (.int .i64) z1,.v .str z2,.v (.int .i64) z3,.row 21])]))
 |_,_,_=>none
theorem wq13u(k:Nat): DOK Tryz.prog 229 (wqau k):=by
 intro ps hp R K r h
 have h:wqau k ps hp K=some r:=h
 unfold wqau at h
 split at h
 ·rw[←wqvz]at h
  exact fnW_ok ⟨tyT_ok,(CTab.add_ok (fun h=>wqg6 k h) (wqd (wqbb k) (wqd (wqdp k) CTab.nil_ok))),fun _ _=>rfl⟩ mixed (by kernel_rfl) (by kernel_rfl) h fun o ho=>by unfold wq9w at ho;split at ho<;>first|exact ho|cases ho
 ·cases h
end Go.Proofs.YtabkhphoacmcdaaGreatDoor.Pvm
end
noncomputable section
namespace Go.Proofs.YtabkhphoacmcdaaGreatDoor.Pvm
open Go Go.Proofs
def wq13v:List LS:=[.obj 1 [.any,.any,.any,.any,.own 21 157 kdT156],.any]
def wqgc{R:Type}(K:(Int→Int→(List UInt8)→Int→(List dT156)→Option R))(E:(Int→Int→(List UInt8)→Int→(List dT156)→Int→Int→Option R)): Out→Option R
 |.ret [] [(21,.row 157 (.pr (.int .i64) (.pr (.int .i64) (.pr (.int .i64) (.pr .str .bool)))) y4),(1,.var 200 [.v (.int .i64) y0,.v (.int .i64) y1,.v .str y2,.v (.int .i64) y3,.row 21])]=>K y0 y1 y2 y3 y4
 |.pan (.ifc 29 (.agg [.v (.int .i64) z5,.v (.int .i64) z6])) [(21,.row 157 (.pr (.int .i64) (.pr (.int .i64) (.pr (.int .i64) (.pr .str .bool)))) z4),(1,.var 200 [.v (.int .i64) z0,.v (.int .i64) z1,.v .str z2,.v (.int .i64) z3,.row 21])]=>E z0 z1 z2 z3 z4 z5 z6
 |_=>none
def wqs0:RetSpec:=⟨[],[(1,.obj 1 [.any,.any,.any,.any,.own 21 157 (.pr (.int .i64) (.pr (.int .i64) (.pr (.int .i64) (.pr .str .bool))))])],[(1,.obj 1 [.any,.any,.any,.any,.own 21 157 (.pr (.int .i64) (.pr (.int .i64) (.pr (.int .i64) (.pr .str .bool))))])]⟩
def wqs1(k:Nat): Ctx:=⟨tyT,[],(.add 191 wq7a (wq58 k) (.add 193 wqyn (wqmo k) (.add 194 wqg5 (wq9c k) (.add 195 wq13l (wqpr k) (.add 229 wqmx (wqau k) (.add 230 wqmw (wqat k) (.add 231 wqe3 (wq7l k) .nil))))))),[],[1],[],@SH⟩
def wq19c(k:Nat){R:Type}(x0 x1:Int)(x2:(List UInt8))(x3:Int)(x4:(List dT156))(x5:(List UInt8))(K:(Int→Int→(List UInt8)→Int→(List dT156)→Option R))(E:(Int→Int→(List UInt8)→Int→(List dT156)→Int→Int→Option R)): Option R:=cond (inb 0 (x5.length:Int)) (cond (((x5.getD (Int.toNat 0) 0).toNat:Int) == 39) (wq89 k x0 x1 x2 x3 x4 x5 (fun y10 y11 y12 y13 y14 y15 y16=>cond (y16 != (x5.length:Int)) (wq9 k y10 y11 y12 y13 y14 3 (fun y17 y18 y19 y20 y21=>cond (decide ((y15.length:Int)>200)) (wq9 k y17 y18 y19 y20 y21 4 (fun y22 y23 y24 y25 y26=>wqh k y22 y23 y24 y25 y26 3 y15 true y16 K) E) (wqh k y17 y18 y19 y20 y21 3 y15 true y16 K)) E) (cond (decide ((y15.length:Int)>200)) (wq9 k y10 y11 y12 y13 y14 4 (fun y17 y18 y19 y20 y21=>wqh k y17 y18 y19 y20 y21 3 y15 true y16 K) E) (wqh k y10 y11 y12 y13 y14 3 y15 true y16 K))) E) (cond (((x5.getD (Int.toNat 0) 0).toNat:Int) == 34) (wq88 k x0 x1 x2 x3 x4 x5 (fun y10 y11 y12 y13 y14 y15 y16=>cond (y16 != (x5.length:Int)) (wq9 k y10 y11 y12 y13 y14 3 (fun y17 y18 y19 y20 y21=>cond (decide ((y15.length:Int)>200)) (wq9 k y17 y18 y19 y20 y21 4 (fun y22 y23 y24 y25 y26=>wqh k y22 y23 y24 y25 y26 3 y15 true y16 K) E) (wqh k y17 y18 y19 y20 y21 3 y15 true y16 K)) E) (cond (decide ((y15.length:Int)>200)) (wq9 k y10 y11 y12 y13 y14 4 (fun y17 y18 y19 y20 y21=>wqh k y17 y18 y19 y20 y21 3 y15 true y16 K) E) (wqh k y10 y11 y12 y13 y14 3 y15 true y16 K))) E) (cond (inb 0 (x5.length:Int)) (wq2r k [91,93,123,125,38,42,33,124,62,37,64,44,63,96] ((x5.getD (Int.toNat 0) 0).toNat:Int) (fun y10=>cond ((decide (y10≥0)) == false) (wqba k x5 (fun y11=>cond (y11 == false) (wqeq k x5 (fun y12=>cond (!(y12 == [])) (wq9 k x0 x1 x2 x3 x4 4 (fun y13 y14 y15 y16 y17=>cond ((x5.length:Int) != (x5.length:Int)) (wq9 k y13 y14 y15 y16 y17 3 (fun y18 y19 y20 y21 y22=>cond (decide ((x5.length:Int)>200)) (wq9 k y18 y19 y20 y21 y22 4 (fun y23 y24 y25 y26 y27=>wqh k y23 y24 y25 y26 y27 3 x5 false (x5.length:Int) K) E) (wqh k y18 y19 y20 y21 y22 3 x5 false (x5.length:Int) K)) E) (cond (decide ((x5.length:Int)>200)) (wq9 k y13 y14 y15 y16 y17 4 (fun y18 y19 y20 y21 y22=>wqh k y18 y19 y20 y21 y22 3 x5 false (x5.length:Int) K) E) (wqh k y13 y14 y15 y16 y17 3 x5 false (x5.length:Int) K))) E) (cond ((x5.length:Int) != (x5.length:Int)) (wq9 k x0 x1 x2 x3 x4 3 (fun y13 y14 y15 y16 y17=>cond (decide ((x5.length:Int)>200)) (wq9 k y13 y14 y15 y16 y17 4 (fun y18 y19 y20 y21 y22=>wqh k y18 y19 y20 y21 y22 3 x5 false (x5.length:Int) K) E) (wqh k y13 y14 y15 y16 y17 3 x5 false (x5.length:Int) K)) E) (cond (decide ((x5.length:Int)>200)) (wq9 k x0 x1 x2 x3 x4 4 (fun y13 y14 y15 y16 y17=>wqh k y13 y14 y15 y16 y17 3 x5 false (x5.length:Int) K) E) (wqh k x0 x1 x2 x3 x4 3 x5 false (x5.length:Int) K))))) (wq9 k x0 x1 x2 x3 x4 4 (fun y12 y13 y14 y15 y16=>cond ((x5.length:Int) != (x5.length:Int)) (wq9 k y12 y13 y14 y15 y16 3 (fun y17 y18 y19 y20 y21=>cond (decide ((x5.length:Int)>200)) (wq9 k y17 y18 y19 y20 y21 4 (fun y22 y23 y24 y25 y26=>wqh k y22 y23 y24 y25 y26 3 x5 false (x5.length:Int) K) E) (wqh k y17 y18 y19 y20 y21 3 x5 false (x5.length:Int) K)) E) (cond (decide ((x5.length:Int)>200)) (wq9 k y12 y13 y14 y15 y16 4 (fun y17 y18 y19 y20 y21=>wqh k y17 y18 y19 y20 y21 3 x5 false (x5.length:Int) K) E) (wqh k y12 y13 y14 y15 y16 3 x5 false (x5.length:Int) K))) E))) (wq9 k x0 x1 x2 x3 x4 4 (fun y11 y12 y13 y14 y15=>cond ((x5.length:Int) != (x5.length:Int)) (wq9 k y11 y12 y13 y14 y15 3 (fun y16 y17 y18 y19 y20=>cond (decide ((x5.length:Int)>200)) (wq9 k y16 y17 y18 y19 y20 4 (fun y21 y22 y23 y24 y25=>wqh k y21 y22 y23 y24 y25 3 x5 false (x5.length:Int) K) E) (wqh k y16 y17 y18 y19 y20 3 x5 false (x5.length:Int) K)) E) (cond (decide ((x5.length:Int)>200)) (wq9 k y11 y12 y13 y14 y15 4 (fun y16 y17 y18 y19 y20=>wqh k y16 y17 y18 y19 y20 3 x5 false (x5.length:Int) K) E) (wqh k y11 y12 y13 y14 y15 3 x5 false (x5.length:Int) K))) E))) none))) none
def wq61(k:Nat){R:Type}(x0 x1:Int)(x2:(List UInt8))(x3:Int)(x4:(List dT156))(x5:(List UInt8))(K:(Int→Int→(List UInt8)→Int→(List dT156)→Option R))(E:(Int→Int→(List UInt8)→Int→(List dT156)→Int→Int→Option R)): Option R:=wq19c k x0 x1 x2 x3 x4 x5 K E
def wq13w(f:(R:Type)→Int→Int→(List UInt8)→Int→(List dT156)→Int→(Int→Int→(List UInt8)→Int→(List dT156)→Option R)→(Int→Int→(List UInt8)→Int→(List dT156)→Int→Int→Option R)→Option R){R:Type}: List PV→List (Nm×HObj)→(Out→Option R)→Option R
 |[.ptr 1 0,.v (.int .i64) x5],[(21,.row 157 (.pr (.int .i64) (.pr (.int .i64) (.pr (.int .i64) (.pr .str .bool)))) x4),(1,.var 200 [.v (.int .i64) x0,.v (.int .i64) x1,.v .str x2,.v (.int .i64) x3,.row 21])],K=>f R x0 x1 x2 x3 x4 x5 (fun y0 y1 y2 y3 y4=>K (.ret [] [(21,.row 157 (.pr (.int .i64) (.pr (.int .i64) (.pr (.int .i64) (.pr .str .bool)))) y4),(1,.var 200 [.v (.int .i64) y0,.v (.int .i64) y1,.v .str y2,.v (.int .i64) y3,.row 21])])) (fun z0 z1 z2 z3 z4 z5 z6=>K (.pan (.ifc 29 (.agg [.v (.int .i64) z5,.v (.int .i64) z6])) [(21,.row 157 (.pr (.int .i64) (.pr (.int .i64) (.pr (.int .i64) (.pr .str .bool)))) z4),(1,.var 200 [.v (.int .i64) z0,.v (.int .i64) z1,.v .str z2,.v (.int .i64) z3,.row 21])]))
 |_,_,_=>none
def wq13x(f:(R:Type)→(List UInt8)→(Bool→Option R)→Option R){R:Type}: List PV→List (Nm×HObj)→(Out→Option R)→Option R
 |[.v .str x0],[],K=>f R x0 (fun y0=>K (.ret [.v .bool y0] []))
 |_,_,_=>none
def wq13y(f:(R:Type)→Int→Int→(List UInt8)→Int→(List dT156)→Int→(List UInt8)→Bool→Int→(Int→Int→(List UInt8)→Int→(List dT156)→Option R)→Option R){R:Type}: List PV→List (Nm×HObj)→(Out→Option R)→Option R
 |[.ptr 1 0,.v (.int .i64) x5,.v .str x6,.v .bool x7,.v (.int .i64) x8],[(21,.row 157 (.pr (.int .i64) (.pr (.int .i64) (.pr (.int .i64) (.pr .str .bool)))) x4),(1,.var 200 [.v (.int .i64) x0,.v (.int .i64) x1,.v .str x2,.v (.int .i64) x3,.row 21])],K=>f R x0 x1 x2 x3 x4 x5 x6 x7 x8 (fun y0 y1 y2 y3 y4=>K (.ret [] [(21,.row 157 (.pr (.int .i64) (.pr (.int .i64) (.pr (.int .i64) (.pr .str .bool)))) y4),(1,.var 200 [.v (.int .i64) y0,.v (.int .i64) y1,.v .str y2,.v (.int .i64) y3,.row 21])]))
 |_,_,_=>none
def wq13z(f:(R:Type)→(List UInt8)→((List UInt8)→Option R)→Option R){R:Type}: List PV→List (Nm×HObj)→(Out→Option R)→Option R
 |[.v .str x0],[],K=>f R x0 (fun y0=>K (.ret [.v .str y0] []))
 |_,_,_=>none
def wq140(f:(R:Type)→Int→Int→(List UInt8)→Int→(List dT156)→(List UInt8)→wq3b R→(Int→Int→(List UInt8)→Int→(List dT156)→Int→Int→Option R)→Option R){R:Type}: List PV→List (Nm×HObj)→(Out→Option R)→Option R
 |[.ptr 1 0,.v .str x5],[(21,.row 157 (.pr (.int .i64) (.pr (.int .i64) (.pr (.int .i64) (.pr .str .bool)))) x4),(1,.var 200 [.v (.int .i64) x0,.v (.int .i64) x1,.v .str x2,.v (.int .i64) x3,.row 21])],K=>f R x0 x1 x2 x3 x4 x5 (fun y0 y1 y2 y3 y4 y5 y6=>K (.ret [.v .str y5,.v (.int .i64) y6] [(21,.row 157 (.pr (.int .i64) (.pr (.int .i64) (.pr (.int .i64) (.pr .str .bool)))) y4),(1,.var 200 [.v (.int .i64) y0,.v (.int .i64) y1,.v .str y2,.v (.int .i64) y3,.row 21])])) (fun z0 z1 z2 z3 z4 z5 z6=>K (.pan (.ifc 29 (.agg [.v (.int .i64) z5,.v (.int .i64) z6])) [(21,.row 157 (.pr (.int .i64) (.pr (.int .i64) (.pr (.int .i64) (.pr .str .bool)))) z4),(1,.var 200 [.v (.int .i64) z0,.v (.int .i64) z1,.v .str z2,.v (.int .i64) z3,.row 21])]))
 |_,_,_=>none
def wq141(f:(R:Type)→Int→Int→(List UInt8)→Int→(List dT156)→(List UInt8)→wq3a R→(Int→Int→(List UInt8)→Int→(List dT156)→Int→Int→Option R)→Option R){R:Type}: List PV→List (Nm×HObj)→(Out→Option R)→Option R
 |[.ptr 1 0,.v .str x5],[(21,.row 157 (.pr (.int .i64) (.pr (.int .i64) (.pr (.int .i64) (.pr .str .bool)))) x4),(1,.var 200 [.v (.int .i64) x0,.v (.int .i64) x1,.v .str x2,.v (.int .i64) x3,.row 21])],K=>f R x0 x1 x2 x3 x4 x5 (fun y0 y1 y2 y3 y4 y5 y6=>K (.ret [.v .str y5,.v (.int .i64) y6] [(21,.row 157 (.pr (.int .i64) (.pr (.int .i64) (.pr (.int .i64) (.pr .str .bool)))) y4),(1,.var 200 [.v (.int .i64) y0,.v (.int .i64) y1,.v .str y2,.v (.int .i64) y3,.row 21])])) (fun z0 z1 z2 z3 z4 z5 z6=>K (.pan (.ifc 29 (.agg [.v (.int .i64) z5,.v (.int .i64) z6])) [(21,.row 157 (.pr (.int .i64) (.pr (.int .i64) (.pr (.int .i64) (.pr .str .bool)))) z4),(1,.var 200 [.v (.int .i64) z0,.v (.int .i64) z1,.v .str z2,.v (.int .i64) z3,.row 21])]))
 |_,_,_=>none
def wq142(f:(R:Type)→(List UInt8)→Int→(Int→Option R)→Option R){R:Type}: List PV→List (Nm×HObj)→(Out→Option R)→Option R
 |[.v .str x0,.v (.int .u8) x1],[],K=>f R x0 x1 (fun y0=>K (.ret [.v (.int .i64) y0] []))
 |_,_,_=>none
def wqs2(f0:(R:Type)→Int→Int→(List UInt8)→Int→(List dT156)→Int→(Int→Int→(List UInt8)→Int→(List dT156)→Option R)→(Int→Int→(List UInt8)→Int→(List dT156)→Int→Int→Option R)→Option R)(f1:(R:Type)→(List UInt8)→(Bool→Option R)→Option R)(f2:(R:Type)→Int→Int→(List UInt8)→Int→(List dT156)→Int→(List UInt8)→Bool→Int→(Int→Int→(List UInt8)→Int→(List dT156)→Option R)→Option R)(f3:(R:Type)→(List UInt8)→((List UInt8)→Option R)→Option R)(f4:(R:Type)→Int→Int→(List UInt8)→Int→(List dT156)→(List UInt8)→wq3b R→(Int→Int→(List UInt8)→Int→(List dT156)→Int→Int→Option R)→Option R)(f5:(R:Type)→Int→Int→(List UInt8)→Int→(List dT156)→(List UInt8)→wq3a R→(Int→Int→(List UInt8)→Int→(List dT156)→Int→Int→Option R)→Option R)(f6:(R:Type)→(List UInt8)→Int→(Int→Option R)→Option R): Ctx:=⟨tyT,[],(.add 191 wq7a (wq13w f0) (.add 193 wqyn (wq13x f1) (.add 194 wqg5 (wq13y f2) (.add 195 wq13l (wq13z f3) (.add 229 wqmx (wq140 f4) (.add 230 wqmw (wq141 f5) (.add 231 wqe3 (wq142 f6) .nil))))))),[],[1],[],@SH⟩
def wqtz(f0:(R:Type)→Int→Int→(List UInt8)→Int→(List dT156)→Int→(Int→Int→(List UInt8)→Int→(List dT156)→Option R)→(Int→Int→(List UInt8)→Int→(List dT156)→Int→Int→Option R)→Option R)(f1:(R:Type)→(List UInt8)→(Bool→Option R)→Option R)(f2:(R:Type)→Int→Int→(List UInt8)→Int→(List dT156)→Int→(List UInt8)→Bool→Int→(Int→Int→(List UInt8)→Int→(List dT156)→Option R)→Option R)(f3:(R:Type)→(List UInt8)→((List UInt8)→Option R)→Option R)(f4:(R:Type)→Int→Int→(List UInt8)→Int→(List dT156)→(List UInt8)→wq3b R→(Int→Int→(List UInt8)→Int→(List dT156)→Int→Int→Option R)→Option R)(f5:(R:Type)→Int→Int→(List UInt8)→Int→(List dT156)→(List UInt8)→wq3a R→(Int→Int→(List UInt8)→Int→(List dT156)→Int→Int→Option R)→Option R)(f6:(R:Type)→(List UInt8)→Int→(Int→Option R)→Option R){R:Type}(x0 x1:Int)(x2:(List UInt8))(x3:Int)(x4:(List dT156))(x5:(List UInt8))(K:(Int→Int→(List UInt8)→Int→(List dT156)→Option R))(E:(Int→Int→(List UInt8)→Int→(List dT156)→Int→Int→Option R)): Option R:=cond (inb 0 (x5.length:Int)) (cond (((x5.getD (Int.toNat 0) 0).toNat:Int) == 39) (f4 R x0 x1 x2 x3 x4 x5 (fun y10 y11 y12 y13 y14 y15 y16=>cond (y16 != (x5.length:Int)) (f0 R y10 y11 y12 y13 y14 3 (fun y17 y18 y19 y20 y21=>cond (decide ((y15.length:Int)>200)) (f0 R y17 y18 y19 y20 y21 4 (fun y22 y23 y24 y25 y26=>f2 R y22 y23 y24 y25 y26 3 y15 true y16 K) E) (f2 R y17 y18 y19 y20 y21 3 y15 true y16 K)) E) (cond (decide ((y15.length:Int)>200)) (f0 R y10 y11 y12 y13 y14 4 (fun y17 y18 y19 y20 y21=>f2 R y17 y18 y19 y20 y21 3 y15 true y16 K) E) (f2 R y10 y11 y12 y13 y14 3 y15 true y16 K))) E) (cond (((x5.getD (Int.toNat 0) 0).toNat:Int) == 34) (f5 R x0 x1 x2 x3 x4 x5 (fun y10 y11 y12 y13 y14 y15 y16=>cond (y16 != (x5.length:Int)) (f0 R y10 y11 y12 y13 y14 3 (fun y17 y18 y19 y20 y21=>cond (decide ((y15.length:Int)>200)) (f0 R y17 y18 y19 y20 y21 4 (fun y22 y23 y24 y25 y26=>f2 R y22 y23 y24 y25 y26 3 y15 true y16 K) E) (f2 R y17 y18 y19 y20 y21 3 y15 true y16 K)) E) (cond (decide ((y15.length:Int)>200)) (f0 R y10 y11 y12 y13 y14 4 (fun y17 y18 y19 y20 y21=>f2 R y17 y18 y19 y20 y21 3 y15 true y16 K) E) (f2 R y10 y11 y12 y13 y14 3 y15 true y16 K))) E) (cond (inb 0 (x5.length:Int)) (f6 R [91,93,123,125,38,42,33,124,62,37,64,44,63,96] ((x5.getD (Int.toNat 0) 0).toNat:Int) (fun y10=>cond ((decide (y10≥0)) == false) (f1 R x5 (fun y11=>cond (y11 == false) (f3 R x5 (fun y12=>cond (!(y12 == [])) (f0 R x0 x1 x2 x3 x4 4 (fun y13 y14 y15 y16 y17=>cond ((x5.length:Int) != (x5.length:Int)) (f0 R y13 y14 y15 y16 y17 3 (fun y18 y19 y20 y21 y22=>cond (decide ((x5.length:Int)>200)) (f0 R y18 y19 y20 y21 y22 4 (fun y23 y24 y25 y26 y27=>f2 R y23 y24 y25 y26 y27 3 x5 false (x5.length:Int) K) E) (f2 R y18 y19 y20 y21 y22 3 x5 false (x5.length:Int) K)) E) (cond (decide ((x5.length:Int)>200)) (f0 R y13 y14 y15 y16 y17 4 (fun y18 y19 y20 y21 y22=>f2 R y18 y19 y20 y21 y22 3 x5 false (x5.length:Int) K) E) (f2 R y13 y14 y15 y16 y17 3 x5 false (x5.length:Int) K))) E) (cond ((x5.length:Int) != (x5.length:Int)) (f0 R x0 x1 x2 x3 x4 3 (fun y13 y14 y15 y16 y17=>cond (decide ((x5.length:Int)>200)) (f0 R y13 y14 y15 y16 y17 4 (fun y18 y19 y20 y21 y22=>f2 R y18 y19 y20 y21 y22 3 x5 false (x5.length:Int) K) E) (f2 R y13 y14 y15 y16 y17 3 x5 false (x5.length:Int) K)) E) (cond (decide ((x5.length:Int)>200)) (f0 R x0 x1 x2 x3 x4 4 (fun y13 y14 y15 y16 y17=>f2 R y13 y14 y15 y16 y17 3 x5 false (x5.length:Int) K) E) (f2 R x0 x1 x2 x3 x4 3 x5 false (x5.length:Int) K))))) (f0 R x0 x1 x2 x3 x4 4 (fun y12 y13 y14 y15 y16=>cond ((x5.length:Int) != (x5.length:Int)) (f0 R y12 y13 y14 y15 y16 3 (fun y17 y18 y19 y20 y21=>cond (decide ((x5.length:Int)>200)) (f0 R y17 y18 y19 y20 y21 4 (fun y22 y23 y24 y25 y26=>f2 R y22 y23 y24 y25 y26 3 x5 false (x5.length:Int) K) E) (f2 R y17 y18 y19 y20 y21 3 x5 false (x5.length:Int) K)) E) (cond (decide ((x5.length:Int)>200)) (f0 R y12 y13 y14 y15 y16 4 (fun y17 y18 y19 y20 y21=>f2 R y17 y18 y19 y20 y21 3 x5 false (x5.length:Int) K) E) (f2 R y12 y13 y14 y15 y16 3 x5 false (x5.length:Int) K))) E))) (f0 R x0 x1 x2 x3 x4 4 (fun y11 y12 y13 y14 y15=>cond ((x5.length:Int) != (x5.length:Int)) (f0 R y11 y12 y13 y14 y15 3 (fun y16 y17 y18 y19 y20=>cond (decide ((x5.length:Int)>200)) (f0 R y16 y17 y18 y19 y20 4 (fun y21 y22 y23 y24 y25=>f2 R y21 y22 y23 y24 y25 3 x5 false (x5.length:Int) K) E) (f2 R y16 y17 y18 y19 y20 3 x5 false (x5.length:Int) K)) E) (cond (decide ((x5.length:Int)>200)) (f0 R y11 y12 y13 y14 y15 4 (fun y16 y17 y18 y19 y20=>f2 R y16 y17 y18 y19 y20 3 x5 false (x5.length:Int) K) E) (f2 R y11 y12 y13 y14 y15 3 x5 false (x5.length:Int) K))) E))) none))) none
theorem wq110(f0:(R:Type)→Int→Int→(List UInt8)→Int→(List dT156)→Int→(Int→Int→(List UInt8)→Int→(List dT156)→Option R)→(Int→Int→(List UInt8)→Int→(List dT156)→Int→Int→Option R)→Option R)(f1:(R:Type)→(List UInt8)→(Bool→Option R)→Option R)(f2:(R:Type)→Int→Int→(List UInt8)→Int→(List dT156)→Int→(List UInt8)→Bool→Int→(Int→Int→(List UInt8)→Int→(List dT156)→Option R)→Option R)(f3:(R:Type)→(List UInt8)→((List UInt8)→Option R)→Option R)(f4:(R:Type)→Int→Int→(List UInt8)→Int→(List dT156)→(List UInt8)→wq3b R→(Int→Int→(List UInt8)→Int→(List dT156)→Int→Int→Option R)→Option R)(f5:(R:Type)→Int→Int→(List UInt8)→Int→(List dT156)→(List UInt8)→wq3a R→(Int→Int→(List UInt8)→Int→(List dT156)→Int→Int→Option R)→Option R)(f6:(R:Type)→(List UInt8)→Int→(Int→Option R)→Option R)(k:Nat){R:Type}(x0 x1:Int)(x2:(List UInt8))(x3:Int)(x4:(List dT156))(x5:(List UInt8))(K:(Int→Int→(List UInt8)→Int→(List dT156)→Option R))(E:(Int→Int→(List UInt8)→Int→(List dT156)→Int→Int→Option R)): fnW (wqs2 f0 f1 f2 f3 f4 f5 f6) k Tryz.f196 wqs0 [.ptr 1 0,.v .str x5] [(21,.row 157 kdT156 x4),(1,.var 200 [.v kI x0,.v kI x1,.v .str x2,.v kI x3,.row 21])] (wqgc K E)=wqtz f0 f1 f2 f3 f4 f5 f6 x0 x1 x2 x3 x4 x5 K E:=by
 kernel_rfl
theorem wqyt(k:Nat): wqs1 k=wqs2 (fun R=>@wq9 k R) (fun R=>@wqba k R) (fun R=>@wqh k R) (fun R=>@wqeq k R) (fun R=>@wq89 k R) (fun R=>@wq88 k R) (fun R=>@wq2r k R):=by
 kernel_rfl
theorem wq111(k:Nat){R:Type}(x0 x1:Int)(x2:(List UInt8))(x3:Int)(x4:(List dT156))(x5:(List UInt8))(K:(Int→Int→(List UInt8)→Int→(List dT156)→Option R))(E:(Int→Int→(List UInt8)→Int→(List dT156)→Int→Int→Option R)): fnW (wqs1 k) k Tryz.f196 wqs0 [.ptr 1 0,.v .str x5] [(21,.row 157 kdT156 x4),(1,.var 200 [.v kI x0,.v kI x1,.v .str x2,.v kI x3,.row 21])] (wqgc K E)=wq61 k x0 x1 x2 x3 x4 x5 K E:=by
 have e:wq61 k x0 x1 x2 x3 x4 x5 K E=wqtz (fun R=>@wq9 k R) (fun R=>@wqba k R) (fun R=>@wqh k R) (fun R=>@wqeq k R) (fun R=>@wq89 k R) (fun R=>@wq88 k R) (fun R=>@wq2r k R) x0 x1 x2 x3 x4 x5 K E:=by kernel_rfl
 rw[wqyt,e]
 exact wq110 (fun R=>@wq9 k R) (fun R=>@wqba k R) (fun R=>@wqh k R) (fun R=>@wqeq k R) (fun R=>@wq89 k R) (fun R=>@wq88 k R) (fun R=>@wq2r k R) k x0 x1 x2 x3 x4 x5 K E
def wqd7(k:Nat){R:Type}: List PV→List (Nm×HObj)→(Out→Option R)→Option R
 |[.ptr 1 0,.v .str x5],[(21,.row 157 (.pr (.int .i64) (.pr (.int .i64) (.pr (.int .i64) (.pr .str .bool)))) x4),(1,.var 200 [.v (.int .i64) x0,.v (.int .i64) x1,.v .str x2,.v (.int .i64) x3,.row 21])],K=>wq61 k x0 x1 x2 x3 x4 x5 (fun y0 y1 y2 y3 y4=>K (.ret [] [(21,.row 157 (.pr (.int .i64) (.pr (.int .i64) (.pr (.int .i64) (.pr .str .bool)))) y4),(1,.var 200 [.v (.int .i64) y0,.v (.int .i64) y1,.v .str y2,.v (.int .i64) y3,.row 21])])) (fun z0 z1 z2 z3 z4 z5 z6=>K (.pan (.ifc 29 (.agg [.v (.int .i64) z5,.v (.int .i64) z6])) [(21,.row 157 (.pr (.int .i64) (.pr (.int .i64) (.pr (.int .i64) (.pr .str .bool)))) z4),(1,.var 200 [.v (.int .i64) z0,.v (.int .i64) z1,.v .str z2,.v (.int .i64) z3,.row 21])]))
 |_,_,_=>none
theorem wq19d(k:Nat): DOK Tryz.prog 196 (wqd7 k):=by
 intro ps hp R K r h
 have h:wqd7 k ps hp K=some r:=h
 unfold wqd7 at h
 split at h
 ·rw[←wq111]at h
  exact fnW_ok ⟨tyT_ok,(wqd (wqbb k) (wqd (wq1hc k) (wqd (wqrz k) (wqd (wq1lg k) (wqd (wq13u k) (wqd (wq13t k) (wqd (wqo1 k) CTab.nil_ok))))))),fun _ _=>rfl⟩ mixed (by kernel_rfl) (by kernel_rfl) h fun o ho=>by unfold wqgc at ho;split at ho<;>first|exact ho|cases ho
 ·cases h
end Go.Proofs.YtabkhphoacmcdaaGreatDoor.Pvm
end
noncomputable section
namespace Go.Proofs.YtabkhphoacmcdaaGreatDoor.Pvm
open Go Go.Proofs
def wqo2(wq1n:(R:Type)→Int→Int→(List UInt8)→Int→(List dT156)→(List UInt8)→(Int→Int→(List UInt8)→Int→(List dT156)→Option R)→(Int→Int→(List UInt8)→Int→(List dT156)→Int→Int→Option R)→Option R){R:Type}: List PV→List (Nm×HObj)→(Out→Option R)→Option R
 |[.ptr 1 0,.v .str x5],[(21,.row 157 (.pr (.int .i64) (.pr (.int .i64) (.pr (.int .i64) (.pr .str .bool)))) x4),(1,.var 200 [.v (.int .i64) x0,.v (.int .i64) x1,.v .str x2,.v (.int .i64) x3,.row 21])],K=>wq1n R x0 x1 x2 x3 x4 x5 (fun y0 y1 y2 y3 y4=>K (.ret [] [(21,.row 157 (.pr (.int .i64) (.pr (.int .i64) (.pr (.int .i64) (.pr .str .bool)))) y4),(1,.var 200 [.v (.int .i64) y0,.v (.int .i64) y1,.v .str y2,.v (.int .i64) y3,.row 21])])) (fun z0 z1 z2 z3 z4 z5 z6=>K (.pan (.ifc 29 (.agg [.v (.int .i64) z5,.v (.int .i64) z6])) [(21,.row 157 (.pr (.int .i64) (.pr (.int .i64) (.pr (.int .i64) (.pr .str .bool)))) z4),(1,.var 200 [.v (.int .i64) z0,.v (.int .i64) z1,.v .str z2,.v (.int .i64) z3,.row 21])]))
 |_,_,_=>none
end Go.Proofs.YtabkhphoacmcdaaGreatDoor.Pvm
end
noncomputable section
namespace Go.Proofs.YtabkhphoacmcdaaGreatDoor.Pvm
open Go Go.Proofs
abbrev wq2d:Type 1:=(R:Type)→Int→Int→(List UInt8)→Int→(List dT156)→Int→(Int→Int→(List UInt8)→Int→(List dT156)→Option R)→(Int→Int→(List UInt8)→Int→(List dT156)→Int→Int→Option R)→Option R
abbrev wq2l:Type 1:=(R:Type)→Int→Int→(List UInt8)→Int→(List dT156)→(Int→Int→(List UInt8)→Int→(List dT156)→(List UInt8)→Option R)→Option R
abbrev wq2e:Type 1:=(R:Type)→Int→Int→(List UInt8)→Int→(List dT156)→Int→(List UInt8)→Bool→Int→(Int→Int→(List UInt8)→Int→(List dT156)→Option R)→Option R
abbrev wq2m:Type 1:=(R:Type)→Int→Int→(List UInt8)→Int→(List dT156)→(List UInt8)→(Int→Int→(List UInt8)→Int→(List dT156)→Option R)→(Int→Int→(List UInt8)→Int→(List dT156)→Int→Int→Option R)→Option R
abbrev wq62(R:Type): Type:=(Int→Int→(List UInt8)→Int→(List dT156)→Int→Int→Option R)
def wq16q:List LS:=[.obj 1 [.any,.any,.any,.any,.own 21 157 kdT156]]
def wqaa{R:Type}(K:(Int→Int→(List UInt8)→Int→(List dT156)→Option R))(E:wq62 R): Out→Option R
 |.ret [] [(21,.row 157 (.pr (.int .i64) (.pr (.int .i64) (.pr (.int .i64) (.pr .str .bool)))) y4),(1,.var 200 [.v (.int .i64) y0,.v (.int .i64) y1,.v .str y2,.v (.int .i64) y3,.row 21])]=>K y0 y1 y2 y3 y4
 |.pan (.ifc 29 (.agg [.v (.int .i64) z5,.v (.int .i64) z6])) [(21,.row 157 (.pr (.int .i64) (.pr (.int .i64) (.pr (.int .i64) (.pr .str .bool)))) z4),(1,.var 200 [.v (.int .i64) z0,.v (.int .i64) z1,.v .str z2,.v (.int .i64) z3,.row 21])]=>E z0 z1 z2 z3 z4 z5 z6
 |_=>none
def wqgd:RetSpec:=⟨[],[(1,.obj 1 [.any,.any,.any,.any,.own 21 157 (.pr (.int .i64) (.pr (.int .i64) (.pr (.int .i64) (.pr .str .bool))))])],[(1,.obj 1 [.any,.any,.any,.any,.own 21 157 (.pr (.int .i64) (.pr (.int .i64) (.pr (.int .i64) (.pr .str .bool))))])]⟩
def wqge(k:Nat)(wq1f:wq2d)(wq18:wq2l)(wq4u:(R:Type)→(List UInt8)→(Bool→Option R)→Option R)(wq16:wq2e)(wq67:(R:Type)→(List UInt8)→((List UInt8)→Option R)→Option R)(wq1n:wq2m): Ctx:=⟨tyT,[(1003,⟨[(0,.obj 1 [.any,.any,.any,.any,.own 21 157 kdT156]),(2,.any)],[(1,.obj 1 [.any,.any,.any,.any,.own 21 157 kdT156])]⟩)],(.add 191 wq7a (wqmq wq1f) (.add 192 wq13q (wqo0 wq18) (.add 193 wqyn (wq15h wq4u) (.add 194 wqg5 (wqms wq16) (.add 195 wq13l (wq19a wq67) (.add 196 wq13v (wqo2 wq1n) .nil)))))),[],[1],[],@SH⟩
def wq7m(s0 s1:Int)(s2:(List UInt8))(s3:Int)(s4:(List dT156))(s5:(List UInt8)): St:=⟨mkT [(0,.ptr 1 0),(2,.v .str s5)],mkH [(21,.row 157 kdT156 s4),(1,.var 200 [.v kI s0,.v kI s1,.v .str s2,.v kI s3,.row 21])]⟩
def wqav(k:Nat)(wq1f:wq2d)(wq18:wq2l)(wq4u:(R:Type)→(List UInt8)→(Bool→Option R)→Option R)(wq16:wq2e)(wq67:(R:Type)→(List UInt8)→((List UInt8)→Option R)→Option R)(wq1n:wq2m){R:Type}(I:Nat→St→Option R)(n:Nat)(s:St)(K:(Int→Int→(List UInt8)→Int→(List dT156)→Option R))(E:wq62 R): Option R:=loopK (wqge k wq1f wq18 wq4u wq16 wq67 wq1n) k Tryz.f150 wqgd 1003 [1,1,0,0] I n s (wqaa K E)
def wqmy(k:Nat)(wq1f:wq2d)(wq18:wq2l)(wq4u:(R:Type)→(List UInt8)→(Bool→Option R)→Option R)(wq16:wq2e)(wq67:(R:Type)→(List UInt8)→((List UInt8)→Option R)→Option R)(wq1n:wq2m){R:Type}(E1003:(Int→Int→(List UInt8)→Int→(List dT156)→(List UInt8)→Option R))(s0 s1:Int)(s2:(List UInt8))(s3:Int)(s4:(List dT156))(s5:(List UInt8))(K:(Int→Int→(List UInt8)→Int→(List dT156)→Option R))(E:wq62 R): Option R:=wq4u R s5 (fun y11=>cond y11 (wq16 R s0 s1 s2 s3 s4 1 [] false 1 (fun y12 y13 y14 y15 y16=>wq18 R y12 y13 y14 y15 y16 E1003)) (wq67 R s5 (fun y12=>cond (!(y12 == [])) (cond (decide ((y12.length:Int)>64)) (wq1f R s0 s1 s2 s3 s4 5 (fun y13 y14 y15 y16 y17=>wq16 R y13 y14 y15 y16 y17 2 y12 false (@Go.IntKind.wrap Go.IntKind.i64 ((y12.length:Int)+1)) (fun y18 y19 y20 y21 y22=>wq18 R y18 y19 y20 y21 y22 (fun y23 y24 y25 y26 y27 y28=>cond (!(y28 == [])) (wq1n R y23 y24 y25 y26 y27 y28 K E) (K y23 y24 y25 y26 y27)))) E) (wq16 R s0 s1 s2 s3 s4 2 y12 false (@Go.IntKind.wrap Go.IntKind.i64 ((y12.length:Int)+1)) (fun y13 y14 y15 y16 y17=>wq18 R y13 y14 y15 y16 y17 (fun y18 y19 y20 y21 y22 y23=>cond (!(y23 == [])) (wq1n R y18 y19 y20 y21 y22 y23 K E) (K y18 y19 y20 y21 y22))))) (cond (!(s5 == [])) (wq1n R s0 s1 s2 s3 s4 s5 K E) (K s0 s1 s2 s3 s4)))))
theorem wqsn(k:Nat)(wq1f:wq2d)(wq18:wq2l)(wq4u:(R:Type)→(List UInt8)→(Bool→Option R)→Option R)(wq16:wq2e)(wq67:(R:Type)→(List UInt8)→((List UInt8)→Option R)→Option R)(wq1n:wq2m){R:Type}(I:Nat→St→Option R)(s0 s1:Int)(s2:(List UInt8))(s3:Int)(s4:(List dT156))(s5:(List UInt8))(K:(Int→Int→(List UInt8)→Int→(List dT156)→Option R))(E:wq62 R): bodyK (wqge k wq1f wq18 wq4u wq16 wq67 wq1n) k Tryz.f150 wqgd [1,1,0,0,0] I (wq7m s0 s1 s2 s3 s4 s5) (wqaa K E)=wqmy k wq1f wq18 wq4u wq16 wq67 wq1n (fun s0 s1 s2 s3 s4 s5=>I 1003 (wq7m s0 s1 s2 s3 s4 s5)) s0 s1 s2 s3 s4 s5 K E:=by kernel_rfl
def wqoz(k:Nat)(wq1f:wq2d)(wq18:wq2l)(wq4u:(R:Type)→(List UInt8)→(Bool→Option R)→Option R)(wq16:wq2e)(wq67:(R:Type)→(List UInt8)→((List UInt8)→Option R)→Option R)(wq1n:wq2m){R:Type}(E1003:(Int→Int→(List UInt8)→Int→(List dT156)→(List UInt8)→Option R))(x0 x1:Int)(x2:(List UInt8))(x3:Int)(x4:(List dT156))(K:(Int→Int→(List UInt8)→Int→(List dT156)→Option R))(E:wq62 R): Option R:=cond (cond (decide (x1<0)) true (decide (x1>16384))) (wq1f R x0 x1 x2 x3 x4 6 (fun y10 y11 y12 y13 y14=>wq18 R y10 y11 y12 y13 y14 E1003) E) (wq18 R x0 x1 x2 x3 x4 E1003)
def wqf7(k:Nat)(wq1f:wq2d)(wq18:wq2l)(wq4u:(R:Type)→(List UInt8)→(Bool→Option R)→Option R)(wq16:wq2e)(wq67:(R:Type)→(List UInt8)→((List UInt8)→Option R)→Option R)(wq1n:wq2m){R:Type}: Nat→Int→Int→(List UInt8)→Int→(List dT156)→(List UInt8)→(Int→Int→(List UInt8)→Int→(List dT156)→Option R)→(Int→Int→(List UInt8)→Int→(List dT156)→Int→Int→Option R)→Option R
 |0,_,_,_,_,_,_,_,_=>none
 |n+1,s0,s1,s2,s3,s4,s5,K,E=>wqmy k wq1f wq18 wq4u wq16 wq67 wq1n (fun s0 s1 s2 s3 s4 s5=>wqf7 k wq1f wq18 wq4u wq16 wq67 wq1n n s0 s1 s2 s3 s4 s5 K E) s0 s1 s2 s3 s4 s5 K E
theorem wqso(k:Nat)(wq1f:wq2d)(wq18:wq2l)(wq4u:(R:Type)→(List UInt8)→(Bool→Option R)→Option R)(wq16:wq2e)(wq67:(R:Type)→(List UInt8)→((List UInt8)→Option R)→Option R)(wq1n:wq2m){R:Type}(I:Nat→St→Option R)(K:(Int→Int→(List UInt8)→Int→(List dT156)→Option R))(E:wq62 R)(n:Nat): ∀(s0 s1:Int) (s2:(List UInt8)) (s3:Int) (s4:(List dT156)) (s5:(List UInt8)),wqav k wq1f wq18 wq4u wq16 wq67 wq1n I n (wq7m s0 s1 s2 s3 s4 s5) K E=wqf7 k wq1f wq18 wq4u wq16 wq67 wq1n n s0 s1 s2 s3 s4 s5 K E:=by
 induction n with
 |zero=>intros;rfl
 |succ n ih =>
  intro s0 s1 s2 s3 s4 s5
  refine(?_:_=_).trans ((wqsn k wq1f wq18 wq4u wq16 wq67 wq1n (upI 1003 (fun s=>wqav k wq1f wq18 wq4u wq16 wq67 wq1n I n s K E) I) s0 s1 s2 s3 s4 s5 K E).trans ?_)
  ·rfl
  ·simp only[wq43,ih]<;>rfl
def wqp0(k:Nat){R:Type}(x0 x1:Int)(x2:(List UInt8))(x3:Int)(x4:(List dT156))(K:(Int→Int→(List UInt8)→Int→(List dT156)→Option R))(E:wq62 R): Option R:=wqoz k (@wq9 k) (@wq70 k) (@wqba k) (@wqh k) (@wqeq k) (@wq61 k) (fun s0 s1 s2 s3 s4 s5=>wqf7 k (@wq9 k) (@wq70 k) (@wqba k) (@wqh k) (@wqeq k) (@wq61 k) k s0 s1 s2 s3 s4 s5 K E) x0 x1 x2 x3 x4 K E
theorem wq143(k:Nat)(wq1f:wq2d)(wq18:wq2l)(wq4u:(R:Type)→(List UInt8)→(Bool→Option R)→Option R)(wq16:wq2e)(wq67:(R:Type)→(List UInt8)→((List UInt8)→Option R)→Option R)(wq1n:wq2m){R:Type}(x0 x1:Int)(x2:(List UInt8))(x3:Int)(x4:(List dT156))(K:(Int→Int→(List UInt8)→Int→(List dT156)→Option R))(E:wq62 R): fnW (wqge k wq1f wq18 wq4u wq16 wq67 wq1n) k Tryz.f150 wqgd [.ptr 1 0] [(21,.row 157 kdT156 x4),(1,.var 200 [.v kI x0,.v kI x1,.v .str x2,.v kI x3,.row 21])] (wqaa K E)=wqoz k wq1f wq18 wq4u wq16 wq67 wq1n (fun s0 s1 s2 s3 s4 s5=>wqav k wq1f wq18 wq4u wq16 wq67 wq1n (fun _ _=>none) k (wq7m s0 s1 s2 s3 s4 s5) K E) x0 x1 x2 x3 x4 K E:=by kernel_rfl
theorem wq144(k:Nat){R:Type}(x0 x1:Int)(x2:(List UInt8))(x3:Int)(x4:(List dT156))(K:(Int→Int→(List UInt8)→Int→(List dT156)→Option R))(E:wq62 R): fnW (wqge k (@wq9 k) (@wq70 k) (@wqba k) (@wqh k) (@wqeq k) (@wq61 k)) k Tryz.f150 wqgd [.ptr 1 0] [(21,.row 157 kdT156 x4),(1,.var 200 [.v kI x0,.v kI x1,.v .str x2,.v kI x3,.row 21])] (wqaa K E)=wqp0 k x0 x1 x2 x3 x4 K E:=by
 refine Eq.trans (b:=wqoz k (@wq9 k) (@wq70 k) (@wqba k) (@wqh k) (@wqeq k) (@wq61 k) (fun s0 s1 s2 s3 s4 s5=>wqav k (@wq9 k) (@wq70 k) (@wqba k) (@wqh k) (@wqeq k) (@wq61 k) (fun _ _=>none) k (wq7m s0 s1 s2 s3 s4 s5) K E) x0 x1 x2 x3 x4 K E) (wq143 k (@wq9 k) (@wq70 k) (@wqba k) (@wqh k) (@wqeq k) (@wq61 k) x0 x1 x2 x3 x4 K E) ?_
 simp only[wqso]<;>rfl
def wqer(k:Nat){R:Type}: List PV→List (Nm×HObj)→(Out→Option R)→Option R
 |[.ptr 1 0],[(21,.row 157 (.pr (.int .i64) (.pr (.int .i64) (.pr (.int .i64) (.pr .str .bool)))) x4),(1,.var 200 [.v (.int .i64) x0,.v (.int .i64) x1,.v .str x2,.v (.int .i64) x3,.row 21])],K=>wqp0 k x0 x1 x2 x3 x4 (fun y0 y1 y2 y3 y4=>K (.ret [] [(21,.row 157 (.pr (.int .i64) (.pr (.int .i64) (.pr (.int .i64) (.pr .str .bool)))) y4),(1,.var 200 [.v (.int .i64) y0,.v (.int .i64) y1,.v .str y2,.v (.int .i64) y3,.row 21])])) (fun z0 z1 z2 z3 z4 z5 z6=>K (.pan (.ifc 29 (.agg [.v (.int .i64) z5,.v (.int .i64) z6])) [(21,.row 157 (.pr (.int .i64) (.pr (.int .i64) (.pr (.int .i64) (.pr .str .bool)))) z4),(1,.var 200 [.v (.int .i64) z0,.v (.int .i64) z1,.v .str z2,.v (.int .i64) z3,.row 21])]))
 |_,_,_=>none
theorem wq1bc(k:Nat): DOK Tryz.prog 150 (wqer k):=by
 intro ps hp R K r h
 have h:wqer k ps hp K=some r:=h
 unfold wqer at h
 split at h
 ·rw[←wq144]at h
  exact fnW_ok ⟨tyT_ok,(CTab.add_ok (fun h=>wqbb k _ _ _ _ _ (by unfold wqmq at h;unfold wq58;exact h)) (CTab.add_ok (fun h=>wq19b k _ _ _ _ _ (by unfold wqo0 at h;unfold wqd6;exact h)) (CTab.add_ok (fun h=>wq1hc k _ _ _ _ _ (by unfold wq15h at h;unfold wqmo;exact h)) (CTab.add_ok (fun h=>wqrz k _ _ _ _ _ (by unfold wqms at h;unfold wq9c;exact h)) (CTab.add_ok (fun h=>wq1lg k _ _ _ _ _ (by unfold wq19a at h;unfold wqpr;exact h)) (CTab.add_ok (fun h=>wq19d k _ _ _ _ _ (by unfold wqo2 at h;unfold wqd7;exact h)) CTab.nil_ok)))))),fun _ _=>rfl⟩ mixed (by kernel_rfl) (by kernel_rfl) h fun o ho=>by unfold wqaa at ho;split at ho<;>first|exact ho|cases ho
 ·cases h
end Go.Proofs.YtabkhphoacmcdaaGreatDoor.Pvm
end
namespace Go.Proofs.YtabkhphoacmcdaaGreatDoor.Pvm
open Go Go.Proofs
def wq1dh:List LS:=[.ag [.any,.any,.any]]
def wq1lh(k:Nat): CTab:=(CTab.add 150 wq16q (wqer k) CTab.nil)
def wqyu{R:Type}(K:((List dT156)→Int→Int→Option R)): Out→Option R
 |.ret [.v (.sl (.pr (.int .i64) (.pr (.int .i64) (.pr (.int .i64) (.pr .str .bool))))) y0,.agg [.v (.int .i64) y1,.v (.int .i64) y2]] []=>K y0 y1 y2
 |_=>none
def wq1he:RetSpec:=⟨[.sl (.pr (.int .i64) (.pr (.int .i64) (.pr (.int .i64) (.pr .str .bool)))),.ag [.any,.any]],[],[]⟩
def wq1jj:List (Nat×CutSpec):=[]
def wq1hf:List (Nat×Plan):=[]
def wq19e(k:Nat): Ctx:=⟨tyT,wq1jj,wq1lh k,[2,3],[],wq1hf,@SH⟩
def wqaw:Code:=Tryz.f100.body.getD .skip
def wqr7(k:Nat){R:Type}: PV→List PV→List (Nm×HObj)→(Out→Option R)→Option R
 |.nilif,[.ptr 1 0,.ptr 2 0],[(1,.var 110 [.v (.sl (.pr (.int .i64) (.pr (.int .i64) (.pr (.int .i64) (.pr .str .bool))))) x0]),(2,.var 29 [.v (.int .i64) x1,.v (.int .i64) x2])],K=>wqny k x0 x1 x2 (fun y0 y1 y2=>K (.ret [] [(1,.var 110 [.v (.sl (.pr (.int .i64) (.pr (.int .i64) (.pr (.int .i64) (.pr .str .bool))))) y0]),(2,.var 29 [.v (.int .i64) y1,.v (.int .i64) y2])]))
 |.ifc 29 (.agg [.v (.int .i64) x3,.v (.int .i64) x4]),[.ptr 1 0,.ptr 2 0],[(1,.var 110 [.v (.sl (.pr (.int .i64) (.pr (.int .i64) (.pr (.int .i64) (.pr .str .bool))))) x0]),(2,.var 29 [.v (.int .i64) x1,.v (.int .i64) x2])],K=>wqnz k x0 x1 x2 x3 x4 (fun y0 y1 y2=>K (.ret [] [(1,.var 110 [.v (.sl (.pr (.int .i64) (.pr (.int .i64) (.pr (.int .i64) (.pr .str .bool))))) y0]),(2,.var 29 [.v (.int .i64) y1,.v (.int .i64) y2])]))
 |_,_,_,_=>none
def wq1li(k:Nat){R:Type}(x0 x1:Int)(x2:(List UInt8))(K:((List dT156)→Int→Int→Option R)): Option R:=wqp0 k x0 x1 x2 0 [] (fun y6 y7 y8 y9 y10=>wqny k y10 0 0 K) (fun y6 y7 y8 y9 y10 y11 y12=>wqnz k [] 0 0 y11 y12 K)
theorem wq1jk(k:Nat){R:Type}(I:Nat→St→Option R)(x0 x1:Int)(x2:(List UInt8))(K:((List dT156)→Int→Int→Option R)): fnDK (wq19e k) k [300,400] [at_ [0] wqaw] (opsAt (at_ [1,0] wqaw)) (at_ [1,1] wqaw) 16 [.cell 2 110,.cell 3 29] wq1he (wqr7 k) wq15b [(300,0),(400,0)] [.agg [.v (.int .i64) x0,.v (.int .i64) x1,.v .str x2]] [] (wqyu K)=wq1li k x0 x1 x2 K:=by kernel_rfl
def wq17i(k:Nat){R:Type}(x0 x1:Int)(x2:(List UInt8))(K:((List dT156)→Int→Int→Option R)): Option R:=wq1li k x0 x1 x2 K
theorem wq1jl(k:Nat){R:Type}(x0 x1:Int)(x2:(List UInt8))(K:((List dT156)→Int→Int→Option R)): fnDK (wq19e k) k [300,400] [at_ [0] wqaw] (opsAt (at_ [1,0] wqaw)) (at_ [1,1] wqaw) 16 [.cell 2 110,.cell 3 29] wq1he (wqr7 k) wq15b [(300,0),(400,0)] [.agg [.v (.int .i64) x0,.v (.int .i64) x1,.v .str x2]] [] (wqyu K)=wq17i k x0 x1 x2 K:=by
 exact wq1jk k (fun _ _=>none) x0 x1 x2 K
def wqv8(k:Nat){R:Type}: List PV→List (Nm×HObj)→(Out→Option R)→Option R
 |[.agg [.v (.int .i64) x0,.v (.int .i64) x1,.v .str x2]],[],K=>wq17i k x0 x1 x2 (fun y0 y1 y2=>K (.ret [.v (.sl (.pr (.int .i64) (.pr (.int .i64) (.pr (.int .i64) (.pr .str .bool))))) y0,.agg [.v (.int .i64) y1,.v (.int .i64) y2]] []))
 |_,_,_=>none
theorem wq1jm(k:Nat): (wq1lh k).Ok Tryz.prog:=(wqd (wq1bc k) CTab.nil_ok)
theorem wq1bd(k:Nat){R:Type}(rec:PV)(ps:List PV)(hp:List (Nm×HObj))(K:Out→Option R)(r:R)(h:wqr7 k rec ps hp K=some r): DoesToD Tryz.prog 149 rec ps hp fun out=>K out=some r:=by
 unfold wqr7 at h
 split at h
 ·exact wq1et k h
 ·exact wq1eu k h
 ·cases h
theorem wq1lj(k:Nat){ps:List PV}{hp:List (Nm×HObj)}{R:Type}{K:Out→Option R}{r:R}(h:wqv8 k ps hp K=some r): DoesTo Tryz.prog 100 ps hp fun out=>K out=some r:=by
 unfold wqv8 at h
 split at h
 ·rw[←wq1jl]at h
  have:=wq1oe (P:=Tryz.prog) (cx:=wq19e k) (f:=100) ⟨tyT_ok,wq1jm k,fun _ _=>rfl⟩ (by kernel_rfl) (fn:=Tryz.f100) (id:=1) (pre:=[at_ [0] wqaw]) (rest:=at_ [1,1] wqaw) (ops:=opsAt (at_ [1,0] wqaw)) (by kernel_rfl) (by kernel_rfl) (by kernel_rfl) (rs:=[.cell 2 110,.cell 3 29]) (by kernel_rfl) (by kernel_rfl) (by kernel_rfl) (g:=149) (s:=5) (xs:=[.tmp 2,.tmp 3]) (by kernel_rfl) (Invokes.of (fn:=Tryz.f149) (by kernel_rfl) (c:=Tryz.f149.body.getD .skip) (by kernel_rfl) (by kernel_rfl)) (wq1bd k) h
  exact this.mono fun out ho=>by
   unfold wqyu at ho
   split at ho<;>first|exact ho|cases ho
 ·cases h
end Go.Proofs.YtabkhphoacmcdaaGreatDoor.Pvm
noncomputable section
namespace Go.Proofs.YtabkhphoacmcdaaGreatDoor.Pvm
open Go Go.Proofs
def wq1be:List LS:=[.any,.any]
def wqgf{R:Type}(K:(Int→Bool→Option R)): Out→Option R
 |.ret [.v (.int .i64) y0,.v .bool y1] []=>K y0 y1
 |_=>none
def wqr8:RetSpec:=⟨[.any,.any],[],[]⟩
def wqr9(k:Nat): Ctx:=⟨tyT,[(1003,⟨[(0,.any),(6,.any),(7,.any)],[]⟩)],.nil,[],[],[],@SH⟩
def wqc5(s0:(List UInt8))(s1 s2:Int): St:=⟨mkT [(0,.v .str s0),(6,.v (.int .u8) s1),(7,.v kI s2)],mkH []⟩
def wqho(k:Nat){R:Type}(I:Nat→St→Option R)(n:Nat)(s:St)(K:(Int→Bool→Option R)): Option R:=loopK (wqr9 k) k Tryz.f147 wqr8 1003 [1,1,0,1,0] I n s (wqgf K)
def wqpu(k:Nat){R:Type}(E1003:((List UInt8)→Int→Int→Option R))(s0:(List UInt8))(s1 s2:Int)(K:(Int→Bool→Option R)): Option R:=cond (decide (s2<(s0.length:Int))) (cond ((!((s1 == 34) == true)) || (inb s2 (s0.length:Int))) (cond (cond (s1 == 34) (((s0.getD s2.toNat 0).toNat:Int) == 92) false) (E1003 s0 s1 (@Go.IntKind.wrap Go.IntKind.i64 ((@Go.IntKind.wrap Go.IntKind.i64 (s2+1))+1))) (cond (inb s2 (s0.length:Int)) (cond (((s0.getD s2.toNat 0).toNat:Int) != s1) (E1003 s0 s1 (@Go.IntKind.wrap Go.IntKind.i64 (s2+1))) (cond ((!((cond (s1 == 39) (decide ((@Go.IntKind.wrap Go.IntKind.i64 (s2+1))<(s0.length:Int))) false) == true)) || (inb (@Go.IntKind.wrap Go.IntKind.i64 (s2+1)) (s0.length:Int))) (cond (cond (cond (s1 == 39) (decide ((@Go.IntKind.wrap Go.IntKind.i64 (s2+1))<(s0.length:Int))) false) (((s0.getD (@Go.IntKind.wrap Go.IntKind.i64 (s2+1)).toNat 0).toNat:Int) == s1) false) (E1003 s0 s1 (@Go.IntKind.wrap Go.IntKind.i64 ((@Go.IntKind.wrap Go.IntKind.i64 (s2+1))+1))) (K s2 true)) none)) none)) none) (K 0 false)
theorem wqw0(k:Nat){R:Type}(I:Nat→St→Option R)(s0:(List UInt8))(s1 s2:Int)(K:(Int→Bool→Option R)): bodyK (wqr9 k) k Tryz.f147 wqr8 [1,1,0,1,0,0] I (wqc5 s0 s1 s2) (wqgf K)=wqpu k (fun s0 s1 s2=>I 1003 (wqc5 s0 s1 s2)) s0 s1 s2 K:=by kernel_rfl
def wq15i(k:Nat){R:Type}(E1003:((List UInt8)→Int→Int→Option R))(x0:(List UInt8))(x1:Int)(K:(Int→Bool→Option R)): Option R:=cond (inb x1 (x0.length:Int)) (E1003 x0 ((x0.getD x1.toNat 0).toNat:Int) (@Go.IntKind.wrap Go.IntKind.i64 (x1+1))) none
def wqhp(k:Nat){R:Type}: Nat→(List UInt8)→Int→Int→(Int→Bool→Option R)→Option R
 |0,_,_,_,_=>none
 |n+1,s0,s1,s2,K=>wqpu k (fun s0 s1 s2=>wqhp k n s0 s1 s2 K) s0 s1 s2 K
theorem wqw1(k:Nat){R:Type}(I:Nat→St→Option R)(K:(Int→Bool→Option R))(n:Nat): ∀(s0:(List UInt8)) (s1 s2:Int),wqho k I n (wqc5 s0 s1 s2) K=wqhp k n s0 s1 s2 K:=by
 induction n with
 |zero=>intros;rfl
 |succ n ih =>
  intro s0 s1 s2
  refine(?_:_=_).trans ((wqw0 k (upI 1003 (fun s=>wqho k I n s K) I) s0 s1 s2 K).trans ?_)
  ·rfl
  ·simp only[wq43,ih]<;>rfl
def wqo3(k:Nat){R:Type}(x0:(List UInt8))(x1:Int)(K:(Int→Bool→Option R)): Option R:=wq15i k (fun s0 s1 s2=>wqhp k k s0 s1 s2 K) x0 x1 K
theorem wq19f(k:Nat){R:Type}(x0:(List UInt8))(x1:Int)(K:(Int→Bool→Option R)): fnW (wqr9 k) k Tryz.f147 wqr8 [.v .str x0,.v kI x1] [] (wqgf K)=wqo3 k x0 x1 K:=by
 refine Eq.trans (b:=wq15i k (fun s0 s1 s2=>wqho k (fun _ _=>none) k (wqc5 s0 s1 s2) K) x0 x1 K) (by kernel_rfl) ?_
 simp only[wqw1]<;>rfl
def wqie(k:Nat){R:Type}: List PV→List (Nm×HObj)→(Out→Option R)→Option R
 |[.v .str x0,.v (.int .i64) x1],[],K=>wqo3 k x0 x1 (fun y0 y1=>K (.ret [.v (.int .i64) y0,.v .bool y1] []))
 |_,_,_=>none
theorem wq1hg(k:Nat): DOK Tryz.prog 147 (wqie k):=by
 intro ps hp R K r h
 have h:wqie k ps hp K=some r:=h
 unfold wqie at h
 split at h
 ·rw[←wq19f]at h
  exact fnW_ok ⟨tyT_ok,CTab.nil_ok,fun _ _=>rfl⟩ mixed (by kernel_rfl) (by kernel_rfl) h fun o ho=>by unfold wqgf at ho;split at ho<;>first|exact ho|cases ho
 ·cases h
end Go.Proofs.YtabkhphoacmcdaaGreatDoor.Pvm
end
noncomputable section
namespace Go.Proofs.YtabkhphoacmcdaaGreatDoor.Pvm
open Go Go.Proofs
def wqpv:List LS:=[.any,.any]
def wq6u{R:Type}(K:((List UInt8)→Option R)): Out→Option R
 |.ret [.v .str y0] []=>K y0
 |_=>none
def wqax:RetSpec:=⟨[.any],[],[]⟩
def wqay(k:Nat): Ctx:=⟨tyT,[(1001,⟨[(0,.any),(1,.any)],[]⟩)],.nil,[],[],[],@SH⟩
def wq5u(s0:(List UInt8))(s1:Int): St:=⟨mkT [(0,.v .str s0),(1,.v (.int .u8) s1)],mkH []⟩
def wq8k(k:Nat){R:Type}(I:Nat→St→Option R)(n:Nat)(s:St)(K:((List UInt8)→Option R)): Option R:=loopK (wqay k) k Tryz.f188 wqax 1001 [1,0,0] I n s (wq6u K)
def wqco(k:Nat){R:Type}(E1001:((List UInt8)→Int→Option R))(s0:(List UInt8))(s1:Int)(K:((List UInt8)→Option R)): Option R:=cond ((!((decide ((s0.length:Int)>0)) == true)) || (inb (@Go.IntKind.wrap Go.IntKind.i64 ((s0.length:Int)-1)) (s0.length:Int))) (cond (cond (decide ((s0.length:Int)>0)) (((s0.getD (@Go.IntKind.wrap Go.IntKind.i64 ((s0.length:Int)-1)).toNat 0).toNat:Int) == s1) false) (cond (bnd 0 (@Go.IntKind.wrap Go.IntKind.i64 ((s0.length:Int)-1)) (s0.length:Int)) (E1001 (cut s0 0 (@Go.IntKind.wrap Go.IntKind.i64 ((s0.length:Int)-1))) s1) none) (K s0)) none
theorem wqj7(k:Nat){R:Type}(I:Nat→St→Option R)(s0:(List UInt8))(s1:Int)(K:((List UInt8)→Option R)): bodyK (wqay k) k Tryz.f188 wqax [1,0,0,0] I (wq5u s0 s1) (wq6u K)=wqco k (fun s0 s1=>I 1001 (wq5u s0 s1)) s0 s1 K:=by kernel_rfl
def wqhe(k:Nat){R:Type}(E1001:((List UInt8)→Int→Option R))(x0:(List UInt8))(x1:Int)(K:((List UInt8)→Option R)): Option R:=E1001 x0 x1
def wq8l(k:Nat){R:Type}: Nat→(List UInt8)→Int→((List UInt8)→Option R)→Option R
 |0,_,_,_=>none
 |n+1,s0,s1,K=>wqco k (fun s0 s1=>wq8l k n s0 s1 K) s0 s1 K
theorem wqj8(k:Nat){R:Type}(I:Nat→St→Option R)(K:((List UInt8)→Option R))(n:Nat): ∀(s0:(List UInt8)) (s1:Int),wq8k k I n (wq5u s0 s1) K=wq8l k n s0 s1 K:=by
 induction n with
 |zero=>intros;rfl
 |succ n ih =>
  intro s0 s1
  refine(?_:_=_).trans ((wqj7 k (upI 1001 (fun s=>wq8k k I n s K) I) s0 s1 K).trans ?_)
  ·rfl
  ·simp only[wq43,ih]<;>rfl
def wqbq(k:Nat){R:Type}(x0:(List UInt8))(x1:Int)(K:((List UInt8)→Option R)): Option R:=wqhe k (fun s0 s1=>wq8l k k s0 s1 K) x0 x1 K
theorem wqp1(k:Nat){R:Type}(x0:(List UInt8))(x1:Int)(K:((List UInt8)→Option R)): fnW (wqay k) k Tryz.f188 wqax [.v .str x0,.v (.int .u8) x1] [] (wq6u K)=wqbq k x0 x1 K:=by
 refine Eq.trans (b:=wqhe k (fun s0 s1=>wq8k k (fun _ _=>none) k (wq5u s0 s1) K) x0 x1 K) (by kernel_rfl) ?_
 simp only[wqj8]<;>rfl
def wq7b(k:Nat){R:Type}: List PV→List (Nm×HObj)→(Out→Option R)→Option R
 |[.v .str x0,.v (.int .u8) x1],[],K=>wqbq k x0 x1 (fun y0=>K (.ret [.v .str y0] []))
 |_,_,_=>none
theorem wqsp(k:Nat): DOK Tryz.prog 188 (wq7b k):=by
 intro ps hp R K r h
 have h:wq7b k ps hp K=some r:=h
 unfold wq7b at h
 split at h
 ·rw[←wqp1]at h
  exact fnW_ok ⟨tyT_ok,CTab.nil_ok,fun _ _=>rfl⟩ mixed (by kernel_rfl) (by kernel_rfl) h fun o ho=>by unfold wq6u at ho;split at ho<;>first|exact ho|cases ho
 ·cases h
end Go.Proofs.YtabkhphoacmcdaaGreatDoor.Pvm
end
noncomputable section
namespace Go.Proofs.YtabkhphoacmcdaaGreatDoor.Pvm
open Go Go.Proofs
def wqw2:List LS:=[.any,.any]
def wqj9{R:Type}(K:((List UInt8)→Option R)): Out→Option R
 |.ret [.v .str y0] []=>K y0
 |_=>none
def wqyv:RetSpec:=⟨[.any],[],[]⟩
def wqyw(k:Nat): Ctx:=⟨tyT,[],(.add 188 wqpv (wq7b k) .nil),[],[],[],@SH⟩
def wq112(k:Nat){R:Type}(x0:(List UInt8))(x1:UInt8)(K:((List UInt8)→Option R)): Option R:=cond (cond (x0 == []) true ([x1] == [])) (K x0) (cond (cond ((@List.length UInt8 [x1]:Int) == 1) (decide (((([x1]).getD (Int.toNat 0) 0).toNat:Int)<128)) false) (wqbq k x0 ((([x1]).getD (Int.toNat 0) 0).toNat:Int) K) none)
def wqc6(k:Nat){R:Type}(x0:(List UInt8))(x1:UInt8)(K:((List UInt8)→Option R)): Option R:=wq112 k x0 x1 K
theorem wqu0(k:Nat){R:Type}(x0:(List UInt8))(x1:UInt8)(K:((List UInt8)→Option R)): fnW (wqyw k) k Tryz.f148 wqyv [.v .str x0,.v .str [x1]] [] (wqj9 K)=wqc6 k x0 x1 K:=by
 kernel_rfl
def wq9x(k:Nat){R:Type}: List PV→List (Nm×HObj)→(Out→Option R)→Option R
 |[.v .str x0,.v .str [x1]],[],K=>wqc6 k x0 x1 (fun y0=>K (.ret [.v .str y0] []))
 |_,_,_=>none
theorem wq113(k:Nat): DOK Tryz.prog 148 (wq9x k):=by
 intro ps hp R K r h
 have h:wq9x k ps hp K=some r:=h
 unfold wq9x at h
 split at h
 ·rw[←wqu0]at h
  exact fnW_ok ⟨tyT_ok,(wqd (wqsp k) CTab.nil_ok),fun _ _=>rfl⟩ mixed (by kernel_rfl) (by kernel_rfl) h fun o ho=>by unfold wqj9 at ho;split at ho<;>first|exact ho|cases ho
 ·cases h
end Go.Proofs.YtabkhphoacmcdaaGreatDoor.Pvm
end
noncomputable section
namespace Go.Proofs.YtabkhphoacmcdaaGreatDoor.Pvm
open Go Go.Proofs
def wq114:List LS:=[.any]
def wqif{R:Type}(K:((List UInt8)→Bool→Option R)): Out→Option R
 |.ret [.v .str y0,.v .bool y1] []=>K y0 y1
 |_=>none
def wqu1:RetSpec:=⟨[.any,.any],[],[]⟩
def wqu2(k:Nat): Ctx:=⟨tyT,[(1003,⟨[(0,.any),(4,.any),(5,.any)],[]⟩)],(.add 147 wq1be (wqie k) (.add 148 wqw2 (wq9x k) .nil)),[],[],[],@SH⟩
def wqd8(s0:(List UInt8))(s1 s2:Int): St:=⟨mkT [(0,.v .str s0),(4,.v kI s1),(5,.v kI s2)],mkH []⟩
def wqju(k:Nat){R:Type}(I:Nat→St→Option R)(n:Nat)(s:St)(K:((List UInt8)→Bool→Option R)): Option R:=loopK (wqu2 k) k Tryz.f99 wqu1 1003 [1,0,1,1,0,1,0] I n s (wqif K)
def wqs3(k:Nat){R:Type}(E1003:((List UInt8)→Int→Int→Option R))(s0:(List UInt8))(s1 s2:Int)(K:((List UInt8)→Bool→Option R)): Option R:=cond (decide (s2<(s0.length:Int))) (cond ((!((decide (s2>0)) == true)) || (inb (@Go.IntKind.wrap Go.IntKind.i64 (s2-1)) (s0.length:Int))) (cond (cond (decide (s2>0)) (((s0.getD (@Go.IntKind.wrap Go.IntKind.i64 (s2-1)).toNat 0).toNat:Int) != 32) false) (E1003 s0 s1 (@Go.IntKind.wrap Go.IntKind.i64 (s2+1))) (cond (inb s2 (s0.length:Int)) (cond (((s0.getD s2.toNat 0).toNat:Int) == 35) (cond (bnd 0 s2 (s0.length:Int)) (wqc6 k (cut s0 0 s2) 32 (fun y7=>K y7 true)) none) (cond (((s0.getD s2.toNat 0).toNat:Int) == 39) (wqo3 k s0 s2 (fun y7 y8=>cond (!y8) (K [] false) (E1003 s0 s1 (@Go.IntKind.wrap Go.IntKind.i64 (y7+1))))) (cond (((s0.getD s2.toNat 0).toNat:Int) == 34) (wqo3 k s0 s2 (fun y7 y8=>cond (!y8) (K [] false) (E1003 s0 s1 (@Go.IntKind.wrap Go.IntKind.i64 (y7+1))))) (E1003 s0 s1 (@Go.IntKind.wrap Go.IntKind.i64 (s2+1)))))) none)) none) (cond (bnd 0 s1 (s0.length:Int)) (wqc6 k (cut s0 0 s1) 32 (fun y7=>K y7 true)) none)
theorem wqyx(k:Nat){R:Type}(I:Nat→St→Option R)(s0:(List UInt8))(s1 s2:Int)(K:((List UInt8)→Bool→Option R)): bodyK (wqu2 k) k Tryz.f99 wqu1 [1,0,1,1,0,1,0,0] I (wqd8 s0 s1 s2) (wqif K)=wqs3 k (fun s0 s1 s2=>I 1003 (wqd8 s0 s1 s2)) s0 s1 s2 K:=by kernel_rfl
def wq19g(k:Nat){R:Type}(E1003:((List UInt8)→Int→Int→Option R))(x0:(List UInt8))(K:((List UInt8)→Bool→Option R)): Option R:=E1003 x0 (x0.length:Int) 0
def wqjv(k:Nat){R:Type}: Nat→(List UInt8)→Int→Int→((List UInt8)→Bool→Option R)→Option R
 |0,_,_,_,_=>none
 |n+1,s0,s1,s2,K=>wqs3 k (fun s0 s1 s2=>wqjv k n s0 s1 s2 K) s0 s1 s2 K
theorem wqyy(k:Nat){R:Type}(I:Nat→St→Option R)(K:((List UInt8)→Bool→Option R))(n:Nat): ∀(s0:(List UInt8)) (s1 s2:Int),wqju k I n (wqd8 s0 s1 s2) K=wqjv k n s0 s1 s2 K:=by
 induction n with
 |zero=>intros;rfl
 |succ n ih =>
  intro s0 s1 s2
  refine(?_:_=_).trans ((wqyx k (upI 1003 (fun s=>wqju k I n s K) I) s0 s1 s2 K).trans ?_)
  ·rfl
  ·simp only[wq43,ih]<;>rfl
def wqra(k:Nat){R:Type}(x0:(List UInt8))(K:((List UInt8)→Bool→Option R)): Option R:=wq19g k (fun s0 s1 s2=>wqjv k k s0 s1 s2 K) x0 K
theorem wq1bf(k:Nat){R:Type}(x0:(List UInt8))(K:((List UInt8)→Bool→Option R)): fnW (wqu2 k) k Tryz.f99 wqu1 [.v .str x0] [] (wqif K)=wqra k x0 K:=by
 refine Eq.trans (b:=wq19g k (fun s0 s1 s2=>wqju k (fun _ _=>none) k (wqd8 s0 s1 s2) K) x0 K) (by kernel_rfl) ?_
 simp only[wqyy]<;>rfl
def wqgg(k:Nat){R:Type}: List PV→List (Nm×HObj)→(Out→Option R)→Option R
 |[.v .str x0],[],K=>wqra k x0 (fun y0 y1=>K (.ret [.v .str y0,.v .bool y1] []))
 |_,_,_=>none
theorem wq19h(k:Nat): DOK Tryz.prog 99 (wqgg k):=by
 intro ps hp R K r h
 have h:wqgg k ps hp K=some r:=h
 unfold wqgg at h
 split at h
 ·rw[←wq1bf]at h
  exact fnW_ok ⟨tyT_ok,(wqd (wq1hg k) (wqd (wq113 k) CTab.nil_ok)),fun _ _=>rfl⟩ mixed (by kernel_rfl) (by kernel_rfl) h fun o ho=>by unfold wqif at ho;split at ho<;>first|exact ho|cases ho
 ·cases h
end Go.Proofs.YtabkhphoacmcdaaGreatDoor.Pvm
end
noncomputable section
namespace Go.Proofs.YtabkhphoacmcdaaGreatDoor.Pvm
open Go Go.Proofs
def wq1ew:List LS:=[.any]
def wqig{R:Type}(K:(Bool→Option R)): Out→Option R
 |.ret [.v .bool y0] []=>K y0
 |_=>none
def wqu3:RetSpec:=⟨[.any],[],[]⟩
def wqu4(k:Nat): Ctx:=⟨tyT,[(1002,⟨[(0,.any),(9,.any),(10,.any)],[]⟩)],(.add 99 wq114 (wqgg k) (.add 100 wq1dh (wqv8 k) .nil)),[],[],[],@SH⟩
def wqd9(s0:(List UInt8))(s1 s2:Int): St:=⟨mkT [(0,.v .str s0),(9,.v kI s1),(10,.v kI s2)],mkH []⟩
def wqjw(k:Nat){R:Type}(I:Nat→St→Option R)(n:Nat)(s:St)(K:(Bool→Option R)): Option R:=loopK (wqu4 k) k Tryz.f164 wqu3 1002 [1,0,1,0] I n s (wqig K)
def wqs4(k:Nat){R:Type}(E1002:((List UInt8)→Int→Int→Option R))(s0:(List UInt8))(s1 s2:Int)(K:(Bool→Option R)): Option R:=cond (decide (s2<s1)) (cond (inb s2 (s0.length:Int)) (cond ((!((decide (((s0.getD s2.toNat 0).toNat:Int)<32)) == false)) || (inb s2 (s0.length:Int))) (cond (cond (decide (((s0.getD s2.toNat 0).toNat:Int)<32)) true (((s0.getD s2.toNat 0).toNat:Int) == 127)) (K false) (E1002 s0 s1 (@Go.IntKind.wrap Go.IntKind.i64 (s2+1)))) none) none) (wqra k s0 (fun y7 y8=>cond (cond (cond (s0 == []) true (!y8)) true (!(y7 == s0))) (K false) (wq17i k 0 0 s0 (fun y9 y10 y11=>cond ((!((cond (y10 == 0) ((y9.length:Int) == 1) false) == true)) || (inb 0 (y9.length:Int))) (cond ((!((cond (cond (y10 == 0) ((y9.length:Int) == 1) false) ((y9.getD (Int.toNat 0) (Kd.zero (@Kd.pr kI (@Kd.pr kI (@Kd.pr kI (@Kd.pr Kd.str Kd.bool)))))).1 == 3) false) == true)) || (inb 0 (y9.length:Int))) (cond ((!((cond (cond (cond (y10 == 0) ((y9.length:Int) == 1) false) ((y9.getD (Int.toNat 0) (Kd.zero (@Kd.pr kI (@Kd.pr kI (@Kd.pr kI (@Kd.pr Kd.str Kd.bool)))))).1 == 3) false) (((((y9.getD (Int.toNat 0) (Kd.zero (@Kd.pr kI (@Kd.pr kI (@Kd.pr kI (@Kd.pr Kd.str Kd.bool)))))).2).2).2).1 == s0) false) == true)) || (inb 0 (y9.length:Int))) (K (cond (cond (cond (cond (y10 == 0) ((y9.length:Int) == 1) false) ((y9.getD (Int.toNat 0) (Kd.zero (@Kd.pr kI (@Kd.pr kI (@Kd.pr kI (@Kd.pr Kd.str Kd.bool)))))).1 == 3) false) (((((y9.getD (Int.toNat 0) (Kd.zero (@Kd.pr kI (@Kd.pr kI (@Kd.pr kI (@Kd.pr Kd.str Kd.bool)))))).2).2).2).1 == s0) false) (!((((y9.getD (Int.toNat 0) (Kd.zero (@Kd.pr kI (@Kd.pr kI (@Kd.pr kI (@Kd.pr Kd.str Kd.bool)))))).2).2).2).2) false)) none) none) none))))
theorem wqyz(k:Nat){R:Type}(I:Nat→St→Option R)(s0:(List UInt8))(s1 s2:Int)(K:(Bool→Option R)): bodyK (wqu4 k) k Tryz.f164 wqu3 [1,0,1,0,0] I (wqd9 s0 s1 s2) (wqig K)=wqs4 k (fun s0 s1 s2=>I 1002 (wqd9 s0 s1 s2)) s0 s1 s2 K:=by kernel_rfl
def wq19i(k:Nat){R:Type}(E1002:((List UInt8)→Int→Int→Option R))(x0:(List UInt8))(K:(Bool→Option R)): Option R:=E1002 x0 (x0.length:Int) 0
def wqjx(k:Nat){R:Type}: Nat→(List UInt8)→Int→Int→(Bool→Option R)→Option R
 |0,_,_,_,_=>none
 |n+1,s0,s1,s2,K=>wqs4 k (fun s0 s1 s2=>wqjx k n s0 s1 s2 K) s0 s1 s2 K
theorem wqz0(k:Nat){R:Type}(I:Nat→St→Option R)(K:(Bool→Option R))(n:Nat): ∀(s0:(List UInt8)) (s1 s2:Int),wqjw k I n (wqd9 s0 s1 s2) K=wqjx k n s0 s1 s2 K:=by
 induction n with
 |zero=>intros;rfl
 |succ n ih =>
  intro s0 s1 s2
  refine(?_:_=_).trans ((wqyz k (upI 1002 (fun s=>wqjw k I n s K) I) s0 s1 s2 K).trans ?_)
  ·rfl
  ·simp only[wq43,ih]<;>rfl
def wqz1(k:Nat){R:Type}(x0:(List UInt8))(K:(Bool→Option R)): Option R:=wq19i k (fun s0 s1 s2=>wqjx k k s0 s1 s2 K) x0 K
theorem wq1bg(k:Nat){R:Type}(x0:(List UInt8))(K:(Bool→Option R)): fnW (wqu4 k) k Tryz.f164 wqu3 [.v .str x0] [] (wqig K)=wqz1 k x0 K:=by
 refine Eq.trans (b:=wq19i k (fun s0 s1 s2=>wqjw k (fun _ _=>none) k (wqd9 s0 s1 s2) K) x0 K) (by kernel_rfl) ?_
 simp only[wqz0]<;>rfl
def wql0(k:Nat){R:Type}: List PV→List (Nm×HObj)→(Out→Option R)→Option R
 |[.v .str x0],[],K=>wqz1 k x0 (fun y0=>K (.ret [.v .bool y0] []))
 |_,_,_=>none
theorem wq1jn(k:Nat): DOK Tryz.prog 164 (wql0 k):=by
 intro ps hp R K r h
 have h:wql0 k ps hp K=some r:=h
 unfold wql0 at h
 split at h
 ·rw[←wq1bg]at h
  exact fnW_ok ⟨tyT_ok,(wqd (wq19h k) (CTab.add_ok (fun h=>wq1lj k h) CTab.nil_ok)),fun _ _=>rfl⟩ mixed (by kernel_rfl) (by kernel_rfl) h fun o ho=>by unfold wqig at ho;split at ho<;>first|exact ho|cases ho
 ·cases h
end Go.Proofs.YtabkhphoacmcdaaGreatDoor.Pvm
end
noncomputable section
namespace Go.Proofs.YtabkhphoacmcdaaGreatDoor.Pvm
open Go Go.Proofs
def wq1jo:List LS:=[.ag [.any,.any,.any,.any,.sl .str,.sl kI]]
def wq15j{R:Type}(K:(Bool→Option R)): Out→Option R
 |.ret [.v .bool y0] []=>K y0
 |_=>none
def wq1mm:RetSpec:=⟨[.any],[],[]⟩
def wq1mn(k:Nat): Ctx:=⟨tyT,[],(.add 164 wq1ew (wql0 k) (.add 165 wq1es (wqky k) .nil)),[],[],[],@SH⟩
def wq1p1(k:Nat){R:Type}(x0 x1:Int)(x2:(List UInt8))(x3:Bool)(x4:(List (List UInt8)))(x5:(List Int))(K:(Bool→Option R)): Option R:=cond (x0 == 1) (cond ((cond (cond ((x4.length:Int) == 0) ((x5.length:Int) == 0) false) (decide ((x2.length:Int)≤200)) false) == true) (cond (x3 == false) (wqz1 k x2 K) (K true)) (K false)) (cond (x0 == 2) (K (cond (cond (cond (x2 == []) (!x3) false) ((x4.length:Int) == 0) false) (decide ((x5.length:Int)>0)) false)) (cond (x0 == 3) (cond ((cond (cond (cond (x2 == []) (!x3) false) (decide ((x5.length:Int)>0)) false) ((x4.length:Int) == (x5.length:Int)) false) == true) (wqyk k x4 K) (K false)) (K false)))
def wq19j(k:Nat){R:Type}(x0 x1:Int)(x2:(List UInt8))(x3:Bool)(x4:(List (List UInt8)))(x5:(List Int))(K:(Bool→Option R)): Option R:=wq1p1 k x0 x1 x2 x3 x4 x5 K
theorem wq1hh(k:Nat){R:Type}(x0 x1:Int)(x2:(List UInt8))(x3:Bool)(x4:(List (List UInt8)))(x5:(List Int))(K:(Bool→Option R)): fnW (wq1mn k) k Tryz.f111 wq1mm [.agg [.v kI x0,.v kI x1,.v .str x2,.v .bool x3,.v (.sl .str) x4,.v (.sl kI) x5]] [] (wq15j K)=wq19j k x0 x1 x2 x3 x4 x5 K:=by
 kernel_rfl
def wqrb(k:Nat){R:Type}: List PV→List (Nm×HObj)→(Out→Option R)→Option R
 |[.agg [.v (.int .i64) x0,.v (.int .i64) x1,.v .str x2,.v .bool x3,.v (.sl .str) x4,.v (.sl (.int .i64)) x5]],[],K=>wq19j k x0 x1 x2 x3 x4 x5 (fun y0=>K (.ret [.v .bool y0] []))
 |_,_,_=>none
theorem wq1p2(k:Nat): DOK Tryz.prog 111 (wqrb k):=by
 intro ps hp R K r h
 have h:wqrb k ps hp K=some r:=h
 unfold wqrb at h
 split at h
 ·rw[←wq1hh]at h
  exact fnW_ok ⟨tyT_ok,(wqd (wq1jn k) (wqd (wq1jf k) CTab.nil_ok)),fun _ _=>rfl⟩ mixed (by kernel_rfl) (by kernel_rfl) h fun o ho=>by unfold wq15j at ho;split at ho<;>first|exact ho|cases ho
 ·cases h
end Go.Proofs.YtabkhphoacmcdaaGreatDoor.Pvm
end
noncomputable section
namespace Go.Proofs.YtabkhphoacmcdaaGreatDoor.Pvm
open Go Go.Proofs
def wq15k:List LS:=[.ag [.sl kdT72],.any,.any]
def wq115(wq52:(R:Type)→(List dT72)→Int→Int→(Int→Option R)→Option R){R:Type}: List PV→List (Nm×HObj)→(Out→Option R)→Option R
 |[.agg [.v (.sl (.pr (.int .i64) (.pr (.int .i64) (.pr .str (.pr .bool (.pr (.sl .str) (.sl (.int .i64)))))))) x0],.v (.int .i64) x1,.v (.int .i64) x2],[],K=>wq52 R x0 x1 x2 (fun y0=>K (.ret [.v (.int .i64) y0] []))
 |_,_,_=>none
def wql1{R:Type}(K:(Int→Option R)): Out→Option R
 |.ret [.v (.int .i64) y0] []=>K y0
 |_=>none
def wqz2:RetSpec:=⟨[.any],[],[]⟩
def wqz3(k:Nat)(wq52:(R:Type)→(List dT72)→Int→Int→(Int→Option R)→Option R): Ctx:=⟨tyT,[(1005,⟨[(2,.any),(3,.obj 13 [.sl kdT72]),(7,.any),(35,.sl kI),(36,.any),(37,.any)],[]⟩)],(.add 68 wq15k (wq115 wq52) (.add 111 wq1jo (wqrb k) .nil)),[],[],[],@SH⟩
def wqes(s0:Int)(s1:(List dT72))(s2:Int)(s3:(List Int))(s4 s5:Int): St:=⟨mkT [(2,.v kI s0),(3,.ptr 13 0),(7,.v kI s2),(35,.v (.sl kI) s3),(36,.v kI s4),(37,.v kI s5)],mkH [(13,.var 38 [.v kdT37 s1])]⟩
def wqmz(k:Nat)(wq52:(R:Type)→(List dT72)→Int→Int→(Int→Option R)→Option R){R:Type}(I:Nat→St→Option R)(n:Nat)(s:St)(K:(Int→Option R)): Option R:=loopK (wqz3 k wq52) k Tryz.f68 wqz2 1005 [1,1,1,0,1,0] I n s (wql1 K)
def wqu5(k:Nat)(wq52:(R:Type)→(List dT72)→Int→Int→(Int→Option R)→Option R){R:Type}(E1005:(Int→(List dT72)→Int→(List Int)→Int→Int→Option R))(s0:Int)(s1:(List dT72))(s2:Int)(s3:(List Int))(s4 s5:Int)(K:(Int→Option R)): Option R:=cond (decide (s5<s4)) (cond (inb s5 (s3.length:Int)) (cond ((s3.getD s5.toNat kI.zero) != s2) (K (@Neg.neg Int @Int.instNegInt (1:Int))) (wq52 R s1 (s3.getD s5.toNat kI.zero) (@Go.IntKind.wrap Go.IntKind.i64 (s0+1)) (fun y10=>cond (decide (y10<0)) (K (@Neg.neg Int @Int.instNegInt (1:Int))) (E1005 s0 s1 y10 s3 s4 (@Go.IntKind.wrap Go.IntKind.i64 (s5+1)))))) none) (K s2)
theorem wq116(k:Nat)(wq52:(R:Type)→(List dT72)→Int→Int→(Int→Option R)→Option R){R:Type}(I:Nat→St→Option R)(s0:Int)(s1:(List dT72))(s2:Int)(s3:(List Int))(s4 s5:Int)(K:(Int→Option R)): bodyK (wqz3 k wq52) k Tryz.f68 wqz2 [1,1,1,0,1,0,0] I (wqes s0 s1 s2 s3 s4 s5) (wql1 K)=wqu5 k wq52 (fun s0 s1 s2 s3 s4 s5=>I 1005 (wqes s0 s1 s2 s3 s4 s5)) s0 s1 s2 s3 s4 s5 K:=by kernel_rfl
def wq1di(k:Nat)(wq52:(R:Type)→(List dT72)→Int→Int→(Int→Option R)→Option R){R:Type}(E1005:(Int→(List dT72)→Int→(List Int)→Int→Int→Option R))(x0:(List dT72))(x1 x2:Int)(K:(Int→Option R)): Option R:=cond ((!((cond (decide (x1≥(x0.length:Int))) true (decide (x2>24))) == false)) || (inb x1 (x0.length:Int))) (cond ((cond (decide (x1≥(x0.length:Int))) true (decide (x2>24))) == false) (wq19j k (x0.getD x1.toNat (Kd.zero (@Kd.pr kI (@Kd.pr kI (@Kd.pr Kd.str (@Kd.pr Kd.bool (@Kd.pr (@Kd.sl Kd.str) (@Kd.sl kI)))))))).1 ((x0.getD x1.toNat (Kd.zero (@Kd.pr kI (@Kd.pr kI (@Kd.pr Kd.str (@Kd.pr Kd.bool (@Kd.pr (@Kd.sl Kd.str) (@Kd.sl kI)))))))).2).1 (((x0.getD x1.toNat (Kd.zero (@Kd.pr kI (@Kd.pr kI (@Kd.pr Kd.str (@Kd.pr Kd.bool (@Kd.pr (@Kd.sl Kd.str) (@Kd.sl kI)))))))).2).2).1 ((((x0.getD x1.toNat (Kd.zero (@Kd.pr kI (@Kd.pr kI (@Kd.pr Kd.str (@Kd.pr Kd.bool (@Kd.pr (@Kd.sl Kd.str) (@Kd.sl kI)))))))).2).2).2).1 (((((x0.getD x1.toNat (Kd.zero (@Kd.pr kI (@Kd.pr kI (@Kd.pr Kd.str (@Kd.pr Kd.bool (@Kd.pr (@Kd.sl Kd.str) (@Kd.sl kI)))))))).2).2).2).2).1 (((((x0.getD x1.toNat (Kd.zero (@Kd.pr kI (@Kd.pr kI (@Kd.pr Kd.str (@Kd.pr Kd.bool (@Kd.pr (@Kd.sl Kd.str) (@Kd.sl kI)))))))).2).2).2).2).2 (fun y7=>cond (!y7) (K (@Neg.neg Int @Int.instNegInt (1:Int))) (cond (inb x1 (x0.length:Int)) (E1005 x2 x0 (@Go.IntKind.wrap Go.IntKind.i64 (x1+1)) (((((x0.getD x1.toNat (Kd.zero (@Kd.pr kI (@Kd.pr kI (@Kd.pr Kd.str (@Kd.pr Kd.bool (@Kd.pr (@Kd.sl Kd.str) (@Kd.sl kI)))))))).2).2).2).2).2 (((((((x0.getD x1.toNat (Kd.zero (@Kd.pr kI (@Kd.pr kI (@Kd.pr Kd.str (@Kd.pr Kd.bool (@Kd.pr (@Kd.sl Kd.str) (@Kd.sl kI)))))))).2).2).2).2).2).length:Int) 0) none))) (K (@Neg.neg Int @Int.instNegInt (1:Int)))) none
def wqn0(k:Nat)(wq52:(R:Type)→(List dT72)→Int→Int→(Int→Option R)→Option R){R:Type}: Nat→Int→(List dT72)→Int→(List Int)→Int→Int→(Int→Option R)→Option R
 |0,_,_,_,_,_,_,_=>none
 |n+1,s0,s1,s2,s3,s4,s5,K=>wqu5 k wq52 (fun s0 s1 s2 s3 s4 s5=>wqn0 k wq52 n s0 s1 s2 s3 s4 s5 K) s0 s1 s2 s3 s4 s5 K
theorem wq117(k:Nat)(wq52:(R:Type)→(List dT72)→Int→Int→(Int→Option R)→Option R){R:Type}(I:Nat→St→Option R)(K:(Int→Option R))(n:Nat): ∀(s0:Int) (s1:(List dT72)) (s2:Int) (s3:(List Int)) (s4 s5:Int),wqmz k wq52 I n (wqes s0 s1 s2 s3 s4 s5) K=wqn0 k wq52 n s0 s1 s2 s3 s4 s5 K:=by
 induction n with
 |zero=>intros;rfl
 |succ n ih =>
  intro s0 s1 s2 s3 s4 s5
  refine(?_:_=_).trans ((wq116 k wq52 (upI 1005 (fun s=>wqmz k wq52 I n s K) I) s0 s1 s2 s3 s4 s5 K).trans ?_)
  ·rfl
  ·simp only[wq43,ih]<;>rfl
def wqaz:Nat→(R:Type)→(List dT72)→Int→Int→(Int→Option R)→Option R
 |0,_,_,_,_,_=>none
 |k+1,R,x0,x1,x2,K=>wq1di k (wqaz k) (fun s0 s1 s2 s3 s4 s5=>wqn0 k (wqaz k) k s0 s1 s2 s3 s4 s5 K) x0 x1 x2 K
def wqv9(k:Nat){R:Type}(x0:(List dT72))(x1 x2:Int)(K:(Int→Option R)): Option R:=wqaz k R x0 x1 x2 K
theorem wq1ex(k:Nat){R:Type}(x0:(List dT72))(x1 x2:Int)(K:(Int→Option R)): fnW (wqz3 k (wqaz k)) k Tryz.f68 wqz2 [.agg [.v kdT37 x0],.v kI x1,.v kI x2] [] (wql1 K)=wqaz (k+1) R x0 x1 x2 K:=by
 rw[wqaz]
 refine Eq.trans (b:=wq1di k (wqaz k) (fun s0 s1 s2 s3 s4 s5=>wqmz k (wqaz k) (fun _ _=>none) k (wqes s0 s1 s2 s3 s4 s5) K) x0 x1 x2 K) (by kernel_rfl) ?_
 simp only[wq117]<;>rfl
def wqaf(k:Nat){R:Type}: List PV→List (Nm×HObj)→(Out→Option R)→Option R
 |[.agg [.v (.sl (.pr (.int .i64) (.pr (.int .i64) (.pr .str (.pr .bool (.pr (.sl .str) (.sl (.int .i64)))))))) x0],.v (.int .i64) x1,.v (.int .i64) x2],[],K=>wqv9 k x0 x1 x2 (fun y0=>K (.ret [.v (.int .i64) y0] []))
 |_,_,_=>none
theorem wq1jp(k:Nat): DOK Tryz.prog 68 (wqaf k):=by
 induction k with
 |zero =>
  ·intro ps hp R K r h
   have h:wqaf 0 ps hp K=some r:=h
   unfold wqaf at h
   split at h
   ·unfold wqv9 at h;rw[wqaz]at h;cases h
   ·cases h
 |succ k ih =>
  have ih_show_walk:=ih
  ·intro ps hp R K r h
   have h:wqaf (k+1) ps hp K=some r:=h
   unfold wqaf at h
   split at h
   ·unfold wqv9 at h;rw[←wq1ex]at h
    exact fnW_ok ⟨tyT_ok,(CTab.add_ok (fun h=>ih_show_walk _ _ _ _ _ (by unfold wq115 at h;unfold wqaf;exact h)) (wqd (wq1p2 k) CTab.nil_ok)),fun _ _=>rfl⟩ mixed (by kernel_rfl) (by kernel_rfl) h fun o ho=>by unfold wql1 at ho;split at ho<;>first|exact ho|cases ho
   ·cases h
theorem wq1mo(k:Nat): DOK Tryz.prog 68 (wqaf k):=(wq1jp k)
end Go.Proofs.YtabkhphoacmcdaaGreatDoor.Pvm
end
noncomputable section
namespace Go.Proofs.YtabkhphoacmcdaaGreatDoor.Pvm
open Go Go.Proofs
def wq1ey:List LS:=[.ag [.sl kdT72]]
def wqws{R:Type}(K:(Int→Option R)): Out→Option R
 |.ret [.v (.int .i64) y0] []=>K y0
 |_=>none
def wq1hi:RetSpec:=⟨[.any],[],[]⟩
def wq1hj(k:Nat): Ctx:=⟨tyT,[],(.add 68 wq15k (wqaf k) .nil),[],[],[(1,(.of [(0,1),(1,1),(2,1),(3,1),(4,1),(5,1),(6,1),(7,1),(8,1),(9,1),(10,1),(13,1),(11,1),(14,2),(15,1),(12,0),(16,1),(17,1)] .done))],@SH⟩
def wq1jq(k:Nat){R:Type}(x0:(List dT72))(K:(Int→Option R)): Option R:=cond ((cond (decide ((x0.length:Int)<1)) true (decide ((x0.length:Int)>2000))) == false) (wqv9 k x0 0 1 (fun y4=>cond (y4 != (x0.length:Int)) (K 1) (K 0))) (K 1)
def wqz4(k:Nat){R:Type}(x0:(List dT72))(K:(Int→Option R)): Option R:=wq1jq k x0 K
theorem wq1bh(k:Nat){R:Type}(x0:(List dT72))(K:(Int→Option R)): fnW (wq1hj k) k Tryz.f35 wq1hi [.agg [.v kdT37 x0]] [] (wqws K)=wqz4 k x0 K:=by
 kernel_rfl
def wql2(k:Nat){R:Type}: List PV→List (Nm×HObj)→(Out→Option R)→Option R
 |[.agg [.v (.sl (.pr (.int .i64) (.pr (.int .i64) (.pr .str (.pr .bool (.pr (.sl .str) (.sl (.int .i64)))))))) x0]],[],K=>wqz4 k x0 (fun y0=>K (.ret [.v (.int .i64) y0] []))
 |_,_,_=>none
theorem wq1jr(k:Nat): DOK Tryz.prog 35 (wql2 k):=by
 intro ps hp R K r h
 have h:wql2 k ps hp K=some r:=h
 unfold wql2 at h
 split at h
 ·rw[←wq1bh]at h
  exact fnW_ok ⟨tyT_ok,(wqd (wq1mo k) CTab.nil_ok),fun _ _=>rfl⟩ mixed (by kernel_rfl) (by kernel_rfl) h fun o ho=>by unfold wqws at ho;split at ho<;>first|exact ho|cases ho
 ·cases h
end Go.Proofs.YtabkhphoacmcdaaGreatDoor.Pvm
end
namespace Go.Proofs.YtabkhphoacmcdaaGreatDoor.Pvm
open Go Go.Proofs
def wqu6:List LS:=[.ag [.sl (.pr (.int .i64) (.pr (.int .i64) (.pr .str (.pr .bool (.pr (.sl .str) (.sl (.int .i64)))))))]]
def wq1dj(k:Nat): CTab:=(CTab.add 35 wq1ey (wql2 k) (CTab.add 37 wqts (wq9b k) CTab.nil))
def wqrc{R:Type}(K:((List ((List UInt8)×(List Int)))→(List dT56)→Int→Int→Option R)): Out→Option R
 |.ret [.agg [.v (.sl (.pr .str (.sl (.int .i64)))) y0,.v (.sl (.pr .str (.pr .str (.pr .bool (.pr (.int .i64) (.pr (.int .i64) (.pr .bool (.pr (.pr .str (.pr (.int .i64) (.pr (.int .i64) (.pr .flt (.pr .bool .bool))))) (.sl (.int .i64)))))))))) y1],.agg [.v (.int .i64) y2,.v (.int .i64) y3]] []=>K y0 y1 y2 y3
 |_=>none
def wq19k:RetSpec:=⟨[.ag [.sl (.pr .str (.sl (.int .i64))),.sl (.pr .str (.pr .str (.pr .bool (.pr (.int .i64) (.pr (.int .i64) (.pr .bool (.pr (.pr .str (.pr (.int .i64) (.pr (.int .i64) (.pr .flt (.pr .bool .bool))))) (.sl (.int .i64)))))))))],.ag [.any,.any]],[],[]⟩
def wq1ez:List (Nat×CutSpec):=[]
def wq1bi:List (Nat×Plan):=[]
def wqz5(k:Nat): Ctx:=⟨tyT,wq1ez,wq1dj k,[2,3],[],wq1bi,@SH⟩
def wq5f:Code:=Tryz.f16.body.getD .skip
def wql3(k:Nat){R:Type}: PV→List PV→List (Nm×HObj)→(Out→Option R)→Option R
 |.nilif,[.ptr 1 0,.ptr 2 0],[(1,.var 27 [.v (.sl (.pr .str (.sl (.int .i64)))) x0,.v (.sl (.pr .str (.pr .str (.pr .bool (.pr (.int .i64) (.pr (.int .i64) (.pr .bool (.pr (.pr .str (.pr (.int .i64) (.pr (.int .i64) (.pr .flt (.pr .bool .bool))))) (.sl (.int .i64)))))))))) x1]),(2,.var 29 [.v (.int .i64) x2,.v (.int .i64) x3])],K=>wqi7 k x0 x1 x2 x3 (fun y0 y1 y2 y3=>K (.ret [] [(1,.var 27 [.v (.sl (.pr .str (.sl (.int .i64)))) y0,.v (.sl (.pr .str (.pr .str (.pr .bool (.pr (.int .i64) (.pr (.int .i64) (.pr .bool (.pr (.pr .str (.pr (.int .i64) (.pr (.int .i64) (.pr .flt (.pr .bool .bool))))) (.sl (.int .i64)))))))))) y1]),(2,.var 29 [.v (.int .i64) y2,.v (.int .i64) y3])]))
 |.ifc 29 (.agg [.v (.int .i64) x4,.v (.int .i64) x5]),[.ptr 1 0,.ptr 2 0],[(1,.var 27 [.v (.sl (.pr .str (.sl (.int .i64)))) x0,.v (.sl (.pr .str (.pr .str (.pr .bool (.pr (.int .i64) (.pr (.int .i64) (.pr .bool (.pr (.pr .str (.pr (.int .i64) (.pr (.int .i64) (.pr .flt (.pr .bool .bool))))) (.sl (.int .i64)))))))))) x1]),(2,.var 29 [.v (.int .i64) x2,.v (.int .i64) x3])],K=>wqi8 k x0 x1 x2 x3 x4 x5 (fun y0 y1 y2 y3=>K (.ret [] [(1,.var 27 [.v (.sl (.pr .str (.sl (.int .i64)))) y0,.v (.sl (.pr .str (.pr .str (.pr .bool (.pr (.int .i64) (.pr (.int .i64) (.pr .bool (.pr (.pr .str (.pr (.int .i64) (.pr (.int .i64) (.pr .flt (.pr .bool .bool))))) (.sl (.int .i64)))))))))) y1]),(2,.var 29 [.v (.int .i64) y2,.v (.int .i64) y3])]))
 |_,_,_,_=>none
def wq1dk(k:Nat){R:Type}(x0:(List dT72))(K:((List ((List UInt8)×(List Int)))→(List dT56)→Int→Int→Option R)): Option R:=wqz4 k x0 (fun y4=>cond (y4 != 0) (K [] [] 11 0) (wqf6 k x0 [] [] 0 (fun y5 y6 y7 y8=>wqi7 k y6 y7 0 0 K) (fun y5 y6 y7 y8 y9 y10=>wqi8 k [] [] 0 0 y9 y10 K)))
theorem wq1f0(k:Nat){R:Type}(I:Nat→St→Option R)(x0:(List dT72))(K:((List ((List UInt8)×(List Int)))→(List dT56)→Int→Int→Option R)): fnDK (wqz5 k) k [300,400] [at_ [0] wq5f,at_ [1,0] wq5f] (opsAt (at_ [1,1,0] wq5f)) (at_ [1,1,1] wq5f) 22 [.cell 2 27,.cell 3 29] wq19k (wql3 k) wqwi [(300,0),(400,0)] [.agg [.v (.sl (.pr (.int .i64) (.pr (.int .i64) (.pr .str (.pr .bool (.pr (.sl .str) (.sl (.int .i64)))))))) x0]] [] (wqrc K)=wq1dk k x0 K:=by kernel_rfl
def wqhq(k:Nat){R:Type}(x0:(List dT72))(K:((List ((List UInt8)×(List Int)))→(List dT56)→Int→Int→Option R)): Option R:=wq1dk k x0 K
theorem wq1f1(k:Nat){R:Type}(x0:(List dT72))(K:((List ((List UInt8)×(List Int)))→(List dT56)→Int→Int→Option R)): fnDK (wqz5 k) k [300,400] [at_ [0] wq5f,at_ [1,0] wq5f] (opsAt (at_ [1,1,0] wq5f)) (at_ [1,1,1] wq5f) 22 [.cell 2 27,.cell 3 29] wq19k (wql3 k) wqwi [(300,0),(400,0)] [.agg [.v (.sl (.pr (.int .i64) (.pr (.int .i64) (.pr .str (.pr .bool (.pr (.sl .str) (.sl (.int .i64)))))))) x0]] [] (wqrc K)=wqhq k x0 K:=by
 exact wq1f0 k (fun _ _=>none) x0 K
def wqo4(k:Nat){R:Type}: List PV→List (Nm×HObj)→(Out→Option R)→Option R
 |[.agg [.v (.sl (.pr (.int .i64) (.pr (.int .i64) (.pr .str (.pr .bool (.pr (.sl .str) (.sl (.int .i64)))))))) x0]],[],K=>wqhq k x0 (fun y0 y1 y2 y3=>K (.ret [.agg [.v (.sl (.pr .str (.sl (.int .i64)))) y0,.v (.sl (.pr .str (.pr .str (.pr .bool (.pr (.int .i64) (.pr (.int .i64) (.pr .bool (.pr (.pr .str (.pr (.int .i64) (.pr (.int .i64) (.pr .flt (.pr .bool .bool))))) (.sl (.int .i64)))))))))) y1],.agg [.v (.int .i64) y2,.v (.int .i64) y3]] []))
 |_,_,_=>none
theorem wq1f2(k:Nat): (wq1dj k).Ok Tryz.prog:=(wqd (wq1jr k) (wqd (wqyf k) CTab.nil_ok))
theorem wq16r(k:Nat){R:Type}(rec:PV)(ps:List PV)(hp:List (Nm×HObj))(K:Out→Option R)(r:R)(h:wql3 k rec ps hp K=some r): DoesToD Tryz.prog 36 rec ps hp fun out=>K out=some r:=by
 unfold wql3 at h
 split at h
 ·exact wq18g k h
 ·exact wq18h k h
 ·cases h
theorem wq1dl(k:Nat){ps:List PV}{hp:List (Nm×HObj)}{R:Type}{K:Out→Option R}{r:R}(h:wqo4 k ps hp K=some r): DoesTo Tryz.prog 16 ps hp fun out=>K out=some r:=by
 unfold wqo4 at h
 split at h
 ·rw[←wq1f1]at h
  have:=wq1oe (P:=Tryz.prog) (cx:=wqz5 k) (f:=16) ⟨tyT_ok,wq1f2 k,fun _ _=>rfl⟩ (by kernel_rfl) (fn:=Tryz.f16) (id:=3) (pre:=[at_ [0] wq5f,at_ [1,0] wq5f]) (rest:=at_ [1,1,1] wq5f) (ops:=opsAt (at_ [1,1,0] wq5f)) (by kernel_rfl) (by kernel_rfl) (by kernel_rfl) (rs:=[.cell 2 27,.cell 3 29]) (by kernel_rfl) (by kernel_rfl) (by kernel_rfl) (g:=36) (s:=10) (xs:=[.tmp 2,.tmp 3]) (by kernel_rfl) (Invokes.of (fn:=Tryz.f36) (by kernel_rfl) (c:=Tryz.f36.body.getD .skip) (by kernel_rfl) (by kernel_rfl)) (wq16r k) h
  exact this.mono fun out ho=>by
   unfold wqrc at ho
   split at ho<;>first|exact ho|cases ho
 ·cases h
def wq19l:List LS:=[.obj 1 [.sl (.pr (.int .i64) (.pr (.int .i64) (.pr .str (.pr .bool (.pr (.sl .str) (.sl (.int .i64)))))))],.obj 2 [.any,.any]]
def wq19m(k:Nat): CTab:=CTab.nil
def wqp2{R:Type}(K:((List dT72)→Int→Int→Option R)): Out→Option R
 |.ret [] [(1,.var 38 [.v (.sl (.pr (.int .i64) (.pr (.int .i64) (.pr .str (.pr .bool (.pr (.sl .str) (.sl (.int .i64)))))))) y0]),(2,.var 29 [.v (.int .i64) y1,.v (.int .i64) y2])]=>K y0 y1 y2
 |_=>none
def wq15l:RetSpec:=⟨[],[(1,.obj 1 [.sl (.pr (.int .i64) (.pr (.int .i64) (.pr .str (.pr .bool (.pr (.sl .str) (.sl (.int .i64)))))))]),(2,.obj 2 [.any,.any])],[]⟩
def wq1bj:List (Nat×CutSpec):=[]
def wq19n:List (Nat×Plan):=[(7,(.of [(0,1),(1,2),(2,0),(3,0)] .done))]
def wqu7(k:Nat): Ctx:=⟨tyT,wq1bj,wq19m k,[],[1,2],wq19n,@SH⟩
def wqih:Code:=Tryz.f101.body.getD .skip
def wq19o(k:Nat){R:Type}(x0:(List dT72))(x1 x2:Int)(K:((List dT72)→Int→Int→Option R)): Option R:=K x0 x1 x2
theorem wq1bk(k:Nat){R:Type}(I:Nat→St→Option R)(x0:(List dT72))(x1 x2:Int)(K:((List dT72)→Int→Int→Option R)): fnCK (wqu7 k) k (at_ [1] wqih) 13 [] wq15l [.ptr 1 0,.ptr 2 0] 5 (.nilif) [(1,.var 38 [.v (.sl (.pr (.int .i64) (.pr (.int .i64) (.pr .str (.pr .bool (.pr (.sl .str) (.sl (.int .i64)))))))) x0]),(2,.var 29 [.v (.int .i64) x1,.v (.int .i64) x2])] (wqp2 K)=wq19o k x0 x1 x2 K:=by kernel_rfl
def wqrd(k:Nat){R:Type}(x0:(List dT72))(x1 x2:Int)(K:((List dT72)→Int→Int→Option R)): Option R:=wq19o k x0 x1 x2 K
theorem wq1bl(k:Nat){R:Type}(x0:(List dT72))(x1 x2:Int)(K:((List dT72)→Int→Int→Option R)): fnCK (wqu7 k) k (at_ [1] wqih) 13 [] wq15l [.ptr 1 0,.ptr 2 0] 5 (.nilif) [(1,.var 38 [.v (.sl (.pr (.int .i64) (.pr (.int .i64) (.pr .str (.pr .bool (.pr (.sl .str) (.sl (.int .i64)))))))) x0]),(2,.var 29 [.v (.int .i64) x1,.v (.int .i64) x2])] (wqp2 K)=wqrd k x0 x1 x2 K:=by
 exact wq1bk k (fun _ _=>none) x0 x1 x2 K
def wq118(k:Nat){R:Type}: PV→List PV→List (Nm×HObj)→(Out→Option R)→Option R
 |.nilif,[.ptr 1 0,.ptr 2 0],[(1,.var 38 [.v (.sl (.pr (.int .i64) (.pr (.int .i64) (.pr .str (.pr .bool (.pr (.sl .str) (.sl (.int .i64)))))))) x0]),(2,.var 29 [.v (.int .i64) x1,.v (.int .i64) x2])],K=>wqrd k x0 x1 x2 (fun y0 y1 y2=>K (.ret [] [(1,.var 38 [.v (.sl (.pr (.int .i64) (.pr (.int .i64) (.pr .str (.pr .bool (.pr (.sl .str) (.sl (.int .i64)))))))) y0]),(2,.var 29 [.v (.int .i64) y1,.v (.int .i64) y2])]))
 |_,_,_,_=>none
theorem wq1bm(k:Nat): (wq19m k).Ok Tryz.prog:=CTab.nil_ok
theorem wq1hk(k:Nat){rec:PV}{ps:List PV}{hp:List (Nm×HObj)}{R:Type}{K:Out→Option R}{r:R}(h:wq118 k rec ps hp K=some r): DoesToD Tryz.prog 101 rec ps hp fun out=>K out=some r:=by
 unfold wq118 at h
 split at h
 ·rw[←wq1bl]at h
  have:=wq1d9 (P:=Tryz.prog) (cx:=wqu7 k) (f:=101) ⟨tyT_ok,wq1bm k,fun _ _=>rfl⟩ (by kernel_rfl) (fn:=Tryz.f101) (id:=0) (ops:=opsAt (at_ [0] wqih)) (c:=at_ [1] wqih) (by kernel_rfl) (by kernel_rfl) (by kernel_rfl) (rs:=[]) (by kernel_rfl) (by kernel_rfl) h
  exact this.mono fun out ho=>by
   unfold wqp2 at ho
   split at ho<;>first|exact ho|cases ho
 ·cases h
def wq19p(k:Nat): CTab:=CTab.nil
def wqp3{R:Type}(K:((List dT72)→Int→Int→Option R)): Out→Option R
 |.ret [] [(1,.var 38 [.v (.sl (.pr (.int .i64) (.pr (.int .i64) (.pr .str (.pr .bool (.pr (.sl .str) (.sl (.int .i64)))))))) y0]),(2,.var 29 [.v (.int .i64) y1,.v (.int .i64) y2])]=>K y0 y1 y2
 |_=>none
def wq15m:RetSpec:=⟨[],[(1,.obj 1 [.sl (.pr (.int .i64) (.pr (.int .i64) (.pr .str (.pr .bool (.pr (.sl .str) (.sl (.int .i64)))))))]),(2,.obj 2 [.any,.any])],[]⟩
def wq1bn:List (Nat×CutSpec):=[]
def wq19q:List (Nat×Plan):=[(7,(.of [(0,1),(1,2),(2,0),(3,0)] .done))]
def wqu8(k:Nat): Ctx:=⟨tyT,wq1bn,wq19p k,[],[1,2],wq19q,@SH⟩
def wqii:Code:=Tryz.f101.body.getD .skip
def wq19r(k:Nat){R:Type}(x0:(List dT72))(x1 x2 x3 x4:Int)(K:((List dT72)→Int→Int→Option R)): Option R:=K [] x3 x4
theorem wq1bo(k:Nat){R:Type}(I:Nat→St→Option R)(x0:(List dT72))(x1 x2 x3 x4:Int)(K:((List dT72)→Int→Int→Option R)): fnCK (wqu8 k) k (at_ [1] wqii) 13 [] wq15m [.ptr 1 0,.ptr 2 0] 5 (.ifc 29 (.agg [.v (.int .i64) x3,.v (.int .i64) x4])) [(1,.var 38 [.v (.sl (.pr (.int .i64) (.pr (.int .i64) (.pr .str (.pr .bool (.pr (.sl .str) (.sl (.int .i64)))))))) x0]),(2,.var 29 [.v (.int .i64) x1,.v (.int .i64) x2])] (wqp3 K)=wq19r k x0 x1 x2 x3 x4 K:=by kernel_rfl
def wqhr(k:Nat){R:Type}(x0:(List dT72))(x1 x2 x3 x4:Int)(K:((List dT72)→Int→Int→Option R)): Option R:=wq19r k x0 x1 x2 x3 x4 K
theorem wq1bp(k:Nat){R:Type}(x0:(List dT72))(x1 x2 x3 x4:Int)(K:((List dT72)→Int→Int→Option R)): fnCK (wqu8 k) k (at_ [1] wqii) 13 [] wq15m [.ptr 1 0,.ptr 2 0] 5 (.ifc 29 (.agg [.v (.int .i64) x3,.v (.int .i64) x4])) [(1,.var 38 [.v (.sl (.pr (.int .i64) (.pr (.int .i64) (.pr .str (.pr .bool (.pr (.sl .str) (.sl (.int .i64)))))))) x0]),(2,.var 29 [.v (.int .i64) x1,.v (.int .i64) x2])] (wqp3 K)=wqhr k x0 x1 x2 x3 x4 K:=by
 exact wq1bo k (fun _ _=>none) x0 x1 x2 x3 x4 K
def wq119(k:Nat){R:Type}: PV→List PV→List (Nm×HObj)→(Out→Option R)→Option R
 |.ifc 29 (.agg [.v (.int .i64) x3,.v (.int .i64) x4]),[.ptr 1 0,.ptr 2 0],[(1,.var 38 [.v (.sl (.pr (.int .i64) (.pr (.int .i64) (.pr .str (.pr .bool (.pr (.sl .str) (.sl (.int .i64)))))))) x0]),(2,.var 29 [.v (.int .i64) x1,.v (.int .i64) x2])],K=>wqhr k x0 x1 x2 x3 x4 (fun y0 y1 y2=>K (.ret [] [(1,.var 38 [.v (.sl (.pr (.int .i64) (.pr (.int .i64) (.pr .str (.pr .bool (.pr (.sl .str) (.sl (.int .i64)))))))) y0]),(2,.var 29 [.v (.int .i64) y1,.v (.int .i64) y2])]))
 |_,_,_,_=>none
theorem wq1bq(k:Nat): (wq19p k).Ok Tryz.prog:=CTab.nil_ok
theorem wq1hl(k:Nat){rec:PV}{ps:List PV}{hp:List (Nm×HObj)}{R:Type}{K:Out→Option R}{r:R}(h:wq119 k rec ps hp K=some r): DoesToD Tryz.prog 101 rec ps hp fun out=>K out=some r:=by
 unfold wq119 at h
 split at h
 ·rw[←wq1bp]at h
  have:=wq1d9 (P:=Tryz.prog) (cx:=wqu8 k) (f:=101) ⟨tyT_ok,wq1bq k,fun _ _=>rfl⟩ (by kernel_rfl) (fn:=Tryz.f101) (id:=0) (ops:=opsAt (at_ [0] wqii)) (c:=at_ [1] wqii) (by kernel_rfl) (by kernel_rfl) (by kernel_rfl) (rs:=[]) (by kernel_rfl) (by kernel_rfl) h
  exact this.mono fun out ho=>by
   unfold wqp3 at ho
   split at ho<;>first|exact ho|cases ho
 ·cases h
end Go.Proofs.YtabkhphoacmcdaaGreatDoor.Pvm
noncomputable section
namespace Go.Proofs.YtabkhphoacmcdaaGreatDoor.Pvm
open Go Go.Proofs
def wqo5:List LS:=[.any,.any]
def wq11a{R:Type}(E:(Int→Int→Option R)): Out→Option R
 |.pan (.ifc 29 (.agg [.v (.int .i64) z0,.v (.int .i64) z1])) []=>E z0 z1
 |_=>none
def wq1js:RetSpec:=⟨[],[],[]⟩
def wq1jt(k:Nat): Ctx:=⟨tyT,[],.nil,[],[],[],@SH⟩
def wq1mp(k:Nat){R:Type}(x0 x1:Int)(E:(Int→Int→Option R)): Option R:=E x0 x1
def wqda(k:Nat){R:Type}(x0 x1:Int)(E:(Int→Int→Option R)): Option R:=wq1mp k x0 x1 E
theorem wq1f3(k:Nat){R:Type}(x0 x1:Int)(E:(Int→Int→Option R)): fnW (wq1jt k) k Tryz.f102 wq1js [.v kI x0,.v kI x1] [] (wq11a E)=wqda k x0 x1 E:=by
 kernel_rfl
def wqcp(k:Nat){R:Type}: List PV→List (Nm×HObj)→(Out→Option R)→Option R
 |[.v (.int .i64) x0,.v (.int .i64) x1],[],K=>wqda k x0 x1 (fun z0 z1=>K (.pan (.ifc 29 (.agg [.v (.int .i64) z0,.v (.int .i64) z1])) []))
 |_,_,_=>none
theorem wqva(k:Nat): DOK Tryz.prog 102 (wqcp k):=by
 intro ps hp R K r h
 have h:wqcp k ps hp K=some r:=h
 unfold wqcp at h
 split at h
 ·rw[←wq1f3]at h
  exact fnW_ok ⟨tyT_ok,CTab.nil_ok,fun _ _=>rfl⟩ mixed (by kernel_rfl) (by kernel_rfl) h fun o ho=>by unfold wq11a at ho;split at ho<;>first|exact ho|cases ho
 ·cases h
end Go.Proofs.YtabkhphoacmcdaaGreatDoor.Pvm
end
noncomputable section
namespace Go.Proofs.YtabkhphoacmcdaaGreatDoor.Pvm
open Go Go.Proofs
def wqo6:List LS:=[.obj 1 [.sl kdT156,.own 21 73 kdT72],.any,.any]
def wqn1{R:Type}(K:((List dT156)→(List dT72)→Bool→Option R)): Out→Option R
 |.ret [.v .bool y2] [(21,.row 73 (.pr (.int .i64) (.pr (.int .i64) (.pr .str (.pr .bool (.pr (.sl .str) (.sl (.int .i64))))))) y1),(1,.var 155 [.v (.sl (.pr (.int .i64) (.pr (.int .i64) (.pr (.int .i64) (.pr .str .bool))))) y0,.row 21])]=>K y0 y1 y2
 |_=>none
def wq145:RetSpec:=⟨[.any],[(1,.obj 1 [.sl (.pr (.int .i64) (.pr (.int .i64) (.pr (.int .i64) (.pr .str .bool)))),.own 21 73 (.pr (.int .i64) (.pr (.int .i64) (.pr .str (.pr .bool (.pr (.sl .str) (.sl (.int .i64)))))))])],[]⟩
def wq146(k:Nat): Ctx:=⟨tyT,[],.nil,[],[1],[],@SH⟩
def wq16s(k:Nat){R:Type}(x0:(List dT156))(x1:(List dT72))(x2 x3:Int)(K:((List dT156)→(List dT72)→Bool→Option R)): Option R:=cond ((!((decide ((x0.length:Int)>0)) == true)) || (inb 0 (x0.length:Int))) (cond ((!((cond (decide ((x0.length:Int)>0)) ((x0.getD (Int.toNat 0) (Kd.zero (@Kd.pr kI (@Kd.pr kI (@Kd.pr kI (@Kd.pr Kd.str Kd.bool)))))).1 == x2) false) == true)) || (inb 0 (x0.length:Int))) (K x0 x1 (cond (cond (decide ((x0.length:Int)>0)) ((x0.getD (Int.toNat 0) (Kd.zero (@Kd.pr kI (@Kd.pr kI (@Kd.pr kI (@Kd.pr Kd.str Kd.bool)))))).1 == x2) false) ((((x0.getD (Int.toNat 0) (Kd.zero (@Kd.pr kI (@Kd.pr kI (@Kd.pr kI (@Kd.pr Kd.str Kd.bool)))))).2).2).1 == x3) false)) none) none
def wqet(k:Nat){R:Type}(x0:(List dT156))(x1:(List dT72))(x2 x3:Int)(K:((List dT156)→(List dT72)→Bool→Option R)): Option R:=wq16s k x0 x1 x2 x3 K
theorem wqz6(k:Nat){R:Type}(x0:(List dT156))(x1:(List dT72))(x2 x3:Int)(K:((List dT156)→(List dT72)→Bool→Option R)): fnW (wq146 k) k Tryz.f197 wq145 [.ptr 1 0,.v kI x2,.v kI x3] [(21,.row 73 kdT72 x1),(1,.var 155 [.v (.sl kdT156) x0,.row 21])] (wqn1 K)=wqet k x0 x1 x2 x3 K:=by
 kernel_rfl
def wq9e(k:Nat){R:Type}: List PV→List (Nm×HObj)→(Out→Option R)→Option R
 |[.ptr 1 0,.v (.int .i64) x2,.v (.int .i64) x3],[(21,.row 73 (.pr (.int .i64) (.pr (.int .i64) (.pr .str (.pr .bool (.pr (.sl .str) (.sl (.int .i64))))))) x1),(1,.var 155 [.v (.sl (.pr (.int .i64) (.pr (.int .i64) (.pr (.int .i64) (.pr .str .bool))))) x0,.row 21])],K=>wqet k x0 x1 x2 x3 (fun y0 y1 y2=>K (.ret [.v .bool y2] [(21,.row 73 (.pr (.int .i64) (.pr (.int .i64) (.pr .str (.pr .bool (.pr (.sl .str) (.sl (.int .i64))))))) y1),(1,.var 155 [.v (.sl (.pr (.int .i64) (.pr (.int .i64) (.pr (.int .i64) (.pr .str .bool))))) y0,.row 21])]))
 |_,_,_=>none
theorem wqs5(k:Nat): DOK Tryz.prog 197 (wq9e k):=by
 intro ps hp R K r h
 have h:wq9e k ps hp K=some r:=h
 unfold wq9e at h
 split at h
 ·rw[←wqz6]at h
  exact fnW_ok ⟨tyT_ok,CTab.nil_ok,fun _ _=>rfl⟩ mixed (by kernel_rfl) (by kernel_rfl) h fun o ho=>by unfold wqn1 at ho;split at ho<;>first|exact ho|cases ho
 ·cases h
end Go.Proofs.YtabkhphoacmcdaaGreatDoor.Pvm
end
noncomputable section
namespace Go.Proofs.YtabkhphoacmcdaaGreatDoor.Pvm
open Go Go.Proofs
def wqgh:List LS:=[.obj 1 [.sl kdT156,.own 21 73 kdT72]]
def wqn2{R:Type}(K:((List dT156)→(List dT72)→Int→Int→Int→(List UInt8)→Bool→Option R)): Out→Option R
 |.ret [.agg [.v (.int .i64) y2,.v (.int .i64) y3,.v (.int .i64) y4,.v .str y5,.v .bool y6]] [(21,.row 73 (.pr (.int .i64) (.pr (.int .i64) (.pr .str (.pr .bool (.pr (.sl .str) (.sl (.int .i64))))))) y1),(1,.var 155 [.v (.sl (.pr (.int .i64) (.pr (.int .i64) (.pr (.int .i64) (.pr .str .bool))))) y0,.row 21])]=>K y0 y1 y2 y3 y4 y5 y6
 |_=>none
def wq147:RetSpec:=⟨[.ag [.any,.any,.any,.any,.any]],[(1,.obj 1 [.sl (.pr (.int .i64) (.pr (.int .i64) (.pr (.int .i64) (.pr .str .bool)))),.own 21 73 (.pr (.int .i64) (.pr (.int .i64) (.pr .str (.pr .bool (.pr (.sl .str) (.sl (.int .i64)))))))])],[]⟩
def wq148(k:Nat): Ctx:=⟨tyT,[],.nil,[],[1],[],@SH⟩
def wq16t(k:Nat){R:Type}(x0:(List dT156))(x1:(List dT72))(K:((List dT156)→(List dT72)→Int→Int→Int→(List UInt8)→Bool→Option R)): Option R:=cond (inb 0 (x0.length:Int)) (cond (bnd 1 (x0.length:Int) (x0.length:Int)) (K (cut x0 1 (x0.length:Int)) x1 (x0.getD (Int.toNat 0) (Kd.zero (@Kd.pr kI (@Kd.pr kI (@Kd.pr kI (@Kd.pr Kd.str Kd.bool)))))).1 ((x0.getD (Int.toNat 0) (Kd.zero (@Kd.pr kI (@Kd.pr kI (@Kd.pr kI (@Kd.pr Kd.str Kd.bool)))))).2).1 (((x0.getD (Int.toNat 0) (Kd.zero (@Kd.pr kI (@Kd.pr kI (@Kd.pr kI (@Kd.pr Kd.str Kd.bool)))))).2).2).1 ((((x0.getD (Int.toNat 0) (Kd.zero (@Kd.pr kI (@Kd.pr kI (@Kd.pr kI (@Kd.pr Kd.str Kd.bool)))))).2).2).2).1 ((((x0.getD (Int.toNat 0) (Kd.zero (@Kd.pr kI (@Kd.pr kI (@Kd.pr kI (@Kd.pr Kd.str Kd.bool)))))).2).2).2).2) none) none
def wqbd(k:Nat){R:Type}(x0:(List dT156))(x1:(List dT72))(K:((List dT156)→(List dT72)→Int→Int→Int→(List UInt8)→Bool→Option R)): Option R:=wq16t k x0 x1 K
theorem wqz7(k:Nat){R:Type}(x0:(List dT156))(x1:(List dT72))(K:((List dT156)→(List dT72)→Int→Int→Int→(List UInt8)→Bool→Option R)): fnW (wq148 k) k Tryz.f151 wq147 [.ptr 1 0] [(21,.row 73 kdT72 x1),(1,.var 155 [.v (.sl kdT156) x0,.row 21])] (wqn2 K)=wqbd k x0 x1 K:=by
 kernel_rfl
def wq7c(k:Nat){R:Type}: List PV→List (Nm×HObj)→(Out→Option R)→Option R
 |[.ptr 1 0],[(21,.row 73 (.pr (.int .i64) (.pr (.int .i64) (.pr .str (.pr .bool (.pr (.sl .str) (.sl (.int .i64))))))) x1),(1,.var 155 [.v (.sl (.pr (.int .i64) (.pr (.int .i64) (.pr (.int .i64) (.pr .str .bool))))) x0,.row 21])],K=>wqbd k x0 x1 (fun y0 y1 y2 y3 y4 y5 y6=>K (.ret [.agg [.v (.int .i64) y2,.v (.int .i64) y3,.v (.int .i64) y4,.v .str y5,.v .bool y6]] [(21,.row 73 (.pr (.int .i64) (.pr (.int .i64) (.pr .str (.pr .bool (.pr (.sl .str) (.sl (.int .i64))))))) y1),(1,.var 155 [.v (.sl (.pr (.int .i64) (.pr (.int .i64) (.pr (.int .i64) (.pr .str .bool))))) y0,.row 21])]))
 |_,_,_=>none
theorem wqjy(k:Nat): DOK Tryz.prog 151 (wq7c k):=by
 intro ps hp R K r h
 have h:wq7c k ps hp K=some r:=h
 unfold wq7c at h
 split at h
 ·rw[←wqz7]at h
  exact fnW_ok ⟨tyT_ok,CTab.nil_ok,fun _ _=>rfl⟩ mixed (by kernel_rfl) (by kernel_rfl) h fun o ho=>by unfold wqn2 at ho;split at ho<;>first|exact ho|cases ho
 ·cases h
end Go.Proofs.YtabkhphoacmcdaaGreatDoor.Pvm
end
noncomputable section
namespace Go.Proofs.YtabkhphoacmcdaaGreatDoor.Pvm
open Go Go.Proofs
abbrev wq1t:Type 1:=(R:Type)→(List dT156)→(List dT72)→Int→((List dT156)→(List dT72)→Int→Option R)→((List dT156)→(List dT72)→Int→Int→Option R)→Option R
abbrev wq22:Type 1:=(R:Type)→(List dT156)→(List dT72)→Int→Int→Int→((List dT156)→(List dT72)→Option R)→((List dT156)→(List dT72)→Int→Int→Option R)→Option R
abbrev wq1u:Type 1:=(R:Type)→(List dT156)→(List dT72)→Int→Int→Int→((List dT156)→(List dT72)→Option R)→((List dT156)→(List dT72)→Int→Int→Option R)→Option R
abbrev wq1v:Type 1:=(R:Type)→(List dT156)→(List dT72)→Int→Int→Int→(List UInt8)→Bool→Int→((List dT156)→(List dT72)→Int→Option R)→((List dT156)→(List dT72)→Int→Int→Option R)→Option R
abbrev wqx(R:Type): Type:=((List dT156)→(List dT72)→Int→Int→Option R)
abbrev wq2o(R:Type): Type:=((List dT156)→(List dT72)→Option R)
def wqn3:List LS:=[.obj 1 [.sl kdT156,.own 21 73 kdT72],.any]
def wqkh(wqb:wq1t){R:Type}: List PV→List (Nm×HObj)→(Out→Option R)→Option R
 |[.ptr 1 0,.v (.int .i64) x2],[(21,.row 73 (.pr (.int .i64) (.pr (.int .i64) (.pr .str (.pr .bool (.pr (.sl .str) (.sl (.int .i64))))))) x1),(1,.var 155 [.v (.sl (.pr (.int .i64) (.pr (.int .i64) (.pr (.int .i64) (.pr .str .bool))))) x0,.row 21])],K=>wqb R x0 x1 x2 (fun y0 y1 y2=>K (.ret [.v (.int .i64) y2] [(21,.row 73 (.pr (.int .i64) (.pr (.int .i64) (.pr .str (.pr .bool (.pr (.sl .str) (.sl (.int .i64))))))) y1),(1,.var 155 [.v (.sl (.pr (.int .i64) (.pr (.int .i64) (.pr (.int .i64) (.pr .str .bool))))) y0,.row 21])])) (fun z0 z1 z2 z3=>K (.pan (.ifc 29 (.agg [.v (.int .i64) z2,.v (.int .i64) z3])) [(21,.row 73 (.pr (.int .i64) (.pr (.int .i64) (.pr .str (.pr .bool (.pr (.sl .str) (.sl (.int .i64))))))) z1),(1,.var 155 [.v (.sl (.pr (.int .i64) (.pr (.int .i64) (.pr (.int .i64) (.pr .str .bool))))) z0,.row 21])]))
 |_,_,_=>none
def wq11b:List LS:=[.obj 1 [.sl kdT156,.own 21 73 kdT72],.any,.any,.any]
def wqn4(wqf:wq22){R:Type}: List PV→List (Nm×HObj)→(Out→Option R)→Option R
 |[.ptr 1 0,.v (.int .i64) x2,.v (.int .i64) x3,.v (.int .i64) x4],[(21,.row 73 (.pr (.int .i64) (.pr (.int .i64) (.pr .str (.pr .bool (.pr (.sl .str) (.sl (.int .i64))))))) x1),(1,.var 155 [.v (.sl (.pr (.int .i64) (.pr (.int .i64) (.pr (.int .i64) (.pr .str .bool))))) x0,.row 21])],K=>wqf R x0 x1 x2 x3 x4 (fun y0 y1=>K (.ret [] [(21,.row 73 (.pr (.int .i64) (.pr (.int .i64) (.pr .str (.pr .bool (.pr (.sl .str) (.sl (.int .i64))))))) y1),(1,.var 155 [.v (.sl (.pr (.int .i64) (.pr (.int .i64) (.pr (.int .i64) (.pr .str .bool))))) y0,.row 21])])) (fun z0 z1 z2 z3=>K (.pan (.ifc 29 (.agg [.v (.int .i64) z2,.v (.int .i64) z3])) [(21,.row 73 (.pr (.int .i64) (.pr (.int .i64) (.pr .str (.pr .bool (.pr (.sl .str) (.sl (.int .i64))))))) z1),(1,.var 155 [.v (.sl (.pr (.int .i64) (.pr (.int .i64) (.pr (.int .i64) (.pr .str .bool))))) z0,.row 21])]))
 |_,_,_=>none
def wqz8:List LS:=[.obj 1 [.sl kdT156,.own 21 73 kdT72],.any,.any,.any]
def wqki(wqc:wq1u){R:Type}: List PV→List (Nm×HObj)→(Out→Option R)→Option R
 |[.ptr 1 0,.v (.int .i64) x2,.v (.int .i64) x3,.v (.int .i64) x4],[(21,.row 73 (.pr (.int .i64) (.pr (.int .i64) (.pr .str (.pr .bool (.pr (.sl .str) (.sl (.int .i64))))))) x1),(1,.var 155 [.v (.sl (.pr (.int .i64) (.pr (.int .i64) (.pr (.int .i64) (.pr .str .bool))))) x0,.row 21])],K=>wqc R x0 x1 x2 x3 x4 (fun y0 y1=>K (.ret [] [(21,.row 73 (.pr (.int .i64) (.pr (.int .i64) (.pr .str (.pr .bool (.pr (.sl .str) (.sl (.int .i64))))))) y1),(1,.var 155 [.v (.sl (.pr (.int .i64) (.pr (.int .i64) (.pr (.int .i64) (.pr .str .bool))))) y0,.row 21])])) (fun z0 z1 z2 z3=>K (.pan (.ifc 29 (.agg [.v (.int .i64) z2,.v (.int .i64) z3])) [(21,.row 73 (.pr (.int .i64) (.pr (.int .i64) (.pr .str (.pr .bool (.pr (.sl .str) (.sl (.int .i64))))))) z1),(1,.var 155 [.v (.sl (.pr (.int .i64) (.pr (.int .i64) (.pr (.int .i64) (.pr .str .bool))))) z0,.row 21])]))
 |_,_,_=>none
def wqn5:List LS:=[.obj 1 [.sl kdT156,.own 21 73 kdT72],.ag [.any,.any,.any,.any,.any],.any]
def wq9y(wq8:wq1v){R:Type}: List PV→List (Nm×HObj)→(Out→Option R)→Option R
 |[.ptr 1 0,.agg [.v (.int .i64) x2,.v (.int .i64) x3,.v (.int .i64) x4,.v .str x5,.v .bool x6],.v (.int .i64) x7],[(21,.row 73 (.pr (.int .i64) (.pr (.int .i64) (.pr .str (.pr .bool (.pr (.sl .str) (.sl (.int .i64))))))) x1),(1,.var 155 [.v (.sl (.pr (.int .i64) (.pr (.int .i64) (.pr (.int .i64) (.pr .str .bool))))) x0,.row 21])],K=>wq8 R x0 x1 x2 x3 x4 x5 x6 x7 (fun y0 y1 y2=>K (.ret [.v (.int .i64) y2] [(21,.row 73 (.pr (.int .i64) (.pr (.int .i64) (.pr .str (.pr .bool (.pr (.sl .str) (.sl (.int .i64))))))) y1),(1,.var 155 [.v (.sl (.pr (.int .i64) (.pr (.int .i64) (.pr (.int .i64) (.pr .str .bool))))) y0,.row 21])])) (fun z0 z1 z2 z3=>K (.pan (.ifc 29 (.agg [.v (.int .i64) z2,.v (.int .i64) z3])) [(21,.row 73 (.pr (.int .i64) (.pr (.int .i64) (.pr .str (.pr .bool (.pr (.sl .str) (.sl (.int .i64))))))) z1),(1,.var 155 [.v (.sl (.pr (.int .i64) (.pr (.int .i64) (.pr (.int .i64) (.pr .str .bool))))) z0,.row 21])]))
 |_,_,_=>none
def wqkj{R:Type}(K:((List dT156)→(List dT72)→Int→Option R))(E:wqx R): Out→Option R
 |.ret [.v (.int .i64) y2] [(21,.row 73 (.pr (.int .i64) (.pr (.int .i64) (.pr .str (.pr .bool (.pr (.sl .str) (.sl (.int .i64))))))) y1),(1,.var 155 [.v (.sl (.pr (.int .i64) (.pr (.int .i64) (.pr (.int .i64) (.pr .str .bool))))) y0,.row 21])]=>K y0 y1 y2
 |.pan (.ifc 29 (.agg [.v (.int .i64) z2,.v (.int .i64) z3])) [(21,.row 73 (.pr (.int .i64) (.pr (.int .i64) (.pr .str (.pr .bool (.pr (.sl .str) (.sl (.int .i64))))))) z1),(1,.var 155 [.v (.sl (.pr (.int .i64) (.pr (.int .i64) (.pr (.int .i64) (.pr .str .bool))))) z0,.row 21])]=>E z0 z1 z2 z3
 |_=>none
def wq11c:RetSpec:=⟨[.any],[(1,.obj 1 [.sl (.pr (.int .i64) (.pr (.int .i64) (.pr (.int .i64) (.pr .str .bool)))),.own 21 73 (.pr (.int .i64) (.pr (.int .i64) (.pr .str (.pr .bool (.pr (.sl .str) (.sl (.int .i64)))))))])],[(1,.obj 1 [.sl (.pr (.int .i64) (.pr (.int .i64) (.pr (.int .i64) (.pr .str .bool)))),.own 21 73 (.pr (.int .i64) (.pr (.int .i64) (.pr .str (.pr .bool (.pr (.sl .str) (.sl (.int .i64)))))))])]⟩
def wq11d(k:Nat)(wqb:wq1t)(wqf:wq22)(wqc:wq1u)(wq8:wq1v): Ctx:=⟨tyT,[],(.add 102 wqo5 (wqcp k) (.add 151 wqgh (wq7c k) (.add 152 wq11b (wqn4 wqf) (.add 153 wqz8 (wqki wqc) .nil)))),[],[1],[(9,(.of [(0,1),(1,1),(2,1),(3,1),(4,1),(6,1),(5,1),(7,1),(8,1),(9,0),(10,0),(11,1),(12,1),(13,1),(14,0)] .done)),(14,(.of [(0,1),(1,1),(2,1),(3,1),(5,1),(6,1),(8,1),(10,1),(4,1),(7,1),(9,1),(11,1),(12,1),(13,1),(14,0)] .done))],@SH⟩
def wq149(k:Nat)(wqb:wq1t)(wqf:wq22)(wqc:wq1u)(wq8:wq1v){R:Type}(x0:(List dT156))(x1:(List dT72))(x2:Int)(K:((List dT156)→(List dT72)→Int→Option R))(E:wqx R): Option R:=cond (inb 0 (x0.length:Int)) (cond (cond (decide ((x0.getD (Int.toNat 0) (Kd.zero (@Kd.pr kI (@Kd.pr kI (@Kd.pr kI (@Kd.pr Kd.str Kd.bool)))))).1<1)) true (decide ((x0.getD (Int.toNat 0) (Kd.zero (@Kd.pr kI (@Kd.pr kI (@Kd.pr kI (@Kd.pr Kd.str Kd.bool)))))).1>3))) (wqda k 6 ((x0.getD (Int.toNat 0) (Kd.zero (@Kd.pr kI (@Kd.pr kI (@Kd.pr kI (@Kd.pr Kd.str Kd.bool)))))).2).1 (fun y7 y8=>E x0 x1 y7 y8)) (cond (decide (x2>24)) (wqda k 8 ((x0.getD (Int.toNat 0) (Kd.zero (@Kd.pr kI (@Kd.pr kI (@Kd.pr kI (@Kd.pr Kd.str Kd.bool)))))).2).1 (fun y7 y8=>E x0 x1 y7 y8)) (cond (decide ((x1.length:Int)≥2000)) (wqda k 9 ((x0.getD (Int.toNat 0) (Kd.zero (@Kd.pr kI (@Kd.pr kI (@Kd.pr kI (@Kd.pr Kd.str Kd.bool)))))).2).1 (fun y7 y8=>E x0 x1 y7 y8)) (cond (fits x1.length (@List.length (@Kd.T (@Kd.pr kI (@Kd.pr kI (@Kd.pr Kd.str (@Kd.pr Kd.bool (@Kd.pr (@Kd.sl Kd.str) (@Kd.sl kI))))))) [((0:(@Kd.T kI)),(((x0.getD (Int.toNat 0) (Kd.zero (@Kd.pr kI (@Kd.pr kI (@Kd.pr kI (@Kd.pr Kd.str Kd.bool)))))).2).1,([],(false,([],[])))))]) 88) (cond ((x0.getD (Int.toNat 0) (Kd.zero (@Kd.pr kI (@Kd.pr kI (@Kd.pr kI (@Kd.pr Kd.str Kd.bool)))))).1 == 3) (wqbd k x0 (x1++[(0,(((x0.getD (Int.toNat 0) (Kd.zero (@Kd.pr kI (@Kd.pr kI (@Kd.pr kI (@Kd.pr Kd.str Kd.bool)))))).2).1,([],(false,([],[])))))]) (fun y7 y8 y9 y10 y11 y12 y13=>cond (inb (x1.length:Int) (y8.length:Int)) (@SH (@List (@Kd.T (@Kd.pr kI (@Kd.pr kI (@Kd.pr Kd.str (@Kd.pr Kd.bool (@Kd.pr (@Kd.sl Kd.str) (@Kd.sl kI)))))))) R (List.set y8 (x1.length:Int).toNat (1,(((x0.getD (Int.toNat 0) (Kd.zero (@Kd.pr kI (@Kd.pr kI (@Kd.pr kI (@Kd.pr Kd.str Kd.bool)))))).2).1,(((((x0.getD (Int.toNat 0) (Kd.zero (@Kd.pr kI (@Kd.pr kI (@Kd.pr kI (@Kd.pr Kd.str Kd.bool)))))).2).2).2).1,(((((x0.getD (Int.toNat 0) (Kd.zero (@Kd.pr kI (@Kd.pr kI (@Kd.pr kI (@Kd.pr Kd.str Kd.bool)))))).2).2).2).2,([],[])))))) (fun y14=>K y7 y14 (x1.length:Int))) none)) (cond ((x0.getD (Int.toNat 0) (Kd.zero (@Kd.pr kI (@Kd.pr kI (@Kd.pr kI (@Kd.pr Kd.str Kd.bool)))))).1 == 1) (wqf R x0 (x1++[(0,(((x0.getD (Int.toNat 0) (Kd.zero (@Kd.pr kI (@Kd.pr kI (@Kd.pr kI (@Kd.pr Kd.str Kd.bool)))))).2).1,([],(false,([],[])))))]) (x1.length:Int) (((x0.getD (Int.toNat 0) (Kd.zero (@Kd.pr kI (@Kd.pr kI (@Kd.pr kI (@Kd.pr Kd.str Kd.bool)))))).2).2).1 x2 (fun y7 y8=>K y7 y8 (x1.length:Int)) E) (wqc R x0 (x1++[(0,(((x0.getD (Int.toNat 0) (Kd.zero (@Kd.pr kI (@Kd.pr kI (@Kd.pr kI (@Kd.pr Kd.str Kd.bool)))))).2).1,([],(false,([],[])))))]) (x1.length:Int) (((x0.getD (Int.toNat 0) (Kd.zero (@Kd.pr kI (@Kd.pr kI (@Kd.pr kI (@Kd.pr Kd.str Kd.bool)))))).2).2).1 x2 (fun y7 y8=>K y7 y8 (x1.length:Int)) E))) none)))) none
def wqb0{R:Type}(K:wq2o R)(E:wqx R): Out→Option R
 |.ret [] [(21,.row 73 (.pr (.int .i64) (.pr (.int .i64) (.pr .str (.pr .bool (.pr (.sl .str) (.sl (.int .i64))))))) y1),(1,.var 155 [.v (.sl (.pr (.int .i64) (.pr (.int .i64) (.pr (.int .i64) (.pr .str .bool))))) y0,.row 21])]=>K y0 y1
 |.pan (.ifc 29 (.agg [.v (.int .i64) z2,.v (.int .i64) z3])) [(21,.row 73 (.pr (.int .i64) (.pr (.int .i64) (.pr .str (.pr .bool (.pr (.sl .str) (.sl (.int .i64))))))) z1),(1,.var 155 [.v (.sl (.pr (.int .i64) (.pr (.int .i64) (.pr (.int .i64) (.pr .str .bool))))) z0,.row 21])]=>E z0 z1 z2 z3
 |_=>none
def wqhs:RetSpec:=⟨[],[(1,.obj 1 [.sl (.pr (.int .i64) (.pr (.int .i64) (.pr (.int .i64) (.pr .str .bool)))),.own 21 73 (.pr (.int .i64) (.pr (.int .i64) (.pr .str (.pr .bool (.pr (.sl .str) (.sl (.int .i64)))))))])],[(1,.obj 1 [.sl (.pr (.int .i64) (.pr (.int .i64) (.pr (.int .i64) (.pr .str .bool)))),.own 21 73 (.pr (.int .i64) (.pr (.int .i64) (.pr .str (.pr .bool (.pr (.sl .str) (.sl (.int .i64)))))))])]⟩
def wqht(k:Nat)(wqb:wq1t)(wqf:wq22)(wqc:wq1u)(wq8:wq1v): Ctx:=⟨tyT,[(1001,⟨[(0,.obj 1 [.sl kdT156,.own 21 73 kdT72]),(1,.any),(2,.any),(3,.any),(8,.own 100008 3 kI)],[(1,.obj 1 [.sl kdT156,.own 21 73 kdT72])]⟩)],(.add 151 wqgh (wq7c k) (.add 197 wqo6 (wq9e k) (.add 198 wqn5 (wq9y wq8) .nil))),[],[1],[(3,(.of [(0,1),(1,1),(2,1),(3,1),(5,1),(6,1),(7,1),(8,1),(9,1),(11,1),(12,1),(4,1),(10,1),(13,1),(14,1),(15,0),(16,1),(17,1),(18,0)] .done))],@SH⟩
def wq8s(s0:(List dT156))(s1:(List dT72))(s2 s3 s4:Int)(s5:(List Int)): St:=⟨mkT [(0,.ptr 1 0),(1,.v kI s2),(2,.v kI s3),(3,.v kI s4),(8,.row 100008)],mkH [(21,.row 73 kdT72 s1),(1,.var 155 [.v (.sl kdT156) s0,.row 21]),(100008,.row 3 kI s5)]⟩
def wqcq(k:Nat)(wqb:wq1t)(wqf:wq22)(wqc:wq1u)(wq8:wq1v){R:Type}(I:Nat→St→Option R)(n:Nat)(s:St)(K:wq2o R)(E:wqx R): Option R:=loopK (wqht k wqb wqf wqc wq8) k Tryz.f152 wqhs 1001 [1,0,0] I n s (wqb0 K E)
def wqja(k:Nat)(wqb:wq1t)(wqf:wq22)(wqc:wq1u)(wq8:wq1v){R:Type}(E1001:((List dT156)→(List dT72)→Int→Int→Int→(List Int)→Option R))(s0:(List dT156))(s1:(List dT72))(s2 s3 s4:Int)(s5:(List Int))(K:wq2o R)(E:wqx R): Option R:=wqet k s0 s1 1 s3 (fun y11 y12 y13=>cond y13 (wqbd k y11 y12 (fun y14 y15 y16 y17 y18 y19 y20=>wq8 R y14 y15 y16 y17 y18 y19 y20 s4 (fun y21 y22 y23=>cond (fits s5.length (@List.length (@Kd.T kI) [y23]) 8) (E1001 y21 y22 s2 s3 s4 (s5++[y23])) none) E)) (cond (inb s2 (y12.length:Int)) (@SH (@List (@Kd.T (@Kd.pr kI (@Kd.pr kI (@Kd.pr Kd.str (@Kd.pr Kd.bool (@Kd.pr (@Kd.sl Kd.str) (@Kd.sl kI)))))))) R (List.set y12 s2.toNat (2,(((y12.getD s2.toNat (Kd.zero (@Kd.pr kI (@Kd.pr kI (@Kd.pr Kd.str (@Kd.pr Kd.bool (@Kd.pr (@Kd.sl Kd.str) (@Kd.sl kI)))))))).2).1,((((y12.getD s2.toNat (Kd.zero (@Kd.pr kI (@Kd.pr kI (@Kd.pr Kd.str (@Kd.pr Kd.bool (@Kd.pr (@Kd.sl Kd.str) (@Kd.sl kI)))))))).2).2).1,(((((y12.getD s2.toNat (Kd.zero (@Kd.pr kI (@Kd.pr kI (@Kd.pr Kd.str (@Kd.pr Kd.bool (@Kd.pr (@Kd.sl Kd.str) (@Kd.sl kI)))))))).2).2).2).1,((((((y12.getD s2.toNat (Kd.zero (@Kd.pr kI (@Kd.pr kI (@Kd.pr Kd.str (@Kd.pr Kd.bool (@Kd.pr (@Kd.sl Kd.str) (@Kd.sl kI)))))))).2).2).2).2).1,(((((y12.getD s2.toNat (Kd.zero (@Kd.pr kI (@Kd.pr kI (@Kd.pr Kd.str (@Kd.pr Kd.bool (@Kd.pr (@Kd.sl Kd.str) (@Kd.sl kI)))))))).2).2).2).2).2)))))) (fun y14=>cond (inb s2 (y14.length:Int)) (@SH (@List (@Kd.T (@Kd.pr kI (@Kd.pr kI (@Kd.pr Kd.str (@Kd.pr Kd.bool (@Kd.pr (@Kd.sl Kd.str) (@Kd.sl kI)))))))) R (List.set y14 s2.toNat ((y14.getD s2.toNat (Kd.zero (@Kd.pr kI (@Kd.pr kI (@Kd.pr Kd.str (@Kd.pr Kd.bool (@Kd.pr (@Kd.sl Kd.str) (@Kd.sl kI)))))))).1,(((y14.getD s2.toNat (Kd.zero (@Kd.pr kI (@Kd.pr kI (@Kd.pr Kd.str (@Kd.pr Kd.bool (@Kd.pr (@Kd.sl Kd.str) (@Kd.sl kI)))))))).2).1,((((y14.getD s2.toNat (Kd.zero (@Kd.pr kI (@Kd.pr kI (@Kd.pr Kd.str (@Kd.pr Kd.bool (@Kd.pr (@Kd.sl Kd.str) (@Kd.sl kI)))))))).2).2).1,(((((y14.getD s2.toNat (Kd.zero (@Kd.pr kI (@Kd.pr kI (@Kd.pr Kd.str (@Kd.pr Kd.bool (@Kd.pr (@Kd.sl Kd.str) (@Kd.sl kI)))))))).2).2).2).1,((((((y14.getD s2.toNat (Kd.zero (@Kd.pr kI (@Kd.pr kI (@Kd.pr Kd.str (@Kd.pr Kd.bool (@Kd.pr (@Kd.sl Kd.str) (@Kd.sl kI)))))))).2).2).2).2).1,s5)))))) (fun y15=>K y11 y15)) none)) none))
theorem wqpw(k:Nat)(wqb:wq1t)(wqf:wq22)(wqc:wq1u)(wq8:wq1v){R:Type}(I:Nat→St→Option R)(s0:(List dT156))(s1:(List dT72))(s2 s3 s4:Int)(s5:(List Int))(K:wq2o R)(E:wqx R): bodyK (wqht k wqb wqf wqc wq8) k Tryz.f152 wqhs [1,0,0,0] I (wq8s s0 s1 s2 s3 s4 s5) (wqb0 K E)=wqja k wqb wqf wqc wq8 (fun s0 s1 s2 s3 s4 s5=>I 1001 (wq8s s0 s1 s2 s3 s4 s5)) s0 s1 s2 s3 s4 s5 K E:=by kernel_rfl
def wqs6(k:Nat)(wqb:wq1t)(wqf:wq22)(wqc:wq1u)(wq8:wq1v){R:Type}(E1001:((List dT156)→(List dT72)→Int→Int→Int→(List Int)→Option R))(x0:(List dT156))(x1:(List dT72))(x2 x3 x4:Int)(K:wq2o R)(E:wqx R): Option R:=E1001 x0 x1 x2 x3 x4 []
def wqcr(k:Nat)(wqb:wq1t)(wqf:wq22)(wqc:wq1u)(wq8:wq1v){R:Type}: Nat→(List dT156)→(List dT72)→Int→Int→Int→(List Int)→((List dT156)→(List dT72)→Option R)→((List dT156)→(List dT72)→Int→Int→Option R)→Option R
 |0,_,_,_,_,_,_,_,_=>none
 |n+1,s0,s1,s2,s3,s4,s5,K,E=>wqja k wqb wqf wqc wq8 (fun s0 s1 s2 s3 s4 s5=>wqcr k wqb wqf wqc wq8 n s0 s1 s2 s3 s4 s5 K E) s0 s1 s2 s3 s4 s5 K E
theorem wqpx(k:Nat)(wqb:wq1t)(wqf:wq22)(wqc:wq1u)(wq8:wq1v){R:Type}(I:Nat→St→Option R)(K:wq2o R)(E:wqx R)(n:Nat): ∀(s0:(List dT156)) (s1:(List dT72)) (s2 s3 s4:Int) (s5:(List Int)),wqcq k wqb wqf wqc wq8 I n (wq8s s0 s1 s2 s3 s4 s5) K E=wqcr k wqb wqf wqc wq8 n s0 s1 s2 s3 s4 s5 K E:=by
 induction n with
 |zero=>intros;rfl
 |succ n ih =>
  intro s0 s1 s2 s3 s4 s5
  refine(?_:_=_).trans ((wqpw k wqb wqf wqc wq8 (upI 1001 (fun s=>wqcq k wqb wqf wqc wq8 I n s K E) I) s0 s1 s2 s3 s4 s5 K E).trans ?_)
  ·rfl
  ·simp only[wq43,ih]<;>rfl
def wq9z{R:Type}(K:wq2o R)(E:wqx R): Out→Option R
 |.ret [] [(21,.row 73 (.pr (.int .i64) (.pr (.int .i64) (.pr .str (.pr .bool (.pr (.sl .str) (.sl (.int .i64))))))) y1),(1,.var 155 [.v (.sl (.pr (.int .i64) (.pr (.int .i64) (.pr (.int .i64) (.pr .str .bool))))) y0,.row 21])]=>K y0 y1
 |.pan (.ifc 29 (.agg [.v (.int .i64) z2,.v (.int .i64) z3])) [(21,.row 73 (.pr (.int .i64) (.pr (.int .i64) (.pr .str (.pr .bool (.pr (.sl .str) (.sl (.int .i64))))))) z1),(1,.var 155 [.v (.sl (.pr (.int .i64) (.pr (.int .i64) (.pr (.int .i64) (.pr .str .bool))))) z0,.row 21])]=>E z0 z1 z2 z3
 |_=>none
def wqgi:RetSpec:=⟨[],[(1,.obj 1 [.sl (.pr (.int .i64) (.pr (.int .i64) (.pr (.int .i64) (.pr .str .bool)))),.own 21 73 (.pr (.int .i64) (.pr (.int .i64) (.pr .str (.pr .bool (.pr (.sl .str) (.sl (.int .i64)))))))])],[(1,.obj 1 [.sl (.pr (.int .i64) (.pr (.int .i64) (.pr (.int .i64) (.pr .str .bool)))),.own 21 73 (.pr (.int .i64) (.pr (.int .i64) (.pr .str (.pr .bool (.pr (.sl .str) (.sl (.int .i64)))))))])]⟩
def wqgj(k:Nat)(wqb:wq1t)(wqf:wq22)(wqc:wq1u)(wq8:wq1v): Ctx:=⟨tyT,[(1002,⟨[(0,.obj 1 [.sl kdT156,.own 21 73 kdT72]),(1,.any),(2,.any),(3,.any),(8,.own 100008 9 .str),(9,.own 100009 3 kI)],[(1,.obj 1 [.sl kdT156,.own 21 73 kdT72])]⟩)],(.add 102 wqo5 (wqcp k) (.add 113 wq8v (wq3g k) (.add 151 wqgh (wq7c k) (.add 197 wqo6 (wq9e k) (.add 198 wqn5 (wq9y wq8) .nil))))),[],[1],[],@SH⟩
def wq7x(s0:(List dT156))(s1:(List dT72))(s2 s3 s4:Int)(s5:(List (List UInt8)))(s6:(List Int)): St:=⟨mkT [(0,.ptr 1 0),(1,.v kI s2),(2,.v kI s3),(3,.v kI s4),(8,.row 100008),(9,.row 100009)],mkH [(21,.row 73 kdT72 s1),(1,.var 155 [.v (.sl kdT156) s0,.row 21]),(100008,.row 9 .str s5),(100009,.row 3 kI s6)]⟩
def wqbr(k:Nat)(wqb:wq1t)(wqf:wq22)(wqc:wq1u)(wq8:wq1v){R:Type}(I:Nat→St→Option R)(n:Nat)(s:St)(K:wq2o R)(E:wqx R): Option R:=loopK (wqgj k wqb wqf wqc wq8) k Tryz.f153 wqgi 1002 [1,1,0,0] I n s (wq9z K E)
def wqhf(k:Nat)(wqb:wq1t)(wqf:wq22)(wqc:wq1u)(wq8:wq1v){R:Type}(E1002:((List dT156)→(List dT72)→Int→Int→Int→(List (List UInt8))→(List Int)→Option R))(s0:(List dT156))(s1:(List dT72))(s2 s3 s4:Int)(s5:(List (List UInt8)))(s6:(List Int))(K:wq2o R)(E:wqx R): Option R:=wqet k s0 s1 2 s3 (fun y12 y13 y14=>cond y14 (wqbd k y12 y13 (fun y15 y16 y17 y18 y19 y20 y21=>wq4p k s5 y20 (fun y22=>cond y22 (wqda k 7 y18 (fun y23 y24=>E y15 y16 y23 y24)) (cond (fits s5.length (@List.length (@Kd.T Kd.str) [y20]) 16) (wq8 R y15 y16 y17 y18 y19 y20 y21 s4 (fun y23 y24 y25=>cond (fits s6.length (@List.length (@Kd.T kI) [y25]) 8) (E1002 y23 y24 s2 s3 s4 (s5++[y20]) (s6++[y25])) none) E) none)))) (cond (inb s2 (y13.length:Int)) (@SH (@List (@Kd.T (@Kd.pr kI (@Kd.pr kI (@Kd.pr Kd.str (@Kd.pr Kd.bool (@Kd.pr (@Kd.sl Kd.str) (@Kd.sl kI)))))))) R (List.set y13 s2.toNat (3,(((y13.getD s2.toNat (Kd.zero (@Kd.pr kI (@Kd.pr kI (@Kd.pr Kd.str (@Kd.pr Kd.bool (@Kd.pr (@Kd.sl Kd.str) (@Kd.sl kI)))))))).2).1,((((y13.getD s2.toNat (Kd.zero (@Kd.pr kI (@Kd.pr kI (@Kd.pr Kd.str (@Kd.pr Kd.bool (@Kd.pr (@Kd.sl Kd.str) (@Kd.sl kI)))))))).2).2).1,(((((y13.getD s2.toNat (Kd.zero (@Kd.pr kI (@Kd.pr kI (@Kd.pr Kd.str (@Kd.pr Kd.bool (@Kd.pr (@Kd.sl Kd.str) (@Kd.sl kI)))))))).2).2).2).1,((((((y13.getD s2.toNat (Kd.zero (@Kd.pr kI (@Kd.pr kI (@Kd.pr Kd.str (@Kd.pr Kd.bool (@Kd.pr (@Kd.sl Kd.str) (@Kd.sl kI)))))))).2).2).2).2).1,(((((y13.getD s2.toNat (Kd.zero (@Kd.pr kI (@Kd.pr kI (@Kd.pr Kd.str (@Kd.pr Kd.bool (@Kd.pr (@Kd.sl Kd.str) (@Kd.sl kI)))))))).2).2).2).2).2)))))) (fun y15=>@SH (@List (@Kd.T (@Kd.pr kI (@Kd.pr kI (@Kd.pr Kd.str (@Kd.pr Kd.bool (@Kd.pr (@Kd.sl Kd.str) (@Kd.sl kI)))))))) R (List.set y15 s2.toNat ((y15.getD s2.toNat (Kd.zero (@Kd.pr kI (@Kd.pr kI (@Kd.pr Kd.str (@Kd.pr Kd.bool (@Kd.pr (@Kd.sl Kd.str) (@Kd.sl kI)))))))).1,(((y15.getD s2.toNat (Kd.zero (@Kd.pr kI (@Kd.pr kI (@Kd.pr Kd.str (@Kd.pr Kd.bool (@Kd.pr (@Kd.sl Kd.str) (@Kd.sl kI)))))))).2).1,((((y15.getD s2.toNat (Kd.zero (@Kd.pr kI (@Kd.pr kI (@Kd.pr Kd.str (@Kd.pr Kd.bool (@Kd.pr (@Kd.sl Kd.str) (@Kd.sl kI)))))))).2).2).1,(((((y15.getD s2.toNat (Kd.zero (@Kd.pr kI (@Kd.pr kI (@Kd.pr Kd.str (@Kd.pr Kd.bool (@Kd.pr (@Kd.sl Kd.str) (@Kd.sl kI)))))))).2).2).2).1,(s5,(((((y15.getD s2.toNat (Kd.zero (@Kd.pr kI (@Kd.pr kI (@Kd.pr Kd.str (@Kd.pr Kd.bool (@Kd.pr (@Kd.sl Kd.str) (@Kd.sl kI)))))))).2).2).2).2).2)))))) (fun y16=>@SH (@List (@Kd.T (@Kd.pr kI (@Kd.pr kI (@Kd.pr Kd.str (@Kd.pr Kd.bool (@Kd.pr (@Kd.sl Kd.str) (@Kd.sl kI)))))))) R (List.set y16 s2.toNat ((y16.getD s2.toNat (Kd.zero (@Kd.pr kI (@Kd.pr kI (@Kd.pr Kd.str (@Kd.pr Kd.bool (@Kd.pr (@Kd.sl Kd.str) (@Kd.sl kI)))))))).1,(((y16.getD s2.toNat (Kd.zero (@Kd.pr kI (@Kd.pr kI (@Kd.pr Kd.str (@Kd.pr Kd.bool (@Kd.pr (@Kd.sl Kd.str) (@Kd.sl kI)))))))).2).1,((((y16.getD s2.toNat (Kd.zero (@Kd.pr kI (@Kd.pr kI (@Kd.pr Kd.str (@Kd.pr Kd.bool (@Kd.pr (@Kd.sl Kd.str) (@Kd.sl kI)))))))).2).2).1,(((((y16.getD s2.toNat (Kd.zero (@Kd.pr kI (@Kd.pr kI (@Kd.pr Kd.str (@Kd.pr Kd.bool (@Kd.pr (@Kd.sl Kd.str) (@Kd.sl kI)))))))).2).2).2).1,((((((y16.getD s2.toNat (Kd.zero (@Kd.pr kI (@Kd.pr kI (@Kd.pr Kd.str (@Kd.pr Kd.bool (@Kd.pr (@Kd.sl Kd.str) (@Kd.sl kI)))))))).2).2).2).2).1,s6)))))) (fun y17=>K y12 y17)))) none))
theorem wqp4(k:Nat)(wqb:wq1t)(wqf:wq22)(wqc:wq1u)(wq8:wq1v){R:Type}(I:Nat→St→Option R)(s0:(List dT156))(s1:(List dT72))(s2 s3 s4:Int)(s5:(List (List UInt8)))(s6:(List Int))(K:wq2o R)(E:wqx R): bodyK (wqgj k wqb wqf wqc wq8) k Tryz.f153 wqgi [1,1,0,0,0] I (wq7x s0 s1 s2 s3 s4 s5 s6) (wq9z K E)=wqhf k wqb wqf wqc wq8 (fun s0 s1 s2 s3 s4 s5 s6=>I 1002 (wq7x s0 s1 s2 s3 s4 s5 s6)) s0 s1 s2 s3 s4 s5 s6 K E:=by kernel_rfl
def wqpy(k:Nat)(wqb:wq1t)(wqf:wq22)(wqc:wq1u)(wq8:wq1v){R:Type}(E1002:((List dT156)→(List dT72)→Int→Int→Int→(List (List UInt8))→(List Int)→Option R))(x0:(List dT156))(x1:(List dT72))(x2 x3 x4:Int)(K:wq2o R)(E:wqx R): Option R:=E1002 x0 x1 x2 x3 x4 [] []
def wqbs(k:Nat)(wqb:wq1t)(wqf:wq22)(wqc:wq1u)(wq8:wq1v){R:Type}: Nat→(List dT156)→(List dT72)→Int→Int→Int→(List (List UInt8))→(List Int)→((List dT156)→(List dT72)→Option R)→((List dT156)→(List dT72)→Int→Int→Option R)→Option R
 |0,_,_,_,_,_,_,_,_,_=>none
 |n+1,s0,s1,s2,s3,s4,s5,s6,K,E=>wqhf k wqb wqf wqc wq8 (fun s0 s1 s2 s3 s4 s5 s6=>wqbs k wqb wqf wqc wq8 n s0 s1 s2 s3 s4 s5 s6 K E) s0 s1 s2 s3 s4 s5 s6 K E
theorem wqp5(k:Nat)(wqb:wq1t)(wqf:wq22)(wqc:wq1u)(wq8:wq1v){R:Type}(I:Nat→St→Option R)(K:wq2o R)(E:wqx R)(n:Nat): ∀(s0:(List dT156)) (s1:(List dT72)) (s2 s3 s4:Int) (s5:(List (List UInt8))) (s6:(List Int)),wqbr k wqb wqf wqc wq8 I n (wq7x s0 s1 s2 s3 s4 s5 s6) K E=wqbs k wqb wqf wqc wq8 n s0 s1 s2 s3 s4 s5 s6 K E:=by
 induction n with
 |zero=>intros;rfl
 |succ n ih =>
  intro s0 s1 s2 s3 s4 s5 s6
  refine(?_:_=_).trans ((wqp4 k wqb wqf wqc wq8 (upI 1002 (fun s=>wqbr k wqb wqf wqc wq8 I n s K E) I) s0 s1 s2 s3 s4 s5 s6 K E).trans ?_)
  ·rfl
  ·simp only[wq43,ih]<;>rfl
def wqkk{R:Type}(K:((List dT156)→(List dT72)→Int→Option R))(E:wqx R): Out→Option R
 |.ret [.v (.int .i64) y2] [(21,.row 73 (.pr (.int .i64) (.pr (.int .i64) (.pr .str (.pr .bool (.pr (.sl .str) (.sl (.int .i64))))))) y1),(1,.var 155 [.v (.sl (.pr (.int .i64) (.pr (.int .i64) (.pr (.int .i64) (.pr .str .bool))))) y0,.row 21])]=>K y0 y1 y2
 |.pan (.ifc 29 (.agg [.v (.int .i64) z2,.v (.int .i64) z3])) [(21,.row 73 (.pr (.int .i64) (.pr (.int .i64) (.pr .str (.pr .bool (.pr (.sl .str) (.sl (.int .i64))))))) z1),(1,.var 155 [.v (.sl (.pr (.int .i64) (.pr (.int .i64) (.pr (.int .i64) (.pr .str .bool))))) z0,.row 21])]=>E z0 z1 z2 z3
 |_=>none
def wq11e:RetSpec:=⟨[.any],[(1,.obj 1 [.sl (.pr (.int .i64) (.pr (.int .i64) (.pr (.int .i64) (.pr .str .bool)))),.own 21 73 (.pr (.int .i64) (.pr (.int .i64) (.pr .str (.pr .bool (.pr (.sl .str) (.sl (.int .i64)))))))])],[(1,.obj 1 [.sl (.pr (.int .i64) (.pr (.int .i64) (.pr (.int .i64) (.pr .str .bool)))),.own 21 73 (.pr (.int .i64) (.pr (.int .i64) (.pr .str (.pr .bool (.pr (.sl .str) (.sl (.int .i64)))))))])]⟩
def wq11f(k:Nat)(wqb:wq1t)(wqf:wq22)(wqc:wq1u)(wq8:wq1v): Ctx:=⟨tyT,[],(.add 102 wqo5 (wqcp k) (.add 103 wqn3 (wqkh wqb) .nil)),[],[1],[(1,(.of [(0,1),(1,1),(2,1),(3,1),(4,1),(5,1),(6,1),(7,1),(8,1),(9,1),(14,1),(10,1),(11,1),(12,1),(13,1),(15,1),(16,1),(17,1)] .done))],@SH⟩
def wq14a(k:Nat)(wqb:wq1t)(wqf:wq22)(wqc:wq1u)(wq8:wq1v){R:Type}(x0:(List dT156))(x1:(List dT72))(x2 x3 x4:Int)(x5:(List UInt8))(x6:Bool)(x7:Int)(K:((List dT156)→(List dT72)→Int→Option R))(E:wqx R): Option R:=cond ((!(((x0.length:Int) == 0) == false)) || (inb 0 (x0.length:Int))) (cond (cond ((x0.length:Int) == 0) true (decide ((((x0.getD (Int.toNat 0) (Kd.zero (@Kd.pr kI (@Kd.pr kI (@Kd.pr kI (@Kd.pr Kd.str Kd.bool)))))).2).2).1≤x4))) (wqda k 10 x3 (fun y12 y13=>E x0 x1 y12 y13)) (wqb R x0 x1 (@Go.IntKind.wrap Go.IntKind.i64 (x7+1)) K E)) none
mutual
def wq21:Nat→(R:Type)→(List dT156)→(List dT72)→Int→((List dT156)→(List dT72)→Int→Option R)→((List dT156)→(List dT72)→Int→Int→Option R)→Option R
 |0,_,_,_,_,_,_=>none
 |k+1,R,x0,x1,x2,K,E=>wq149 k (wq21 k) (FR_doc_parser_list k) (FR_doc_parser_pairs k) (FR_doc_parser_under k) x0 x1 x2 K E
def FR_doc_parser_list:Nat→(R:Type)→(List dT156)→(List dT72)→Int→Int→Int→((List dT156)→(List dT72)→Option R)→((List dT156)→(List dT72)→Int→Int→Option R)→Option R
 |0,_,_,_,_,_,_,_,_=>none
 |k+1,R,x0,x1,x2,x3,x4,K,E=>wqs6 k (wq21 k) (FR_doc_parser_list k) (FR_doc_parser_pairs k) (FR_doc_parser_under k) (fun s0 s1 s2 s3 s4 s5=>wqcr k (wq21 k) (FR_doc_parser_list k) (FR_doc_parser_pairs k) (FR_doc_parser_under k) k s0 s1 s2 s3 s4 s5 K E) x0 x1 x2 x3 x4 K E
def FR_doc_parser_pairs:Nat→(R:Type)→(List dT156)→(List dT72)→Int→Int→Int→((List dT156)→(List dT72)→Option R)→((List dT156)→(List dT72)→Int→Int→Option R)→Option R
 |0,_,_,_,_,_,_,_,_=>none
 |k+1,R,x0,x1,x2,x3,x4,K,E=>wqpy k (wq21 k) (FR_doc_parser_list k) (FR_doc_parser_pairs k) (FR_doc_parser_under k) (fun s0 s1 s2 s3 s4 s5 s6=>wqbs k (wq21 k) (FR_doc_parser_list k) (FR_doc_parser_pairs k) (FR_doc_parser_under k) k s0 s1 s2 s3 s4 s5 s6 K E) x0 x1 x2 x3 x4 K E
def FR_doc_parser_under:Nat→(R:Type)→(List dT156)→(List dT72)→Int→Int→Int→(List UInt8)→Bool→Int→((List dT156)→(List dT72)→Int→Option R)→((List dT156)→(List dT72)→Int→Int→Option R)→Option R
 |0,_,_,_,_,_,_,_,_,_,_,_=>none
 |k+1,R,x0,x1,x2,x3,x4,x5,x6,x7,K,E=>wq14a k (wq21 k) (FR_doc_parser_list k) (FR_doc_parser_pairs k) (FR_doc_parser_under k) x0 x1 x2 x3 x4 x5 x6 x7 K E
end
def wqdb(k:Nat){R:Type}(x0:(List dT156))(x1:(List dT72))(x2:Int)(K:((List dT156)→(List dT72)→Int→Option R))(E:wqx R): Option R:=wq21 k R x0 x1 x2 K E
def wqjz(k:Nat){R:Type}(x0:(List dT156))(x1:(List dT72))(x2 x3 x4:Int)(K:wq2o R)(E:wqx R): Option R:=FR_doc_parser_list k R x0 x1 x2 x3 x4 K E
def wqhu(k:Nat){R:Type}(x0:(List dT156))(x1:(List dT72))(x2 x3 x4:Int)(K:wq2o R)(E:wqx R): Option R:=FR_doc_parser_pairs k R x0 x1 x2 x3 x4 K E
def wqhv(k:Nat){R:Type}(x0:(List dT156))(x1:(List dT72))(x2 x3 x4:Int)(x5:(List UInt8))(x6:Bool)(x7:Int)(K:((List dT156)→(List dT72)→Int→Option R))(E:wqx R): Option R:=FR_doc_parser_under k R x0 x1 x2 x3 x4 x5 x6 x7 K E
theorem wqw3(k:Nat){R:Type}(x0:(List dT156))(x1:(List dT72))(x2:Int)(K:((List dT156)→(List dT72)→Int→Option R))(E:wqx R): fnW (wq11d k (wq21 k) (FR_doc_parser_list k) (FR_doc_parser_pairs k) (FR_doc_parser_under k)) k Tryz.f103 wq11c [.ptr 1 0,.v kI x2] [(21,.row 73 kdT72 x1),(1,.var 155 [.v (.sl kdT156) x0,.row 21])] (wqkj K E)=wq21 (k+1) R x0 x1 x2 K E:=by
 rw[wq21]
 kernel_rfl
def wq4t(k:Nat){R:Type}: List PV→List (Nm×HObj)→(Out→Option R)→Option R
 |[.ptr 1 0,.v (.int .i64) x2],[(21,.row 73 (.pr (.int .i64) (.pr (.int .i64) (.pr .str (.pr .bool (.pr (.sl .str) (.sl (.int .i64))))))) x1),(1,.var 155 [.v (.sl (.pr (.int .i64) (.pr (.int .i64) (.pr (.int .i64) (.pr .str .bool))))) x0,.row 21])],K=>wqdb k x0 x1 x2 (fun y0 y1 y2=>K (.ret [.v (.int .i64) y2] [(21,.row 73 (.pr (.int .i64) (.pr (.int .i64) (.pr .str (.pr .bool (.pr (.sl .str) (.sl (.int .i64))))))) y1),(1,.var 155 [.v (.sl (.pr (.int .i64) (.pr (.int .i64) (.pr (.int .i64) (.pr .str .bool))))) y0,.row 21])])) (fun z0 z1 z2 z3=>K (.pan (.ifc 29 (.agg [.v (.int .i64) z2,.v (.int .i64) z3])) [(21,.row 73 (.pr (.int .i64) (.pr (.int .i64) (.pr .str (.pr .bool (.pr (.sl .str) (.sl (.int .i64))))))) z1),(1,.var 155 [.v (.sl (.pr (.int .i64) (.pr (.int .i64) (.pr (.int .i64) (.pr .str .bool))))) z0,.row 21])]))
 |_,_,_=>none
theorem wqz9(k:Nat){R:Type}(x0:(List dT156))(x1:(List dT72))(x2 x3 x4:Int)(K:wq2o R)(E:wqx R): fnW (wqht k (wq21 k) (FR_doc_parser_list k) (FR_doc_parser_pairs k) (FR_doc_parser_under k)) k Tryz.f152 wqhs [.ptr 1 0,.v kI x2,.v kI x3,.v kI x4] [(21,.row 73 kdT72 x1),(1,.var 155 [.v (.sl kdT156) x0,.row 21])] (wqb0 K E)=FR_doc_parser_list (k+1) R x0 x1 x2 x3 x4 K E:=by
 rw[FR_doc_parser_list]
 refine Eq.trans (b:=wqs6 k (wq21 k) (FR_doc_parser_list k) (FR_doc_parser_pairs k) (FR_doc_parser_under k) (fun s0 s1 s2 s3 s4 s5=>wqcq k (wq21 k) (FR_doc_parser_list k) (FR_doc_parser_pairs k) (FR_doc_parser_under k) (fun _ _=>none) k (wq8s s0 s1 s2 s3 s4 s5) K E) x0 x1 x2 x3 x4 K E) (by kernel_rfl) ?_
 simp only[wqpx]<;>rfl
def wq7d(k:Nat){R:Type}: List PV→List (Nm×HObj)→(Out→Option R)→Option R
 |[.ptr 1 0,.v (.int .i64) x2,.v (.int .i64) x3,.v (.int .i64) x4],[(21,.row 73 (.pr (.int .i64) (.pr (.int .i64) (.pr .str (.pr .bool (.pr (.sl .str) (.sl (.int .i64))))))) x1),(1,.var 155 [.v (.sl (.pr (.int .i64) (.pr (.int .i64) (.pr (.int .i64) (.pr .str .bool))))) x0,.row 21])],K=>wqjz k x0 x1 x2 x3 x4 (fun y0 y1=>K (.ret [] [(21,.row 73 (.pr (.int .i64) (.pr (.int .i64) (.pr .str (.pr .bool (.pr (.sl .str) (.sl (.int .i64))))))) y1),(1,.var 155 [.v (.sl (.pr (.int .i64) (.pr (.int .i64) (.pr (.int .i64) (.pr .str .bool))))) y0,.row 21])])) (fun z0 z1 z2 z3=>K (.pan (.ifc 29 (.agg [.v (.int .i64) z2,.v (.int .i64) z3])) [(21,.row 73 (.pr (.int .i64) (.pr (.int .i64) (.pr .str (.pr .bool (.pr (.sl .str) (.sl (.int .i64))))))) z1),(1,.var 155 [.v (.sl (.pr (.int .i64) (.pr (.int .i64) (.pr (.int .i64) (.pr .str .bool))))) z0,.row 21])]))
 |_,_,_=>none
theorem wqw4(k:Nat){R:Type}(x0:(List dT156))(x1:(List dT72))(x2 x3 x4:Int)(K:wq2o R)(E:wqx R): fnW (wqgj k (wq21 k) (FR_doc_parser_list k) (FR_doc_parser_pairs k) (FR_doc_parser_under k)) k Tryz.f153 wqgi [.ptr 1 0,.v kI x2,.v kI x3,.v kI x4] [(21,.row 73 kdT72 x1),(1,.var 155 [.v (.sl kdT156) x0,.row 21])] (wq9z K E)=FR_doc_parser_pairs (k+1) R x0 x1 x2 x3 x4 K E:=by
 rw[FR_doc_parser_pairs]
 refine Eq.trans (b:=wqpy k (wq21 k) (FR_doc_parser_list k) (FR_doc_parser_pairs k) (FR_doc_parser_under k) (fun s0 s1 s2 s3 s4 s5 s6=>wqbr k (wq21 k) (FR_doc_parser_list k) (FR_doc_parser_pairs k) (FR_doc_parser_under k) (fun _ _=>none) k (wq7x s0 s1 s2 s3 s4 s5 s6) K E) x0 x1 x2 x3 x4 K E) (by kernel_rfl) ?_
 simp only[wqp5]<;>rfl
def wq6l(k:Nat){R:Type}: List PV→List (Nm×HObj)→(Out→Option R)→Option R
 |[.ptr 1 0,.v (.int .i64) x2,.v (.int .i64) x3,.v (.int .i64) x4],[(21,.row 73 (.pr (.int .i64) (.pr (.int .i64) (.pr .str (.pr .bool (.pr (.sl .str) (.sl (.int .i64))))))) x1),(1,.var 155 [.v (.sl (.pr (.int .i64) (.pr (.int .i64) (.pr (.int .i64) (.pr .str .bool))))) x0,.row 21])],K=>wqhu k x0 x1 x2 x3 x4 (fun y0 y1=>K (.ret [] [(21,.row 73 (.pr (.int .i64) (.pr (.int .i64) (.pr .str (.pr .bool (.pr (.sl .str) (.sl (.int .i64))))))) y1),(1,.var 155 [.v (.sl (.pr (.int .i64) (.pr (.int .i64) (.pr (.int .i64) (.pr .str .bool))))) y0,.row 21])])) (fun z0 z1 z2 z3=>K (.pan (.ifc 29 (.agg [.v (.int .i64) z2,.v (.int .i64) z3])) [(21,.row 73 (.pr (.int .i64) (.pr (.int .i64) (.pr .str (.pr .bool (.pr (.sl .str) (.sl (.int .i64))))))) z1),(1,.var 155 [.v (.sl (.pr (.int .i64) (.pr (.int .i64) (.pr (.int .i64) (.pr .str .bool))))) z0,.row 21])]))
 |_,_,_=>none
theorem wqw5(k:Nat){R:Type}(x0:(List dT156))(x1:(List dT72))(x2 x3 x4:Int)(x5:(List UInt8))(x6:Bool)(x7:Int)(K:((List dT156)→(List dT72)→Int→Option R))(E:wqx R): fnW (wq11f k (wq21 k) (FR_doc_parser_list k) (FR_doc_parser_pairs k) (FR_doc_parser_under k)) k Tryz.f198 wq11e [.ptr 1 0,.agg [.v kI x2,.v kI x3,.v kI x4,.v .str x5,.v .bool x6],.v kI x7] [(21,.row 73 kdT72 x1),(1,.var 155 [.v (.sl kdT156) x0,.row 21])] (wqkk K E)=FR_doc_parser_under (k+1) R x0 x1 x2 x3 x4 x5 x6 x7 K E:=by
 rw[FR_doc_parser_under]
 kernel_rfl
def wq5p(k:Nat){R:Type}: List PV→List (Nm×HObj)→(Out→Option R)→Option R
 |[.ptr 1 0,.agg [.v (.int .i64) x2,.v (.int .i64) x3,.v (.int .i64) x4,.v .str x5,.v .bool x6],.v (.int .i64) x7],[(21,.row 73 (.pr (.int .i64) (.pr (.int .i64) (.pr .str (.pr .bool (.pr (.sl .str) (.sl (.int .i64))))))) x1),(1,.var 155 [.v (.sl (.pr (.int .i64) (.pr (.int .i64) (.pr (.int .i64) (.pr .str .bool))))) x0,.row 21])],K=>wqhv k x0 x1 x2 x3 x4 x5 x6 x7 (fun y0 y1 y2=>K (.ret [.v (.int .i64) y2] [(21,.row 73 (.pr (.int .i64) (.pr (.int .i64) (.pr .str (.pr .bool (.pr (.sl .str) (.sl (.int .i64))))))) y1),(1,.var 155 [.v (.sl (.pr (.int .i64) (.pr (.int .i64) (.pr (.int .i64) (.pr .str .bool))))) y0,.row 21])])) (fun z0 z1 z2 z3=>K (.pan (.ifc 29 (.agg [.v (.int .i64) z2,.v (.int .i64) z3])) [(21,.row 73 (.pr (.int .i64) (.pr (.int .i64) (.pr .str (.pr .bool (.pr (.sl .str) (.sl (.int .i64))))))) z1),(1,.var 155 [.v (.sl (.pr (.int .i64) (.pr (.int .i64) (.pr (.int .i64) (.pr .str .bool))))) z0,.row 21])]))
 |_,_,_=>none
theorem wq11g(k:Nat): DOK Tryz.prog 103 (wq4t k)∧DOK Tryz.prog 152 (wq7d k)∧DOK Tryz.prog 153 (wq6l k)∧DOK Tryz.prog 198 (wq5p k):=by
 induction k with
 |zero =>
  refine⟨?_,?_,?_,?_⟩
  ·intro ps hp R K r h
   have h:wq4t 0 ps hp K=some r:=h
   unfold wq4t at h
   split at h
   ·unfold wqdb at h;rw[wq21]at h;cases h
   ·cases h
  ·intro ps hp R K r h
   have h:wq7d 0 ps hp K=some r:=h
   unfold wq7d at h
   split at h
   ·unfold wqjz at h;rw[FR_doc_parser_list]at h;cases h
   ·cases h
  ·intro ps hp R K r h
   have h:wq6l 0 ps hp K=some r:=h
   unfold wq6l at h
   split at h
   ·unfold wqhu at h;rw[FR_doc_parser_pairs]at h;cases h
   ·cases h
  ·intro ps hp R K r h
   have h:wq5p 0 ps hp K=some r:=h
   unfold wq5p at h
   split at h
   ·unfold wqhv at h;rw[FR_doc_parser_under]at h;cases h
   ·cases h
 |succ k ih =>
  obtain⟨ih_doc_parser_block,ih_doc_parser_list,ih_doc_parser_pairs,ih_doc_parser_under⟩:=ih
  refine⟨?_,?_,?_,?_⟩
  ·intro ps hp R K r h
   have h:wq4t (k+1) ps hp K=some r:=h
   unfold wq4t at h
   split at h
   ·unfold wqdb at h;rw[←wqw3]at h
    exact fnW_ok ⟨tyT_ok,(wqd (wqva k) (wqd (wqjy k) (CTab.add_ok (fun h=>ih_doc_parser_list _ _ _ _ _ (by unfold wqn4 at h;unfold wq7d;exact h)) (CTab.add_ok (fun h=>ih_doc_parser_pairs _ _ _ _ _ (by unfold wqki at h;unfold wq6l;exact h)) CTab.nil_ok)))),fun _ _=>rfl⟩ mixed (by kernel_rfl) (by kernel_rfl) h fun o ho=>by unfold wqkj at ho;split at ho<;>first|exact ho|cases ho
   ·cases h
  ·intro ps hp R K r h
   have h:wq7d (k+1) ps hp K=some r:=h
   unfold wq7d at h
   split at h
   ·unfold wqjz at h;rw[←wqz9]at h
    exact fnW_ok ⟨tyT_ok,(wqd (wqjy k) (wqd (wqs5 k) (CTab.add_ok (fun h=>ih_doc_parser_under _ _ _ _ _ (by unfold wq9y at h;unfold wq5p;exact h)) CTab.nil_ok))),fun _ _=>rfl⟩ mixed (by kernel_rfl) (by kernel_rfl) h fun o ho=>by unfold wqb0 at ho;split at ho<;>first|exact ho|cases ho
   ·cases h
  ·intro ps hp R K r h
   have h:wq6l (k+1) ps hp K=some r:=h
   unfold wq6l at h
   split at h
   ·unfold wqhu at h;rw[←wqw4]at h
    exact fnW_ok ⟨tyT_ok,(wqd (wqva k) (wqd (wq9l k) (wqd (wqjy k) (wqd (wqs5 k) (CTab.add_ok (fun h=>ih_doc_parser_under _ _ _ _ _ (by unfold wq9y at h;unfold wq5p;exact h)) CTab.nil_ok))))),fun _ _=>rfl⟩ mixed (by kernel_rfl) (by kernel_rfl) h fun o ho=>by unfold wq9z at ho;split at ho<;>first|exact ho|cases ho
   ·cases h
  ·intro ps hp R K r h
   have h:wq5p (k+1) ps hp K=some r:=h
   unfold wq5p at h
   split at h
   ·unfold wqhv at h;rw[←wqw5]at h
    exact fnW_ok ⟨tyT_ok,(wqd (wqva k) (CTab.add_ok (fun h=>ih_doc_parser_block _ _ _ _ _ (by unfold wqkh at h;unfold wq4t;exact h)) CTab.nil_ok)),fun _ _=>rfl⟩ mixed (by kernel_rfl) (by kernel_rfl) h fun o ho=>by unfold wqkk at ho;split at ho<;>first|exact ho|cases ho
   ·cases h
theorem wq14b(k:Nat): DOK Tryz.prog 103 (wq4t k):=(wq11g k).1
end Go.Proofs.YtabkhphoacmcdaaGreatDoor.Pvm
end
namespace Go.Proofs.YtabkhphoacmcdaaGreatDoor.Pvm
open Go Go.Proofs
def wq1p3:List LS:=[.sl (.pr (.int .i64) (.pr (.int .i64) (.pr (.int .i64) (.pr .str .bool))))]
def wq1p4(k:Nat): CTab:=(CTab.add 102 wqo5 (wqcp k) (CTab.add 103 wqn3 (wq4t k) CTab.nil))
def wq14c{R:Type}(K:((List dT72)→Int→Int→Option R)): Out→Option R
 |.ret [.agg [.v (.sl (.pr (.int .i64) (.pr (.int .i64) (.pr .str (.pr .bool (.pr (.sl .str) (.sl (.int .i64)))))))) y0],.agg [.v (.int .i64) y1,.v (.int .i64) y2]] []=>K y0 y1 y2
 |_=>none
def wq1lk:RetSpec:=⟨[.ag [.sl (.pr (.int .i64) (.pr (.int .i64) (.pr .str (.pr .bool (.pr (.sl .str) (.sl (.int .i64)))))))],.ag [.any,.any]],[],[]⟩
def wq1mq:List (Nat×CutSpec):=[]
def wq1ju:List (Nat×Plan):=[]
def wq1f4(k:Nat): Ctx:=⟨tyT,wq1mq,wq1p4 k,[2,3],[],wq1ju,@SH⟩
def wqdc:Code:=Tryz.f59.body.getD .skip
def wqvb(k:Nat){R:Type}: PV→List PV→List (Nm×HObj)→(Out→Option R)→Option R
 |.nilif,[.ptr 1 0,.ptr 2 0],[(1,.var 38 [.v (.sl (.pr (.int .i64) (.pr (.int .i64) (.pr .str (.pr .bool (.pr (.sl .str) (.sl (.int .i64)))))))) x0]),(2,.var 29 [.v (.int .i64) x1,.v (.int .i64) x2])],K=>wqrd k x0 x1 x2 (fun y0 y1 y2=>K (.ret [] [(1,.var 38 [.v (.sl (.pr (.int .i64) (.pr (.int .i64) (.pr .str (.pr .bool (.pr (.sl .str) (.sl (.int .i64)))))))) y0]),(2,.var 29 [.v (.int .i64) y1,.v (.int .i64) y2])]))
 |.ifc 29 (.agg [.v (.int .i64) x3,.v (.int .i64) x4]),[.ptr 1 0,.ptr 2 0],[(1,.var 38 [.v (.sl (.pr (.int .i64) (.pr (.int .i64) (.pr .str (.pr .bool (.pr (.sl .str) (.sl (.int .i64)))))))) x0]),(2,.var 29 [.v (.int .i64) x1,.v (.int .i64) x2])],K=>wqhr k x0 x1 x2 x3 x4 (fun y0 y1 y2=>K (.ret [] [(1,.var 38 [.v (.sl (.pr (.int .i64) (.pr (.int .i64) (.pr .str (.pr .bool (.pr (.sl .str) (.sl (.int .i64)))))))) y0]),(2,.var 29 [.v (.int .i64) y1,.v (.int .i64) y2])]))
 |_,_,_,_=>none
def wq1p5(k:Nat){R:Type}(x0:(List dT156))(K:((List dT72)→Int→Int→Option R)): Option R:=cond ((x0.length:Int) == 0) (wqda k 10 1 (fun y4 y5=>wqhr k [] 0 0 y4 y5 K)) (wqdb k x0 [] 1 (fun y4 y5 y6=>cond (decide ((y4.length:Int)>0)) (cond (inb 0 (y4.length:Int)) (wqda k 6 ((y4.getD (Int.toNat 0) (Kd.zero (@Kd.pr kI (@Kd.pr kI (@Kd.pr kI (@Kd.pr Kd.str Kd.bool)))))).2).1 (fun y7 y8=>wqhr k [] 0 0 y7 y8 K)) none) (wqrd k y5 0 0 K)) (fun y4 y5 y6 y7=>wqhr k [] 0 0 y6 y7 K))
theorem wq1mr(k:Nat){R:Type}(I:Nat→St→Option R)(x0:(List dT156))(K:((List dT72)→Int→Int→Option R)): fnDK (wq1f4 k) k [300,400] [at_ [0] wqdc] (opsAt (at_ [1,0] wqdc)) (at_ [1,1] wqdc) 34 [.cell 2 38,.cell 3 29] wq1lk (wqvb k) wq19l [(300,0),(400,0)] [.v (.sl (.pr (.int .i64) (.pr (.int .i64) (.pr (.int .i64) (.pr .str .bool))))) x0] [] (wq14c K)=wq1p5 k x0 K:=by kernel_rfl
def wq1jv(k:Nat){R:Type}(x0:(List dT156))(K:((List dT72)→Int→Int→Option R)): Option R:=wq1p5 k x0 K
theorem wq1ms(k:Nat){R:Type}(x0:(List dT156))(K:((List dT72)→Int→Int→Option R)): fnDK (wq1f4 k) k [300,400] [at_ [0] wqdc] (opsAt (at_ [1,0] wqdc)) (at_ [1,1] wqdc) 34 [.cell 2 38,.cell 3 29] wq1lk (wqvb k) wq19l [(300,0),(400,0)] [.v (.sl (.pr (.int .i64) (.pr (.int .i64) (.pr (.int .i64) (.pr .str .bool))))) x0] [] (wq14c K)=wq1jv k x0 K:=by
 exact wq1mr k (fun _ _=>none) x0 K
def wq19s(k:Nat){R:Type}: List PV→List (Nm×HObj)→(Out→Option R)→Option R
 |[.v (.sl (.pr (.int .i64) (.pr (.int .i64) (.pr (.int .i64) (.pr .str .bool))))) x0],[],K=>wq1jv k x0 (fun y0 y1 y2=>K (.ret [.agg [.v (.sl (.pr (.int .i64) (.pr (.int .i64) (.pr .str (.pr .bool (.pr (.sl .str) (.sl (.int .i64)))))))) y0],.agg [.v (.int .i64) y1,.v (.int .i64) y2]] []))
 |_,_,_=>none
theorem wq1mt(k:Nat): (wq1p4 k).Ok Tryz.prog:=(wqd (wqva k) (wqd (wq14b k) CTab.nil_ok))
theorem wq1f5(k:Nat){R:Type}(rec:PV)(ps:List PV)(hp:List (Nm×HObj))(K:Out→Option R)(r:R)(h:wqvb k rec ps hp K=some r): DoesToD Tryz.prog 101 rec ps hp fun out=>K out=some r:=by
 unfold wqvb at h
 split at h
 ·exact wq1hk k h
 ·exact wq1hl k h
 ·cases h
theorem wq1sd(k:Nat){ps:List PV}{hp:List (Nm×HObj)}{R:Type}{K:Out→Option R}{r:R}(h:wq19s k ps hp K=some r): DoesTo Tryz.prog 59 ps hp fun out=>K out=some r:=by
 unfold wq19s at h
 split at h
 ·rw[←wq1ms]at h
  have:=wq1oe (P:=Tryz.prog) (cx:=wq1f4 k) (f:=59) ⟨tyT_ok,wq1mt k,fun _ _=>rfl⟩ (by kernel_rfl) (fn:=Tryz.f59) (id:=1) (pre:=[at_ [0] wqdc]) (rest:=at_ [1,1] wqdc) (ops:=opsAt (at_ [1,0] wqdc)) (by kernel_rfl) (by kernel_rfl) (by kernel_rfl) (rs:=[.cell 2 38,.cell 3 29]) (by kernel_rfl) (by kernel_rfl) (by kernel_rfl) (g:=101) (s:=5) (xs:=[.tmp 2,.tmp 3]) (by kernel_rfl) (Invokes.of (fn:=Tryz.f101) (by kernel_rfl) (c:=Tryz.f101.body.getD .skip) (by kernel_rfl) (by kernel_rfl)) (wq1f5 k) h
  exact this.mono fun out ho=>by
   unfold wq14c at ho
   split at ho<;>first|exact ho|cases ho
 ·cases h
end Go.Proofs.YtabkhphoacmcdaaGreatDoor.Pvm
noncomputable section
namespace Go.Proofs.YtabkhphoacmcdaaGreatDoor.Pvm
open Go Go.Proofs
def wq1mu:List LS:=[.sl kdT150]
def wqre{R:Type}(K:((List dT156)→Int→Int→Option R)): Out→Option R
 |.ret [.v (.sl (.pr (.int .i64) (.pr (.int .i64) (.pr (.int .i64) (.pr .str .bool))))) y0,.agg [.v (.int .i64) y1,.v (.int .i64) y2]] []=>K y0 y1 y2
 |_=>none
def wq19t:RetSpec:=⟨[.sl (.pr (.int .i64) (.pr (.int .i64) (.pr (.int .i64) (.pr .str .bool)))),.ag [.any,.any]],[],[]⟩
def wq19u(k:Nat): Ctx:=⟨tyT,[(1003,⟨[(3,.obj 13 [.any,.any]),(4,.own 100004 157 kdT156),(9,.sl kdT150),(10,.any),(11,.any)],[]⟩)],(.add 100 wq1dh (wqv8 k) .nil),[],[],[(7,(.of [(1,1),(0,1),(2,0)] .done))],@SH⟩
def wqij(s0 s1:Int)(s2:(List dT156))(s3:(List dT150))(s4 s5:Int): St:=⟨mkT [(3,.ptr 13 0),(4,.row 100004),(9,.v (.sl kdT150) s3),(10,.v kI s4),(11,.v kI s5)],mkH [(13,.var 29 [.v kI s0,.v kI s1]),(100004,.row 157 kdT156 s2)]⟩
def wqrf(k:Nat){R:Type}(I:Nat→St→Option R)(n:Nat)(s:St)(K:((List dT156)→Int→Int→Option R)): Option R:=loopK (wq19u k) k Tryz.f58 wq19t 1003 [1,1,0,1,0] I n s (wqre K)
def wq11h(k:Nat){R:Type}(E1003:(Int→Int→(List dT156)→(List dT150)→Int→Int→Option R))(s0 s1:Int)(s2:(List dT156))(s3:(List dT150))(s4 s5:Int)(K:((List dT156)→Int→Int→Option R)): Option R:=cond (decide (s5<s4)) (cond (inb s5 (s3.length:Int)) (wq17i k (s3.getD s5.toNat (Kd.zero (@Kd.pr kI (@Kd.pr kI Kd.str)))).1 ((s3.getD s5.toNat (Kd.zero (@Kd.pr kI (@Kd.pr kI Kd.str)))).2).1 ((s3.getD s5.toNat (Kd.zero (@Kd.pr kI (@Kd.pr kI Kd.str)))).2).2 (fun y10 y11 y12=>cond (y11 != 0) (K [] y11 y12) (cond (fits s2.length y10.length 48) (E1003 s0 s1 (s2++y10) s3 s4 (@Go.IntKind.wrap Go.IntKind.i64 (s5+1))) none))) none) (K s2 0 0)
theorem wq16u(k:Nat){R:Type}(I:Nat→St→Option R)(s0 s1:Int)(s2:(List dT156))(s3:(List dT150))(s4 s5:Int)(K:((List dT156)→Int→Int→Option R)): bodyK (wq19u k) k Tryz.f58 wq19t [1,1,0,1,0,0] I (wqij s0 s1 s2 s3 s4 s5) (wqre K)=wq11h k (fun s0 s1 s2 s3 s4 s5=>I 1003 (wqij s0 s1 s2 s3 s4 s5)) s0 s1 s2 s3 s4 s5 K:=by kernel_rfl
def wq1ll(k:Nat){R:Type}(E1003:(Int→Int→(List dT156)→(List dT150)→Int→Int→Option R))(x0:(List dT150))(K:((List dT156)→Int→Int→Option R)): Option R:=E1003 0 0 [] x0 (x0.length:Int) 0
def wqrg(k:Nat){R:Type}: Nat→Int→Int→(List dT156)→(List dT150)→Int→Int→((List dT156)→Int→Int→Option R)→Option R
 |0,_,_,_,_,_,_,_=>none
 |n+1,s0,s1,s2,s3,s4,s5,K=>wq11h k (fun s0 s1 s2 s3 s4 s5=>wqrg k n s0 s1 s2 s3 s4 s5 K) s0 s1 s2 s3 s4 s5 K
theorem wq16v(k:Nat){R:Type}(I:Nat→St→Option R)(K:((List dT156)→Int→Int→Option R))(n:Nat): ∀(s0 s1:Int) (s2:(List dT156)) (s3:(List dT150)) (s4 s5:Int),wqrf k I n (wqij s0 s1 s2 s3 s4 s5) K=wqrg k n s0 s1 s2 s3 s4 s5 K:=by
 induction n with
 |zero=>intros;rfl
 |succ n ih =>
  intro s0 s1 s2 s3 s4 s5
  refine(?_:_=_).trans ((wq16u k (upI 1003 (fun s=>wqrf k I n s K) I) s0 s1 s2 s3 s4 s5 K).trans ?_)
  ·rfl
  ·simp only[wq43,ih]<;>rfl
def wq1f6(k:Nat){R:Type}(x0:(List dT150))(K:((List dT156)→Int→Int→Option R)): Option R:=wq1ll k (fun s0 s1 s2 s3 s4 s5=>wqrg k k s0 s1 s2 s3 s4 s5 K) x0 K
theorem wq1jw(k:Nat){R:Type}(x0:(List dT150))(K:((List dT156)→Int→Int→Option R)): fnW (wq19u k) k Tryz.f58 wq19t [.v (.sl kdT150) x0] [] (wqre K)=wq1f6 k x0 K:=by
 refine Eq.trans (b:=wq1ll k (fun s0 s1 s2 s3 s4 s5=>wqrf k (fun _ _=>none) k (wqij s0 s1 s2 s3 s4 s5) K) x0 K) (by kernel_rfl) ?_
 simp only[wq16v]<;>rfl
def wqvc(k:Nat){R:Type}: List PV→List (Nm×HObj)→(Out→Option R)→Option R
 |[.v (.sl (.pr (.int .i64) (.pr (.int .i64) .str))) x0],[],K=>wq1f6 k x0 (fun y0 y1 y2=>K (.ret [.v (.sl (.pr (.int .i64) (.pr (.int .i64) (.pr (.int .i64) (.pr .str .bool))))) y0,.agg [.v (.int .i64) y1,.v (.int .i64) y2]] []))
 |_,_,_=>none
theorem wq1q0(k:Nat): DOK Tryz.prog 58 (wqvc k):=by
 intro ps hp R K r h
 have h:wqvc k ps hp K=some r:=h
 unfold wqvc at h
 split at h
 ·rw[←wq1jw]at h
  exact fnW_ok ⟨tyT_ok,(CTab.add_ok (fun h=>wq1lj k h) CTab.nil_ok),fun _ _=>rfl⟩ mixed (by kernel_rfl) (by kernel_rfl) h fun o ho=>by unfold wqre at ho;split at ho<;>first|exact ho|cases ho
 ·cases h
end Go.Proofs.YtabkhphoacmcdaaGreatDoor.Pvm
end
namespace Go.Proofs.YtabkhphoacmcdaaGreatDoor.Pvm
open Go Go.Proofs
def cntB(s:List UInt8)(c:UInt8): Int:=Lib.countByte s c
def wq1f7:List LS:=[.sl (.int .u8),.any]
def wq19v(k:Nat){R:Type}(x0:List Int)(x1:Int)(K:Int→Option R): Option R:=K (cntB (wq73 x0) (UInt8.ofNat x1.toNat))
def wqrh(k:Nat){R:Type}: List PV→List (Nm×HObj)→(Out→Option R)→Option R
 |[.v (.sl (.int .u8)) x0,.v (.int .u8) x1],[],K=>wq19v k x0 x1 (fun y0=>K (.ret [.v (.int .i64) y0] []))
 |_,_,_=>none
theorem wq1jx(k:Nat){ps:List PV}{hp:List (Nm×HObj)}{R:Type}{K:Out→Option R}{r:R}(h:wqrh k ps hp K=some r): DoesTo Tryz.prog 220 ps hp fun out=>K out=some r:=by
 unfold wqrh at h
 split at h
 ·next x0 x1 =>
  intro G w vals hr obj dis
  obtain⟨v0,l0,rfl,h0,v1,l1,rfl,h1,rfl⟩:=hr
  have e1:v1 = .int .u8 x1:=by simpa [RV,RD]using h1
  subst e1
  have hb:=wq1oh (P:=Tryz.prog) h0
  have hrun:(callFunc 220 #[v0,.int .u8 x1]).run Tryz.prog w = .ok (.value (.int .i64 (cntB (wq73 x0) (UInt8.ofNat x1.toNat)))) w:=by
   refine wq1lf (fn:=Tryz.f220) (g:=Extern.BytealgCount.count) (by kernel_rfl) (by kernel_rfl) (by kernel_rfl) (by kernel_rfl) (by kernel_rfl) _ w ?_
   have hs:=Lib.run_countString (P:=Tryz.prog) ⟨(wq73 x0).toArray⟩ x1 w
   change Sem.run Tryz.prog (do
    let b ←Extern.Bytes.bytesOf v0
    let c' ←Extern.Bytes.asByte (.int .u8 x1)
    pure (goInt (b.foldl (fun n x=>if x == c' then n+1 else n) (0:Nat)))) w=_
   change Sem.run Tryz.prog (do
    let b ←Extern.Bytes.bytesOf (.string ⟨(wq73 x0).toArray⟩)
    let c' ←Extern.Bytes.asByte (.int .u8 x1)
    pure (goInt (b.foldl (fun n x=>if x == c' then n+1 else n) (0:Nat)))) w=_ at hs
   rw[Sem.run_bind]at hs ⊢
   rw[hb]
   exact hs
  show Does _ _ #[_,_] _ _
  unfold Does
  rw[hrun]
  exact⟨.ret [.v (.int .i64) _] [],h,G,⟨_,rfl,rfl⟩,wq1ed⟩
 ·cases h
end Go.Proofs.YtabkhphoacmcdaaGreatDoor.Pvm
noncomputable section
namespace Go.Proofs.YtabkhphoacmcdaaGreatDoor.Pvm
open Go Go.Proofs
def wq1br:List LS:=[.sl (.int .u8),.sl (.int .u8)]
def wqu9{R:Type}(K:(Int→Option R)): Out→Option R
 |.ret [.v (.int .i64) y0] []=>K y0
 |_=>none
def wq1f8:RetSpec:=⟨[.any],[],[]⟩
def wq1f9(k:Nat): Ctx:=⟨tyT,[],(.add 220 wq1f7 (wqrh k) .nil),[],[],[],@SH⟩
def wq1hm(k:Nat){R:Type}(x0:(List Int))(x1:Int)(K:(Int→Option R)): Option R:=wq19v k x0 (([x1]).getD (Int.toNat 0) (Kd.zero (@Kd.int Go.IntKind.u8))) K
def wqua(k:Nat){R:Type}(x0:(List Int))(x1:Int)(K:(Int→Option R)): Option R:=wq1hm k x0 x1 K
theorem wq19w(k:Nat){R:Type}(x0:(List Int))(x1:Int)(K:(Int→Option R)): fnW (wq1f9 k) k Tryz.f183 wq1f8 [.v (.sl (.int .u8)) x0,.v (.sl (.int .u8)) [x1]] [] (wqu9 K)=wqua k x0 x1 K:=by
 kernel_rfl
def wqik(k:Nat){R:Type}: List PV→List (Nm×HObj)→(Out→Option R)→Option R
 |[.v (.sl (.int .u8)) x0,.v (.sl (.int .u8)) [x1]],[],K=>wqua k x0 x1 (fun y0=>K (.ret [.v (.int .i64) y0] []))
 |_,_,_=>none
theorem wq1hn(k:Nat): DOK Tryz.prog 183 (wqik k):=by
 intro ps hp R K r h
 have h:wqik k ps hp K=some r:=h
 unfold wqik at h
 split at h
 ·rw[←wq19w]at h
  exact fnW_ok ⟨tyT_ok,(CTab.add_ok (fun h=>wq1jx k h) CTab.nil_ok),fun _ _=>rfl⟩ mixed (by kernel_rfl) (by kernel_rfl) h fun o ho=>by unfold wqu9 at ho;split at ho<;>first|exact ho|cases ho
 ·cases h
end Go.Proofs.YtabkhphoacmcdaaGreatDoor.Pvm
end
namespace Go.Proofs.YtabkhphoacmcdaaGreatDoor.Pvm
open Go Go.Proofs
def wq14d:List LS:=[.sl (.int .u8),.any]
def wqub(k:Nat){R:Type}(x0:List Int)(x1:Int)(K:Int→Option R): Option R:=K (wq18n (wq73 x0) x1)
def wqhw(k:Nat){R:Type}: List PV→List (Nm×HObj)→(Out→Option R)→Option R
 |[.v (.sl (.int .u8)) x0,.v (.int .u8) x1],[],K=>wqub k x0 x1 (fun y0=>K (.ret [.v (.int .i64) y0] []))
 |_,_,_=>none
theorem wq19x(k:Nat){ps:List PV}{hp:List (Nm×HObj)}{R:Type}{K:Out→Option R}{r:R}(h:wqhw k ps hp K=some r): DoesTo Tryz.prog 250 ps hp fun out=>K out=some r:=by
 unfold wqhw at h
 split at h
 ·next x0 x1 =>
  intro G w vals hr obj dis
  obtain⟨v0,l0,rfl,h0,v1,l1,rfl,h1,rfl⟩:=hr
  have e1:v1 = .int .u8 x1:=by simpa [RV,RD]using h1
  subst e1
  have hb:=wq1oh (P:=Tryz.prog) h0
  have hrun:(callFunc 250 #[v0,.int .u8 x1]).run Tryz.prog w = .ok (.value (.int .i64 (wq18n (wq73 x0) x1))) w:=by
   refine wq1lf (fn:=Tryz.f250) (g:=Extern.BytealgIndexByte.indexByte) (by kernel_rfl) (by kernel_rfl) (by kernel_rfl) (by kernel_rfl) (by kernel_rfl) _ w ?_
   have hs:=wq1dd (P:=Tryz.prog) (wq73 x0) x1 w
   change Sem.run Tryz.prog (do
    let b ←Extern.Bytes.bytesOf v0
    let c ←Extern.Bytes.asByte (.int .u8 x1)
    match(List.range b.size).find? fun i=>b[i]! == c with
    |some i=>pure (goInt i)
    |none=>pure (goInt (-1))) w=_
   change Sem.run Tryz.prog (do
    let b ←Extern.Bytes.bytesOf (.string ⟨(wq73 x0).toArray⟩)
    let c ←Extern.Bytes.asByte (.int .u8 x1)
    match(List.range b.size).find? fun i=>b[i]! == c with
    |some i=>pure (goInt i)
    |none=>pure (goInt (-1))) w=_ at hs
   rw[Sem.run_bind]at hs ⊢
   rw[hb]
   exact hs
  show Does _ _ #[_,_] _ _
  unfold Does
  rw[hrun]
  exact⟨.ret [.v (.int .i64) _] [],h,G,⟨_,rfl,rfl⟩,wq1ed⟩
 ·cases h
end Go.Proofs.YtabkhphoacmcdaaGreatDoor.Pvm
noncomputable section
namespace Go.Proofs.YtabkhphoacmcdaaGreatDoor.Pvm
open Go Go.Proofs
def wq11i:List LS:=[.sl (.int .u8),.any]
def wqn6{R:Type}(K:(Int→Option R)): Out→Option R
 |.ret [.v (.int .i64) y0] []=>K y0
 |_=>none
def wq14e:RetSpec:=⟨[.any],[],[]⟩
def wq14f(k:Nat): Ctx:=⟨tyT,[],(.add 250 wq14d (wqhw k) .nil),[],[],[],@SH⟩
def wq16w(k:Nat){R:Type}(x0:(List Int))(x1:Int)(K:(Int→Option R)): Option R:=wqub k x0 x1 K
def wqbe(k:Nat){R:Type}(x0:(List Int))(x1:Int)(K:(Int→Option R)): Option R:=wq16w k x0 x1 K
theorem wqza(k:Nat){R:Type}(x0:(List Int))(x1:Int)(K:(Int→Option R)): fnW (wq14f k) k Tryz.f221 wq14e [.v (.sl (.int .u8)) x0,.v (.int .u8) x1] [] (wqn6 K)=wqbe k x0 x1 K:=by
 kernel_rfl
def wqc7(k:Nat){R:Type}: List PV→List (Nm×HObj)→(Out→Option R)→Option R
 |[.v (.sl (.int .u8)) x0,.v (.int .u8) x1],[],K=>wqbe k x0 x1 (fun y0=>K (.ret [.v (.int .i64) y0] []))
 |_,_,_=>none
theorem wq16x(k:Nat): DOK Tryz.prog 221 (wqc7 k):=by
 intro ps hp R K r h
 have h:wqc7 k ps hp K=some r:=h
 unfold wqc7 at h
 split at h
 ·rw[←wqza]at h
  exact fnW_ok ⟨tyT_ok,(CTab.add_ok (fun h=>wq19x k h) CTab.nil_ok),fun _ _=>rfl⟩ mixed (by kernel_rfl) (by kernel_rfl) h fun o ho=>by unfold wqn6 at ho;split at ho<;>first|exact ho|cases ho
 ·cases h
end Go.Proofs.YtabkhphoacmcdaaGreatDoor.Pvm
end
noncomputable section
namespace Go.Proofs.YtabkhphoacmcdaaGreatDoor.Pvm
open Go Go.Proofs
def wqn7(wq6b:(R:Type)→(List Int)→Int→(Int→Option R)→Option R){R:Type}: List PV→List (Nm×HObj)→(Out→Option R)→Option R
 |[.v (.sl (.int .u8)) x0,.v (.int .u8) x1],[],K=>wq6b R x0 x1 (fun y0=>K (.ret [.v (.int .i64) y0] []))
 |_,_,_=>none
end Go.Proofs.YtabkhphoacmcdaaGreatDoor.Pvm
end
noncomputable section
namespace Go.Proofs.YtabkhphoacmcdaaGreatDoor.Pvm
open Go Go.Proofs
def wq1bs:List LS:=[.sl (.int .u8),.sl (.int .u8)]
def wqn8{R:Type}(K:(Int→Option R)): Out→Option R
 |.ret [.v (.int .i64) y0] []=>K y0
 |_=>none
def wq11j:RetSpec:=⟨[.any],[],[]⟩
def wq11k(k:Nat)(wq6b:(R:Type)→(List Int)→Int→(Int→Option R)→Option R): Ctx:=⟨tyT,[],(.add 221 wq11i (wqn7 wq6b) .nil),[],[],[],@SH⟩
def wq15n(k:Nat)(wq6b:(R:Type)→(List Int)→Int→(Int→Option R)→Option R){R:Type}(x0:(List Int))(x1:Int)(K:(Int→Option R)): Option R:=wq6b R x0 (([x1]).getD (Int.toNat 0) (Kd.zero (@Kd.int Go.IntKind.u8))) K
def wquc(k:Nat){R:Type}(x0:(List Int))(x1:Int)(K:(Int→Option R)): Option R:=wq15n k (@wqbe k) x0 x1 K
theorem wq19y(k:Nat)(wq6b:(R:Type)→(List Int)→Int→(Int→Option R)→Option R){R:Type}(x0:(List Int))(x1:Int)(K:(Int→Option R)): fnW (wq11k k wq6b) k Tryz.f184 wq11j [.v (.sl (.int .u8)) x0,.v (.sl (.int .u8)) [x1]] [] (wqn8 K)=wq15n k wq6b x0 x1 K:=by kernel_rfl
theorem wq19z(k:Nat){R:Type}(x0:(List Int))(x1:Int)(K:(Int→Option R)): fnW (wq11k k (@wqbe k)) k Tryz.f184 wq11j [.v (.sl (.int .u8)) x0,.v (.sl (.int .u8)) [x1]] [] (wqn8 K)=wquc k x0 x1 K:=by
 exact wq19y k (@wqbe k) x0 x1 K
def wqil(k:Nat){R:Type}: List PV→List (Nm×HObj)→(Out→Option R)→Option R
 |[.v (.sl (.int .u8)) x0,.v (.sl (.int .u8)) [x1]],[],K=>wquc k x0 x1 (fun y0=>K (.ret [.v (.int .i64) y0] []))
 |_,_,_=>none
theorem wq1ho(k:Nat): DOK Tryz.prog 184 (wqil k):=by
 intro ps hp R K r h
 have h:wqil k ps hp K=some r:=h
 unfold wqil at h
 split at h
 ·rw[←wq19z]at h
  exact fnW_ok ⟨tyT_ok,(CTab.add_ok (fun h=>wq16x k _ _ _ _ _ (by unfold wqn7 at h;unfold wqc7;exact h)) CTab.nil_ok),fun _ _=>rfl⟩ mixed (by kernel_rfl) (by kernel_rfl) h fun o ho=>by unfold wqn8 at ho;split at ho<;>first|exact ho|cases ho
 ·cases h
end Go.Proofs.YtabkhphoacmcdaaGreatDoor.Pvm
end
noncomputable section
namespace Go.Proofs.YtabkhphoacmcdaaGreatDoor.Pvm
open Go Go.Proofs
def wq14g:List LS:=[.sl (.int .u8),.sl (.int .u8),.any,.any]
def wqc8{R:Type}(K:((List (List Int))→Option R)): Out→Option R
 |.ret [.v (.sl (.sl (.int .u8))) y0] []=>K y0
 |_=>none
def wqk0:RetSpec:=⟨[.sl (.sl (.int .u8))],[],[]⟩
def wqk1(k:Nat): Ctx:=⟨tyT,[(1011,⟨[(0,.sl (.int .u8)),(1,.sl (.int .u8)),(2,.any),(3,.any),(9,.own 100009 22 (.sl (.int .u8))),(10,.any)],[]⟩)],(.add 183 wq1br (wqik k) (.add 184 wq1bs (wqil k) .nil)),[],[],[],@SH⟩
def wq9f(s0:(List Int))(s1 s2 s3:Int)(s4:(List (List Int)))(s5:Int): St:=⟨mkT [(0,.v (.sl (.int .u8)) s0),(1,.v (.sl (.int .u8)) [s1]),(2,.v kI s2),(3,.v kI s3),(9,.row 100009),(10,.v kI s5)],mkH [(100009,.row 22 (.sl (.int .u8)) s4)]⟩
def wqe4(k:Nat){R:Type}(I:Nat→St→Option R)(n:Nat)(s:St)(K:((List (List Int))→Option R)): Option R:=loopK (wqk1 k) k Tryz.f141 wqk0 1011 [1,1,1,1,1,1,1,1,0,0] I n s (wqc8 K)
def wqkl(k:Nat){R:Type}(E1011:((List Int)→Int→Int→Int→(List (List Int))→Int→Option R))(s0:(List Int))(s1 s2 s3:Int)(s4:(List (List Int)))(s5:Int)(K:((List (List Int))→Option R)): Option R:=cond (decide (s5<s3)) (wquc k s0 s1 (fun y10=>cond (decide (y10<0)) (cond (inb s5 (s4.length:Int)) (cond (bnd 0 (@Go.IntKind.wrap Go.IntKind.i64 (s5+1)) ((List.set s4 s5.toNat s0).length:Int)) (K (cut (List.set s4 s5.toNat s0) 0 (@Go.IntKind.wrap Go.IntKind.i64 (s5+1)))) none) none) (cond ((bnd 0 (@Go.IntKind.wrap Go.IntKind.i64 (y10+s2)) (@Go.IntKind.wrap Go.IntKind.i64 (y10+s2)))&&(decide ((@Go.IntKind.wrap Go.IntKind.i64 (y10+s2))≤(s0.length:Int)))) (cond (inb s5 (s4.length:Int)) (cond (bnd (@Go.IntKind.wrap Go.IntKind.i64 (y10+(@List.length (@Kd.T (@Kd.int Go.IntKind.u8)) [s1]:Int))) (s0.length:Int) (s0.length:Int)) (E1011 (cut s0 (@Go.IntKind.wrap Go.IntKind.i64 (y10+(@List.length (@Kd.T (@Kd.int Go.IntKind.u8)) [s1]:Int))) (s0.length:Int)) s1 s2 s3 (List.set s4 s5.toNat (cut s0 0 (@Go.IntKind.wrap Go.IntKind.i64 (y10+s2)))) (@Go.IntKind.wrap Go.IntKind.i64 (s5+1))) none) none) none))) (cond (inb s5 (s4.length:Int)) (cond (bnd 0 (@Go.IntKind.wrap Go.IntKind.i64 (s5+1)) ((List.set s4 s5.toNat s0).length:Int)) (K (cut (List.set s4 s5.toNat s0) 0 (@Go.IntKind.wrap Go.IntKind.i64 (s5+1)))) none) none)
theorem wqri(k:Nat){R:Type}(I:Nat→St→Option R)(s0:(List Int))(s1 s2 s3:Int)(s4:(List (List Int)))(s5:Int)(K:((List (List Int))→Option R)): bodyK (wqk1 k) k Tryz.f141 wqk0 [1,1,1,1,1,1,1,1,0,0,0] I (wq9f s0 s1 s2 s3 s4 s5) (wqc8 K)=wqkl k (fun s0 s1 s2 s3 s4 s5=>I 1011 (wq9f s0 s1 s2 s3 s4 s5)) s0 s1 s2 s3 s4 s5 K:=by kernel_rfl
def wqud(k:Nat){R:Type}(E1011:((List Int)→Int→Int→Int→(List (List Int))→Int→Option R))(x0:(List Int))(x1 x2 x3:Int)(K:((List (List Int))→Option R)): Option R:=cond (x3 == 0) (K []) (cond (decide (x3<0)) (wqua k x0 x1 (fun y8=>cond (mkB (cond false (@ite (@Kd.T kI) ((@Go.IntKind.wrap Go.IntKind.i64 ((x0.length:Int)+1))>(@Go.IntKind.wrap Go.IntKind.i64 (y8+1))) (@Int.decLt (@Go.IntKind.wrap Go.IntKind.i64 (y8+1)) (@Go.IntKind.wrap Go.IntKind.i64 ((x0.length:Int)+1))) (@Go.IntKind.wrap Go.IntKind.i64 ((x0.length:Int)+1)) (@Go.IntKind.wrap Go.IntKind.i64 (y8+1))) (@ite (@Kd.T kI) ((@Go.IntKind.wrap Go.IntKind.i64 ((x0.length:Int)+1))<(@Go.IntKind.wrap Go.IntKind.i64 (y8+1))) (@Int.decLt (@Go.IntKind.wrap Go.IntKind.i64 ((x0.length:Int)+1)) (@Go.IntKind.wrap Go.IntKind.i64 (y8+1))) (@Go.IntKind.wrap Go.IntKind.i64 ((x0.length:Int)+1)) (@Go.IntKind.wrap Go.IntKind.i64 (y8+1)))) (cond false (@ite (@Kd.T kI) ((@Go.IntKind.wrap Go.IntKind.i64 ((x0.length:Int)+1))>(@Go.IntKind.wrap Go.IntKind.i64 (y8+1))) (@Int.decLt (@Go.IntKind.wrap Go.IntKind.i64 (y8+1)) (@Go.IntKind.wrap Go.IntKind.i64 ((x0.length:Int)+1))) (@Go.IntKind.wrap Go.IntKind.i64 ((x0.length:Int)+1)) (@Go.IntKind.wrap Go.IntKind.i64 (y8+1))) (@ite (@Kd.T kI) ((@Go.IntKind.wrap Go.IntKind.i64 ((x0.length:Int)+1))<(@Go.IntKind.wrap Go.IntKind.i64 (y8+1))) (@Int.decLt (@Go.IntKind.wrap Go.IntKind.i64 ((x0.length:Int)+1)) (@Go.IntKind.wrap Go.IntKind.i64 (y8+1))) (@Go.IntKind.wrap Go.IntKind.i64 ((x0.length:Int)+1)) (@Go.IntKind.wrap Go.IntKind.i64 (y8+1)))) 24) (E1011 x0 x1 x2 (@Go.IntKind.wrap Go.IntKind.i64 ((cond false (@ite (@Kd.T kI) ((@Go.IntKind.wrap Go.IntKind.i64 ((x0.length:Int)+1))>(@Go.IntKind.wrap Go.IntKind.i64 (y8+1))) (@Int.decLt (@Go.IntKind.wrap Go.IntKind.i64 (y8+1)) (@Go.IntKind.wrap Go.IntKind.i64 ((x0.length:Int)+1))) (@Go.IntKind.wrap Go.IntKind.i64 ((x0.length:Int)+1)) (@Go.IntKind.wrap Go.IntKind.i64 (y8+1))) (@ite (@Kd.T kI) ((@Go.IntKind.wrap Go.IntKind.i64 ((x0.length:Int)+1))<(@Go.IntKind.wrap Go.IntKind.i64 (y8+1))) (@Int.decLt (@Go.IntKind.wrap Go.IntKind.i64 ((x0.length:Int)+1)) (@Go.IntKind.wrap Go.IntKind.i64 (y8+1))) (@Go.IntKind.wrap Go.IntKind.i64 ((x0.length:Int)+1)) (@Go.IntKind.wrap Go.IntKind.i64 (y8+1))))-1)) (zeros (@Kd.sl (@Kd.int Go.IntKind.u8)) (cond false (@ite (@Kd.T kI) ((@Go.IntKind.wrap Go.IntKind.i64 ((x0.length:Int)+1))>(@Go.IntKind.wrap Go.IntKind.i64 (y8+1))) (@Int.decLt (@Go.IntKind.wrap Go.IntKind.i64 (y8+1)) (@Go.IntKind.wrap Go.IntKind.i64 ((x0.length:Int)+1))) (@Go.IntKind.wrap Go.IntKind.i64 ((x0.length:Int)+1)) (@Go.IntKind.wrap Go.IntKind.i64 (y8+1))) (@ite (@Kd.T kI) ((@Go.IntKind.wrap Go.IntKind.i64 ((x0.length:Int)+1))<(@Go.IntKind.wrap Go.IntKind.i64 (y8+1))) (@Int.decLt (@Go.IntKind.wrap Go.IntKind.i64 ((x0.length:Int)+1)) (@Go.IntKind.wrap Go.IntKind.i64 (y8+1))) (@Go.IntKind.wrap Go.IntKind.i64 ((x0.length:Int)+1)) (@Go.IntKind.wrap Go.IntKind.i64 (y8+1))))) 0) none)) (cond (mkB (cond false (@ite (@Kd.T kI) ((@Go.IntKind.wrap Go.IntKind.i64 ((x0.length:Int)+1))>x3) (@Int.decLt x3 (@Go.IntKind.wrap Go.IntKind.i64 ((x0.length:Int)+1))) (@Go.IntKind.wrap Go.IntKind.i64 ((x0.length:Int)+1)) x3) (@ite (@Kd.T kI) ((@Go.IntKind.wrap Go.IntKind.i64 ((x0.length:Int)+1))<x3) (@Int.decLt (@Go.IntKind.wrap Go.IntKind.i64 ((x0.length:Int)+1)) x3) (@Go.IntKind.wrap Go.IntKind.i64 ((x0.length:Int)+1)) x3)) (cond false (@ite (@Kd.T kI) ((@Go.IntKind.wrap Go.IntKind.i64 ((x0.length:Int)+1))>x3) (@Int.decLt x3 (@Go.IntKind.wrap Go.IntKind.i64 ((x0.length:Int)+1))) (@Go.IntKind.wrap Go.IntKind.i64 ((x0.length:Int)+1)) x3) (@ite (@Kd.T kI) ((@Go.IntKind.wrap Go.IntKind.i64 ((x0.length:Int)+1))<x3) (@Int.decLt (@Go.IntKind.wrap Go.IntKind.i64 ((x0.length:Int)+1)) x3) (@Go.IntKind.wrap Go.IntKind.i64 ((x0.length:Int)+1)) x3)) 24) (E1011 x0 x1 x2 (@Go.IntKind.wrap Go.IntKind.i64 ((cond false (@ite (@Kd.T kI) ((@Go.IntKind.wrap Go.IntKind.i64 ((x0.length:Int)+1))>x3) (@Int.decLt x3 (@Go.IntKind.wrap Go.IntKind.i64 ((x0.length:Int)+1))) (@Go.IntKind.wrap Go.IntKind.i64 ((x0.length:Int)+1)) x3) (@ite (@Kd.T kI) ((@Go.IntKind.wrap Go.IntKind.i64 ((x0.length:Int)+1))<x3) (@Int.decLt (@Go.IntKind.wrap Go.IntKind.i64 ((x0.length:Int)+1)) x3) (@Go.IntKind.wrap Go.IntKind.i64 ((x0.length:Int)+1)) x3))-1)) (zeros (@Kd.sl (@Kd.int Go.IntKind.u8)) (cond false (@ite (@Kd.T kI) ((@Go.IntKind.wrap Go.IntKind.i64 ((x0.length:Int)+1))>x3) (@Int.decLt x3 (@Go.IntKind.wrap Go.IntKind.i64 ((x0.length:Int)+1))) (@Go.IntKind.wrap Go.IntKind.i64 ((x0.length:Int)+1)) x3) (@ite (@Kd.T kI) ((@Go.IntKind.wrap Go.IntKind.i64 ((x0.length:Int)+1))<x3) (@Int.decLt (@Go.IntKind.wrap Go.IntKind.i64 ((x0.length:Int)+1)) x3) (@Go.IntKind.wrap Go.IntKind.i64 ((x0.length:Int)+1)) x3))) 0) none))
def wqe5(k:Nat){R:Type}: Nat→(List Int)→Int→Int→Int→(List (List Int))→Int→((List (List Int))→Option R)→Option R
 |0,_,_,_,_,_,_,_=>none
 |n+1,s0,s1,s2,s3,s4,s5,K=>wqkl k (fun s0 s1 s2 s3 s4 s5=>wqe5 k n s0 s1 s2 s3 s4 s5 K) s0 s1 s2 s3 s4 s5 K
theorem wqrj(k:Nat){R:Type}(I:Nat→St→Option R)(K:((List (List Int))→Option R))(n:Nat): ∀(s0:(List Int)) (s1 s2 s3:Int) (s4:(List (List Int))) (s5:Int),wqe4 k I n (wq9f s0 s1 s2 s3 s4 s5) K=wqe5 k n s0 s1 s2 s3 s4 s5 K:=by
 induction n with
 |zero=>intros;rfl
 |succ n ih =>
  intro s0 s1 s2 s3 s4 s5
  refine(?_:_=_).trans ((wqri k (upI 1011 (fun s=>wqe4 k I n s K) I) s0 s1 s2 s3 s4 s5 K).trans ?_)
  ·rfl
  ·simp only[wq43,ih]<;>rfl
def wqn9(k:Nat){R:Type}(x0:(List Int))(x1 x2 x3:Int)(K:((List (List Int))→Option R)): Option R:=wqud k (fun s0 s1 s2 s3 s4 s5=>wqe5 k k s0 s1 s2 s3 s4 s5 K) x0 x1 x2 x3 K
theorem wq11l(k:Nat){R:Type}(x0:(List Int))(x1 x2 x3:Int)(K:((List (List Int))→Option R)): fnW (wqk1 k) k Tryz.f141 wqk0 [.v (.sl (.int .u8)) x0,.v (.sl (.int .u8)) [x1],.v kI x2,.v kI x3] [] (wqc8 K)=wqn9 k x0 x1 x2 x3 K:=by
 refine Eq.trans (b:=wqud k (fun s0 s1 s2 s3 s4 s5=>wqe4 k (fun _ _=>none) k (wq9f s0 s1 s2 s3 s4 s5) K) x0 x1 x2 x3 K) (by kernel_rfl) ?_
 simp only[wqrj]<;>rfl
def wqdd(k:Nat){R:Type}: List PV→List (Nm×HObj)→(Out→Option R)→Option R
 |[.v (.sl (.int .u8)) x0,.v (.sl (.int .u8)) [x1],.v (.int .i64) x2,.v (.int .i64) x3],[],K=>wqn9 k x0 x1 x2 x3 (fun y0=>K (.ret [.v (.sl (.sl (.int .u8))) y0] []))
 |_,_,_=>none
theorem wq1a0(k:Nat): DOK Tryz.prog 141 (wqdd k):=by
 intro ps hp R K r h
 have h:wqdd k ps hp K=some r:=h
 unfold wqdd at h
 split at h
 ·rw[←wq11l]at h
  exact fnW_ok ⟨tyT_ok,(wqd (wq1hn k) (wqd (wq1ho k) CTab.nil_ok)),fun _ _=>rfl⟩ mixed (by kernel_rfl) (by kernel_rfl) h fun o ho=>by unfold wqc8 at ho;split at ho<;>first|exact ho|cases ho
 ·cases h
end Go.Proofs.YtabkhphoacmcdaaGreatDoor.Pvm
end
noncomputable section
namespace Go.Proofs.YtabkhphoacmcdaaGreatDoor.Pvm
open Go Go.Proofs
def wq1bt:List LS:=[.sl (.int .u8),.sl (.int .u8)]
def wque{R:Type}(K:((List (List Int))→Option R)): Out→Option R
 |.ret [.v (.sl (.sl (.int .u8))) y0] []=>K y0
 |_=>none
def wq1fa:RetSpec:=⟨[.sl (.sl (.int .u8))],[],[]⟩
def wq1fb(k:Nat): Ctx:=⟨tyT,[],(.add 141 wq14g (wqdd k) .nil),[],[],[],@SH⟩
def wq1hp(k:Nat){R:Type}(x0:(List Int))(x1:Int)(K:((List (List Int))→Option R)): Option R:=wqn9 k x0 x1 0 (@Neg.neg Int @Int.instNegInt (1:Int)) K
def wquf(k:Nat){R:Type}(x0:(List Int))(x1:Int)(K:((List (List Int))→Option R)): Option R:=wq1hp k x0 x1 K
theorem wq1a1(k:Nat){R:Type}(x0:(List Int))(x1:Int)(K:((List (List Int))→Option R)): fnW (wq1fb k) k Tryz.f95 wq1fa [.v (.sl (.int .u8)) x0,.v (.sl (.int .u8)) [x1]] [] (wque K)=wquf k x0 x1 K:=by
 kernel_rfl
def wqim(k:Nat){R:Type}: List PV→List (Nm×HObj)→(Out→Option R)→Option R
 |[.v (.sl (.int .u8)) x0,.v (.sl (.int .u8)) [x1]],[],K=>wquf k x0 x1 (fun y0=>K (.ret [.v (.sl (.sl (.int .u8))) y0] []))
 |_,_,_=>none
theorem wq1hq(k:Nat): DOK Tryz.prog 95 (wqim k):=by
 intro ps hp R K r h
 have h:wqim k ps hp K=some r:=h
 unfold wqim at h
 split at h
 ·rw[←wq1a1]at h
  exact fnW_ok ⟨tyT_ok,(wqd (wq1a0 k) CTab.nil_ok),fun _ _=>rfl⟩ mixed (by kernel_rfl) (by kernel_rfl) h fun o ho=>by unfold wque at ho;split at ho<;>first|exact ho|cases ho
 ·cases h
end Go.Proofs.YtabkhphoacmcdaaGreatDoor.Pvm
end
noncomputable section
namespace Go.Proofs.YtabkhphoacmcdaaGreatDoor.Pvm
open Go Go.Proofs
def wq1jy:List LS:=[.any]
def wq15o{R:Type}(K:(Bool→Option R)): Out→Option R
 |.ret [.v .bool y0] []=>K y0
 |_=>none
def wq1mv:RetSpec:=⟨[.any],[],[]⟩
def wq1mw(k:Nat): Ctx:=⟨tyT,[],.nil,[],[],[],@SH⟩
def wq1p6(k:Nat){R:Type}(x0:Int)(K:(Bool→Option R)): Option R:=K (cond (cond (decide (x0≥0)) (decide (x0<32)) false) true (x0 == 127))
def wq1hr(k:Nat){R:Type}(x0:Int)(K:(Bool→Option R)): Option R:=wq1p6 k x0 K
theorem wq1hs(k:Nat){R:Type}(x0:Int)(K:(Bool→Option R)): fnW (wq1mw k) k Tryz.f97 wq1mv [.v (.int .i32) x0] [] (wq15o K)=wq1hr k x0 K:=by
 kernel_rfl
def wqrk(k:Nat){R:Type}: List PV→List (Nm×HObj)→(Out→Option R)→Option R
 |[.v (.int .i32) x0],[],K=>wq1hr k x0 (fun y0=>K (.ret [.v .bool y0] []))
 |_,_,_=>none
theorem wq1ht(k:Nat): DOK Tryz.prog 97 (wqrk k):=by
 intro ps hp R K r h
 have h:wqrk k ps hp K=some r:=h
 unfold wqrk at h
 split at h
 ·rw[←wq1hs]at h
  exact fnW_ok ⟨tyT_ok,CTab.nil_ok,fun _ _=>rfl⟩ mixed (by kernel_rfl) (by kernel_rfl) h fun o ho=>by unfold wq15o at ho;split at ho<;>first|exact ho|cases ho
 ·cases h
end Go.Proofs.YtabkhphoacmcdaaGreatDoor.Pvm
end
namespace Go.Proofs
open Go.Shelf
def Tryz.laysLaysGwn15_ren:Go.Shelf.Ren:=⟨fun|15=>96|20=>142|n=>n,fun|9=>9|23=>146|3=>3|4=>4|0=>0|21=>21|n=>n,fun|n=>n⟩
theorem Tryz.laysLaysGwn15:Go.Proofs.LaysGw.n15 Tryz.prog Tryz.laysLaysGwn15_ren:={
 mixed:=by kernel_rfl
 f15:=Tryz.func96.trans (congrArg some (by kernel_rfl))
 f20:=Tryz.func142.trans (congrArg some (by kernel_rfl))
 t0:=Tryz.underlying0
 a0:=Tryz.isAgg0
 z0:=Tryz.sizeOf0
 v0:=Tryz.zeroValue0
 i0:=by kernel_rfl
 t3:=Tryz.underlying3
 a3:=Tryz.isAgg3
 z3:=Tryz.sizeOf3
 v3:=Tryz.zeroValue3
 i3:=by kernel_rfl
 t4:=Tryz.underlying4
 a4:=Tryz.isAgg4
 z4:=Tryz.sizeOf4
 v4:=Tryz.zeroValue4
 i4:=by kernel_rfl
 t9:=Tryz.underlying9
 a9:=Tryz.isAgg9
 z9:=Tryz.sizeOf9
 v9:=Tryz.zeroValue9
 i9:=by kernel_rfl
 t21:=Tryz.underlying21
 a21:=Tryz.isAgg21
 z21:=Tryz.sizeOf21
 v21:=Tryz.zeroValue21
 i21:=by kernel_rfl
 t23:=Tryz.underlying146
 a23:=Tryz.isAgg146
 z23:=Tryz.sizeOf146
 v23:=Tryz.zeroValue146
 i23:=by kernel_rfl }
end Go.Proofs
namespace Go.Proofs.YtabkhphoacmcdaaGreatDoor.Pvm
open Go Go.Proofs Go.RowKit Go.Shelf
def oddP(n:Nat): Bool:=cond (cond (decide ((n:Int)≥0)) (decide ((n:Int)<32)) false) true ((n:Int) == 127)
def idxOdd(s:List UInt8): Int:=Lib.idxFunc oddP true ⟨s.toArray⟩
def wqw6:List LS:=[.any,.clo []]
def wqo7(k:Nat){R:Type}(x0:List UInt8)(K:Int→Option R): Option R:=K (idxOdd x0)
def wqe6(k:Nat){R:Type}: List PV→List (Nm×HObj)→(Out→Option R)→Option R
 |[.v .str x0,.clo 97 []],[],K=>wqo7 k x0 (fun y0=>K (.ret [.v (.int .i64) y0] []))
 |_,_,_=>none
theorem wq1q1(w:World): PredGrows Tryz.prog 97 #[] oddP w:=by
 intro W x hx hb
 exact wq1ld (P:=Tryz.prog) (f:=97) (fn:=Tryz.f97) (c:=Tryz.f97.body.getD .skip) (by kernel_rfl) (by kernel_rfl) (by kernel_rfl) (ps:=[.v (.int .i32) (x:Int)]) (b:=oddP x)
  (wq1ht 0 _ _ _ lawK (oddP x) rfl) (vals:=[.int .i32 (x:Int)]) ⟨_,[],rfl,rfl,rfl⟩
theorem wq11m(k:Nat){ps:List PV}{hp:List (Nm×HObj)}{R:Type}{K:Out→Option R}{r:R}(h:wqe6 k ps hp K=some r): DoesTo Tryz.prog 96 ps hp fun out=>K out=some r:=by
 unfold wqe6 at h
 split at h
 ·next x0 =>
  intro G w vals hr obj dis
  obtain⟨v0,l0,rfl,h0,v1,l1,rfl,h1,rfl⟩:=hr
  have e0:v0 = .string ⟨x0.toArray⟩:=by simpa [RV,RD]using h0
  obtain⟨vs,e1,hvs⟩:=h1
  obtain rfl:vs=[]:=hvs
  subst e0 e1
  have c:=Any.strings_IndexFunc_grows Tryz.laysLaysGwn15 97 #[] (enters (P:=Tryz.prog) (fn:=Tryz.f97) (c:=Tryz.f97.body.getD .skip) (by kernel_rfl) (by kernel_rfl) (by kernel_rfl)) oddP ⟨x0.toArray⟩ w (wq1q1 w)
  show Does _ _ #[_,_] _ _
  unfold Does
  rw[enters (P:=Tryz.prog) (fn:=Tryz.f96) (c:=Tryz.f96.body.getD .skip) (by kernel_rfl) (by kernel_rfl) (by kernel_rfl)]
  refine Calls.mono c fun e w' hh => ?_
  obtain⟨rfl,b⟩:=hh
  exact⟨.ret [.v (.int .i64) (idxOdd x0)] [],h,G,⟨_,rfl,rfl⟩,wq1le b⟩
 ·cases h
end Go.Proofs.YtabkhphoacmcdaaGreatDoor.Pvm
noncomputable section
namespace Go.Proofs.YtabkhphoacmcdaaGreatDoor.Pvm
open Go Go.Proofs
def wqrl:List LS:=[.any,.any]
def wq7e{R:Type}(K:((List UInt8)→Option R)): Out→Option R
 |.ret [.v .str y0] []=>K y0
 |_=>none
def wqbt:RetSpec:=⟨[.any],[],[]⟩
def wqbu(k:Nat): Ctx:=⟨tyT,[(1001,⟨[(0,.any),(1,.any)],[]⟩)],.nil,[],[],[],@SH⟩
def wq63(s0:(List UInt8))(s1:Int): St:=⟨mkT [(0,.v .str s0),(1,.v (.int .u8) s1)],mkH []⟩
def wq8x(k:Nat){R:Type}(I:Nat→St→Option R)(n:Nat)(s:St)(K:((List UInt8)→Option R)): Option R:=loopK (wqbu k) k Tryz.f143 wqbt 1001 [1,0,0] I n s (wq7e K)
def wqdq(k:Nat){R:Type}(E1001:((List UInt8)→Int→Option R))(s0:(List UInt8))(s1:Int)(K:((List UInt8)→Option R)): Option R:=cond ((!((decide ((s0.length:Int)>0)) == true)) || (inb 0 (s0.length:Int))) (cond (cond (decide ((s0.length:Int)>0)) (((s0.getD (Int.toNat 0) 0).toNat:Int) == s1) false) (cond (bnd 1 (s0.length:Int) (s0.length:Int)) (E1001 (cut s0 1 (s0.length:Int)) s1) none) (K s0)) none
theorem wqk2(k:Nat){R:Type}(I:Nat→St→Option R)(s0:(List UInt8))(s1:Int)(K:((List UInt8)→Option R)): bodyK (wqbu k) k Tryz.f143 wqbt [1,0,0,0] I (wq63 s0 s1) (wq7e K)=wqdq k (fun s0 s1=>I 1001 (wq63 s0 s1)) s0 s1 K:=by kernel_rfl
def wqjb(k:Nat){R:Type}(E1001:((List UInt8)→Int→Option R))(x0:(List UInt8))(x1:Int)(K:((List UInt8)→Option R)): Option R:=E1001 x0 x1
def wq8y(k:Nat){R:Type}: Nat→(List UInt8)→Int→((List UInt8)→Option R)→Option R
 |0,_,_,_=>none
 |n+1,s0,s1,K=>wqdq k (fun s0 s1=>wq8y k n s0 s1 K) s0 s1 K
theorem wqk3(k:Nat){R:Type}(I:Nat→St→Option R)(K:((List UInt8)→Option R))(n:Nat): ∀(s0:(List UInt8)) (s1:Int),wq8x k I n (wq63 s0 s1) K=wq8y k n s0 s1 K:=by
 induction n with
 |zero=>intros;rfl
 |succ n ih =>
  intro s0 s1
  refine(?_:_=_).trans ((wqk2 k (upI 1001 (fun s=>wq8x k I n s K) I) s0 s1 K).trans ?_)
  ·rfl
  ·simp only[wq43,ih]<;>rfl
def wqcs(k:Nat){R:Type}(x0:(List UInt8))(x1:Int)(K:((List UInt8)→Option R)): Option R:=wqjb k (fun s0 s1=>wq8y k k s0 s1 K) x0 x1 K
theorem wqpz(k:Nat){R:Type}(x0:(List UInt8))(x1:Int)(K:((List UInt8)→Option R)): fnW (wqbu k) k Tryz.f143 wqbt [.v .str x0,.v (.int .u8) x1] [] (wq7e K)=wqcs k x0 x1 K:=by
 refine Eq.trans (b:=wqjb k (fun s0 s1=>wq8x k (fun _ _=>none) k (wq63 s0 s1) K) x0 x1 K) (by kernel_rfl) ?_
 simp only[wqk3]<;>rfl
def wq7y(k:Nat){R:Type}: List PV→List (Nm×HObj)→(Out→Option R)→Option R
 |[.v .str x0,.v (.int .u8) x1],[],K=>wqcs k x0 x1 (fun y0=>K (.ret [.v .str y0] []))
 |_,_,_=>none
theorem wqug(k:Nat): DOK Tryz.prog 143 (wq7y k):=by
 intro ps hp R K r h
 have h:wq7y k ps hp K=some r:=h
 unfold wq7y at h
 split at h
 ·rw[←wqpz]at h
  exact fnW_ok ⟨tyT_ok,CTab.nil_ok,fun _ _=>rfl⟩ mixed (by kernel_rfl) (by kernel_rfl) h fun o ho=>by unfold wq7e at ho;split at ho<;>first|exact ho|cases ho
 ·cases h
end Go.Proofs.YtabkhphoacmcdaaGreatDoor.Pvm
end
noncomputable section
namespace Go.Proofs.YtabkhphoacmcdaaGreatDoor.Pvm
open Go Go.Proofs
def wqzb:List LS:=[.any,.any]
def wqkm{R:Type}(K:((List UInt8)→Option R)): Out→Option R
 |.ret [.v .str y0] []=>K y0
 |_=>none
def wq11n:RetSpec:=⟨[.any],[],[]⟩
def wq11o(k:Nat): Ctx:=⟨tyT,[],(.add 143 wqrl (wq7y k) .nil),[],[],[],@SH⟩
def wq14h(k:Nat){R:Type}(x0:(List UInt8))(x1:UInt8)(K:((List UInt8)→Option R)): Option R:=cond (cond (x0 == []) true ([x1] == [])) (K x0) (cond (cond ((@List.length UInt8 [x1]:Int) == 1) (decide (((([x1]).getD (Int.toNat 0) 0).toNat:Int)<128)) false) (wqcs k x0 ((([x1]).getD (Int.toNat 0) 0).toNat:Int) K) none)
def wqhx(k:Nat){R:Type}(x0:(List UInt8))(x1:UInt8)(K:((List UInt8)→Option R)): Option R:=wq14h k x0 x1 K
theorem wqw7(k:Nat){R:Type}(x0:(List UInt8))(x1:UInt8)(K:((List UInt8)→Option R)): fnW (wq11o k) k Tryz.f98 wq11n [.v .str x0,.v .str [x1]] [] (wqkm K)=wqhx k x0 x1 K:=by
 kernel_rfl
def wqb1(k:Nat){R:Type}: List PV→List (Nm×HObj)→(Out→Option R)→Option R
 |[.v .str x0,.v .str [x1]],[],K=>wqhx k x0 x1 (fun y0=>K (.ret [.v .str y0] []))
 |_,_,_=>none
theorem wq14i(k:Nat): DOK Tryz.prog 98 (wqb1 k):=by
 intro ps hp R K r h
 have h:wqb1 k ps hp K=some r:=h
 unfold wqb1 at h
 split at h
 ·rw[←wqw7]at h
  exact fnW_ok ⟨tyT_ok,(wqd (wqug k) CTab.nil_ok),fun _ _=>rfl⟩ mixed (by kernel_rfl) (by kernel_rfl) h fun o ho=>by unfold wqkm at ho;split at ho<;>first|exact ho|cases ho
 ·cases h
end Go.Proofs.YtabkhphoacmcdaaGreatDoor.Pvm
end
noncomputable section
namespace Go.Proofs.YtabkhphoacmcdaaGreatDoor.Pvm
open Go Go.Proofs
def wq1fc:List LS:=[.sl (.int .u8)]
def wqin{R:Type}(K:((List dT150)→Int→Int→Option R)): Out→Option R
 |.ret [.v (.sl (.pr (.int .i64) (.pr (.int .i64) .str))) y0,.agg [.v (.int .i64) y1,.v (.int .i64) y2]] []=>K y0 y1 y2
 |_=>none
def wquh:RetSpec:=⟨[.sl (.pr (.int .i64) (.pr (.int .i64) .str)),.ag [.any,.any]],[],[]⟩
def wqui(k:Nat): Ctx:=⟨tyT,[(1005,⟨[(3,.obj 13 [.any,.any]),(4,.own 100004 151 kdT150),(17,.sl (.sl (.int .u8))),(18,.any),(19,.any)],[]⟩)],(.add 95 wq1bt (wqim k) (.add 96 wqw6 (wqe6 k) (.add 97 wq1jy (wqrk k) (.add 98 wqzb (wqb1 k) (.add 99 wq114 (wqgg k) .nil))))),[],[],[],@SH⟩
def wqde(s0 s1:Int)(s2:(List dT150))(s3:(List (List Int)))(s4 s5:Int): St:=⟨mkT [(3,.ptr 13 0),(4,.row 100004),(17,.v (.sl (.sl (.int .u8))) s3),(18,.v kI s4),(19,.v kI s5)],mkH [(13,.var 29 [.v kI s0,.v kI s1]),(100004,.row 151 kdT150 s2)]⟩
def wqk4(k:Nat){R:Type}(I:Nat→St→Option R)(n:Nat)(s:St)(K:((List dT150)→Int→Int→Option R)): Option R:=loopK (wqui k) k Tryz.f57 wquh 1005 [1,1,1,0,1,0] I n s (wqin K)
def wqs7(k:Nat){R:Type}(E1005:(Int→Int→(List dT150)→(List (List Int))→Int→Int→Option R))(s0 s1:Int)(s2:(List dT150))(s3:(List (List Int)))(s4 s5:Int)(K:((List dT150)→Int→Int→Option R)): Option R:=cond (decide (s5<s4)) (cond (inb s5 (s3.length:Int)) (wqo7 k (wq73 (s3.getD s5.toNat (Kd.zero (@Kd.sl (@Kd.int Go.IntKind.u8))))) (fun y10=>cond (decide (y10≥0)) (K [] 2 (@Go.IntKind.wrap Go.IntKind.i64 (s5+1))) (wqhx k (wq73 (s3.getD s5.toNat (Kd.zero (@Kd.sl (@Kd.int Go.IntKind.u8))))) 32 (fun y11=>wqra k y11 (fun y12 y13=>cond (!y13) (K [] 3 (@Go.IntKind.wrap Go.IntKind.i64 (s5+1))) (cond (!(y12 == [])) (cond (fits s2.length (@List.length (@Kd.T (@Kd.pr kI (@Kd.pr kI Kd.str))) [((@Go.IntKind.wrap Go.IntKind.i64 (s5+1)),((@Go.IntKind.wrap Go.IntKind.i64 (((wq73 (s3.getD s5.toNat (Kd.zero (@Kd.sl (@Kd.int Go.IntKind.u8))))).length:Int)-(y11.length:Int))),y12))]) 32) (E1005 s0 s1 (s2++[((@Go.IntKind.wrap Go.IntKind.i64 (s5+1)),((@Go.IntKind.wrap Go.IntKind.i64 (((wq73 (s3.getD s5.toNat (Kd.zero (@Kd.sl (@Kd.int Go.IntKind.u8))))).length:Int)-(y11.length:Int))),y12))]) s3 s4 (@Go.IntKind.wrap Go.IntKind.i64 (s5+1))) none) (E1005 s0 s1 s2 s3 s4 (@Go.IntKind.wrap Go.IntKind.i64 (s5+1))))))))) none) (K s2 0 0)
theorem wqzc(k:Nat){R:Type}(I:Nat→St→Option R)(s0 s1:Int)(s2:(List dT150))(s3:(List (List Int)))(s4 s5:Int)(K:((List dT150)→Int→Int→Option R)): bodyK (wqui k) k Tryz.f57 wquh [1,1,1,0,1,0,0] I (wqde s0 s1 s2 s3 s4 s5) (wqin K)=wqs7 k (fun s0 s1 s2 s3 s4 s5=>I 1005 (wqde s0 s1 s2 s3 s4 s5)) s0 s1 s2 s3 s4 s5 K:=by kernel_rfl
def wq1a2(k:Nat){R:Type}(E1005:(Int→Int→(List dT150)→(List (List Int))→Int→Int→Option R))(x0:(List Int))(K:((List dT150)→Int→Int→Option R)): Option R:=cond (decide ((x0.length:Int)>16384)) (K [] 1 1) (wquf k x0 10 (fun y5=>E1005 0 0 [] y5 (y5.length:Int) 0))
def wqk5(k:Nat){R:Type}: Nat→Int→Int→(List dT150)→(List (List Int))→Int→Int→((List dT150)→Int→Int→Option R)→Option R
 |0,_,_,_,_,_,_,_=>none
 |n+1,s0,s1,s2,s3,s4,s5,K=>wqs7 k (fun s0 s1 s2 s3 s4 s5=>wqk5 k n s0 s1 s2 s3 s4 s5 K) s0 s1 s2 s3 s4 s5 K
theorem wqzd(k:Nat){R:Type}(I:Nat→St→Option R)(K:((List dT150)→Int→Int→Option R))(n:Nat): ∀(s0 s1:Int) (s2:(List dT150)) (s3:(List (List Int))) (s4 s5:Int),wqk4 k I n (wqde s0 s1 s2 s3 s4 s5) K=wqk5 k n s0 s1 s2 s3 s4 s5 K:=by
 induction n with
 |zero=>intros;rfl
 |succ n ih =>
  intro s0 s1 s2 s3 s4 s5
  refine(?_:_=_).trans ((wqzc k (upI 1005 (fun s=>wqk4 k I n s K) I) s0 s1 s2 s3 s4 s5 K).trans ?_)
  ·rfl
  ·simp only[wq43,ih]<;>rfl
def wqze(k:Nat){R:Type}(x0:(List Int))(K:((List dT150)→Int→Int→Option R)): Option R:=wq1a2 k (fun s0 s1 s2 s3 s4 s5=>wqk5 k k s0 s1 s2 s3 s4 s5 K) x0 K
theorem wq1bu(k:Nat){R:Type}(x0:(List Int))(K:((List dT150)→Int→Int→Option R)): fnW (wqui k) k Tryz.f57 wquh [.v (.sl (.int .u8)) x0] [] (wqin K)=wqze k x0 K:=by
 refine Eq.trans (b:=wq1a2 k (fun s0 s1 s2 s3 s4 s5=>wqk4 k (fun _ _=>none) k (wqde s0 s1 s2 s3 s4 s5) K) x0 K) (by kernel_rfl) ?_
 simp only[wqzd]<;>rfl
def wql4(k:Nat){R:Type}: List PV→List (Nm×HObj)→(Out→Option R)→Option R
 |[.v (.sl (.int .u8)) x0],[],K=>wqze k x0 (fun y0 y1 y2=>K (.ret [.v (.sl (.pr (.int .i64) (.pr (.int .i64) .str))) y0,.agg [.v (.int .i64) y1,.v (.int .i64) y2]] []))
 |_,_,_=>none
theorem wq1jz(k:Nat): DOK Tryz.prog 57 (wql4 k):=by
 intro ps hp R K r h
 have h:wql4 k ps hp K=some r:=h
 unfold wql4 at h
 split at h
 ·rw[←wq1bu]at h
  exact fnW_ok ⟨tyT_ok,(wqd (wq1hq k) (CTab.add_ok (fun h=>wq11m k h) (wqd (wq1ht k) (wqd (wq14i k) (wqd (wq19h k) CTab.nil_ok))))),fun _ _=>rfl⟩ mixed (by kernel_rfl) (by kernel_rfl) h fun o ho=>by unfold wqin at ho;split at ho<;>first|exact ho|cases ho
 ·cases h
end Go.Proofs.YtabkhphoacmcdaaGreatDoor.Pvm
end
noncomputable section
namespace Go.Proofs.YtabkhphoacmcdaaGreatDoor.Pvm
open Go Go.Proofs
def wq1hu:List LS:=[.sl (.int .u8)]
def wq11p{R:Type}(K:((List dT72)→Int→Int→Option R)): Out→Option R
 |.ret [.agg [.v (.sl (.pr (.int .i64) (.pr (.int .i64) (.pr .str (.pr .bool (.pr (.sl .str) (.sl (.int .i64)))))))) y0],.agg [.v (.int .i64) y1,.v (.int .i64) y2]] []=>K y0 y1 y2
 |_=>none
def wq1k0:RetSpec:=⟨[.ag [.sl (.pr (.int .i64) (.pr (.int .i64) (.pr .str (.pr .bool (.pr (.sl .str) (.sl (.int .i64)))))))],.ag [.any,.any]],[],[]⟩
def wq1k1(k:Nat): Ctx:=⟨tyT,[],(.add 57 wq1fc (wql4 k) (.add 58 wq1mu (wqvc k) (.add 59 wq1p3 (wq19s k) .nil))),[],[],[(3,(.of [(0,1),(1,2),(2,0),(3,0)] .done)),(6,(.of [(0,1),(1,2),(2,0),(3,0)] .done))],@SH⟩
def wq1mx(k:Nat){R:Type}(x0:(List Int))(K:((List dT72)→Int→Int→Option R)): Option R:=wqze k x0 (fun y4 y5 y6=>cond (y5 != 0) (K [] y5 y6) (wq1f6 k y4 (fun y7 y8 y9=>cond (y8 != 0) (K [] y8 y9) (wq1jv k y7 K))))
def wq14j(k:Nat){R:Type}(x0:(List Int))(K:((List dT72)→Int→Int→Option R)): Option R:=wq1mx k x0 K
theorem wq1fd(k:Nat){R:Type}(x0:(List Int))(K:((List dT72)→Int→Int→Option R)): fnW (wq1k1 k) k Tryz.f29 wq1k0 [.v (.sl (.int .u8)) x0] [] (wq11p K)=wq14j k x0 K:=by
 kernel_rfl
def wqo8(k:Nat){R:Type}: List PV→List (Nm×HObj)→(Out→Option R)→Option R
 |[.v (.sl (.int .u8)) x0],[],K=>wq14j k x0 (fun y0 y1 y2=>K (.ret [.agg [.v (.sl (.pr (.int .i64) (.pr (.int .i64) (.pr .str (.pr .bool (.pr (.sl .str) (.sl (.int .i64)))))))) y0],.agg [.v (.int .i64) y1,.v (.int .i64) y2]] []))
 |_,_,_=>none
theorem wq1my(k:Nat): DOK Tryz.prog 29 (wqo8 k):=by
 intro ps hp R K r h
 have h:wqo8 k ps hp K=some r:=h
 unfold wqo8 at h
 split at h
 ·rw[←wq1fd]at h
  exact fnW_ok ⟨tyT_ok,(wqd (wq1jz k) (wqd (wq1q0 k) (CTab.add_ok (fun h=>wq1sd k h) CTab.nil_ok))),fun _ _=>rfl⟩ mixed (by kernel_rfl) (by kernel_rfl) h fun o ho=>by unfold wq11p at ho;split at ho<;>first|exact ho|cases ho
 ·cases h
end Go.Proofs.YtabkhphoacmcdaaGreatDoor.Pvm
end
noncomputable section
namespace Go.Proofs.YtabkhphoacmcdaaGreatDoor.Pvm
open Go Go.Proofs
def wqna:List LS:=[.sl (.int .u8)]
def wqs8{R:Type}(K:((List ((List UInt8)×(List Int)))→(List dT56)→Int→Int→Option R)): Out→Option R
 |.ret [.agg [.v (.sl (.pr .str (.sl (.int .i64)))) y0,.v (.sl (.pr .str (.pr .str (.pr .bool (.pr (.int .i64) (.pr (.int .i64) (.pr .bool (.pr (.pr .str (.pr (.int .i64) (.pr (.int .i64) (.pr .flt (.pr .bool .bool))))) (.sl (.int .i64)))))))))) y1],.agg [.v (.int .i64) y2,.v (.int .i64) y3]] []=>K y0 y1 y2 y3
 |_=>none
def wq1bv:RetSpec:=⟨[.ag [.sl (.pr .str (.sl (.int .i64))),.sl (.pr .str (.pr .str (.pr .bool (.pr (.int .i64) (.pr (.int .i64) (.pr .bool (.pr (.pr .str (.pr (.int .i64) (.pr (.int .i64) (.pr .flt (.pr .bool .bool))))) (.sl (.int .i64)))))))))],.ag [.any,.any]],[],[]⟩
def wq1bw(k:Nat): Ctx:=⟨tyT,[],(.add 16 wqu6 (wqo4 k) (.add 29 wq1hu (wqo8 k) .nil)),[],[],[(3,(.of [(0,1),(1,2),(2,0),(3,0)] .done))],@SH⟩
def wq1fe(k:Nat){R:Type}(x0:(List Int))(K:((List ((List UInt8)×(List Int)))→(List dT56)→Int→Int→Option R)): Option R:=wq14j k x0 (fun y4 y5 y6=>cond (y5 != 0) (K [] [] y5 y6) (wqhq k y4 K))
def wqb2(k:Nat){R:Type}(x0:(List Int))(K:((List ((List UInt8)×(List Int)))→(List dT56)→Int→Int→Option R)): Option R:=wq1fe k x0 K
theorem wq16y(k:Nat){R:Type}(x0:(List Int))(K:((List ((List UInt8)×(List Int)))→(List dT56)→Int→Int→Option R)): fnW (wq1bw k) k Tryz.f11 wq1bv [.v (.sl (.int .u8)) x0] [] (wqs8 K)=wqb2 k x0 K:=by
 kernel_rfl
def wqct(k:Nat){R:Type}: List PV→List (Nm×HObj)→(Out→Option R)→Option R
 |[.v (.sl (.int .u8)) x0],[],K=>wqb2 k x0 (fun y0 y1 y2 y3=>K (.ret [.agg [.v (.sl (.pr .str (.sl (.int .i64)))) y0,.v (.sl (.pr .str (.pr .str (.pr .bool (.pr (.int .i64) (.pr (.int .i64) (.pr .bool (.pr (.pr .str (.pr (.int .i64) (.pr (.int .i64) (.pr .flt (.pr .bool .bool))))) (.sl (.int .i64)))))))))) y1],.agg [.v (.int .i64) y2,.v (.int .i64) y3]] []))
 |_,_,_=>none
theorem wq11q(k:Nat): DOK Tryz.prog 11 (wqct k):=by
 intro ps hp R K r h
 have h:wqct k ps hp K=some r:=h
 unfold wqct at h
 split at h
 ·rw[←wq16y]at h
  exact fnW_ok ⟨tyT_ok,(CTab.add_ok (fun h=>wq1dl k h) (wqd (wq1my k) CTab.nil_ok)),fun _ _=>rfl⟩ mixed (by kernel_rfl) (by kernel_rfl) h fun o ho=>by unfold wqs8 at ho;split at ho<;>first|exact ho|cases ho
 ·cases h
end Go.Proofs.YtabkhphoacmcdaaGreatDoor.Pvm
end
noncomputable section
namespace Go.Proofs.YtabkhphoacmcdaaGreatDoor.Pvm
open Go Go.Proofs
def wqw8:List LS:=[.any]
def wqjc{R:Type}(K:(Bool→Option R)): Out→Option R
 |.ret [.v .bool y0] []=>K y0
 |_=>none
def wqzf:RetSpec:=⟨[.any],[],[]⟩
def wqzg(k:Nat): Ctx:=⟨tyT,[],.nil,[],[],[],@SH⟩
def wq11r(k:Nat){R:Type}(x0:Nat)(K:(Bool→Option R)): Option R:=K (@fltIs @Go.BinOp.neq x0 x0)
def wqc9(k:Nat){R:Type}(x0:Nat)(K:(Bool→Option R)): Option R:=wq11r k x0 K
theorem wquj(k:Nat){R:Type}(x0:Nat)(K:(Bool→Option R)): fnW (wqzg k) k Tryz.f247 wqzf [.v .flt x0] [] (wqjc K)=wqc9 k x0 K:=by
 kernel_rfl
def wqa0(k:Nat){R:Type}: List PV→List (Nm×HObj)→(Out→Option R)→Option R
 |[.v .flt x0],[],K=>wqc9 k x0 (fun y0=>K (.ret [.v .bool y0] []))
 |_,_,_=>none
theorem wq11s(k:Nat): DOK Tryz.prog 247 (wqa0 k):=by
 intro ps hp R K r h
 have h:wqa0 k ps hp K=some r:=h
 unfold wqa0 at h
 split at h
 ·rw[←wquj]at h
  exact fnW_ok ⟨tyT_ok,CTab.nil_ok,fun _ _=>rfl⟩ mixed (by kernel_rfl) (by kernel_rfl) h fun o ho=>by unfold wqjc at ho;split at ho<;>first|exact ho|cases ho
 ·cases h
end Go.Proofs.YtabkhphoacmcdaaGreatDoor.Pvm
end
noncomputable section
namespace Go.Proofs.YtabkhphoacmcdaaGreatDoor.Pvm
open Go Go.Proofs
def wqbv:List LS:=[.any,.any]
def wqgk{R:Type}(K:(Int→Option R)): Out→Option R
 |.ret [.v (.int .i64) y0] []=>K y0
 |_=>none
def wquk:RetSpec:=⟨[.any],[],[]⟩
def wqul(k:Nat): Ctx:=⟨tyT,[],(.add 247 wqw8 (wqa0 k) .nil),[],[],[],@SH⟩
def wqw9(k:Nat){R:Type}(x0 x1:Nat)(K:(Int→Option R)): Option R:=wqc9 k x0 (fun y5=>wqc9 k x1 (fun y6=>cond y5 (cond y6 (K 0) (K (@Neg.neg Int @Int.instNegInt (1:Int)))) (cond y6 (K 1) (cond (@fltIs @Go.BinOp.lss x0 x1) (K (@Neg.neg Int @Int.instNegInt (1:Int))) (cond (@fltIs @Go.BinOp.gtr x0 x1) (K 1) (K 0))))))
def wq53(k:Nat){R:Type}(x0 x1:Nat)(K:(Int→Option R)): Option R:=wqw9 k x0 x1 K
theorem wqrm(k:Nat){R:Type}(x0 x1:Nat)(K:(Int→Option R)): fnW (wqul k) k Tryz.f217 wquk [.v .flt x0,.v .flt x1] [] (wqgk K)=wq53 k x0 x1 K:=by
 kernel_rfl
def wq6j(k:Nat){R:Type}: List PV→List (Nm×HObj)→(Out→Option R)→Option R
 |[.v .flt x0,.v .flt x1],[],K=>wq53 k x0 x1 (fun y0=>K (.ret [.v (.int .i64) y0] []))
 |_,_,_=>none
theorem wqkn(k:Nat): DOK Tryz.prog 217 (wq6j k):=by
 intro ps hp R K r h
 have h:wq6j k ps hp K=some r:=h
 unfold wq6j at h
 split at h
 ·rw[←wqrm]at h
  exact fnW_ok ⟨tyT_ok,(wqd (wq11s k) CTab.nil_ok),fun _ _=>rfl⟩ mixed (by kernel_rfl) (by kernel_rfl) h fun o ho=>by unfold wqgk at ho;split at ho<;>first|exact ho|cases ho
 ·cases h
end Go.Proofs.YtabkhphoacmcdaaGreatDoor.Pvm
end
noncomputable section
namespace Go.Proofs.YtabkhphoacmcdaaGreatDoor.Pvm
open Go Go.Proofs
def wq16z:List LS:=[.any]
def wqq0{R:Type}(K:(Bool→Option R)): Out→Option R
 |.ret [.v .bool y0] []=>K y0
 |_=>none
def wq1a3:RetSpec:=⟨[.any],[],[]⟩
def wq1a4(k:Nat): Ctx:=⟨tyT,[],.nil,[],[],[],@SH⟩
def wq1bx(k:Nat){R:Type}(x0:Int)(K:(Bool→Option R)): Option R:=K (x0 != x0)
def wqio(k:Nat){R:Type}(x0:Int)(K:(Bool→Option R)): Option R:=wq1bx k x0 K
theorem wq14k(k:Nat){R:Type}(x0:Int)(K:(Bool→Option R)): fnW (wq1a4 k) k Tryz.f246 wq1a3 [.v kI x0] [] (wqq0 K)=wqio k x0 K:=by
 kernel_rfl
def wqeu(k:Nat){R:Type}: List PV→List (Nm×HObj)→(Out→Option R)→Option R
 |[.v (.int .i64) x0],[],K=>wqio k x0 (fun y0=>K (.ret [.v .bool y0] []))
 |_,_,_=>none
theorem wq1by(k:Nat): DOK Tryz.prog 246 (wqeu k):=by
 intro ps hp R K r h
 have h:wqeu k ps hp K=some r:=h
 unfold wqeu at h
 split at h
 ·rw[←wq14k]at h
  exact fnW_ok ⟨tyT_ok,CTab.nil_ok,fun _ _=>rfl⟩ mixed (by kernel_rfl) (by kernel_rfl) h fun o ho=>by unfold wqq0 at ho;split at ho<;>first|exact ho|cases ho
 ·cases h
end Go.Proofs.YtabkhphoacmcdaaGreatDoor.Pvm
end
noncomputable section
namespace Go.Proofs.YtabkhphoacmcdaaGreatDoor.Pvm
open Go Go.Proofs
def wqo9:List LS:=[.any,.any]
def wqnb{R:Type}(K:(Int→Option R)): Out→Option R
 |.ret [.v (.int .i64) y0] []=>K y0
 |_=>none
def wq14l:RetSpec:=⟨[.any],[],[]⟩
def wq14m(k:Nat): Ctx:=⟨tyT,[],(.add 246 wq16z (wqeu k) .nil),[],[],[],@SH⟩
def wq170(k:Nat){R:Type}(x0 x1:Int)(K:(Int→Option R)): Option R:=wqio k x0 (fun y5=>wqio k x1 (fun y6=>cond y5 (cond y6 (K 0) (K (@Neg.neg Int @Int.instNegInt (1:Int)))) (cond y6 (K 1) (cond (decide (x0<x1)) (K (@Neg.neg Int @Int.instNegInt (1:Int))) (cond (decide (x0>x1)) (K 1) (K 0))))))
def wq92(k:Nat){R:Type}(x0 x1:Int)(K:(Int→Option R)): Option R:=wq170 k x0 x1 K
theorem wqzh(k:Nat){R:Type}(x0 x1:Int)(K:(Int→Option R)): fnW (wq14m k) k Tryz.f216 wq14l [.v kI x0,.v kI x1] [] (wqnb K)=wq92 k x0 x1 K:=by
 kernel_rfl
def wqca(k:Nat){R:Type}: List PV→List (Nm×HObj)→(Out→Option R)→Option R
 |[.v (.int .i64) x0,.v (.int .i64) x1],[],K=>wq92 k x0 x1 (fun y0=>K (.ret [.v (.int .i64) y0] []))
 |_,_,_=>none
theorem wq171(k:Nat): DOK Tryz.prog 216 (wqca k):=by
 intro ps hp R K r h
 have h:wqca k ps hp K=some r:=h
 unfold wqca at h
 split at h
 ·rw[←wqzh]at h
  exact fnW_ok ⟨tyT_ok,(wqd (wq1by k) CTab.nil_ok),fun _ _=>rfl⟩ mixed (by kernel_rfl) (by kernel_rfl) h fun o ho=>by unfold wqnb at ho;split at ho<;>first|exact ho|cases ho
 ·cases h
end Go.Proofs.YtabkhphoacmcdaaGreatDoor.Pvm
end
noncomputable section
namespace Go.Proofs.YtabkhphoacmcdaaGreatDoor.Pvm
open Go Go.Proofs
def wqab:List LS:=[.any]
def wqs9{R:Type}(K:(Bool→Option R)): Out→Option R
 |.ret [.v .bool y0] []=>K y0
 |_=>none
def wq1bz:RetSpec:=⟨[.any],[],[]⟩
def wq1c0(k:Nat): Ctx:=⟨tyT,[],(.add 170 wqf2 (wq8c k) .nil),[],[],[],@SH⟩
def wq1ff(k:Nat){R:Type}(x0:Nat)(K:(Bool→Option R)): Option R:=wqa3 k x0 (fun y4=>K (decide ((@Go.IntKind.wrap Go.IntKind.i64 y4)<0)))
def wq2y(k:Nat){R:Type}(x0:Nat)(K:(Bool→Option R)): Option R:=wq1ff k x0 K
theorem wq172(k:Nat){R:Type}(x0:Nat)(K:(Bool→Option R)): fnW (wq1c0 k) k Tryz.f161 wq1bz [.v .flt x0] [] (wqs9 K)=wq2y k x0 K:=by
 kernel_rfl
def wq8m(k:Nat){R:Type}: List PV→List (Nm×HObj)→(Out→Option R)→Option R
 |[.v .flt x0],[],K=>wq2y k x0 (fun y0=>K (.ret [.v .bool y0] []))
 |_,_,_=>none
theorem wql5(k:Nat): DOK Tryz.prog 161 (wq8m k):=by
 intro ps hp R K r h
 have h:wq8m k ps hp K=some r:=h
 unfold wq8m at h
 split at h
 ·rw[←wq172]at h
  exact fnW_ok ⟨tyT_ok,(CTab.add_ok (fun h=>wqhj k h) CTab.nil_ok),fun _ _=>rfl⟩ mixed (by kernel_rfl) (by kernel_rfl) h fun o ho=>by unfold wqs9 at ho;split at ho<;>first|exact ho|cases ho
 ·cases h
end Go.Proofs.YtabkhphoacmcdaaGreatDoor.Pvm
end
noncomputable section
namespace Go.Proofs.YtabkhphoacmcdaaGreatDoor.Pvm
open Go Go.Proofs
def wqwt:List LS:=[.any]
def wqum{R:Type}(K:(Int→Option R)): Out→Option R
 |.ret [.v (.int .i64) y0] []=>K y0
 |_=>none
def wq1fg:RetSpec:=⟨[.any],[],[]⟩
def wq1fh(k:Nat): Ctx:=⟨tyT,[],(.add 134 wqcz (wqak k) (.add 217 wqbv (wq6j k) .nil)),[],[],[],@SH⟩
def wq1hv(k:Nat){R:Type}(x0:Nat)(K:(Int→Option R)): Option R:=wq3s k x0 (fun y4=>cond y4 (K 2) (wq53 k x0 0 K))
def wqcu(k:Nat){R:Type}(x0:Nat)(K:(Int→Option R)): Option R:=wq1hv k x0 K
theorem wq1a5(k:Nat){R:Type}(x0:Nat)(K:(Int→Option R)): fnW (wq1fh k) k Tryz.f215 wq1fg [.v .flt x0] [] (wqum K)=wqcu k x0 K:=by
 kernel_rfl
def wqip(k:Nat){R:Type}: List PV→List (Nm×HObj)→(Out→Option R)→Option R
 |[.v .flt x0],[],K=>wqcu k x0 (fun y0=>K (.ret [.v (.int .i64) y0] []))
 |_,_,_=>none
theorem wq1hw(k:Nat): DOK Tryz.prog 215 (wqip k):=by
 intro ps hp R K r h
 have h:wqip k ps hp K=some r:=h
 unfold wqip at h
 split at h
 ·rw[←wq1a5]at h
  exact fnW_ok ⟨tyT_ok,(wqd (wqqg k) (wqd (wqkn k) CTab.nil_ok)),fun _ _=>rfl⟩ mixed (by kernel_rfl) (by kernel_rfl) h fun o ho=>by unfold wqum at ho;split at ho<;>first|exact ho|cases ho
 ·cases h
end Go.Proofs.YtabkhphoacmcdaaGreatDoor.Pvm
end
noncomputable section
namespace Go.Proofs.YtabkhphoacmcdaaGreatDoor.Pvm
open Go Go.Proofs
def wqwu:List LS:=[.any,.any]
def wqnc{R:Type}(K:(Int→Option R)): Out→Option R
 |.ret [.v (.int .i64) y0] []=>K y0
 |_=>none
def wq11t:RetSpec:=⟨[.any],[],[]⟩
def wq11u(k:Nat): Ctx:=⟨tyT,[],(.add 161 wqab (wq8m k) (.add 215 wqwt (wqip k) (.add 216 wqo9 (wqca k) (.add 217 wqbv (wq6j k) .nil)))),[],[],[],@SH⟩
def wq1hx(k:Nat){R:Type}(x0 x1:Nat)(K:(Int→Option R)): Option R:=wqcu k x0 (fun y5=>wqcu k x1 (fun y6=>cond (y5 != y6) (wq92 k y5 y6 K) (cond (y5 == 2) (K 0) (cond (y5 != 0) (wq53 k x0 x1 K) (wq2y k x0 (fun y7=>wq2y k x1 (fun y8=>cond (y7 == y8) (K 0) (cond y7 (K (@Neg.neg Int @Int.instNegInt (1:Int))) (K 1)))))))))
def wqfj(k:Nat){R:Type}(x0 x1:Nat)(K:(Int→Option R)): Option R:=wq1hx k x0 x1 K
def wq1c1(f:(R:Type)→Nat→(Bool→Option R)→Option R){R:Type}: List PV→List (Nm×HObj)→(Out→Option R)→Option R
 |[.v .flt x0],[],K=>f R x0 (fun y0=>K (.ret [.v .bool y0] []))
 |_,_,_=>none
def wq1c2(f:(R:Type)→Nat→(Int→Option R)→Option R){R:Type}: List PV→List (Nm×HObj)→(Out→Option R)→Option R
 |[.v .flt x0],[],K=>f R x0 (fun y0=>K (.ret [.v (.int .i64) y0] []))
 |_,_,_=>none
def wq1c3(f:(R:Type)→Int→Int→(Int→Option R)→Option R){R:Type}: List PV→List (Nm×HObj)→(Out→Option R)→Option R
 |[.v (.int .i64) x0,.v (.int .i64) x1],[],K=>f R x0 x1 (fun y0=>K (.ret [.v (.int .i64) y0] []))
 |_,_,_=>none
def wq1c4(f:(R:Type)→Nat→Nat→(Int→Option R)→Option R){R:Type}: List PV→List (Nm×HObj)→(Out→Option R)→Option R
 |[.v .flt x0,.v .flt x1],[],K=>f R x0 x1 (fun y0=>K (.ret [.v (.int .i64) y0] []))
 |_,_,_=>none
def wq11v(f0:(R:Type)→Nat→(Bool→Option R)→Option R)(f1:(R:Type)→Nat→(Int→Option R)→Option R)(f2:(R:Type)→Int→Int→(Int→Option R)→Option R)(f3:(R:Type)→Nat→Nat→(Int→Option R)→Option R): Ctx:=⟨tyT,[],(.add 161 wqab (wq1c1 f0) (.add 215 wqwt (wq1c2 f1) (.add 216 wqo9 (wq1c3 f2) (.add 217 wqbv (wq1c4 f3) .nil)))),[],[],[],@SH⟩
def wq15p(f0:(R:Type)→Nat→(Bool→Option R)→Option R)(f1:(R:Type)→Nat→(Int→Option R)→Option R)(f2:(R:Type)→Int→Int→(Int→Option R)→Option R)(f3:(R:Type)→Nat→Nat→(Int→Option R)→Option R){R:Type}(x0 x1:Nat)(K:(Int→Option R)): Option R:=f1 R x0 (fun y5=>f1 R x1 (fun y6=>cond (y5 != y6) (f2 R y5 y6 K) (cond (y5 == 2) (K 0) (cond (y5 != 0) (f3 R x0 x1 K) (f0 R x0 (fun y7=>f0 R x1 (fun y8=>cond (y7 == y8) (K 0) (cond y7 (K (@Neg.neg Int @Int.instNegInt (1:Int))) (K 1)))))))))
theorem wq1a6(f0:(R:Type)→Nat→(Bool→Option R)→Option R)(f1:(R:Type)→Nat→(Int→Option R)→Option R)(f2:(R:Type)→Int→Int→(Int→Option R)→Option R)(f3:(R:Type)→Nat→Nat→(Int→Option R)→Option R)(k:Nat){R:Type}(x0 x1:Nat)(K:(Int→Option R)): fnW (wq11v f0 f1 f2 f3) k Tryz.f181 wq11t [.v .flt x0,.v .flt x1] [] (wqnc K)=wq15p f0 f1 f2 f3 x0 x1 K:=by
 kernel_rfl
theorem wq173(k:Nat): wq11u k=wq11v (fun R=>@wq2y k R) (fun R=>@wqcu k R) (fun R=>@wq92 k R) (fun R=>@wq53 k R):=by
 kernel_rfl
theorem wq1a7(k:Nat){R:Type}(x0 x1:Nat)(K:(Int→Option R)): fnW (wq11u k) k Tryz.f181 wq11t [.v .flt x0,.v .flt x1] [] (wqnc K)=wqfj k x0 x1 K:=by
 have e:wqfj k x0 x1 K=wq15p (fun R=>@wq2y k R) (fun R=>@wqcu k R) (fun R=>@wq92 k R) (fun R=>@wq53 k R) x0 x1 K:=by kernel_rfl
 rw[wq173,e]
 exact wq1a6 (fun R=>@wq2y k R) (fun R=>@wqcu k R) (fun R=>@wq92 k R) (fun R=>@wq53 k R) k x0 x1 K
def wqec(k:Nat){R:Type}: List PV→List (Nm×HObj)→(Out→Option R)→Option R
 |[.v .flt x0,.v .flt x1],[],K=>wqfj k x0 x1 (fun y0=>K (.ret [.v (.int .i64) y0] []))
 |_,_,_=>none
theorem wq15q(k:Nat): DOK Tryz.prog 181 (wqec k):=by
 intro ps hp R K r h
 have h:wqec k ps hp K=some r:=h
 unfold wqec at h
 split at h
 ·rw[←wq1a7]at h
  exact fnW_ok ⟨tyT_ok,(wqd (wql5 k) (wqd (wq1hw k) (wqd (wq171 k) (wqd (wqkn k) CTab.nil_ok)))),fun _ _=>rfl⟩ mixed (by kernel_rfl) (by kernel_rfl) h fun o ho=>by unfold wqnc at ho;split at ho<;>first|exact ho|cases ho
 ·cases h
end Go.Proofs.YtabkhphoacmcdaaGreatDoor.Pvm
end
noncomputable section
namespace Go.Proofs.YtabkhphoacmcdaaGreatDoor.Pvm
open Go Go.Proofs
def wql6:List LS:=[.any,.any]
def wqwv{R:Type}(K:(Bool→Option R)): Out→Option R
 |.ret [.v .bool y0] []=>K y0
 |_=>none
def wq1hy:RetSpec:=⟨[.any],[],[]⟩
def wq1hz(k:Nat): Ctx:=⟨tyT,[],(.add 181 wqwu (wqec k) .nil),[],[],[],@SH⟩
def wq1k2(k:Nat){R:Type}(x0 x1:Nat)(K:(Bool→Option R)): Option R:=wqfj k x0 x1 (fun y5=>K (y5 == 0))
def wq64(k:Nat){R:Type}(x0 x1:Nat)(K:(Bool→Option R)): Option R:=wq1k2 k x0 x1 K
theorem wq1c5(k:Nat){R:Type}(x0 x1:Nat)(K:(Bool→Option R)): fnW (wq1hz k) k Tryz.f140 wq1hy [.v .flt x0,.v .flt x1] [] (wqwv K)=wq64 k x0 x1 K:=by
 kernel_rfl
def wqdf(k:Nat){R:Type}: List PV→List (Nm×HObj)→(Out→Option R)→Option R
 |[.v .flt x0,.v .flt x1],[],K=>wq64 k x0 x1 (fun y0=>K (.ret [.v .bool y0] []))
 |_,_,_=>none
theorem wqzi(k:Nat): DOK Tryz.prog 140 (wqdf k):=by
 intro ps hp R K r h
 have h:wqdf k ps hp K=some r:=h
 unfold wqdf at h
 split at h
 ·rw[←wq1c5]at h
  exact fnW_ok ⟨tyT_ok,(wqd (wq15q k) CTab.nil_ok),fun _ _=>rfl⟩ mixed (by kernel_rfl) (by kernel_rfl) h fun o ho=>by unfold wqwv at ho;split at ho<;>first|exact ho|cases ho
 ·cases h
end Go.Proofs.YtabkhphoacmcdaaGreatDoor.Pvm
end
noncomputable section
namespace Go.Proofs.YtabkhphoacmcdaaGreatDoor.Pvm
open Go Go.Proofs
def wq15r(wq2k:(R:Type)→Nat→(Nat→Option R)→Option R){R:Type}: List PV→List (Nm×HObj)→(Out→Option R)→Option R
 |[.v .flt x0],[],K=>wq2k R x0 (fun y0=>K (.ret [.v .flt y0] []))
 |_,_,_=>none
end Go.Proofs.YtabkhphoacmcdaaGreatDoor.Pvm
end
noncomputable section
namespace Go.Proofs.YtabkhphoacmcdaaGreatDoor.Pvm
open Go Go.Proofs
def wqsa(wqr:(R:Type)→Nat→(Bool→Option R)→Option R){R:Type}: List PV→List (Nm×HObj)→(Out→Option R)→Option R
 |[.v .flt x0],[],K=>wqr R x0 (fun y0=>K (.ret [.v .bool y0] []))
 |_,_,_=>none
end Go.Proofs.YtabkhphoacmcdaaGreatDoor.Pvm
end
noncomputable section
namespace Go.Proofs.YtabkhphoacmcdaaGreatDoor.Pvm
open Go Go.Proofs
def wqww(wq1k:(R:Type)→Int→((List UInt8)→Option R)→Option R){R:Type}: List PV→List (Nm×HObj)→(Out→Option R)→Option R
 |[.v (.int .i64) x0],[],K=>wq1k R x0 (fun y0=>K (.ret [.v .str y0] []))
 |_,_,_=>none
end Go.Proofs.YtabkhphoacmcdaaGreatDoor.Pvm
end
noncomputable section
namespace Go.Proofs.YtabkhphoacmcdaaGreatDoor.Pvm
open Go Go.Proofs
def wqwx(wq1c:(R:Type)→Nat→Nat→(Bool→Option R)→Option R){R:Type}: List PV→List (Nm×HObj)→(Out→Option R)→Option R
 |[.v .flt x0,.v .flt x1],[],K=>wq1c R x0 x1 (fun y0=>K (.ret [.v .bool y0] []))
 |_,_,_=>none
end Go.Proofs.YtabkhphoacmcdaaGreatDoor.Pvm
end
noncomputable section
namespace Go.Proofs.YtabkhphoacmcdaaGreatDoor.Pvm
open Go Go.Proofs
def wq11w:List LS:=[.any,.any]
def wqwy{R:Type}(K:(Bool→Option R)): Out→Option R
 |.ret [.v .bool y0] []=>K y0
 |_=>none
def wq1i0:RetSpec:=⟨[.any],[],[]⟩
def wq1i1(k:Nat): Ctx:=⟨tyT,[],(.add 172 wqhk (wqf3 k) .nil),[],[],[],@SH⟩
def wq1k3(k:Nat){R:Type}(x0:Nat)(x1:Int)(K:(Bool→Option R)): Option R:=cond (x1 == 0) (wq6f k x0 (fun y5=>K (@fltIs @Go.BinOp.gtr y5 (9218868437227405311:Nat)))) (cond (decide (x1<0)) (K (@fltIs @Go.BinOp.gtr (@fltNeg x0) (9218868437227405311:Nat))) (K (@fltIs @Go.BinOp.gtr x0 (9218868437227405311:Nat))))
def wqf8(k:Nat){R:Type}(x0:Nat)(x1:Int)(K:(Bool→Option R)): Option R:=wq1k3 k x0 x1 K
theorem wq1c6(k:Nat){R:Type}(x0:Nat)(x1:Int)(K:(Bool→Option R)): fnW (wq1i1 k) k Tryz.f212 wq1i0 [.v .flt x0,.v kI x1] [] (wqwy K)=wqf8 k x0 x1 K:=by
 kernel_rfl
def wql7(k:Nat){R:Type}: List PV→List (Nm×HObj)→(Out→Option R)→Option R
 |[.v .flt x0,.v (.int .i64) x1],[],K=>wqf8 k x0 x1 (fun y0=>K (.ret [.v .bool y0] []))
 |_,_,_=>none
theorem wq1k4(k:Nat): DOK Tryz.prog 212 (wql7 k):=by
 intro ps hp R K r h
 have h:wql7 k ps hp K=some r:=h
 unfold wql7 at h
 split at h
 ·rw[←wq1c6]at h
  exact fnW_ok ⟨tyT_ok,(wqd (wq10b k) CTab.nil_ok),fun _ _=>rfl⟩ mixed (by kernel_rfl) (by kernel_rfl) h fun o ho=>by unfold wqwy at ho;split at ho<;>first|exact ho|cases ho
 ·cases h
end Go.Proofs.YtabkhphoacmcdaaGreatDoor.Pvm
end
namespace Go.Proofs
open Go.Shelf
def Tryz.laysLaysn105_ren:Go.Shelf.Ren:=⟨fun|105=>19|212=>40|99=>41|165=>42|166=>43|170=>44|169=>45|263=>86|264=>87|206=>88|240=>89|241=>90|276=>137|277=>138|n=>n,fun|9=>9|3=>3|4=>4|20=>20|0=>0|46=>83|109=>84|5=>5|72=>89|76=>93|51=>134|146=>135|53=>137|148=>138|70=>87|37=>22|75=>92|127=>140|164=>184|80=>96|n=>n,fun|n=>n⟩
theorem Tryz.laysLaysn105:Go.Proofs.Lays.n105 Tryz.prog Tryz.laysLaysn105_ren:={
 mixed:=by kernel_rfl
 f99:=Tryz.func41.trans (congrArg some (by kernel_rfl))
 f105:=Tryz.func19.trans (congrArg some (by kernel_rfl))
 f165:=Tryz.func42.trans (congrArg some (by kernel_rfl))
 f166:=Tryz.func43.trans (congrArg some (by kernel_rfl))
 f169:=Tryz.func45.trans (congrArg some (by kernel_rfl))
 f170:=Tryz.func44.trans (congrArg some (by kernel_rfl))
 f206:=Tryz.func88.trans (congrArg some (by kernel_rfl))
 f212:=Tryz.func40.trans (congrArg some (by kernel_rfl))
 f240:=Tryz.func89.trans (congrArg some (by kernel_rfl))
 f241:=Tryz.func90.trans (congrArg some (by kernel_rfl))
 f263:=Tryz.func86.trans (congrArg some (by kernel_rfl))
 f264:=Tryz.func87.trans (congrArg some (by kernel_rfl))
 f276:=Tryz.func137.trans (congrArg some (by kernel_rfl))
 f277:=Tryz.func138.trans (congrArg some (by kernel_rfl))
 t0:=Tryz.underlying0
 a0:=Tryz.isAgg0
 z0:=Tryz.sizeOf0
 v0:=Tryz.zeroValue0
 t3:=Tryz.underlying3
 a3:=Tryz.isAgg3
 z3:=Tryz.sizeOf3
 v3:=Tryz.zeroValue3
 t4:=Tryz.underlying4
 a4:=Tryz.isAgg4
 z4:=Tryz.sizeOf4
 v4:=Tryz.zeroValue4
 t5:=Tryz.underlying5
 a5:=Tryz.isAgg5
 z5:=Tryz.sizeOf5
 v5:=Tryz.zeroValue5
 t9:=Tryz.underlying9
 a9:=Tryz.isAgg9
 z9:=Tryz.sizeOf9
 v9:=Tryz.zeroValue9
 t20:=Tryz.underlying20
 a20:=Tryz.isAgg20
 z20:=Tryz.sizeOf20
 v20:=Tryz.zeroValue20
 t37:=Tryz.underlying22
 a37:=Tryz.isAgg22
 z37:=Tryz.sizeOf22
 v37:=Tryz.zeroValue22
 t46:=Tryz.underlying83
 a46:=Tryz.isAgg83
 z46:=Tryz.sizeOf83
 v46:=Tryz.zeroValue83
 t51:=Tryz.underlying134
 a51:=Tryz.isAgg134
 z51:=Tryz.sizeOf134
 v51:=Tryz.zeroValue134
 t53:=Tryz.underlying137
 a53:=Tryz.isAgg137
 z53:=Tryz.sizeOf137
 v53:=Tryz.zeroValue137
 t70:=Tryz.underlying87
 a70:=Tryz.isAgg87
 z70:=Tryz.sizeOf87
 v70:=Tryz.zeroValue87
 t72:=Tryz.underlying89
 a72:=Tryz.isAgg89
 z72:=Tryz.sizeOf89
 v72:=Tryz.zeroValue89
 t75:=Tryz.underlying92
 a75:=Tryz.isAgg92
 z75:=Tryz.sizeOf92
 v75:=Tryz.zeroValue92
 t76:=Tryz.underlying93
 a76:=Tryz.isAgg93
 z76:=Tryz.sizeOf93
 v76:=Tryz.zeroValue93
 t109:=Tryz.underlying84
 a109:=Tryz.isAgg84
 z109:=Tryz.sizeOf84
 v109:=Tryz.zeroValue84
 t127:=Tryz.underlying140
 a127:=Tryz.isAgg140
 z127:=Tryz.sizeOf140
 v127:=Tryz.zeroValue140
 t146:=Tryz.underlying135
 a146:=Tryz.isAgg135
 z146:=Tryz.sizeOf135
 v146:=Tryz.zeroValue135
 t148:=Tryz.underlying138
 a148:=Tryz.isAgg138
 z148:=Tryz.sizeOf138
 v148:=Tryz.zeroValue138
 t164:=Tryz.underlying184
 a164:=Tryz.isAgg184
 z164:=Tryz.sizeOf184
 v164:=Tryz.zeroValue184 }
theorem Tryz.extra105:Builder.Extra Tryz.prog Tryz.laysLaysn105_ren where
 sizeBuilder:=by kernel_rfl
 liesBuilder:=by kernel_rfl
 t5:=Tryz.underlying5
 a5:=Tryz.isAgg5
 z5:=Tryz.sizeOf5
 v5:=Tryz.zeroValue5
 infoByte:=by kernel_rfl
 cellsByte:=by kernel_rfl
 sizeByte:=by kernel_rfl
 neB5:=by decide
end Go.Proofs
namespace Go.Proofs.YtabkhphoacmcdaaGreatDoor.Pvm
open Go Go.Proofs Go.RowKit Go.Shelf
def repS(s:List UInt8)(n:Nat): List UInt8:=Lib.repeatL s n
def wq14n:List LS:=[.any,.any]
def wqnd(k:Nat){R:Type}(x0:List UInt8)(x1:Int)(K:List UInt8→Option R): Option R:=bif decide (0≤x1)&&decide (x1≤1000000)&&decide (x0.length≤1000000)then K (repS x0 x1.toNat)else none
def wqhy(k:Nat){R:Type}: List PV→List (Nm×HObj)→(Out→Option R)→Option R
 |[.v .str x0,.v (.int .i64) x1],[],K=>wqnd k x0 x1 (fun y0=>K (.ret [.v .str y0] []))
 |_,_,_=>none
theorem wq1a8(k:Nat){ps:List PV}{hp:List (Nm×HObj)}{R:Type}{K:Out→Option R}{r:R}(h:wqhy k ps hp K=some r): DoesTo Tryz.prog 19 ps hp fun out=>K out=some r:=by
 unfold wqhy at h
 split at h
 ·next x0 x1 =>
  intro G w vals hr obj dis
  obtain⟨v0,l0,rfl,h0,v1,l1,rfl,h1,rfl⟩:=hr
  have e0:v0 = .string ⟨x0.toArray⟩:=by simpa [RV,RD]using h0
  have e1:v1 = .int .i64 x1:=by simpa [RV,RD]using h1
  subst e0 e1
  unfold wqnd at h
  cases hx:(decide (0≤x1)&&decide (x1≤1000000)&&decide (x0.length≤1000000))with
  |false=>rw[hx]at h;cases h
  |true =>
   rw[hx,cond_true]at h
   simp only[Bool.and_eq_true,decide_eq_true_eq]at hx
   obtain⟨⟨g0,g1⟩,g2⟩:=hx
   obtain⟨n,rfl⟩:∃ n:Nat,x1=(n:Int):=⟨x1.toNat,(Int.toNat_of_nonneg g0).symm⟩
   have hn:n≤1000000:=by
    have:(n:Int)≤1000000:=g1
    omega
   have hsz:(⟨x0.toArray⟩:ByteArray).size=x0.length:=by simp[ByteArray.size]
   have hmul:x0.length*n≤1000000*1000000:=Nat.mul_le_mul g2 hn
   have c:=Any.strings_Repeat Tryz.laysLaysn105 Tryz.extra105 ⟨x0.toArray⟩ n w (by omega) (by rw[hsz];omega)
   show Does _ _ #[_,_] _ _
   unfold Does
   rw[enters (P:=Tryz.prog) (fn:=Tryz.f19) (c:=Tryz.f19.body.getD .skip) (by kernel_rfl) (by kernel_rfl) (by kernel_rfl)]
   refine Calls.mono c fun e w' hh => ?_
   obtain⟨rfl,b⟩:=hh
   exact⟨.ret [.v .str (repS x0 n)] [],h,G,⟨_,rfl,rfl⟩,wq1le b⟩
 ·cases h
end Go.Proofs.YtabkhphoacmcdaaGreatDoor.Pvm
noncomputable section
namespace Go.Proofs.YtabkhphoacmcdaaGreatDoor.Pvm
open Go Go.Proofs
def wqrn:List LS:=[.any,.any]
def wqwz{R:Type}(K:((List UInt8)→Option R)): Out→Option R
 |.ret [.v .str y0] []=>K y0
 |_=>none
def wq1i2:RetSpec:=⟨[.any],[],[]⟩
def wq1i3(k:Nat): Ctx:=⟨tyT,[],(.add 19 wq14n (wqhy k) (.add 233 wqfz (wqaq k) .nil)),[],[],[],@SH⟩
def wq1k5(k:Nat){R:Type}(x0 x1:Int)(K:((List UInt8)→Option R)): Option R:=wq5l k x0 (fun y5=>wqnd k [48] (cond true (@ite (@Kd.T kI) ((0:Int)>(@Go.IntKind.wrap Go.IntKind.i64 (x1-(y5.length:Int)))) (@Int.decLt (@Go.IntKind.wrap Go.IntKind.i64 (x1-(y5.length:Int))) (0:Int)) (0:Int) (@Go.IntKind.wrap Go.IntKind.i64 (x1-(y5.length:Int)))) (@ite (@Kd.T kI) ((0:Int)<(@Go.IntKind.wrap Go.IntKind.i64 (x1-(y5.length:Int)))) (@Int.decLt (0:Int) (@Go.IntKind.wrap Go.IntKind.i64 (x1-(y5.length:Int)))) (0:Int) (@Go.IntKind.wrap Go.IntKind.i64 (x1-(y5.length:Int))))) (fun y6=>cond (joins y6 y5) (K (y6++y5)) none))
def wq6m(k:Nat){R:Type}(x0 x1:Int)(K:((List UInt8)→Option R)): Option R:=wq1k5 k x0 x1 K
theorem wq1c7(k:Nat){R:Type}(x0 x1:Int)(K:((List UInt8)→Option R)): fnW (wq1i3 k) k Tryz.f234 wq1i2 [.v kI x0,.v kI x1] [] (wqwz K)=wq6m k x0 x1 K:=by
 kernel_rfl
def wqgl(k:Nat){R:Type}: List PV→List (Nm×HObj)→(Out→Option R)→Option R
 |[.v (.int .i64) x0,.v (.int .i64) x1],[],K=>wq6m k x0 x1 (fun y0=>K (.ret [.v .str y0] []))
 |_,_,_=>none
theorem wq1a9(k:Nat): DOK Tryz.prog 234 (wqgl k):=by
 intro ps hp R K r h
 have h:wqgl k ps hp K=some r:=h
 unfold wqgl at h
 split at h
 ·rw[←wq1c7]at h
  exact fnW_ok ⟨tyT_ok,(CTab.add_ok (fun h=>wq1a8 k h) (wqd (wqqn k) CTab.nil_ok)),fun _ _=>rfl⟩ mixed (by kernel_rfl) (by kernel_rfl) h fun o ho=>by unfold wqwz at ho;split at ho<;>first|exact ho|cases ho
 ·cases h
end Go.Proofs.YtabkhphoacmcdaaGreatDoor.Pvm
end
noncomputable section
namespace Go.Proofs.YtabkhphoacmcdaaGreatDoor.Pvm
open Go Go.Proofs
def wq1fi:List LS:=[.any]
def wqp6{R:Type}(K:((List UInt8)→Option R)): Out→Option R
 |.ret [.v .str y0] []=>K y0
 |_=>none
def wq15s:RetSpec:=⟨[.any],[],[]⟩
def wq15t(k:Nat): Ctx:=⟨tyT,[],(.add 134 wqcz (wqak k) (.add 161 wqab (wq8m k) (.add 172 wqhk (wqf3 k) (.add 212 wq11w (wql7 k) (.add 233 wqfz (wqaq k) (.add 234 wqrn (wqgl k) .nil)))))),[],[],[],@SH⟩
def wq1k6(k:Nat){R:Type}(x0:Nat)(K:((List UInt8)→Option R)): Option R:=wq3s k x0 (fun y4=>cond y4 (K [110,97,110]) (wqf8 k x0 1 (fun y5=>cond y5 (K [105,110,102]) (wqf8 k x0 (@Neg.neg Int @Int.instNegInt (1:Int)) (fun y6=>cond y6 (K [45,105,110,102]) (wq2y k x0 (fun y7=>cond y7 (wq6f k x0 (fun y8=>cond (@fltIs @Go.BinOp.geq y8 (4845873199050653696:Nat)) (K ([45]++[98,105,103])) (cond (@fltIn Go.IntKind.i64 y8) (cond (@Option.isSome Nat (@fltAr @Go.BinOp.sub y8 (@fltOf (@Option.getD Int (@fltI y8) (0:Int))))) (cond (@Option.isSome Nat (@fltAr @Go.BinOp.mul (@Option.getD Nat (@fltAr @Go.BinOp.sub y8 (@fltOf (@Option.getD Int (@fltI y8) (0:Int)))) (0:Nat)) (4652007308841189376:Nat))) (cond (@fltIn Go.IntKind.i64 (@Option.getD Nat (@fltAr @Go.BinOp.mul (@Option.getD Nat (@fltAr @Go.BinOp.sub y8 (@fltOf (@Option.getD Int (@fltI y8) (0:Int)))) (0:Nat)) (4652007308841189376:Nat)) (0:Nat))) (wq5l k (@Option.getD Int (@fltI y8) (0:Int)) (fun y9=>cond (joins [45] y9) (cond (joins ([45]++y9) [46]) (wq6m k (cond false (@ite (@Kd.T kI) ((999:Int)>(@Option.getD Int (@fltI (@Option.getD Nat (@fltAr @Go.BinOp.mul (@Option.getD Nat (@fltAr @Go.BinOp.sub y8 (@fltOf (@Option.getD Int (@fltI y8) (0:Int)))) (0:Nat)) (4652007308841189376:Nat)) (0:Nat))) (0:Int))) (@Int.decLt (@Option.getD Int (@fltI (@Option.getD Nat (@fltAr @Go.BinOp.mul (@Option.getD Nat (@fltAr @Go.BinOp.sub y8 (@fltOf (@Option.getD Int (@fltI y8) (0:Int)))) (0:Nat)) (4652007308841189376:Nat)) (0:Nat))) (0:Int)) (999:Int)) (999:Int) (@Option.getD Int (@fltI (@Option.getD Nat (@fltAr @Go.BinOp.mul (@Option.getD Nat (@fltAr @Go.BinOp.sub y8 (@fltOf (@Option.getD Int (@fltI y8) (0:Int)))) (0:Nat)) (4652007308841189376:Nat)) (0:Nat))) (0:Int))) (@ite (@Kd.T kI) ((999:Int)<(@Option.getD Int (@fltI (@Option.getD Nat (@fltAr @Go.BinOp.mul (@Option.getD Nat (@fltAr @Go.BinOp.sub y8 (@fltOf (@Option.getD Int (@fltI y8) (0:Int)))) (0:Nat)) (4652007308841189376:Nat)) (0:Nat))) (0:Int))) (@Int.decLt (999:Int) (@Option.getD Int (@fltI (@Option.getD Nat (@fltAr @Go.BinOp.mul (@Option.getD Nat (@fltAr @Go.BinOp.sub y8 (@fltOf (@Option.getD Int (@fltI y8) (0:Int)))) (0:Nat)) (4652007308841189376:Nat)) (0:Nat))) (0:Int))) (999:Int) (@Option.getD Int (@fltI (@Option.getD Nat (@fltAr @Go.BinOp.mul (@Option.getD Nat (@fltAr @Go.BinOp.sub y8 (@fltOf (@Option.getD Int (@fltI y8) (0:Int)))) (0:Nat)) (4652007308841189376:Nat)) (0:Nat))) (0:Int)))) 3 (fun y10=>cond (joins (([45]++y9)++[46]) y10) (K ((([45]++y9)++[46])++y10)) none)) none) none)) none) none) none) none))) (wq6f k x0 (fun y8=>cond (@fltIs @Go.BinOp.geq y8 (4845873199050653696:Nat)) (K ([]++[98,105,103])) (cond (@fltIn Go.IntKind.i64 y8) (cond (@Option.isSome Nat (@fltAr @Go.BinOp.sub y8 (@fltOf (@Option.getD Int (@fltI y8) (0:Int))))) (cond (@Option.isSome Nat (@fltAr @Go.BinOp.mul (@Option.getD Nat (@fltAr @Go.BinOp.sub y8 (@fltOf (@Option.getD Int (@fltI y8) (0:Int)))) (0:Nat)) (4652007308841189376:Nat))) (cond (@fltIn Go.IntKind.i64 (@Option.getD Nat (@fltAr @Go.BinOp.mul (@Option.getD Nat (@fltAr @Go.BinOp.sub y8 (@fltOf (@Option.getD Int (@fltI y8) (0:Int)))) (0:Nat)) (4652007308841189376:Nat)) (0:Nat))) (wq5l k (@Option.getD Int (@fltI y8) (0:Int)) (fun y9=>cond (joins [] y9) (cond (joins ([]++y9) [46]) (wq6m k (cond false (@ite (@Kd.T kI) ((999:Int)>(@Option.getD Int (@fltI (@Option.getD Nat (@fltAr @Go.BinOp.mul (@Option.getD Nat (@fltAr @Go.BinOp.sub y8 (@fltOf (@Option.getD Int (@fltI y8) (0:Int)))) (0:Nat)) (4652007308841189376:Nat)) (0:Nat))) (0:Int))) (@Int.decLt (@Option.getD Int (@fltI (@Option.getD Nat (@fltAr @Go.BinOp.mul (@Option.getD Nat (@fltAr @Go.BinOp.sub y8 (@fltOf (@Option.getD Int (@fltI y8) (0:Int)))) (0:Nat)) (4652007308841189376:Nat)) (0:Nat))) (0:Int)) (999:Int)) (999:Int) (@Option.getD Int (@fltI (@Option.getD Nat (@fltAr @Go.BinOp.mul (@Option.getD Nat (@fltAr @Go.BinOp.sub y8 (@fltOf (@Option.getD Int (@fltI y8) (0:Int)))) (0:Nat)) (4652007308841189376:Nat)) (0:Nat))) (0:Int))) (@ite (@Kd.T kI) ((999:Int)<(@Option.getD Int (@fltI (@Option.getD Nat (@fltAr @Go.BinOp.mul (@Option.getD Nat (@fltAr @Go.BinOp.sub y8 (@fltOf (@Option.getD Int (@fltI y8) (0:Int)))) (0:Nat)) (4652007308841189376:Nat)) (0:Nat))) (0:Int))) (@Int.decLt (999:Int) (@Option.getD Int (@fltI (@Option.getD Nat (@fltAr @Go.BinOp.mul (@Option.getD Nat (@fltAr @Go.BinOp.sub y8 (@fltOf (@Option.getD Int (@fltI y8) (0:Int)))) (0:Nat)) (4652007308841189376:Nat)) (0:Nat))) (0:Int))) (999:Int) (@Option.getD Int (@fltI (@Option.getD Nat (@fltAr @Go.BinOp.mul (@Option.getD Nat (@fltAr @Go.BinOp.sub y8 (@fltOf (@Option.getD Int (@fltI y8) (0:Int)))) (0:Nat)) (4652007308841189376:Nat)) (0:Nat))) (0:Int)))) 3 (fun y10=>cond (joins (([]++y9)++[46]) y10) (K ((([]++y9)++[46])++y10)) none)) none) none)) none) none) none) none))))))))))
def wqb3(k:Nat){R:Type}(x0:Nat)(K:((List UInt8)→Option R)): Option R:=wq1k6 k x0 K
def wq1fj(f:(R:Type)→Nat→(Bool→Option R)→Option R){R:Type}: List PV→List (Nm×HObj)→(Out→Option R)→Option R
 |[.v .flt x0],[],K=>f R x0 (fun y0=>K (.ret [.v .bool y0] []))
 |_,_,_=>none
def wq1fk(f:(R:Type)→Nat→(Bool→Option R)→Option R){R:Type}: List PV→List (Nm×HObj)→(Out→Option R)→Option R
 |[.v .flt x0],[],K=>f R x0 (fun y0=>K (.ret [.v .bool y0] []))
 |_,_,_=>none
def wq1fl(f:(R:Type)→Nat→(Nat→Option R)→Option R){R:Type}: List PV→List (Nm×HObj)→(Out→Option R)→Option R
 |[.v .flt x0],[],K=>f R x0 (fun y0=>K (.ret [.v .flt y0] []))
 |_,_,_=>none
def wq1fm(f:(R:Type)→Nat→Int→(Bool→Option R)→Option R){R:Type}: List PV→List (Nm×HObj)→(Out→Option R)→Option R
 |[.v .flt x0,.v (.int .i64) x1],[],K=>f R x0 x1 (fun y0=>K (.ret [.v .bool y0] []))
 |_,_,_=>none
def wq1fn(f:(R:Type)→Int→((List UInt8)→Option R)→Option R){R:Type}: List PV→List (Nm×HObj)→(Out→Option R)→Option R
 |[.v (.int .i64) x0],[],K=>f R x0 (fun y0=>K (.ret [.v .str y0] []))
 |_,_,_=>none
def wq1fo(f:(R:Type)→Int→Int→((List UInt8)→Option R)→Option R){R:Type}: List PV→List (Nm×HObj)→(Out→Option R)→Option R
 |[.v (.int .i64) x0,.v (.int .i64) x1],[],K=>f R x0 x1 (fun y0=>K (.ret [.v .str y0] []))
 |_,_,_=>none
def wq15u(f0:(R:Type)→Nat→(Bool→Option R)→Option R)(f1:(R:Type)→Nat→(Bool→Option R)→Option R)(f2:(R:Type)→Nat→(Nat→Option R)→Option R)(f3:(R:Type)→Nat→Int→(Bool→Option R)→Option R)(f4:(R:Type)→Int→((List UInt8)→Option R)→Option R)(f5:(R:Type)→Int→Int→((List UInt8)→Option R)→Option R): Ctx:=⟨tyT,[],(.add 134 wqcz (wq1fj f0) (.add 161 wqab (wq1fk f1) (.add 172 wqhk (wq1fl f2) (.add 212 wq11w (wq1fm f3) (.add 233 wqfz (wq1fn f4) (.add 234 wqrn (wq1fo f5) .nil)))))),[],[],[],@SH⟩
def wq1aa(f0:(R:Type)→Nat→(Bool→Option R)→Option R)(f1:(R:Type)→Nat→(Bool→Option R)→Option R)(f2:(R:Type)→Nat→(Nat→Option R)→Option R)(f3:(R:Type)→Nat→Int→(Bool→Option R)→Option R)(f4:(R:Type)→Int→((List UInt8)→Option R)→Option R)(f5:(R:Type)→Int→Int→((List UInt8)→Option R)→Option R){R:Type}(x0:Nat)(K:((List UInt8)→Option R)): Option R:=f0 R x0 (fun y4=>cond y4 (K [110,97,110]) (f3 R x0 1 (fun y5=>cond y5 (K [105,110,102]) (f3 R x0 (@Neg.neg Int @Int.instNegInt (1:Int)) (fun y6=>cond y6 (K [45,105,110,102]) (f1 R x0 (fun y7=>cond y7 (f2 R x0 (fun y8=>cond (@fltIs @Go.BinOp.geq y8 (4845873199050653696:Nat)) (K ([45]++[98,105,103])) (cond (@fltIn Go.IntKind.i64 y8) (cond (@Option.isSome Nat (@fltAr @Go.BinOp.sub y8 (@fltOf (@Option.getD Int (@fltI y8) (0:Int))))) (cond (@Option.isSome Nat (@fltAr @Go.BinOp.mul (@Option.getD Nat (@fltAr @Go.BinOp.sub y8 (@fltOf (@Option.getD Int (@fltI y8) (0:Int)))) (0:Nat)) (4652007308841189376:Nat))) (cond (@fltIn Go.IntKind.i64 (@Option.getD Nat (@fltAr @Go.BinOp.mul (@Option.getD Nat (@fltAr @Go.BinOp.sub y8 (@fltOf (@Option.getD Int (@fltI y8) (0:Int)))) (0:Nat)) (4652007308841189376:Nat)) (0:Nat))) (f4 R (@Option.getD Int (@fltI y8) (0:Int)) (fun y9=>cond (joins [45] y9) (cond (joins ([45]++y9) [46]) (f5 R (cond false (@ite (@Kd.T kI) ((999:Int)>(@Option.getD Int (@fltI (@Option.getD Nat (@fltAr @Go.BinOp.mul (@Option.getD Nat (@fltAr @Go.BinOp.sub y8 (@fltOf (@Option.getD Int (@fltI y8) (0:Int)))) (0:Nat)) (4652007308841189376:Nat)) (0:Nat))) (0:Int))) (@Int.decLt (@Option.getD Int (@fltI (@Option.getD Nat (@fltAr @Go.BinOp.mul (@Option.getD Nat (@fltAr @Go.BinOp.sub y8 (@fltOf (@Option.getD Int (@fltI y8) (0:Int)))) (0:Nat)) (4652007308841189376:Nat)) (0:Nat))) (0:Int)) (999:Int)) (999:Int) (@Option.getD Int (@fltI (@Option.getD Nat (@fltAr @Go.BinOp.mul (@Option.getD Nat (@fltAr @Go.BinOp.sub y8 (@fltOf (@Option.getD Int (@fltI y8) (0:Int)))) (0:Nat)) (4652007308841189376:Nat)) (0:Nat))) (0:Int))) (@ite (@Kd.T kI) ((999:Int)<(@Option.getD Int (@fltI (@Option.getD Nat (@fltAr @Go.BinOp.mul (@Option.getD Nat (@fltAr @Go.BinOp.sub y8 (@fltOf (@Option.getD Int (@fltI y8) (0:Int)))) (0:Nat)) (4652007308841189376:Nat)) (0:Nat))) (0:Int))) (@Int.decLt (999:Int) (@Option.getD Int (@fltI (@Option.getD Nat (@fltAr @Go.BinOp.mul (@Option.getD Nat (@fltAr @Go.BinOp.sub y8 (@fltOf (@Option.getD Int (@fltI y8) (0:Int)))) (0:Nat)) (4652007308841189376:Nat)) (0:Nat))) (0:Int))) (999:Int) (@Option.getD Int (@fltI (@Option.getD Nat (@fltAr @Go.BinOp.mul (@Option.getD Nat (@fltAr @Go.BinOp.sub y8 (@fltOf (@Option.getD Int (@fltI y8) (0:Int)))) (0:Nat)) (4652007308841189376:Nat)) (0:Nat))) (0:Int)))) 3 (fun y10=>cond (joins (([45]++y9)++[46]) y10) (K ((([45]++y9)++[46])++y10)) none)) none) none)) none) none) none) none))) (f2 R x0 (fun y8=>cond (@fltIs @Go.BinOp.geq y8 (4845873199050653696:Nat)) (K ([]++[98,105,103])) (cond (@fltIn Go.IntKind.i64 y8) (cond (@Option.isSome Nat (@fltAr @Go.BinOp.sub y8 (@fltOf (@Option.getD Int (@fltI y8) (0:Int))))) (cond (@Option.isSome Nat (@fltAr @Go.BinOp.mul (@Option.getD Nat (@fltAr @Go.BinOp.sub y8 (@fltOf (@Option.getD Int (@fltI y8) (0:Int)))) (0:Nat)) (4652007308841189376:Nat))) (cond (@fltIn Go.IntKind.i64 (@Option.getD Nat (@fltAr @Go.BinOp.mul (@Option.getD Nat (@fltAr @Go.BinOp.sub y8 (@fltOf (@Option.getD Int (@fltI y8) (0:Int)))) (0:Nat)) (4652007308841189376:Nat)) (0:Nat))) (f4 R (@Option.getD Int (@fltI y8) (0:Int)) (fun y9=>cond (joins [] y9) (cond (joins ([]++y9) [46]) (f5 R (cond false (@ite (@Kd.T kI) ((999:Int)>(@Option.getD Int (@fltI (@Option.getD Nat (@fltAr @Go.BinOp.mul (@Option.getD Nat (@fltAr @Go.BinOp.sub y8 (@fltOf (@Option.getD Int (@fltI y8) (0:Int)))) (0:Nat)) (4652007308841189376:Nat)) (0:Nat))) (0:Int))) (@Int.decLt (@Option.getD Int (@fltI (@Option.getD Nat (@fltAr @Go.BinOp.mul (@Option.getD Nat (@fltAr @Go.BinOp.sub y8 (@fltOf (@Option.getD Int (@fltI y8) (0:Int)))) (0:Nat)) (4652007308841189376:Nat)) (0:Nat))) (0:Int)) (999:Int)) (999:Int) (@Option.getD Int (@fltI (@Option.getD Nat (@fltAr @Go.BinOp.mul (@Option.getD Nat (@fltAr @Go.BinOp.sub y8 (@fltOf (@Option.getD Int (@fltI y8) (0:Int)))) (0:Nat)) (4652007308841189376:Nat)) (0:Nat))) (0:Int))) (@ite (@Kd.T kI) ((999:Int)<(@Option.getD Int (@fltI (@Option.getD Nat (@fltAr @Go.BinOp.mul (@Option.getD Nat (@fltAr @Go.BinOp.sub y8 (@fltOf (@Option.getD Int (@fltI y8) (0:Int)))) (0:Nat)) (4652007308841189376:Nat)) (0:Nat))) (0:Int))) (@Int.decLt (999:Int) (@Option.getD Int (@fltI (@Option.getD Nat (@fltAr @Go.BinOp.mul (@Option.getD Nat (@fltAr @Go.BinOp.sub y8 (@fltOf (@Option.getD Int (@fltI y8) (0:Int)))) (0:Nat)) (4652007308841189376:Nat)) (0:Nat))) (0:Int))) (999:Int) (@Option.getD Int (@fltI (@Option.getD Nat (@fltAr @Go.BinOp.mul (@Option.getD Nat (@fltAr @Go.BinOp.sub y8 (@fltOf (@Option.getD Int (@fltI y8) (0:Int)))) (0:Nat)) (4652007308841189376:Nat)) (0:Nat))) (0:Int)))) 3 (fun y10=>cond (joins (([]++y9)++[46]) y10) (K ((([]++y9)++[46])++y10)) none)) none) none)) none) none) none) none))))))))))
theorem wq1c8(f0:(R:Type)→Nat→(Bool→Option R)→Option R)(f1:(R:Type)→Nat→(Bool→Option R)→Option R)(f2:(R:Type)→Nat→(Nat→Option R)→Option R)(f3:(R:Type)→Nat→Int→(Bool→Option R)→Option R)(f4:(R:Type)→Int→((List UInt8)→Option R)→Option R)(f5:(R:Type)→Int→Int→((List UInt8)→Option R)→Option R)(k:Nat){R:Type}(x0:Nat)(K:((List UInt8)→Option R)): fnW (wq15u f0 f1 f2 f3 f4 f5) k Tryz.f232 wq15s [.v .flt x0] [] (wqp6 K)=wq1aa f0 f1 f2 f3 f4 f5 x0 K:=by
 kernel_rfl
theorem wq1ab(k:Nat): wq15t k=wq15u (fun R=>@wq3s k R) (fun R=>@wq2y k R) (fun R=>@wq6f k R) (fun R=>@wqf8 k R) (fun R=>@wq5l k R) (fun R=>@wq6m k R):=by
 kernel_rfl
theorem wq1c9(k:Nat){R:Type}(x0:Nat)(K:((List UInt8)→Option R)): fnW (wq15t k) k Tryz.f232 wq15s [.v .flt x0] [] (wqp6 K)=wqb3 k x0 K:=by
 have e:wqb3 k x0 K=wq1aa (fun R=>@wq3s k R) (fun R=>@wq2y k R) (fun R=>@wq6f k R) (fun R=>@wqf8 k R) (fun R=>@wq5l k R) (fun R=>@wq6m k R) x0 K:=by kernel_rfl
 rw[wq1ab,e]
 exact wq1c8 (fun R=>@wq3s k R) (fun R=>@wq2y k R) (fun R=>@wq6f k R) (fun R=>@wqf8 k R) (fun R=>@wq5l k R) (fun R=>@wq6m k R) k x0 K
def wql8(k:Nat){R:Type}: List PV→List (Nm×HObj)→(Out→Option R)→Option R
 |[.v .flt x0],[],K=>wqb3 k x0 (fun y0=>K (.ret [.v .str y0] []))
 |_,_,_=>none
theorem wq1k7(k:Nat): DOK Tryz.prog 232 (wql8 k):=by
 intro ps hp R K r h
 have h:wql8 k ps hp K=some r:=h
 unfold wql8 at h
 split at h
 ·rw[←wq1c9]at h
  exact fnW_ok ⟨tyT_ok,(wqd (wqqg k) (wqd (wql5 k) (wqd (wq10b k) (wqd (wq1k4 k) (wqd (wqqn k) (wqd (wq1a9 k) CTab.nil_ok)))))),fun _ _=>rfl⟩ mixed (by kernel_rfl) (by kernel_rfl) h fun o ho=>by unfold wqp6 at ho;split at ho<;>first|exact ho|cases ho
 ·cases h
end Go.Proofs.YtabkhphoacmcdaaGreatDoor.Pvm
end
noncomputable section
namespace Go.Proofs.YtabkhphoacmcdaaGreatDoor.Pvm
open Go Go.Proofs
def wqx0(wq1l:(R:Type)→Nat→((List UInt8)→Option R)→Option R){R:Type}: List PV→List (Nm×HObj)→(Out→Option R)→Option R
 |[.v .flt x0],[],K=>wq1l R x0 (fun y0=>K (.ret [.v .str y0] []))
 |_,_,_=>none
end Go.Proofs.YtabkhphoacmcdaaGreatDoor.Pvm
end
noncomputable section
namespace Go.Proofs.YtabkhphoacmcdaaGreatDoor.Pvm
open Go Go.Proofs
def wqx1(wq1m:(R:Type)→Int→Int→((List UInt8)→Option R)→Option R){R:Type}: List PV→List (Nm×HObj)→(Out→Option R)→Option R
 |[.v (.int .i64) x0,.v (.int .i64) x1],[],K=>wq1m R x0 x1 (fun y0=>K (.ret [.v .str y0] []))
 |_,_,_=>none
end Go.Proofs.YtabkhphoacmcdaaGreatDoor.Pvm
end
noncomputable section
namespace Go.Proofs.YtabkhphoacmcdaaGreatDoor.Pvm
open Go Go.Proofs
def wq11x(wq1q:(R:Type)→Int→(Int→Option R)→Option R){R:Type}: List PV→List (Nm×HObj)→(Out→Option R)→Option R
 |[.v (.int .i64) x0],[],K=>wq1q R x0 (fun y0=>K (.ret [.v (.int .i64) y0] []))
 |_,_,_=>none
end Go.Proofs.YtabkhphoacmcdaaGreatDoor.Pvm
end
noncomputable section
namespace Go.Proofs.YtabkhphoacmcdaaGreatDoor.Pvm
open Go Go.Proofs
abbrev wq1p:Type 1:=(R:Type)→(List UInt8)→(Nat→Bool→Option R)→Option R
abbrev wq1w:Type 1:=(R:Type)→Nat→Nat→(Bool→Option R)→Option R
abbrev wq1h:Type 1:=(R:Type)→Nat→(Bool→Option R)→Option R
abbrev wq1x:Type 1:=(R:Type)→Nat→((List UInt8)→Option R)→Option R
abbrev wq1y:Type 1:=(R:Type)→Int→((List UInt8)→Option R)→Option R
abbrev wq1z:Type 1:=(R:Type)→Int→Int→((List UInt8)→Option R)→Option R
def wq1ca:List LS:=[.any]
def wq8n{R:Type}(K:((List UInt8)→Bool→Option R)): Out→Option R
 |.ret [.v .str y0,.v .bool y1] []=>K y0 y1
 |_=>none
def wqdg:RetSpec:=⟨[.any,.any],[],[]⟩
def wqdh(k:Nat)(wqa:wq1p)(wq1q:(R:Type)→Int→(Int→Option R)→Option R)(wq1c:wq1w)(wqr:wq1h)(wq2k:(R:Type)→Nat→(Nat→Option R)→Option R)(wq1l:wq1x)(wq1k:wq1y)(wq1m:wq1z): Ctx:=⟨tyT,[(1011,⟨[(0,.any),(5,.any),(6,.any),(7,.any)],[]⟩),(1015,⟨[(0,.any),(5,.any),(6,.any),(7,.any),(8,.any),(9,.any)],[]⟩)],(.add 71 wqib (wqg1 wqa) (.add 121 wqt8 (wq11x wq1q) (.add 140 wql6 (wqwx wq1c) (.add 161 wqab (wqsa wqr) (.add 172 wqhk (wq15r wq2k) (.add 232 wq1fi (wqx0 wq1l) (.add 233 wqfz (wqww wq1k) (.add 234 wqrn (wqx1 wq1m) .nil)))))))),[],[],[],@SH⟩
def wq7f(s0:Nat)(s1:(List UInt8))(s2:Nat)(s3:Int): St:=⟨mkT [(0,.v .flt s0),(5,.v .str s1),(6,.v .flt s2),(7,.v kI s3)],mkH []⟩
def wqcb(s0:Nat)(s1:(List UInt8))(s2:Nat)(s3 s4 s5:Int): St:=⟨mkT [(0,.v .flt s0),(5,.v .str s1),(6,.v .flt s2),(7,.v kI s3),(8,.v kI s4),(9,.v kI s5)],mkH []⟩
def wqdi(k:Nat)(wqa:wq1p)(wq1q:(R:Type)→Int→(Int→Option R)→Option R)(wq1c:wq1w)(wqr:wq1h)(wq2k:(R:Type)→Nat→(Nat→Option R)→Option R)(wq1l:wq1x)(wq1k:wq1y)(wq1m:wq1z){R:Type}(I:Nat→St→Option R)(n:Nat)(s:St)(K:((List UInt8)→Bool→Option R)): Option R:=loopK (wqdh k wqa wq1q wq1c wqr wq2k wq1l wq1k wq1m) k Tryz.f201 wqdg 1011 [1,1,1,1,1,1,0,1,0] I n s (wq8n K)
def wqhz(k:Nat)(wqa:wq1p)(wq1q:(R:Type)→Int→(Int→Option R)→Option R)(wq1c:wq1w)(wqr:wq1h)(wq2k:(R:Type)→Nat→(Nat→Option R)→Option R)(wq1l:wq1x)(wq1k:wq1y)(wq1m:wq1z){R:Type}(I:Nat→St→Option R)(n:Nat)(s:St)(K:((List UInt8)→Bool→Option R)): Option R:=loopK (wqdh k wqa wq1q wq1c wqr wq2k wq1l wq1k wq1m) k Tryz.f201 wqdg 1015 [1,1,1,1,1,1,0,1,0,0,1,0,0,1,1,0] I n s (wq8n K)
def wqq1(k:Nat)(wqa:wq1p)(wq1q:(R:Type)→Int→(Int→Option R)→Option R)(wq1c:wq1w)(wqr:wq1h)(wq2k:(R:Type)→Nat→(Nat→Option R)→Option R)(wq1l:wq1x)(wq1k:wq1y)(wq1m:wq1z){R:Type}(E1015:(Nat→(List UInt8)→Nat→Int→Int→Int→Option R))(s0:Nat)(s1:(List UInt8))(s2:Nat)(s3:Int)(K:((List UInt8)→Bool→Option R)): Option R:=cond (decide (s3≤6)) (wq1q R s3 (fun y9=>cond (@Option.isSome Nat (@fltAr @Go.BinOp.mul s2 (@fltOf y9))) (cond (@fltIn Go.IntKind.i64 (@Option.getD Nat (@fltAr @Go.BinOp.mul s2 (@fltOf y9)) (0:Nat))) (E1015 s0 s1 s2 s3 (@Option.getD Int (@fltI (@Option.getD Nat (@fltAr @Go.BinOp.mul s2 (@fltOf y9)) (0:Nat))) (0:Int)) (cond true (@ite (@Kd.T kI) ((0:Int)>(@Go.IntKind.wrap Go.IntKind.i64 ((@Option.getD Int (@fltI (@Option.getD Nat (@fltAr @Go.BinOp.mul s2 (@fltOf y9)) (0:Nat))) (0:Int))-1))) (@Int.decLt (@Go.IntKind.wrap Go.IntKind.i64 ((@Option.getD Int (@fltI (@Option.getD Nat (@fltAr @Go.BinOp.mul s2 (@fltOf y9)) (0:Nat))) (0:Int))-1)) (0:Int)) (0:Int) (@Go.IntKind.wrap Go.IntKind.i64 ((@Option.getD Int (@fltI (@Option.getD Nat (@fltAr @Go.BinOp.mul s2 (@fltOf y9)) (0:Nat))) (0:Int))-1))) (@ite (@Kd.T kI) ((0:Int)<(@Go.IntKind.wrap Go.IntKind.i64 ((@Option.getD Int (@fltI (@Option.getD Nat (@fltAr @Go.BinOp.mul s2 (@fltOf y9)) (0:Nat))) (0:Int))-1))) (@Int.decLt (0:Int) (@Go.IntKind.wrap Go.IntKind.i64 ((@Option.getD Int (@fltI (@Option.getD Nat (@fltAr @Go.BinOp.mul s2 (@fltOf y9)) (0:Nat))) (0:Int))-1))) (0:Int) (@Go.IntKind.wrap Go.IntKind.i64 ((@Option.getD Int (@fltI (@Option.getD Nat (@fltAr @Go.BinOp.mul s2 (@fltOf y9)) (0:Nat))) (0:Int))-1))))) none) none)) (K [] false)
theorem wqwa(k:Nat)(wqa:wq1p)(wq1q:(R:Type)→Int→(Int→Option R)→Option R)(wq1c:wq1w)(wqr:wq1h)(wq2k:(R:Type)→Nat→(Nat→Option R)→Option R)(wq1l:wq1x)(wq1k:wq1y)(wq1m:wq1z){R:Type}(I:Nat→St→Option R)(s0:Nat)(s1:(List UInt8))(s2:Nat)(s3:Int)(K:((List UInt8)→Bool→Option R)): bodyK (wqdh k wqa wq1q wq1c wqr wq2k wq1l wq1k wq1m) k Tryz.f201 wqdg [1,1,1,1,1,1,0,1,0,0] I (wq7f s0 s1 s2 s3) (wq8n K)=wqq1 k wqa wq1q wq1c wqr wq2k wq1l wq1k wq1m (fun s0 s1 s2 s3 s4 s5=>wqhz k wqa wq1q wq1c wqr wq2k wq1l wq1k wq1m I k (wqcb s0 s1 s2 s3 s4 s5) K) s0 s1 s2 s3 K:=by kernel_rfl
def wqq2(k:Nat)(wqa:wq1p)(wq1q:(R:Type)→Int→(Int→Option R)→Option R)(wq1c:wq1w)(wqr:wq1h)(wq2k:(R:Type)→Nat→(Nat→Option R)→Option R)(wq1l:wq1x)(wq1k:wq1y)(wq1m:wq1z){R:Type}(E1011:(Nat→(List UInt8)→Nat→Int→Option R))(E1015:(Nat→(List UInt8)→Nat→Int→Int→Int→Option R))(s0:Nat)(s1:(List UInt8))(s2:Nat)(s3 s4 s5:Int)(K:((List UInt8)→Bool→Option R)): Option R:=cond (decide (s5≤(@Go.IntKind.wrap Go.IntKind.i64 (s4+1)))) (wq1q R s3 (fun y11=>cond (y11 != 0) (wq1k R (@Go.IntKind.wrap Go.IntKind.i64 (Int.tdiv s5 y11)) (fun y12=>cond (joins s1 y12) (cond (decide (s3>0)) (wq1q R s3 (fun y13=>cond (y13 != 0) (wq1m R (Int.tmod s5 y13) s3 (fun y14=>cond (joins [46] y14) (cond (joins (s1++y12) ([46]++y14)) (wqa R ((s1++y12)++([46]++y14)) (fun y15 y16=>cond (y16 == true) (wq1c R s0 y15 (fun y17=>cond y17 (K ((s1++y12)++([46]++y14)) true) (E1015 s0 s1 s2 s3 s4 (@Go.IntKind.wrap Go.IntKind.i64 (s5+1))))) (E1015 s0 s1 s2 s3 s4 (@Go.IntKind.wrap Go.IntKind.i64 (s5+1))))) none) none)) none)) (wqa R (s1++y12) (fun y13 y14=>cond (y14 == true) (wq1c R s0 y13 (fun y15=>cond y15 (K (s1++y12) true) (E1015 s0 s1 s2 s3 s4 (@Go.IntKind.wrap Go.IntKind.i64 (s5+1))))) (E1015 s0 s1 s2 s3 s4 (@Go.IntKind.wrap Go.IntKind.i64 (s5+1)))))) none)) none)) (E1011 s0 s1 s2 (@Go.IntKind.wrap Go.IntKind.i64 (s3+1)))
theorem wqwb(k:Nat)(wqa:wq1p)(wq1q:(R:Type)→Int→(Int→Option R)→Option R)(wq1c:wq1w)(wqr:wq1h)(wq2k:(R:Type)→Nat→(Nat→Option R)→Option R)(wq1l:wq1x)(wq1k:wq1y)(wq1m:wq1z){R:Type}(I:Nat→St→Option R)(s0:Nat)(s1:(List UInt8))(s2:Nat)(s3 s4 s5:Int)(K:((List UInt8)→Bool→Option R)): bodyK (wqdh k wqa wq1q wq1c wqr wq2k wq1l wq1k wq1m) k Tryz.f201 wqdg [1,1,1,1,1,1,0,1,0,0,1,0,0,1,1,0,0] I (wqcb s0 s1 s2 s3 s4 s5) (wq8n K)=wqq2 k wqa wq1q wq1c wqr wq2k wq1l wq1k wq1m (fun s0 s1 s2 s3=>I 1011 (wq7f s0 s1 s2 s3)) (fun s0 s1 s2 s3 s4 s5=>I 1015 (wqcb s0 s1 s2 s3 s4 s5)) s0 s1 s2 s3 s4 s5 K:=by kernel_rfl
def wqun(k:Nat)(wqa:wq1p)(wq1q:(R:Type)→Int→(Int→Option R)→Option R)(wq1c:wq1w)(wqr:wq1h)(wq2k:(R:Type)→Nat→(Nat→Option R)→Option R)(wq1l:wq1x)(wq1k:wq1y)(wq1m:wq1z){R:Type}(E1011:(Nat→(List UInt8)→Nat→Int→Option R))(x0:Nat)(K:((List UInt8)→Bool→Option R)): Option R:=wq1l R x0 (fun y6=>cond (cond (cond (y6 == [(110:UInt8),97,110]) true (y6 == [(105:UInt8),110,102])) true (y6 == [(45:UInt8),105,110,102])) (K y6 true) (wqr R x0 (fun y7=>cond y7 (wq2k R x0 (fun y8=>wq1q R 9 (fun y9=>cond (@fltIs @Go.BinOp.geq y8 (@fltOf y9)) (K [] false) (E1011 x0 [45] y8 0)))) (wq2k R x0 (fun y8=>wq1q R 9 (fun y9=>cond (@fltIs @Go.BinOp.geq y8 (@fltOf y9)) (K [] false) (E1011 x0 [] y8 0)))))))
def wqi0(k:Nat)(wqa:wq1p)(wq1q:(R:Type)→Int→(Int→Option R)→Option R)(wq1c:wq1w)(wqr:wq1h)(wq2k:(R:Type)→Nat→(Nat→Option R)→Option R)(wq1l:wq1x)(wq1k:wq1y)(wq1m:wq1z){R:Type}(J1011:(Nat→(List UInt8)→Nat→Int→Option R)): Nat→Nat→(List UInt8)→Nat→Int→Int→Int→((List UInt8)→Bool→Option R)→Option R
 |0,_,_,_,_,_,_,_=>none
 |n+1,s0,s1,s2,s3,s4,s5,K=>wqq2 k wqa wq1q wq1c wqr wq2k wq1l wq1k wq1m J1011 (fun s0 s1 s2 s3 s4 s5=>wqi0 k wqa wq1q wq1c wqr wq2k wq1l wq1k wq1m J1011 n s0 s1 s2 s3 s4 s5 K) s0 s1 s2 s3 s4 s5 K
theorem wqwc(k:Nat)(wqa:wq1p)(wq1q:(R:Type)→Int→(Int→Option R)→Option R)(wq1c:wq1w)(wqr:wq1h)(wq2k:(R:Type)→Nat→(Nat→Option R)→Option R)(wq1l:wq1x)(wq1k:wq1y)(wq1m:wq1z){R:Type}(I:Nat→St→Option R)(K:((List UInt8)→Bool→Option R))(n:Nat): ∀(s0:Nat) (s1:(List UInt8)) (s2:Nat) (s3 s4 s5:Int),wqhz k wqa wq1q wq1c wqr wq2k wq1l wq1k wq1m I n (wqcb s0 s1 s2 s3 s4 s5) K=wqi0 k wqa wq1q wq1c wqr wq2k wq1l wq1k wq1m (fun s0 s1 s2 s3=>I 1011 (wq7f s0 s1 s2 s3)) n s0 s1 s2 s3 s4 s5 K:=by
 induction n with
 |zero=>intros;rfl
 |succ n ih =>
  intro s0 s1 s2 s3 s4 s5
  refine(?_:_=_).trans ((wqwb k wqa wq1q wq1c wqr wq2k wq1l wq1k wq1m (upI 1015 (fun s=>wqhz k wqa wq1q wq1c wqr wq2k wq1l wq1k wq1m I n s K) I) s0 s1 s2 s3 s4 s5 K).trans ?_)
  ·rfl
  ·simp only[wq43,ih,upI_ne (show Nat.beq 1011 1015=false from rfl)]<;>rfl
def wqi1(k:Nat)(wqa:wq1p)(wq1q:(R:Type)→Int→(Int→Option R)→Option R)(wq1c:wq1w)(wqr:wq1h)(wq2k:(R:Type)→Nat→(Nat→Option R)→Option R)(wq1l:wq1x)(wq1k:wq1y)(wq1m:wq1z){R:Type}: Nat→Nat→(List UInt8)→Nat→Int→((List UInt8)→Bool→Option R)→Option R
 |0,_,_,_,_,_=>none
 |n+1,s0,s1,s2,s3,K=>wqq1 k wqa wq1q wq1c wqr wq2k wq1l wq1k wq1m (fun s0 s1 s2 s3 s4 s5=>wqi0 k wqa wq1q wq1c wqr wq2k wq1l wq1k wq1m (fun s0 s1 s2 s3=>wqi1 k wqa wq1q wq1c wqr wq2k wq1l wq1k wq1m n s0 s1 s2 s3 K) k s0 s1 s2 s3 s4 s5 K) s0 s1 s2 s3 K
theorem wqwd(k:Nat)(wqa:wq1p)(wq1q:(R:Type)→Int→(Int→Option R)→Option R)(wq1c:wq1w)(wqr:wq1h)(wq2k:(R:Type)→Nat→(Nat→Option R)→Option R)(wq1l:wq1x)(wq1k:wq1y)(wq1m:wq1z){R:Type}(I:Nat→St→Option R)(K:((List UInt8)→Bool→Option R))(n:Nat): ∀(s0:Nat) (s1:(List UInt8)) (s2:Nat) (s3:Int),wqdi k wqa wq1q wq1c wqr wq2k wq1l wq1k wq1m I n (wq7f s0 s1 s2 s3) K=wqi1 k wqa wq1q wq1c wqr wq2k wq1l wq1k wq1m n s0 s1 s2 s3 K:=by
 induction n with
 |zero=>intros;rfl
 |succ n ih =>
  intro s0 s1 s2 s3
  refine(?_:_=_).trans ((wqwa k wqa wq1q wq1c wqr wq2k wq1l wq1k wq1m (upI 1011 (fun s=>wqdi k wqa wq1q wq1c wqr wq2k wq1l wq1k wq1m I n s K) I) s0 s1 s2 s3 K).trans ?_)
  ·rfl
  ·simp only[wq43,ih,wqwc]<;>rfl
def wquo(k:Nat){R:Type}(x0:Nat)(K:((List UInt8)→Bool→Option R)): Option R:=wqun k (@wq3n k) (@wq85 k) (@wq64 k) (@wq2y k) (@wq6f k) (@wqb3 k) (@wq5l k) (@wq6m k) (fun s0 s1 s2 s3=>wqi1 k (@wq3n k) (@wq85 k) (@wq64 k) (@wq2y k) (@wq6f k) (@wqb3 k) (@wq5l k) (@wq6m k) k s0 s1 s2 s3 K) x0 K
theorem wq1ac(k:Nat)(wqa:wq1p)(wq1q:(R:Type)→Int→(Int→Option R)→Option R)(wq1c:wq1w)(wqr:wq1h)(wq2k:(R:Type)→Nat→(Nat→Option R)→Option R)(wq1l:wq1x)(wq1k:wq1y)(wq1m:wq1z){R:Type}(x0:Nat)(K:((List UInt8)→Bool→Option R)): fnW (wqdh k wqa wq1q wq1c wqr wq2k wq1l wq1k wq1m) k Tryz.f201 wqdg [.v .flt x0] [] (wq8n K)=wqun k wqa wq1q wq1c wqr wq2k wq1l wq1k wq1m (fun s0 s1 s2 s3=>wqdi k wqa wq1q wq1c wqr wq2k wq1l wq1k wq1m (fun _ _=>none) k (wq7f s0 s1 s2 s3) K) x0 K:=by kernel_rfl
theorem wq1ad(k:Nat){R:Type}(x0:Nat)(K:((List UInt8)→Bool→Option R)): fnW (wqdh k (@wq3n k) (@wq85 k) (@wq64 k) (@wq2y k) (@wq6f k) (@wqb3 k) (@wq5l k) (@wq6m k)) k Tryz.f201 wqdg [.v .flt x0] [] (wq8n K)=wquo k x0 K:=by
 refine Eq.trans (b:=wqun k (@wq3n k) (@wq85 k) (@wq64 k) (@wq2y k) (@wq6f k) (@wqb3 k) (@wq5l k) (@wq6m k) (fun s0 s1 s2 s3=>wqdi k (@wq3n k) (@wq85 k) (@wq64 k) (@wq2y k) (@wq6f k) (@wqb3 k) (@wq5l k) (@wq6m k) (fun _ _=>none) k (wq7f s0 s1 s2 s3) K) x0 K) (wq1ac k (@wq3n k) (@wq85 k) (@wq64 k) (@wq2y k) (@wq6f k) (@wqb3 k) (@wq5l k) (@wq6m k) x0 K) ?_
 simp only[wqwd]<;>rfl
def wqiq(k:Nat){R:Type}: List PV→List (Nm×HObj)→(Out→Option R)→Option R
 |[.v .flt x0],[],K=>wquo k x0 (fun y0 y1=>K (.ret [.v .str y0,.v .bool y1] []))
 |_,_,_=>none
theorem wq1i4(k:Nat): DOK Tryz.prog 201 (wqiq k):=by
 intro ps hp R K r h
 have h:wqiq k ps hp K=some r:=h
 unfold wqiq at h
 split at h
 ·rw[←wq1ad]at h
  exact fnW_ok ⟨tyT_ok,(CTab.add_ok (fun h=>wqtf k _ _ _ _ _ (by unfold wqg1 at h;unfold wqbg;exact h)) (CTab.add_ok (fun h=>wq1dc k _ _ _ _ _ (by unfold wq11x at h;unfold wqiv;exact h)) (CTab.add_ok (fun h=>wqzi k _ _ _ _ _ (by unfold wqwx at h;unfold wqdf;exact h)) (CTab.add_ok (fun h=>wql5 k _ _ _ _ _ (by unfold wqsa at h;unfold wq8m;exact h)) (CTab.add_ok (fun h=>wq10b k _ _ _ _ _ (by unfold wq15r at h;unfold wqf3;exact h)) (CTab.add_ok (fun h=>wq1k7 k _ _ _ _ _ (by unfold wqx0 at h;unfold wql8;exact h)) (CTab.add_ok (fun h=>wqqn k _ _ _ _ _ (by unfold wqww at h;unfold wqaq;exact h)) (CTab.add_ok (fun h=>wq1a9 k _ _ _ _ _ (by unfold wqx1 at h;unfold wqgl;exact h)) CTab.nil_ok)))))))),fun _ _=>rfl⟩ mixed (by kernel_rfl) (by kernel_rfl) h fun o ho=>by unfold wq8n at ho;split at ho<;>first|exact ho|cases ho
 ·cases h
end Go.Proofs.YtabkhphoacmcdaaGreatDoor.Pvm
end
noncomputable section
namespace Go.Proofs.YtabkhphoacmcdaaGreatDoor.Pvm
open Go Go.Proofs
def wq15v:List LS:=[.any]
def wq11y{R:Type}(K:(Bool→Option R)): Out→Option R
 |.ret [.v .bool y0] []=>K y0
 |_=>none
def wq1k8:RetSpec:=⟨[.any],[],[]⟩
def wq1k9(k:Nat): Ctx:=⟨tyT,[],(.add 181 wqwu (wqec k) (.add 201 wq1ca (wqiq k) .nil)),[],[],[],@SH⟩
def wq1mz(k:Nat){R:Type}(x0:Nat)(K:(Bool→Option R)): Option R:=wquo k x0 (fun y4 y5=>cond (y5 == true) (wqfj k x0 0 (fun y6=>cond ((decide (y6≥0)) == true) (wqfj k x0 4607182418800017408 (fun y7=>K (decide (y7≤0)))) (K false))) (K false))
def wqlk(k:Nat){R:Type}(x0:Nat)(K:(Bool→Option R)): Option R:=wq1mz k x0 K
theorem wq1fp(k:Nat){R:Type}(x0:Nat)(K:(Bool→Option R)): fnW (wq1k9 k) k Tryz.f163 wq1k8 [.v .flt x0] [] (wq11y K)=wqlk k x0 K:=by
 kernel_rfl
def wqoa(k:Nat){R:Type}: List PV→List (Nm×HObj)→(Out→Option R)→Option R
 |[.v .flt x0],[],K=>wqlk k x0 (fun y0=>K (.ret [.v .bool y0] []))
 |_,_,_=>none
theorem wq1n0(k:Nat): DOK Tryz.prog 163 (wqoa k):=by
 intro ps hp R K r h
 have h:wqoa k ps hp K=some r:=h
 unfold wqoa at h
 split at h
 ·rw[←wq1fp]at h
  exact fnW_ok ⟨tyT_ok,(wqd (wq15q k) (wqd (wq1i4 k) CTab.nil_ok)),fun _ _=>rfl⟩ mixed (by kernel_rfl) (by kernel_rfl) h fun o ho=>by unfold wq11y at ho;split at ho<;>first|exact ho|cases ho
 ·cases h
end Go.Proofs.YtabkhphoacmcdaaGreatDoor.Pvm
end
noncomputable section
namespace Go.Proofs.YtabkhphoacmcdaaGreatDoor.Pvm
open Go Go.Proofs
def wq15w:List LS:=[.any]
def wq11z{R:Type}(K:(Int→Option R)): Out→Option R
 |.ret [.v (.int .i64) y0] []=>K y0
 |_=>none
def wq1ka:RetSpec:=⟨[.any],[],[]⟩
def wq1kb(k:Nat): Ctx:=⟨tyT,[],.nil,[],[],[],@SH⟩
def wq1n1(k:Nat){R:Type}(x0:Int)(K:(Int→Option R)): Option R:=cond (cond (decide (x0<1)) true (decide (x0>4))) (K 0) (cond (inb x0 (([(0:Int),1,60,3600,86400]).length:Int)) (K (([(0:Int),1,60,3600,86400]).getD x0.toNat kI.zero)) none)
def wqll(k:Nat){R:Type}(x0:Int)(K:(Int→Option R)): Option R:=wq1n1 k x0 K
theorem wq1fq(k:Nat){R:Type}(x0:Int)(K:(Int→Option R)): fnW (wq1kb k) k Tryz.f162 wq1ka [.v kI x0] [] (wq11z K)=wqll k x0 K:=by
 kernel_rfl
def wqob(k:Nat){R:Type}: List PV→List (Nm×HObj)→(Out→Option R)→Option R
 |[.v (.int .i64) x0],[],K=>wqll k x0 (fun y0=>K (.ret [.v (.int .i64) y0] []))
 |_,_,_=>none
theorem wq1n2(k:Nat): DOK Tryz.prog 162 (wqob k):=by
 intro ps hp R K r h
 have h:wqob k ps hp K=some r:=h
 unfold wqob at h
 split at h
 ·rw[←wq1fq]at h
  exact fnW_ok ⟨tyT_ok,CTab.nil_ok,fun _ _=>rfl⟩ mixed (by kernel_rfl) (by kernel_rfl) h fun o ho=>by unfold wq11z at ho;split at ho<;>first|exact ho|cases ho
 ·cases h
end Go.Proofs.YtabkhphoacmcdaaGreatDoor.Pvm
end
noncomputable section
namespace Go.Proofs.YtabkhphoacmcdaaGreatDoor.Pvm
open Go Go.Proofs
def wq1fr:List LS:=[.ag [.any,.any,.any,.any,.any,.any]]
def wqp7{R:Type}(K:(Int→Option R)): Out→Option R
 |.ret [.v (.int .i64) y0] []=>K y0
 |_=>none
def wq15x:RetSpec:=⟨[.any],[],[]⟩
def wq15y(k:Nat): Ctx:=⟨tyT,[],(.add 33 wqiu (wqci k) (.add 140 wql6 (wqdf k) (.add 162 wq15w (wqob k) (.add 163 wq15v (wqoa k) .nil)))),[],[],[],@SH⟩
def wq1kc(k:Nat){R:Type}(x0:(List UInt8))(x1 x2:Int)(x3:Nat)(x4 x5:Bool)(K:(Int→Option R)): Option R:=wqll k x1 (fun y9=>cond ((cond (cond (decide (y9>0)) (decide (x2≥0)) false) (decide (x2≤4294967295)) false) == true) (wqlk k x3 (fun y10=>cond x5 (cond ((cond (x1 == 0) (x2 == 0) false) == true) (wq64 k x3 0 (fun y11=>cond ((!y11) == false) (cond ((!(x0 == [])) == true) (wqa2 k x0 (fun y12=>cond (!y12) (K 1) (K 0))) (K 0)) (K 1))) (K 1)) (cond ((!y10) == false) (cond ((!(x0 == [])) == true) (wqa2 k x0 (fun y11=>cond (!y11) (K 1) (K 0))) (K 0)) (K 1)))) (cond x5 (cond ((cond (x1 == 0) (x2 == 0) false) == true) (wq64 k x3 0 (fun y10=>cond ((!y10) == false) (cond ((!(x0 == [])) == true) (wqa2 k x0 (fun y11=>cond (!y11) (K 1) (K 0))) (K 0)) (K 1))) (K 1)) (K 1)))
def wqro(k:Nat){R:Type}(x0:(List UInt8))(x1 x2:Int)(x3:Nat)(x4 x5:Bool)(K:(Int→Option R)): Option R:=wq1kc k x0 x1 x2 x3 x4 x5 K
def wq1fs(f:(R:Type)→(List UInt8)→(Bool→Option R)→Option R){R:Type}: List PV→List (Nm×HObj)→(Out→Option R)→Option R
 |[.v .str x0],[],K=>f R x0 (fun y0=>K (.ret [.v .bool y0] []))
 |_,_,_=>none
def wq1ft(f:(R:Type)→Nat→Nat→(Bool→Option R)→Option R){R:Type}: List PV→List (Nm×HObj)→(Out→Option R)→Option R
 |[.v .flt x0,.v .flt x1],[],K=>f R x0 x1 (fun y0=>K (.ret [.v .bool y0] []))
 |_,_,_=>none
def wq1fu(f:(R:Type)→Int→(Int→Option R)→Option R){R:Type}: List PV→List (Nm×HObj)→(Out→Option R)→Option R
 |[.v (.int .i64) x0],[],K=>f R x0 (fun y0=>K (.ret [.v (.int .i64) y0] []))
 |_,_,_=>none
def wq1fv(f:(R:Type)→Nat→(Bool→Option R)→Option R){R:Type}: List PV→List (Nm×HObj)→(Out→Option R)→Option R
 |[.v .flt x0],[],K=>f R x0 (fun y0=>K (.ret [.v .bool y0] []))
 |_,_,_=>none
def wq15z(f0:(R:Type)→(List UInt8)→(Bool→Option R)→Option R)(f1:(R:Type)→Nat→Nat→(Bool→Option R)→Option R)(f2:(R:Type)→Int→(Int→Option R)→Option R)(f3:(R:Type)→Nat→(Bool→Option R)→Option R): Ctx:=⟨tyT,[],(.add 33 wqiu (wq1fs f0) (.add 140 wql6 (wq1ft f1) (.add 162 wq15w (wq1fu f2) (.add 163 wq15v (wq1fv f3) .nil)))),[],[],[],@SH⟩
def wq1ae(f0:(R:Type)→(List UInt8)→(Bool→Option R)→Option R)(f1:(R:Type)→Nat→Nat→(Bool→Option R)→Option R)(f2:(R:Type)→Int→(Int→Option R)→Option R)(f3:(R:Type)→Nat→(Bool→Option R)→Option R){R:Type}(x0:(List UInt8))(x1 x2:Int)(x3:Nat)(x4 x5:Bool)(K:(Int→Option R)): Option R:=f2 R x1 (fun y9=>cond ((cond (cond (decide (y9>0)) (decide (x2≥0)) false) (decide (x2≤4294967295)) false) == true) (f3 R x3 (fun y10=>cond x5 (cond ((cond (x1 == 0) (x2 == 0) false) == true) (f1 R x3 0 (fun y11=>cond ((!y11) == false) (cond ((!(x0 == [])) == true) (f0 R x0 (fun y12=>cond (!y12) (K 1) (K 0))) (K 0)) (K 1))) (K 1)) (cond ((!y10) == false) (cond ((!(x0 == [])) == true) (f0 R x0 (fun y11=>cond (!y11) (K 1) (K 0))) (K 0)) (K 1)))) (cond x5 (cond ((cond (x1 == 0) (x2 == 0) false) == true) (f1 R x3 0 (fun y10=>cond ((!y10) == false) (cond ((!(x0 == [])) == true) (f0 R x0 (fun y11=>cond (!y11) (K 1) (K 0))) (K 0)) (K 1))) (K 1)) (K 1)))
theorem wq1cb(f0:(R:Type)→(List UInt8)→(Bool→Option R)→Option R)(f1:(R:Type)→Nat→Nat→(Bool→Option R)→Option R)(f2:(R:Type)→Int→(Int→Option R)→Option R)(f3:(R:Type)→Nat→(Bool→Option R)→Option R)(k:Nat){R:Type}(x0:(List UInt8))(x1 x2:Int)(x3:Nat)(x4 x5:Bool)(K:(Int→Option R)): fnW (wq15z f0 f1 f2 f3) k Tryz.f109 wq15x [.agg [.v .str x0,.v kI x1,.v kI x2,.v .flt x3,.v .bool x4,.v .bool x5]] [] (wqp7 K)=wq1ae f0 f1 f2 f3 x0 x1 x2 x3 x4 x5 K:=by
 kernel_rfl
theorem wq1af(k:Nat): wq15y k=wq15z (fun R=>@wqa2 k R) (fun R=>@wq64 k R) (fun R=>@wqll k R) (fun R=>@wqlk k R):=by
 kernel_rfl
theorem wq1cc(k:Nat){R:Type}(x0:(List UInt8))(x1 x2:Int)(x3:Nat)(x4 x5:Bool)(K:(Int→Option R)): fnW (wq15y k) k Tryz.f109 wq15x [.agg [.v .str x0,.v kI x1,.v kI x2,.v .flt x3,.v .bool x4,.v .bool x5]] [] (wqp7 K)=wqro k x0 x1 x2 x3 x4 x5 K:=by
 have e:wqro k x0 x1 x2 x3 x4 x5 K=wq1ae (fun R=>@wqa2 k R) (fun R=>@wq64 k R) (fun R=>@wqll k R) (fun R=>@wqlk k R) x0 x1 x2 x3 x4 x5 K:=by kernel_rfl
 rw[wq1af,e]
 exact wq1cb (fun R=>@wqa2 k R) (fun R=>@wq64 k R) (fun R=>@wqll k R) (fun R=>@wqlk k R) k x0 x1 x2 x3 x4 x5 K
def wql9(k:Nat){R:Type}: List PV→List (Nm×HObj)→(Out→Option R)→Option R
 |[.agg [.v .str x0,.v (.int .i64) x1,.v (.int .i64) x2,.v .flt x3,.v .bool x4,.v .bool x5]],[],K=>wqro k x0 x1 x2 x3 x4 x5 (fun y0=>K (.ret [.v (.int .i64) y0] []))
 |_,_,_=>none
theorem wq1kd(k:Nat): DOK Tryz.prog 109 (wql9 k):=by
 intro ps hp R K r h
 have h:wql9 k ps hp K=some r:=h
 unfold wql9 at h
 split at h
 ·rw[←wq1cc]at h
  exact fnW_ok ⟨tyT_ok,(wqd (wqv3 k) (wqd (wqzi k) (wqd (wq1n2 k) (wqd (wq1n0 k) CTab.nil_ok)))),fun _ _=>rfl⟩ mixed (by kernel_rfl) (by kernel_rfl) h fun o ho=>by unfold wqp7 at ho;split at ho<;>first|exact ho|cases ho
 ·cases h
end Go.Proofs.YtabkhphoacmcdaaGreatDoor.Pvm
end
end
