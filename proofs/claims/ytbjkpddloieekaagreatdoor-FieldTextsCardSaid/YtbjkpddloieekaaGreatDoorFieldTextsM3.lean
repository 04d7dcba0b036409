/- For every text, quoted or not, least and most the Go function FieldTexts of turncocklaw14 returns true. -/
import Derived.Lib.BytesEntry
import Derived.Lib.TrimU
import Derived.Test.YtbjkpddloieekaaGreatDoorFieldTextsM0
import Derived.Test.YtbjkpddloieekaaGreatDoorFieldTextsM1
import Derived.Test.YtbjkpddloieekaaGreatDoorFieldTextsM2
set_option linter.unusedVariables false
set_option linter.unusedSimpArgs false
set_option linter.unusedSectionVars false
noncomputable section
set_option maxRecDepth 1000000
set_option maxHeartbeats 0
noncomputable section
namespace Go.Proofs.YtbjkpddloieekaaGreatDoor.Pvm
open Go Go.Proofs
def wq18q:List LS:=[.ag [.any,.any,.any,.any,.sl .str,.sl kI]]
def wqub{R:Type}(K:(Bool→Option R)): Out→Option R
 |.ret [.v .bool y0] []=>K y0
 |_=>none
def wq1bd:RetSpec:=⟨[.any],[],[]⟩
def wq1be(k:Nat): Ctx:=⟨tyT,[],(.add 166 wq12k (wqcu k) (.add 167 wq129 (wqcq k) .nil)),[],[],[],@SH⟩
def wq157(k:Nat){R:Type}(x0 x1:Int)(x2:(List UInt8))(x3:Bool)(x4:(List (List UInt8)))(x5:(List Int))(K:(Bool→Option R)): Option R:=cond (x0 == 1) (cond ((cond (cond ((x4.length:Int) == 0) ((x5.length:Int) == 0) false) (decide ((x2.length:Int)≤200)) false) == true) (cond (x3 == false) (wqeh k x2 K) (K true)) (K false)) (cond (x0 == 2) (K (cond (cond (cond (x2 == []) (!x3) false) ((x4.length:Int) == 0) false) (decide ((x5.length:Int)>0)) false)) (cond (x0 == 3) (cond ((cond (cond (cond (x2 == []) (!x3) false) (decide ((x5.length:Int)>0)) false) ((x4.length:Int) == (x5.length:Int)) false) == true) (wqe0 k x4 K) (K false)) (K false)))
def wqjw(k:Nat){R:Type}(x0 x1:Int)(x2:(List UInt8))(x3:Bool)(x4:(List (List UInt8)))(x5:(List Int))(K:(Bool→Option R)): Option R:=wq157 k x0 x1 x2 x3 x4 x5 K
theorem wq158(k:Nat){R:Type}(x0 x1:Int)(x2:(List UInt8))(x3:Bool)(x4:(List (List UInt8)))(x5:(List Int))(K:(Bool→Option R)): fnW (wq1be k) k Tryz.f112 wq1bd [.agg [.v kI x0,.v kI x1,.v .str x2,.v .bool x3,.v (.sl .str) x4,.v (.sl kI) x5]] [] (wqub K)=wqjw k x0 x1 x2 x3 x4 x5 K:=by
 kernel_rfl
def wqhu(k:Nat){R:Type}: List PV→List (Nm×HObj)→(Out→Option R)→Option R
 |[.agg [.v (.int .i64) x0,.v (.int .i64) x1,.v .str x2,.v .bool x3,.v (.sl .str) x4,.v (.sl (.int .i64)) x5]],[],K=>wqjw k x0 x1 x2 x3 x4 x5 (fun y0=>K (.ret [.v .bool y0] []))
 |_,_,_=>none
theorem wq1dp(k:Nat): DOK Tryz.prog 112 (wqhu k):=by
 intro ps hp R K r h
 have h:wqhu k ps hp K=some r:=h
 unfold wqhu at h
 split at h
 ·rw[←wq158]at h
  exact fnW_ok ⟨tyT_ok,(wq4 (wq18p k) (wq4 (wq18e k) CTab.nil_ok)),fun _ _=>rfl⟩ mixed (by kernel_rfl) (by kernel_rfl) h fun o ho=>by unfold wqub at ho;split at ho<;>first|exact ho|cases ho
 ·cases h
end Go.Proofs.YtbjkpddloieekaaGreatDoor.Pvm
end
noncomputable section
namespace Go.Proofs.YtbjkpddloieekaaGreatDoor.Pvm
open Go Go.Proofs
def wquc:List LS:=[.ag [.sl kdT25],.any,.any]
def wqpz(wq17:(R:Type)→(List dT25)→Int→Int→(Int→Option R)→Option R){R:Type}: List PV→List (Nm×HObj)→(Out→Option R)→Option R
 |[.agg [.v (.sl (.pr (.int .i64) (.pr (.int .i64) (.pr .str (.pr .bool (.pr (.sl .str) (.sl (.int .i64)))))))) x0],.v (.int .i64) x1,.v (.int .i64) x2],[],K=>wq17 R x0 x1 x2 (fun y0=>K (.ret [.v (.int .i64) y0] []))
 |_,_,_=>none
def wqcv{R:Type}(K:(Int→Option R)): Out→Option R
 |.ret [.v (.int .i64) y0] []=>K y0
 |_=>none
def wqnr:RetSpec:=⟨[.any],[],[]⟩
def wqns(k:Nat)(wq17:(R:Type)→(List dT25)→Int→Int→(Int→Option R)→Option R): Ctx:=⟨tyT,[(1005,⟨[(2,.any),(3,.obj 13 [.sl kdT25]),(7,.any),(35,.sl kI),(36,.any),(37,.any)],[]⟩)],(.add 60 wquc (wqpz wq17) (.add 112 wq18q (wqhu k) .nil)),[],[],[],@SH⟩
def wq7v(s0:Int)(s1:(List dT25))(s2:Int)(s3:(List Int))(s4 s5:Int): St:=⟨mkT [(2,.v kI s0),(3,.ptr 13 0),(7,.v kI s2),(35,.v (.sl kI) s3),(36,.v kI s4),(37,.v kI s5)],mkH [(13,.var 29 [.v kdT28 s1])]⟩
def wqei(k:Nat)(wq17:(R:Type)→(List dT25)→Int→Int→(Int→Option R)→Option R){R:Type}(I:Nat→St→Option R)(n:Nat)(s:St)(K:(Int→Option R)): Option R:=loopK (wqns k wq17) k Tryz.f60 wqnr 1005 [1,1,1,0,1,0] I n s (wqcv K)
def wq98(k:Nat)(wq17:(R:Type)→(List dT25)→Int→Int→(Int→Option R)→Option R){R:Type}(E1005:(Int→(List dT25)→Int→(List Int)→Int→Int→Option R))(s0:Int)(s1:(List dT25))(s2:Int)(s3:(List Int))(s4 s5:Int)(K:(Int→Option R)): Option R:=cond (decide (s5<s4)) (cond (inb s5 (s3.length:Int)) (cond ((s3.getD s5.toNat kI.zero) != s2) (K (@Neg.neg Int @Int.instNegInt (1:Int))) (wq17 R s1 (s3.getD s5.toNat kI.zero) (@Go.IntKind.wrap Go.IntKind.i64 (s0+1)) (fun y10=>cond (decide (y10<0)) (K (@Neg.neg Int @Int.instNegInt (1:Int))) (E1005 s0 s1 y10 s3 s4 (@Go.IntKind.wrap Go.IntKind.i64 (s5+1)))))) none) (K s2)
theorem wqq0(k:Nat)(wq17:(R:Type)→(List dT25)→Int→Int→(Int→Option R)→Option R){R:Type}(I:Nat→St→Option R)(s0:Int)(s1:(List dT25))(s2:Int)(s3:(List Int))(s4 s5:Int)(K:(Int→Option R)): bodyK (wqns k wq17) k Tryz.f60 wqnr [1,1,1,0,1,0,0] I (wq7v s0 s1 s2 s3 s4 s5) (wqcv K)=wq98 k wq17 (fun s0 s1 s2 s3 s4 s5=>I 1005 (wq7v s0 s1 s2 s3 s4 s5)) s0 s1 s2 s3 s4 s5 K:=by kernel_rfl
def wql3(k:Nat)(wq17:(R:Type)→(List dT25)→Int→Int→(Int→Option R)→Option R){R:Type}(E1005:(Int→(List dT25)→Int→(List Int)→Int→Int→Option R))(x0:(List dT25))(x1 x2:Int)(K:(Int→Option R)): Option R:=cond ((!((cond (decide (x1≥(x0.length:Int))) true (decide (x2>24))) == false)) || (inb x1 (x0.length:Int))) (cond ((cond (decide (x1≥(x0.length:Int))) true (decide (x2>24))) == false) (wqjw k (x0.getD x1.toNat (Kd.zero (@Kd.pr kI (@Kd.pr kI (@Kd.pr Kd.str (@Kd.pr Kd.bool (@Kd.pr (@Kd.sl Kd.str) (@Kd.sl kI)))))))).1 ((x0.getD x1.toNat (Kd.zero (@Kd.pr kI (@Kd.pr kI (@Kd.pr Kd.str (@Kd.pr Kd.bool (@Kd.pr (@Kd.sl Kd.str) (@Kd.sl kI)))))))).2).1 (((x0.getD x1.toNat (Kd.zero (@Kd.pr kI (@Kd.pr kI (@Kd.pr Kd.str (@Kd.pr Kd.bool (@Kd.pr (@Kd.sl Kd.str) (@Kd.sl kI)))))))).2).2).1 ((((x0.getD x1.toNat (Kd.zero (@Kd.pr kI (@Kd.pr kI (@Kd.pr Kd.str (@Kd.pr Kd.bool (@Kd.pr (@Kd.sl Kd.str) (@Kd.sl kI)))))))).2).2).2).1 (((((x0.getD x1.toNat (Kd.zero (@Kd.pr kI (@Kd.pr kI (@Kd.pr Kd.str (@Kd.pr Kd.bool (@Kd.pr (@Kd.sl Kd.str) (@Kd.sl kI)))))))).2).2).2).2).1 (((((x0.getD x1.toNat (Kd.zero (@Kd.pr kI (@Kd.pr kI (@Kd.pr Kd.str (@Kd.pr Kd.bool (@Kd.pr (@Kd.sl Kd.str) (@Kd.sl kI)))))))).2).2).2).2).2 (fun y7=>cond (!y7) (K (@Neg.neg Int @Int.instNegInt (1:Int))) (cond (inb x1 (x0.length:Int)) (E1005 x2 x0 (@Go.IntKind.wrap Go.IntKind.i64 (x1+1)) (((((x0.getD x1.toNat (Kd.zero (@Kd.pr kI (@Kd.pr kI (@Kd.pr Kd.str (@Kd.pr Kd.bool (@Kd.pr (@Kd.sl Kd.str) (@Kd.sl kI)))))))).2).2).2).2).2 (((((((x0.getD x1.toNat (Kd.zero (@Kd.pr kI (@Kd.pr kI (@Kd.pr Kd.str (@Kd.pr Kd.bool (@Kd.pr (@Kd.sl Kd.str) (@Kd.sl kI)))))))).2).2).2).2).2).length:Int) 0) none))) (K (@Neg.neg Int @Int.instNegInt (1:Int)))) none
def wq46(k:Nat)(wq17:(R:Type)→(List dT25)→Int→Int→(Int→Option R)→Option R){R:Type}: Nat→Int→(List dT25)→Int→(List Int)→Int→Int→(Int→Option R)→Option R
 |0,_,_,_,_,_,_,_=>none
 |n+1,s0,s1,s2,s3,s4,s5,K=>wq98 k wq17 (fun s0 s1 s2 s3 s4 s5=>wq46 k wq17 n s0 s1 s2 s3 s4 s5 K) s0 s1 s2 s3 s4 s5 K
theorem wqq1(k:Nat)(wq17:(R:Type)→(List dT25)→Int→Int→(Int→Option R)→Option R){R:Type}(I:Nat→St→Option R)(K:(Int→Option R))(n:Nat): ∀(s0:Int) (s1:(List dT25)) (s2:Int) (s3:(List Int)) (s4 s5:Int),wqei k wq17 I n (wq7v s0 s1 s2 s3 s4 s5) K=wq46 k wq17 n s0 s1 s2 s3 s4 s5 K:=by
 induction n with
 |zero=>intros;rfl
 |succ n ih =>
  intro s0 s1 s2 s3 s4 s5
  refine(?_:_=_).trans ((wqq0 k wq17 (upI 1005 (fun s=>wqei k wq17 I n s K) I) s0 s1 s2 s3 s4 s5 K).trans ?_)
  ·rfl
  ·simp only[wqy,ih]<;>rfl
def wq2c:Nat→(R:Type)→(List dT25)→Int→Int→(Int→Option R)→Option R
 |0,_,_,_,_,_=>none
 |k+1,R,x0,x1,x2,K=>wql3 k (wq2c k) (fun s0 s1 s2 s3 s4 s5=>wq46 k (wq2c k) k s0 s1 s2 s3 s4 s5 K) x0 x1 x2 K
def wqh0(k:Nat){R:Type}(x0:(List dT25))(x1 x2:Int)(K:(Int→Option R)): Option R:=wq2c k R x0 x1 x2 K
theorem wq12l(k:Nat){R:Type}(x0:(List dT25))(x1 x2:Int)(K:(Int→Option R)): fnW (wqns k (wq2c k)) k Tryz.f60 wqnr [.agg [.v kdT28 x0],.v kI x1,.v kI x2] [] (wqcv K)=wq2c (k+1) R x0 x1 x2 K:=by
 rw[wq2c]
 refine Eq.trans (b:=wql3 k (wq2c k) (fun s0 s1 s2 s3 s4 s5=>wqei k (wq2c k) (fun _ _=>none) k (wq7v s0 s1 s2 s3 s4 s5) K) x0 x1 x2 K) (by kernel_rfl) ?_
 simp only[wqq1]<;>rfl
def wq4k(k:Nat){R:Type}: List PV→List (Nm×HObj)→(Out→Option R)→Option R
 |[.agg [.v (.sl (.pr (.int .i64) (.pr (.int .i64) (.pr .str (.pr .bool (.pr (.sl .str) (.sl (.int .i64)))))))) x0],.v (.int .i64) x1,.v (.int .i64) x2],[],K=>wqh0 k x0 x1 x2 (fun y0=>K (.ret [.v (.int .i64) y0] []))
 |_,_,_=>none
theorem wq18r(k:Nat): DOK Tryz.prog 60 (wq4k k):=by
 induction k with
 |zero =>
  ·intro ps hp R K r h
   have h:wq4k 0 ps hp K=some r:=h
   unfold wq4k at h
   split at h
   ·unfold wqh0 at h;rw[wq2c]at h;cases h
   ·cases h
 |succ k ih =>
  have ih_show_walk:=ih
  ·intro ps hp R K r h
   have h:wq4k (k+1) ps hp K=some r:=h
   unfold wq4k at h
   split at h
   ·unfold wqh0 at h;rw[←wq12l]at h
    exact fnW_ok ⟨tyT_ok,(CTab.add_ok (fun h=>ih_show_walk _ _ _ _ _ (by unfold wqpz at h;unfold wq4k;exact h)) (wq4 (wq1dp k) CTab.nil_ok)),fun _ _=>rfl⟩ mixed (by kernel_rfl) (by kernel_rfl) h fun o ho=>by unfold wqcv at ho;split at ho<;>first|exact ho|cases ho
   ·cases h
theorem wq1bf(k:Nat): DOK Tryz.prog 60 (wq4k k):=(wq18r k)
end Go.Proofs.YtbjkpddloieekaaGreatDoor.Pvm
end
noncomputable section
namespace Go.Proofs.YtbjkpddloieekaaGreatDoor.Pvm
open Go Go.Proofs
def wq12m:List LS:=[.ag [.sl kdT25]]
def wqlz{R:Type}(K:(Int→Option R)): Out→Option R
 |.ret [.v (.int .i64) y0] []=>K y0
 |_=>none
def wq159:RetSpec:=⟨[.any],[],[]⟩
def wq15a(k:Nat): Ctx:=⟨tyT,[],(.add 60 wquc (wq4k k) .nil),[],[],[(1,(.of [(0,1),(1,1),(2,1),(3,1),(4,1),(5,1),(6,1),(7,1),(8,1),(9,1),(10,1),(13,1),(11,1),(14,2),(15,1),(12,0),(16,1),(17,1)] .done))],@SH⟩
def wqx7(k:Nat){R:Type}(x0:(List dT25))(K:(Int→Option R)): Option R:=cond ((cond (decide ((x0.length:Int)<1)) true (decide ((x0.length:Int)>2000))) == false) (wqh0 k x0 0 1 (fun y4=>cond (y4 != (x0.length:Int)) (K 1) (K 0))) (K 1)
def wqej(k:Nat){R:Type}(x0:(List dT25))(K:(Int→Option R)): Option R:=wqx7 k x0 K
theorem wqz4(k:Nat){R:Type}(x0:(List dT25))(K:(Int→Option R)): fnW (wq15a k) k Tryz.f17 wq159 [.agg [.v kdT28 x0]] [] (wqlz K)=wqej k x0 K:=by
 kernel_rfl
def wqcw(k:Nat){R:Type}: List PV→List (Nm×HObj)→(Out→Option R)→Option R
 |[.agg [.v (.sl (.pr (.int .i64) (.pr (.int .i64) (.pr .str (.pr .bool (.pr (.sl .str) (.sl (.int .i64)))))))) x0]],[],K=>wqej k x0 (fun y0=>K (.ret [.v (.int .i64) y0] []))
 |_,_,_=>none
theorem wq18s(k:Nat): DOK Tryz.prog 17 (wqcw k):=by
 intro ps hp R K r h
 have h:wqcw k ps hp K=some r:=h
 unfold wqcw at h
 split at h
 ·rw[←wqz4]at h
  exact fnW_ok ⟨tyT_ok,(wq4 (wq1bf k) CTab.nil_ok),fun _ _=>rfl⟩ mixed (by kernel_rfl) (by kernel_rfl) h fun o ho=>by unfold wqlz at ho;split at ho<;>first|exact ho|cases ho
 ·cases h
end Go.Proofs.YtbjkpddloieekaaGreatDoor.Pvm
end
noncomputable section
namespace Go.Proofs.YtbjkpddloieekaaGreatDoor.Pvm
open Go Go.Proofs
def wq6c:List LS:=[.ag [.sl kdT25],.any]
def wqud{R:Type}(K:((List dT25)→Bool→Option R)): Out→Option R
 |.ret [.agg [.v (.sl (.pr (.int .i64) (.pr (.int .i64) (.pr .str (.pr .bool (.pr (.sl .str) (.sl (.int .i64)))))))) y0],.v .bool y1] []=>K y0 y1
 |_=>none
def wq1bg:RetSpec:=⟨[.ag [.sl (.pr (.int .i64) (.pr (.int .i64) (.pr .str (.pr .bool (.pr (.sl .str) (.sl (.int .i64)))))))],.any],[],[]⟩
def wq1bh(k:Nat): Ctx:=⟨tyT,[],(.add 17 wq12m (wqcw k) .nil),[],[],[(1,(.of [(2,1),(3,1),(4,1),(5,1),(6,1),(7,1),(8,1),(9,1),(10,1),(11,1),(12,1),(0,2),(1,1),(13,0),(14,1),(15,1),(16,0),(17,1)] .done))],@SH⟩
def wq15b(k:Nat){R:Type}(x0:(List dT25))(x1:Int)(K:((List dT25)→Bool→Option R)): Option R:=cond ((cond (decide (x1≥0)) (decide (x1<(x0.length:Int))) false) == true) (wqej k x0 (fun y5=>K x0 (y5 == 0))) (K x0 false)
def wq5e(k:Nat){R:Type}(x0:(List dT25))(x1:Int)(K:((List dT25)→Bool→Option R)): Option R:=wq15b k x0 x1 K
theorem wq15c(k:Nat){R:Type}(x0:(List dT25))(x1:Int)(K:((List dT25)→Bool→Option R)): fnW (wq1bh k) k Tryz.f31 wq1bg [.agg [.v kdT28 x0],.v kI x1] [] (wqud K)=wq5e k x0 x1 K:=by
 kernel_rfl
def wq2w(k:Nat){R:Type}: List PV→List (Nm×HObj)→(Out→Option R)→Option R
 |[.agg [.v (.sl (.pr (.int .i64) (.pr (.int .i64) (.pr .str (.pr .bool (.pr (.sl .str) (.sl (.int .i64)))))))) x0],.v (.int .i64) x1],[],K=>wq5e k x0 x1 (fun y0 y1=>K (.ret [.agg [.v (.sl (.pr (.int .i64) (.pr (.int .i64) (.pr .str (.pr .bool (.pr (.sl .str) (.sl (.int .i64)))))))) y0],.v .bool y1] []))
 |_,_,_=>none
theorem wqbs(k:Nat): DOK Tryz.prog 31 (wq2w k):=by
 intro ps hp R K r h
 have h:wq2w k ps hp K=some r:=h
 unfold wq2w at h
 split at h
 ·rw[←wq15c]at h
  exact fnW_ok ⟨tyT_ok,(wq4 (wq18s k) CTab.nil_ok),fun _ _=>rfl⟩ mixed (by kernel_rfl) (by kernel_rfl) h fun o ho=>by unfold wqud at ho;split at ho<;>first|exact ho|cases ho
 ·cases h
end Go.Proofs.YtbjkpddloieekaaGreatDoor.Pvm
end
noncomputable section
namespace Go.Proofs.YtbjkpddloieekaaGreatDoor.Pvm
open Go Go.Proofs
def wq6v:List LS:=[.ag [.sl kdT25],.any]
def wqm0{R:Type}(K:(Bool→Int→Int→Option R)): Out→Option R
 |.ret [.v .bool y0,.agg [.v (.int .i64) y1,.v (.int .i64) y2]] []=>K y0 y1 y2
 |_=>none
def wq15d:RetSpec:=⟨[.any,.ag [.any,.any]],[],[]⟩
def wq15e(k:Nat): Ctx:=⟨tyT,[],(.add 31 wq6c (wq2w k) (.add 33 wq4r (wq1y k) (.add 34 wqpl (wq5r k) .nil))),[],[],[],@SH⟩
def wqx8(k:Nat){R:Type}(x0:(List dT25))(x1:Int)(K:(Bool→Int→Int→Option R)): Option R:=wq5e k x0 x1 (fun y5 y6=>cond y6 (wq7q k y5 x1 K) (wq4s k (fun y7 y8=>K false y7 y8)))
def wq12(k:Nat){R:Type}(x0:(List dT25))(x1:Int)(K:(Bool→Int→Int→Option R)): Option R:=wqx8 k x0 x1 K
theorem wqz5(k:Nat){R:Type}(x0:(List dT25))(x1:Int)(K:(Bool→Int→Int→Option R)): fnW (wq15e k) k Tryz.f9 wq15d [.agg [.v kdT28 x0],.v kI x1] [] (wqm0 K)=wq12 k x0 x1 K:=by
 kernel_rfl
def wq6w(k:Nat){R:Type}: List PV→List (Nm×HObj)→(Out→Option R)→Option R
 |[.agg [.v (.sl (.pr (.int .i64) (.pr (.int .i64) (.pr .str (.pr .bool (.pr (.sl .str) (.sl (.int .i64)))))))) x0],.v (.int .i64) x1],[],K=>wq12 k x0 x1 (fun y0 y1 y2=>K (.ret [.v .bool y0,.agg [.v (.int .i64) y1,.v (.int .i64) y2]] []))
 |_,_,_=>none
theorem wqnt(k:Nat): DOK Tryz.prog 9 (wq6w k):=by
 intro ps hp R K r h
 have h:wq6w k ps hp K=some r:=h
 unfold wq6w at h
 split at h
 ·rw[←wqz5]at h
  exact fnW_ok ⟨tyT_ok,(wq4 (wqbs k) (wq4 (wq8m k) (wq4 (wqv0 k) CTab.nil_ok))),fun _ _=>rfl⟩ mixed (by kernel_rfl) (by kernel_rfl) h fun o ho=>by unfold wqm0 at ho;split at ho<;>first|exact ho|cases ho
 ·cases h
end Go.Proofs.YtbjkpddloieekaaGreatDoor.Pvm
end
noncomputable section
namespace Go.Proofs.YtbjkpddloieekaaGreatDoor.Pvm
open Go Go.Proofs
def wqnu:List LS:=[.any]
def wque{R:Type}(K:(Int→Option R)): Out→Option R
 |.ret [.v (.int .i64) y0] []=>K y0
 |_=>none
def wq1bi:RetSpec:=⟨[.any],[],[]⟩
def wq1bj(k:Nat): Ctx:=⟨tyT,[],.nil,[],[],[],@SH⟩
def wq15f(k:Nat){R:Type}(x0:Int)(K:(Int→Option R)): Option R:=K (cond false (@ite (@Kd.T kI) ((4611686018427387904:Int)>(cond true (@ite (@Kd.T kI) ((0:Int)>x0) (@Int.decLt x0 (0:Int)) (0:Int) x0) (@ite (@Kd.T kI) ((0:Int)<x0) (@Int.decLt (0:Int) x0) (0:Int) x0))) (@Int.decLt (cond true (@ite (@Kd.T kI) ((0:Int)>x0) (@Int.decLt x0 (0:Int)) (0:Int) x0) (@ite (@Kd.T kI) ((0:Int)<x0) (@Int.decLt (0:Int) x0) (0:Int) x0)) (4611686018427387904:Int)) (4611686018427387904:Int) (cond true (@ite (@Kd.T kI) ((0:Int)>x0) (@Int.decLt x0 (0:Int)) (0:Int) x0) (@ite (@Kd.T kI) ((0:Int)<x0) (@Int.decLt (0:Int) x0) (0:Int) x0))) (@ite (@Kd.T kI) ((4611686018427387904:Int)<(cond true (@ite (@Kd.T kI) ((0:Int)>x0) (@Int.decLt x0 (0:Int)) (0:Int) x0) (@ite (@Kd.T kI) ((0:Int)<x0) (@Int.decLt (0:Int) x0) (0:Int) x0))) (@Int.decLt (4611686018427387904:Int) (cond true (@ite (@Kd.T kI) ((0:Int)>x0) (@Int.decLt x0 (0:Int)) (0:Int) x0) (@ite (@Kd.T kI) ((0:Int)<x0) (@Int.decLt (0:Int) x0) (0:Int) x0))) (4611686018427387904:Int) (cond true (@ite (@Kd.T kI) ((0:Int)>x0) (@Int.decLt x0 (0:Int)) (0:Int) x0) (@ite (@Kd.T kI) ((0:Int)<x0) (@Int.decLt (0:Int) x0) (0:Int) x0))))
def wq7m(k:Nat){R:Type}(x0:Int)(K:(Int→Option R)): Option R:=wq15f k x0 K
theorem wq15g(k:Nat){R:Type}(x0:Int)(K:(Int→Option R)): fnW (wq1bj k) k Tryz.f188 wq1bi [.v kI x0] [] (wque K)=wq7m k x0 K:=by
 kernel_rfl
def wqah(k:Nat){R:Type}: List PV→List (Nm×HObj)→(Out→Option R)→Option R
 |[.v (.int .i64) x0],[],K=>wq7m k x0 (fun y0=>K (.ret [.v (.int .i64) y0] []))
 |_,_,_=>none
theorem wqx9(k:Nat): DOK Tryz.prog 188 (wqah k):=by
 intro ps hp R K r h
 have h:wqah k ps hp K=some r:=h
 unfold wqah at h
 split at h
 ·rw[←wq15g]at h
  exact fnW_ok ⟨tyT_ok,CTab.nil_ok,fun _ _=>rfl⟩ mixed (by kernel_rfl) (by kernel_rfl) h fun o ho=>by unfold wque at ho;split at ho<;>first|exact ho|cases ho
 ·cases h
end Go.Proofs.YtbjkpddloieekaaGreatDoor.Pvm
end
noncomputable section
namespace Go.Proofs.YtbjkpddloieekaaGreatDoor.Pvm
open Go Go.Proofs
def wq1bk:List LS:=[.any,.any]
def wqxa{R:Type}(K:(Int→Option R)): Out→Option R
 |.ret [.v (.int .i64) y0] []=>K y0
 |_=>none
def wq1dq:RetSpec:=⟨[.any],[],[]⟩
def wq1dr(k:Nat): Ctx:=⟨tyT,[],(.add 188 wqnu (wqah k) .nil),[],[],[],@SH⟩
def wq1af(k:Nat){R:Type}(x0 x1:Int)(K:(Int→Option R)): Option R:=wq7m k x0 (fun y5=>wq7m k x1 (fun y6=>cond (decide (y5>(@Go.IntKind.wrap Go.IntKind.i64 ((4611686018427387904:Int)-y6)))) (K 4611686018427387904) (K (@Go.IntKind.wrap Go.IntKind.i64 (y5+y6)))))
def wqq2(k:Nat){R:Type}(x0 x1:Int)(K:(Int→Option R)): Option R:=wq1af k x0 x1 K
theorem wq18t(k:Nat){R:Type}(x0 x1:Int)(K:(Int→Option R)): fnW (wq1dr k) k Tryz.f132 wq1dq [.v kI x0,.v kI x1] [] (wqxa K)=wqq2 k x0 x1 K:=by
 kernel_rfl
def wql4(k:Nat){R:Type}: List PV→List (Nm×HObj)→(Out→Option R)→Option R
 |[.v (.int .i64) x0,.v (.int .i64) x1],[],K=>wqq2 k x0 x1 (fun y0=>K (.ret [.v (.int .i64) y0] []))
 |_,_,_=>none
theorem wq1f7(k:Nat): DOK Tryz.prog 132 (wql4 k):=by
 intro ps hp R K r h
 have h:wql4 k ps hp K=some r:=h
 unfold wql4 at h
 split at h
 ·rw[←wq18t]at h
  exact fnW_ok ⟨tyT_ok,(wq4 (wqx9 k) CTab.nil_ok),fun _ _=>rfl⟩ mixed (by kernel_rfl) (by kernel_rfl) h fun o ho=>by unfold wqxa at ho;split at ho<;>first|exact ho|cases ho
 ·cases h
end Go.Proofs.YtbjkpddloieekaaGreatDoor.Pvm
end
noncomputable section
namespace Go.Proofs.YtbjkpddloieekaaGreatDoor.Pvm
open Go Go.Proofs
def wq12n:List LS:=[.any]
def wqb2{R:Type}(K:((List UInt8)→Option R)): Out→Option R
 |.ret [.v .str y0] []=>K y0
 |_=>none
def wqjx:RetSpec:=⟨[.any],[],[]⟩
def wqjy(k:Nat): Ctx:=⟨tyT,[(1004,⟨[(0,.any),(3,.sl (.int .u8))],[]⟩)],(.add 188 wqnu (wqah k) .nil),[],[],[],@SH⟩
def wq6x(s0:Int)(s1:(List Int)): St:=⟨mkT [(0,.v kI s0),(3,.v (.sl (.int .u8)) s1)],mkH []⟩
def wqcc(k:Nat){R:Type}(I:Nat→St→Option R)(n:Nat)(s:St)(K:((List UInt8)→Option R)): Option R:=loopK (wqjy k) k Tryz.f134 wqjx 1004 [1,1,1,0,1,0] I n s (wqb2 K)
def wq7w(k:Nat){R:Type}(E1004:(Int→(List Int)→Option R))(s0:Int)(s1:(List Int))(K:((List UInt8)→Option R)): Option R:=cond (decide (s0>0)) (cond (fits (@List.length (@Kd.T (@Kd.int Go.IntKind.u8)) [(@Go.IntKind.wrap Go.IntKind.u8 (@Go.IntKind.wrap Go.IntKind.i64 ((48:Int)+(Int.tmod s0 10))))]) s1.length 1) (E1004 (@Go.IntKind.wrap Go.IntKind.i64 (Int.tdiv s0 10)) ([(@Go.IntKind.wrap Go.IntKind.u8 (@Go.IntKind.wrap Go.IntKind.i64 ((48:Int)+(Int.tmod s0 10))))]++s1)) none) (K (wq7i s1))
theorem wqnv(k:Nat){R:Type}(I:Nat→St→Option R)(s0:Int)(s1:(List Int))(K:((List UInt8)→Option R)): bodyK (wqjy k) k Tryz.f134 wqjx [1,1,1,0,1,0,0] I (wq6x s0 s1) (wqb2 K)=wq7w k (fun s0 s1=>I 1004 (wq6x s0 s1)) s0 s1 K:=by kernel_rfl
def wqnw(k:Nat){R:Type}(E1004:(Int→(List Int)→Option R))(x0:Int)(K:((List UInt8)→Option R)): Option R:=wq7m k x0 (fun y5=>E1004 (@Go.IntKind.wrap Go.IntKind.i64 (Int.tdiv y5 10)) [(@Go.IntKind.wrap Go.IntKind.u8 (@Go.IntKind.wrap Go.IntKind.i64 ((48:Int)+(Int.tmod y5 10))))])
def wq3a(k:Nat){R:Type}: Nat→Int→(List Int)→((List UInt8)→Option R)→Option R
 |0,_,_,_=>none
 |n+1,s0,s1,K=>wq7w k (fun s0 s1=>wq3a k n s0 s1 K) s0 s1 K
theorem wqnx(k:Nat){R:Type}(I:Nat→St→Option R)(K:((List UInt8)→Option R))(n:Nat): ∀(s0:Int) (s1:(List Int)),wqcc k I n (wq6x s0 s1) K=wq3a k n s0 s1 K:=by
 induction n with
 |zero=>intros;rfl
 |succ n ih =>
  intro s0 s1
  refine(?_:_=_).trans ((wqnv k (upI 1004 (fun s=>wqcc k I n s K) I) s0 s1 K).trans ?_)
  ·rfl
  ·simp only[wqy,ih]<;>rfl
def wqek(k:Nat){R:Type}(x0:Int)(K:((List UInt8)→Option R)): Option R:=wqnw k (fun s0 s1=>wq3a k k s0 s1 K) x0 K
theorem wqz6(k:Nat){R:Type}(x0:Int)(K:((List UInt8)→Option R)): fnW (wqjy k) k Tryz.f134 wqjx [.v kI x0] [] (wqb2 K)=wqek k x0 K:=by
 refine Eq.trans (b:=wqnw k (fun s0 s1=>wqcc k (fun _ _=>none) k (wq6x s0 s1) K) x0 K) (by kernel_rfl) ?_
 simp only[wqnx]<;>rfl
def wqcx(k:Nat){R:Type}: List PV→List (Nm×HObj)→(Out→Option R)→Option R
 |[.v (.int .i64) x0],[],K=>wqek k x0 (fun y0=>K (.ret [.v .str y0] []))
 |_,_,_=>none
theorem wq18u(k:Nat): DOK Tryz.prog 134 (wqcx k):=by
 intro ps hp R K r h
 have h:wqcx k ps hp K=some r:=h
 unfold wqcx at h
 split at h
 ·rw[←wqz6]at h
  exact fnW_ok ⟨tyT_ok,(wq4 (wqx9 k) CTab.nil_ok),fun _ _=>rfl⟩ mixed (by kernel_rfl) (by kernel_rfl) h fun o ho=>by unfold wqb2 at ho;split at ho<;>first|exact ho|cases ho
 ·cases h
end Go.Proofs.YtbjkpddloieekaaGreatDoor.Pvm
end
noncomputable section
namespace Go.Proofs.YtbjkpddloieekaaGreatDoor.Pvm
open Go Go.Proofs
def wq1bl:List LS:=[.any,.any]
def wqxb{R:Type}(K:(Int→Option R)): Out→Option R
 |.ret [.v (.int .i64) y0] []=>K y0
 |_=>none
def wq1ds:RetSpec:=⟨[.any],[],[]⟩
def wq1dt(k:Nat): Ctx:=⟨tyT,[],(.add 188 wqnu (wqah k) .nil),[],[],[],@SH⟩
def wq1ag(k:Nat){R:Type}(x0 x1:Int)(K:(Int→Option R)): Option R:=wq7m k x0 (fun y5=>wq7m k x1 (fun y6=>cond ((!((decide (y6>0)) == true)) || (y6 != 0)) (cond (cond (decide (y6>0)) (decide (y5>(@Go.IntKind.wrap Go.IntKind.i64 (Int.tdiv 4611686018427387904 y6)))) false) (K 4611686018427387904) (K (@Go.IntKind.wrap Go.IntKind.i64 (y5*y6)))) none))
def wqq3(k:Nat){R:Type}(x0 x1:Int)(K:(Int→Option R)): Option R:=wq1ag k x0 x1 K
theorem wq18v(k:Nat){R:Type}(x0 x1:Int)(K:(Int→Option R)): fnW (wq1dt k) k Tryz.f133 wq1ds [.v kI x0,.v kI x1] [] (wqxb K)=wqq3 k x0 x1 K:=by
 kernel_rfl
def wql5(k:Nat){R:Type}: List PV→List (Nm×HObj)→(Out→Option R)→Option R
 |[.v (.int .i64) x0,.v (.int .i64) x1],[],K=>wqq3 k x0 x1 (fun y0=>K (.ret [.v (.int .i64) y0] []))
 |_,_,_=>none
theorem wq1f8(k:Nat): DOK Tryz.prog 133 (wql5 k):=by
 intro ps hp R K r h
 have h:wql5 k ps hp K=some r:=h
 unfold wql5 at h
 split at h
 ·rw[←wq18v]at h
  exact fnW_ok ⟨tyT_ok,(wq4 (wqx9 k) CTab.nil_ok),fun _ _=>rfl⟩ mixed (by kernel_rfl) (by kernel_rfl) h fun o ho=>by unfold wqxb at ho;split at ho<;>first|exact ho|cases ho
 ·cases h
end Go.Proofs.YtbjkpddloieekaaGreatDoor.Pvm
end
noncomputable section
namespace Go.Proofs.YtbjkpddloieekaaGreatDoor.Pvm
open Go Go.Proofs
def wq15h:List LS:=[.any]
def wqcy{R:Type}(K:(Int→Bool→Option R)): Out→Option R
 |.ret [.v (.int .i64) y0,.v .bool y1] []=>K y0 y1
 |_=>none
def wqny:RetSpec:=⟨[.any,.any],[],[]⟩
def wqnz(k:Nat): Ctx:=⟨tyT,[(1003,⟨[(0,.any),(4,.any),(8,.mpo 78 .it kI)],[]⟩)],(.add 132 wq1bk (wql4 k) (.add 133 wq1bl (wql5 k) (.add 134 wq12n (wqcx k) .nil))),[],[],[],@SH⟩
def wq7x(s0:(List UInt8))(s1:Int)(s2:(List UInt8))(s3:Int): St:=⟨mkT [(0,.v .str s0),(4,.v kI s1),(8,.mpp 78)],mkH [(78,.mp .it kI [(s2,s3)])]⟩
def wqel(k:Nat){R:Type}(I:Nat→St→Option R)(n:Nat)(s:St)(K:(Int→Bool→Option R)): Option R:=loopK (wqnz k) k Tryz.f78 wqny 1003 [1,1,0,1,0] I n s (wqcy K)
def wq99(k:Nat){R:Type}(E1003:((List UInt8)→Int→(List UInt8)→Int→Option R))(s0:(List UInt8))(s1:Int)(s2:(List UInt8))(s3:Int)(K:(Int→Bool→Option R)): Option R:=cond (decide (s3<(s2.length:Int))) (cond (decide (s3<(s2.length:Int))) (cond (cond (decide ((nxtC s2 s3)<48)) true (decide ((nxtC s2 s3)>57))) (K 0 false) (wqq3 k s1 10 (fun y8=>wqq2 k y8 (@Go.IntKind.wrap Go.IntKind.i64 (@Go.IntKind.wrap Go.IntKind.i32 ((nxtC s2 s3)-48))) (fun y9=>E1003 s0 y9 s2 (nxtP s2 s3))))) none) (wqek k s1 (fun y8=>cond (!(y8 == s0)) (K 0 false) (K s1 true)))
theorem wqq4(k:Nat){R:Type}(I:Nat→St→Option R)(s0:(List UInt8))(s1:Int)(s2:(List UInt8))(s3:Int)(K:(Int→Bool→Option R)): bodyK (wqnz k) k Tryz.f78 wqny [1,1,0,1,0,0] I (wq7x s0 s1 s2 s3) (wqcy K)=wq99 k (fun s0 s1 s2 s3=>I 1003 (wq7x s0 s1 s2 s3)) s0 s1 s2 s3 K:=by kernel_rfl
def wqt3(k:Nat){R:Type}(E1003:((List UInt8)→Int→(List UInt8)→Int→Option R))(x0:(List UInt8))(K:(Int→Bool→Option R)): Option R:=E1003 x0 0 x0 0
def wq47(k:Nat){R:Type}: Nat→(List UInt8)→Int→(List UInt8)→Int→(Int→Bool→Option R)→Option R
 |0,_,_,_,_,_=>none
 |n+1,s0,s1,s2,s3,K=>wq99 k (fun s0 s1 s2 s3=>wq47 k n s0 s1 s2 s3 K) s0 s1 s2 s3 K
theorem wqq5(k:Nat){R:Type}(I:Nat→St→Option R)(K:(Int→Bool→Option R))(n:Nat): ∀(s0:(List UInt8)) (s1:Int) (s2:(List UInt8)) (s3:Int),wqel k I n (wq7x s0 s1 s2 s3) K=wq47 k n s0 s1 s2 s3 K:=by
 induction n with
 |zero=>intros;rfl
 |succ n ih =>
  intro s0 s1 s2 s3
  refine(?_:_=_).trans ((wqq4 k (upI 1003 (fun s=>wqel k I n s K) I) s0 s1 s2 s3 K).trans ?_)
  ·rfl
  ·simp only[wqy,ih]<;>rfl
def wqh1(k:Nat){R:Type}(x0:(List UInt8))(K:(Int→Bool→Option R)): Option R:=wqt3 k (fun s0 s1 s2 s3=>wq47 k k s0 s1 s2 s3 K) x0 K
theorem wq12o(k:Nat){R:Type}(x0:(List UInt8))(K:(Int→Bool→Option R)): fnW (wqnz k) k Tryz.f78 wqny [.v .str x0] [] (wqcy K)=wqh1 k x0 K:=by
 refine Eq.trans (b:=wqt3 k (fun s0 s1 s2 s3=>wqel k (fun _ _=>none) k (wq7x s0 s1 s2 s3) K) x0 K) (by kernel_rfl) ?_
 simp only[wqq5]<;>rfl
def wqfn(k:Nat){R:Type}: List PV→List (Nm×HObj)→(Out→Option R)→Option R
 |[.v .str x0],[],K=>wqh1 k x0 (fun y0 y1=>K (.ret [.v (.int .i64) y0,.v .bool y1] []))
 |_,_,_=>none
theorem wq1bm(k:Nat): DOK Tryz.prog 78 (wqfn k):=by
 intro ps hp R K r h
 have h:wqfn k ps hp K=some r:=h
 unfold wqfn at h
 split at h
 ·rw[←wq12o]at h
  exact fnW_ok ⟨tyT_ok,(wq4 (wq1f7 k) (wq4 (wq1f8 k) (wq4 (wq18u k) CTab.nil_ok))),fun _ _=>rfl⟩ mixed (by kernel_rfl) (by kernel_rfl) h fun o ho=>by unfold wqcy at ho;split at ho<;>first|exact ho|cases ho
 ·cases h
end Go.Proofs.YtbjkpddloieekaaGreatDoor.Pvm
end
noncomputable section
namespace Go.Proofs.YtbjkpddloieekaaGreatDoor.Pvm
open Go Go.Proofs
def wqld:List LS:=[.ag [.sl kdT25],.any,.any,.any]
def wqbt{R:Type}(K:(Int→Int→Int→Option R)): Out→Option R
 |.ret [.v (.int .i64) y0,.agg [.v (.int .i64) y1,.v (.int .i64) y2]] []=>K y0 y1 y2
 |_=>none
def wqo0:RetSpec:=⟨[.any,.ag [.any,.any]],[],[]⟩
def wqo1(k:Nat): Ctx:=⟨tyT,[],(.add 77 wq5q (wq25 k) (.add 78 wq15h (wqfn k) (.add 79 wqs (wqi k) .nil))),[],[],[(3,(.of [(1,1),(0,1),(2,0)] .done))],@SH⟩
def wqfo(k:Nat){R:Type}(x0:(List dT25))(x1 x2 x3:Int)(K:(Int→Int→Int→Option R)): Option R:=wq13 k x0 x1 13 (fun y7 y8 y9=>cond (y8 != 0) (K 0 y8 y9) (wqh1 k y7 (fun y10 y11=>cond (cond (cond (!y11) true (decide (y10<x2))) true (decide (y10>x3))) (wq9 k x0 x1 13 (fun y12 y13=>K 0 y12 y13)) (K y10 0 0))))
def wq5x(k:Nat){R:Type}(x0:(List dT25))(x1 x2 x3:Int)(K:(Int→Int→Int→Option R)): Option R:=wqfo k x0 x1 x2 x3 K
theorem wqjz(k:Nat){R:Type}(x0:(List dT25))(x1 x2 x3:Int)(K:(Int→Int→Int→Option R)): fnW (wqo1 k) k Tryz.f32 wqo0 [.agg [.v kdT28 x0],.v kI x1,.v kI x2,.v kI x3] [] (wqbt K)=wq5x k x0 x1 x2 x3 K:=by
 kernel_rfl
def wq41(k:Nat){R:Type}: List PV→List (Nm×HObj)→(Out→Option R)→Option R
 |[.agg [.v (.sl (.pr (.int .i64) (.pr (.int .i64) (.pr .str (.pr .bool (.pr (.sl .str) (.sl (.int .i64)))))))) x0],.v (.int .i64) x1,.v (.int .i64) x2,.v (.int .i64) x3],[],K=>wq5x k x0 x1 x2 x3 (fun y0 y1 y2=>K (.ret [.v (.int .i64) y0,.agg [.v (.int .i64) y1,.v (.int .i64) y2]] []))
 |_,_,_=>none
theorem wqq6(k:Nat): DOK Tryz.prog 32 (wq41 k):=by
 intro ps hp R K r h
 have h:wq41 k ps hp K=some r:=h
 unfold wq41 at h
 split at h
 ·rw[←wqjz]at h
  exact fnW_ok ⟨tyT_ok,(wq4 (wqc3 k) (wq4 (wq1bm k) (wq4 (wq1i k) CTab.nil_ok))),fun _ _=>rfl⟩ mixed (by kernel_rfl) (by kernel_rfl) h fun o ho=>by unfold wqbt at ho;split at ho<;>first|exact ho|cases ho
 ·cases h
end Go.Proofs.YtbjkpddloieekaaGreatDoor.Pvm
end
noncomputable section
namespace Go.Proofs.YtbjkpddloieekaaGreatDoor.Pvm
open Go Go.Proofs
def wq48:List LS:=[.ag [.sl kdT25],.any,.any,.any]
def wqiq{R:Type}(K:(Int→Int→Int→Option R)): Out→Option R
 |.ret [.v (.int .i64) y0,.agg [.v (.int .i64) y1,.v (.int .i64) y2]] []=>K y0 y1 y2
 |_=>none
def wqz7:RetSpec:=⟨[.any,.ag [.any,.any]],[],[]⟩
def wqz8(k:Nat): Ctx:=⟨tyT,[],(.add 31 wq6c (wq2w k) (.add 32 wqld (wq41 k) (.add 33 wq4r (wq1y k) .nil))),[],[],[],@SH⟩
def wqq7(k:Nat){R:Type}(x0:(List dT25))(x1 x2 x3:Int)(K:(Int→Int→Int→Option R)): Option R:=wq5e k x0 x1 (fun y7 y8=>cond y8 (wq5x k y7 x1 x2 x3 K) (wq4s k (fun y9 y10=>K 0 y9 y10)))
def wqk(k:Nat){R:Type}(x0:(List dT25))(x1 x2 x3:Int)(K:(Int→Int→Int→Option R)): Option R:=wqq7 k x0 x1 x2 x3 K
theorem wqv6(k:Nat){R:Type}(x0:(List dT25))(x1 x2 x3:Int)(K:(Int→Int→Int→Option R)): fnW (wqz8 k) k Tryz.f8 wqz7 [.agg [.v kdT28 x0],.v kI x1,.v kI x2,.v kI x3] [] (wqiq K)=wqk k x0 x1 x2 x3 K:=by
 kernel_rfl
def wq49(k:Nat){R:Type}: List PV→List (Nm×HObj)→(Out→Option R)→Option R
 |[.agg [.v (.sl (.pr (.int .i64) (.pr (.int .i64) (.pr .str (.pr .bool (.pr (.sl .str) (.sl (.int .i64)))))))) x0],.v (.int .i64) x1,.v (.int .i64) x2,.v (.int .i64) x3],[],K=>wqk k x0 x1 x2 x3 (fun y0 y1 y2=>K (.ret [.v (.int .i64) y0,.agg [.v (.int .i64) y1,.v (.int .i64) y2]] []))
 |_,_,_=>none
theorem wqhv(k:Nat): DOK Tryz.prog 8 (wq49 k):=by
 intro ps hp R K r h
 have h:wq49 k ps hp K=some r:=h
 unfold wq49 at h
 split at h
 ·rw[←wqv6]at h
  exact fnW_ok ⟨tyT_ok,(wq4 (wqbs k) (wq4 (wqq6 k) (wq4 (wq8m k) CTab.nil_ok))),fun _ _=>rfl⟩ mixed (by kernel_rfl) (by kernel_rfl) h fun o ho=>by unfold wqiq at ho;split at ho<;>first|exact ho|cases ho
 ·cases h
end Go.Proofs.YtbjkpddloieekaaGreatDoor.Pvm
end
namespace Go.Proofs.YtbjkpddloieekaaGreatDoor.Pvm
open Go Go.Proofs
theorem wq1du{G:Gh}{w:World}: Fin [] [] G w G w :=
 ⟨fun n o h=>(by cases h),fun n m b h=>(by simp[blkOf,mkH,look]at h),fun n t cs h=>(by cases h),fun n ag V es h=>(by cases h),fun _ _ _=>rfl,rfl,fun n b h=>(by simp[blkOf,mkH,look]at h),Nat.le_refl _,rfl,rfl,rfl⟩
theorem wq1fr {P:Program} {f:FuncId} {fn:Func} {g:Array Value→Sem Value} (h1:P.funcs[f]? = some fn) (h2:(fn.name == "runtime.NumGoroutine")=false) (h3:fn.body.isNone=true) (h4:(Extern.findNext fn).isNone=true)
 (h5:Extern.find fn=some g) (args:Array Value) (w:World) {v:Value} (h6:(g args).run P w = .ok v w):(callFunc f args).run P w = .ok (.value v) w:=by
 have h4':Extern.findNext fn=none:=by
  cases hq:Extern.findNext fn with
  |none=>rfl
  |some e=>rw[hq]at h4;cases h4
 have h2':¬ fn.name = "runtime.NumGoroutine" := by simpa using h2
 have e1:(callFunc f args).run P w=(g args >>= fun v=>pure (Next.value v)).run P w:=by
  unfold callFunc
  rw[Sem.run_bind]
  have e2:(program).run P w = .ok P w:=rfl
  rw[e2,Result.andThen_ok,h1]
  simp only[h2,h3,if_true,Bool.false_eq_true,if_false]
  rw[Sem.run_bind]
  have e3:(mark (.extern f)).run P w = .ok () w:=rfl
  rw[e3,Result.andThen_ok,h4',h5]
 rw[e1,Sem.run_bind,h6]
 rfl
def wq8p:List LS:=[.any]
def wq1l(k:Nat){R:Type}(x0:Nat)(K:Int→Option R): Option R:=K (x0:Int)
def wq2x(k:Nat){R:Type}: List PV→List (Nm×HObj)→(Out→Option R)→Option R
 |[.v (.flt) x0],[],K=>wq1l k x0 (fun y0=>K (.ret [.v (.int .u64) y0] []))
 |_,_,_=>none
theorem wqai(k:Nat){ps:List PV}{hp:List (Nm×HObj)}{R:Type}{K:Out→Option R}{r:R}(h:wq2x k ps hp K=some r): DoesTo Tryz.prog 144 ps hp fun out=>K out=some r:=by
 unfold wq2x at h
 split at h
 ·next x0 =>
  intro G w vals hr obj dis
  obtain⟨v0,l0,rfl,h0,rfl⟩:=hr
  have e0:v0 = .float .f64 x0:=by simpa [RV,RD]using h0
  subst e0
  have hrun:(callFunc 144 #[.float .f64 x0]).run Tryz.prog w = .ok (.value (.int .u64 (x0:Int))) w :=
   wq1fr (fn:=Tryz.f144) (g:=Extern.MathFloatBits.float64bits) (by kernel_rfl) (by kernel_rfl) (by kernel_rfl) (by kernel_rfl) (by kernel_rfl) _ w rfl
  show Does _ _ #[_] _ _
  unfold Does
  rw[hrun]
  exact⟨.ret [.v (.int .u64) _] [],h,G,⟨_,rfl,rfl⟩,wq1du⟩
 ·cases h
def wq2j:List LS:=[.any]
def wqr(k:Nat){R:Type}(x0:Int)(K:Nat→Option R): Option R:=K x0.toNat
def wq15(k:Nat){R:Type}: List PV→List (Nm×HObj)→(Out→Option R)→Option R
 |[.v (.int .u64) x0],[],K=>wqr k x0 (fun y0=>K (.ret [.v (.flt) y0] []))
 |_,_,_=>none
theorem wq3k(k:Nat){ps:List PV}{hp:List (Nm×HObj)}{R:Type}{K:Out→Option R}{r:R}(h:wq15 k ps hp K=some r): DoesTo Tryz.prog 143 ps hp fun out=>K out=some r:=by
 unfold wq15 at h
 split at h
 ·next x0 =>
  intro G w vals hr obj dis
  obtain⟨v0,l0,rfl,h0,rfl⟩:=hr
  have e0:v0 = .int .u64 x0:=by simpa [RV,RD]using h0
  subst e0
  have hrun:(callFunc 143 #[.int .u64 x0]).run Tryz.prog w = .ok (.value (.float .f64 x0.toNat)) w :=
   wq1fr (fn:=Tryz.f143) (g:=Extern.MathFloatBits.float64frombits) (by kernel_rfl) (by kernel_rfl) (by kernel_rfl) (by kernel_rfl) (by kernel_rfl) _ w rfl
  show Does _ _ #[_] _ _
  unfold Does
  rw[hrun]
  exact⟨.ret [.v (.flt) _] [],h,G,⟨_,rfl,rfl⟩,wq1du⟩
 ·cases h
end Go.Proofs.YtbjkpddloieekaaGreatDoor.Pvm
noncomputable section
namespace Go.Proofs.YtbjkpddloieekaaGreatDoor.Pvm
open Go Go.Proofs
def wqxc:List LS:=[.any]
def wquf{R:Type}(K:(Nat→Option R)): Out→Option R
 |.ret [.v .flt y0] []=>K y0
 |_=>none
def wq1bn:RetSpec:=⟨[.any],[],[]⟩
def wq1bo(k:Nat): Ctx:=⟨tyT,[],(.add 143 wq2j (wq15 k) (.add 144 wq8p (wq2x k) .nil)),[],[],[],@SH⟩
def wq15i(k:Nat){R:Type}(x0:Nat)(K:(Nat→Option R)): Option R:=wq1l k x0 (fun y4=>wqr k (ibits @Go.BinOp.andNot Go.IntKind.u64 y4 9223372036854775808) K)
def wqbu(k:Nat){R:Type}(x0:Nat)(K:(Nat→Option R)): Option R:=wq15i k x0 K
theorem wq15j(k:Nat){R:Type}(x0:Nat)(K:(Nat→Option R)): fnW (wq1bo k) k Tryz.f82 wq1bn [.v .flt x0] [] (wquf K)=wqbu k x0 K:=by
 kernel_rfl
def wqhw(k:Nat){R:Type}: List PV→List (Nm×HObj)→(Out→Option R)→Option R
 |[.v .flt x0],[],K=>wqbu k x0 (fun y0=>K (.ret [.v .flt y0] []))
 |_,_,_=>none
theorem wq1dv(k:Nat): DOK Tryz.prog 82 (wqhw k):=by
 intro ps hp R K r h
 have h:wqhw k ps hp K=some r:=h
 unfold wqhw at h
 split at h
 ·rw[←wq15j]at h
  exact fnW_ok ⟨tyT_ok,(CTab.add_ok (fun h=>wq3k k h) (CTab.add_ok (fun h=>wqai k h) CTab.nil_ok)),fun _ _=>rfl⟩ mixed (by kernel_rfl) (by kernel_rfl) h fun o ho=>by unfold wquf at ho;split at ho<;>first|exact ho|cases ho
 ·cases h
end Go.Proofs.YtbjkpddloieekaaGreatDoor.Pvm
end
noncomputable section
namespace Go.Proofs.YtbjkpddloieekaaGreatDoor.Pvm
open Go Go.Proofs
def wqcz:List LS:=[.any]
def wqm1{R:Type}(K:(Bool→Option R)): Out→Option R
 |.ret [.v .bool y0] []=>K y0
 |_=>none
def wq15k:RetSpec:=⟨[.any],[],[]⟩
def wq15l(k:Nat): Ctx:=⟨tyT,[],.nil,[],[],[],@SH⟩
def wqhx(k:Nat){R:Type}(x0:Nat)(K:(Bool→Option R)): Option R:=K (@fltIs @Go.BinOp.neq x0 x0)
def wqo(k:Nat){R:Type}(x0:Nat)(K:(Bool→Option R)): Option R:=wqhx k x0 K
theorem wqz9(k:Nat){R:Type}(x0:Nat)(K:(Bool→Option R)): fnW (wq15l k) k Tryz.f81 wq15k [.v .flt x0] [] (wqm1 K)=wqo k x0 K:=by
 kernel_rfl
def wq6y(k:Nat){R:Type}: List PV→List (Nm×HObj)→(Out→Option R)→Option R
 |[.v .flt x0],[],K=>wqo k x0 (fun y0=>K (.ret [.v .bool y0] []))
 |_,_,_=>none
theorem wqo2(k:Nat): DOK Tryz.prog 81 (wq6y k):=by
 intro ps hp R K r h
 have h:wq6y k ps hp K=some r:=h
 unfold wq6y at h
 split at h
 ·rw[←wqz9]at h
  exact fnW_ok ⟨tyT_ok,CTab.nil_ok,fun _ _=>rfl⟩ mixed (by kernel_rfl) (by kernel_rfl) h fun o ho=>by unfold wqm1 at ho;split at ho<;>first|exact ho|cases ho
 ·cases h
end Go.Proofs.YtbjkpddloieekaaGreatDoor.Pvm
end
noncomputable section
namespace Go.Proofs.YtbjkpddloieekaaGreatDoor.Pvm
open Go Go.Proofs
def wqir:List LS:=[.any,.any]
def wqh2{R:Type}(K:(Nat→Option R)): Out→Option R
 |.ret [.v .flt y0] []=>K y0
 |_=>none
def wqxd:RetSpec:=⟨[.any],[],[]⟩
def wqxe(k:Nat): Ctx:=⟨tyT,[],(.add 143 wq2j (wq15 k) (.add 144 wq8p (wq2x k) .nil)),[],[],[],@SH⟩
def wqm2(k:Nat){R:Type}(x0 x1:Nat)(K:(Nat→Option R)): Option R:=wq1l k x0 (fun y5=>wq1l k x1 (fun y6=>wqr k (ibits @Go.BinOp.or Go.IntKind.u64 (ibits @Go.BinOp.andNot Go.IntKind.u64 y5 9223372036854775808) (ibits @Go.BinOp.and Go.IntKind.u64 y6 9223372036854775808)) K))
def wq1p(k:Nat){R:Type}(x0 x1:Nat)(K:(Nat→Option R)): Option R:=wqm2 k x0 x1 K
theorem wqt4(k:Nat){R:Type}(x0 x1:Nat)(K:(Nat→Option R)): fnW (wqxe k) k Tryz.f142 wqxd [.v .flt x0,.v .flt x1] [] (wqh2 K)=wq1p k x0 x1 K:=by
 kernel_rfl
def wq7y(k:Nat){R:Type}: List PV→List (Nm×HObj)→(Out→Option R)→Option R
 |[.v .flt x0,.v .flt x1],[],K=>wq1p k x0 x1 (fun y0=>K (.ret [.v .flt y0] []))
 |_,_,_=>none
theorem wqza(k:Nat): DOK Tryz.prog 142 (wq7y k):=by
 intro ps hp R K r h
 have h:wq7y k ps hp K=some r:=h
 unfold wq7y at h
 split at h
 ·rw[←wqt4]at h
  exact fnW_ok ⟨tyT_ok,(CTab.add_ok (fun h=>wq3k k h) (CTab.add_ok (fun h=>wqai k h) CTab.nil_ok)),fun _ _=>rfl⟩ mixed (by kernel_rfl) (by kernel_rfl) h fun o ho=>by unfold wqh2 at ho;split at ho<;>first|exact ho|cases ho
 ·cases h
end Go.Proofs.YtbjkpddloieekaaGreatDoor.Pvm
end
noncomputable section
namespace Go.Proofs.YtbjkpddloieekaaGreatDoor.Pvm
open Go Go.Proofs
def wqo3:List LS:=[.any]
def wqug{R:Type}(K:(Nat→Option R)): Out→Option R
 |.ret [.v .flt y0] []=>K y0
 |_=>none
def wq1bp:RetSpec:=⟨[.any],[],[]⟩
def wq1bq(k:Nat): Ctx:=⟨tyT,[],(.add 143 wq2j (wq15 k) .nil),[],[],[],@SH⟩
def wq1dw(k:Nat){R:Type}(x0:Int)(K:(Nat→Option R)): Option R:=cond (decide (x0≥0)) (wqr k 9218868437227405312 K) (wqr k 18442240474082181120 K)
def wq9a(k:Nat){R:Type}(x0:Int)(K:(Nat→Option R)): Option R:=wq1dw k x0 K
theorem wq15m(k:Nat){R:Type}(x0:Int)(K:(Nat→Option R)): fnW (wq1bq k) k Tryz.f136 wq1bp [.v kI x0] [] (wqug K)=wq9a k x0 K:=by
 kernel_rfl
def wqem(k:Nat){R:Type}: List PV→List (Nm×HObj)→(Out→Option R)→Option R
 |[.v (.int .i64) x0],[],K=>wq9a k x0 (fun y0=>K (.ret [.v .flt y0] []))
 |_,_,_=>none
theorem wq15n(k:Nat): DOK Tryz.prog 136 (wqem k):=by
 intro ps hp R K r h
 have h:wqem k ps hp K=some r:=h
 unfold wqem at h
 split at h
 ·rw[←wq15m]at h
  exact fnW_ok ⟨tyT_ok,(CTab.add_ok (fun h=>wq3k k h) CTab.nil_ok),fun _ _=>rfl⟩ mixed (by kernel_rfl) (by kernel_rfl) h fun o ho=>by unfold wqug at ho;split at ho<;>first|exact ho|cases ho
 ·cases h
end Go.Proofs.YtbjkpddloieekaaGreatDoor.Pvm
end
noncomputable section
namespace Go.Proofs.YtbjkpddloieekaaGreatDoor.Pvm
open Go Go.Proofs
def wqo4:List LS:=[]
def wquh{R:Type}(K:(Nat→Option R)): Out→Option R
 |.ret [.v .flt y0] []=>K y0
 |_=>none
def wq1br:RetSpec:=⟨[.any],[],[]⟩
def wq1bs(k:Nat): Ctx:=⟨tyT,[],(.add 143 wq2j (wq15 k) .nil),[],[],[],@SH⟩
def wq1dx(k:Nat){R:Type}(K:(Nat→Option R)): Option R:=wqr k 9221120237041090561 K
def wqen(k:Nat){R:Type}(K:(Nat→Option R)): Option R:=wq1dx k K
theorem wq15o(k:Nat){R:Type}(K:(Nat→Option R)): fnW (wq1bs k) k Tryz.f135 wq1br [] [] (wquh K)=wqen k K:=by
 kernel_rfl
def wqeo(k:Nat){R:Type}: List PV→List (Nm×HObj)→(Out→Option R)→Option R
 |[],[],K=>wqen k (fun y0=>K (.ret [.v .flt y0] []))
 |_,_,_=>none
theorem wq15p(k:Nat): DOK Tryz.prog 135 (wqeo k):=by
 intro ps hp R K r h
 have h:wqeo k ps hp K=some r:=h
 unfold wqeo at h
 split at h
 ·rw[←wq15o]at h
  exact fnW_ok ⟨tyT_ok,(CTab.add_ok (fun h=>wq3k k h) CTab.nil_ok),fun _ _=>rfl⟩ mixed (by kernel_rfl) (by kernel_rfl) h fun o ho=>by unfold wquh at ho;split at ho<;>first|exact ho|cases ho
 ·cases h
end Go.Proofs.YtbjkpddloieekaaGreatDoor.Pvm
end
noncomputable section
namespace Go.Proofs.YtbjkpddloieekaaGreatDoor.Pvm
open Go Go.Proofs
def wqk0:List LS:=[.any,.any]
def wq7z{R:Type}(K:(Bool→Option R)): Out→Option R
 |.ret [.v .bool y0] []=>K y0
 |_=>none
def wqgh:RetSpec:=⟨[.any],[],[]⟩
def wqgi(k:Nat): Ctx:=⟨tyT,[(1002,⟨[(0,.any),(1,.any),(8,.mpo 78 .it kI)],[]⟩)],.nil,[],[],[],@SH⟩
def wq4z(s0:(List UInt8))(s1:Int)(s2:(List UInt8))(s3:Int): St:=⟨mkT [(0,.v .str s0),(1,.v kI s1),(8,.mpp 78)],mkH [(78,.mp .it kI [(s2,s3)])]⟩
def wq9b(k:Nat){R:Type}(I:Nat→St→Option R)(n:Nat)(s:St)(K:(Bool→Option R)): Option R:=loopK (wqgi k) k Tryz.f139 wqgh 1002 [1,0,1,0] I n s (wq7z K)
def wq5y(k:Nat){R:Type}(E1002:((List UInt8)→Int→(List UInt8)→Int→Option R))(s0:(List UInt8))(s1:Int)(s2:(List UInt8))(s3:Int)(K:(Bool→Option R)): Option R:=cond (decide (s3<(s2.length:Int))) (cond (decide (s3<(s2.length:Int))) (cond (cond (decide ((nxtC s2 s3)<48)) true (decide ((nxtC s2 s3)>57))) (K false) (E1002 s0 s1 s2 (nxtP s2 s3))) none) (K (cond (decide ((s0.length:Int)≥1)) (decide ((s0.length:Int)≤s1)) false))
theorem wqk1(k:Nat){R:Type}(I:Nat→St→Option R)(s0:(List UInt8))(s1:Int)(s2:(List UInt8))(s3:Int)(K:(Bool→Option R)): bodyK (wqgi k) k Tryz.f139 wqgh [1,0,1,0,0] I (wq4z s0 s1 s2 s3) (wq7z K)=wq5y k (fun s0 s1 s2 s3=>I 1002 (wq4z s0 s1 s2 s3)) s0 s1 s2 s3 K:=by kernel_rfl
def wqhy(k:Nat){R:Type}(E1002:((List UInt8)→Int→(List UInt8)→Int→Option R))(x0:(List UInt8))(x1:Int)(K:(Bool→Option R)): Option R:=E1002 x0 x1 x0 0
def wq29(k:Nat){R:Type}: Nat→(List UInt8)→Int→(List UInt8)→Int→(Bool→Option R)→Option R
 |0,_,_,_,_,_=>none
 |n+1,s0,s1,s2,s3,K=>wq5y k (fun s0 s1 s2 s3=>wq29 k n s0 s1 s2 s3 K) s0 s1 s2 s3 K
theorem wqk2(k:Nat){R:Type}(I:Nat→St→Option R)(K:(Bool→Option R))(n:Nat): ∀(s0:(List UInt8)) (s1:Int) (s2:(List UInt8)) (s3:Int),wq9b k I n (wq4z s0 s1 s2 s3) K=wq29 k n s0 s1 s2 s3 K:=by
 induction n with
 |zero=>intros;rfl
 |succ n ih =>
  intro s0 s1 s2 s3
  refine(?_:_=_).trans ((wqk1 k (upI 1002 (fun s=>wq9b k I n s K) I) s0 s1 s2 s3 K).trans ?_)
  ·rfl
  ·simp only[wqy,ih]<;>rfl
def wq1g(k:Nat){R:Type}(x0:(List UInt8))(x1:Int)(K:(Bool→Option R)): Option R:=wqhy k (fun s0 s1 s2 s3=>wq29 k k s0 s1 s2 s3 K) x0 x1 K
theorem wqv7(k:Nat){R:Type}(x0:(List UInt8))(x1:Int)(K:(Bool→Option R)): fnW (wqgi k) k Tryz.f139 wqgh [.v .str x0,.v kI x1] [] (wq7z K)=wq1g k x0 x1 K:=by
 refine Eq.trans (b:=wqhy k (fun s0 s1 s2 s3=>wq9b k (fun _ _=>none) k (wq4z s0 s1 s2 s3) K) x0 x1 K) (by kernel_rfl) ?_
 simp only[wqk2]<;>rfl
def wq9c(k:Nat){R:Type}: List PV→List (Nm×HObj)→(Out→Option R)→Option R
 |[.v .str x0,.v (.int .i64) x1],[],K=>wq1g k x0 x1 (fun y0=>K (.ret [.v .bool y0] []))
 |_,_,_=>none
theorem wq12p(k:Nat): DOK Tryz.prog 139 (wq9c k):=by
 intro ps hp R K r h
 have h:wq9c k ps hp K=some r:=h
 unfold wq9c at h
 split at h
 ·rw[←wqv7]at h
  exact fnW_ok ⟨tyT_ok,CTab.nil_ok,fun _ _=>rfl⟩ mixed (by kernel_rfl) (by kernel_rfl) h fun o ho=>by unfold wq7z at ho;split at ho<;>first|exact ho|cases ho
 ·cases h
end Go.Proofs.YtbjkpddloieekaaGreatDoor.Pvm
end
noncomputable section
namespace Go.Proofs.YtbjkpddloieekaaGreatDoor.Pvm
open Go Go.Proofs
def wqui:List LS:=[.any]
def wqd0{R:Type}(K:(Int→Option R)): Out→Option R
 |.ret [.v (.int .i64) y0] []=>K y0
 |_=>none
def wqo5:RetSpec:=⟨[.any],[],[]⟩
def wqo6(k:Nat): Ctx:=⟨tyT,[(1003,⟨[(3,.any),(4,.any),(5,.any)],[]⟩)],.nil,[],[],[],@SH⟩
def wq80(s0 s1 s2:Int): St:=⟨mkT [(3,.v kI s0),(4,.v kI s1),(5,.v kI s2)],mkH []⟩
def wqep(k:Nat){R:Type}(I:Nat→St→Option R)(n:Nat)(s:St)(K:(Int→Option R)): Option R:=loopK (wqo6 k) k Tryz.f141 wqo5 1003 [1,1,0,1,0] I n s (wqd0 K)
def wq9d(k:Nat){R:Type}(E1003:(Int→Int→Int→Option R))(s0 s1 s2:Int)(K:(Int→Option R)): Option R:=cond (decide (s2<s1)) (E1003 (@Go.IntKind.wrap Go.IntKind.i64 (s0*10)) s1 (@Go.IntKind.wrap Go.IntKind.i64 (s2+1))) (K s0)
theorem wqq8(k:Nat){R:Type}(I:Nat→St→Option R)(s0 s1 s2:Int)(K:(Int→Option R)): bodyK (wqo6 k) k Tryz.f141 wqo5 [1,1,0,1,0,0] I (wq80 s0 s1 s2) (wqd0 K)=wq9d k (fun s0 s1 s2=>I 1003 (wq80 s0 s1 s2)) s0 s1 s2 K:=by kernel_rfl
def wqt5(k:Nat){R:Type}(E1003:(Int→Int→Int→Option R))(x0:Int)(K:(Int→Option R)): Option R:=E1003 1 x0 0
def wq4a(k:Nat){R:Type}: Nat→Int→Int→Int→(Int→Option R)→Option R
 |0,_,_,_,_=>none
 |n+1,s0,s1,s2,K=>wq9d k (fun s0 s1 s2=>wq4a k n s0 s1 s2 K) s0 s1 s2 K
theorem wqq9(k:Nat){R:Type}(I:Nat→St→Option R)(K:(Int→Option R))(n:Nat): ∀(s0 s1 s2:Int),wqep k I n (wq80 s0 s1 s2) K=wq4a k n s0 s1 s2 K:=by
 induction n with
 |zero=>intros;rfl
 |succ n ih =>
  intro s0 s1 s2
  refine(?_:_=_).trans ((wqq8 k (upI 1003 (fun s=>wqep k I n s K) I) s0 s1 s2 K).trans ?_)
  ·rfl
  ·simp only[wqy,ih]<;>rfl
def wq5g(k:Nat){R:Type}(x0:Int)(K:(Int→Option R)): Option R:=wqt5 k (fun s0 s1 s2=>wq4a k k s0 s1 s2 K) x0 K
theorem wq12q(k:Nat){R:Type}(x0:Int)(K:(Int→Option R)): fnW (wqo6 k) k Tryz.f141 wqo5 [.v kI x0] [] (wqd0 K)=wq5g k x0 K:=by
 refine Eq.trans (b:=wqt5 k (fun s0 s1 s2=>wqep k (fun _ _=>none) k (wq80 s0 s1 s2) K) x0 K) (by kernel_rfl) ?_
 simp only[wqq9]<;>rfl
def wqfp(k:Nat){R:Type}: List PV→List (Nm×HObj)→(Out→Option R)→Option R
 |[.v (.int .i64) x0],[],K=>wq5g k x0 (fun y0=>K (.ret [.v (.int .i64) y0] []))
 |_,_,_=>none
theorem wq1bt(k:Nat): DOK Tryz.prog 141 (wqfp k):=by
 intro ps hp R K r h
 have h:wqfp k ps hp K=some r:=h
 unfold wqfp at h
 split at h
 ·rw[←wq12q]at h
  exact fnW_ok ⟨tyT_ok,CTab.nil_ok,fun _ _=>rfl⟩ mixed (by kernel_rfl) (by kernel_rfl) h fun o ho=>by unfold wqd0 at ho;split at ho<;>first|exact ho|cases ho
 ·cases h
end Go.Proofs.YtbjkpddloieekaaGreatDoor.Pvm
end
noncomputable section
namespace Go.Proofs.YtbjkpddloieekaaGreatDoor.Pvm
open Go Go.Proofs
def wqm3:List LS:=[.any]
def wq9e{R:Type}(K:(Int→Option R)): Out→Option R
 |.ret [.v (.int .i64) y0] []=>K y0
 |_=>none
def wqhz:RetSpec:=⟨[.any],[],[]⟩
def wqi0(k:Nat): Ctx:=⟨tyT,[(1003,⟨[(3,.any),(7,.mpo 77 .it kI)],[]⟩)],.nil,[],[],[],@SH⟩
def wq5z(s0:Int)(s1:(List UInt8))(s2:Int): St:=⟨mkT [(3,.v kI s0),(7,.mpp 77)],mkH [(77,.mp .it kI [(s1,s2)])]⟩
def wqaj(k:Nat){R:Type}(I:Nat→St→Option R)(n:Nat)(s:St)(K:(Int→Option R)): Option R:=loopK (wqi0 k) k Tryz.f140 wqhz 1003 [1,1,0,1,0] I n s (wq9e K)
def wq6z(k:Nat){R:Type}(E1003:(Int→(List UInt8)→Int→Option R))(s0:Int)(s1:(List UInt8))(s2:Int)(K:(Int→Option R)): Option R:=cond (decide (s2<(s1.length:Int))) (cond (decide (s2<(s1.length:Int))) (E1003 (@Go.IntKind.wrap Go.IntKind.i64 ((@Go.IntKind.wrap Go.IntKind.i64 ((10:Int)*s0))+(@Go.IntKind.wrap Go.IntKind.i64 (@Go.IntKind.wrap Go.IntKind.i32 ((nxtC s1 s2)-48))))) s1 (nxtP s1 s2)) none) (K s0)
theorem wqle(k:Nat){R:Type}(I:Nat→St→Option R)(s0:Int)(s1:(List UInt8))(s2:Int)(K:(Int→Option R)): bodyK (wqi0 k) k Tryz.f140 wqhz [1,1,0,1,0,0] I (wq5z s0 s1 s2) (wq9e K)=wq6z k (fun s0 s1 s2=>I 1003 (wq5z s0 s1 s2)) s0 s1 s2 K:=by kernel_rfl
def wqk3(k:Nat){R:Type}(E1003:(Int→(List UInt8)→Int→Option R))(x0:(List UInt8))(K:(Int→Option R)): Option R:=E1003 0 x0 0
def wq2n(k:Nat){R:Type}: Nat→Int→(List UInt8)→Int→(Int→Option R)→Option R
 |0,_,_,_,_=>none
 |n+1,s0,s1,s2,K=>wq6z k (fun s0 s1 s2=>wq2n k n s0 s1 s2 K) s0 s1 s2 K
theorem wqlf(k:Nat){R:Type}(I:Nat→St→Option R)(K:(Int→Option R))(n:Nat): ∀(s0:Int) (s1:(List UInt8)) (s2:Int),wqaj k I n (wq5z s0 s1 s2) K=wq2n k n s0 s1 s2 K:=by
 induction n with
 |zero=>intros;rfl
 |succ n ih =>
  intro s0 s1 s2
  refine(?_:_=_).trans ((wqle k (upI 1003 (fun s=>wqaj k I n s K) I) s0 s1 s2 K).trans ?_)
  ·rfl
  ·simp only[wqy,ih]<;>rfl
def wq2m(k:Nat){R:Type}(x0:(List UInt8))(K:(Int→Option R)): Option R:=wqk3 k (fun s0 s1 s2=>wq2n k k s0 s1 s2 K) x0 K
theorem wqxf(k:Nat){R:Type}(x0:(List UInt8))(K:(Int→Option R)): fnW (wqi0 k) k Tryz.f140 wqhz [.v .str x0] [] (wq9e K)=wq2m k x0 K:=by
 refine Eq.trans (b:=wqk3 k (fun s0 s1 s2=>wqaj k (fun _ _=>none) k (wq5z s0 s1 s2) K) x0 K) (by kernel_rfl) ?_
 simp only[wqlf]<;>rfl
def wqb3(k:Nat){R:Type}: List PV→List (Nm×HObj)→(Out→Option R)→Option R
 |[.v .str x0],[],K=>wq2m k x0 (fun y0=>K (.ret [.v (.int .i64) y0] []))
 |_,_,_=>none
theorem wq15q(k:Nat): DOK Tryz.prog 140 (wqb3 k):=by
 intro ps hp R K r h
 have h:wqb3 k ps hp K=some r:=h
 unfold wqb3 at h
 split at h
 ·rw[←wqxf]at h
  exact fnW_ok ⟨tyT_ok,CTab.nil_ok,fun _ _=>rfl⟩ mixed (by kernel_rfl) (by kernel_rfl) h fun o ho=>by unfold wq9e at ho;split at ho<;>first|exact ho|cases ho
 ·cases h
end Go.Proofs.YtbjkpddloieekaaGreatDoor.Pvm
end
noncomputable section
namespace Go.Proofs.YtbjkpddloieekaaGreatDoor.Pvm
open Go Go.Proofs
def wqqa:List LS:=[.any,.any]
def wqeq{R:Type}(K:((List UInt8)→Bool→Option R)): Out→Option R
 |.ret [.v .str y0,.v .bool y1] []=>K y0 y1
 |_=>none
def wqt6:RetSpec:=⟨[.any,.any],[],[]⟩
def wqt7(k:Nat): Ctx:=⟨tyT,[],(.add 226 wqfg (wq3f k) .nil),[],[],[],@SH⟩
def wqis(k:Nat){R:Type}(x0:(List UInt8))(x1:UInt8)(K:((List UInt8)→Bool→Option R)): Option R:=wq38 k x0 [x1] (fun y5=>cond (!y5) (K x0 false) (cond (bnd (@List.length UInt8 [x1]:Int) (x0.length:Int) (x0.length:Int)) (K (cut x0 (@List.length UInt8 [x1]:Int) (x0.length:Int)) true) none))
def wq81(k:Nat){R:Type}(x0:(List UInt8))(x1:UInt8)(K:((List UInt8)→Bool→Option R)): Option R:=wqis k x0 x1 K
theorem wqo7(k:Nat){R:Type}(x0:(List UInt8))(x1:UInt8)(K:((List UInt8)→Bool→Option R)): fnW (wqt7 k) k Tryz.f189 wqt6 [.v .str x0,.v .str [x1]] [] (wqeq K)=wq81 k x0 x1 K:=by
 kernel_rfl
def wq60(k:Nat){R:Type}: List PV→List (Nm×HObj)→(Out→Option R)→Option R
 |[.v .str x0,.v .str [x1]],[],K=>wq81 k x0 x1 (fun y0 y1=>K (.ret [.v .str y0,.v .bool y1] []))
 |_,_,_=>none
theorem wqv8(k:Nat): DOK Tryz.prog 189 (wq60 k):=by
 intro ps hp R K r h
 have h:wq60 k ps hp K=some r:=h
 unfold wq60 at h
 split at h
 ·rw[←wqo7]at h
  exact fnW_ok ⟨tyT_ok,(wq4 (wqih k) CTab.nil_ok),fun _ _=>rfl⟩ mixed (by kernel_rfl) (by kernel_rfl) h fun o ho=>by unfold wqeq at ho;split at ho<;>first|exact ho|cases ho
 ·cases h
end Go.Proofs.YtbjkpddloieekaaGreatDoor.Pvm
end
noncomputable section
namespace Go.Proofs.YtbjkpddloieekaaGreatDoor.Pvm
open Go Go.Proofs
def wqcj:List LS:=[.any,.any]
def wqbv{R:Type}(K:((List UInt8)→Bool→Option R)): Out→Option R
 |.ret [.v .str y0,.v .bool y1] []=>K y0 y1
 |_=>none
def wqo8:RetSpec:=⟨[.any,.any],[],[]⟩
def wqo9(k:Nat): Ctx:=⟨tyT,[],(.add 189 wqqa (wq60 k) .nil),[],[],[],@SH⟩
def wqfq(k:Nat){R:Type}(x0:(List UInt8))(x1:UInt8)(K:((List UInt8)→Bool→Option R)): Option R:=wq81 k x0 x1 K
def wq1a(k:Nat){R:Type}(x0:(List UInt8))(x1:UInt8)(K:((List UInt8)→Bool→Option R)): Option R:=wqfq k x0 x1 K
theorem wqk4(k:Nat){R:Type}(x0:(List UInt8))(x1:UInt8)(K:((List UInt8)→Bool→Option R)): fnW (wqo9 k) k Tryz.f137 wqo8 [.v .str x0,.v .str [x1]] [] (wqbv K)=wq1a k x0 x1 K:=by
 kernel_rfl
def wq42(k:Nat){R:Type}: List PV→List (Nm×HObj)→(Out→Option R)→Option R
 |[.v .str x0,.v .str [x1]],[],K=>wq1a k x0 x1 (fun y0 y1=>K (.ret [.v .str y0,.v .bool y1] []))
 |_,_,_=>none
theorem wqqb(k:Nat): DOK Tryz.prog 137 (wq42 k):=by
 intro ps hp R K r h
 have h:wq42 k ps hp K=some r:=h
 unfold wq42 at h
 split at h
 ·rw[←wqk4]at h
  exact fnW_ok ⟨tyT_ok,(wq4 (wqv8 k) CTab.nil_ok),fun _ _=>rfl⟩ mixed (by kernel_rfl) (by kernel_rfl) h fun o ho=>by unfold wqbv at ho;split at ho<;>first|exact ho|cases ho
 ·cases h
end Go.Proofs.YtbjkpddloieekaaGreatDoor.Pvm
end
noncomputable section
namespace Go.Proofs.YtbjkpddloieekaaGreatDoor.Pvm
open Go Go.Proofs
def wqm4:List LS:=[.any]
def wqer{R:Type}(K:(Nat→Bool→Option R)): Out→Option R
 |.ret [.v .flt y0,.v .bool y1] []=>K y0 y1
 |_=>none
def wqqc:RetSpec:=⟨[.any,.any],[],[]⟩
def wqqd(k:Nat): Ctx:=⟨tyT,[],(.add 135 wqo4 (wqeo k) (.add 136 wqo3 (wqem k) (.add 137 wqcj (wq42 k) (.add 138 wqga (wq7k k) (.add 139 wqk0 (wq9c k) (.add 140 wqm3 (wqb3 k) (.add 141 wqui (wqfp k) (.add 142 wqir (wq7y k) .nil)))))))),[],[],[],@SH⟩
def wquj(k:Nat){R:Type}(x0:(List UInt8))(K:(Nat→Bool→Option R)): Option R:=cond (x0 == [(110:UInt8),97,110]) (wqen k (fun y4=>K y4 true)) (cond (x0 == [(105:UInt8),110,102]) (wq9a k 1 (fun y4=>K y4 true)) (cond (x0 == [(45:UInt8),105,110,102]) (wq9a k (@Neg.neg Int @Int.instNegInt (1:Int)) (fun y4=>K y4 true)) (wq1a k x0 45 (fun y4 y5=>wq3h k y4 46 (fun y6 y7 y8=>wq1g k y6 9 (fun y9=>cond ((!(((!y9) == false)&&((decide ((y6.length:Int)>1)) == true))) || (inb 0 (y6.length:Int))) (cond ((cond (!y9) true (cond (decide ((y6.length:Int)>1)) (((y6.getD (Int.toNat 0) 0).toNat:Int) == 48) false)) == false) (cond (y8 == true) (wq1g k y7 6 (fun y10=>cond (!y10) (K 0 false) (cond (joins y6 y7) (wq2m k (y6++y7) (fun y11=>wq5g k (y7.length:Int) (fun y12=>cond (@Option.isSome Nat (@fltAr @Go.BinOp.quo (@fltOf y11) (@fltOf y12))) (cond y5 (wq1p k (@Option.getD Nat (@fltAr @Go.BinOp.quo (@fltOf y11) (@fltOf y12)) (0:Nat)) 13830554455654793216 (fun y13=>K y13 true)) (K (@Option.getD Nat (@fltAr @Go.BinOp.quo (@fltOf y11) (@fltOf y12)) (0:Nat)) true)) none))) none))) (cond (joins y6 y7) (wq2m k (y6++y7) (fun y10=>wq5g k (y7.length:Int) (fun y11=>cond (@Option.isSome Nat (@fltAr @Go.BinOp.quo (@fltOf y10) (@fltOf y11))) (cond y5 (wq1p k (@Option.getD Nat (@fltAr @Go.BinOp.quo (@fltOf y10) (@fltOf y11)) (0:Nat)) 13830554455654793216 (fun y12=>K y12 true)) (K (@Option.getD Nat (@fltAr @Go.BinOp.quo (@fltOf y10) (@fltOf y11)) (0:Nat)) true)) none))) none)) (K 0 false)) none))))))
def wq3l(k:Nat){R:Type}(x0:(List UInt8))(K:(Nat→Bool→Option R)): Option R:=wquj k x0 K
def wqzb(f:(R:Type)→(Nat→Option R)→Option R){R:Type}: List PV→List (Nm×HObj)→(Out→Option R)→Option R
 |[],[],K=>f R (fun y0=>K (.ret [.v .flt y0] []))
 |_,_,_=>none
def wqzc(f:(R:Type)→Int→(Nat→Option R)→Option R){R:Type}: List PV→List (Nm×HObj)→(Out→Option R)→Option R
 |[.v (.int .i64) x0],[],K=>f R x0 (fun y0=>K (.ret [.v .flt y0] []))
 |_,_,_=>none
def wqzd(f:(R:Type)→(List UInt8)→UInt8→((List UInt8)→Bool→Option R)→Option R){R:Type}: List PV→List (Nm×HObj)→(Out→Option R)→Option R
 |[.v .str x0,.v .str [x1]],[],K=>f R x0 x1 (fun y0 y1=>K (.ret [.v .str y0,.v .bool y1] []))
 |_,_,_=>none
def wqze(f:(R:Type)→(List UInt8)→UInt8→((List UInt8)→(List UInt8)→Bool→Option R)→Option R){R:Type}: List PV→List (Nm×HObj)→(Out→Option R)→Option R
 |[.v .str x0,.v .str [x1]],[],K=>f R x0 x1 (fun y0 y1 y2=>K (.ret [.v .str y0,.v .str y1,.v .bool y2] []))
 |_,_,_=>none
def wqzf(f:(R:Type)→(List UInt8)→Int→(Bool→Option R)→Option R){R:Type}: List PV→List (Nm×HObj)→(Out→Option R)→Option R
 |[.v .str x0,.v (.int .i64) x1],[],K=>f R x0 x1 (fun y0=>K (.ret [.v .bool y0] []))
 |_,_,_=>none
def wqzg(f:(R:Type)→(List UInt8)→(Int→Option R)→Option R){R:Type}: List PV→List (Nm×HObj)→(Out→Option R)→Option R
 |[.v .str x0],[],K=>f R x0 (fun y0=>K (.ret [.v (.int .i64) y0] []))
 |_,_,_=>none
def wqzh(f:(R:Type)→Int→(Int→Option R)→Option R){R:Type}: List PV→List (Nm×HObj)→(Out→Option R)→Option R
 |[.v (.int .i64) x0],[],K=>f R x0 (fun y0=>K (.ret [.v (.int .i64) y0] []))
 |_,_,_=>none
def wqzi(f:(R:Type)→Nat→Nat→(Nat→Option R)→Option R){R:Type}: List PV→List (Nm×HObj)→(Out→Option R)→Option R
 |[.v .flt x0,.v .flt x1],[],K=>f R x0 x1 (fun y0=>K (.ret [.v .flt y0] []))
 |_,_,_=>none
def wqqe(f0:(R:Type)→(Nat→Option R)→Option R)(f1:(R:Type)→Int→(Nat→Option R)→Option R)(f2:(R:Type)→(List UInt8)→UInt8→((List UInt8)→Bool→Option R)→Option R)(f3:(R:Type)→(List UInt8)→UInt8→((List UInt8)→(List UInt8)→Bool→Option R)→Option R)(f4:(R:Type)→(List UInt8)→Int→(Bool→Option R)→Option R)(f5:(R:Type)→(List UInt8)→(Int→Option R)→Option R)(f6:(R:Type)→Int→(Int→Option R)→Option R)(f7:(R:Type)→Nat→Nat→(Nat→Option R)→Option R): Ctx:=⟨tyT,[],(.add 135 wqo4 (wqzb f0) (.add 136 wqo3 (wqzc f1) (.add 137 wqcj (wqzd f2) (.add 138 wqga (wqze f3) (.add 139 wqk0 (wqzf f4) (.add 140 wqm3 (wqzg f5) (.add 141 wqui (wqzh f6) (.add 142 wqir (wqzi f7) .nil)))))))),[],[],[],@SH⟩
def wquk(f0:(R:Type)→(Nat→Option R)→Option R)(f1:(R:Type)→Int→(Nat→Option R)→Option R)(f2:(R:Type)→(List UInt8)→UInt8→((List UInt8)→Bool→Option R)→Option R)(f3:(R:Type)→(List UInt8)→UInt8→((List UInt8)→(List UInt8)→Bool→Option R)→Option R)(f4:(R:Type)→(List UInt8)→Int→(Bool→Option R)→Option R)(f5:(R:Type)→(List UInt8)→(Int→Option R)→Option R)(f6:(R:Type)→Int→(Int→Option R)→Option R)(f7:(R:Type)→Nat→Nat→(Nat→Option R)→Option R){R:Type}(x0:(List UInt8))(K:(Nat→Bool→Option R)): Option R:=cond (x0 == [(110:UInt8),97,110]) (f0 R (fun y4=>K y4 true)) (cond (x0 == [(105:UInt8),110,102]) (f1 R 1 (fun y4=>K y4 true)) (cond (x0 == [(45:UInt8),105,110,102]) (f1 R (@Neg.neg Int @Int.instNegInt (1:Int)) (fun y4=>K y4 true)) (f2 R x0 45 (fun y4 y5=>f3 R y4 46 (fun y6 y7 y8=>f4 R y6 9 (fun y9=>cond ((!(((!y9) == false)&&((decide ((y6.length:Int)>1)) == true))) || (inb 0 (y6.length:Int))) (cond ((cond (!y9) true (cond (decide ((y6.length:Int)>1)) (((y6.getD (Int.toNat 0) 0).toNat:Int) == 48) false)) == false) (cond (y8 == true) (f4 R y7 6 (fun y10=>cond (!y10) (K 0 false) (cond (joins y6 y7) (f5 R (y6++y7) (fun y11=>f6 R (y7.length:Int) (fun y12=>cond (@Option.isSome Nat (@fltAr @Go.BinOp.quo (@fltOf y11) (@fltOf y12))) (cond y5 (f7 R (@Option.getD Nat (@fltAr @Go.BinOp.quo (@fltOf y11) (@fltOf y12)) (0:Nat)) 13830554455654793216 (fun y13=>K y13 true)) (K (@Option.getD Nat (@fltAr @Go.BinOp.quo (@fltOf y11) (@fltOf y12)) (0:Nat)) true)) none))) none))) (cond (joins y6 y7) (f5 R (y6++y7) (fun y10=>f6 R (y7.length:Int) (fun y11=>cond (@Option.isSome Nat (@fltAr @Go.BinOp.quo (@fltOf y10) (@fltOf y11))) (cond y5 (f7 R (@Option.getD Nat (@fltAr @Go.BinOp.quo (@fltOf y10) (@fltOf y11)) (0:Nat)) 13830554455654793216 (fun y12=>K y12 true)) (K (@Option.getD Nat (@fltAr @Go.BinOp.quo (@fltOf y10) (@fltOf y11)) (0:Nat)) true)) none))) none)) (K 0 false)) none))))))
theorem wqxg(f0:(R:Type)→(Nat→Option R)→Option R)(f1:(R:Type)→Int→(Nat→Option R)→Option R)(f2:(R:Type)→(List UInt8)→UInt8→((List UInt8)→Bool→Option R)→Option R)(f3:(R:Type)→(List UInt8)→UInt8→((List UInt8)→(List UInt8)→Bool→Option R)→Option R)(f4:(R:Type)→(List UInt8)→Int→(Bool→Option R)→Option R)(f5:(R:Type)→(List UInt8)→(Int→Option R)→Option R)(f6:(R:Type)→Int→(Int→Option R)→Option R)(f7:(R:Type)→Nat→Nat→(Nat→Option R)→Option R)(k:Nat){R:Type}(x0:(List UInt8))(K:(Nat→Bool→Option R)): fnW (wqqe f0 f1 f2 f3 f4 f5 f6 f7) k Tryz.f80 wqqc [.v .str x0] [] (wqer K)=wquk f0 f1 f2 f3 f4 f5 f6 f7 x0 K:=by
 kernel_rfl
theorem wqv9(k:Nat): wqqd k=wqqe (fun R=>@wqen k R) (fun R=>@wq9a k R) (fun R=>@wq1a k R) (fun R=>@wq3h k R) (fun R=>@wq1g k R) (fun R=>@wq2m k R) (fun R=>@wq5g k R) (fun R=>@wq1p k R):=by
 kernel_rfl
theorem wqxh(k:Nat){R:Type}(x0:(List UInt8))(K:(Nat→Bool→Option R)): fnW (wqqd k) k Tryz.f80 wqqc [.v .str x0] [] (wqer K)=wq3l k x0 K:=by
 have e:wq3l k x0 K=wquk (fun R=>@wqen k R) (fun R=>@wq9a k R) (fun R=>@wq1a k R) (fun R=>@wq3h k R) (fun R=>@wq1g k R) (fun R=>@wq2m k R) (fun R=>@wq5g k R) (fun R=>@wq1p k R) x0 K:=by kernel_rfl
 rw[wqv9,e]
 exact wqxg (fun R=>@wqen k R) (fun R=>@wq9a k R) (fun R=>@wq1a k R) (fun R=>@wq3h k R) (fun R=>@wq1g k R) (fun R=>@wq2m k R) (fun R=>@wq5g k R) (fun R=>@wq1p k R) k x0 K
def wqb4(k:Nat){R:Type}: List PV→List (Nm×HObj)→(Out→Option R)→Option R
 |[.v .str x0],[],K=>wq3l k x0 (fun y0 y1=>K (.ret [.v .flt y0,.v .bool y1] []))
 |_,_,_=>none
theorem wq15r(k:Nat): DOK Tryz.prog 80 (wqb4 k):=by
 intro ps hp R K r h
 have h:wqb4 k ps hp K=some r:=h
 unfold wqb4 at h
 split at h
 ·rw[←wqxh]at h
  exact fnW_ok ⟨tyT_ok,(wq4 (wq15p k) (wq4 (wq15n k) (wq4 (wqqb k) (wq4 (wqua k) (wq4 (wq12p k) (wq4 (wq15q k) (wq4 (wq1bt k) (wq4 (wqza k) CTab.nil_ok)))))))),fun _ _=>rfl⟩ mixed (by kernel_rfl) (by kernel_rfl) h fun o ho=>by unfold wqer at ho;split at ho<;>first|exact ho|cases ho
 ·cases h
end Go.Proofs.YtbjkpddloieekaaGreatDoor.Pvm
end
noncomputable section
namespace Go.Proofs.YtbjkpddloieekaaGreatDoor.Pvm
open Go Go.Proofs
def wqoa:List LS:=[.ag [.sl kdT25],.any]
def wq7e{R:Type}(K:(Nat→Int→Int→Option R)): Out→Option R
 |.ret [.v .flt y0,.agg [.v (.int .i64) y1,.v (.int .i64) y2]] []=>K y0 y1 y2
 |_=>none
def wqfr:RetSpec:=⟨[.any,.ag [.any,.any]],[],[]⟩
def wqfs(k:Nat): Ctx:=⟨tyT,[],(.add 77 wq5q (wq25 k) (.add 79 wqs (wqi k) (.add 80 wqm4 (wqb4 k) (.add 81 wqcz (wq6y k) (.add 82 wqxc (wqhw k) .nil))))),[],[],[(3,(.of [(1,1),(0,1),(2,0)] .done))],@SH⟩
def wqh3(k:Nat){R:Type}(x0:(List dT25))(x1:Int)(K:(Nat→Int→Int→Option R)): Option R:=wq13 k x0 x1 15 (fun y5 y6 y7=>cond (y6 != 0) (K 0 y6 y7) (wq3l k y5 (fun y8 y9=>cond ((!y9) == false) (wqo k y8 (fun y10=>cond (cond (cond y10 true (@fltIs @Go.BinOp.lss y8 (0:Nat))) true (@fltIs @Go.BinOp.gtr y8 (4607182418800017408:Nat))) (wq9 k x0 x1 15 (fun y11 y12=>K 0 y11 y12)) (wqbu k y8 (fun y11=>K y11 0 0)))) (wq9 k x0 x1 15 (fun y10 y11=>K 0 y10 y11)))))
def wq4b(k:Nat){R:Type}(x0:(List dT25))(x1:Int)(K:(Nat→Int→Int→Option R)): Option R:=wqh3 k x0 x1 K
def wqob(f:(R:Type)→(List dT25)→Int→Int→((List UInt8)→Int→Int→Option R)→Option R){R:Type}: List PV→List (Nm×HObj)→(Out→Option R)→Option R
 |[.agg [.v (.sl (.pr (.int .i64) (.pr (.int .i64) (.pr .str (.pr .bool (.pr (.sl .str) (.sl (.int .i64)))))))) x0],.v (.int .i64) x1,.v (.int .i64) x2],[],K=>f R x0 x1 x2 (fun y0 y1 y2=>K (.ret [.v .str y0,.agg [.v (.int .i64) y1,.v (.int .i64) y2]] []))
 |_,_,_=>none
def wqoc(f:(R:Type)→(List dT25)→Int→Int→(Int→Int→Option R)→Option R){R:Type}: List PV→List (Nm×HObj)→(Out→Option R)→Option R
 |[.agg [.v (.sl (.pr (.int .i64) (.pr (.int .i64) (.pr .str (.pr .bool (.pr (.sl .str) (.sl (.int .i64)))))))) x0],.v (.int .i64) x1,.v (.int .i64) x2],[],K=>f R x0 x1 x2 (fun y0 y1=>K (.ret [.agg [.v (.int .i64) y0,.v (.int .i64) y1]] []))
 |_,_,_=>none
def wqod(f:(R:Type)→(List UInt8)→(Nat→Bool→Option R)→Option R){R:Type}: List PV→List (Nm×HObj)→(Out→Option R)→Option R
 |[.v .str x0],[],K=>f R x0 (fun y0 y1=>K (.ret [.v .flt y0,.v .bool y1] []))
 |_,_,_=>none
def wqoe(f:(R:Type)→Nat→(Bool→Option R)→Option R){R:Type}: List PV→List (Nm×HObj)→(Out→Option R)→Option R
 |[.v .flt x0],[],K=>f R x0 (fun y0=>K (.ret [.v .bool y0] []))
 |_,_,_=>none
def wqof(f:(R:Type)→Nat→(Nat→Option R)→Option R){R:Type}: List PV→List (Nm×HObj)→(Out→Option R)→Option R
 |[.v .flt x0],[],K=>f R x0 (fun y0=>K (.ret [.v .flt y0] []))
 |_,_,_=>none
def wqft(f0:(R:Type)→(List dT25)→Int→Int→((List UInt8)→Int→Int→Option R)→Option R)(f1:(R:Type)→(List dT25)→Int→Int→(Int→Int→Option R)→Option R)(f2:(R:Type)→(List UInt8)→(Nat→Bool→Option R)→Option R)(f3:(R:Type)→Nat→(Bool→Option R)→Option R)(f4:(R:Type)→Nat→(Nat→Option R)→Option R): Ctx:=⟨tyT,[],(.add 77 wq5q (wqob f0) (.add 79 wqs (wqoc f1) (.add 80 wqm4 (wqod f2) (.add 81 wqcz (wqoe f3) (.add 82 wqxc (wqof f4) .nil))))),[],[],[(3,(.of [(1,1),(0,1),(2,0)] .done))],@SH⟩
def wqh4(f0:(R:Type)→(List dT25)→Int→Int→((List UInt8)→Int→Int→Option R)→Option R)(f1:(R:Type)→(List dT25)→Int→Int→(Int→Int→Option R)→Option R)(f2:(R:Type)→(List UInt8)→(Nat→Bool→Option R)→Option R)(f3:(R:Type)→Nat→(Bool→Option R)→Option R)(f4:(R:Type)→Nat→(Nat→Option R)→Option R){R:Type}(x0:(List dT25))(x1:Int)(K:(Nat→Int→Int→Option R)): Option R:=f0 R x0 x1 15 (fun y5 y6 y7=>cond (y6 != 0) (K 0 y6 y7) (f2 R y5 (fun y8 y9=>cond ((!y9) == false) (f3 R y8 (fun y10=>cond (cond (cond y10 true (@fltIs @Go.BinOp.lss y8 (0:Nat))) true (@fltIs @Go.BinOp.gtr y8 (4607182418800017408:Nat))) (f1 R x0 x1 15 (fun y11 y12=>K 0 y11 y12)) (f4 R y8 (fun y11=>K y11 0 0)))) (f1 R x0 x1 15 (fun y10 y11=>K 0 y10 y11)))))
theorem wqlg(f0:(R:Type)→(List dT25)→Int→Int→((List UInt8)→Int→Int→Option R)→Option R)(f1:(R:Type)→(List dT25)→Int→Int→(Int→Int→Option R)→Option R)(f2:(R:Type)→(List UInt8)→(Nat→Bool→Option R)→Option R)(f3:(R:Type)→Nat→(Bool→Option R)→Option R)(f4:(R:Type)→Nat→(Nat→Option R)→Option R)(k:Nat){R:Type}(x0:(List dT25))(x1:Int)(K:(Nat→Int→Int→Option R)): fnW (wqft f0 f1 f2 f3 f4) k Tryz.f35 wqfr [.agg [.v kdT28 x0],.v kI x1] [] (wq7e K)=wqh4 f0 f1 f2 f3 f4 x0 x1 K:=by
 kernel_rfl
theorem wqk5(k:Nat): wqfs k=wqft (fun R=>@wq13 k R) (fun R=>@wq9 k R) (fun R=>@wq3l k R) (fun R=>@wqo k R) (fun R=>@wqbu k R):=by
 kernel_rfl
theorem wqlh(k:Nat){R:Type}(x0:(List dT25))(x1:Int)(K:(Nat→Int→Int→Option R)): fnW (wqfs k) k Tryz.f35 wqfr [.agg [.v kdT28 x0],.v kI x1] [] (wq7e K)=wq4b k x0 x1 K:=by
 have e:wq4b k x0 x1 K=wqh4 (fun R=>@wq13 k R) (fun R=>@wq9 k R) (fun R=>@wq3l k R) (fun R=>@wqo k R) (fun R=>@wqbu k R) x0 x1 K:=by kernel_rfl
 rw[wqk5,e]
 exact wqlg (fun R=>@wq13 k R) (fun R=>@wq9 k R) (fun R=>@wq3l k R) (fun R=>@wqo k R) (fun R=>@wqbu k R) k x0 x1 K
def wq50(k:Nat){R:Type}: List PV→List (Nm×HObj)→(Out→Option R)→Option R
 |[.agg [.v (.sl (.pr (.int .i64) (.pr (.int .i64) (.pr .str (.pr .bool (.pr (.sl .str) (.sl (.int .i64)))))))) x0],.v (.int .i64) x1],[],K=>wq4b k x0 x1 (fun y0 y1 y2=>K (.ret [.v .flt y0,.agg [.v (.int .i64) y1,.v (.int .i64) y2]] []))
 |_,_,_=>none
theorem wqt8(k:Nat): DOK Tryz.prog 35 (wq50 k):=by
 intro ps hp R K r h
 have h:wq50 k ps hp K=some r:=h
 unfold wq50 at h
 split at h
 ·rw[←wqlh]at h
  exact fnW_ok ⟨tyT_ok,(wq4 (wqc3 k) (wq4 (wq1i k) (wq4 (wq15r k) (wq4 (wqo2 k) (wq4 (wq1dv k) CTab.nil_ok))))),fun _ _=>rfl⟩ mixed (by kernel_rfl) (by kernel_rfl) h fun o ho=>by unfold wq7e at ho;split at ho<;>first|exact ho|cases ho
 ·cases h
end Go.Proofs.YtbjkpddloieekaaGreatDoor.Pvm
end
noncomputable section
namespace Go.Proofs.YtbjkpddloieekaaGreatDoor.Pvm
open Go Go.Proofs
def wq5h:List LS:=[.ag [.sl kdT25],.any]
def wqk6{R:Type}(K:(Nat→Int→Int→Option R)): Out→Option R
 |.ret [.v .flt y0,.agg [.v (.int .i64) y1,.v (.int .i64) y2]] []=>K y0 y1 y2
 |_=>none
def wq12r:RetSpec:=⟨[.any,.ag [.any,.any]],[],[]⟩
def wq12s(k:Nat): Ctx:=⟨tyT,[],(.add 31 wq6c (wq2w k) (.add 33 wq4r (wq1y k) (.add 35 wqoa (wq50 k) .nil))),[],[],[],@SH⟩
def wqul(k:Nat){R:Type}(x0:(List dT25))(x1:Int)(K:(Nat→Int→Int→Option R)): Option R:=wq5e k x0 x1 (fun y5 y6=>cond y6 (wq4b k y5 x1 K) (wq4s k (fun y7 y8=>K 0 y7 y8)))
def wql(k:Nat){R:Type}(x0:(List dT25))(x1:Int)(K:(Nat→Int→Int→Option R)): Option R:=wqul k x0 x1 K
theorem wqxi(k:Nat){R:Type}(x0:(List dT25))(x1:Int)(K:(Nat→Int→Int→Option R)): fnW (wq12s k) k Tryz.f10 wq12r [.agg [.v kdT28 x0],.v kI x1] [] (wqk6 K)=wql k x0 x1 K:=by
 kernel_rfl
def wq5i(k:Nat){R:Type}: List PV→List (Nm×HObj)→(Out→Option R)→Option R
 |[.agg [.v (.sl (.pr (.int .i64) (.pr (.int .i64) (.pr .str (.pr .bool (.pr (.sl .str) (.sl (.int .i64)))))))) x0],.v (.int .i64) x1],[],K=>wql k x0 x1 (fun y0 y1 y2=>K (.ret [.v .flt y0,.agg [.v (.int .i64) y1,.v (.int .i64) y2]] []))
 |_,_,_=>none
theorem wqk7(k:Nat): DOK Tryz.prog 10 (wq5i k):=by
 intro ps hp R K r h
 have h:wq5i k ps hp K=some r:=h
 unfold wq5i at h
 split at h
 ·rw[←wqxi]at h
  exact fnW_ok ⟨tyT_ok,(wq4 (wqbs k) (wq4 (wq8m k) (wq4 (wqt8 k) CTab.nil_ok))),fun _ _=>rfl⟩ mixed (by kernel_rfl) (by kernel_rfl) h fun o ho=>by unfold wqk6 at ho;split at ho<;>first|exact ho|cases ho
 ·cases h
end Go.Proofs.YtbjkpddloieekaaGreatDoor.Pvm
end
noncomputable section
namespace Go.Proofs.YtbjkpddloieekaaGreatDoor.Pvm
open Go Go.Proofs
def wq4c:List LS:=[.sl .str,.any]
def wq10{R:Type}(K:(Int→Option R)): Out→Option R
 |.ret [.v (.int .i64) y0] []=>K y0
 |_=>none
def wq21:RetSpec:=⟨[.any],[],[]⟩
def wq22(k:Nat): Ctx:=⟨tyT,[(1002,⟨[(0,.sl .str),(1,.any),(7,.any),(8,.any)],[]⟩)],.nil,[],[],[],@SH⟩
def wqt(s0:(List (List UInt8)))(s1:(List UInt8))(s2 s3:Int): St:=⟨mkT [(0,.v (.sl .str) s0),(1,.v .str s1),(7,.v kI s2),(8,.v kI s3)],mkH []⟩
def wq1o(k:Nat){R:Type}(I:Nat→St→Option R)(n:Nat)(s:St)(K:(Int→Option R)): Option R:=loopK (wq22 k) k Tryz.f130 wq21 1002 [1,0,1,0] I n s (wq10 K)
def wqw(k:Nat){R:Type}(E1002:((List (List UInt8))→(List UInt8)→Int→Int→Option R))(s0:(List (List UInt8)))(s1:(List UInt8))(s2 s3:Int)(K:(Int→Option R)): Option R:=cond (decide (s3<s2)) (cond (inb s3 (s0.length:Int)) (cond (s1 == (s0.getD s3.toNat Kd.str.zero)) (K s3) (E1002 s0 s1 s2 (@Go.IntKind.wrap Go.IntKind.i64 (s3+1)))) none) (K (@Neg.neg Int @Int.instNegInt (1:Int)))
theorem wq7f(k:Nat){R:Type}(I:Nat→St→Option R)(s0:(List (List UInt8)))(s1:(List UInt8))(s2 s3:Int)(K:(Int→Option R)): bodyK (wq22 k) k Tryz.f130 wq21 [1,0,1,0,0] I (wqt s0 s1 s2 s3) (wq10 K)=wqw k (fun s0 s1 s2 s3=>I 1002 (wqt s0 s1 s2 s3)) s0 s1 s2 s3 K:=by kernel_rfl
def wq2d(k:Nat){R:Type}(E1002:((List (List UInt8))→(List UInt8)→Int→Int→Option R))(x0:(List (List UInt8)))(x1:(List UInt8))(K:(Int→Option R)): Option R:=E1002 x0 x1 (x0.length:Int) 0
def wqc(k:Nat){R:Type}: Nat→(List (List UInt8))→(List UInt8)→Int→Int→(Int→Option R)→Option R
 |0,_,_,_,_,_=>none
 |n+1,s0,s1,s2,s3,K=>wqw k (fun s0 s1 s2 s3=>wqc k n s0 s1 s2 s3 K) s0 s1 s2 s3 K
theorem wq7g(k:Nat){R:Type}(I:Nat→St→Option R)(K:(Int→Option R))(n:Nat): ∀(s0:(List (List UInt8))) (s1:(List UInt8)) (s2 s3:Int),wq1o k I n (wqt s0 s1 s2 s3) K=wqc k n s0 s1 s2 s3 K:=by
 induction n with
 |zero=>intros;rfl
 |succ n ih =>
  intro s0 s1 s2 s3
  refine(?_:_=_).trans ((wq7f k (upI 1002 (fun s=>wq1o k I n s K) I) s0 s1 s2 s3 K).trans ?_)
  ·rfl
  ·simp only[wqy,ih]<;>rfl
def wqj(k:Nat){R:Type}(x0:(List (List UInt8)))(x1:(List UInt8))(K:(Int→Option R)): Option R:=wq2d k (fun s0 s1 s2 s3=>wqc k k s0 s1 s2 s3 K) x0 x1 K
theorem wqa9(k:Nat){R:Type}(x0:(List (List UInt8)))(x1:(List UInt8))(K:(Int→Option R)): fnW (wq22 k) k Tryz.f130 wq21 [.v (.sl .str) x0,.v .str x1] [] (wq10 K)=wqj k x0 x1 K:=by
 refine Eq.trans (b:=wq2d k (fun s0 s1 s2 s3=>wq1o k (fun _ _=>none) k (wqt s0 s1 s2 s3) K) x0 x1 K) (by kernel_rfl) ?_
 simp only[wq7g]<;>rfl
def wqp(k:Nat){R:Type}: List PV→List (Nm×HObj)→(Out→Option R)→Option R
 |[.v (.sl .str) x0,.v .str x1],[],K=>wqj k x0 x1 (fun y0=>K (.ret [.v (.int .i64) y0] []))
 |_,_,_=>none
theorem wq5f(k:Nat): DOK Tryz.prog 130 (wqp k):=by
 intro ps hp R K r h
 have h:wqp k ps hp K=some r:=h
 unfold wqp at h
 split at h
 ·rw[←wqa9]at h
  exact fnW_ok ⟨tyT_ok,CTab.nil_ok,fun _ _=>rfl⟩ mixed (by kernel_rfl) (by kernel_rfl) h fun o ho=>by unfold wq10 at ho;split at ho<;>first|exact ho|cases ho
 ·cases h
end Go.Proofs.YtbjkpddloieekaaGreatDoor.Pvm
end
noncomputable section
namespace Go.Proofs.YtbjkpddloieekaaGreatDoor.Pvm
open Go Go.Proofs
def wqqf:List LS:=[.ag [.sl kdT25],.any,.any]
def wqes{R:Type}(K:(Int→Bool→Option R)): Out→Option R
 |.ret [.v (.int .i64) y0,.v .bool y1] []=>K y0 y1
 |_=>none
def wqt9:RetSpec:=⟨[.any,.any],[],[]⟩
def wqta(k:Nat): Ctx:=⟨tyT,[],(.add 130 wq4c (wqp k) .nil),[],[],[],@SH⟩
def wqit(k:Nat){R:Type}(x0:(List dT25))(x1:Int)(x2:(List UInt8))(K:(Int→Bool→Option R)): Option R:=cond (inb x1 (x0.length:Int)) (wqj k (((((x0.getD x1.toNat (Kd.zero (@Kd.pr kI (@Kd.pr kI (@Kd.pr Kd.str (@Kd.pr Kd.bool (@Kd.pr (@Kd.sl Kd.str) (@Kd.sl kI)))))))).2).2).2).2).1 x2 (fun y6=>cond (cond ((x0.getD x1.toNat (Kd.zero (@Kd.pr kI (@Kd.pr kI (@Kd.pr Kd.str (@Kd.pr Kd.bool (@Kd.pr (@Kd.sl Kd.str) (@Kd.sl kI)))))))).1 != 3) true (decide (y6<0))) (K 0 false) (cond (inb y6 (((((((x0.getD x1.toNat (Kd.zero (@Kd.pr kI (@Kd.pr kI (@Kd.pr Kd.str (@Kd.pr Kd.bool (@Kd.pr (@Kd.sl Kd.str) (@Kd.sl kI)))))))).2).2).2).2).2).length:Int)) (K (((((((x0.getD x1.toNat (Kd.zero (@Kd.pr kI (@Kd.pr kI (@Kd.pr Kd.str (@Kd.pr Kd.bool (@Kd.pr (@Kd.sl Kd.str) (@Kd.sl kI)))))))).2).2).2).2).2).getD y6.toNat kI.zero) true) none))) none
def wq82(k:Nat){R:Type}(x0:(List dT25))(x1:Int)(x2:(List UInt8))(K:(Int→Bool→Option R)): Option R:=wqit k x0 x1 x2 K
theorem wqog(k:Nat){R:Type}(x0:(List dT25))(x1:Int)(x2:(List UInt8))(K:(Int→Bool→Option R)): fnW (wqta k) k Tryz.f74 wqt9 [.agg [.v kdT28 x0],.v kI x1,.v .str x2] [] (wqes K)=wq82 k x0 x1 x2 K:=by
 kernel_rfl
def wq61(k:Nat){R:Type}: List PV→List (Nm×HObj)→(Out→Option R)→Option R
 |[.agg [.v (.sl (.pr (.int .i64) (.pr (.int .i64) (.pr .str (.pr .bool (.pr (.sl .str) (.sl (.int .i64)))))))) x0],.v (.int .i64) x1,.v .str x2],[],K=>wq82 k x0 x1 x2 (fun y0 y1=>K (.ret [.v (.int .i64) y0,.v .bool y1] []))
 |_,_,_=>none
theorem wqva(k:Nat): DOK Tryz.prog 74 (wq61 k):=by
 intro ps hp R K r h
 have h:wq61 k ps hp K=some r:=h
 unfold wq61 at h
 split at h
 ·rw[←wqog]at h
  exact fnW_ok ⟨tyT_ok,(wq4 (wq5f k) CTab.nil_ok),fun _ _=>rfl⟩ mixed (by kernel_rfl) (by kernel_rfl) h fun o ho=>by unfold wqes at ho;split at ho<;>first|exact ho|cases ho
 ·cases h
end Go.Proofs.YtbjkpddloieekaaGreatDoor.Pvm
end
noncomputable section
namespace Go.Proofs.YtbjkpddloieekaaGreatDoor.Pvm
open Go Go.Proofs
def wqqg:List LS:=[.ag [.sl kdT25],.any,.any]
def wqm5{R:Type}(K:(Int→Bool→Option R)): Out→Option R
 |.ret [.v (.int .i64) y0,.v .bool y1] []=>K y0 y1
 |_=>none
def wq15s:RetSpec:=⟨[.any,.any],[],[]⟩
def wq15t(k:Nat): Ctx:=⟨tyT,[],(.add 31 wq6c (wq2w k) (.add 74 wqqf (wq61 k) .nil)),[],[],[],@SH⟩
def wqxj(k:Nat){R:Type}(x0:(List dT25))(x1:Int)(x2:(List UInt8))(K:(Int→Bool→Option R)): Option R:=wq5e k x0 x1 (fun y6 y7=>cond y7 (wq82 k y6 x1 x2 K) (K 0 false))
def wq51(k:Nat){R:Type}(x0:(List dT25))(x1:Int)(x2:(List UInt8))(K:(Int→Bool→Option R)): Option R:=wqxj k x0 x1 x2 K
theorem wqzj(k:Nat){R:Type}(x0:(List dT25))(x1:Int)(x2:(List UInt8))(K:(Int→Bool→Option R)): fnW (wq15t k) k Tryz.f28 wq15s [.agg [.v kdT28 x0],.v kI x1,.v .str x2] [] (wqm5 K)=wq51 k x0 x1 x2 K:=by
 kernel_rfl
def wqd1(k:Nat){R:Type}: List PV→List (Nm×HObj)→(Out→Option R)→Option R
 |[.agg [.v (.sl (.pr (.int .i64) (.pr (.int .i64) (.pr .str (.pr .bool (.pr (.sl .str) (.sl (.int .i64)))))))) x0],.v (.int .i64) x1,.v .str x2],[],K=>wq51 k x0 x1 x2 (fun y0 y1=>K (.ret [.v (.int .i64) y0,.v .bool y1] []))
 |_,_,_=>none
theorem wq18w(k:Nat): DOK Tryz.prog 28 (wqd1 k):=by
 intro ps hp R K r h
 have h:wqd1 k ps hp K=some r:=h
 unfold wqd1 at h
 split at h
 ·rw[←wqzj]at h
  exact fnW_ok ⟨tyT_ok,(wq4 (wqbs k) (wq4 (wqva k) CTab.nil_ok)),fun _ _=>rfl⟩ mixed (by kernel_rfl) (by kernel_rfl) h fun o ho=>by unfold wqm5 at ho;split at ho<;>first|exact ho|cases ho
 ·cases h
end Go.Proofs.YtbjkpddloieekaaGreatDoor.Pvm
end
noncomputable section
namespace Go.Proofs.YtbjkpddloieekaaGreatDoor.Pvm
open Go Go.Proofs
def wq8u:List LS:=[.sl .str,.any]
def wq2y{R:Type}(K:(Bool→Option R)): Out→Option R
 |.ret [.v .bool y0] []=>K y0
 |_=>none
def wq9f:RetSpec:=⟨[.any],[],[]⟩
def wq9g(k:Nat): Ctx:=⟨tyT,[],(.add 130 wq4c (wqp k) .nil),[],[],[],@SH⟩
def wq3u(k:Nat){R:Type}(x0:(List (List UInt8)))(x1:(List UInt8))(K:(Bool→Option R)): Option R:=wqj k x0 x1 (fun y5=>K (decide (y5≥0)))
def wqn(k:Nat){R:Type}(x0:(List (List UInt8)))(x1:(List UInt8))(K:(Bool→Option R)): Option R:=wq3u k x0 x1 K
theorem wq8q(k:Nat){R:Type}(x0:(List (List UInt8)))(x1:(List UInt8))(K:(Bool→Option R)): fnW (wq9g k) k Tryz.f131 wq9f [.v (.sl .str) x0,.v .str x1] [] (wq2y K)=wqn k x0 x1 K:=by
 kernel_rfl
def wqx(k:Nat){R:Type}: List PV→List (Nm×HObj)→(Out→Option R)→Option R
 |[.v (.sl .str) x0,.v .str x1],[],K=>wqn k x0 x1 (fun y0=>K (.ret [.v .bool y0] []))
 |_,_,_=>none
theorem wqaa(k:Nat): DOK Tryz.prog 131 (wqx k):=by
 intro ps hp R K r h
 have h:wqx k ps hp K=some r:=h
 unfold wqx at h
 split at h
 ·rw[←wq8q]at h
  exact fnW_ok ⟨tyT_ok,(wq4 (wq5f k) CTab.nil_ok),fun _ _=>rfl⟩ mixed (by kernel_rfl) (by kernel_rfl) h fun o ho=>by unfold wq2y at ho;split at ho<;>first|exact ho|cases ho
 ·cases h
end Go.Proofs.YtbjkpddloieekaaGreatDoor.Pvm
end
noncomputable section
namespace Go.Proofs.YtbjkpddloieekaaGreatDoor.Pvm
open Go Go.Proofs
def wqoh:List LS:=[.ag [.sl kdT25],.any,.sl .str]
def wq43{R:Type}(K:(Int→Int→Option R)): Out→Option R
 |.ret [.agg [.v (.int .i64) y0,.v (.int .i64) y1]] []=>K y0 y1
 |_=>none
def wq9h:RetSpec:=⟨[.ag [.any,.any]],[],[]⟩
def wq9i(k:Nat): Ctx:=⟨tyT,[(1006,⟨[(2,.sl .str),(3,.obj 13 [.sl kdT25]),(6,.obj 16 [.any,.any]),(8,.obj 18 [.any,.any,.any,.any,.sl .str,.sl kI]),(25,.sl .str),(26,.any),(27,.any)],[]⟩)],(.add 76 wq3e (wq18 k) (.add 79 wqs (wqi k) (.add 131 wq8u (wqx k) .nil))),[],[],[(9,(.of [(1,1),(3,1),(0,1),(2,1),(4,1),(5,1),(6,0),(7,0)] .done))],@SH⟩
def wq2k(s0:(List (List UInt8)))(s1:(List dT25))(s2 s3 s4 s5:Int)(s6:(List UInt8))(s7:Bool)(s8:(List (List UInt8)))(s9:(List Int))(s10:(List (List UInt8)))(s11 s12:Int): St:=⟨mkT [(2,.v (.sl .str) s0),(3,.ptr 13 0),(6,.ptr 16 0),(8,.ptr 18 0),(25,.v (.sl .str) s10),(26,.v kI s11),(27,.v kI s12)],mkH [(13,.var 64 [.v kdT28 s1]),(16,.var 31 [.v kI s2,.v kI s3]),(18,.var 26 [.v kI s4,.v kI s5,.v .str s6,.v .bool s7,.v (.sl .str) s8,.v (.sl kI) s9])]⟩
def wq5p(k:Nat){R:Type}(I:Nat→St→Option R)(n:Nat)(s:St)(K:(Int→Int→Option R)): Option R:=loopK (wq9i k) k Tryz.f75 wq9h 1006 [1,1,1,0,1,0] I n s (wq43 K)
def wq34(k:Nat){R:Type}(E1006:((List (List UInt8))→(List dT25)→Int→Int→Int→Int→(List UInt8)→Bool→(List (List UInt8))→(List Int)→(List (List UInt8))→Int→Int→Option R))(s0:(List (List UInt8)))(s1:(List dT25))(s2 s3 s4 s5:Int)(s6:(List UInt8))(s7:Bool)(s8:(List (List UInt8)))(s9:(List Int))(s10:(List (List UInt8)))(s11 s12:Int)(K:(Int→Int→Option R)): Option R:=cond (decide (s12<s11)) (cond (inb s12 (s10.length:Int)) (wqn k s0 (s10.getD s12.toNat Kd.str.zero) (fun y17=>cond (!y17) (cond (inb s12 (s9.length:Int)) (wq9 k s1 (s9.getD s12.toNat kI.zero) 5 K) none) (E1006 s0 s1 s2 s3 s4 s5 s6 s7 s8 s9 s10 s11 (@Go.IntKind.wrap Go.IntKind.i64 (s12+1))))) none) (K 0 0)
theorem wqgj(k:Nat){R:Type}(I:Nat→St→Option R)(s0:(List (List UInt8)))(s1:(List dT25))(s2 s3 s4 s5:Int)(s6:(List UInt8))(s7:Bool)(s8:(List (List UInt8)))(s9:(List Int))(s10:(List (List UInt8)))(s11 s12:Int)(K:(Int→Int→Option R)): bodyK (wq9i k) k Tryz.f75 wq9h [1,1,1,0,1,0,0] I (wq2k s0 s1 s2 s3 s4 s5 s6 s7 s8 s9 s10 s11 s12) (wq43 K)=wq34 k (fun s0 s1 s2 s3 s4 s5 s6 s7 s8 s9 s10 s11 s12=>I 1006 (wq2k s0 s1 s2 s3 s4 s5 s6 s7 s8 s9 s10 s11 s12)) s0 s1 s2 s3 s4 s5 s6 s7 s8 s9 s10 s11 s12 K:=by kernel_rfl
def wqak(k:Nat){R:Type}(E1006:((List (List UInt8))→(List dT25)→Int→Int→Int→Int→(List UInt8)→Bool→(List (List UInt8))→(List Int)→(List (List UInt8))→Int→Int→Option R))(x0:(List dT25))(x1:Int)(x2:(List (List UInt8)))(K:(Int→Int→Option R)): Option R:=wq1e k x0 x1 3 (fun y7 y8=>cond (y7 != 0) (K y7 y8) (cond (inb x1 (x0.length:Int)) (E1006 x2 x0 0 0 (x0.getD x1.toNat (Kd.zero (@Kd.pr kI (@Kd.pr kI (@Kd.pr Kd.str (@Kd.pr Kd.bool (@Kd.pr (@Kd.sl Kd.str) (@Kd.sl kI)))))))).1 ((x0.getD x1.toNat (Kd.zero (@Kd.pr kI (@Kd.pr kI (@Kd.pr Kd.str (@Kd.pr Kd.bool (@Kd.pr (@Kd.sl Kd.str) (@Kd.sl kI)))))))).2).1 (((x0.getD x1.toNat (Kd.zero (@Kd.pr kI (@Kd.pr kI (@Kd.pr Kd.str (@Kd.pr Kd.bool (@Kd.pr (@Kd.sl Kd.str) (@Kd.sl kI)))))))).2).2).1 ((((x0.getD x1.toNat (Kd.zero (@Kd.pr kI (@Kd.pr kI (@Kd.pr Kd.str (@Kd.pr Kd.bool (@Kd.pr (@Kd.sl Kd.str) (@Kd.sl kI)))))))).2).2).2).1 (((((x0.getD x1.toNat (Kd.zero (@Kd.pr kI (@Kd.pr kI (@Kd.pr Kd.str (@Kd.pr Kd.bool (@Kd.pr (@Kd.sl Kd.str) (@Kd.sl kI)))))))).2).2).2).2).1 (((((x0.getD x1.toNat (Kd.zero (@Kd.pr kI (@Kd.pr kI (@Kd.pr Kd.str (@Kd.pr Kd.bool (@Kd.pr (@Kd.sl Kd.str) (@Kd.sl kI)))))))).2).2).2).2).2 (((((x0.getD x1.toNat (Kd.zero (@Kd.pr kI (@Kd.pr kI (@Kd.pr Kd.str (@Kd.pr Kd.bool (@Kd.pr (@Kd.sl Kd.str) (@Kd.sl kI)))))))).2).2).2).2).1 (((((((x0.getD x1.toNat (Kd.zero (@Kd.pr kI (@Kd.pr kI (@Kd.pr Kd.str (@Kd.pr Kd.bool (@Kd.pr (@Kd.sl Kd.str) (@Kd.sl kI)))))))).2).2).2).2).1).length:Int) 0) none))
def wq1d(k:Nat){R:Type}: Nat→(List (List UInt8))→(List dT25)→Int→Int→Int→Int→(List UInt8)→Bool→(List (List UInt8))→(List Int)→(List (List UInt8))→Int→Int→(Int→Int→Option R)→Option R
 |0,_,_,_,_,_,_,_,_,_,_,_,_,_,_=>none
 |n+1,s0,s1,s2,s3,s4,s5,s6,s7,s8,s9,s10,s11,s12,K=>wq34 k (fun s0 s1 s2 s3 s4 s5 s6 s7 s8 s9 s10 s11 s12=>wq1d k n s0 s1 s2 s3 s4 s5 s6 s7 s8 s9 s10 s11 s12 K) s0 s1 s2 s3 s4 s5 s6 s7 s8 s9 s10 s11 s12 K
theorem wqgk(k:Nat){R:Type}(I:Nat→St→Option R)(K:(Int→Int→Option R))(n:Nat): ∀(s0:(List (List UInt8))) (s1:(List dT25)) (s2 s3 s4 s5:Int) (s6:(List UInt8)) (s7:Bool) (s8:(List (List UInt8))) (s9:(List Int)) (s10:(List (List UInt8))) (s11 s12:Int),wq5p k I n (wq2k s0 s1 s2 s3 s4 s5 s6 s7 s8 s9 s10 s11 s12) K=wq1d k n s0 s1 s2 s3 s4 s5 s6 s7 s8 s9 s10 s11 s12 K:=by
 induction n with
 |zero=>intros;rfl
 |succ n ih =>
  intro s0 s1 s2 s3 s4 s5 s6 s7 s8 s9 s10 s11 s12
  refine(?_:_=_).trans ((wqgj k (upI 1006 (fun s=>wq5p k I n s K) I) s0 s1 s2 s3 s4 s5 s6 s7 s8 s9 s10 s11 s12 K).trans ?_)
  ·rfl
  ·simp only[wqy,ih]<;>rfl
def wq70(k:Nat){R:Type}(x0:(List dT25))(x1:Int)(x2:(List (List UInt8)))(K:(Int→Int→Option R)): Option R:=wqak k (fun s0 s1 s2 s3 s4 s5 s6 s7 s8 s9 s10 s11 s12=>wq1d k k s0 s1 s2 s3 s4 s5 s6 s7 s8 s9 s10 s11 s12 K) x0 x1 x2 K
theorem wqli(k:Nat){R:Type}(x0:(List dT25))(x1:Int)(x2:(List (List UInt8)))(K:(Int→Int→Option R)): fnW (wq9i k) k Tryz.f75 wq9h [.agg [.v kdT28 x0],.v kI x1,.v (.sl .str) x2] [] (wq43 K)=wq70 k x0 x1 x2 K:=by
 refine Eq.trans (b:=wqak k (fun s0 s1 s2 s3 s4 s5 s6 s7 s8 s9 s10 s11 s12=>wq5p k (fun _ _=>none) k (wq2k s0 s1 s2 s3 s4 s5 s6 s7 s8 s9 s10 s11 s12) K) x0 x1 x2 K) (by kernel_rfl) ?_
 simp only[wqgk]<;>rfl
def wq52(k:Nat){R:Type}: List PV→List (Nm×HObj)→(Out→Option R)→Option R
 |[.agg [.v (.sl (.pr (.int .i64) (.pr (.int .i64) (.pr .str (.pr .bool (.pr (.sl .str) (.sl (.int .i64)))))))) x0],.v (.int .i64) x1,.v (.sl .str) x2],[],K=>wq70 k x0 x1 x2 (fun y0 y1=>K (.ret [.agg [.v (.int .i64) y0,.v (.int .i64) y1]] []))
 |_,_,_=>none
theorem wqtb(k:Nat): DOK Tryz.prog 75 (wq52 k):=by
 intro ps hp R K r h
 have h:wq52 k ps hp K=some r:=h
 unfold wq52 at h
 split at h
 ·rw[←wqli]at h
  exact fnW_ok ⟨tyT_ok,(wq4 (wq59 k) (wq4 (wq1i k) (wq4 (wqaa k) CTab.nil_ok))),fun _ _=>rfl⟩ mixed (by kernel_rfl) (by kernel_rfl) h fun o ho=>by unfold wq43 at ho;split at ho<;>first|exact ho|cases ho
 ·cases h
end Go.Proofs.YtbjkpddloieekaaGreatDoor.Pvm
end
noncomputable section
namespace Go.Proofs.YtbjkpddloieekaaGreatDoor.Pvm
open Go Go.Proofs
def wqm6:List LS:=[.ag [.sl kdT25],.any,.sl .str]
def wqk8{R:Type}(K:(Int→Int→Option R)): Out→Option R
 |.ret [.agg [.v (.int .i64) y0,.v (.int .i64) y1]] []=>K y0 y1
 |_=>none
def wq12t:RetSpec:=⟨[.ag [.any,.any]],[],[]⟩
def wq12u(k:Nat): Ctx:=⟨tyT,[],(.add 31 wq6c (wq2w k) (.add 33 wq4r (wq1y k) (.add 75 wqoh (wq52 k) .nil))),[],[],[],@SH⟩
def wqum(k:Nat){R:Type}(x0:(List dT25))(x1:Int)(x2:(List (List UInt8)))(K:(Int→Int→Option R)): Option R:=wq5e k x0 x1 (fun y6 y7=>cond y7 (wq70 k y6 x1 x2 K) (wq4s k K))
def wq3m(k:Nat){R:Type}(x0:(List dT25))(x1:Int)(x2:(List (List UInt8)))(K:(Int→Int→Option R)): Option R:=wqum k x0 x1 x2 K
theorem wqxk(k:Nat){R:Type}(x0:(List dT25))(x1:Int)(x2:(List (List UInt8)))(K:(Int→Int→Option R)): fnW (wq12u k) k Tryz.f29 wq12t [.agg [.v kdT28 x0],.v kI x1,.v (.sl .str) x2] [] (wqk8 K)=wq3m k x0 x1 x2 K:=by
 kernel_rfl
def wqb5(k:Nat){R:Type}: List PV→List (Nm×HObj)→(Out→Option R)→Option R
 |[.agg [.v (.sl (.pr (.int .i64) (.pr (.int .i64) (.pr .str (.pr .bool (.pr (.sl .str) (.sl (.int .i64)))))))) x0],.v (.int .i64) x1,.v (.sl .str) x2],[],K=>wq3m k x0 x1 x2 (fun y0 y1=>K (.ret [.agg [.v (.int .i64) y0,.v (.int .i64) y1]] []))
 |_,_,_=>none
theorem wq15u(k:Nat): DOK Tryz.prog 29 (wqb5 k):=by
 intro ps hp R K r h
 have h:wqb5 k ps hp K=some r:=h
 unfold wqb5 at h
 split at h
 ·rw[←wqxk]at h
  exact fnW_ok ⟨tyT_ok,(wq4 (wqbs k) (wq4 (wq8m k) (wq4 (wqtb k) CTab.nil_ok))),fun _ _=>rfl⟩ mixed (by kernel_rfl) (by kernel_rfl) h fun o ho=>by unfold wqk8 at ho;split at ho<;>first|exact ho|cases ho
 ·cases h
end Go.Proofs.YtbjkpddloieekaaGreatDoor.Pvm
end
noncomputable section
namespace Go.Proofs.YtbjkpddloieekaaGreatDoor.Pvm
open Go Go.Proofs
def wqqh:List LS:=[.ag [.sl kdT25],.any,.any]
def wqm7{R:Type}(K:(Int→Int→Option R)): Out→Option R
 |.ret [.agg [.v (.int .i64) y0,.v (.int .i64) y1]] []=>K y0 y1
 |_=>none
def wq15v:RetSpec:=⟨[.ag [.any,.any]],[],[]⟩
def wq15w(k:Nat): Ctx:=⟨tyT,[],(.add 31 wq6c (wq2w k) (.add 33 wq4r (wq1y k) (.add 76 wq3e (wq18 k) .nil))),[],[],[],@SH⟩
def wqxl(k:Nat){R:Type}(x0:(List dT25))(x1 x2:Int)(K:(Int→Int→Option R)): Option R:=wq5e k x0 x1 (fun y6 y7=>cond y7 (wq1e k y6 x1 x2 K) (wq4s k K))
def wq2z(k:Nat){R:Type}(x0:(List dT25))(x1 x2:Int)(K:(Int→Int→Option R)): Option R:=wqxl k x0 x1 x2 K
theorem wqzk(k:Nat){R:Type}(x0:(List dT25))(x1 x2:Int)(K:(Int→Int→Option R)): fnW (wq15w k) k Tryz.f30 wq15v [.agg [.v kdT28 x0],.v kI x1,.v kI x2] [] (wqm7 K)=wq2z k x0 x1 x2 K:=by
 kernel_rfl
def wqd2(k:Nat){R:Type}: List PV→List (Nm×HObj)→(Out→Option R)→Option R
 |[.agg [.v (.sl (.pr (.int .i64) (.pr (.int .i64) (.pr .str (.pr .bool (.pr (.sl .str) (.sl (.int .i64)))))))) x0],.v (.int .i64) x1,.v (.int .i64) x2],[],K=>wq2z k x0 x1 x2 (fun y0 y1=>K (.ret [.agg [.v (.int .i64) y0,.v (.int .i64) y1]] []))
 |_,_,_=>none
theorem wq18x(k:Nat): DOK Tryz.prog 30 (wqd2 k):=by
 intro ps hp R K r h
 have h:wqd2 k ps hp K=some r:=h
 unfold wqd2 at h
 split at h
 ·rw[←wqzk]at h
  exact fnW_ok ⟨tyT_ok,(wq4 (wqbs k) (wq4 (wq8m k) (wq4 (wq59 k) CTab.nil_ok))),fun _ _=>rfl⟩ mixed (by kernel_rfl) (by kernel_rfl) h fun o ho=>by unfold wqm7 at ho;split at ho<;>first|exact ho|cases ho
 ·cases h
end Go.Proofs.YtbjkpddloieekaaGreatDoor.Pvm
end
noncomputable section
namespace Go.Proofs.YtbjkpddloieekaaGreatDoor.Pvm
open Go Go.Proofs
def wqm8:List LS:=[]
def wqet{R:Type}(K:(Bool→Option R)): Out→Option R
 |.ret [.v .bool y0] []=>K y0
 |_=>none
def wqqi:RetSpec:=⟨[.any],[],[]⟩
def wqqj(k:Nat): Ctx:=⟨tyT,[],(.add 8 wq48 (wq49 k) (.add 9 wq6v (wq6w k) (.add 10 wq5h (wq5i k) (.add 28 wqqg (wqd1 k) (.add 29 wqm6 (wqb5 k) (.add 30 wqqh (wqd2 k) .nil)))))),[],[],[],@SH⟩
def wqun(k:Nat){R:Type}(K:(Bool→Option R)): Option R:=wql k [(3,(1,([],(false,([[97],[98]],[1,2]))))),(1,(1,([48,46,56],(false,([],[]))))),(1,(2,([48,46,56],(true,([],[])))))] 1 (fun y3 y4 y5=>wql k [(3,(1,([],(false,([[97],[98]],[1,2]))))),(1,(1,([48,46,56],(false,([],[]))))),(1,(2,([48,46,56],(true,([],[])))))] 2 (fun y6 y7 y8=>wq51 k [(3,(1,([],(false,([[97],[98]],[1,2]))))),(1,(1,([48,46,56],(false,([],[]))))),(1,(2,([48,46,56],(true,([],[])))))] 0 [98] (fun y9 y10=>wqk k [(3,(1,([],(false,([[97],[98]],[1,2]))))),(1,(1,([48,46,56],(false,([],[]))))),(1,(2,([48,46,56],(true,([],[])))))] 1 0 9 (fun y11 y12 y13=>wq12 k [] 0 (fun y14 y15 y16=>cond ((cond (cond (cond (cond (cond (cond (@fltIs @Go.BinOp.eql y3 (4605380978949069210:Nat)) ((y4 == 0)&&(y5 == 0)) false) ((y7 == 15)&&(y8 == 2)) false) (y9 == 2) false) y10 false) ((y12 == 13)&&(y13 == 1)) false) ((y15 == 11)&&(y16 == 0)) false) == true) (wq3m k [(3,(1,([],(false,([[97],[98]],[1,2]))))),(1,(1,([48,46,56],(false,([],[]))))),(1,(2,([48,46,56],(true,([],[])))))] 0 [[97]] (fun y17 y18=>cond (((y17 == 5)&&(y18 == 2)) == true) (wq2z k [(3,(1,([],(false,([[97],[98]],[1,2]))))),(1,(1,([48,46,56],(false,([],[]))))),(1,(2,([48,46,56],(true,([],[])))))] 0 3 (fun y19 y20=>cond (((y19 == 0)&&(y20 == 0)) == true) (wq2z k [(3,(1,([],(false,([[97],[98]],[1,2]))))),(1,(1,([48,46,56],(false,([],[]))))),(1,(2,([48,46,56],(true,([],[])))))] 1 3 (fun y21 y22=>K ((y21 == 11)&&(y22 == 1)))) (K false))) (K false))) (K false))))))
def wq23(k:Nat){R:Type}(K:(Bool→Option R)): Option R:=wqun k K
def wqzl(f:(R:Type)→(List dT25)→Int→Int→Int→(Int→Int→Int→Option R)→Option R){R:Type}: List PV→List (Nm×HObj)→(Out→Option R)→Option R
 |[.agg [.v (.sl (.pr (.int .i64) (.pr (.int .i64) (.pr .str (.pr .bool (.pr (.sl .str) (.sl (.int .i64)))))))) x0],.v (.int .i64) x1,.v (.int .i64) x2,.v (.int .i64) x3],[],K=>f R x0 x1 x2 x3 (fun y0 y1 y2=>K (.ret [.v (.int .i64) y0,.agg [.v (.int .i64) y1,.v (.int .i64) y2]] []))
 |_,_,_=>none
def wqzm(f:(R:Type)→(List dT25)→Int→(Bool→Int→Int→Option R)→Option R){R:Type}: List PV→List (Nm×HObj)→(Out→Option R)→Option R
 |[.agg [.v (.sl (.pr (.int .i64) (.pr (.int .i64) (.pr .str (.pr .bool (.pr (.sl .str) (.sl (.int .i64)))))))) x0],.v (.int .i64) x1],[],K=>f R x0 x1 (fun y0 y1 y2=>K (.ret [.v .bool y0,.agg [.v (.int .i64) y1,.v (.int .i64) y2]] []))
 |_,_,_=>none
def wqzn(f:(R:Type)→(List dT25)→Int→(Nat→Int→Int→Option R)→Option R){R:Type}: List PV→List (Nm×HObj)→(Out→Option R)→Option R
 |[.agg [.v (.sl (.pr (.int .i64) (.pr (.int .i64) (.pr .str (.pr .bool (.pr (.sl .str) (.sl (.int .i64)))))))) x0],.v (.int .i64) x1],[],K=>f R x0 x1 (fun y0 y1 y2=>K (.ret [.v .flt y0,.agg [.v (.int .i64) y1,.v (.int .i64) y2]] []))
 |_,_,_=>none
def wqzo(f:(R:Type)→(List dT25)→Int→(List UInt8)→(Int→Bool→Option R)→Option R){R:Type}: List PV→List (Nm×HObj)→(Out→Option R)→Option R
 |[.agg [.v (.sl (.pr (.int .i64) (.pr (.int .i64) (.pr .str (.pr .bool (.pr (.sl .str) (.sl (.int .i64)))))))) x0],.v (.int .i64) x1,.v .str x2],[],K=>f R x0 x1 x2 (fun y0 y1=>K (.ret [.v (.int .i64) y0,.v .bool y1] []))
 |_,_,_=>none
def wqzp(f:(R:Type)→(List dT25)→Int→(List (List UInt8))→(Int→Int→Option R)→Option R){R:Type}: List PV→List (Nm×HObj)→(Out→Option R)→Option R
 |[.agg [.v (.sl (.pr (.int .i64) (.pr (.int .i64) (.pr .str (.pr .bool (.pr (.sl .str) (.sl (.int .i64)))))))) x0],.v (.int .i64) x1,.v (.sl .str) x2],[],K=>f R x0 x1 x2 (fun y0 y1=>K (.ret [.agg [.v (.int .i64) y0,.v (.int .i64) y1]] []))
 |_,_,_=>none
def wqzq(f:(R:Type)→(List dT25)→Int→Int→(Int→Int→Option R)→Option R){R:Type}: List PV→List (Nm×HObj)→(Out→Option R)→Option R
 |[.agg [.v (.sl (.pr (.int .i64) (.pr (.int .i64) (.pr .str (.pr .bool (.pr (.sl .str) (.sl (.int .i64)))))))) x0],.v (.int .i64) x1,.v (.int .i64) x2],[],K=>f R x0 x1 x2 (fun y0 y1=>K (.ret [.agg [.v (.int .i64) y0,.v (.int .i64) y1]] []))
 |_,_,_=>none
def wqqk(f0:(R:Type)→(List dT25)→Int→Int→Int→(Int→Int→Int→Option R)→Option R)(f1:(R:Type)→(List dT25)→Int→(Bool→Int→Int→Option R)→Option R)(f2:(R:Type)→(List dT25)→Int→(Nat→Int→Int→Option R)→Option R)(f3:(R:Type)→(List dT25)→Int→(List UInt8)→(Int→Bool→Option R)→Option R)(f4:(R:Type)→(List dT25)→Int→(List (List UInt8))→(Int→Int→Option R)→Option R)(f5:(R:Type)→(List dT25)→Int→Int→(Int→Int→Option R)→Option R): Ctx:=⟨tyT,[],(.add 8 wq48 (wqzl f0) (.add 9 wq6v (wqzm f1) (.add 10 wq5h (wqzn f2) (.add 28 wqqg (wqzo f3) (.add 29 wqm6 (wqzp f4) (.add 30 wqqh (wqzq f5) .nil)))))),[],[],[],@SH⟩
def wquo(f0:(R:Type)→(List dT25)→Int→Int→Int→(Int→Int→Int→Option R)→Option R)(f1:(R:Type)→(List dT25)→Int→(Bool→Int→Int→Option R)→Option R)(f2:(R:Type)→(List dT25)→Int→(Nat→Int→Int→Option R)→Option R)(f3:(R:Type)→(List dT25)→Int→(List UInt8)→(Int→Bool→Option R)→Option R)(f4:(R:Type)→(List dT25)→Int→(List (List UInt8))→(Int→Int→Option R)→Option R)(f5:(R:Type)→(List dT25)→Int→Int→(Int→Int→Option R)→Option R){R:Type}(K:(Bool→Option R)): Option R:=f2 R [(3,(1,([],(false,([[97],[98]],[1,2]))))),(1,(1,([48,46,56],(false,([],[]))))),(1,(2,([48,46,56],(true,([],[])))))] 1 (fun y3 y4 y5=>f2 R [(3,(1,([],(false,([[97],[98]],[1,2]))))),(1,(1,([48,46,56],(false,([],[]))))),(1,(2,([48,46,56],(true,([],[])))))] 2 (fun y6 y7 y8=>f3 R [(3,(1,([],(false,([[97],[98]],[1,2]))))),(1,(1,([48,46,56],(false,([],[]))))),(1,(2,([48,46,56],(true,([],[])))))] 0 [98] (fun y9 y10=>f0 R [(3,(1,([],(false,([[97],[98]],[1,2]))))),(1,(1,([48,46,56],(false,([],[]))))),(1,(2,([48,46,56],(true,([],[])))))] 1 0 9 (fun y11 y12 y13=>f1 R [] 0 (fun y14 y15 y16=>cond ((cond (cond (cond (cond (cond (cond (@fltIs @Go.BinOp.eql y3 (4605380978949069210:Nat)) ((y4 == 0)&&(y5 == 0)) false) ((y7 == 15)&&(y8 == 2)) false) (y9 == 2) false) y10 false) ((y12 == 13)&&(y13 == 1)) false) ((y15 == 11)&&(y16 == 0)) false) == true) (f4 R [(3,(1,([],(false,([[97],[98]],[1,2]))))),(1,(1,([48,46,56],(false,([],[]))))),(1,(2,([48,46,56],(true,([],[])))))] 0 [[97]] (fun y17 y18=>cond (((y17 == 5)&&(y18 == 2)) == true) (f5 R [(3,(1,([],(false,([[97],[98]],[1,2]))))),(1,(1,([48,46,56],(false,([],[]))))),(1,(2,([48,46,56],(true,([],[])))))] 0 3 (fun y19 y20=>cond (((y19 == 0)&&(y20 == 0)) == true) (f5 R [(3,(1,([],(false,([[97],[98]],[1,2]))))),(1,(1,([48,46,56],(false,([],[]))))),(1,(2,([48,46,56],(true,([],[])))))] 1 3 (fun y21 y22=>K ((y21 == 11)&&(y22 == 1)))) (K false))) (K false))) (K false))))))
theorem wqxm(f0:(R:Type)→(List dT25)→Int→Int→Int→(Int→Int→Int→Option R)→Option R)(f1:(R:Type)→(List dT25)→Int→(Bool→Int→Int→Option R)→Option R)(f2:(R:Type)→(List dT25)→Int→(Nat→Int→Int→Option R)→Option R)(f3:(R:Type)→(List dT25)→Int→(List UInt8)→(Int→Bool→Option R)→Option R)(f4:(R:Type)→(List dT25)→Int→(List (List UInt8))→(Int→Int→Option R)→Option R)(f5:(R:Type)→(List dT25)→Int→Int→(Int→Int→Option R)→Option R)(k:Nat){R:Type}(K:(Bool→Option R)): fnW (wqqk f0 f1 f2 f3 f4 f5) k Tryz.f7 wqqi [] [] (wqet K)=wquo f0 f1 f2 f3 f4 f5 K:=by
 kernel_rfl
theorem wqvb(k:Nat): wqqj k=wqqk (fun R=>@wqk k R) (fun R=>@wq12 k R) (fun R=>@wql k R) (fun R=>@wq51 k R) (fun R=>@wq3m k R) (fun R=>@wq2z k R):=by
 kernel_rfl
theorem wqxn(k:Nat){R:Type}(K:(Bool→Option R)): fnW (wqqj k) k Tryz.f7 wqqi [] [] (wqet K)=wq23 k K:=by
 have e:wq23 k K=wquo (fun R=>@wqk k R) (fun R=>@wq12 k R) (fun R=>@wql k R) (fun R=>@wq51 k R) (fun R=>@wq3m k R) (fun R=>@wq2z k R) K:=by kernel_rfl
 rw[wqvb,e]
 exact wqxm (fun R=>@wqk k R) (fun R=>@wq12 k R) (fun R=>@wql k R) (fun R=>@wq51 k R) (fun R=>@wq3m k R) (fun R=>@wq2z k R) k K
def wqb6(k:Nat){R:Type}: List PV→List (Nm×HObj)→(Out→Option R)→Option R
 |[],[],K=>wq23 k (fun y0=>K (.ret [.v .bool y0] []))
 |_,_,_=>none
theorem wq15x(k:Nat): DOK Tryz.prog 7 (wqb6 k):=by
 intro ps hp R K r h
 have h:wqb6 k ps hp K=some r:=h
 unfold wqb6 at h
 split at h
 ·rw[←wqxn]at h
  exact fnW_ok ⟨tyT_ok,(wq4 (wqhv k) (wq4 (wqnt k) (wq4 (wqk7 k) (wq4 (wq18w k) (wq4 (wq15u k) (wq4 (wq18x k) CTab.nil_ok)))))),fun _ _=>rfl⟩ mixed (by kernel_rfl) (by kernel_rfl) h fun o ho=>by unfold wqet at ho;split at ho<;>first|exact ho|cases ho
 ·cases h
end Go.Proofs.YtbjkpddloieekaaGreatDoor.Pvm
end
noncomputable section
namespace Go.Proofs.YtbjkpddloieekaaGreatDoor.Pvm
open Go Go.Proofs
def wq15y:List LS:=[.any]
def wqd3{R:Type}(K:(Bool→Option R)): Out→Option R
 |.ret [.v .bool y0] []=>K y0
 |_=>none
def wqoi:RetSpec:=⟨[.any],[],[]⟩
def wqoj(k:Nat): Ctx:=⟨tyT,[(1002,⟨[(0,.any),(5,.any),(6,.any)],[]⟩)],.nil,[],[],[],@SH⟩
def wq83(s0:(List UInt8))(s1 s2:Int): St:=⟨mkT [(0,.v .str s0),(5,.v kI s1),(6,.v kI s2)],mkH []⟩
def wqeu(k:Nat){R:Type}(I:Nat→St→Option R)(n:Nat)(s:St)(K:(Bool→Option R)): Option R:=loopK (wqoj k) k Tryz.f124 wqoi 1002 [1,0,1,0] I n s (wqd3 K)
def wq9j(k:Nat){R:Type}(E1002:((List UInt8)→Int→Int→Option R))(s0:(List UInt8))(s1 s2:Int)(K:(Bool→Option R)): Option R:=cond (decide (s2<s1)) (cond (inb s2 (s0.length:Int)) (cond ((!((decide (((s0.getD s2.toNat 0).toNat:Int)<33)) == false)) || (inb s2 (s0.length:Int))) (cond (cond (decide (((s0.getD s2.toNat 0).toNat:Int)<33)) true (decide (((s0.getD s2.toNat 0).toNat:Int)>126))) (K false) (E1002 s0 s1 (@Go.IntKind.wrap Go.IntKind.i64 (s2+1)))) none) none) (K (cond (decide ((s0.length:Int)≥1)) (decide ((s0.length:Int)≤64)) false))
theorem wqql(k:Nat){R:Type}(I:Nat→St→Option R)(s0:(List UInt8))(s1 s2:Int)(K:(Bool→Option R)): bodyK (wqoj k) k Tryz.f124 wqoi [1,0,1,0,0] I (wq83 s0 s1 s2) (wqd3 K)=wq9j k (fun s0 s1 s2=>I 1002 (wq83 s0 s1 s2)) s0 s1 s2 K:=by kernel_rfl
def wqtc(k:Nat){R:Type}(E1002:((List UInt8)→Int→Int→Option R))(x0:(List UInt8))(K:(Bool→Option R)): Option R:=E1002 x0 (x0.length:Int) 0
def wq4d(k:Nat){R:Type}: Nat→(List UInt8)→Int→Int→(Bool→Option R)→Option R
 |0,_,_,_,_=>none
 |n+1,s0,s1,s2,K=>wq9j k (fun s0 s1 s2=>wq4d k n s0 s1 s2 K) s0 s1 s2 K
theorem wqqm(k:Nat){R:Type}(I:Nat→St→Option R)(K:(Bool→Option R))(n:Nat): ∀(s0:(List UInt8)) (s1 s2:Int),wqeu k I n (wq83 s0 s1 s2) K=wq4d k n s0 s1 s2 K:=by
 induction n with
 |zero=>intros;rfl
 |succ n ih =>
  intro s0 s1 s2
  refine(?_:_=_).trans ((wqql k (upI 1002 (fun s=>wqeu k I n s K) I) s0 s1 s2 K).trans ?_)
  ·rfl
  ·simp only[wqy,ih]<;>rfl
def wqh5(k:Nat){R:Type}(x0:(List UInt8))(K:(Bool→Option R)): Option R:=wqtc k (fun s0 s1 s2=>wq4d k k s0 s1 s2 K) x0 K
theorem wq12v(k:Nat){R:Type}(x0:(List UInt8))(K:(Bool→Option R)): fnW (wqoj k) k Tryz.f124 wqoi [.v .str x0] [] (wqd3 K)=wqh5 k x0 K:=by
 refine Eq.trans (b:=wqtc k (fun s0 s1 s2=>wqeu k (fun _ _=>none) k (wq83 s0 s1 s2) K) x0 K) (by kernel_rfl) ?_
 simp only[wqqm]<;>rfl
def wqfu(k:Nat){R:Type}: List PV→List (Nm×HObj)→(Out→Option R)→Option R
 |[.v .str x0],[],K=>wqh5 k x0 (fun y0=>K (.ret [.v .bool y0] []))
 |_,_,_=>none
theorem wq1bu(k:Nat): DOK Tryz.prog 124 (wqfu k):=by
 intro ps hp R K r h
 have h:wqfu k ps hp K=some r:=h
 unfold wqfu at h
 split at h
 ·rw[←wq12v]at h
  exact fnW_ok ⟨tyT_ok,CTab.nil_ok,fun _ _=>rfl⟩ mixed (by kernel_rfl) (by kernel_rfl) h fun o ho=>by unfold wqd3 at ho;split at ho<;>first|exact ho|cases ho
 ·cases h
end Go.Proofs.YtbjkpddloieekaaGreatDoor.Pvm
end
noncomputable section
namespace Go.Proofs.YtbjkpddloieekaaGreatDoor.Pvm
open Go Go.Proofs
def wqqn:List LS:=[.ag [.sl kdT25],.any]
def wqev{R:Type}(K:((List UInt8)→Int→Int→Option R)): Out→Option R
 |.ret [.v .str y0,.agg [.v (.int .i64) y1,.v (.int .i64) y2]] []=>K y0 y1 y2
 |_=>none
def wqtd:RetSpec:=⟨[.any,.ag [.any,.any]],[],[]⟩
def wqte(k:Nat): Ctx:=⟨tyT,[],(.add 76 wq3e (wq18 k) (.add 79 wqs (wqi k) (.add 124 wq15y (wqfu k) .nil))),[],[],[(3,(.of [(1,1),(0,1),(2,0)] .done))],@SH⟩
def wqiu(k:Nat){R:Type}(x0:(List dT25))(x1:Int)(K:((List UInt8)→Int→Int→Option R)): Option R:=wq1e k x0 x1 1 (fun y5 y6=>cond (y5 != 0) (K [] y5 y6) (cond (inb x1 (x0.length:Int)) (wqh5 k (((x0.getD x1.toNat (Kd.zero (@Kd.pr kI (@Kd.pr kI (@Kd.pr Kd.str (@Kd.pr Kd.bool (@Kd.pr (@Kd.sl Kd.str) (@Kd.sl kI)))))))).2).2).1 (fun y7=>cond y7 (K (((x0.getD x1.toNat (Kd.zero (@Kd.pr kI (@Kd.pr kI (@Kd.pr Kd.str (@Kd.pr Kd.bool (@Kd.pr (@Kd.sl Kd.str) (@Kd.sl kI)))))))).2).2).1 0 0) (wq9 k x0 x1 12 (fun y8 y9=>K [] y8 y9)))) none))
def wq84(k:Nat){R:Type}(x0:(List dT25))(x1:Int)(K:((List UInt8)→Int→Int→Option R)): Option R:=wqiu k x0 x1 K
theorem wqok(k:Nat){R:Type}(x0:(List dT25))(x1:Int)(K:((List UInt8)→Int→Int→Option R)): fnW (wqte k) k Tryz.f87 wqtd [.agg [.v kdT28 x0],.v kI x1] [] (wqev K)=wq84 k x0 x1 K:=by
 kernel_rfl
def wq62(k:Nat){R:Type}: List PV→List (Nm×HObj)→(Out→Option R)→Option R
 |[.agg [.v (.sl (.pr (.int .i64) (.pr (.int .i64) (.pr .str (.pr .bool (.pr (.sl .str) (.sl (.int .i64)))))))) x0],.v (.int .i64) x1],[],K=>wq84 k x0 x1 (fun y0 y1 y2=>K (.ret [.v .str y0,.agg [.v (.int .i64) y1,.v (.int .i64) y2]] []))
 |_,_,_=>none
theorem wqvc(k:Nat): DOK Tryz.prog 87 (wq62 k):=by
 intro ps hp R K r h
 have h:wq62 k ps hp K=some r:=h
 unfold wq62 at h
 split at h
 ·rw[←wqok]at h
  exact fnW_ok ⟨tyT_ok,(wq4 (wq59 k) (wq4 (wq1i k) (wq4 (wq1bu k) CTab.nil_ok))),fun _ _=>rfl⟩ mixed (by kernel_rfl) (by kernel_rfl) h fun o ho=>by unfold wqev at ho;split at ho<;>first|exact ho|cases ho
 ·cases h
end Go.Proofs.YtbjkpddloieekaaGreatDoor.Pvm
end
noncomputable section
namespace Go.Proofs.YtbjkpddloieekaaGreatDoor.Pvm
open Go Go.Proofs
def wqqo:List LS:=[.ag [.sl kdT25],.any]
def wqm9{R:Type}(K:((List UInt8)→Int→Int→Option R)): Out→Option R
 |.ret [.v .str y0,.agg [.v (.int .i64) y1,.v (.int .i64) y2]] []=>K y0 y1 y2
 |_=>none
def wq15z:RetSpec:=⟨[.any,.ag [.any,.any]],[],[]⟩
def wq160(k:Nat): Ctx:=⟨tyT,[],(.add 31 wq6c (wq2w k) (.add 33 wq4r (wq1y k) (.add 87 wqqn (wq62 k) .nil))),[],[],[],@SH⟩
def wqxo(k:Nat){R:Type}(x0:(List dT25))(x1:Int)(K:((List UInt8)→Int→Int→Option R)): Option R:=wq5e k x0 x1 (fun y5 y6=>cond y6 (wq84 k y5 x1 K) (wq4s k (fun y7 y8=>K [] y7 y8)))
def wq6d(k:Nat){R:Type}(x0:(List dT25))(x1:Int)(K:((List UInt8)→Int→Int→Option R)): Option R:=wqxo k x0 x1 K
theorem wqzr(k:Nat){R:Type}(x0:(List dT25))(x1:Int)(K:((List UInt8)→Int→Int→Option R)): fnW (wq160 k) k Tryz.f39 wq15z [.agg [.v kdT28 x0],.v kI x1] [] (wqm9 K)=wq6d k x0 x1 K:=by
 kernel_rfl
def wqd4(k:Nat){R:Type}: List PV→List (Nm×HObj)→(Out→Option R)→Option R
 |[.agg [.v (.sl (.pr (.int .i64) (.pr (.int .i64) (.pr .str (.pr .bool (.pr (.sl .str) (.sl (.int .i64)))))))) x0],.v (.int .i64) x1],[],K=>wq6d k x0 x1 (fun y0 y1 y2=>K (.ret [.v .str y0,.agg [.v (.int .i64) y1,.v (.int .i64) y2]] []))
 |_,_,_=>none
theorem wq18y(k:Nat): DOK Tryz.prog 39 (wqd4 k):=by
 intro ps hp R K r h
 have h:wqd4 k ps hp K=some r:=h
 unfold wqd4 at h
 split at h
 ·rw[←wqzr]at h
  exact fnW_ok ⟨tyT_ok,(wq4 (wqbs k) (wq4 (wq8m k) (wq4 (wqvc k) CTab.nil_ok))),fun _ _=>rfl⟩ mixed (by kernel_rfl) (by kernel_rfl) h fun o ho=>by unfold wqm9 at ho;split at ho<;>first|exact ho|cases ho
 ·cases h
end Go.Proofs.YtbjkpddloieekaaGreatDoor.Pvm
end
noncomputable section
namespace Go.Proofs.YtbjkpddloieekaaGreatDoor.Pvm
open Go Go.Proofs
def wqqp:List LS:=[.ag [.sl kdT25],.any]
def wqew{R:Type}(K:((List UInt8)→Int→Int→Option R)): Out→Option R
 |.ret [.v .str y0,.agg [.v (.int .i64) y1,.v (.int .i64) y2]] []=>K y0 y1 y2
 |_=>none
def wqtf:RetSpec:=⟨[.any,.ag [.any,.any]],[],[]⟩
def wqtg(k:Nat): Ctx:=⟨tyT,[],(.add 76 wq3e (wq18 k) (.add 79 wqs (wqi k) .nil)),[],[],[(3,(.of [(1,1),(0,1),(2,0)] .done))],@SH⟩
def wqiv(k:Nat){R:Type}(x0:(List dT25))(x1:Int)(K:((List UInt8)→Int→Int→Option R)): Option R:=wq1e k x0 x1 1 (fun y5 y6=>cond (y5 != 0) (K [] y5 y6) (cond (inb x1 (x0.length:Int)) (cond (decide ((((((x0.getD x1.toNat (Kd.zero (@Kd.pr kI (@Kd.pr kI (@Kd.pr Kd.str (@Kd.pr Kd.bool (@Kd.pr (@Kd.sl Kd.str) (@Kd.sl kI)))))))).2).2).1).length:Int)≤128)) (K (((x0.getD x1.toNat (Kd.zero (@Kd.pr kI (@Kd.pr kI (@Kd.pr Kd.str (@Kd.pr Kd.bool (@Kd.pr (@Kd.sl Kd.str) (@Kd.sl kI)))))))).2).2).1 0 0) (wq9 k x0 x1 12 (fun y7 y8=>K [] y7 y8))) none))
def wq85(k:Nat){R:Type}(x0:(List dT25))(x1:Int)(K:((List UInt8)→Int→Int→Option R)): Option R:=wqiv k x0 x1 K
theorem wqol(k:Nat){R:Type}(x0:(List dT25))(x1:Int)(K:((List UInt8)→Int→Int→Option R)): fnW (wqtg k) k Tryz.f89 wqtf [.agg [.v kdT28 x0],.v kI x1] [] (wqew K)=wq85 k x0 x1 K:=by
 kernel_rfl
def wq63(k:Nat){R:Type}: List PV→List (Nm×HObj)→(Out→Option R)→Option R
 |[.agg [.v (.sl (.pr (.int .i64) (.pr (.int .i64) (.pr .str (.pr .bool (.pr (.sl .str) (.sl (.int .i64)))))))) x0],.v (.int .i64) x1],[],K=>wq85 k x0 x1 (fun y0 y1 y2=>K (.ret [.v .str y0,.agg [.v (.int .i64) y1,.v (.int .i64) y2]] []))
 |_,_,_=>none
theorem wqvd(k:Nat): DOK Tryz.prog 89 (wq63 k):=by
 intro ps hp R K r h
 have h:wq63 k ps hp K=some r:=h
 unfold wq63 at h
 split at h
 ·rw[←wqol]at h
  exact fnW_ok ⟨tyT_ok,(wq4 (wq59 k) (wq4 (wq1i k) CTab.nil_ok)),fun _ _=>rfl⟩ mixed (by kernel_rfl) (by kernel_rfl) h fun o ho=>by unfold wqew at ho;split at ho<;>first|exact ho|cases ho
 ·cases h
end Go.Proofs.YtbjkpddloieekaaGreatDoor.Pvm
end
noncomputable section
namespace Go.Proofs.YtbjkpddloieekaaGreatDoor.Pvm
open Go Go.Proofs
def wqqq:List LS:=[.ag [.sl kdT25],.any]
def wqma{R:Type}(K:((List UInt8)→Int→Int→Option R)): Out→Option R
 |.ret [.v .str y0,.agg [.v (.int .i64) y1,.v (.int .i64) y2]] []=>K y0 y1 y2
 |_=>none
def wq161:RetSpec:=⟨[.any,.ag [.any,.any]],[],[]⟩
def wq162(k:Nat): Ctx:=⟨tyT,[],(.add 31 wq6c (wq2w k) (.add 33 wq4r (wq1y k) (.add 89 wqqp (wq63 k) .nil))),[],[],[],@SH⟩
def wqxp(k:Nat){R:Type}(x0:(List dT25))(x1:Int)(K:((List UInt8)→Int→Int→Option R)): Option R:=wq5e k x0 x1 (fun y5 y6=>cond y6 (wq85 k y5 x1 K) (wq4s k (fun y7 y8=>K [] y7 y8)))
def wq6e(k:Nat){R:Type}(x0:(List dT25))(x1:Int)(K:((List UInt8)→Int→Int→Option R)): Option R:=wqxp k x0 x1 K
theorem wqzs(k:Nat){R:Type}(x0:(List dT25))(x1:Int)(K:((List UInt8)→Int→Int→Option R)): fnW (wq162 k) k Tryz.f41 wq161 [.agg [.v kdT28 x0],.v kI x1] [] (wqma K)=wq6e k x0 x1 K:=by
 kernel_rfl
def wqd5(k:Nat){R:Type}: List PV→List (Nm×HObj)→(Out→Option R)→Option R
 |[.agg [.v (.sl (.pr (.int .i64) (.pr (.int .i64) (.pr .str (.pr .bool (.pr (.sl .str) (.sl (.int .i64)))))))) x0],.v (.int .i64) x1],[],K=>wq6e k x0 x1 (fun y0 y1 y2=>K (.ret [.v .str y0,.agg [.v (.int .i64) y1,.v (.int .i64) y2]] []))
 |_,_,_=>none
theorem wq18z(k:Nat): DOK Tryz.prog 41 (wqd5 k):=by
 intro ps hp R K r h
 have h:wqd5 k ps hp K=some r:=h
 unfold wqd5 at h
 split at h
 ·rw[←wqzs]at h
  exact fnW_ok ⟨tyT_ok,(wq4 (wqbs k) (wq4 (wq8m k) (wq4 (wqvd k) CTab.nil_ok))),fun _ _=>rfl⟩ mixed (by kernel_rfl) (by kernel_rfl) h fun o ho=>by unfold wqma at ho;split at ho<;>first|exact ho|cases ho
 ·cases h
end Go.Proofs.YtbjkpddloieekaaGreatDoor.Pvm
end
noncomputable section
namespace Go.Proofs.YtbjkpddloieekaaGreatDoor.Pvm
open Go Go.Proofs
def wqex:List LS:=[.ag [.sl kdT25],.any,.any]
def wqup{R:Type}(K:(Int→Int→Option R)): Out→Option R
 |.ret [.agg [.v (.int .i64) y0,.v (.int .i64) y1]] []=>K y0 y1
 |_=>none
def wq1bv:RetSpec:=⟨[.ag [.any,.any]],[],[]⟩
def wq1bw(k:Nat): Ctx:=⟨tyT,[],.nil,[],[],[],@SH⟩
def wq163(k:Nat){R:Type}(x0:(List dT25))(x1 x2:Int)(K:(Int→Int→Option R)): Option R:=cond (inb x1 (x0.length:Int)) (K x2 ((x0.getD x1.toNat (Kd.zero (@Kd.pr kI (@Kd.pr kI (@Kd.pr Kd.str (@Kd.pr Kd.bool (@Kd.pr (@Kd.sl Kd.str) (@Kd.sl kI)))))))).2).1) none
def wq30(k:Nat){R:Type}(x0:(List dT25))(x1 x2:Int)(K:(Int→Int→Option R)): Option R:=wq163 k x0 x1 x2 K
theorem wq164(k:Nat){R:Type}(x0:(List dT25))(x1 x2:Int)(K:(Int→Int→Option R)): fnW (wq1bw k) k Tryz.f145 wq1bv [.agg [.v kdT28 x0],.v kI x1,.v kI x2] [] (wqup K)=wq30 k x0 x1 x2 K:=by
 kernel_rfl
def wq6f(k:Nat){R:Type}: List PV→List (Nm×HObj)→(Out→Option R)→Option R
 |[.agg [.v (.sl (.pr (.int .i64) (.pr (.int .i64) (.pr .str (.pr .bool (.pr (.sl .str) (.sl (.int .i64)))))))) x0],.v (.int .i64) x1,.v (.int .i64) x2],[],K=>wq30 k x0 x1 x2 (fun y0 y1=>K (.ret [.agg [.v (.int .i64) y0,.v (.int .i64) y1]] []))
 |_,_,_=>none
theorem wqk9(k:Nat): DOK Tryz.prog 145 (wq6f k):=by
 intro ps hp R K r h
 have h:wq6f k ps hp K=some r:=h
 unfold wq6f at h
 split at h
 ·rw[←wq164]at h
  exact fnW_ok ⟨tyT_ok,CTab.nil_ok,fun _ _=>rfl⟩ mixed (by kernel_rfl) (by kernel_rfl) h fun o ho=>by unfold wqup at ho;split at ho<;>first|exact ho|cases ho
 ·cases h
end Go.Proofs.YtbjkpddloieekaaGreatDoor.Pvm
end
noncomputable section
namespace Go.Proofs.YtbjkpddloieekaaGreatDoor.Pvm
open Go Go.Proofs
def wqxq:List LS:=[.ag [.sl kdT25],.any]
def wqiw{R:Type}(K:(Bool→Int→Int→Option R)): Out→Option R
 |.ret [.v .bool y0,.agg [.v (.int .i64) y1,.v (.int .i64) y2]] []=>K y0 y1 y2
 |_=>none
def wqzt:RetSpec:=⟨[.any,.ag [.any,.any]],[],[]⟩
def wqzu(k:Nat): Ctx:=⟨tyT,[],(.add 145 wqex (wq6f k) .nil),[],[],[],@SH⟩
def wqqr(k:Nat){R:Type}(x0:(List dT25))(x1:Int)(K:(Bool→Int→Int→Option R)): Option R:=cond (inb x1 (x0.length:Int)) (cond ((x0.getD x1.toNat (Kd.zero (@Kd.pr kI (@Kd.pr kI (@Kd.pr Kd.str (@Kd.pr Kd.bool (@Kd.pr (@Kd.sl Kd.str) (@Kd.sl kI)))))))).1 != 1) (wq30 k x0 x1 11 (fun y5 y6=>K false y5 y6)) (cond (cond ((((x0.getD x1.toNat (Kd.zero (@Kd.pr kI (@Kd.pr kI (@Kd.pr Kd.str (@Kd.pr Kd.bool (@Kd.pr (@Kd.sl Kd.str) (@Kd.sl kI)))))))).2).2).2).1 true (cond (!((((x0.getD x1.toNat (Kd.zero (@Kd.pr kI (@Kd.pr kI (@Kd.pr Kd.str (@Kd.pr Kd.bool (@Kd.pr (@Kd.sl Kd.str) (@Kd.sl kI)))))))).2).2).1 == [(116:UInt8),114,117,101])) (!((((x0.getD x1.toNat (Kd.zero (@Kd.pr kI (@Kd.pr kI (@Kd.pr Kd.str (@Kd.pr Kd.bool (@Kd.pr (@Kd.sl Kd.str) (@Kd.sl kI)))))))).2).2).1 == [(102:UInt8),97,108,115,101])) false)) (wq30 k x0 x1 14 (fun y5 y6=>K false y5 y6)) (K ((((x0.getD x1.toNat (Kd.zero (@Kd.pr kI (@Kd.pr kI (@Kd.pr Kd.str (@Kd.pr Kd.bool (@Kd.pr (@Kd.sl Kd.str) (@Kd.sl kI)))))))).2).2).1 == [(116:UInt8),114,117,101]) 0 0))) none
def wqd6(k:Nat){R:Type}(x0:(List dT25))(x1:Int)(K:(Bool→Int→Int→Option R)): Option R:=wqqr k x0 x1 K
theorem wqve(k:Nat){R:Type}(x0:(List dT25))(x1:Int)(K:(Bool→Int→Int→Option R)): fnW (wqzu k) k Tryz.f85 wqzt [.agg [.v kdT28 x0],.v kI x1] [] (wqiw K)=wqd6 k x0 x1 K:=by
 kernel_rfl
def wq9k(k:Nat){R:Type}: List PV→List (Nm×HObj)→(Out→Option R)→Option R
 |[.agg [.v (.sl (.pr (.int .i64) (.pr (.int .i64) (.pr .str (.pr .bool (.pr (.sl .str) (.sl (.int .i64)))))))) x0],.v (.int .i64) x1],[],K=>wqd6 k x0 x1 (fun y0 y1 y2=>K (.ret [.v .bool y0,.agg [.v (.int .i64) y1,.v (.int .i64) y2]] []))
 |_,_,_=>none
theorem wq12w(k:Nat): DOK Tryz.prog 85 (wq9k k):=by
 intro ps hp R K r h
 have h:wq9k k ps hp K=some r:=h
 unfold wq9k at h
 split at h
 ·rw[←wqve]at h
  exact fnW_ok ⟨tyT_ok,(wq4 (wqk9 k) CTab.nil_ok),fun _ _=>rfl⟩ mixed (by kernel_rfl) (by kernel_rfl) h fun o ho=>by unfold wqiw at ho;split at ho<;>first|exact ho|cases ho
 ·cases h
end Go.Proofs.YtbjkpddloieekaaGreatDoor.Pvm
end
noncomputable section
namespace Go.Proofs.YtbjkpddloieekaaGreatDoor.Pvm
open Go Go.Proofs
def wqqs:List LS:=[.any]
def wqmb{R:Type}(K:(Bool→Option R)): Out→Option R
 |.ret [.v .bool y0] []=>K y0
 |_=>none
def wq165:RetSpec:=⟨[.any],[],[]⟩
def wq166(k:Nat): Ctx:=⟨tyT,[],.nil,[],[],[],@SH⟩
def wqxr(k:Nat){R:Type}(x0:Int)(K:(Bool→Option R)): Option R:=K (cond (cond (cond (cond (cond (cond (decide (x0≥97)) (decide (x0≤122)) false) true (cond (decide (x0≥65)) (decide (x0≤90)) false)) true (cond (decide (x0≥48)) (decide (x0≤57)) false)) true (x0 == 95)) true (x0 == 45)) true (x0 == 46))
def wqal(k:Nat){R:Type}(x0:Int)(K:(Bool→Option R)): Option R:=wqxr k x0 K
theorem wqzv(k:Nat){R:Type}(x0:Int)(K:(Bool→Option R)): fnW (wq166 k) k Tryz.f202 wq165 [.v (.int .u8) x0] [] (wqmb K)=wqal k x0 K:=by
 kernel_rfl
def wq9l(k:Nat){R:Type}: List PV→List (Nm×HObj)→(Out→Option R)→Option R
 |[.v (.int .u8) x0],[],K=>wqal k x0 (fun y0=>K (.ret [.v .bool y0] []))
 |_,_,_=>none
theorem wqxs(k:Nat): DOK Tryz.prog 202 (wq9l k):=by
 intro ps hp R K r h
 have h:wq9l k ps hp K=some r:=h
 unfold wq9l at h
 split at h
 ·rw[←wqzv]at h
  exact fnW_ok ⟨tyT_ok,CTab.nil_ok,fun _ _=>rfl⟩ mixed (by kernel_rfl) (by kernel_rfl) h fun o ho=>by unfold wqmb at ho;split at ho<;>first|exact ho|cases ho
 ·cases h
end Go.Proofs.YtbjkpddloieekaaGreatDoor.Pvm
end
noncomputable section
namespace Go.Proofs.YtbjkpddloieekaaGreatDoor.Pvm
open Go Go.Proofs
def wq167:List LS:=[.any]
def wqd7{R:Type}(K:(Bool→Option R)): Out→Option R
 |.ret [.v .bool y0] []=>K y0
 |_=>none
def wqom:RetSpec:=⟨[.any],[],[]⟩
def wqon(k:Nat): Ctx:=⟨tyT,[(1004,⟨[(0,.any),(3,.any)],[]⟩)],(.add 202 wqqs (wq9l k) .nil),[],[],[],@SH⟩
def wq86(s0:(List UInt8))(s1:Int): St:=⟨mkT [(0,.v .str s0),(3,.v kI s1)],mkH []⟩
def wqey(k:Nat){R:Type}(I:Nat→St→Option R)(n:Nat)(s:St)(K:(Bool→Option R)): Option R:=loopK (wqon k) k Tryz.f230 wqom 1004 [1,1,0,1,0] I n s (wqd7 K)
def wq9m(k:Nat){R:Type}(E1004:((List UInt8)→Int→Option R))(s0:(List UInt8))(s1:Int)(K:(Bool→Option R)): Option R:=cond (decide (s1<(s0.length:Int))) (cond (inb s1 (s0.length:Int)) (wqal k ((s0.getD s1.toNat 0).toNat:Int) (fun y6=>cond (!y6) (K false) (E1004 s0 (@Go.IntKind.wrap Go.IntKind.i64 (s1+1))))) none) (K true)
theorem wqqt(k:Nat){R:Type}(I:Nat→St→Option R)(s0:(List UInt8))(s1:Int)(K:(Bool→Option R)): bodyK (wqon k) k Tryz.f230 wqom [1,1,0,1,0,0] I (wq86 s0 s1) (wqd7 K)=wq9m k (fun s0 s1=>I 1004 (wq86 s0 s1)) s0 s1 K:=by kernel_rfl
def wqth(k:Nat){R:Type}(E1004:((List UInt8)→Int→Option R))(x0:(List UInt8))(K:(Bool→Option R)): Option R:=cond (cond (x0 == []) true (decide ((x0.length:Int)>64))) (K false) (E1004 x0 0)
def wq4e(k:Nat){R:Type}: Nat→(List UInt8)→Int→(Bool→Option R)→Option R
 |0,_,_,_=>none
 |n+1,s0,s1,K=>wq9m k (fun s0 s1=>wq4e k n s0 s1 K) s0 s1 K
theorem wqqu(k:Nat){R:Type}(I:Nat→St→Option R)(K:(Bool→Option R))(n:Nat): ∀(s0:(List UInt8)) (s1:Int),wqey k I n (wq86 s0 s1) K=wq4e k n s0 s1 K:=by
 induction n with
 |zero=>intros;rfl
 |succ n ih =>
  intro s0 s1
  refine(?_:_=_).trans ((wqqt k (upI 1004 (fun s=>wqey k I n s K) I) s0 s1 K).trans ?_)
  ·rfl
  ·simp only[wqy,ih]<;>rfl
def wqh6(k:Nat){R:Type}(x0:(List UInt8))(K:(Bool→Option R)): Option R:=wqth k (fun s0 s1=>wq4e k k s0 s1 K) x0 K
theorem wq12x(k:Nat){R:Type}(x0:(List UInt8))(K:(Bool→Option R)): fnW (wqon k) k Tryz.f230 wqom [.v .str x0] [] (wqd7 K)=wqh6 k x0 K:=by
 refine Eq.trans (b:=wqth k (fun s0 s1=>wqey k (fun _ _=>none) k (wq86 s0 s1) K) x0 K) (by kernel_rfl) ?_
 simp only[wqqu]<;>rfl
def wqfv(k:Nat){R:Type}: List PV→List (Nm×HObj)→(Out→Option R)→Option R
 |[.v .str x0],[],K=>wqh6 k x0 (fun y0=>K (.ret [.v .bool y0] []))
 |_,_,_=>none
theorem wq1bx(k:Nat): DOK Tryz.prog 230 (wqfv k):=by
 intro ps hp R K r h
 have h:wqfv k ps hp K=some r:=h
 unfold wqfv at h
 split at h
 ·rw[←wq12x]at h
  exact fnW_ok ⟨tyT_ok,(wq4 (wqxs k) CTab.nil_ok),fun _ _=>rfl⟩ mixed (by kernel_rfl) (by kernel_rfl) h fun o ho=>by unfold wqd7 at ho;split at ho<;>first|exact ho|cases ho
 ·cases h
end Go.Proofs.YtbjkpddloieekaaGreatDoor.Pvm
end
noncomputable section
namespace Go.Proofs.YtbjkpddloieekaaGreatDoor.Pvm
open Go Go.Proofs
def wq12y:List LS:=[.sl .str]
def wq5j{R:Type}(K:(Bool→Option R)): Out→Option R
 |.ret [.v .bool y0] []=>K y0
 |_=>none
def wqbw:RetSpec:=⟨[.any],[],[]⟩
def wqbx(k:Nat): Ctx:=⟨tyT,[(1002,⟨[(0,.sl .str),(3,.any)],[]⟩),(1007,⟨[(0,.sl .str),(3,.any),(4,.any)],[]⟩)],(.add 230 wq167 (wqfv k) .nil),[],[],[(9,(.of [(0,1),(1,1),(2,1),(4,1),(5,1),(6,1),(3,1),(7,1),(8,1)] .done))],@SH⟩
def wq4f(s0:(List (List UInt8)))(s1:Int): St:=⟨mkT [(0,.v (.sl .str) s0),(3,.v kI s1)],mkH []⟩
def wq71(s0:(List (List UInt8)))(s1 s2:Int): St:=⟨mkT [(0,.v (.sl .str) s0),(3,.v kI s1),(4,.v kI s2)],mkH []⟩
def wqcd(k:Nat){R:Type}(I:Nat→St→Option R)(n:Nat)(s:St)(K:(Bool→Option R)): Option R:=loopK (wqbx k) k Tryz.f197 wqbw 1002 [1,0,1,0] I n s (wq5j K)
def wqce(k:Nat){R:Type}(I:Nat→St→Option R)(n:Nat)(s:St)(K:(Bool→Option R)): Option R:=loopK (wqbx k) k Tryz.f197 wqbw 1007 [1,0,1,0,0,1,0,0,1,1,0] I n s (wq5j K)
def wq87(k:Nat){R:Type}(E1007:((List (List UInt8))→Int→Int→Option R))(s0:(List (List UInt8)))(s1:Int)(K:(Bool→Option R)): Option R:=cond (decide (s1<(s0.length:Int))) (cond (inb s1 (s0.length:Int)) (wqh6 k (s0.getD s1.toNat Kd.str.zero) (fun y7=>cond (!y7) (K false) (E1007 s0 s1 0))) none) (K true)
theorem wqoo(k:Nat){R:Type}(I:Nat→St→Option R)(s0:(List (List UInt8)))(s1:Int)(K:(Bool→Option R)): bodyK (wqbx k) k Tryz.f197 wqbw [1,0,1,0,0] I (wq4f s0 s1) (wq5j K)=wq87 k (fun s0 s1 s2=>wqce k I k (wq71 s0 s1 s2) K) s0 s1 K:=by kernel_rfl
def wq88(k:Nat){R:Type}(E1002:((List (List UInt8))→Int→Option R))(E1007:((List (List UInt8))→Int→Int→Option R))(s0:(List (List UInt8)))(s1 s2:Int)(K:(Bool→Option R)): Option R:=cond (decide (s2<s1)) (cond (inb s2 (s0.length:Int)) (cond (inb s1 (s0.length:Int)) (cond ((s0.getD s2.toNat Kd.str.zero) == (s0.getD s1.toNat Kd.str.zero)) (K false) (E1007 s0 s1 (@Go.IntKind.wrap Go.IntKind.i64 (s2+1)))) none) none) (E1002 s0 (@Go.IntKind.wrap Go.IntKind.i64 (s1+1)))
theorem wqop(k:Nat){R:Type}(I:Nat→St→Option R)(s0:(List (List UInt8)))(s1 s2:Int)(K:(Bool→Option R)): bodyK (wqbx k) k Tryz.f197 wqbw [1,0,1,0,0,1,0,0,1,1,0,0] I (wq71 s0 s1 s2) (wq5j K)=wq88 k (fun s0 s1=>I 1002 (wq4f s0 s1)) (fun s0 s1 s2=>I 1007 (wq71 s0 s1 s2)) s0 s1 s2 K:=by kernel_rfl
def wqoq(k:Nat){R:Type}(E1002:((List (List UInt8))→Int→Option R))(x0:(List (List UInt8)))(K:(Bool→Option R)): Option R:=E1002 x0 0
def wq3b(k:Nat){R:Type}(J1002:((List (List UInt8))→Int→Option R)): Nat→(List (List UInt8))→Int→Int→(Bool→Option R)→Option R
 |0,_,_,_,_=>none
 |n+1,s0,s1,s2,K=>wq88 k J1002 (fun s0 s1 s2=>wq3b k J1002 n s0 s1 s2 K) s0 s1 s2 K
theorem wqor(k:Nat){R:Type}(I:Nat→St→Option R)(K:(Bool→Option R))(n:Nat): ∀(s0:(List (List UInt8))) (s1 s2:Int),wqce k I n (wq71 s0 s1 s2) K=wq3b k (fun s0 s1=>I 1002 (wq4f s0 s1)) n s0 s1 s2 K:=by
 induction n with
 |zero=>intros;rfl
 |succ n ih =>
  intro s0 s1 s2
  refine(?_:_=_).trans ((wqop k (upI 1007 (fun s=>wqce k I n s K) I) s0 s1 s2 K).trans ?_)
  ·rfl
  ·simp only[wqy,ih,upI_ne (show Nat.beq 1002 1007=false from rfl)]<;>rfl
def wq2e(k:Nat){R:Type}: Nat→(List (List UInt8))→Int→(Bool→Option R)→Option R
 |0,_,_,_=>none
 |n+1,s0,s1,K=>wq87 k (fun s0 s1 s2=>wq3b k (fun s0 s1=>wq2e k n s0 s1 K) k s0 s1 s2 K) s0 s1 K
theorem wqos(k:Nat){R:Type}(I:Nat→St→Option R)(K:(Bool→Option R))(n:Nat): ∀(s0:(List (List UInt8))) (s1:Int),wqcd k I n (wq4f s0 s1) K=wq2e k n s0 s1 K:=by
 induction n with
 |zero=>intros;rfl
 |succ n ih =>
  intro s0 s1
  refine(?_:_=_).trans ((wqoo k (upI 1002 (fun s=>wqcd k I n s K) I) s0 s1 K).trans ?_)
  ·rfl
  ·simp only[wqy,ih,wqor]<;>rfl
def wqez(k:Nat){R:Type}(x0:(List (List UInt8)))(K:(Bool→Option R)): Option R:=wqoq k (fun s0 s1=>wq2e k k s0 s1 K) x0 K
theorem wqzw(k:Nat){R:Type}(x0:(List (List UInt8)))(K:(Bool→Option R)): fnW (wqbx k) k Tryz.f197 wqbw [.v (.sl .str) x0] [] (wq5j K)=wqez k x0 K:=by
 refine Eq.trans (b:=wqoq k (fun s0 s1=>wqcd k (fun _ _=>none) k (wq4f s0 s1) K) x0 K) (by kernel_rfl) ?_
 simp only[wqos]<;>rfl
def wqd8(k:Nat){R:Type}: List PV→List (Nm×HObj)→(Out→Option R)→Option R
 |[.v (.sl .str) x0],[],K=>wqez k x0 (fun y0=>K (.ret [.v .bool y0] []))
 |_,_,_=>none
theorem wq190(k:Nat): DOK Tryz.prog 197 (wqd8 k):=by
 intro ps hp R K r h
 have h:wqd8 k ps hp K=some r:=h
 unfold wqd8 at h
 split at h
 ·rw[←wqzw]at h
  exact fnW_ok ⟨tyT_ok,(wq4 (wq1bx k) CTab.nil_ok),fun _ _=>rfl⟩ mixed (by kernel_rfl) (by kernel_rfl) h fun o ho=>by unfold wq5j at ho;split at ho<;>first|exact ho|cases ho
 ·cases h
end Go.Proofs.YtbjkpddloieekaaGreatDoor.Pvm
end
noncomputable section
namespace Go.Proofs.YtbjkpddloieekaaGreatDoor.Pvm
open Go Go.Proofs
def wqxt:List LS:=[.any,.any]
def wq89{R:Type}(K:(Int→Option R)): Out→Option R
 |.ret [.v (.int .i64) y0] []=>K y0
 |_=>none
def wqgl:RetSpec:=⟨[.any],[],[]⟩
def wqgm(k:Nat): Ctx:=⟨tyT,[(1002,⟨[(0,.any),(1,.any),(5,.any)],[]⟩)],.nil,[],[],[],@SH⟩
def wq53(s0:(List UInt8))(s1 s2:Int): St:=⟨mkT [(0,.v .str s0),(1,.v kI s1),(5,.v kI s2)],mkH []⟩
def wq9n(k:Nat){R:Type}(I:Nat→St→Option R)(n:Nat)(s:St)(K:(Int→Option R)): Option R:=loopK (wqgm k) k Tryz.f160 wqgl 1002 [1,1,0,0] I n s (wq89 K)
def wq64(k:Nat){R:Type}(E1002:((List UInt8)→Int→Int→Option R))(s0:(List UInt8))(s1 s2:Int)(K:(Int→Option R)): Option R:=cond ((!((decide ((@Go.IntKind.wrap Go.IntKind.i64 (s1+s2))<(s0.length:Int))) == true)) || (inb (@Go.IntKind.wrap Go.IntKind.i64 (s1+s2)) (s0.length:Int))) (cond (cond (decide ((@Go.IntKind.wrap Go.IntKind.i64 (s1+s2))<(s0.length:Int))) (((s0.getD (@Go.IntKind.wrap Go.IntKind.i64 (s1+s2)).toNat 0).toNat:Int) == 32) false) (E1002 s0 s1 (@Go.IntKind.wrap Go.IntKind.i64 (s2+1))) (K s2)) none
theorem wqka(k:Nat){R:Type}(I:Nat→St→Option R)(s0:(List UInt8))(s1 s2:Int)(K:(Int→Option R)): bodyK (wqgm k) k Tryz.f160 wqgl [1,1,0,0,0] I (wq53 s0 s1 s2) (wq89 K)=wq64 k (fun s0 s1 s2=>I 1002 (wq53 s0 s1 s2)) s0 s1 s2 K:=by kernel_rfl
def wqi1(k:Nat){R:Type}(E1002:((List UInt8)→Int→Int→Option R))(x0:(List UInt8))(x1:Int)(K:(Int→Option R)): Option R:=E1002 x0 x1 0
def wq2a(k:Nat){R:Type}: Nat→(List UInt8)→Int→Int→(Int→Option R)→Option R
 |0,_,_,_,_=>none
 |n+1,s0,s1,s2,K=>wq64 k (fun s0 s1 s2=>wq2a k n s0 s1 s2 K) s0 s1 s2 K
theorem wqkb(k:Nat){R:Type}(I:Nat→St→Option R)(K:(Int→Option R))(n:Nat): ∀(s0:(List UInt8)) (s1 s2:Int),wq9n k I n (wq53 s0 s1 s2) K=wq2a k n s0 s1 s2 K:=by
 induction n with
 |zero=>intros;rfl
 |succ n ih =>
  intro s0 s1 s2
  refine(?_:_=_).trans ((wqka k (upI 1002 (fun s=>wq9n k I n s K) I) s0 s1 s2 K).trans ?_)
  ·rfl
  ·simp only[wqy,ih]<;>rfl
def wq54(k:Nat){R:Type}(x0:(List UInt8))(x1:Int)(K:(Int→Option R)): Option R:=wqi1 k (fun s0 s1 s2=>wq2a k k s0 s1 s2 K) x0 x1 K
theorem wqvf(k:Nat){R:Type}(x0:(List UInt8))(x1:Int)(K:(Int→Option R)): fnW (wqgm k) k Tryz.f160 wqgl [.v .str x0,.v kI x1] [] (wq89 K)=wq54 k x0 x1 K:=by
 refine Eq.trans (b:=wqi1 k (fun s0 s1 s2=>wq9n k (fun _ _=>none) k (wq53 s0 s1 s2) K) x0 x1 K) (by kernel_rfl) ?_
 simp only[wqkb]<;>rfl
def wq9o(k:Nat){R:Type}: List PV→List (Nm×HObj)→(Out→Option R)→Option R
 |[.v .str x0,.v (.int .i64) x1],[],K=>wq54 k x0 x1 (fun y0=>K (.ret [.v (.int .i64) y0] []))
 |_,_,_=>none
theorem wq12z(k:Nat): DOK Tryz.prog 160 (wq9o k):=by
 intro ps hp R K r h
 have h:wq9o k ps hp K=some r:=h
 unfold wq9o at h
 split at h
 ·rw[←wqvf]at h
  exact fnW_ok ⟨tyT_ok,CTab.nil_ok,fun _ _=>rfl⟩ mixed (by kernel_rfl) (by kernel_rfl) h fun o ho=>by unfold wq89 at ho;split at ho<;>first|exact ho|cases ho
 ·cases h
end Go.Proofs.YtbjkpddloieekaaGreatDoor.Pvm
end
noncomputable section
namespace Go.Proofs.YtbjkpddloieekaaGreatDoor.Pvm
open Go Go.Proofs
def wqxu:List LS:=[.any]
def wqix{R:Type}(K:(Bool→Option R)): Out→Option R
 |.ret [.v .bool y0] []=>K y0
 |_=>none
def wqzx:RetSpec:=⟨[.any],[],[]⟩
def wqzy(k:Nat): Ctx:=⟨tyT,[],.nil,[],[],[],@SH⟩
def wqqv(k:Nat){R:Type}(x0:(List UInt8))(K:(Bool→Option R)): Option R:=cond ((!((decide ((x0.length:Int)>0)) == true)) || (inb 0 (x0.length:Int))) (cond ((!(((cond (decide ((x0.length:Int)>0)) (((x0.getD (Int.toNat 0) 0).toNat:Int) == 45) false) == true)&&(((x0.length:Int) == 1) == false))) || (inb 1 (x0.length:Int))) (K (cond (cond (decide ((x0.length:Int)>0)) (((x0.getD (Int.toNat 0) 0).toNat:Int) == 45) false) (cond ((x0.length:Int) == 1) true (((x0.getD (Int.toNat 1) 0).toNat:Int) == 32)) false)) none) none
def wq55(k:Nat){R:Type}(x0:(List UInt8))(K:(Bool→Option R)): Option R:=wqqv k x0 K
theorem wqvg(k:Nat){R:Type}(x0:(List UInt8))(K:(Bool→Option R)): fnW (wqzy k) k Tryz.f161 wqzx [.v .str x0] [] (wqix K)=wq55 k x0 K:=by
 kernel_rfl
def wq9p(k:Nat){R:Type}: List PV→List (Nm×HObj)→(Out→Option R)→Option R
 |[.v .str x0],[],K=>wq55 k x0 (fun y0=>K (.ret [.v .bool y0] []))
 |_,_,_=>none
theorem wq130(k:Nat): DOK Tryz.prog 161 (wq9p k):=by
 intro ps hp R K r h
 have h:wq9p k ps hp K=some r:=h
 unfold wq9p at h
 split at h
 ·rw[←wqvg]at h
  exact fnW_ok ⟨tyT_ok,CTab.nil_ok,fun _ _=>rfl⟩ mixed (by kernel_rfl) (by kernel_rfl) h fun o ho=>by unfold wqix at ho;split at ho<;>first|exact ho|cases ho
 ·cases h
end Go.Proofs.YtbjkpddloieekaaGreatDoor.Pvm
end
noncomputable section
namespace Go.Proofs.YtbjkpddloieekaaGreatDoor.Pvm
open Go Go.Proofs
def wqzz:List LS:=[.any]
def wq9q{R:Type}(K:(Int→Option R)): Out→Option R
 |.ret [.v (.int .i64) y0] []=>K y0
 |_=>none
def wqi2:RetSpec:=⟨[.any],[],[]⟩
def wqi3(k:Nat): Ctx:=⟨tyT,[(1002,⟨[(0,.any),(3,.any)],[]⟩)],(.add 202 wqqs (wq9l k) .nil),[],[],[],@SH⟩
def wq65(s0:(List UInt8))(s1:Int): St:=⟨mkT [(0,.v .str s0),(3,.v kI s1)],mkH []⟩
def wqam(k:Nat){R:Type}(I:Nat→St→Option R)(n:Nat)(s:St)(K:(Int→Option R)): Option R:=loopK (wqi3 k) k Tryz.f162 wqi2 1002 [1,1,0,0] I n s (wq9q K)
def wq72(k:Nat){R:Type}(E1002:((List UInt8)→Int→Option R))(s0:(List UInt8))(s1:Int)(K:(Int→Option R)): Option R:=cond ((!((decide (s1<(s0.length:Int))) == true)) || (inb s1 (s0.length:Int))) (cond ((decide (s1<(s0.length:Int))) == true) (wqal k ((s0.getD s1.toNat 0).toNat:Int) (fun y6=>cond y6 (E1002 s0 (@Go.IntKind.wrap Go.IntKind.i64 (s1+1))) (cond ((!((cond (s1 == 0) true (decide (s1≥(s0.length:Int)))) == false)) || (inb s1 (s0.length:Int))) (cond ((!(((cond (cond (s1 == 0) true (decide (s1≥(s0.length:Int)))) true (((s0.getD s1.toNat 0).toNat:Int) != 58)) == false)&&((decide ((@Go.IntKind.wrap Go.IntKind.i64 (s1+1))<(s0.length:Int))) == true))) || (inb (@Go.IntKind.wrap Go.IntKind.i64 (s1+1)) (s0.length:Int))) (cond (cond (cond (cond (s1 == 0) true (decide (s1≥(s0.length:Int)))) true (((s0.getD s1.toNat 0).toNat:Int) != 58)) true (cond (decide ((@Go.IntKind.wrap Go.IntKind.i64 (s1+1))<(s0.length:Int))) (((s0.getD (@Go.IntKind.wrap Go.IntKind.i64 (s1+1)).toNat 0).toNat:Int) != 32) false)) (K 0) (K s1)) none) none))) (cond ((!((cond (s1 == 0) true (decide (s1≥(s0.length:Int)))) == false)) || (inb s1 (s0.length:Int))) (cond ((!(((cond (cond (s1 == 0) true (decide (s1≥(s0.length:Int)))) true (((s0.getD s1.toNat 0).toNat:Int) != 58)) == false)&&((decide ((@Go.IntKind.wrap Go.IntKind.i64 (s1+1))<(s0.length:Int))) == true))) || (inb (@Go.IntKind.wrap Go.IntKind.i64 (s1+1)) (s0.length:Int))) (cond (cond (cond (cond (s1 == 0) true (decide (s1≥(s0.length:Int)))) true (((s0.getD s1.toNat 0).toNat:Int) != 58)) true (cond (decide ((@Go.IntKind.wrap Go.IntKind.i64 (s1+1))<(s0.length:Int))) (((s0.getD (@Go.IntKind.wrap Go.IntKind.i64 (s1+1)).toNat 0).toNat:Int) != 32) false)) (K 0) (K s1)) none) none)) none
theorem wqlj(k:Nat){R:Type}(I:Nat→St→Option R)(s0:(List UInt8))(s1:Int)(K:(Int→Option R)): bodyK (wqi3 k) k Tryz.f162 wqi2 [1,1,0,0,0] I (wq65 s0 s1) (wq9q K)=wq72 k (fun s0 s1=>I 1002 (wq65 s0 s1)) s0 s1 K:=by kernel_rfl
def wqkc(k:Nat){R:Type}(E1002:((List UInt8)→Int→Option R))(x0:(List UInt8))(K:(Int→Option R)): Option R:=E1002 x0 0
def wq2o(k:Nat){R:Type}: Nat→(List UInt8)→Int→(Int→Option R)→Option R
 |0,_,_,_=>none
 |n+1,s0,s1,K=>wq72 k (fun s0 s1=>wq2o k n s0 s1 K) s0 s1 K
theorem wqlk(k:Nat){R:Type}(I:Nat→St→Option R)(K:(Int→Option R))(n:Nat): ∀(s0:(List UInt8)) (s1:Int),wqam k I n (wq65 s0 s1) K=wq2o k n s0 s1 K:=by
 induction n with
 |zero=>intros;rfl
 |succ n ih =>
  intro s0 s1
  refine(?_:_=_).trans ((wqlj k (upI 1002 (fun s=>wqam k I n s K) I) s0 s1 K).trans ?_)
  ·rfl
  ·simp only[wqy,ih]<;>rfl
def wq4l(k:Nat){R:Type}(x0:(List UInt8))(K:(Int→Option R)): Option R:=wqkc k (fun s0 s1=>wq2o k k s0 s1 K) x0 K
theorem wqxv(k:Nat){R:Type}(x0:(List UInt8))(K:(Int→Option R)): fnW (wqi3 k) k Tryz.f162 wqi2 [.v .str x0] [] (wq9q K)=wq4l k x0 K:=by
 refine Eq.trans (b:=wqkc k (fun s0 s1=>wqam k (fun _ _=>none) k (wq65 s0 s1) K) x0 K) (by kernel_rfl) ?_
 simp only[wqlk]<;>rfl
def wqb7(k:Nat){R:Type}: List PV→List (Nm×HObj)→(Out→Option R)→Option R
 |[.v .str x0],[],K=>wq4l k x0 (fun y0=>K (.ret [.v (.int .i64) y0] []))
 |_,_,_=>none
theorem wq168(k:Nat): DOK Tryz.prog 162 (wqb7 k):=by
 intro ps hp R K r h
 have h:wqb7 k ps hp K=some r:=h
 unfold wqb7 at h
 split at h
 ·rw[←wqxv]at h
  exact fnW_ok ⟨tyT_ok,(wq4 (wqxs k) CTab.nil_ok),fun _ _=>rfl⟩ mixed (by kernel_rfl) (by kernel_rfl) h fun o ho=>by unfold wq9q at ho;split at ho<;>first|exact ho|cases ho
 ·cases h
end Go.Proofs.YtbjkpddloieekaaGreatDoor.Pvm
end
noncomputable section
namespace Go.Proofs.YtbjkpddloieekaaGreatDoor.Pvm
open Go Go.Proofs
def wq100:List LS:=[.any]
def wqkd{R:Type}(K:(Int→Option R)): Out→Option R
 |.ret [.v (.int .i64) y0] []=>K y0
 |_=>none
def wq131:RetSpec:=⟨[.any],[],[]⟩
def wq132(k:Nat): Ctx:=⟨tyT,[],.nil,[],[],[],@SH⟩
def wquq(k:Nat){R:Type}(x0:Int)(K:(Int→Option R)): Option R:=cond (cond (decide (x0≥48)) (decide (x0≤57)) false) (K (@Go.IntKind.wrap Go.IntKind.i64 (@Go.IntKind.wrap Go.IntKind.u8 (x0-48)))) (cond (cond (decide (x0≥97)) (decide (x0≤102)) false) (K (@Go.IntKind.wrap Go.IntKind.i64 ((@Go.IntKind.wrap Go.IntKind.i64 (@Go.IntKind.wrap Go.IntKind.u8 (x0-97)))+10))) (K (@Neg.neg Int @Int.instNegInt (1:Int))))
def wq4m(k:Nat){R:Type}(x0:Int)(K:(Int→Option R)): Option R:=wquq k x0 K
theorem wqxw(k:Nat){R:Type}(x0:Int)(K:(Int→Option R)): fnW (wq132 k) k Tryz.f203 wq131 [.v (.int .u8) x0] [] (wqkd K)=wq4m k x0 K:=by
 kernel_rfl
def wqb8(k:Nat){R:Type}: List PV→List (Nm×HObj)→(Out→Option R)→Option R
 |[.v (.int .u8) x0],[],K=>wq4m k x0 (fun y0=>K (.ret [.v (.int .i64) y0] []))
 |_,_,_=>none
theorem wq169(k:Nat): DOK Tryz.prog 203 (wqb8 k):=by
 intro ps hp R K r h
 have h:wqb8 k ps hp K=some r:=h
 unfold wqb8 at h
 split at h
 ·rw[←wqxw]at h
  exact fnW_ok ⟨tyT_ok,CTab.nil_ok,fun _ _=>rfl⟩ mixed (by kernel_rfl) (by kernel_rfl) h fun o ho=>by unfold wqkd at ho;split at ho<;>first|exact ho|cases ho
 ·cases h
end Go.Proofs.YtbjkpddloieekaaGreatDoor.Pvm
end
noncomputable section
namespace Go.Proofs.YtbjkpddloieekaaGreatDoor.Pvm
open Go Go.Proofs
def wq101:List LS:=[.any]
def wq9r{R:Type}(K:((List UInt8)→Bool→Option R)): Out→Option R
 |.ret [.v .str y0,.v .bool y1] []=>K y0 y1
 |_=>none
def wqi4:RetSpec:=⟨[.any,.any],[],[]⟩
def wqi5(k:Nat): Ctx:=⟨tyT,[(1004,⟨[(0,.any),(4,.own 100004 5 (.int .u8)),(5,.any),(6,.any)],[]⟩)],(.add 203 wq100 (wqb8 k) .nil),[],[],[(28,(.of [(0,1),(1,1),(2,1),(3,1),(4,1),(7,1),(8,1),(9,1),(10,1),(5,0),(6,1),(11,0),(12,1),(13,0),(14,0),(15,0),(16,1)] .done))],@SH⟩
def wq66(s0:(List UInt8))(s1:(List Int))(s2 s3:Int): St:=⟨mkT [(0,.v .str s0),(4,.row 100004),(5,.v (.int .u8) s2),(6,.v kI s3)],mkH [(100004,.row 5 (.int .u8) s1)]⟩
def wqan(k:Nat){R:Type}(I:Nat→St→Option R)(n:Nat)(s:St)(K:((List UInt8)→Bool→Option R)): Option R:=loopK (wqi5 k) k Tryz.f163 wqi4 1004 [1,1,1,0,1,0] I n s (wq9r K)
def wq2p(k:Nat){R:Type}(E1004:((List UInt8)→(List Int)→Int→Int→Option R))(s0:(List UInt8))(s1:(List Int))(s2 s3:Int)(K:((List UInt8)→Bool→Option R)): Option R:=cond (decide (s3<(s0.length:Int))) (cond (inb s3 (s0.length:Int)) (cond (((s0.getD s3.toNat 0).toNat:Int) == s2) (cond ((!((cond (s2 == 39) (decide ((@Go.IntKind.wrap Go.IntKind.i64 (s3+1))<(s0.length:Int))) false) == true)) || (inb (@Go.IntKind.wrap Go.IntKind.i64 (s3+1)) (s0.length:Int))) (cond (cond (cond (s2 == 39) (decide ((@Go.IntKind.wrap Go.IntKind.i64 (s3+1))<(s0.length:Int))) false) (((s0.getD (@Go.IntKind.wrap Go.IntKind.i64 (s3+1)).toNat 0).toNat:Int) == 39) false) (cond (fits s1.length (@List.length (@Kd.T (@Kd.int Go.IntKind.u8)) [s2]) 1) (E1004 s0 (s1++[s2]) s2 (@Go.IntKind.wrap Go.IntKind.i64 ((@Go.IntKind.wrap Go.IntKind.i64 (s3+1))+1))) none) (K (wq7i s1) (s3 == (@Go.IntKind.wrap Go.IntKind.i64 ((s0.length:Int)-1))))) none) (cond ((!((s2 == 39) == false)) || (inb s3 (s0.length:Int))) (cond (cond (s2 == 39) true (((s0.getD s3.toNat 0).toNat:Int) != 92)) (cond (inb s3 (s0.length:Int)) (cond (fits s1.length (@List.length (@Kd.T (@Kd.int Go.IntKind.u8)) [((s0.getD s3.toNat 0).toNat:Int)]) 1) (E1004 s0 (s1++[((s0.getD s3.toNat 0).toNat:Int)]) s2 (@Go.IntKind.wrap Go.IntKind.i64 (s3+1))) none) none) (cond (decide ((@Go.IntKind.wrap Go.IntKind.i64 (s3+1))≥(s0.length:Int))) (K [] false) (cond (inb (@Go.IntKind.wrap Go.IntKind.i64 (s3+1)) (s0.length:Int)) (cond (((s0.getD (@Go.IntKind.wrap Go.IntKind.i64 (s3+1)).toNat 0).toNat:Int) == 92) (cond (inb (@Go.IntKind.wrap Go.IntKind.i64 (s3+1)) (s0.length:Int)) (cond (fits s1.length (@List.length (@Kd.T (@Kd.int Go.IntKind.u8)) [((s0.getD (@Go.IntKind.wrap Go.IntKind.i64 (s3+1)).toNat 0).toNat:Int)]) 1) (E1004 s0 (s1++[((s0.getD (@Go.IntKind.wrap Go.IntKind.i64 (s3+1)).toNat 0).toNat:Int)]) s2 (@Go.IntKind.wrap Go.IntKind.i64 ((@Go.IntKind.wrap Go.IntKind.i64 (s3+1))+1))) none) none) (cond (((s0.getD (@Go.IntKind.wrap Go.IntKind.i64 (s3+1)).toNat 0).toNat:Int) == 34) (cond (inb (@Go.IntKind.wrap Go.IntKind.i64 (s3+1)) (s0.length:Int)) (cond (fits s1.length (@List.length (@Kd.T (@Kd.int Go.IntKind.u8)) [((s0.getD (@Go.IntKind.wrap Go.IntKind.i64 (s3+1)).toNat 0).toNat:Int)]) 1) (E1004 s0 (s1++[((s0.getD (@Go.IntKind.wrap Go.IntKind.i64 (s3+1)).toNat 0).toNat:Int)]) s2 (@Go.IntKind.wrap Go.IntKind.i64 ((@Go.IntKind.wrap Go.IntKind.i64 (s3+1))+1))) none) none) (cond (((s0.getD (@Go.IntKind.wrap Go.IntKind.i64 (s3+1)).toNat 0).toNat:Int) == 110) (cond (fits s1.length ([(10:Int)]).length 1) (E1004 s0 (s1++[10]) s2 (@Go.IntKind.wrap Go.IntKind.i64 ((@Go.IntKind.wrap Go.IntKind.i64 (s3+1))+1))) none) (cond (((s0.getD (@Go.IntKind.wrap Go.IntKind.i64 (s3+1)).toNat 0).toNat:Int) == 116) (cond (fits s1.length ([(9:Int)]).length 1) (E1004 s0 (s1++[9]) s2 (@Go.IntKind.wrap Go.IntKind.i64 ((@Go.IntKind.wrap Go.IntKind.i64 (s3+1))+1))) none) (cond (((s0.getD (@Go.IntKind.wrap Go.IntKind.i64 (s3+1)).toNat 0).toNat:Int) == 120) (cond ((!((decide ((@Go.IntKind.wrap Go.IntKind.i64 ((@Go.IntKind.wrap Go.IntKind.i64 (s3+1))+2))≥(s0.length:Int))) == false)) || (inb (@Go.IntKind.wrap Go.IntKind.i64 ((@Go.IntKind.wrap Go.IntKind.i64 (s3+1))+1)) (s0.length:Int))) (cond ((decide ((@Go.IntKind.wrap Go.IntKind.i64 ((@Go.IntKind.wrap Go.IntKind.i64 (s3+1))+2))≥(s0.length:Int))) == false) (wq4m k ((s0.getD (@Go.IntKind.wrap Go.IntKind.i64 ((@Go.IntKind.wrap Go.IntKind.i64 (s3+1))+1)).toNat 0).toNat:Int) (fun y8=>cond ((!((decide (y8<0)) == false)) || (inb (@Go.IntKind.wrap Go.IntKind.i64 ((@Go.IntKind.wrap Go.IntKind.i64 (s3+1))+2)) (s0.length:Int))) (cond ((decide (y8<0)) == false) (wq4m k ((s0.getD (@Go.IntKind.wrap Go.IntKind.i64 ((@Go.IntKind.wrap Go.IntKind.i64 (s3+1))+2)).toNat 0).toNat:Int) (fun y9=>cond (decide (y9<0)) (K [] false) (cond (inb (@Go.IntKind.wrap Go.IntKind.i64 ((@Go.IntKind.wrap Go.IntKind.i64 (s3+1))+1)) (s0.length:Int)) (cond (inb (@Go.IntKind.wrap Go.IntKind.i64 ((@Go.IntKind.wrap Go.IntKind.i64 (s3+1))+2)) (s0.length:Int)) (wq4m k ((s0.getD (@Go.IntKind.wrap Go.IntKind.i64 ((@Go.IntKind.wrap Go.IntKind.i64 (s3+1))+1)).toNat 0).toNat:Int) (fun y10=>wq4m k ((s0.getD (@Go.IntKind.wrap Go.IntKind.i64 ((@Go.IntKind.wrap Go.IntKind.i64 (s3+1))+2)).toNat 0).toNat:Int) (fun y11=>cond (fits s1.length (@List.length (@Kd.T (@Kd.int Go.IntKind.u8)) [(@Go.IntKind.wrap Go.IntKind.u8 (@Go.IntKind.wrap Go.IntKind.i64 ((@Go.IntKind.wrap Go.IntKind.i64 ((16:Int)*y10))+y11)))]) 1) (E1004 s0 (s1++[(@Go.IntKind.wrap Go.IntKind.u8 (@Go.IntKind.wrap Go.IntKind.i64 ((@Go.IntKind.wrap Go.IntKind.i64 ((16:Int)*y10))+y11)))]) s2 (@Go.IntKind.wrap Go.IntKind.i64 ((@Go.IntKind.wrap Go.IntKind.i64 ((@Go.IntKind.wrap Go.IntKind.i64 (s3+1))+2))+1))) none))) none) none))) (K [] false)) none)) (K [] false)) none) (K [] false)))))) none))) none)) none) (K [] false)
theorem wqll(k:Nat){R:Type}(I:Nat→St→Option R)(s0:(List UInt8))(s1:(List Int))(s2 s3:Int)(K:((List UInt8)→Bool→Option R)): bodyK (wqi5 k) k Tryz.f163 wqi4 [1,1,1,0,1,0,0] I (wq66 s0 s1 s2 s3) (wq9r K)=wq2p k (fun s0 s1 s2 s3=>I 1004 (wq66 s0 s1 s2 s3)) s0 s1 s2 s3 K:=by kernel_rfl
def wqfw(k:Nat){R:Type}(E1004:((List UInt8)→(List Int)→Int→Int→Option R))(x0:(List UInt8))(K:((List UInt8)→Bool→Option R)): Option R:=cond (inb 0 (x0.length:Int)) (E1004 x0 [] ((x0.getD (Int.toNat 0) 0).toNat:Int) 1) none
def wq16(k:Nat){R:Type}: Nat→(List UInt8)→(List Int)→Int→Int→((List UInt8)→Bool→Option R)→Option R
 |0,_,_,_,_,_=>none
 |n+1,s0,s1,s2,s3,K=>wq2p k (fun s0 s1 s2 s3=>wq16 k n s0 s1 s2 s3 K) s0 s1 s2 s3 K
theorem wqlm(k:Nat){R:Type}(I:Nat→St→Option R)(K:((List UInt8)→Bool→Option R))(n:Nat): ∀(s0:(List UInt8)) (s1:(List Int)) (s2 s3:Int),wqan k I n (wq66 s0 s1 s2 s3) K=wq16 k n s0 s1 s2 s3 K:=by
 induction n with
 |zero=>intros;rfl
 |succ n ih =>
  intro s0 s1 s2 s3
  refine(?_:_=_).trans ((wqll k (upI 1004 (fun s=>wqan k I n s K) I) s0 s1 s2 s3 K).trans ?_)
  ·rfl
  ·simp only[wqy,ih]<;>rfl
def wq3n(k:Nat){R:Type}(x0:(List UInt8))(K:((List UInt8)→Bool→Option R)): Option R:=wqfw k (fun s0 s1 s2 s3=>wq16 k k s0 s1 s2 s3 K) x0 K
theorem wqxx(k:Nat){R:Type}(x0:(List UInt8))(K:((List UInt8)→Bool→Option R)): fnW (wqi5 k) k Tryz.f163 wqi4 [.v .str x0] [] (wq9r K)=wq3n k x0 K:=by
 refine Eq.trans (b:=wqfw k (fun s0 s1 s2 s3=>wqan k (fun _ _=>none) k (wq66 s0 s1 s2 s3) K) x0 K) (by kernel_rfl) ?_
 simp only[wqlm]<;>rfl
def wqb9(k:Nat){R:Type}: List PV→List (Nm×HObj)→(Out→Option R)→Option R
 |[.v .str x0],[],K=>wq3n k x0 (fun y0 y1=>K (.ret [.v .str y0,.v .bool y1] []))
 |_,_,_=>none
theorem wq16a(k:Nat): DOK Tryz.prog 163 (wqb9 k):=by
 intro ps hp R K r h
 have h:wqb9 k ps hp K=some r:=h
 unfold wqb9 at h
 split at h
 ·rw[←wqxx]at h
  exact fnW_ok ⟨tyT_ok,(wq4 (wq169 k) CTab.nil_ok),fun _ _=>rfl⟩ mixed (by kernel_rfl) (by kernel_rfl) h fun o ho=>by unfold wq9r at ho;split at ho<;>first|exact ho|cases ho
 ·cases h
end Go.Proofs.YtbjkpddloieekaaGreatDoor.Pvm
end
noncomputable section
namespace Go.Proofs.YtbjkpddloieekaaGreatDoor.Pvm
open Go Go.Proofs
def wq16b:List LS:=[.any]
def wqd9{R:Type}(K:(Bool→Option R)): Out→Option R
 |.ret [.v .bool y0] []=>K y0
 |_=>none
def wqot:RetSpec:=⟨[.any],[],[]⟩
def wqou(k:Nat): Ctx:=⟨tyT,[(1002,⟨[(0,.any),(3,.any)],[]⟩)],.nil,[],[],[],@SH⟩
def wq8a(s0 s1:Int): St:=⟨mkT [(0,.v (.int .u8) s0),(3,.v kI s1)],mkH []⟩
def wqf0(k:Nat){R:Type}(I:Nat→St→Option R)(n:Nat)(s:St)(K:(Bool→Option R)): Option R:=loopK (wqou k) k Tryz.f164 wqot 1002 [1,0,1,0] I n s (wqd9 K)
def wq9s(k:Nat){R:Type}(E1002:(Int→Int→Option R))(s0 s1:Int)(K:(Bool→Option R)): Option R:=cond (decide (s1<14)) (cond (inb s1 (([(91:UInt8),93,123,125,38,42,33,124,62,37,64,44,63,96]).length:Int)) (cond (((([(91:UInt8),93,123,125,38,42,33,124,62,37,64,44,63,96]).getD s1.toNat 0).toNat:Int) == s0) (K true) (E1002 s0 (@Go.IntKind.wrap Go.IntKind.i64 (s1+1)))) none) (K false)
theorem wqqw(k:Nat){R:Type}(I:Nat→St→Option R)(s0 s1:Int)(K:(Bool→Option R)): bodyK (wqou k) k Tryz.f164 wqot [1,0,1,0,0] I (wq8a s0 s1) (wqd9 K)=wq9s k (fun s0 s1=>I 1002 (wq8a s0 s1)) s0 s1 K:=by kernel_rfl
def wqti(k:Nat){R:Type}(E1002:(Int→Int→Option R))(x0:Int)(K:(Bool→Option R)): Option R:=E1002 x0 0
def wq4g(k:Nat){R:Type}: Nat→Int→Int→(Bool→Option R)→Option R
 |0,_,_,_=>none
 |n+1,s0,s1,K=>wq9s k (fun s0 s1=>wq4g k n s0 s1 K) s0 s1 K
theorem wqqx(k:Nat){R:Type}(I:Nat→St→Option R)(K:(Bool→Option R))(n:Nat): ∀(s0 s1:Int),wqf0 k I n (wq8a s0 s1) K=wq4g k n s0 s1 K:=by
 induction n with
 |zero=>intros;rfl
 |succ n ih =>
  intro s0 s1
  refine(?_:_=_).trans ((wqqw k (upI 1002 (fun s=>wqf0 k I n s K) I) s0 s1 K).trans ?_)
  ·rfl
  ·simp only[wqy,ih]<;>rfl
def wqao(k:Nat){R:Type}(x0:Int)(K:(Bool→Option R)): Option R:=wqti k (fun s0 s1=>wq4g k k s0 s1 K) x0 K
theorem wq133(k:Nat){R:Type}(x0:Int)(K:(Bool→Option R)): fnW (wqou k) k Tryz.f164 wqot [.v (.int .u8) x0] [] (wqd9 K)=wqao k x0 K:=by
 refine Eq.trans (b:=wqti k (fun s0 s1=>wqf0 k (fun _ _=>none) k (wq8a s0 s1) K) x0 K) (by kernel_rfl) ?_
 simp only[wqqx]<;>rfl
def wqfx(k:Nat){R:Type}: List PV→List (Nm×HObj)→(Out→Option R)→Option R
 |[.v (.int .u8) x0],[],K=>wqao k x0 (fun y0=>K (.ret [.v .bool y0] []))
 |_,_,_=>none
theorem wq1by(k:Nat): DOK Tryz.prog 164 (wqfx k):=by
 intro ps hp R K r h
 have h:wqfx k ps hp K=some r:=h
 unfold wqfx at h
 split at h
 ·rw[←wq133]at h
  exact fnW_ok ⟨tyT_ok,CTab.nil_ok,fun _ _=>rfl⟩ mixed (by kernel_rfl) (by kernel_rfl) h fun o ho=>by unfold wqd9 at ho;split at ho<;>first|exact ho|cases ho
 ·cases h
end Go.Proofs.YtbjkpddloieekaaGreatDoor.Pvm
end
noncomputable section
namespace Go.Proofs.YtbjkpddloieekaaGreatDoor.Pvm
open Go Go.Proofs
def wq16c:List LS:=[.ag [.any,.any,.any]]
def wqda{R:Type}(K:((List dT158)→Int→Int→Option R)): Out→Option R
 |.ret [.v (.sl (.pr (.int .i64) (.pr (.int .i64) (.pr (.int .i64) (.pr .str .bool))))) y0,.agg [.v (.int .i64) y1,.v (.int .i64) y2]] []=>K y0 y1 y2
 |_=>none
def wqov:RetSpec:=⟨[.sl (.pr (.int .i64) (.pr (.int .i64) (.pr (.int .i64) (.pr .str .bool)))),.ag [.any,.any]],[],[]⟩
def wqow(k:Nat): Ctx:=⟨tyT,[(1006,⟨[(1,.obj 11 [.any,.any,.any]),(3,.obj 13 [.any,.any]),(4,.own 100004 159 kdT158),(5,.any),(6,.any)],[]⟩)],(.add 160 wqxt (wq9o k) (.add 161 wqxu (wq9p k) (.add 162 wqzz (wqb7 k) (.add 163 wq101 (wqb9 k) (.add 164 wq16b (wqfx k) .nil))))),[],[],[(2,(.of [(0,1),(3,1),(1,1),(2,1),(4,0)] .done)),(13,(.of [(0,1),(3,1),(1,1),(2,1),(4,0)] .done)),(14,(.of [(0,1),(1,1),(3,1),(5,1),(7,1),(8,1),(9,1),(10,1),(11,1),(12,1),(2,1),(4,1),(6,1),(13,1),(14,0),(15,0),(16,1)] .done)),(19,(.of [(0,1),(2,1),(4,1),(6,1),(7,1),(8,1),(1,1),(3,1),(5,1),(9,1),(10,0),(11,0)] .done)),(23,(.of [(0,1),(3,1),(1,1),(2,1),(4,0)] .done)),(26,(.of [(0,1),(3,1),(1,1),(2,1),(4,0)] .done)),(28,(.of [(0,1),(3,1),(1,1),(2,1),(4,0)] .done))],@SH⟩
def wq8b(s0 s1:Int)(s2:(List UInt8))(s3 s4:Int)(s5:(List dT158))(s6:(List UInt8))(s7:Int): St:=⟨mkT [(1,.ptr 11 0),(3,.ptr 13 0),(4,.row 100004),(5,.v .str s6),(6,.v kI s7)],mkH [(11,.var 153 [.v kI s0,.v kI s1,.v .str s2]),(13,.var 31 [.v kI s3,.v kI s4]),(100004,.row 159 kdT158 s5)]⟩
def wqf1(k:Nat){R:Type}(I:Nat→St→Option R)(n:Nat)(s:St)(K:((List dT158)→Int→Int→Option R)): Option R:=loopK (wqow k) k Tryz.f109 wqov 1006 [1,1,1,1,1,0,0] I n s (wqda K)
def wqf2(k:Nat){R:Type}(E1006:(Int→Int→(List UInt8)→Int→Int→(List dT158)→(List UInt8)→Int→Option R))(s0 s1:Int)(s2:(List UInt8))(s3 s4:Int)(s5:(List dT158))(s6:(List UInt8))(s7:Int)(K:((List dT158)→Int→Int→Option R)): Option R:=cond (bnd s7 (s6.length:Int) (s6.length:Int)) (wq55 k (cut s6 s7 (s6.length:Int)) (fun y12=>cond y12 (cond (fits s5.length (@List.length (@Kd.T (@Kd.pr kI (@Kd.pr kI (@Kd.pr kI (@Kd.pr Kd.str Kd.bool))))) [((1:Int),(s0,((@Go.IntKind.wrap Go.IntKind.i64 (s1+s7)),([],false))))]) 48) (wq54 k s6 (@Go.IntKind.wrap Go.IntKind.i64 (s7+1)) (fun y13=>E1006 s0 s1 s2 s3 s4 (s5++[(1,(s0,((@Go.IntKind.wrap Go.IntKind.i64 (s1+s7)),([],false))))]) s6 (@Go.IntKind.wrap Go.IntKind.i64 ((@Go.IntKind.wrap Go.IntKind.i64 (s7+1))+y13)))) none) (cond (bnd s7 (s6.length:Int) (s6.length:Int)) (wq4l k (cut s6 s7 (s6.length:Int)) (fun y13=>cond (decide (y13>0)) (cond (decide (y13>64)) (K [] 5 s0) (cond (bnd s7 (@Go.IntKind.wrap Go.IntKind.i64 (s7+y13)) (s6.length:Int)) (cond (fits s5.length (@List.length (@Kd.T (@Kd.pr kI (@Kd.pr kI (@Kd.pr kI (@Kd.pr Kd.str Kd.bool))))) [((2:Int),(s0,((@Go.IntKind.wrap Go.IntKind.i64 (s1+s7)),((cut s6 s7 (@Go.IntKind.wrap Go.IntKind.i64 (s7+y13))),false))))]) 48) (wq54 k s6 (@Go.IntKind.wrap Go.IntKind.i64 ((@Go.IntKind.wrap Go.IntKind.i64 (s7+y13))+1)) (fun y14=>cond (decide ((@Go.IntKind.wrap Go.IntKind.i64 ((@Go.IntKind.wrap Go.IntKind.i64 ((@Go.IntKind.wrap Go.IntKind.i64 (s7+y13))+1))+y14))≥(s6.length:Int))) (K (s5++[(2,(s0,((@Go.IntKind.wrap Go.IntKind.i64 (s1+s7)),((cut s6 s7 (@Go.IntKind.wrap Go.IntKind.i64 (s7+y13))),false))))]) 0 0) (cond (bnd (@Go.IntKind.wrap Go.IntKind.i64 ((@Go.IntKind.wrap Go.IntKind.i64 ((@Go.IntKind.wrap Go.IntKind.i64 (s7+y13))+1))+y14)) (s6.length:Int) (s6.length:Int)) (cond (inb (@Go.IntKind.wrap Go.IntKind.i64 ((@Go.IntKind.wrap Go.IntKind.i64 ((@Go.IntKind.wrap Go.IntKind.i64 (s7+y13))+1))+y14)) (s6.length:Int)) (cond ((!((((s6.getD (@Go.IntKind.wrap Go.IntKind.i64 ((@Go.IntKind.wrap Go.IntKind.i64 ((@Go.IntKind.wrap Go.IntKind.i64 (s7+y13))+1))+y14)).toNat 0).toNat:Int) == 39) == false)) || (inb (@Go.IntKind.wrap Go.IntKind.i64 ((@Go.IntKind.wrap Go.IntKind.i64 ((@Go.IntKind.wrap Go.IntKind.i64 (s7+y13))+1))+y14)) (s6.length:Int))) (cond (cond (((s6.getD (@Go.IntKind.wrap Go.IntKind.i64 ((@Go.IntKind.wrap Go.IntKind.i64 ((@Go.IntKind.wrap Go.IntKind.i64 (s7+y13))+1))+y14)).toNat 0).toNat:Int) == 39) true (((s6.getD (@Go.IntKind.wrap Go.IntKind.i64 ((@Go.IntKind.wrap Go.IntKind.i64 ((@Go.IntKind.wrap Go.IntKind.i64 (s7+y13))+1))+y14)).toNat 0).toNat:Int) == 34)) (cond (bnd (@Go.IntKind.wrap Go.IntKind.i64 ((@Go.IntKind.wrap Go.IntKind.i64 ((@Go.IntKind.wrap Go.IntKind.i64 (s7+y13))+1))+y14)) (s6.length:Int) (s6.length:Int)) (wq3n k (cut s6 (@Go.IntKind.wrap Go.IntKind.i64 ((@Go.IntKind.wrap Go.IntKind.i64 ((@Go.IntKind.wrap Go.IntKind.i64 (s7+y13))+1))+y14)) (s6.length:Int)) (fun y15 y16=>cond (!y16) (K [] 3 s0) (cond (decide ((y15.length:Int)>200)) (K [] 4 s0) (cond (fits (s5++[((2:Int),(s0,((@Go.IntKind.wrap Go.IntKind.i64 (s1+s7)),((cut s6 s7 (@Go.IntKind.wrap Go.IntKind.i64 (s7+y13))),false))))]).length (@List.length (@Kd.T (@Kd.pr kI (@Kd.pr kI (@Kd.pr kI (@Kd.pr Kd.str Kd.bool))))) [((3:Int),(s0,((@Go.IntKind.wrap Go.IntKind.i64 (s1+(@Go.IntKind.wrap Go.IntKind.i64 ((@Go.IntKind.wrap Go.IntKind.i64 ((@Go.IntKind.wrap Go.IntKind.i64 (s7+y13))+1))+y14)))),(y15,true))))]) 48) (K ((s5++[(2,(s0,((@Go.IntKind.wrap Go.IntKind.i64 (s1+s7)),((cut s6 s7 (@Go.IntKind.wrap Go.IntKind.i64 (s7+y13))),false))))])++[(3,(s0,((@Go.IntKind.wrap Go.IntKind.i64 (s1+(@Go.IntKind.wrap Go.IntKind.i64 ((@Go.IntKind.wrap Go.IntKind.i64 ((@Go.IntKind.wrap Go.IntKind.i64 (s7+y13))+1))+y14)))),(y15,true))))]) 0 0) none)))) none) (cond (inb (@Go.IntKind.wrap Go.IntKind.i64 ((@Go.IntKind.wrap Go.IntKind.i64 ((@Go.IntKind.wrap Go.IntKind.i64 (s7+y13))+1))+y14)) (s6.length:Int)) (wqao k ((s6.getD (@Go.IntKind.wrap Go.IntKind.i64 ((@Go.IntKind.wrap Go.IntKind.i64 ((@Go.IntKind.wrap Go.IntKind.i64 (s7+y13))+1))+y14)).toNat 0).toNat:Int) (fun y15=>cond ((!(y15 == false)) || (bnd (@Go.IntKind.wrap Go.IntKind.i64 ((@Go.IntKind.wrap Go.IntKind.i64 ((@Go.IntKind.wrap Go.IntKind.i64 (s7+y13))+1))+y14)) (s6.length:Int) (s6.length:Int))) (cond (y15 == false) (wq55 k (cut s6 (@Go.IntKind.wrap Go.IntKind.i64 ((@Go.IntKind.wrap Go.IntKind.i64 ((@Go.IntKind.wrap Go.IntKind.i64 (s7+y13))+1))+y14)) (s6.length:Int)) (fun y16=>cond ((!(y16 == false)) || (bnd (@Go.IntKind.wrap Go.IntKind.i64 ((@Go.IntKind.wrap Go.IntKind.i64 ((@Go.IntKind.wrap Go.IntKind.i64 (s7+y13))+1))+y14)) (s6.length:Int) (s6.length:Int))) (cond (y16 == false) (wq4l k (cut s6 (@Go.IntKind.wrap Go.IntKind.i64 ((@Go.IntKind.wrap Go.IntKind.i64 ((@Go.IntKind.wrap Go.IntKind.i64 (s7+y13))+1))+y14)) (s6.length:Int)) (fun y17=>cond (decide (y17>0)) (K [] 4 s0) (cond (decide (((cut s6 (@Go.IntKind.wrap Go.IntKind.i64 ((@Go.IntKind.wrap Go.IntKind.i64 ((@Go.IntKind.wrap Go.IntKind.i64 (s7+y13))+1))+y14)) (s6.length:Int)).length:Int)>200)) (K [] 4 s0) (cond (fits (s5++[((2:Int),(s0,((@Go.IntKind.wrap Go.IntKind.i64 (s1+s7)),((cut s6 s7 (@Go.IntKind.wrap Go.IntKind.i64 (s7+y13))),false))))]).length (@List.length (@Kd.T (@Kd.pr kI (@Kd.pr kI (@Kd.pr kI (@Kd.pr Kd.str Kd.bool))))) [((3:Int),(s0,((@Go.IntKind.wrap Go.IntKind.i64 (s1+(@Go.IntKind.wrap Go.IntKind.i64 ((@Go.IntKind.wrap Go.IntKind.i64 ((@Go.IntKind.wrap Go.IntKind.i64 (s7+y13))+1))+y14)))),((cut s6 (@Go.IntKind.wrap Go.IntKind.i64 ((@Go.IntKind.wrap Go.IntKind.i64 ((@Go.IntKind.wrap Go.IntKind.i64 (s7+y13))+1))+y14)) (s6.length:Int)),false))))]) 48) (K ((s5++[(2,(s0,((@Go.IntKind.wrap Go.IntKind.i64 (s1+s7)),((cut s6 s7 (@Go.IntKind.wrap Go.IntKind.i64 (s7+y13))),false))))])++[(3,(s0,((@Go.IntKind.wrap Go.IntKind.i64 (s1+(@Go.IntKind.wrap Go.IntKind.i64 ((@Go.IntKind.wrap Go.IntKind.i64 ((@Go.IntKind.wrap Go.IntKind.i64 (s7+y13))+1))+y14)))),((cut s6 (@Go.IntKind.wrap Go.IntKind.i64 ((@Go.IntKind.wrap Go.IntKind.i64 ((@Go.IntKind.wrap Go.IntKind.i64 (s7+y13))+1))+y14)) (s6.length:Int)),false))))]) 0 0) none)))) (K [] 4 s0)) none)) (K [] 4 s0)) none)) none)) none) none) none))) none) none)) (cond (decide (s7≥(s6.length:Int))) (K s5 0 0) (cond (bnd s7 (s6.length:Int) (s6.length:Int)) (cond (inb s7 (s6.length:Int)) (cond ((!((((s6.getD s7.toNat 0).toNat:Int) == 39) == false)) || (inb s7 (s6.length:Int))) (cond (cond (((s6.getD s7.toNat 0).toNat:Int) == 39) true (((s6.getD s7.toNat 0).toNat:Int) == 34)) (cond (bnd s7 (s6.length:Int) (s6.length:Int)) (wq3n k (cut s6 s7 (s6.length:Int)) (fun y14 y15=>cond (!y15) (K [] 3 s0) (cond (decide ((y14.length:Int)>200)) (K [] 4 s0) (cond (fits s5.length (@List.length (@Kd.T (@Kd.pr kI (@Kd.pr kI (@Kd.pr kI (@Kd.pr Kd.str Kd.bool))))) [((3:Int),(s0,((@Go.IntKind.wrap Go.IntKind.i64 (s1+s7)),(y14,true))))]) 48) (K (s5++[(3,(s0,((@Go.IntKind.wrap Go.IntKind.i64 (s1+s7)),(y14,true))))]) 0 0) none)))) none) (cond (inb s7 (s6.length:Int)) (wqao k ((s6.getD s7.toNat 0).toNat:Int) (fun y14=>cond ((!(y14 == false)) || (bnd s7 (s6.length:Int) (s6.length:Int))) (cond (y14 == false) (wq55 k (cut s6 s7 (s6.length:Int)) (fun y15=>cond ((!(y15 == false)) || (bnd s7 (s6.length:Int) (s6.length:Int))) (cond (y15 == false) (wq4l k (cut s6 s7 (s6.length:Int)) (fun y16=>cond (decide (y16>0)) (K [] 4 s0) (cond (decide (((cut s6 s7 (s6.length:Int)).length:Int)>200)) (K [] 4 s0) (cond (fits s5.length (@List.length (@Kd.T (@Kd.pr kI (@Kd.pr kI (@Kd.pr kI (@Kd.pr Kd.str Kd.bool))))) [((3:Int),(s0,((@Go.IntKind.wrap Go.IntKind.i64 (s1+s7)),((cut s6 s7 (s6.length:Int)),false))))]) 48) (K (s5++[(3,(s0,((@Go.IntKind.wrap Go.IntKind.i64 (s1+s7)),((cut s6 s7 (s6.length:Int)),false))))]) 0 0) none)))) (K [] 4 s0)) none)) (K [] 4 s0)) none)) none)) none) none) none)))) none))) none
theorem wqqy(k:Nat){R:Type}(I:Nat→St→Option R)(s0 s1:Int)(s2:(List UInt8))(s3 s4:Int)(s5:(List dT158))(s6:(List UInt8))(s7:Int)(K:((List dT158)→Int→Int→Option R)): bodyK (wqow k) k Tryz.f109 wqov [1,1,1,1,1,0,0,0] I (wq8b s0 s1 s2 s3 s4 s5 s6 s7) (wqda K)=wqf2 k (fun s0 s1 s2 s3 s4 s5 s6 s7=>I 1006 (wq8b s0 s1 s2 s3 s4 s5 s6 s7)) s0 s1 s2 s3 s4 s5 s6 s7 K:=by kernel_rfl
def wqtj(k:Nat){R:Type}(E1006:(Int→Int→(List UInt8)→Int→Int→(List dT158)→(List UInt8)→Int→Option R))(x0 x1:Int)(x2:(List UInt8))(K:((List dT158)→Int→Int→Option R)): Option R:=cond (cond (decide (x1<0)) true (decide (x1>16384))) (K [] 6 x0) (wq54 k x2 0 (fun y7=>E1006 x0 x1 x2 0 0 [] x2 y7))
def wq6g(k:Nat){R:Type}: Nat→Int→Int→(List UInt8)→Int→Int→(List dT158)→(List UInt8)→Int→((List dT158)→Int→Int→Option R)→Option R
 |0,_,_,_,_,_,_,_,_,_=>none
 |n+1,s0,s1,s2,s3,s4,s5,s6,s7,K=>wqf2 k (fun s0 s1 s2 s3 s4 s5 s6 s7=>wq6g k n s0 s1 s2 s3 s4 s5 s6 s7 K) s0 s1 s2 s3 s4 s5 s6 s7 K
theorem wqqz(k:Nat){R:Type}(I:Nat→St→Option R)(K:((List dT158)→Int→Int→Option R))(n:Nat): ∀(s0 s1:Int) (s2:(List UInt8)) (s3 s4:Int) (s5:(List dT158)) (s6:(List UInt8)) (s7:Int),wqf1 k I n (wq8b s0 s1 s2 s3 s4 s5 s6 s7) K=wq6g k n s0 s1 s2 s3 s4 s5 s6 s7 K:=by
 induction n with
 |zero=>intros;rfl
 |succ n ih =>
  intro s0 s1 s2 s3 s4 s5 s6 s7
  refine(?_:_=_).trans ((wqqy k (upI 1006 (fun s=>wqf1 k I n s K) I) s0 s1 s2 s3 s4 s5 s6 s7 K).trans ?_)
  ·rfl
  ·simp only[wqy,ih]<;>rfl
def wqh7(k:Nat){R:Type}(x0 x1:Int)(x2:(List UInt8))(K:((List dT158)→Int→Int→Option R)): Option R:=wqtj k (fun s0 s1 s2 s3 s4 s5 s6 s7=>wq6g k k s0 s1 s2 s3 s4 s5 s6 s7 K) x0 x1 x2 K
theorem wq134(k:Nat){R:Type}(x0 x1:Int)(x2:(List UInt8))(K:((List dT158)→Int→Int→Option R)): fnW (wqow k) k Tryz.f109 wqov [.agg [.v kI x0,.v kI x1,.v .str x2]] [] (wqda K)=wqh7 k x0 x1 x2 K:=by
 refine Eq.trans (b:=wqtj k (fun s0 s1 s2 s3 s4 s5 s6 s7=>wqf1 k (fun _ _=>none) k (wq8b s0 s1 s2 s3 s4 s5 s6 s7) K) x0 x1 x2 K) (by kernel_rfl) ?_
 simp only[wqqz]<;>rfl
def wqfy(k:Nat){R:Type}: List PV→List (Nm×HObj)→(Out→Option R)→Option R
 |[.agg [.v (.int .i64) x0,.v (.int .i64) x1,.v .str x2]],[],K=>wqh7 k x0 x1 x2 (fun y0 y1 y2=>K (.ret [.v (.sl (.pr (.int .i64) (.pr (.int .i64) (.pr (.int .i64) (.pr .str .bool))))) y0,.agg [.v (.int .i64) y1,.v (.int .i64) y2]] []))
 |_,_,_=>none
theorem wq1bz(k:Nat): DOK Tryz.prog 109 (wqfy k):=by
 intro ps hp R K r h
 have h:wqfy k ps hp K=some r:=h
 unfold wqfy at h
 split at h
 ·rw[←wq134]at h
  exact fnW_ok ⟨tyT_ok,(wq4 (wq12z k) (wq4 (wq130 k) (wq4 (wq168 k) (wq4 (wq16a k) (wq4 (wq1by k) CTab.nil_ok))))),fun _ _=>rfl⟩ mixed (by kernel_rfl) (by kernel_rfl) h fun o ho=>by unfold wqda at ho;split at ho<;>first|exact ho|cases ho
 ·cases h
end Go.Proofs.YtbjkpddloieekaaGreatDoor.Pvm
end
noncomputable section
namespace Go.Proofs.YtbjkpddloieekaaGreatDoor.Pvm
open Go Go.Proofs
def wqxy:List LS:=[.any,.any]
def wq8c{R:Type}(K:(Int→Bool→Option R)): Out→Option R
 |.ret [.v (.int .i64) y0,.v .bool y1] []=>K y0 y1
 |_=>none
def wqgn:RetSpec:=⟨[.any,.any],[],[]⟩
def wqgo(k:Nat): Ctx:=⟨tyT,[(1003,⟨[(0,.any),(6,.any),(7,.any)],[]⟩)],.nil,[],[],[],@SH⟩
def wq56(s0:(List UInt8))(s1 s2:Int): St:=⟨mkT [(0,.v .str s0),(6,.v (.int .u8) s1),(7,.v kI s2)],mkH []⟩
def wq9t(k:Nat){R:Type}(I:Nat→St→Option R)(n:Nat)(s:St)(K:(Int→Bool→Option R)): Option R:=loopK (wqgo k) k Tryz.f159 wqgn 1003 [1,1,0,1,0] I n s (wq8c K)
def wq9u(k:Nat){R:Type}(E1003:((List UInt8)→Int→Int→Option R))(s0:(List UInt8))(s1 s2:Int)(K:(Int→Bool→Option R)): Option R:=cond (decide (s2<(s0.length:Int))) (cond ((!((s1 == 34) == true)) || (inb s2 (s0.length:Int))) (cond (cond (s1 == 34) (((s0.getD s2.toNat 0).toNat:Int) == 92) false) (E1003 s0 s1 (@Go.IntKind.wrap Go.IntKind.i64 ((@Go.IntKind.wrap Go.IntKind.i64 (s2+1))+1))) (cond (inb s2 (s0.length:Int)) (cond (((s0.getD s2.toNat 0).toNat:Int) != s1) (E1003 s0 s1 (@Go.IntKind.wrap Go.IntKind.i64 (s2+1))) (cond ((!((cond (s1 == 39) (decide ((@Go.IntKind.wrap Go.IntKind.i64 (s2+1))<(s0.length:Int))) false) == true)) || (inb (@Go.IntKind.wrap Go.IntKind.i64 (s2+1)) (s0.length:Int))) (cond (cond (cond (s1 == 39) (decide ((@Go.IntKind.wrap Go.IntKind.i64 (s2+1))<(s0.length:Int))) false) (((s0.getD (@Go.IntKind.wrap Go.IntKind.i64 (s2+1)).toNat 0).toNat:Int) == 39) false) (E1003 s0 s1 (@Go.IntKind.wrap Go.IntKind.i64 ((@Go.IntKind.wrap Go.IntKind.i64 (s2+1))+1))) (K (@Go.IntKind.wrap Go.IntKind.i64 (s2+1)) true)) none)) none)) none) (K 0 false)
theorem wqke(k:Nat){R:Type}(I:Nat→St→Option R)(s0:(List UInt8))(s1 s2:Int)(K:(Int→Bool→Option R)): bodyK (wqgo k) k Tryz.f159 wqgn [1,1,0,1,0,0] I (wq56 s0 s1 s2) (wq8c K)=wq9u k (fun s0 s1 s2=>I 1003 (wq56 s0 s1 s2)) s0 s1 s2 K:=by kernel_rfl
def wqi6(k:Nat){R:Type}(E1003:((List UInt8)→Int→Int→Option R))(x0:(List UInt8))(x1:Int)(K:(Int→Bool→Option R)): Option R:=cond (inb x1 (x0.length:Int)) (E1003 x0 ((x0.getD x1.toNat 0).toNat:Int) (@Go.IntKind.wrap Go.IntKind.i64 (x1+1))) none
def wq3o(k:Nat){R:Type}: Nat→(List UInt8)→Int→Int→(Int→Bool→Option R)→Option R
 |0,_,_,_,_=>none
 |n+1,s0,s1,s2,K=>wq9u k (fun s0 s1 s2=>wq3o k n s0 s1 s2 K) s0 s1 s2 K
theorem wqkf(k:Nat){R:Type}(I:Nat→St→Option R)(K:(Int→Bool→Option R))(n:Nat): ∀(s0:(List UInt8)) (s1 s2:Int),wq9t k I n (wq56 s0 s1 s2) K=wq3o k n s0 s1 s2 K:=by
 induction n with
 |zero=>intros;rfl
 |succ n ih =>
  intro s0 s1 s2
  refine(?_:_=_).trans ((wqke k (upI 1003 (fun s=>wq9t k I n s K) I) s0 s1 s2 K).trans ?_)
  ·rfl
  ·simp only[wqy,ih]<;>rfl
def wq9v(k:Nat){R:Type}(x0:(List UInt8))(x1:Int)(K:(Int→Bool→Option R)): Option R:=wqi6 k (fun s0 s1 s2=>wq3o k k s0 s1 s2 K) x0 x1 K
theorem wqvh(k:Nat){R:Type}(x0:(List UInt8))(x1:Int)(K:(Int→Bool→Option R)): fnW (wqgo k) k Tryz.f159 wqgn [.v .str x0,.v kI x1] [] (wq8c K)=wq9v k x0 x1 K:=by
 refine Eq.trans (b:=wqi6 k (fun s0 s1 s2=>wq9t k (fun _ _=>none) k (wq56 s0 s1 s2) K) x0 x1 K) (by kernel_rfl) ?_
 simp only[wqkf]<;>rfl
def wq9w(k:Nat){R:Type}: List PV→List (Nm×HObj)→(Out→Option R)→Option R
 |[.v .str x0,.v (.int .i64) x1],[],K=>wq9v k x0 x1 (fun y0 y1=>K (.ret [.v (.int .i64) y0,.v .bool y1] []))
 |_,_,_=>none
theorem wq135(k:Nat): DOK Tryz.prog 159 (wq9w k):=by
 intro ps hp R K r h
 have h:wq9w k ps hp K=some r:=h
 unfold wq9w at h
 split at h
 ·rw[←wqvh]at h
  exact fnW_ok ⟨tyT_ok,CTab.nil_ok,fun _ _=>rfl⟩ mixed (by kernel_rfl) (by kernel_rfl) h fun o ho=>by unfold wq8c at ho;split at ho<;>first|exact ho|cases ho
 ·cases h
end Go.Proofs.YtbjkpddloieekaaGreatDoor.Pvm
end
noncomputable section
namespace Go.Proofs.YtbjkpddloieekaaGreatDoor.Pvm
open Go Go.Proofs
def wq102:List LS:=[.any]
def wq4h{R:Type}(K:((List UInt8)→Bool→Option R)): Out→Option R
 |.ret [.v .str y0,.v .bool y1] []=>K y0 y1
 |_=>none
def wq9x:RetSpec:=⟨[.any,.any],[],[]⟩
def wq9y(k:Nat): Ctx:=⟨tyT,[(1003,⟨[(0,.any),(4,.any),(5,.any)],[]⟩),(1013,⟨[(0,.any),(4,.any)],[]⟩)],(.add 159 wqxy (wq9w k) .nil),[],[],[],@SH⟩
def wq67(s0:(List UInt8))(s1 s2:Int): St:=⟨mkT [(0,.v .str s0),(4,.v kI s1),(5,.v kI s2)],mkH []⟩
def wq68(s0:(List UInt8))(s1:Int): St:=⟨mkT [(0,.v .str s0),(4,.v kI s1)],mkH []⟩
def wqap(k:Nat){R:Type}(I:Nat→St→Option R)(n:Nat)(s:St)(K:((List UInt8)→Bool→Option R)): Option R:=loopK (wq9y k) k Tryz.f108 wq9x 1003 [1,1,0,1,0] I n s (wq4h K)
def wqaq(k:Nat){R:Type}(I:Nat→St→Option R)(n:Nat)(s:St)(K:((List UInt8)→Bool→Option R)): Option R:=loopK (wq9y k) k Tryz.f108 wq9x 1013 [1,1,1,0,0] I n s (wq4h K)
def wq73(k:Nat){R:Type}(E1003:((List UInt8)→Int→Int→Option R))(E1013:((List UInt8)→Int→Option R))(s0:(List UInt8))(s1 s2:Int)(K:((List UInt8)→Bool→Option R)): Option R:=cond (decide (s2<s1)) (cond ((!((s2 == 0) == false)) || (inb (@Go.IntKind.wrap Go.IntKind.i64 (s2-1)) (s0.length:Int))) (cond ((!((cond (s2 == 0) true (((s0.getD (@Go.IntKind.wrap Go.IntKind.i64 (s2-1)).toNat 0).toNat:Int) == 32)) == true)) || (inb s2 (s0.length:Int))) (cond (cond (cond (s2 == 0) true (((s0.getD (@Go.IntKind.wrap Go.IntKind.i64 (s2-1)).toNat 0).toNat:Int) == 32)) (((s0.getD s2.toNat 0).toNat:Int) == 35) false) (E1003 s0 s2 s2) (cond ((!((cond (s2 == 0) true (((s0.getD (@Go.IntKind.wrap Go.IntKind.i64 (s2-1)).toNat 0).toNat:Int) == 32)) == true)) || (inb s2 (s0.length:Int))) (cond ((!(((cond (s2 == 0) true (((s0.getD (@Go.IntKind.wrap Go.IntKind.i64 (s2-1)).toNat 0).toNat:Int) == 32)) == true)&&((((s0.getD s2.toNat 0).toNat:Int) == 39) == false))) || (inb s2 (s0.length:Int))) (cond (cond (cond (s2 == 0) true (((s0.getD (@Go.IntKind.wrap Go.IntKind.i64 (s2-1)).toNat 0).toNat:Int) == 32)) (cond (((s0.getD s2.toNat 0).toNat:Int) == 39) true (((s0.getD s2.toNat 0).toNat:Int) == 34)) false) (wq9v k s0 s2 (fun y8 y9=>cond (!y9) (K [] false) (E1003 s0 s1 y8))) (E1003 s0 s1 (@Go.IntKind.wrap Go.IntKind.i64 (s2+1)))) none) none)) none) none) (E1013 s0 s1)
theorem wqln(k:Nat){R:Type}(I:Nat→St→Option R)(s0:(List UInt8))(s1 s2:Int)(K:((List UInt8)→Bool→Option R)): bodyK (wq9y k) k Tryz.f108 wq9x [1,1,0,1,0,0] I (wq67 s0 s1 s2) (wq4h K)=wq73 k (fun s0 s1 s2=>I 1003 (wq67 s0 s1 s2)) (fun s0 s1=>wqaq k I k (wq68 s0 s1) K) s0 s1 s2 K:=by kernel_rfl
def wqar(k:Nat){R:Type}(E1013:((List UInt8)→Int→Option R))(s0:(List UInt8))(s1:Int)(K:((List UInt8)→Bool→Option R)): Option R:=cond ((!((decide (s1>0)) == true)) || (inb (@Go.IntKind.wrap Go.IntKind.i64 (s1-1)) (s0.length:Int))) (cond (cond (decide (s1>0)) (((s0.getD (@Go.IntKind.wrap Go.IntKind.i64 (s1-1)).toNat 0).toNat:Int) == 32) false) (E1013 s0 (@Go.IntKind.wrap Go.IntKind.i64 (s1-1))) (cond (bnd 0 s1 (s0.length:Int)) (K (cut s0 0 s1) true) none)) none
theorem wqlo(k:Nat){R:Type}(I:Nat→St→Option R)(s0:(List UInt8))(s1:Int)(K:((List UInt8)→Bool→Option R)): bodyK (wq9y k) k Tryz.f108 wq9x [1,1,1,0,0,0] I (wq68 s0 s1) (wq4h K)=wqar k (fun s0 s1=>I 1013 (wq68 s0 s1)) s0 s1 K:=by kernel_rfl
def wqkg(k:Nat){R:Type}(E1003:((List UInt8)→Int→Int→Option R))(x0:(List UInt8))(K:((List UInt8)→Bool→Option R)): Option R:=E1003 x0 (x0.length:Int) 0
def wq4i(k:Nat){R:Type}: Nat→(List UInt8)→Int→((List UInt8)→Bool→Option R)→Option R
 |0,_,_,_=>none
 |n+1,s0,s1,K=>wqar k (fun s0 s1=>wq4i k n s0 s1 K) s0 s1 K
theorem wqlp(k:Nat){R:Type}(I:Nat→St→Option R)(K:((List UInt8)→Bool→Option R))(n:Nat): ∀(s0:(List UInt8)) (s1:Int),wqaq k I n (wq68 s0 s1) K=wq4i k n s0 s1 K:=by
 induction n with
 |zero=>intros;rfl
 |succ n ih =>
  intro s0 s1
  refine(?_:_=_).trans ((wqlo k (upI 1013 (fun s=>wqaq k I n s K) I) s0 s1 K).trans ?_)
  ·rfl
  ·simp only[wqy,ih]<;>rfl
def wq1m(k:Nat){R:Type}: Nat→(List UInt8)→Int→Int→((List UInt8)→Bool→Option R)→Option R
 |0,_,_,_,_=>none
 |n+1,s0,s1,s2,K=>wq73 k (fun s0 s1 s2=>wq1m k n s0 s1 s2 K) (fun s0 s1=>wq4i k k s0 s1 K) s0 s1 s2 K
theorem wqlq(k:Nat){R:Type}(I:Nat→St→Option R)(K:((List UInt8)→Bool→Option R))(n:Nat): ∀(s0:(List UInt8)) (s1 s2:Int),wqap k I n (wq67 s0 s1 s2) K=wq1m k n s0 s1 s2 K:=by
 induction n with
 |zero=>intros;rfl
 |succ n ih =>
  intro s0 s1 s2
  refine(?_:_=_).trans ((wqln k (upI 1003 (fun s=>wqap k I n s K) I) s0 s1 s2 K).trans ?_)
  ·rfl
  ·simp only[wqy,ih,wqlp]<;>rfl
def wqby(k:Nat){R:Type}(x0:(List UInt8))(K:((List UInt8)→Bool→Option R)): Option R:=wqkg k (fun s0 s1 s2=>wq1m k k s0 s1 s2 K) x0 K
theorem wqxz(k:Nat){R:Type}(x0:(List UInt8))(K:((List UInt8)→Bool→Option R)): fnW (wq9y k) k Tryz.f108 wq9x [.v .str x0] [] (wq4h K)=wqby k x0 K:=by
 refine Eq.trans (b:=wqkg k (fun s0 s1 s2=>wqap k (fun _ _=>none) k (wq67 s0 s1 s2) K) x0 K) (by kernel_rfl) ?_
 simp only[wqlq]<;>rfl
def wqba(k:Nat){R:Type}: List PV→List (Nm×HObj)→(Out→Option R)→Option R
 |[.v .str x0],[],K=>wqby k x0 (fun y0 y1=>K (.ret [.v .str y0,.v .bool y1] []))
 |_,_,_=>none
theorem wq16d(k:Nat): DOK Tryz.prog 108 (wqba k):=by
 intro ps hp R K r h
 have h:wqba k ps hp K=some r:=h
 unfold wqba at h
 split at h
 ·rw[←wqxz]at h
  exact fnW_ok ⟨tyT_ok,(wq4 (wq135 k) CTab.nil_ok),fun _ _=>rfl⟩ mixed (by kernel_rfl) (by kernel_rfl) h fun o ho=>by unfold wq4h at ho;split at ho<;>first|exact ho|cases ho
 ·cases h
end Go.Proofs.YtbjkpddloieekaaGreatDoor.Pvm
end
noncomputable section
namespace Go.Proofs.YtbjkpddloieekaaGreatDoor.Pvm
open Go Go.Proofs
def wq103:List LS:=[.any]
def wq9z{R:Type}(K:(Bool→Option R)): Out→Option R
 |.ret [.v .bool y0] []=>K y0
 |_=>none
def wqi7:RetSpec:=⟨[.any],[],[]⟩
def wqi8(k:Nat): Ctx:=⟨tyT,[(1004,⟨[(0,.any),(3,.any)],[]⟩)],(.add 108 wq102 (wqba k) (.add 109 wq16c (wqfy k) .nil)),[],[],[],@SH⟩
def wq69(s0:(List UInt8))(s1:Int): St:=⟨mkT [(0,.v .str s0),(3,.v kI s1)],mkH []⟩
def wqas(k:Nat){R:Type}(I:Nat→St→Option R)(n:Nat)(s:St)(K:(Bool→Option R)): Option R:=loopK (wqi8 k) k Tryz.f196 wqi7 1004 [1,1,0,1,0] I n s (wq9z K)
def wq74(k:Nat){R:Type}(E1004:((List UInt8)→Int→Option R))(s0:(List UInt8))(s1:Int)(K:(Bool→Option R)): Option R:=cond (decide (s1<(s0.length:Int))) (cond (inb s1 (s0.length:Int)) (cond ((!((decide (((s0.getD s1.toNat 0).toNat:Int)<32)) == false)) || (inb s1 (s0.length:Int))) (cond (cond (decide (((s0.getD s1.toNat 0).toNat:Int)<32)) true (((s0.getD s1.toNat 0).toNat:Int) == 127)) (K false) (E1004 s0 (@Go.IntKind.wrap Go.IntKind.i64 (s1+1)))) none) none) (wqby k s0 (fun y6 y7=>wqh7 k 0 0 s0 (fun y8 y9 y10=>cond ((!((cond (cond (cond y7 (y6 == s0) false) (y9 == 0) false) ((y8.length:Int) == 1) false) == true)) || (inb 0 (y8.length:Int))) (cond ((!((cond (cond (cond (cond y7 (y6 == s0) false) (y9 == 0) false) ((y8.length:Int) == 1) false) ((y8.getD (Int.toNat 0) (Kd.zero (@Kd.pr kI (@Kd.pr kI (@Kd.pr kI (@Kd.pr Kd.str Kd.bool)))))).1 == 3) false) == true)) || (inb 0 (y8.length:Int))) (cond ((!((cond (cond (cond (cond (cond y7 (y6 == s0) false) (y9 == 0) false) ((y8.length:Int) == 1) false) ((y8.getD (Int.toNat 0) (Kd.zero (@Kd.pr kI (@Kd.pr kI (@Kd.pr kI (@Kd.pr Kd.str Kd.bool)))))).1 == 3) false) (((((y8.getD (Int.toNat 0) (Kd.zero (@Kd.pr kI (@Kd.pr kI (@Kd.pr kI (@Kd.pr Kd.str Kd.bool)))))).2).2).2).1 == s0) false) == true)) || (inb 0 (y8.length:Int))) (K (cond (cond (cond (cond (cond (cond y7 (y6 == s0) false) (y9 == 0) false) ((y8.length:Int) == 1) false) ((y8.getD (Int.toNat 0) (Kd.zero (@Kd.pr kI (@Kd.pr kI (@Kd.pr kI (@Kd.pr Kd.str Kd.bool)))))).1 == 3) false) (((((y8.getD (Int.toNat 0) (Kd.zero (@Kd.pr kI (@Kd.pr kI (@Kd.pr kI (@Kd.pr Kd.str Kd.bool)))))).2).2).2).1 == s0) false) (!((((y8.getD (Int.toNat 0) (Kd.zero (@Kd.pr kI (@Kd.pr kI (@Kd.pr kI (@Kd.pr Kd.str Kd.bool)))))).2).2).2).2) false)) none) none) none)))
theorem wqlr(k:Nat){R:Type}(I:Nat→St→Option R)(s0:(List UInt8))(s1:Int)(K:(Bool→Option R)): bodyK (wqi8 k) k Tryz.f196 wqi7 [1,1,0,1,0,0] I (wq69 s0 s1) (wq9z K)=wq74 k (fun s0 s1=>I 1004 (wq69 s0 s1)) s0 s1 K:=by kernel_rfl
def wqkh(k:Nat){R:Type}(E1004:((List UInt8)→Int→Option R))(x0:(List UInt8))(K:(Bool→Option R)): Option R:=cond (cond (x0 == []) true (decide ((x0.length:Int)>200))) (K false) (E1004 x0 0)
def wq2q(k:Nat){R:Type}: Nat→(List UInt8)→Int→(Bool→Option R)→Option R
 |0,_,_,_=>none
 |n+1,s0,s1,K=>wq74 k (fun s0 s1=>wq2q k n s0 s1 K) s0 s1 K
theorem wqls(k:Nat){R:Type}(I:Nat→St→Option R)(K:(Bool→Option R))(n:Nat): ∀(s0:(List UInt8)) (s1:Int),wqas k I n (wq69 s0 s1) K=wq2q k n s0 s1 K:=by
 induction n with
 |zero=>intros;rfl
 |succ n ih =>
  intro s0 s1
  refine(?_:_=_).trans ((wqlr k (upI 1004 (fun s=>wqas k I n s K) I) s0 s1 K).trans ?_)
  ·rfl
  ·simp only[wqy,ih]<;>rfl
def wqbz(k:Nat){R:Type}(x0:(List UInt8))(K:(Bool→Option R)): Option R:=wqkh k (fun s0 s1=>wq2q k k s0 s1 K) x0 K
theorem wqy0(k:Nat){R:Type}(x0:(List UInt8))(K:(Bool→Option R)): fnW (wqi8 k) k Tryz.f196 wqi7 [.v .str x0] [] (wq9z K)=wqbz k x0 K:=by
 refine Eq.trans (b:=wqkh k (fun s0 s1=>wqas k (fun _ _=>none) k (wq69 s0 s1) K) x0 K) (by kernel_rfl) ?_
 simp only[wqls]<;>rfl
def wqbb(k:Nat){R:Type}: List PV→List (Nm×HObj)→(Out→Option R)→Option R
 |[.v .str x0],[],K=>wqbz k x0 (fun y0=>K (.ret [.v .bool y0] []))
 |_,_,_=>none
theorem wq16e(k:Nat): DOK Tryz.prog 196 (wqbb k):=by
 intro ps hp R K r h
 have h:wqbb k ps hp K=some r:=h
 unfold wqbb at h
 split at h
 ·rw[←wqy0]at h
  exact fnW_ok ⟨tyT_ok,(wq4 (wq16d k) (wq4 (wq1bz k) CTab.nil_ok)),fun _ _=>rfl⟩ mixed (by kernel_rfl) (by kernel_rfl) h fun o ho=>by unfold wq9z at ho;split at ho<;>first|exact ho|cases ho
 ·cases h
end Go.Proofs.YtbjkpddloieekaaGreatDoor.Pvm
end
noncomputable section
namespace Go.Proofs.YtbjkpddloieekaaGreatDoor.Pvm
open Go Go.Proofs
def wq136:List LS:=[.ag [.any,.any,.any,.any,.sl .str,.sl kI]]
def wqmc{R:Type}(K:(Bool→Option R)): Out→Option R
 |.ret [.v .bool y0] []=>K y0
 |_=>none
def wq16f:RetSpec:=⟨[.any],[],[]⟩
def wq16g(k:Nat): Ctx:=⟨tyT,[],(.add 196 wq103 (wqbb k) (.add 197 wq12y (wqd8 k) .nil)),[],[],[],@SH⟩
def wqy1(k:Nat){R:Type}(x0 x1:Int)(x2:(List UInt8))(x3:Bool)(x4:(List (List UInt8)))(x5:(List Int))(K:(Bool→Option R)): Option R:=cond (x0 == 1) (cond ((cond (cond ((x4.length:Int) == 0) ((x5.length:Int) == 0) false) (decide ((x2.length:Int)≤200)) false) == true) (cond (x3 == false) (wqbz k x2 K) (K true)) (K false)) (cond (x0 == 2) (K (cond (cond (cond ((x4.length:Int) == 0) (decide ((x5.length:Int)>0)) false) (x2 == []) false) (!x3) false)) (cond (x0 == 3) (cond ((cond (cond (cond ((x4.length:Int) == (x5.length:Int)) (decide ((x5.length:Int)>0)) false) (x2 == []) false) (!x3) false) == true) (wqez k x4 K) (K false)) (K false)))
def wqf3(k:Nat){R:Type}(x0 x1:Int)(x2:(List UInt8))(x3:Bool)(x4:(List (List UInt8)))(x5:(List Int))(K:(Bool→Option R)): Option R:=wqy1 k x0 x1 x2 x3 x4 x5 K
theorem wq104(k:Nat){R:Type}(x0 x1:Int)(x2:(List UInt8))(x3:Bool)(x4:(List (List UInt8)))(x5:(List Int))(K:(Bool→Option R)): fnW (wq16g k) k Tryz.f155 wq16f [.agg [.v kI x0,.v kI x1,.v .str x2,.v .bool x3,.v (.sl .str) x4,.v (.sl kI) x5]] [] (wqmc K)=wqf3 k x0 x1 x2 x3 x4 x5 K:=by
 kernel_rfl
def wqdb(k:Nat){R:Type}: List PV→List (Nm×HObj)→(Out→Option R)→Option R
 |[.agg [.v (.int .i64) x0,.v (.int .i64) x1,.v .str x2,.v .bool x3,.v (.sl .str) x4,.v (.sl (.int .i64)) x5]],[],K=>wqf3 k x0 x1 x2 x3 x4 x5 (fun y0=>K (.ret [.v .bool y0] []))
 |_,_,_=>none
theorem wq191(k:Nat): DOK Tryz.prog 155 (wqdb k):=by
 intro ps hp R K r h
 have h:wqdb k ps hp K=some r:=h
 unfold wqdb at h
 split at h
 ·rw[←wq104]at h
  exact fnW_ok ⟨tyT_ok,(wq4 (wq16e k) (wq4 (wq190 k) CTab.nil_ok)),fun _ _=>rfl⟩ mixed (by kernel_rfl) (by kernel_rfl) h fun o ho=>by unfold wqmc at ho;split at ho<;>first|exact ho|cases ho
 ·cases h
end Go.Proofs.YtbjkpddloieekaaGreatDoor.Pvm
end
noncomputable section
namespace Go.Proofs.YtbjkpddloieekaaGreatDoor.Pvm
open Go Go.Proofs
def wqr0:List LS:=[.ag [.sl kdT25],.any,.any]
def wqmd(wqv:(R:Type)→(List dT25)→Int→Int→(Int→Option R)→Option R){R:Type}: List PV→List (Nm×HObj)→(Out→Option R)→Option R
 |[.agg [.v (.sl (.pr (.int .i64) (.pr (.int .i64) (.pr .str (.pr .bool (.pr (.sl .str) (.sl (.int .i64)))))))) x0],.v (.int .i64) x1,.v (.int .i64) x2],[],K=>wqv R x0 x1 x2 (fun y0=>K (.ret [.v (.int .i64) y0] []))
 |_,_,_=>none
def wqbc{R:Type}(K:(Int→Option R)): Out→Option R
 |.ret [.v (.int .i64) y0] []=>K y0
 |_=>none
def wqki:RetSpec:=⟨[.any],[],[]⟩
def wqkj(k:Nat)(wqv:(R:Type)→(List dT25)→Int→Int→(Int→Option R)→Option R): Ctx:=⟨tyT,[(1005,⟨[(1,.any),(2,.any),(3,.obj 13 [.sl kdT25]),(7,.any),(8,.any)],[]⟩)],(.add 98 wqr0 (wqmd wqv) (.add 155 wq136 (wqdb k) .nil)),[],[],[],@SH⟩
def wq75(s0 s1:Int)(s2:(List dT25))(s3 s4:Int): St:=⟨mkT [(1,.v kI s0),(2,.v kI s1),(3,.ptr 13 0),(7,.v kI s3),(8,.v kI s4)],mkH [(13,.var 29 [.v kdT28 s2])]⟩
def wqcf(k:Nat)(wqv:(R:Type)→(List dT25)→Int→Int→(Int→Option R)→Option R){R:Type}(I:Nat→St→Option R)(n:Nat)(s:St)(K:(Int→Option R)): Option R:=loopK (wqkj k wqv) k Tryz.f98 wqki 1005 [1,1,1,0,1,0] I n s (wqbc K)
def wq8d(k:Nat)(wqv:(R:Type)→(List dT25)→Int→Int→(Int→Option R)→Option R){R:Type}(E1005:(Int→Int→(List dT25)→Int→Int→Option R))(s0 s1:Int)(s2:(List dT25))(s3 s4:Int)(K:(Int→Option R)): Option R:=cond (inb s0 (s2.length:Int)) (cond (decide (s4<(((((((s2.getD s0.toNat (Kd.zero (@Kd.pr kI (@Kd.pr kI (@Kd.pr Kd.str (@Kd.pr Kd.bool (@Kd.pr (@Kd.sl Kd.str) (@Kd.sl kI)))))))).2).2).2).2).2).length:Int))) (cond (inb s0 (s2.length:Int)) (cond (inb s4 (((((((s2.getD s0.toNat (Kd.zero (@Kd.pr kI (@Kd.pr kI (@Kd.pr Kd.str (@Kd.pr Kd.bool (@Kd.pr (@Kd.sl Kd.str) (@Kd.sl kI)))))))).2).2).2).2).2).length:Int)) (cond ((((((((s2.getD s0.toNat (Kd.zero (@Kd.pr kI (@Kd.pr kI (@Kd.pr Kd.str (@Kd.pr Kd.bool (@Kd.pr (@Kd.sl Kd.str) (@Kd.sl kI)))))))).2).2).2).2).2).getD s4.toNat kI.zero) != s3) (K (@Neg.neg Int @Int.instNegInt (1:Int))) (wqv R s2 s3 (@Go.IntKind.wrap Go.IntKind.i64 (s1+1)) (fun y9=>cond (decide (y9<0)) (K (@Neg.neg Int @Int.instNegInt (1:Int))) (E1005 s0 s1 s2 y9 (@Go.IntKind.wrap Go.IntKind.i64 (s4+1)))))) none) none) (K s3)) none
theorem wqox(k:Nat)(wqv:(R:Type)→(List dT25)→Int→Int→(Int→Option R)→Option R){R:Type}(I:Nat→St→Option R)(s0 s1:Int)(s2:(List dT25))(s3 s4:Int)(K:(Int→Option R)): bodyK (wqkj k wqv) k Tryz.f98 wqki [1,1,1,0,1,0,0] I (wq75 s0 s1 s2 s3 s4) (wqbc K)=wq8d k wqv (fun s0 s1 s2 s3 s4=>I 1005 (wq75 s0 s1 s2 s3 s4)) s0 s1 s2 s3 s4 K:=by kernel_rfl
def wqi9(k:Nat)(wqv:(R:Type)→(List dT25)→Int→Int→(Int→Option R)→Option R){R:Type}(E1005:(Int→Int→(List dT25)→Int→Int→Option R))(x0:(List dT25))(x1 x2:Int)(K:(Int→Option R)): Option R:=cond ((!((cond (decide (x1≥(x0.length:Int))) true (decide (x2>24))) == false)) || (inb x1 (x0.length:Int))) (cond ((cond (decide (x1≥(x0.length:Int))) true (decide (x2>24))) == false) (wqf3 k (x0.getD x1.toNat (Kd.zero (@Kd.pr kI (@Kd.pr kI (@Kd.pr Kd.str (@Kd.pr Kd.bool (@Kd.pr (@Kd.sl Kd.str) (@Kd.sl kI)))))))).1 ((x0.getD x1.toNat (Kd.zero (@Kd.pr kI (@Kd.pr kI (@Kd.pr Kd.str (@Kd.pr Kd.bool (@Kd.pr (@Kd.sl Kd.str) (@Kd.sl kI)))))))).2).1 (((x0.getD x1.toNat (Kd.zero (@Kd.pr kI (@Kd.pr kI (@Kd.pr Kd.str (@Kd.pr Kd.bool (@Kd.pr (@Kd.sl Kd.str) (@Kd.sl kI)))))))).2).2).1 ((((x0.getD x1.toNat (Kd.zero (@Kd.pr kI (@Kd.pr kI (@Kd.pr Kd.str (@Kd.pr Kd.bool (@Kd.pr (@Kd.sl Kd.str) (@Kd.sl kI)))))))).2).2).2).1 (((((x0.getD x1.toNat (Kd.zero (@Kd.pr kI (@Kd.pr kI (@Kd.pr Kd.str (@Kd.pr Kd.bool (@Kd.pr (@Kd.sl Kd.str) (@Kd.sl kI)))))))).2).2).2).2).1 (((((x0.getD x1.toNat (Kd.zero (@Kd.pr kI (@Kd.pr kI (@Kd.pr Kd.str (@Kd.pr Kd.bool (@Kd.pr (@Kd.sl Kd.str) (@Kd.sl kI)))))))).2).2).2).2).2 (fun y7=>cond (!y7) (K (@Neg.neg Int @Int.instNegInt (1:Int))) (E1005 x1 x2 x0 (@Go.IntKind.wrap Go.IntKind.i64 (x1+1)) 0))) (K (@Neg.neg Int @Int.instNegInt (1:Int)))) none
def wq3c(k:Nat)(wqv:(R:Type)→(List dT25)→Int→Int→(Int→Option R)→Option R){R:Type}: Nat→Int→Int→(List dT25)→Int→Int→(Int→Option R)→Option R
 |0,_,_,_,_,_,_=>none
 |n+1,s0,s1,s2,s3,s4,K=>wq8d k wqv (fun s0 s1 s2 s3 s4=>wq3c k wqv n s0 s1 s2 s3 s4 K) s0 s1 s2 s3 s4 K
theorem wqoy(k:Nat)(wqv:(R:Type)→(List dT25)→Int→Int→(Int→Option R)→Option R){R:Type}(I:Nat→St→Option R)(K:(Int→Option R))(n:Nat): ∀(s0 s1:Int) (s2:(List dT25)) (s3 s4:Int),wqcf k wqv I n (wq75 s0 s1 s2 s3 s4) K=wq3c k wqv n s0 s1 s2 s3 s4 K:=by
 induction n with
 |zero=>intros;rfl
 |succ n ih =>
  intro s0 s1 s2 s3 s4
  refine(?_:_=_).trans ((wqox k wqv (upI 1005 (fun s=>wqcf k wqv I n s K) I) s0 s1 s2 s3 s4 K).trans ?_)
  ·rfl
  ·simp only[wqy,ih]<;>rfl
def wq1v:Nat→(R:Type)→(List dT25)→Int→Int→(Int→Option R)→Option R
 |0,_,_,_,_,_=>none
 |k+1,R,x0,x1,x2,K=>wqi9 k (wq1v k) (fun s0 s1 s2 s3 s4=>wq3c k (wq1v k) k s0 s1 s2 s3 s4 K) x0 x1 x2 K
def wqf4(k:Nat){R:Type}(x0:(List dT25))(x1 x2:Int)(K:(Int→Option R)): Option R:=wq1v k R x0 x1 x2 K
theorem wq105(k:Nat){R:Type}(x0:(List dT25))(x1 x2:Int)(K:(Int→Option R)): fnW (wqkj k (wq1v k)) k Tryz.f98 wqki [.agg [.v kdT28 x0],.v kI x1,.v kI x2] [] (wqbc K)=wq1v (k+1) R x0 x1 x2 K:=by
 rw[wq1v]
 refine Eq.trans (b:=wqi9 k (wq1v k) (fun s0 s1 s2 s3 s4=>wqcf k (wq1v k) (fun _ _=>none) k (wq75 s0 s1 s2 s3 s4) K) x0 x1 x2 K) (by kernel_rfl) ?_
 simp only[wqoy]<;>rfl
def wq3p(k:Nat){R:Type}: List PV→List (Nm×HObj)→(Out→Option R)→Option R
 |[.agg [.v (.sl (.pr (.int .i64) (.pr (.int .i64) (.pr .str (.pr .bool (.pr (.sl .str) (.sl (.int .i64)))))))) x0],.v (.int .i64) x1,.v (.int .i64) x2],[],K=>wqf4 k x0 x1 x2 (fun y0=>K (.ret [.v (.int .i64) y0] []))
 |_,_,_=>none
theorem wq16h(k:Nat): DOK Tryz.prog 98 (wq3p k):=by
 induction k with
 |zero =>
  ·intro ps hp R K r h
   have h:wq3p 0 ps hp K=some r:=h
   unfold wq3p at h
   split at h
   ·unfold wqf4 at h;rw[wq1v]at h;cases h
   ·cases h
 |succ k ih =>
  have ih_ref10_walk:=ih
  ·intro ps hp R K r h
   have h:wq3p (k+1) ps hp K=some r:=h
   unfold wq3p at h
   split at h
   ·unfold wqf4 at h;rw[←wq105]at h
    exact fnW_ok ⟨tyT_ok,(CTab.add_ok (fun h=>ih_ref10_walk _ _ _ _ _ (by unfold wqmd at h;unfold wq3p;exact h)) (wq4 (wq191 k) CTab.nil_ok)),fun _ _=>rfl⟩ mixed (by kernel_rfl) (by kernel_rfl) h fun o ho=>by unfold wqbc at ho;split at ho<;>first|exact ho|cases ho
   ·cases h
theorem wq192(k:Nat): DOK Tryz.prog 98 (wq3p k):=(wq16h k)
end Go.Proofs.YtbjkpddloieekaaGreatDoor.Pvm
end
noncomputable section
namespace Go.Proofs.YtbjkpddloieekaaGreatDoor.Pvm
open Go Go.Proofs
def wq106:List LS:=[.ag [.sl kdT25]]
def wqkk{R:Type}(K:(Bool→Option R)): Out→Option R
 |.ret [.v .bool y0] []=>K y0
 |_=>none
def wq137:RetSpec:=⟨[.any],[],[]⟩
def wq138(k:Nat): Ctx:=⟨tyT,[],(.add 98 wqr0 (wq3p k) .nil),[],[],[(1,(.of [(0,1),(1,1),(2,1),(3,1),(4,1),(5,1),(6,1),(7,1),(8,1),(9,1),(10,1),(13,1),(11,1),(14,2),(15,1),(12,0),(16,1),(17,1),(18,1)] .done))],@SH⟩
def wqur(k:Nat){R:Type}(x0:(List dT25))(K:(Bool→Option R)): Option R:=cond ((cond (decide ((x0.length:Int)≥1)) (decide ((x0.length:Int)≤2000)) false) == true) (wqf4 k x0 0 1 (fun y4=>K (y4 == (x0.length:Int)))) (K false)
def wqc0(k:Nat){R:Type}(x0:(List dT25))(K:(Bool→Option R)): Option R:=wqur k x0 K
theorem wqy2(k:Nat){R:Type}(x0:(List dT25))(K:(Bool→Option R)): fnW (wq138 k) k Tryz.f50 wq137 [.agg [.v kdT28 x0]] [] (wqkk K)=wqc0 k x0 K:=by
 kernel_rfl
def wqbd(k:Nat){R:Type}: List PV→List (Nm×HObj)→(Out→Option R)→Option R
 |[.agg [.v (.sl (.pr (.int .i64) (.pr (.int .i64) (.pr .str (.pr .bool (.pr (.sl .str) (.sl (.int .i64)))))))) x0]],[],K=>wqc0 k x0 (fun y0=>K (.ret [.v .bool y0] []))
 |_,_,_=>none
theorem wq16i(k:Nat): DOK Tryz.prog 50 (wqbd k):=by
 intro ps hp R K r h
 have h:wqbd k ps hp K=some r:=h
 unfold wqbd at h
 split at h
 ·rw[←wqy2]at h
  exact fnW_ok ⟨tyT_ok,(wq4 (wq192 k) CTab.nil_ok),fun _ _=>rfl⟩ mixed (by kernel_rfl) (by kernel_rfl) h fun o ho=>by unfold wqkk at ho;split at ho<;>first|exact ho|cases ho
 ·cases h
end Go.Proofs.YtbjkpddloieekaaGreatDoor.Pvm
end
noncomputable section
namespace Go.Proofs.YtbjkpddloieekaaGreatDoor.Pvm
open Go Go.Proofs
def wqc1:List LS:=[.ag [.sl kdT25],.any]
def wqr1{R:Type}(K:(Bool→Option R)): Out→Option R
 |.ret [.v .bool y0] []=>K y0
 |_=>none
def wq193:RetSpec:=⟨[.any],[],[]⟩
def wq194(k:Nat): Ctx:=⟨tyT,[],(.add 50 wq106 (wqbd k) .nil),[],[],[],@SH⟩
def wq11f(k:Nat){R:Type}(x0:(List dT25))(x1:Int)(K:(Bool→Option R)): Option R:=cond ((cond (decide (x1≥0)) (decide (x1<(x0.length:Int))) false) == true) (wqc0 k x0 K) (K false)
def wq76(k:Nat){R:Type}(x0:(List dT25))(x1:Int)(K:(Bool→Option R)): Option R:=wq11f k x0 x1 K
theorem wq139(k:Nat){R:Type}(x0:(List dT25))(x1:Int)(K:(Bool→Option R)): fnW (wq194 k) k Tryz.f83 wq193 [.agg [.v kdT28 x0],.v kI x1] [] (wqr1 K)=wq76 k x0 x1 K:=by
 kernel_rfl
def wq4n(k:Nat){R:Type}: List PV→List (Nm×HObj)→(Out→Option R)→Option R
 |[.agg [.v (.sl (.pr (.int .i64) (.pr (.int .i64) (.pr .str (.pr .bool (.pr (.sl .str) (.sl (.int .i64)))))))) x0],.v (.int .i64) x1],[],K=>wq76 k x0 x1 (fun y0=>K (.ret [.v .bool y0] []))
 |_,_,_=>none
theorem wqh8(k:Nat): DOK Tryz.prog 83 (wq4n k):=by
 intro ps hp R K r h
 have h:wq4n k ps hp K=some r:=h
 unfold wq4n at h
 split at h
 ·rw[←wq139]at h
  exact fnW_ok ⟨tyT_ok,(wq4 (wq16i k) CTab.nil_ok),fun _ _=>rfl⟩ mixed (by kernel_rfl) (by kernel_rfl) h fun o ho=>by unfold wqr1 at ho;split at ho<;>first|exact ho|cases ho
 ·cases h
end Go.Proofs.YtbjkpddloieekaaGreatDoor.Pvm
end
noncomputable section
namespace Go.Proofs.YtbjkpddloieekaaGreatDoor.Pvm
open Go Go.Proofs
def wqr2:List LS:=[.ag [.sl kdT25],.any]
def wqme{R:Type}(K:(Bool→Int→Int→Option R)): Out→Option R
 |.ret [.v .bool y0,.agg [.v (.int .i64) y1,.v (.int .i64) y2]] []=>K y0 y1 y2
 |_=>none
def wq16j:RetSpec:=⟨[.any,.ag [.any,.any]],[],[]⟩
def wq16k(k:Nat): Ctx:=⟨tyT,[],(.add 83 wqc1 (wq4n k) (.add 85 wqxq (wq9k k) .nil)),[],[],[],@SH⟩
def wqy3(k:Nat){R:Type}(x0:(List dT25))(x1:Int)(K:(Bool→Int→Int→Option R)): Option R:=wq76 k x0 x1 (fun y5=>cond (!y5) (K false 11 0) (wqd6 k x0 x1 K))
def wq6h(k:Nat){R:Type}(x0:(List dT25))(x1:Int)(K:(Bool→Int→Int→Option R)): Option R:=wqy3 k x0 x1 K
theorem wq107(k:Nat){R:Type}(x0:(List dT25))(x1:Int)(K:(Bool→Int→Int→Option R)): fnW (wq16k k) k Tryz.f37 wq16j [.agg [.v kdT28 x0],.v kI x1] [] (wqme K)=wq6h k x0 x1 K:=by
 kernel_rfl
def wqdc(k:Nat){R:Type}: List PV→List (Nm×HObj)→(Out→Option R)→Option R
 |[.agg [.v (.sl (.pr (.int .i64) (.pr (.int .i64) (.pr .str (.pr .bool (.pr (.sl .str) (.sl (.int .i64)))))))) x0],.v (.int .i64) x1],[],K=>wq6h k x0 x1 (fun y0 y1 y2=>K (.ret [.v .bool y0,.agg [.v (.int .i64) y1,.v (.int .i64) y2]] []))
 |_,_,_=>none
theorem wq195(k:Nat): DOK Tryz.prog 37 (wqdc k):=by
 intro ps hp R K r h
 have h:wqdc k ps hp K=some r:=h
 unfold wqdc at h
 split at h
 ·rw[←wq107]at h
  exact fnW_ok ⟨tyT_ok,(wq4 (wqh8 k) (wq4 (wq12w k) CTab.nil_ok)),fun _ _=>rfl⟩ mixed (by kernel_rfl) (by kernel_rfl) h fun o ho=>by unfold wqme at ho;split at ho<;>first|exact ho|cases ho
 ·cases h
end Go.Proofs.YtbjkpddloieekaaGreatDoor.Pvm
end
noncomputable section
namespace Go.Proofs.YtbjkpddloieekaaGreatDoor.Pvm
open Go Go.Proofs
def wq16l:List LS:=[.any]
def wqdd{R:Type}(K:(Bool→Option R)): Out→Option R
 |.ret [.v .bool y0] []=>K y0
 |_=>none
def wqoz:RetSpec:=⟨[.any],[],[]⟩
def wqp0(k:Nat): Ctx:=⟨tyT,[(1004,⟨[(0,.any),(3,.any)],[]⟩)],.nil,[],[],[],@SH⟩
def wq8e(s0:(List UInt8))(s1:Int): St:=⟨mkT [(0,.v .str s0),(3,.v kI s1)],mkH []⟩
def wqf5(k:Nat){R:Type}(I:Nat→St→Option R)(n:Nat)(s:St)(K:(Bool→Option R)): Option R:=loopK (wqp0 k) k Tryz.f92 wqoz 1004 [1,1,0,1,0] I n s (wqdd K)
def wqa0(k:Nat){R:Type}(E1004:((List UInt8)→Int→Option R))(s0:(List UInt8))(s1:Int)(K:(Bool→Option R)): Option R:=cond (decide (s1<(s0.length:Int))) (cond (inb s1 (s0.length:Int)) (cond ((!((decide (((s0.getD s1.toNat 0).toNat:Int)<33)) == false)) || (inb s1 (s0.length:Int))) (cond (cond (decide (((s0.getD s1.toNat 0).toNat:Int)<33)) true (decide (((s0.getD s1.toNat 0).toNat:Int)>126))) (K false) (E1004 s0 (@Go.IntKind.wrap Go.IntKind.i64 (s1+1)))) none) none) (K true)
theorem wqr3(k:Nat){R:Type}(I:Nat→St→Option R)(s0:(List UInt8))(s1:Int)(K:(Bool→Option R)): bodyK (wqp0 k) k Tryz.f92 wqoz [1,1,0,1,0,0] I (wq8e s0 s1) (wqdd K)=wqa0 k (fun s0 s1=>I 1004 (wq8e s0 s1)) s0 s1 K:=by kernel_rfl
def wqtk(k:Nat){R:Type}(E1004:((List UInt8)→Int→Option R))(x0:(List UInt8))(K:(Bool→Option R)): Option R:=cond (cond (decide ((x0.length:Int)<1)) true (decide ((x0.length:Int)>64))) (K false) (E1004 x0 0)
def wq4j(k:Nat){R:Type}: Nat→(List UInt8)→Int→(Bool→Option R)→Option R
 |0,_,_,_=>none
 |n+1,s0,s1,K=>wqa0 k (fun s0 s1=>wq4j k n s0 s1 K) s0 s1 K
theorem wqr4(k:Nat){R:Type}(I:Nat→St→Option R)(K:(Bool→Option R))(n:Nat): ∀(s0:(List UInt8)) (s1:Int),wqf5 k I n (wq8e s0 s1) K=wq4j k n s0 s1 K:=by
 induction n with
 |zero=>intros;rfl
 |succ n ih =>
  intro s0 s1
  refine(?_:_=_).trans ((wqr3 k (upI 1004 (fun s=>wqf5 k I n s K) I) s0 s1 K).trans ?_)
  ·rfl
  ·simp only[wqy,ih]<;>rfl
def wqh9(k:Nat){R:Type}(x0:(List UInt8))(K:(Bool→Option R)): Option R:=wqtk k (fun s0 s1=>wq4j k k s0 s1 K) x0 K
theorem wq13a(k:Nat){R:Type}(x0:(List UInt8))(K:(Bool→Option R)): fnW (wqp0 k) k Tryz.f92 wqoz [.v .str x0] [] (wqdd K)=wqh9 k x0 K:=by
 refine Eq.trans (b:=wqtk k (fun s0 s1=>wqf5 k (fun _ _=>none) k (wq8e s0 s1) K) x0 K) (by kernel_rfl) ?_
 simp only[wqr4]<;>rfl
def wqfz(k:Nat){R:Type}: List PV→List (Nm×HObj)→(Out→Option R)→Option R
 |[.v .str x0],[],K=>wqh9 k x0 (fun y0=>K (.ret [.v .bool y0] []))
 |_,_,_=>none
theorem wq1c0(k:Nat): DOK Tryz.prog 92 (wqfz k):=by
 intro ps hp R K r h
 have h:wqfz k ps hp K=some r:=h
 unfold wqfz at h
 split at h
 ·rw[←wq13a]at h
  exact fnW_ok ⟨tyT_ok,CTab.nil_ok,fun _ _=>rfl⟩ mixed (by kernel_rfl) (by kernel_rfl) h fun o ho=>by unfold wqdd at ho;split at ho<;>first|exact ho|cases ho
 ·cases h
end Go.Proofs.YtbjkpddloieekaaGreatDoor.Pvm
end
noncomputable section
namespace Go.Proofs.YtbjkpddloieekaaGreatDoor.Pvm
open Go Go.Proofs
def wqy4:List LS:=[.ag [.sl kdT25],.any]
def wqiy{R:Type}(K:((List UInt8)→Int→Int→Option R)): Out→Option R
 |.ret [.v .str y0,.agg [.v (.int .i64) y1,.v (.int .i64) y2]] []=>K y0 y1 y2
 |_=>none
def wq108:RetSpec:=⟨[.any,.ag [.any,.any]],[],[]⟩
def wq109(k:Nat): Ctx:=⟨tyT,[],(.add 92 wq16l (wqfz k) (.add 145 wqex (wq6f k) .nil)),[],[],[],@SH⟩
def wqr5(k:Nat){R:Type}(x0:(List dT25))(x1:Int)(K:((List UInt8)→Int→Int→Option R)): Option R:=cond (inb x1 (x0.length:Int)) (cond ((x0.getD x1.toNat (Kd.zero (@Kd.pr kI (@Kd.pr kI (@Kd.pr Kd.str (@Kd.pr Kd.bool (@Kd.pr (@Kd.sl Kd.str) (@Kd.sl kI)))))))).1 != 1) (wq30 k x0 x1 11 (fun y5 y6=>K [] y5 y6)) (wqh9 k (((x0.getD x1.toNat (Kd.zero (@Kd.pr kI (@Kd.pr kI (@Kd.pr Kd.str (@Kd.pr Kd.bool (@Kd.pr (@Kd.sl Kd.str) (@Kd.sl kI)))))))).2).2).1 (fun y5=>cond (!y5) (wq30 k x0 x1 12 (fun y6 y7=>K [] y6 y7)) (K (((x0.getD x1.toNat (Kd.zero (@Kd.pr kI (@Kd.pr kI (@Kd.pr Kd.str (@Kd.pr Kd.bool (@Kd.pr (@Kd.sl Kd.str) (@Kd.sl kI)))))))).2).2).1 0 0)))) none
def wqde(k:Nat){R:Type}(x0:(List dT25))(x1:Int)(K:((List UInt8)→Int→Int→Option R)): Option R:=wqr5 k x0 x1 K
theorem wqvi(k:Nat){R:Type}(x0:(List dT25))(x1:Int)(K:((List UInt8)→Int→Int→Option R)): fnW (wq109 k) k Tryz.f88 wq108 [.agg [.v kdT28 x0],.v kI x1] [] (wqiy K)=wqde k x0 x1 K:=by
 kernel_rfl
def wqa1(k:Nat){R:Type}: List PV→List (Nm×HObj)→(Out→Option R)→Option R
 |[.agg [.v (.sl (.pr (.int .i64) (.pr (.int .i64) (.pr .str (.pr .bool (.pr (.sl .str) (.sl (.int .i64)))))))) x0],.v (.int .i64) x1],[],K=>wqde k x0 x1 (fun y0 y1 y2=>K (.ret [.v .str y0,.agg [.v (.int .i64) y1,.v (.int .i64) y2]] []))
 |_,_,_=>none
theorem wq13b(k:Nat): DOK Tryz.prog 88 (wqa1 k):=by
 intro ps hp R K r h
 have h:wqa1 k ps hp K=some r:=h
 unfold wqa1 at h
 split at h
 ·rw[←wqvi]at h
  exact fnW_ok ⟨tyT_ok,(wq4 (wq1c0 k) (wq4 (wqk9 k) CTab.nil_ok)),fun _ _=>rfl⟩ mixed (by kernel_rfl) (by kernel_rfl) h fun o ho=>by unfold wqiy at ho;split at ho<;>first|exact ho|cases ho
 ·cases h
end Go.Proofs.YtbjkpddloieekaaGreatDoor.Pvm
end
noncomputable section
namespace Go.Proofs.YtbjkpddloieekaaGreatDoor.Pvm
open Go Go.Proofs
def wqr6:List LS:=[.ag [.sl kdT25],.any]
def wqmf{R:Type}(K:((List UInt8)→Int→Int→Option R)): Out→Option R
 |.ret [.v .str y0,.agg [.v (.int .i64) y1,.v (.int .i64) y2]] []=>K y0 y1 y2
 |_=>none
def wq16m:RetSpec:=⟨[.any,.ag [.any,.any]],[],[]⟩
def wq16n(k:Nat): Ctx:=⟨tyT,[],(.add 83 wqc1 (wq4n k) (.add 88 wqy4 (wqa1 k) .nil)),[],[],[],@SH⟩
def wqy5(k:Nat){R:Type}(x0:(List dT25))(x1:Int)(K:((List UInt8)→Int→Int→Option R)): Option R:=wq76 k x0 x1 (fun y5=>cond (!y5) (K [] 11 0) (wqde k x0 x1 K))
def wq6i(k:Nat){R:Type}(x0:(List dT25))(x1:Int)(K:((List UInt8)→Int→Int→Option R)): Option R:=wqy5 k x0 x1 K
theorem wq10a(k:Nat){R:Type}(x0:(List dT25))(x1:Int)(K:((List UInt8)→Int→Int→Option R)): fnW (wq16n k) k Tryz.f40 wq16m [.agg [.v kdT28 x0],.v kI x1] [] (wqmf K)=wq6i k x0 x1 K:=by
 kernel_rfl
def wqdf(k:Nat){R:Type}: List PV→List (Nm×HObj)→(Out→Option R)→Option R
 |[.agg [.v (.sl (.pr (.int .i64) (.pr (.int .i64) (.pr .str (.pr .bool (.pr (.sl .str) (.sl (.int .i64)))))))) x0],.v (.int .i64) x1],[],K=>wq6i k x0 x1 (fun y0 y1 y2=>K (.ret [.v .str y0,.agg [.v (.int .i64) y1,.v (.int .i64) y2]] []))
 |_,_,_=>none
theorem wq196(k:Nat): DOK Tryz.prog 40 (wqdf k):=by
 intro ps hp R K r h
 have h:wqdf k ps hp K=some r:=h
 unfold wqdf at h
 split at h
 ·rw[←wq10a]at h
  exact fnW_ok ⟨tyT_ok,(wq4 (wqh8 k) (wq4 (wq13b k) CTab.nil_ok)),fun _ _=>rfl⟩ mixed (by kernel_rfl) (by kernel_rfl) h fun o ho=>by unfold wqmf at ho;split at ho<;>first|exact ho|cases ho
 ·cases h
end Go.Proofs.YtbjkpddloieekaaGreatDoor.Pvm
end
noncomputable section
namespace Go.Proofs.YtbjkpddloieekaaGreatDoor.Pvm
open Go Go.Proofs
def wqr7:List LS:=[.any]
def wqmg{R:Type}(K:(Bool→Option R)): Out→Option R
 |.ret [.v .bool y0] []=>K y0
 |_=>none
def wq16o:RetSpec:=⟨[.any],[],[]⟩
def wq16p(k:Nat): Ctx:=⟨tyT,[],.nil,[],[],[],@SH⟩
def wqy6(k:Nat){R:Type}(x0:Int)(K:(Bool→Option R)): Option R:=K (cond (decide (x0≥48)) (decide (x0≤57)) false)
def wq8r(k:Nat){R:Type}(x0:Int)(K:(Bool→Option R)): Option R:=wqy6 k x0 K
theorem wq10b(k:Nat){R:Type}(x0:Int)(K:(Bool→Option R)): fnW (wq16p k) k Tryz.f191 wq16o [.v (.int .u8) x0] [] (wqmg K)=wq8r k x0 K:=by
 kernel_rfl
def wqa2(k:Nat){R:Type}: List PV→List (Nm×HObj)→(Out→Option R)→Option R
 |[.v (.int .u8) x0],[],K=>wq8r k x0 (fun y0=>K (.ret [.v .bool y0] []))
 |_,_,_=>none
theorem wqy7(k:Nat): DOK Tryz.prog 191 (wqa2 k):=by
 intro ps hp R K r h
 have h:wqa2 k ps hp K=some r:=h
 unfold wqa2 at h
 split at h
 ·rw[←wq10b]at h
  exact fnW_ok ⟨tyT_ok,CTab.nil_ok,fun _ _=>rfl⟩ mixed (by kernel_rfl) (by kernel_rfl) h fun o ho=>by unfold wqmg at ho;split at ho<;>first|exact ho|cases ho
 ·cases h
end Go.Proofs.YtbjkpddloieekaaGreatDoor.Pvm
end
noncomputable section
namespace Go.Proofs.YtbjkpddloieekaaGreatDoor.Pvm
open Go Go.Proofs
def wq13c:List LS:=[.any]
def wqbe{R:Type}(K:(Int→Bool→Option R)): Out→Option R
 |.ret [.v (.int .i64) y0,.v .bool y1] []=>K y0 y1
 |_=>none
def wqkl:RetSpec:=⟨[.any,.any],[],[]⟩
def wqkm(k:Nat): Ctx:=⟨tyT,[(1005,⟨[(0,.any),(4,.any),(5,.any)],[]⟩)],(.add 191 wqr7 (wqa2 k) .nil),[],[],[],@SH⟩
def wq77(s0:(List UInt8))(s1 s2:Int): St:=⟨mkT [(0,.v .str s0),(4,.v kI s1),(5,.v kI s2)],mkH []⟩
def wqcg(k:Nat){R:Type}(I:Nat→St→Option R)(n:Nat)(s:St)(K:(Int→Bool→Option R)): Option R:=loopK (wqkm k) k Tryz.f146 wqkl 1005 [1,1,1,0,1,0] I n s (wqbe K)
def wq8f(k:Nat){R:Type}(E1005:((List UInt8)→Int→Int→Option R))(s0:(List UInt8))(s1 s2:Int)(K:(Int→Bool→Option R)): Option R:=cond (decide (s2<(s0.length:Int))) (cond (inb s2 (s0.length:Int)) (wq8r k ((s0.getD s2.toNat 0).toNat:Int) (fun y7=>cond (!y7) (K 0 false) (cond (inb s2 (s0.length:Int)) (cond (decide (s1>(@Go.IntKind.wrap Go.IntKind.i64 (Int.tdiv (@Go.IntKind.wrap Go.IntKind.i64 ((4611686018427387904:Int)-(@Go.IntKind.wrap Go.IntKind.i64 (@Go.IntKind.wrap Go.IntKind.u8 (((s0.getD s2.toNat 0).toNat:Int)-48))))) 10)))) (K 0 false) (E1005 s0 (@Go.IntKind.wrap Go.IntKind.i64 ((@Go.IntKind.wrap Go.IntKind.i64 (s1*10))+(@Go.IntKind.wrap Go.IntKind.i64 (@Go.IntKind.wrap Go.IntKind.u8 (((s0.getD s2.toNat 0).toNat:Int)-48))))) (@Go.IntKind.wrap Go.IntKind.i64 (s2+1)))) none))) none) (K s1 true)
theorem wqp1(k:Nat){R:Type}(I:Nat→St→Option R)(s0:(List UInt8))(s1 s2:Int)(K:(Int→Bool→Option R)): bodyK (wqkm k) k Tryz.f146 wqkl [1,1,1,0,1,0,0] I (wq77 s0 s1 s2) (wqbe K)=wq8f k (fun s0 s1 s2=>I 1005 (wq77 s0 s1 s2)) s0 s1 s2 K:=by kernel_rfl
def wqp2(k:Nat){R:Type}(E1005:((List UInt8)→Int→Int→Option R))(x0:(List UInt8))(K:(Int→Bool→Option R)): Option R:=cond ((!(((cond (decide ((x0.length:Int)<1)) true (decide ((x0.length:Int)>19))) == false)&&((decide ((x0.length:Int)>1)) == true))) || (inb 0 (x0.length:Int))) (cond (cond (cond (decide ((x0.length:Int)<1)) true (decide ((x0.length:Int)>19))) true (cond (decide ((x0.length:Int)>1)) (((x0.getD (Int.toNat 0) 0).toNat:Int) == 48) false)) (K 0 false) (E1005 x0 0 0)) none
def wq3d(k:Nat){R:Type}: Nat→(List UInt8)→Int→Int→(Int→Bool→Option R)→Option R
 |0,_,_,_,_=>none
 |n+1,s0,s1,s2,K=>wq8f k (fun s0 s1 s2=>wq3d k n s0 s1 s2 K) s0 s1 s2 K
theorem wqp3(k:Nat){R:Type}(I:Nat→St→Option R)(K:(Int→Bool→Option R))(n:Nat): ∀(s0:(List UInt8)) (s1 s2:Int),wqcg k I n (wq77 s0 s1 s2) K=wq3d k n s0 s1 s2 K:=by
 induction n with
 |zero=>intros;rfl
 |succ n ih =>
  intro s0 s1 s2
  refine(?_:_=_).trans ((wqp1 k (upI 1005 (fun s=>wqcg k I n s K) I) s0 s1 s2 K).trans ?_)
  ·rfl
  ·simp only[wqy,ih]<;>rfl
def wqf6(k:Nat){R:Type}(x0:(List UInt8))(K:(Int→Bool→Option R)): Option R:=wqp2 k (fun s0 s1 s2=>wq3d k k s0 s1 s2 K) x0 K
theorem wq10c(k:Nat){R:Type}(x0:(List UInt8))(K:(Int→Bool→Option R)): fnW (wqkm k) k Tryz.f146 wqkl [.v .str x0] [] (wqbe K)=wqf6 k x0 K:=by
 refine Eq.trans (b:=wqp2 k (fun s0 s1 s2=>wqcg k (fun _ _=>none) k (wq77 s0 s1 s2) K) x0 K) (by kernel_rfl) ?_
 simp only[wqp3]<;>rfl
def wqdg(k:Nat){R:Type}: List PV→List (Nm×HObj)→(Out→Option R)→Option R
 |[.v .str x0],[],K=>wqf6 k x0 (fun y0 y1=>K (.ret [.v (.int .i64) y0,.v .bool y1] []))
 |_,_,_=>none
theorem wq197(k:Nat): DOK Tryz.prog 146 (wqdg k):=by
 intro ps hp R K r h
 have h:wqdg k ps hp K=some r:=h
 unfold wqdg at h
 split at h
 ·rw[←wq10c]at h
  exact fnW_ok ⟨tyT_ok,(wq4 (wqy7 k) CTab.nil_ok),fun _ _=>rfl⟩ mixed (by kernel_rfl) (by kernel_rfl) h fun o ho=>by unfold wqbe at ho;split at ho<;>first|exact ho|cases ho
 ·cases h
end Go.Proofs.YtbjkpddloieekaaGreatDoor.Pvm
end
noncomputable section
namespace Go.Proofs.YtbjkpddloieekaaGreatDoor.Pvm
open Go Go.Proofs
def wqtl:List LS:=[.ag [.sl kdT25],.any,.any,.any]
def wqg0{R:Type}(K:(Int→Int→Int→Option R)): Out→Option R
 |.ret [.v (.int .i64) y0,.agg [.v (.int .i64) y1,.v (.int .i64) y2]] []=>K y0 y1 y2
 |_=>none
def wqvj:RetSpec:=⟨[.any,.ag [.any,.any]],[],[]⟩
def wqvk(k:Nat): Ctx:=⟨tyT,[],(.add 145 wqex (wq6f k) (.add 146 wq13c (wqdg k) .nil)),[],[],[],@SH⟩
def wqkn(k:Nat){R:Type}(x0:(List dT25))(x1 x2 x3:Int)(K:(Int→Int→Int→Option R)): Option R:=cond (inb x1 (x0.length:Int)) (cond ((x0.getD x1.toNat (Kd.zero (@Kd.pr kI (@Kd.pr kI (@Kd.pr Kd.str (@Kd.pr Kd.bool (@Kd.pr (@Kd.sl Kd.str) (@Kd.sl kI)))))))).1 != 1) (wq30 k x0 x1 11 (fun y7 y8=>K 0 y7 y8)) (wqf6 k (((x0.getD x1.toNat (Kd.zero (@Kd.pr kI (@Kd.pr kI (@Kd.pr Kd.str (@Kd.pr Kd.bool (@Kd.pr (@Kd.sl Kd.str) (@Kd.sl kI)))))))).2).2).1 (fun y7 y8=>cond (cond (cond (cond ((((x0.getD x1.toNat (Kd.zero (@Kd.pr kI (@Kd.pr kI (@Kd.pr Kd.str (@Kd.pr Kd.bool (@Kd.pr (@Kd.sl Kd.str) (@Kd.sl kI)))))))).2).2).2).1 true (!y8)) true (decide (y7<x2))) true (decide (y7>x3))) (wq30 k x0 x1 13 (fun y9 y10=>K 0 y9 y10)) (K y7 0 0)))) none
def wqa3(k:Nat){R:Type}(x0:(List dT25))(x1 x2 x3:Int)(K:(Int→Int→Int→Option R)): Option R:=wqkn k x0 x1 x2 x3 K
theorem wqr8(k:Nat){R:Type}(x0:(List dT25))(x1 x2 x3:Int)(K:(Int→Int→Int→Option R)): fnW (wqvk k) k Tryz.f84 wqvj [.agg [.v kdT28 x0],.v kI x1,.v kI x2,.v kI x3] [] (wqg0 K)=wqa3 k x0 x1 x2 x3 K:=by
 kernel_rfl
def wq78(k:Nat){R:Type}: List PV→List (Nm×HObj)→(Out→Option R)→Option R
 |[.agg [.v (.sl (.pr (.int .i64) (.pr (.int .i64) (.pr .str (.pr .bool (.pr (.sl .str) (.sl (.int .i64)))))))) x0],.v (.int .i64) x1,.v (.int .i64) x2,.v (.int .i64) x3],[],K=>wqa3 k x0 x1 x2 x3 (fun y0 y1 y2=>K (.ret [.v (.int .i64) y0,.agg [.v (.int .i64) y1,.v (.int .i64) y2]] []))
 |_,_,_=>none
theorem wqy8(k:Nat): DOK Tryz.prog 84 (wq78 k):=by
 intro ps hp R K r h
 have h:wq78 k ps hp K=some r:=h
 unfold wq78 at h
 split at h
 ·rw[←wqr8]at h
  exact fnW_ok ⟨tyT_ok,(wq4 (wqk9 k) (wq4 (wq197 k) CTab.nil_ok)),fun _ _=>rfl⟩ mixed (by kernel_rfl) (by kernel_rfl) h fun o ho=>by unfold wqg0 at ho;split at ho<;>first|exact ho|cases ho
 ·cases h
end Go.Proofs.YtbjkpddloieekaaGreatDoor.Pvm
end
noncomputable section
namespace Go.Proofs.YtbjkpddloieekaaGreatDoor.Pvm
open Go Go.Proofs
def wqko:List LS:=[.ag [.sl kdT25],.any,.any,.any]
def wqiz{R:Type}(K:(Int→Int→Int→Option R)): Out→Option R
 |.ret [.v (.int .i64) y0,.agg [.v (.int .i64) y1,.v (.int .i64) y2]] []=>K y0 y1 y2
 |_=>none
def wq10d:RetSpec:=⟨[.any,.ag [.any,.any]],[],[]⟩
def wq10e(k:Nat): Ctx:=⟨tyT,[],(.add 83 wqc1 (wq4n k) (.add 84 wqtl (wq78 k) .nil)),[],[],[],@SH⟩
def wqr9(k:Nat){R:Type}(x0:(List dT25))(x1 x2 x3:Int)(K:(Int→Int→Int→Option R)): Option R:=wq76 k x0 x1 (fun y7=>cond (!y7) (K 0 11 0) (wqa3 k x0 x1 x2 x3 K))
def wq3q(k:Nat){R:Type}(x0:(List dT25))(x1 x2 x3:Int)(K:(Int→Int→Int→Option R)): Option R:=wqr9 k x0 x1 x2 x3 K
theorem wqvl(k:Nat){R:Type}(x0:(List dT25))(x1 x2 x3:Int)(K:(Int→Int→Int→Option R)): fnW (wq10e k) k Tryz.f36 wq10d [.agg [.v kdT28 x0],.v kI x1,.v kI x2,.v kI x3] [] (wqiz K)=wq3q k x0 x1 x2 x3 K:=by
 kernel_rfl
def wqa4(k:Nat){R:Type}: List PV→List (Nm×HObj)→(Out→Option R)→Option R
 |[.agg [.v (.sl (.pr (.int .i64) (.pr (.int .i64) (.pr .str (.pr .bool (.pr (.sl .str) (.sl (.int .i64)))))))) x0],.v (.int .i64) x1,.v (.int .i64) x2,.v (.int .i64) x3],[],K=>wq3q k x0 x1 x2 x3 (fun y0 y1 y2=>K (.ret [.v (.int .i64) y0,.agg [.v (.int .i64) y1,.v (.int .i64) y2]] []))
 |_,_,_=>none
theorem wq13d(k:Nat): DOK Tryz.prog 36 (wqa4 k):=by
 intro ps hp R K r h
 have h:wqa4 k ps hp K=some r:=h
 unfold wqa4 at h
 split at h
 ·rw[←wqvl]at h
  exact fnW_ok ⟨tyT_ok,(wq4 (wqh8 k) (wq4 (wqy8 k) CTab.nil_ok)),fun _ _=>rfl⟩ mixed (by kernel_rfl) (by kernel_rfl) h fun o ho=>by unfold wqiz at ho;split at ho<;>first|exact ho|cases ho
 ·cases h
end Go.Proofs.YtbjkpddloieekaaGreatDoor.Pvm
end
noncomputable section
namespace Go.Proofs.YtbjkpddloieekaaGreatDoor.Pvm
open Go Go.Proofs
def wq198:List LS:=[.any]
def wqg1{R:Type}(K:(Int→Option R)): Out→Option R
 |.ret [.v (.int .i64) y0] []=>K y0
 |_=>none
def wqtm:RetSpec:=⟨[.any],[],[]⟩
def wqtn(k:Nat): Ctx:=⟨tyT,[(1003,⟨[(0,.any),(3,.any),(4,.any)],[]⟩)],.nil,[],[],[],@SH⟩
def wqa5(s0 s1 s2:Int): St:=⟨mkT [(0,.v kI s0),(3,.v kI s1),(4,.v kI s2)],mkH []⟩
def wqgp(k:Nat){R:Type}(I:Nat→St→Option R)(n:Nat)(s:St)(K:(Int→Option R)): Option R:=loopK (wqtn k) k Tryz.f151 wqtm 1003 [1,1,0,1,0] I n s (wqg1 K)
def wqbf(k:Nat){R:Type}(E1003:(Int→Int→Int→Option R))(s0 s1 s2:Int)(K:(Int→Option R)): Option R:=cond (decide (s2<s0)) (E1003 s0 (@Go.IntKind.wrap Go.IntKind.i64 (s1*10)) (@Go.IntKind.wrap Go.IntKind.i64 (s2+1))) (K s1)
theorem wqto(k:Nat){R:Type}(I:Nat→St→Option R)(s0 s1 s2:Int)(K:(Int→Option R)): bodyK (wqtn k) k Tryz.f151 wqtm [1,1,0,1,0,0] I (wqa5 s0 s1 s2) (wqg1 K)=wqbf k (fun s0 s1 s2=>I 1003 (wqa5 s0 s1 s2)) s0 s1 s2 K:=by kernel_rfl
def wqy9(k:Nat){R:Type}(E1003:(Int→Int→Int→Option R))(x0:Int)(K:(Int→Option R)): Option R:=E1003 x0 1 0
def wq5k(k:Nat){R:Type}: Nat→Int→Int→Int→(Int→Option R)→Option R
 |0,_,_,_,_=>none
 |n+1,s0,s1,s2,K=>wqbf k (fun s0 s1 s2=>wq5k k n s0 s1 s2 K) s0 s1 s2 K
theorem wqtp(k:Nat){R:Type}(I:Nat→St→Option R)(K:(Int→Option R))(n:Nat): ∀(s0 s1 s2:Int),wqgp k I n (wqa5 s0 s1 s2) K=wq5k k n s0 s1 s2 K:=by
 induction n with
 |zero=>intros;rfl
 |succ n ih =>
  intro s0 s1 s2
  refine(?_:_=_).trans ((wqto k (upI 1003 (fun s=>wqgp k I n s K) I) s0 s1 s2 K).trans ?_)
  ·rfl
  ·simp only[wqy,ih]<;>rfl
def wq6j(k:Nat){R:Type}(x0:Int)(K:(Int→Option R)): Option R:=wqy9 k (fun s0 s1 s2=>wq5k k k s0 s1 s2 K) x0 K
theorem wq16q(k:Nat){R:Type}(x0:Int)(K:(Int→Option R)): fnW (wqtn k) k Tryz.f151 wqtm [.v kI x0] [] (wqg1 K)=wq6j k x0 K:=by
 refine Eq.trans (b:=wqy9 k (fun s0 s1 s2=>wqgp k (fun _ _=>none) k (wqa5 s0 s1 s2) K) x0 K) (by kernel_rfl) ?_
 simp only[wqtp]<;>rfl
def wqia(k:Nat){R:Type}: List PV→List (Nm×HObj)→(Out→Option R)→Option R
 |[.v (.int .i64) x0],[],K=>wq6j k x0 (fun y0=>K (.ret [.v (.int .i64) y0] []))
 |_,_,_=>none
theorem wq1dy(k:Nat): DOK Tryz.prog 151 (wqia k):=by
 intro ps hp R K r h
 have h:wqia k ps hp K=some r:=h
 unfold wqia at h
 split at h
 ·rw[←wq16q]at h
  exact fnW_ok ⟨tyT_ok,CTab.nil_ok,fun _ _=>rfl⟩ mixed (by kernel_rfl) (by kernel_rfl) h fun o ho=>by unfold wqg1 at ho;split at ho<;>first|exact ho|cases ho
 ·cases h
end Go.Proofs.YtbjkpddloieekaaGreatDoor.Pvm
end
noncomputable section
namespace Go.Proofs.YtbjkpddloieekaaGreatDoor.Pvm
open Go Go.Proofs
def wq16r:List LS:=[.any]
def wq79{R:Type}(K:(Nat→Bool→Option R)): Out→Option R
 |.ret [.v .flt y0,.v .bool y1] []=>K y0 y1
 |_=>none
def wqf7:RetSpec:=⟨[.any,.any],[],[]⟩
def wqf8(k:Nat): Ctx:=⟨tyT,[(1011,⟨[(0,.any),(4,.any),(5,.any),(6,.any),(7,.any)],[]⟩),(1020,⟨[(0,.any),(4,.any),(5,.any),(6,.any),(7,.any)],[]⟩)],(.add 135 wqo4 (wqeo k) (.add 136 wqo3 (wqem k) (.add 151 wq198 (wqia k) (.add 191 wqr7 (wqa2 k) .nil)))),[],[],[],@SH⟩
def wq8g(s0:(List UInt8))(s1 s2 s3 s4:Int): St:=⟨mkT [(0,.v .str s0),(4,.v kI s1),(5,.v kI s2),(6,.v kI s3),(7,.v kI s4)],mkH []⟩
def wq8h(s0:(List UInt8))(s1 s2 s3 s4:Int): St:=⟨mkT [(0,.v .str s0),(4,.v kI s1),(5,.v kI s2),(6,.v kI s3),(7,.v kI s4)],mkH []⟩
def wqf9(k:Nat){R:Type}(I:Nat→St→Option R)(n:Nat)(s:St)(K:(Nat→Bool→Option R)): Option R:=loopK (wqf8 k) k Tryz.f147 wqf7 1011 [1,1,1,1,1,1,1,0,0] I n s (wq79 K)
def wqfa(k:Nat){R:Type}(I:Nat→St→Option R)(n:Nat)(s:St)(K:(Nat→Bool→Option R)): Option R:=loopK (wqf8 k) k Tryz.f147 wqf7 1020 [1,1,1,1,1,1,1,1,1,0,1,0,1,1,0,0] I n s (wq79 K)
def wqfb(k:Nat){R:Type}(E1011 E1020:((List UInt8)→Int→Int→Int→Int→Option R))(s0:(List UInt8))(s1 s2 s3 s4:Int)(K:(Nat→Bool→Option R)): Option R:=cond ((!((decide (s1<(s0.length:Int))) == true)) || (inb s1 (s0.length:Int))) (cond ((decide (s1<(s0.length:Int))) == true) (wq8r k ((s0.getD s1.toNat 0).toNat:Int) (fun y10=>cond (cond y10 (decide ((@Go.IntKind.wrap Go.IntKind.i64 (s1-s4))<9)) false) (cond (inb s1 (s0.length:Int)) (E1011 s0 (@Go.IntKind.wrap Go.IntKind.i64 (s1+1)) (@Go.IntKind.wrap Go.IntKind.i64 ((@Go.IntKind.wrap Go.IntKind.i64 (s2*10))+(@Go.IntKind.wrap Go.IntKind.i64 (@Go.IntKind.wrap Go.IntKind.u8 (((s0.getD s1.toNat 0).toNat:Int)-48))))) s3 s4) none) (cond ((!(((s1 == s4) == false)&&((decide ((@Go.IntKind.wrap Go.IntKind.i64 (s1-s4))>1)) == true))) || (inb s4 (s0.length:Int))) (cond (cond (s1 == s4) true (cond (decide ((@Go.IntKind.wrap Go.IntKind.i64 (s1-s4))>1)) (((s0.getD s4.toNat 0).toNat:Int) == 48) false)) (K 0 false) (cond (decide (s1<(s0.length:Int))) (cond (inb s1 (s0.length:Int)) (cond (((s0.getD s1.toNat 0).toNat:Int) != 46) (K 0 false) (E1020 s0 (@Go.IntKind.wrap Go.IntKind.i64 (s1+1)) s2 s3 s4)) none) (cond (decide (s1<(s0.length:Int))) (K 0 false) (wq6j k s3 (fun y11=>cond (@Option.isSome Nat (@fltAr @Go.BinOp.quo (@fltOf s2) (@fltOf y11))) (cond (s4 == 1) (K (@fltNeg (@Option.getD Nat (@fltAr @Go.BinOp.quo (@fltOf s2) (@fltOf y11)) (0:Nat))) true) (K (@Option.getD Nat (@fltAr @Go.BinOp.quo (@fltOf s2) (@fltOf y11)) (0:Nat)) true)) none))))) none))) (cond ((!(((s1 == s4) == false)&&((decide ((@Go.IntKind.wrap Go.IntKind.i64 (s1-s4))>1)) == true))) || (inb s4 (s0.length:Int))) (cond (cond (s1 == s4) true (cond (decide ((@Go.IntKind.wrap Go.IntKind.i64 (s1-s4))>1)) (((s0.getD s4.toNat 0).toNat:Int) == 48) false)) (K 0 false) (cond (decide (s1<(s0.length:Int))) (cond (inb s1 (s0.length:Int)) (cond (((s0.getD s1.toNat 0).toNat:Int) != 46) (K 0 false) (E1020 s0 (@Go.IntKind.wrap Go.IntKind.i64 (s1+1)) s2 s3 s4)) none) (cond (decide (s1<(s0.length:Int))) (K 0 false) (wq6j k s3 (fun y10=>cond (@Option.isSome Nat (@fltAr @Go.BinOp.quo (@fltOf s2) (@fltOf y10))) (cond (s4 == 1) (K (@fltNeg (@Option.getD Nat (@fltAr @Go.BinOp.quo (@fltOf s2) (@fltOf y10)) (0:Nat))) true) (K (@Option.getD Nat (@fltAr @Go.BinOp.quo (@fltOf s2) (@fltOf y10)) (0:Nat)) true)) none))))) none)) none
theorem wqra(k:Nat){R:Type}(I:Nat→St→Option R)(s0:(List UInt8))(s1 s2 s3 s4:Int)(K:(Nat→Bool→Option R)): bodyK (wqf8 k) k Tryz.f147 wqf7 [1,1,1,1,1,1,1,0,0,0] I (wq8g s0 s1 s2 s3 s4) (wq79 K)=wqfb k (fun s0 s1 s2 s3 s4=>I 1011 (wq8g s0 s1 s2 s3 s4)) (fun s0 s1 s2 s3 s4=>wqfa k I k (wq8h s0 s1 s2 s3 s4) K) s0 s1 s2 s3 s4 K:=by kernel_rfl
def wqa6(k:Nat){R:Type}(E1020:((List UInt8)→Int→Int→Int→Int→Option R))(s0:(List UInt8))(s1 s2 s3 s4:Int)(K:(Nat→Bool→Option R)): Option R:=cond ((!((decide (s1<(s0.length:Int))) == true)) || (inb s1 (s0.length:Int))) (cond ((decide (s1<(s0.length:Int))) == true) (wq8r k ((s0.getD s1.toNat 0).toNat:Int) (fun y10=>cond (cond y10 (decide (s3<6)) false) (cond (inb s1 (s0.length:Int)) (E1020 s0 (@Go.IntKind.wrap Go.IntKind.i64 (s1+1)) (@Go.IntKind.wrap Go.IntKind.i64 ((@Go.IntKind.wrap Go.IntKind.i64 (s2*10))+(@Go.IntKind.wrap Go.IntKind.i64 (@Go.IntKind.wrap Go.IntKind.u8 (((s0.getD s1.toNat 0).toNat:Int)-48))))) (@Go.IntKind.wrap Go.IntKind.i64 (s3+1)) s4) none) (cond (s3 == 0) (K 0 false) (cond (decide (s1<(s0.length:Int))) (K 0 false) (wq6j k s3 (fun y11=>cond (@Option.isSome Nat (@fltAr @Go.BinOp.quo (@fltOf s2) (@fltOf y11))) (cond (s4 == 1) (K (@fltNeg (@Option.getD Nat (@fltAr @Go.BinOp.quo (@fltOf s2) (@fltOf y11)) (0:Nat))) true) (K (@Option.getD Nat (@fltAr @Go.BinOp.quo (@fltOf s2) (@fltOf y11)) (0:Nat)) true)) none)))))) (cond (s3 == 0) (K 0 false) (cond (decide (s1<(s0.length:Int))) (K 0 false) (wq6j k s3 (fun y10=>cond (@Option.isSome Nat (@fltAr @Go.BinOp.quo (@fltOf s2) (@fltOf y10))) (cond (s4 == 1) (K (@fltNeg (@Option.getD Nat (@fltAr @Go.BinOp.quo (@fltOf s2) (@fltOf y10)) (0:Nat))) true) (K (@Option.getD Nat (@fltAr @Go.BinOp.quo (@fltOf s2) (@fltOf y10)) (0:Nat)) true)) none))))) none
theorem wqrb(k:Nat){R:Type}(I:Nat→St→Option R)(s0:(List UInt8))(s1 s2 s3 s4:Int)(K:(Nat→Bool→Option R)): bodyK (wqf8 k) k Tryz.f147 wqf7 [1,1,1,1,1,1,1,1,1,0,1,0,1,1,0,0,0] I (wq8h s0 s1 s2 s3 s4) (wq79 K)=wqa6 k (fun s0 s1 s2 s3 s4=>I 1020 (wq8h s0 s1 s2 s3 s4)) s0 s1 s2 s3 s4 K:=by kernel_rfl
def wqtq(k:Nat){R:Type}(E1011:((List UInt8)→Int→Int→Int→Int→Option R))(x0:(List UInt8))(K:(Nat→Bool→Option R)): Option R:=cond (x0 == [(110:UInt8),97,110]) (wqen k (fun y6=>K y6 true)) (cond (x0 == [(105:UInt8),110,102]) (wq9a k 1 (fun y6=>K y6 true)) (cond (x0 == [(45:UInt8),105,110,102]) (wq9a k (@Neg.neg Int @Int.instNegInt (1:Int)) (fun y6=>K y6 true)) (cond ((!((decide ((x0.length:Int)>0)) == true)) || (inb 0 (x0.length:Int))) (cond (cond (decide ((x0.length:Int)>0)) (((x0.getD (Int.toNat 0) 0).toNat:Int) == 45) false) (E1011 x0 1 0 0 1) (E1011 x0 0 0 0 0)) none)))
def wq24(k:Nat){R:Type}: Nat→(List UInt8)→Int→Int→Int→Int→(Nat→Bool→Option R)→Option R
 |0,_,_,_,_,_,_=>none
 |n+1,s0,s1,s2,s3,s4,K=>wqa6 k (fun s0 s1 s2 s3 s4=>wq24 k n s0 s1 s2 s3 s4 K) s0 s1 s2 s3 s4 K
theorem wqrc(k:Nat){R:Type}(I:Nat→St→Option R)(K:(Nat→Bool→Option R))(n:Nat): ∀(s0:(List UInt8)) (s1 s2 s3 s4:Int),wqfa k I n (wq8h s0 s1 s2 s3 s4) K=wq24 k n s0 s1 s2 s3 s4 K:=by
 induction n with
 |zero=>intros;rfl
 |succ n ih =>
  intro s0 s1 s2 s3 s4
  refine(?_:_=_).trans ((wqrb k (upI 1020 (fun s=>wqfa k I n s K) I) s0 s1 s2 s3 s4 K).trans ?_)
  ·rfl
  ·simp only[wqy,ih]<;>rfl
def wq6k(k:Nat){R:Type}: Nat→(List UInt8)→Int→Int→Int→Int→(Nat→Bool→Option R)→Option R
 |0,_,_,_,_,_,_=>none
 |n+1,s0,s1,s2,s3,s4,K=>wqfb k (fun s0 s1 s2 s3 s4=>wq6k k n s0 s1 s2 s3 s4 K) (fun s0 s1 s2 s3 s4=>wq24 k k s0 s1 s2 s3 s4 K) s0 s1 s2 s3 s4 K
theorem wqrd(k:Nat){R:Type}(I:Nat→St→Option R)(K:(Nat→Bool→Option R))(n:Nat): ∀(s0:(List UInt8)) (s1 s2 s3 s4:Int),wqf9 k I n (wq8g s0 s1 s2 s3 s4) K=wq6k k n s0 s1 s2 s3 s4 K:=by
 induction n with
 |zero=>intros;rfl
 |succ n ih =>
  intro s0 s1 s2 s3 s4
  refine(?_:_=_).trans ((wqra k (upI 1011 (fun s=>wqf9 k I n s K) I) s0 s1 s2 s3 s4 K).trans ?_)
  ·rfl
  ·simp only[wqy,ih,wqrc]<;>rfl
def wqha(k:Nat){R:Type}(x0:(List UInt8))(K:(Nat→Bool→Option R)): Option R:=wqtq k (fun s0 s1 s2 s3 s4=>wq6k k k s0 s1 s2 s3 s4 K) x0 K
theorem wq13e(k:Nat){R:Type}(x0:(List UInt8))(K:(Nat→Bool→Option R)): fnW (wqf8 k) k Tryz.f147 wqf7 [.v .str x0] [] (wq79 K)=wqha k x0 K:=by
 refine Eq.trans (b:=wqtq k (fun s0 s1 s2 s3 s4=>wqf9 k (fun _ _=>none) k (wq8g s0 s1 s2 s3 s4) K) x0 K) (by kernel_rfl) ?_
 simp only[wqrd]<;>rfl
def wqg2(k:Nat){R:Type}: List PV→List (Nm×HObj)→(Out→Option R)→Option R
 |[.v .str x0],[],K=>wqha k x0 (fun y0 y1=>K (.ret [.v .flt y0,.v .bool y1] []))
 |_,_,_=>none
theorem wq1c1(k:Nat): DOK Tryz.prog 147 (wqg2 k):=by
 intro ps hp R K r h
 have h:wqg2 k ps hp K=some r:=h
 unfold wqg2 at h
 split at h
 ·rw[←wq13e]at h
  exact fnW_ok ⟨tyT_ok,(wq4 (wq15p k) (wq4 (wq15n k) (wq4 (wq1dy k) (wq4 (wqy7 k) CTab.nil_ok)))),fun _ _=>rfl⟩ mixed (by kernel_rfl) (by kernel_rfl) h fun o ho=>by unfold wq79 at ho;split at ho<;>first|exact ho|cases ho
 ·cases h
end Go.Proofs.YtbjkpddloieekaaGreatDoor.Pvm
end
noncomputable section
namespace Go.Proofs.YtbjkpddloieekaaGreatDoor.Pvm
open Go Go.Proofs
def wqvm:List LS:=[.ag [.sl kdT25],.any]
def wqhb{R:Type}(K:(Nat→Int→Int→Option R)): Out→Option R
 |.ret [.v .flt y0,.agg [.v (.int .i64) y1,.v (.int .i64) y2]] []=>K y0 y1 y2
 |_=>none
def wqya:RetSpec:=⟨[.any,.ag [.any,.any]],[],[]⟩
def wqyb(k:Nat): Ctx:=⟨tyT,[],(.add 81 wqcz (wq6y k) (.add 145 wqex (wq6f k) (.add 147 wq16r (wqg2 k) .nil))),[],[],[],@SH⟩
def wqmh(k:Nat){R:Type}(x0:(List dT25))(x1:Int)(K:(Nat→Int→Int→Option R)): Option R:=cond (inb x1 (x0.length:Int)) (cond ((x0.getD x1.toNat (Kd.zero (@Kd.pr kI (@Kd.pr kI (@Kd.pr Kd.str (@Kd.pr Kd.bool (@Kd.pr (@Kd.sl Kd.str) (@Kd.sl kI)))))))).1 != 1) (wq30 k x0 x1 11 (fun y5 y6=>K 0 y5 y6)) (wqha k (((x0.getD x1.toNat (Kd.zero (@Kd.pr kI (@Kd.pr kI (@Kd.pr Kd.str (@Kd.pr Kd.bool (@Kd.pr (@Kd.sl Kd.str) (@Kd.sl kI)))))))).2).2).1 (fun y5 y6=>cond ((cond ((((x0.getD x1.toNat (Kd.zero (@Kd.pr kI (@Kd.pr kI (@Kd.pr Kd.str (@Kd.pr Kd.bool (@Kd.pr (@Kd.sl Kd.str) (@Kd.sl kI)))))))).2).2).2).1 true (!y6)) == false) (wqo k y5 (fun y7=>cond (cond (cond y7 true (@fltIs @Go.BinOp.lss y5 (0:Nat))) true (@fltIs @Go.BinOp.gtr y5 (4607182418800017408:Nat))) (wq30 k x0 x1 15 (fun y8 y9=>K 0 y8 y9)) (cond (@fltIs @Go.BinOp.eql y5 (0:Nat)) (K 0 0 0) (K y5 0 0)))) (wq30 k x0 x1 15 (fun y7 y8=>K 0 y7 y8))))) none
def wqbg(k:Nat){R:Type}(x0:(List dT25))(x1:Int)(K:(Nat→Int→Int→Option R)): Option R:=wqmh k x0 x1 K
theorem wqtr(k:Nat){R:Type}(x0:(List dT25))(x1:Int)(K:(Nat→Int→Int→Option R)): fnW (wqyb k) k Tryz.f86 wqya [.agg [.v kdT28 x0],.v kI x1] [] (wqhb K)=wqbg k x0 x1 K:=by
 kernel_rfl
def wq8i(k:Nat){R:Type}: List PV→List (Nm×HObj)→(Out→Option R)→Option R
 |[.agg [.v (.sl (.pr (.int .i64) (.pr (.int .i64) (.pr .str (.pr .bool (.pr (.sl .str) (.sl (.int .i64)))))))) x0],.v (.int .i64) x1],[],K=>wqbg k x0 x1 (fun y0 y1 y2=>K (.ret [.v .flt y0,.agg [.v (.int .i64) y1,.v (.int .i64) y2]] []))
 |_,_,_=>none
theorem wq10f(k:Nat): DOK Tryz.prog 86 (wq8i k):=by
 intro ps hp R K r h
 have h:wq8i k ps hp K=some r:=h
 unfold wq8i at h
 split at h
 ·rw[←wqtr]at h
  exact fnW_ok ⟨tyT_ok,(wq4 (wqo2 k) (wq4 (wqk9 k) (wq4 (wq1c1 k) CTab.nil_ok))),fun _ _=>rfl⟩ mixed (by kernel_rfl) (by kernel_rfl) h fun o ho=>by unfold wqhb at ho;split at ho<;>first|exact ho|cases ho
 ·cases h
end Go.Proofs.YtbjkpddloieekaaGreatDoor.Pvm
end
noncomputable section
namespace Go.Proofs.YtbjkpddloieekaaGreatDoor.Pvm
open Go Go.Proofs
def wqmi:List LS:=[.ag [.sl kdT25],.any]
def wqkp{R:Type}(K:(Nat→Int→Int→Option R)): Out→Option R
 |.ret [.v .flt y0,.agg [.v (.int .i64) y1,.v (.int .i64) y2]] []=>K y0 y1 y2
 |_=>none
def wq13f:RetSpec:=⟨[.any,.ag [.any,.any]],[],[]⟩
def wq13g(k:Nat): Ctx:=⟨tyT,[],(.add 83 wqc1 (wq4n k) (.add 86 wqvm (wq8i k) .nil)),[],[],[],@SH⟩
def wqus(k:Nat){R:Type}(x0:(List dT25))(x1:Int)(K:(Nat→Int→Int→Option R)): Option R:=wq76 k x0 x1 (fun y5=>cond (!y5) (K 0 11 0) (wqbg k x0 x1 K))
def wq4o(k:Nat){R:Type}(x0:(List dT25))(x1:Int)(K:(Nat→Int→Int→Option R)): Option R:=wqus k x0 x1 K
theorem wqyc(k:Nat){R:Type}(x0:(List dT25))(x1:Int)(K:(Nat→Int→Int→Option R)): fnW (wq13g k) k Tryz.f38 wq13f [.agg [.v kdT28 x0],.v kI x1] [] (wqkp K)=wq4o k x0 x1 K:=by
 kernel_rfl
def wqbh(k:Nat){R:Type}: List PV→List (Nm×HObj)→(Out→Option R)→Option R
 |[.agg [.v (.sl (.pr (.int .i64) (.pr (.int .i64) (.pr .str (.pr .bool (.pr (.sl .str) (.sl (.int .i64)))))))) x0],.v (.int .i64) x1],[],K=>wq4o k x0 x1 (fun y0 y1 y2=>K (.ret [.v .flt y0,.agg [.v (.int .i64) y1,.v (.int .i64) y2]] []))
 |_,_,_=>none
theorem wq16s(k:Nat): DOK Tryz.prog 38 (wqbh k):=by
 intro ps hp R K r h
 have h:wqbh k ps hp K=some r:=h
 unfold wqbh at h
 split at h
 ·rw[←wqyc]at h
  exact fnW_ok ⟨tyT_ok,(wq4 (wqh8 k) (wq4 (wq10f k) CTab.nil_ok)),fun _ _=>rfl⟩ mixed (by kernel_rfl) (by kernel_rfl) h fun o ho=>by unfold wqkp at ho;split at ho<;>first|exact ho|cases ho
 ·cases h
end Go.Proofs.YtbjkpddloieekaaGreatDoor.Pvm
end
noncomputable section
namespace Go.Proofs.YtbjkpddloieekaaGreatDoor.Pvm
open Go Go.Proofs
def wqyd:List LS:=[.ag [.sl kdT25],.any]
def wqj0{R:Type}(K:((List UInt8)→Int→Int→Option R)): Out→Option R
 |.ret [.v .str y0,.agg [.v (.int .i64) y1,.v (.int .i64) y2]] []=>K y0 y1 y2
 |_=>none
def wq10g:RetSpec:=⟨[.any,.ag [.any,.any]],[],[]⟩
def wq10h(k:Nat): Ctx:=⟨tyT,[],(.add 145 wqex (wq6f k) .nil),[],[],[],@SH⟩
def wqre(k:Nat){R:Type}(x0:(List dT25))(x1:Int)(K:((List UInt8)→Int→Int→Option R)): Option R:=cond (inb x1 (x0.length:Int)) (cond ((x0.getD x1.toNat (Kd.zero (@Kd.pr kI (@Kd.pr kI (@Kd.pr Kd.str (@Kd.pr Kd.bool (@Kd.pr (@Kd.sl Kd.str) (@Kd.sl kI)))))))).1 != 1) (wq30 k x0 x1 11 (fun y5 y6=>K [] y5 y6)) (cond (decide ((((((x0.getD x1.toNat (Kd.zero (@Kd.pr kI (@Kd.pr kI (@Kd.pr Kd.str (@Kd.pr Kd.bool (@Kd.pr (@Kd.sl Kd.str) (@Kd.sl kI)))))))).2).2).1).length:Int)>128)) (wq30 k x0 x1 12 (fun y5 y6=>K [] y5 y6)) (K (((x0.getD x1.toNat (Kd.zero (@Kd.pr kI (@Kd.pr kI (@Kd.pr Kd.str (@Kd.pr Kd.bool (@Kd.pr (@Kd.sl Kd.str) (@Kd.sl kI)))))))).2).2).1 0 0))) none
def wqdh(k:Nat){R:Type}(x0:(List dT25))(x1:Int)(K:((List UInt8)→Int→Int→Option R)): Option R:=wqre k x0 x1 K
theorem wqvn(k:Nat){R:Type}(x0:(List dT25))(x1:Int)(K:((List UInt8)→Int→Int→Option R)): fnW (wq10h k) k Tryz.f90 wq10g [.agg [.v kdT28 x0],.v kI x1] [] (wqj0 K)=wqdh k x0 x1 K:=by
 kernel_rfl
def wqa7(k:Nat){R:Type}: List PV→List (Nm×HObj)→(Out→Option R)→Option R
 |[.agg [.v (.sl (.pr (.int .i64) (.pr (.int .i64) (.pr .str (.pr .bool (.pr (.sl .str) (.sl (.int .i64)))))))) x0],.v (.int .i64) x1],[],K=>wqdh k x0 x1 (fun y0 y1 y2=>K (.ret [.v .str y0,.agg [.v (.int .i64) y1,.v (.int .i64) y2]] []))
 |_,_,_=>none
theorem wq13h(k:Nat): DOK Tryz.prog 90 (wqa7 k):=by
 intro ps hp R K r h
 have h:wqa7 k ps hp K=some r:=h
 unfold wqa7 at h
 split at h
 ·rw[←wqvn]at h
  exact fnW_ok ⟨tyT_ok,(wq4 (wqk9 k) CTab.nil_ok),fun _ _=>rfl⟩ mixed (by kernel_rfl) (by kernel_rfl) h fun o ho=>by unfold wqj0 at ho;split at ho<;>first|exact ho|cases ho
 ·cases h
end Go.Proofs.YtbjkpddloieekaaGreatDoor.Pvm
end
noncomputable section
namespace Go.Proofs.YtbjkpddloieekaaGreatDoor.Pvm
open Go Go.Proofs
def wqrf:List LS:=[.ag [.sl kdT25],.any]
def wqmj{R:Type}(K:((List UInt8)→Int→Int→Option R)): Out→Option R
 |.ret [.v .str y0,.agg [.v (.int .i64) y1,.v (.int .i64) y2]] []=>K y0 y1 y2
 |_=>none
def wq16t:RetSpec:=⟨[.any,.ag [.any,.any]],[],[]⟩
def wq16u(k:Nat): Ctx:=⟨tyT,[],(.add 83 wqc1 (wq4n k) (.add 90 wqyd (wqa7 k) .nil)),[],[],[],@SH⟩
def wqye(k:Nat){R:Type}(x0:(List dT25))(x1:Int)(K:((List UInt8)→Int→Int→Option R)): Option R:=wq76 k x0 x1 (fun y5=>cond (!y5) (K [] 11 0) (wqdh k x0 x1 K))
def wq6l(k:Nat){R:Type}(x0:(List dT25))(x1:Int)(K:((List UInt8)→Int→Int→Option R)): Option R:=wqye k x0 x1 K
theorem wq10i(k:Nat){R:Type}(x0:(List dT25))(x1:Int)(K:((List UInt8)→Int→Int→Option R)): fnW (wq16u k) k Tryz.f42 wq16t [.agg [.v kdT28 x0],.v kI x1] [] (wqmj K)=wq6l k x0 x1 K:=by
 kernel_rfl
def wqdi(k:Nat){R:Type}: List PV→List (Nm×HObj)→(Out→Option R)→Option R
 |[.agg [.v (.sl (.pr (.int .i64) (.pr (.int .i64) (.pr .str (.pr .bool (.pr (.sl .str) (.sl (.int .i64)))))))) x0],.v (.int .i64) x1],[],K=>wq6l k x0 x1 (fun y0 y1 y2=>K (.ret [.v .str y0,.agg [.v (.int .i64) y1,.v (.int .i64) y2]] []))
 |_,_,_=>none
theorem wq199(k:Nat): DOK Tryz.prog 42 (wqdi k):=by
 intro ps hp R K r h
 have h:wqdi k ps hp K=some r:=h
 unfold wqdi at h
 split at h
 ·rw[←wq10i]at h
  exact fnW_ok ⟨tyT_ok,(wq4 (wqh8 k) (wq4 (wq13h k) CTab.nil_ok)),fun _ _=>rfl⟩ mixed (by kernel_rfl) (by kernel_rfl) h fun o ho=>by unfold wqmj at ho;split at ho<;>first|exact ho|cases ho
 ·cases h
end Go.Proofs.YtbjkpddloieekaaGreatDoor.Pvm
end
noncomputable section
namespace Go.Proofs.YtbjkpddloieekaaGreatDoor.Pvm
open Go Go.Proofs
def wqyf:List LS:=[.any]
def wqj1{R:Type}(K:(Bool→Option R)): Out→Option R
 |.ret [.v .bool y0] []=>K y0
 |_=>none
def wq10j:RetSpec:=⟨[.any],[],[]⟩
def wq10k(k:Nat): Ctx:=⟨tyT,[],(.add 144 wq8p (wq2x k) .nil),[],[],[],@SH⟩
def wqrg(k:Nat){R:Type}(x0:Nat)(K:(Bool→Option R)): Option R:=wq1l k x0 (fun y4=>K (decide ((@Go.IntKind.wrap Go.IntKind.i64 y4)<0)))
def wq57(k:Nat){R:Type}(x0:Nat)(K:(Bool→Option R)): Option R:=wqrg k x0 K
theorem wqvo(k:Nat){R:Type}(x0:Nat)(K:(Bool→Option R)): fnW (wq10k k) k Tryz.f148 wq10j [.v .flt x0] [] (wqj1 K)=wq57 k x0 K:=by
 kernel_rfl
def wqa8(k:Nat){R:Type}: List PV→List (Nm×HObj)→(Out→Option R)→Option R
 |[.v .flt x0],[],K=>wq57 k x0 (fun y0=>K (.ret [.v .bool y0] []))
 |_,_,_=>none
theorem wq13i(k:Nat): DOK Tryz.prog 148 (wqa8 k):=by
 intro ps hp R K r h
 have h:wqa8 k ps hp K=some r:=h
 unfold wqa8 at h
 split at h
 ·rw[←wqvo]at h
  exact fnW_ok ⟨tyT_ok,(CTab.add_ok (fun h=>wqai k h) CTab.nil_ok),fun _ _=>rfl⟩ mixed (by kernel_rfl) (by kernel_rfl) h fun o ho=>by unfold wqj1 at ho;split at ho<;>first|exact ho|cases ho
 ·cases h
end Go.Proofs.YtbjkpddloieekaaGreatDoor.Pvm
end
noncomputable section
namespace Go.Proofs.YtbjkpddloieekaaGreatDoor.Pvm
open Go Go.Proofs
def wq13j:List LS:=[.any,.any]
def wqmk{R:Type}(K:(Int→Option R)): Out→Option R
 |.ret [.v (.int .i64) y0] []=>K y0
 |_=>none
def wq16v:RetSpec:=⟨[.any],[],[]⟩
def wq16w(k:Nat): Ctx:=⟨tyT,[],(.add 81 wqcz (wq6y k) (.add 148 wqyf (wqa8 k) .nil)),[],[],[],@SH⟩
def wqyg(k:Nat){R:Type}(x0 x1:Nat)(K:(Int→Option R)): Option R:=wqo k x0 (fun y5=>cond (y5 == false) (wqo k x1 (fun y6=>cond y6 (wqo k x0 (fun y7=>cond (y7 == true) (wqo k x1 (fun y8=>cond y8 (K 0) (wqo k x0 (fun y9=>cond y9 (K 1) (K (@Neg.neg Int @Int.instNegInt (1:Int))))))) (wqo k x0 (fun y8=>cond y8 (K 1) (K (@Neg.neg Int @Int.instNegInt (1:Int))))))) (cond (@fltIs @Go.BinOp.lss x0 x1) (K (@Neg.neg Int @Int.instNegInt (1:Int))) (cond (@fltIs @Go.BinOp.gtr x0 x1) (K 1) (wq57 k x0 (fun y7=>wq57 k x1 (fun y8=>cond (y7 == y8) (K 0) (wq57 k x0 (fun y9=>cond y9 (K (@Neg.neg Int @Int.instNegInt (1:Int))) (K 1)))))))))) (wqo k x0 (fun y6=>cond (y6 == true) (wqo k x1 (fun y7=>cond y7 (K 0) (wqo k x0 (fun y8=>cond y8 (K 1) (K (@Neg.neg Int @Int.instNegInt (1:Int))))))) (wqo k x0 (fun y7=>cond y7 (K 1) (K (@Neg.neg Int @Int.instNegInt (1:Int))))))))
def wqib(k:Nat){R:Type}(x0 x1:Nat)(K:(Int→Option R)): Option R:=wqyg k x0 x1 K
theorem wq10l(k:Nat){R:Type}(x0 x1:Nat)(K:(Int→Option R)): fnW (wq16w k) k Tryz.f91 wq16v [.v .flt x0,.v .flt x1] [] (wqmk K)=wqib k x0 x1 K:=by
 kernel_rfl
def wqdj(k:Nat){R:Type}: List PV→List (Nm×HObj)→(Out→Option R)→Option R
 |[.v .flt x0,.v .flt x1],[],K=>wqib k x0 x1 (fun y0=>K (.ret [.v (.int .i64) y0] []))
 |_,_,_=>none
theorem wq19a(k:Nat): DOK Tryz.prog 91 (wqdj k):=by
 intro ps hp R K r h
 have h:wqdj k ps hp K=some r:=h
 unfold wqdj at h
 split at h
 ·rw[←wq10l]at h
  exact fnW_ok ⟨tyT_ok,(wq4 (wqo2 k) (wq4 (wq13i k) CTab.nil_ok)),fun _ _=>rfl⟩ mixed (by kernel_rfl) (by kernel_rfl) h fun o ho=>by unfold wqmk at ho;split at ho<;>first|exact ho|cases ho
 ·cases h
end Go.Proofs.YtbjkpddloieekaaGreatDoor.Pvm
end
noncomputable section
namespace Go.Proofs.YtbjkpddloieekaaGreatDoor.Pvm
open Go Go.Proofs
def wqrh:List LS:=[.any,.any]
def wqml{R:Type}(K:(Bool→Option R)): Out→Option R
 |.ret [.v .bool y0] []=>K y0
 |_=>none
def wq16x:RetSpec:=⟨[.any],[],[]⟩
def wq16y(k:Nat): Ctx:=⟨tyT,[],(.add 91 wq13j (wqdj k) .nil),[],[],[],@SH⟩
def wqyh(k:Nat){R:Type}(x0 x1:Nat)(K:(Bool→Option R)): Option R:=wqib k x0 x1 (fun y5=>K (y5 == 0))
def wq6m(k:Nat){R:Type}(x0 x1:Nat)(K:(Bool→Option R)): Option R:=wqyh k x0 x1 K
theorem wq10m(k:Nat){R:Type}(x0 x1:Nat)(K:(Bool→Option R)): fnW (wq16y k) k Tryz.f43 wq16x [.v .flt x0,.v .flt x1] [] (wqml K)=wq6m k x0 x1 K:=by
 kernel_rfl
def wqdk(k:Nat){R:Type}: List PV→List (Nm×HObj)→(Out→Option R)→Option R
 |[.v .flt x0,.v .flt x1],[],K=>wq6m k x0 x1 (fun y0=>K (.ret [.v .bool y0] []))
 |_,_,_=>none
theorem wq19b(k:Nat): DOK Tryz.prog 43 (wqdk k):=by
 intro ps hp R K r h
 have h:wqdk k ps hp K=some r:=h
 unfold wqdk at h
 split at h
 ·rw[←wq10m]at h
  exact fnW_ok ⟨tyT_ok,(wq4 (wq19a k) CTab.nil_ok),fun _ _=>rfl⟩ mixed (by kernel_rfl) (by kernel_rfl) h fun o ho=>by unfold wqml at ho;split at ho<;>first|exact ho|cases ho
 ·cases h
end Go.Proofs.YtbjkpddloieekaaGreatDoor.Pvm
end
noncomputable section
namespace Go.Proofs.YtbjkpddloieekaaGreatDoor.Pvm
open Go Go.Proofs
def wqmm:List LS:=[.ag [.sl kdT25],.any,.any,.any]
def wqfc{R:Type}(K:(Bool→Option R)): Out→Option R
 |.ret [.v .bool y0] []=>K y0
 |_=>none
def wqri:RetSpec:=⟨[.any],[],[]⟩
def wqrj(k:Nat): Ctx:=⟨tyT,[],(.add 8 wq48 (wq49 k) (.add 9 wq6v (wq6w k) (.add 10 wq5h (wq5i k) (.add 36 wqko (wqa4 k) (.add 37 wqr2 (wqdc k) (.add 38 wqmi (wqbh k) (.add 39 wqqo (wqd4 k) (.add 40 wqr6 (wqdf k) (.add 41 wqqq (wqd5 k) (.add 42 wqrf (wqdi k) (.add 43 wqrh (wqdk k) .nil))))))))))),[],[],[],@SH⟩
def wqut(k:Nat){R:Type}(x0:(List dT25))(x1 x2 x3:Int)(K:(Bool→Option R)): Option R:=wqk k x0 x1 x2 x3 (fun y7 y8 y9=>wq3q k x0 x1 x2 x3 (fun y10 y11 y12=>wq12 k x0 x1 (fun y13 y14 y15=>wq6h k x0 x1 (fun y16 y17 y18=>wql k x0 x1 (fun y19 y20 y21=>wq4o k x0 x1 (fun y22 y23 y24=>wq6d k x0 x1 (fun y25 y26 y27=>wq6i k x0 x1 (fun y28 y29 y30=>wq6e k x0 x1 (fun y31 y32 y33=>wq6l k x0 x1 (fun y34 y35 y36=>cond ((cond (cond (cond (y7 == y10) ((y8 == y11)&&(y9 == y12)) false) (y13 == y16) false) ((y14 == y17)&&(y15 == y18)) false) == true) (wq6m k y19 y22 (fun y37=>K (cond (cond (cond (cond (cond y37 ((y20 == y23)&&(y21 == y24)) false) (y25 == y28) false) ((y26 == y29)&&(y27 == y30)) false) (y31 == y34) false) ((y32 == y35)&&(y33 == y36)) false))) (K (cond (cond (cond (cond (cond false ((y20 == y23)&&(y21 == y24)) false) (y25 == y28) false) ((y26 == y29)&&(y27 == y30)) false) (y31 == y34) false) ((y32 == y35)&&(y33 == y36)) false))))))))))))
def wq3r(k:Nat){R:Type}(x0:(List dT25))(x1 x2 x3:Int)(K:(Bool→Option R)): Option R:=wqut k x0 x1 x2 x3 K
def wq10n(f:(R:Type)→(List dT25)→Int→Int→Int→(Int→Int→Int→Option R)→Option R){R:Type}: List PV→List (Nm×HObj)→(Out→Option R)→Option R
 |[.agg [.v (.sl (.pr (.int .i64) (.pr (.int .i64) (.pr .str (.pr .bool (.pr (.sl .str) (.sl (.int .i64)))))))) x0],.v (.int .i64) x1,.v (.int .i64) x2,.v (.int .i64) x3],[],K=>f R x0 x1 x2 x3 (fun y0 y1 y2=>K (.ret [.v (.int .i64) y0,.agg [.v (.int .i64) y1,.v (.int .i64) y2]] []))
 |_,_,_=>none
def wq10o(f:(R:Type)→(List dT25)→Int→(Bool→Int→Int→Option R)→Option R){R:Type}: List PV→List (Nm×HObj)→(Out→Option R)→Option R
 |[.agg [.v (.sl (.pr (.int .i64) (.pr (.int .i64) (.pr .str (.pr .bool (.pr (.sl .str) (.sl (.int .i64)))))))) x0],.v (.int .i64) x1],[],K=>f R x0 x1 (fun y0 y1 y2=>K (.ret [.v .bool y0,.agg [.v (.int .i64) y1,.v (.int .i64) y2]] []))
 |_,_,_=>none
def wq10p(f:(R:Type)→(List dT25)→Int→(Nat→Int→Int→Option R)→Option R){R:Type}: List PV→List (Nm×HObj)→(Out→Option R)→Option R
 |[.agg [.v (.sl (.pr (.int .i64) (.pr (.int .i64) (.pr .str (.pr .bool (.pr (.sl .str) (.sl (.int .i64)))))))) x0],.v (.int .i64) x1],[],K=>f R x0 x1 (fun y0 y1 y2=>K (.ret [.v .flt y0,.agg [.v (.int .i64) y1,.v (.int .i64) y2]] []))
 |_,_,_=>none
def wq10q(f:(R:Type)→(List dT25)→Int→Int→Int→(Int→Int→Int→Option R)→Option R){R:Type}: List PV→List (Nm×HObj)→(Out→Option R)→Option R
 |[.agg [.v (.sl (.pr (.int .i64) (.pr (.int .i64) (.pr .str (.pr .bool (.pr (.sl .str) (.sl (.int .i64)))))))) x0],.v (.int .i64) x1,.v (.int .i64) x2,.v (.int .i64) x3],[],K=>f R x0 x1 x2 x3 (fun y0 y1 y2=>K (.ret [.v (.int .i64) y0,.agg [.v (.int .i64) y1,.v (.int .i64) y2]] []))
 |_,_,_=>none
def wq10r(f:(R:Type)→(List dT25)→Int→(Bool→Int→Int→Option R)→Option R){R:Type}: List PV→List (Nm×HObj)→(Out→Option R)→Option R
 |[.agg [.v (.sl (.pr (.int .i64) (.pr (.int .i64) (.pr .str (.pr .bool (.pr (.sl .str) (.sl (.int .i64)))))))) x0],.v (.int .i64) x1],[],K=>f R x0 x1 (fun y0 y1 y2=>K (.ret [.v .bool y0,.agg [.v (.int .i64) y1,.v (.int .i64) y2]] []))
 |_,_,_=>none
def wq10s(f:(R:Type)→(List dT25)→Int→(Nat→Int→Int→Option R)→Option R){R:Type}: List PV→List (Nm×HObj)→(Out→Option R)→Option R
 |[.agg [.v (.sl (.pr (.int .i64) (.pr (.int .i64) (.pr .str (.pr .bool (.pr (.sl .str) (.sl (.int .i64)))))))) x0],.v (.int .i64) x1],[],K=>f R x0 x1 (fun y0 y1 y2=>K (.ret [.v .flt y0,.agg [.v (.int .i64) y1,.v (.int .i64) y2]] []))
 |_,_,_=>none
def wq10t(f:(R:Type)→(List dT25)→Int→((List UInt8)→Int→Int→Option R)→Option R){R:Type}: List PV→List (Nm×HObj)→(Out→Option R)→Option R
 |[.agg [.v (.sl (.pr (.int .i64) (.pr (.int .i64) (.pr .str (.pr .bool (.pr (.sl .str) (.sl (.int .i64)))))))) x0],.v (.int .i64) x1],[],K=>f R x0 x1 (fun y0 y1 y2=>K (.ret [.v .str y0,.agg [.v (.int .i64) y1,.v (.int .i64) y2]] []))
 |_,_,_=>none
def wq10u(f:(R:Type)→(List dT25)→Int→((List UInt8)→Int→Int→Option R)→Option R){R:Type}: List PV→List (Nm×HObj)→(Out→Option R)→Option R
 |[.agg [.v (.sl (.pr (.int .i64) (.pr (.int .i64) (.pr .str (.pr .bool (.pr (.sl .str) (.sl (.int .i64)))))))) x0],.v (.int .i64) x1],[],K=>f R x0 x1 (fun y0 y1 y2=>K (.ret [.v .str y0,.agg [.v (.int .i64) y1,.v (.int .i64) y2]] []))
 |_,_,_=>none
def wq10v(f:(R:Type)→(List dT25)→Int→((List UInt8)→Int→Int→Option R)→Option R){R:Type}: List PV→List (Nm×HObj)→(Out→Option R)→Option R
 |[.agg [.v (.sl (.pr (.int .i64) (.pr (.int .i64) (.pr .str (.pr .bool (.pr (.sl .str) (.sl (.int .i64)))))))) x0],.v (.int .i64) x1],[],K=>f R x0 x1 (fun y0 y1 y2=>K (.ret [.v .str y0,.agg [.v (.int .i64) y1,.v (.int .i64) y2]] []))
 |_,_,_=>none
def wq10w(f:(R:Type)→(List dT25)→Int→((List UInt8)→Int→Int→Option R)→Option R){R:Type}: List PV→List (Nm×HObj)→(Out→Option R)→Option R
 |[.agg [.v (.sl (.pr (.int .i64) (.pr (.int .i64) (.pr .str (.pr .bool (.pr (.sl .str) (.sl (.int .i64)))))))) x0],.v (.int .i64) x1],[],K=>f R x0 x1 (fun y0 y1 y2=>K (.ret [.v .str y0,.agg [.v (.int .i64) y1,.v (.int .i64) y2]] []))
 |_,_,_=>none
def wqyi(f:(R:Type)→Nat→Nat→(Bool→Option R)→Option R){R:Type}: List PV→List (Nm×HObj)→(Out→Option R)→Option R
 |[.v .flt x0,.v .flt x1],[],K=>f R x0 x1 (fun y0=>K (.ret [.v .bool y0] []))
 |_,_,_=>none
def wqrk(f0:(R:Type)→(List dT25)→Int→Int→Int→(Int→Int→Int→Option R)→Option R)(f1:(R:Type)→(List dT25)→Int→(Bool→Int→Int→Option R)→Option R)(f2:(R:Type)→(List dT25)→Int→(Nat→Int→Int→Option R)→Option R)(f3:(R:Type)→(List dT25)→Int→Int→Int→(Int→Int→Int→Option R)→Option R)(f4:(R:Type)→(List dT25)→Int→(Bool→Int→Int→Option R)→Option R)(f5:(R:Type)→(List dT25)→Int→(Nat→Int→Int→Option R)→Option R)(f6:(R:Type)→(List dT25)→Int→((List UInt8)→Int→Int→Option R)→Option R)(f7:(R:Type)→(List dT25)→Int→((List UInt8)→Int→Int→Option R)→Option R)(f8:(R:Type)→(List dT25)→Int→((List UInt8)→Int→Int→Option R)→Option R)(f9:(R:Type)→(List dT25)→Int→((List UInt8)→Int→Int→Option R)→Option R)(f10:(R:Type)→Nat→Nat→(Bool→Option R)→Option R): Ctx:=⟨tyT,[],(.add 8 wq48 (wq10n f0) (.add 9 wq6v (wq10o f1) (.add 10 wq5h (wq10p f2) (.add 36 wqko (wq10q f3) (.add 37 wqr2 (wq10r f4) (.add 38 wqmi (wq10s f5) (.add 39 wqqo (wq10t f6) (.add 40 wqr6 (wq10u f7) (.add 41 wqqq (wq10v f8) (.add 42 wqrf (wq10w f9) (.add 43 wqrh (wqyi f10) .nil))))))))))),[],[],[],@SH⟩
def wquu(f0:(R:Type)→(List dT25)→Int→Int→Int→(Int→Int→Int→Option R)→Option R)(f1:(R:Type)→(List dT25)→Int→(Bool→Int→Int→Option R)→Option R)(f2:(R:Type)→(List dT25)→Int→(Nat→Int→Int→Option R)→Option R)(f3:(R:Type)→(List dT25)→Int→Int→Int→(Int→Int→Int→Option R)→Option R)(f4:(R:Type)→(List dT25)→Int→(Bool→Int→Int→Option R)→Option R)(f5:(R:Type)→(List dT25)→Int→(Nat→Int→Int→Option R)→Option R)(f6:(R:Type)→(List dT25)→Int→((List UInt8)→Int→Int→Option R)→Option R)(f7:(R:Type)→(List dT25)→Int→((List UInt8)→Int→Int→Option R)→Option R)(f8:(R:Type)→(List dT25)→Int→((List UInt8)→Int→Int→Option R)→Option R)(f9:(R:Type)→(List dT25)→Int→((List UInt8)→Int→Int→Option R)→Option R)(f10:(R:Type)→Nat→Nat→(Bool→Option R)→Option R){R:Type}(x0:(List dT25))(x1 x2 x3:Int)(K:(Bool→Option R)): Option R:=f0 R x0 x1 x2 x3 (fun y7 y8 y9=>f3 R x0 x1 x2 x3 (fun y10 y11 y12=>f1 R x0 x1 (fun y13 y14 y15=>f4 R x0 x1 (fun y16 y17 y18=>f2 R x0 x1 (fun y19 y20 y21=>f5 R x0 x1 (fun y22 y23 y24=>f6 R x0 x1 (fun y25 y26 y27=>f7 R x0 x1 (fun y28 y29 y30=>f8 R x0 x1 (fun y31 y32 y33=>f9 R x0 x1 (fun y34 y35 y36=>cond ((cond (cond (cond (y7 == y10) ((y8 == y11)&&(y9 == y12)) false) (y13 == y16) false) ((y14 == y17)&&(y15 == y18)) false) == true) (f10 R y19 y22 (fun y37=>K (cond (cond (cond (cond (cond y37 ((y20 == y23)&&(y21 == y24)) false) (y25 == y28) false) ((y26 == y29)&&(y27 == y30)) false) (y31 == y34) false) ((y32 == y35)&&(y33 == y36)) false))) (K (cond (cond (cond (cond (cond false ((y20 == y23)&&(y21 == y24)) false) (y25 == y28) false) ((y26 == y29)&&(y27 == y30)) false) (y31 == y34) false) ((y32 == y35)&&(y33 == y36)) false))))))))))))
theorem wqyj(f0:(R:Type)→(List dT25)→Int→Int→Int→(Int→Int→Int→Option R)→Option R)(f1:(R:Type)→(List dT25)→Int→(Bool→Int→Int→Option R)→Option R)(f2:(R:Type)→(List dT25)→Int→(Nat→Int→Int→Option R)→Option R)(f3:(R:Type)→(List dT25)→Int→Int→Int→(Int→Int→Int→Option R)→Option R)(f4:(R:Type)→(List dT25)→Int→(Bool→Int→Int→Option R)→Option R)(f5:(R:Type)→(List dT25)→Int→(Nat→Int→Int→Option R)→Option R)(f6:(R:Type)→(List dT25)→Int→((List UInt8)→Int→Int→Option R)→Option R)(f7:(R:Type)→(List dT25)→Int→((List UInt8)→Int→Int→Option R)→Option R)(f8:(R:Type)→(List dT25)→Int→((List UInt8)→Int→Int→Option R)→Option R)(f9:(R:Type)→(List dT25)→Int→((List UInt8)→Int→Int→Option R)→Option R)(f10:(R:Type)→Nat→Nat→(Bool→Option R)→Option R)(k:Nat){R:Type}(x0:(List dT25))(x1 x2 x3:Int)(K:(Bool→Option R)): fnW (wqrk f0 f1 f2 f3 f4 f5 f6 f7 f8 f9 f10) k Tryz.f11 wqri [.agg [.v kdT28 x0],.v kI x1,.v kI x2,.v kI x3] [] (wqfc K)=wquu f0 f1 f2 f3 f4 f5 f6 f7 f8 f9 f10 x0 x1 x2 x3 K:=by
 kernel_rfl
theorem wqvp(k:Nat): wqrj k=wqrk (fun R=>@wqk k R) (fun R=>@wq12 k R) (fun R=>@wql k R) (fun R=>@wq3q k R) (fun R=>@wq6h k R) (fun R=>@wq4o k R) (fun R=>@wq6d k R) (fun R=>@wq6i k R) (fun R=>@wq6e k R) (fun R=>@wq6l k R) (fun R=>@wq6m k R):=by
 kernel_rfl
theorem wqyk(k:Nat){R:Type}(x0:(List dT25))(x1 x2 x3:Int)(K:(Bool→Option R)): fnW (wqrj k) k Tryz.f11 wqri [.agg [.v kdT28 x0],.v kI x1,.v kI x2,.v kI x3] [] (wqfc K)=wq3r k x0 x1 x2 x3 K:=by
 have e:wq3r k x0 x1 x2 x3 K=wquu (fun R=>@wqk k R) (fun R=>@wq12 k R) (fun R=>@wql k R) (fun R=>@wq3q k R) (fun R=>@wq6h k R) (fun R=>@wq4o k R) (fun R=>@wq6d k R) (fun R=>@wq6i k R) (fun R=>@wq6e k R) (fun R=>@wq6l k R) (fun R=>@wq6m k R) x0 x1 x2 x3 K:=by kernel_rfl
 rw[wqvp,e]
 exact wqyj (fun R=>@wqk k R) (fun R=>@wq12 k R) (fun R=>@wql k R) (fun R=>@wq3q k R) (fun R=>@wq6h k R) (fun R=>@wq4o k R) (fun R=>@wq6d k R) (fun R=>@wq6i k R) (fun R=>@wq6e k R) (fun R=>@wq6l k R) (fun R=>@wq6m k R) k x0 x1 x2 x3 K
def wqbi(k:Nat){R:Type}: List PV→List (Nm×HObj)→(Out→Option R)→Option R
 |[.agg [.v (.sl (.pr (.int .i64) (.pr (.int .i64) (.pr .str (.pr .bool (.pr (.sl .str) (.sl (.int .i64)))))))) x0],.v (.int .i64) x1,.v (.int .i64) x2,.v (.int .i64) x3],[],K=>wq3r k x0 x1 x2 x3 (fun y0=>K (.ret [.v .bool y0] []))
 |_,_,_=>none
theorem wq16z(k:Nat): DOK Tryz.prog 11 (wqbi k):=by
 intro ps hp R K r h
 have h:wqbi k ps hp K=some r:=h
 unfold wqbi at h
 split at h
 ·rw[←wqyk]at h
  exact fnW_ok ⟨tyT_ok,(wq4 (wqhv k) (wq4 (wqnt k) (wq4 (wqk7 k) (wq4 (wq13d k) (wq4 (wq195 k) (wq4 (wq16s k) (wq4 (wq18y k) (wq4 (wq196 k) (wq4 (wq18z k) (wq4 (wq199 k) (wq4 (wq19b k) CTab.nil_ok))))))))))),fun _ _=>rfl⟩ mixed (by kernel_rfl) (by kernel_rfl) h fun o ho=>by unfold wqfc at ho;split at ho<;>first|exact ho|cases ho
 ·cases h
end Go.Proofs.YtbjkpddloieekaaGreatDoor.Pvm
end
end
