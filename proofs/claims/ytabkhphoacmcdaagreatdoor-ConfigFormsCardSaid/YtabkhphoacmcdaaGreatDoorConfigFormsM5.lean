/- For every number i the Go function ConfigForms of turncocklaw17 returns true. -/
import Derived.Shelf.GgClosure.StringsIndexFuncTop
import Derived.Shelf.Strings.FuncGrows
import Derived.Shelf.Strings.Repeat
import Derived.KernelRfl
import Derived.Test.YtabkhphoacmcdaaGreatDoorCards
import Derived.Test.YtabkhphoacmcdaaGreatDoorTie
import Derived.LaidMore
import Derived.Lay
import Derived.SevenTiedAt
import Derived.Stop.Joined
import Derived.Test.YtabkhphoacmcdaaGreatDoorRows
import Derived.Test.YtabkhphoacmcdaaGreatDoorConfigFormsM0
import Derived.Test.YtabkhphoacmcdaaGreatDoorConfigFormsM1
import Derived.Test.YtabkhphoacmcdaaGreatDoorConfigFormsM2
import Derived.Test.YtabkhphoacmcdaaGreatDoorConfigFormsM3
import Derived.Test.YtabkhphoacmcdaaGreatDoorConfigFormsM4
set_option linter.unusedVariables false
set_option linter.unusedSimpArgs false
set_option linter.unusedSectionVars false
noncomputable section
set_option maxRecDepth 1000000
set_option maxHeartbeats 0
noncomputable section
namespace Go.Proofs.YtabkhphoacmcdaaGreatDoor.Pvm
open Go Go.Proofs
def wq160:List LS:=[.ag [.any,.any,.any,.any,.any,.any],.ag [.any,.any,.any,.any,.any,.any]]
def wq120{R:Type}(K:(Bool→Option R)): Out→Option R
 |.ret [.v .bool y0] []=>K y0
 |_=>none
def wq1ke:RetSpec:=⟨[.any],[],[]⟩
def wq1kf(k:Nat): Ctx:=⟨tyT,[],(.add 140 wql6 (wqdf k) .nil),[],[],[],@SH⟩
def wq1n3(k:Nat){R:Type}(x0:(List UInt8))(x1 x2:Int)(x3:Nat)(x4 x5:Bool)(x6:(List UInt8))(x7 x8:Int)(x9:Nat)(x10 x11:Bool)(K:(Bool→Option R)): Option R:=wq64 k x3 x9 (fun y15=>K (cond y15 ((x0 == x6)&&((x1 == x7)&&((x2 == x8)&&((@fltIs @Go.BinOp.eql (0:Nat) (0:Nat))&&((x4 == x10)&&(x5 == x11)))))) false))
def wqvd(k:Nat){R:Type}(x0:(List UInt8))(x1 x2:Int)(x3:Nat)(x4 x5:Bool)(x6:(List UInt8))(x7 x8:Int)(x9:Nat)(x10 x11:Bool)(K:(Bool→Option R)): Option R:=wq1n3 k x0 x1 x2 x3 x4 x5 x6 x7 x8 x9 x10 x11 K
theorem wq1fw(k:Nat){R:Type}(x0:(List UInt8))(x1 x2:Int)(x3:Nat)(x4 x5:Bool)(x6:(List UInt8))(x7 x8:Int)(x9:Nat)(x10 x11:Bool)(K:(Bool→Option R)): fnW (wq1kf k) k Tryz.f92 wq1ke [.agg [.v .str x0,.v kI x1,.v kI x2,.v .flt x3,.v .bool x4,.v .bool x5],.agg [.v .str x6,.v kI x7,.v kI x8,.v .flt x9,.v .bool x10,.v .bool x11]] [] (wq120 K)=wqvd k x0 x1 x2 x3 x4 x5 x6 x7 x8 x9 x10 x11 K:=by
 kernel_rfl
def wqjd(k:Nat){R:Type}: List PV→List (Nm×HObj)→(Out→Option R)→Option R
 |[.agg [.v .str x0,.v (.int .i64) x1,.v (.int .i64) x2,.v .flt x3,.v .bool x4,.v .bool x5],.agg [.v .str x6,.v (.int .i64) x7,.v (.int .i64) x8,.v .flt x9,.v .bool x10,.v .bool x11]],[],K=>wqvd k x0 x1 x2 x3 x4 x5 x6 x7 x8 x9 x10 x11 (fun y0=>K (.ret [.v .bool y0] []))
 |_,_,_=>none
theorem wq1dm(k:Nat): DOK Tryz.prog 92 (wqjd k):=by
 intro ps hp R K r h
 have h:wqjd k ps hp K=some r:=h
 unfold wqjd at h
 split at h
 ·rw[←wq1fw]at h
  exact fnW_ok ⟨tyT_ok,(wqd (wqzi k) CTab.nil_ok),fun _ _=>rfl⟩ mixed (by kernel_rfl) (by kernel_rfl) h fun o ho=>by unfold wq120 at ho;split at ho<;>first|exact ho|cases ho
 ·cases h
end Go.Proofs.YtabkhphoacmcdaaGreatDoor.Pvm
end
noncomputable section
namespace Go.Proofs.YtabkhphoacmcdaaGreatDoor.Pvm
open Go Go.Proofs
def wq1fx:List LS:=[.ag [.any,.any,.any,.any,.any,.any,.any,.any,.any,.any,.any,.any,.sl kI],.any,.any]
def wqx2{R:Type}(K:(Bool→Option R)): Out→Option R
 |.ret [.v .bool y0] []=>K y0
 |_=>none
def wq1i5:RetSpec:=⟨[.any],[],[]⟩
def wq1i6(k:Nat): Ctx:=⟨tyT,[],(.add 33 wqiu (wqci k) (.add 92 wq160 (wqjd k) (.add 109 wq1fr (wql9 k) .nil))),[],[],[],@SH⟩
def wq1kg(k:Nat){R:Type}(x0 x1:(List UInt8))(x2:Bool)(x3 x4:Int)(x5:Bool)(x6:(List UInt8))(x7 x8:Int)(x9:Nat)(x10 x11:Bool)(x12:(List Int))(x13 x14:Int)(K:(Bool→Option R)): Option R:=cond ((cond (x3 != x13) true (x4 != x14)) == false) (wqa2 k x0 (fun y18=>cond (cond (cond (!y18) true (decide ((x1.length:Int)>128))) true (cond x2 (!(x1 == [])) false)) (K false) (cond x5 (wqro k x6 x7 x8 x9 x10 x11 (fun y19=>K (y19 == 0))) (wqvd k x6 x7 x8 x9 x10 x11 [] 0 0 0 false false K)))) (K false)
def wqzj(k:Nat){R:Type}(x0 x1:(List UInt8))(x2:Bool)(x3 x4:Int)(x5:Bool)(x6:(List UInt8))(x7 x8:Int)(x9:Nat)(x10 x11:Bool)(x12:(List Int))(x13 x14:Int)(K:(Bool→Option R)): Option R:=wq1kg k x0 x1 x2 x3 x4 x5 x6 x7 x8 x9 x10 x11 x12 x13 x14 K
theorem wq1cd(k:Nat){R:Type}(x0 x1:(List UInt8))(x2:Bool)(x3 x4:Int)(x5:Bool)(x6:(List UInt8))(x7 x8:Int)(x9:Nat)(x10 x11:Bool)(x12:(List Int))(x13 x14:Int)(K:(Bool→Option R)): fnW (wq1i6 k) k Tryz.f64 wq1i5 [.agg [.v .str x0,.v .str x1,.v .bool x2,.v kI x3,.v kI x4,.v .bool x5,.v .str x6,.v kI x7,.v kI x8,.v .flt x9,.v .bool x10,.v .bool x11,.v (.sl kI) x12],.v kI x13,.v kI x14] [] (wqx2 K)=wqzj k x0 x1 x2 x3 x4 x5 x6 x7 x8 x9 x10 x11 x12 x13 x14 K:=by
 kernel_rfl
def wqla(k:Nat){R:Type}: List PV→List (Nm×HObj)→(Out→Option R)→Option R
 |[.agg [.v .str x0,.v .str x1,.v .bool x2,.v (.int .i64) x3,.v (.int .i64) x4,.v .bool x5,.v .str x6,.v (.int .i64) x7,.v (.int .i64) x8,.v .flt x9,.v .bool x10,.v .bool x11,.v (.sl (.int .i64)) x12],.v (.int .i64) x13,.v (.int .i64) x14],[],K=>wqzj k x0 x1 x2 x3 x4 x5 x6 x7 x8 x9 x10 x11 x12 x13 x14 (fun y0=>K (.ret [.v .bool y0] []))
 |_,_,_=>none
theorem wq1kh(k:Nat): DOK Tryz.prog 64 (wqla k):=by
 intro ps hp R K r h
 have h:wqla k ps hp K=some r:=h
 unfold wqla at h
 split at h
 ·rw[←wq1cd]at h
  exact fnW_ok ⟨tyT_ok,(wqd (wqv3 k) (wqd (wq1dm k) (wqd (wq1kd k) CTab.nil_ok))),fun _ _=>rfl⟩ mixed (by kernel_rfl) (by kernel_rfl) h fun o ho=>by unfold wqx2 at ho;split at ho<;>first|exact ho|cases ho
 ·cases h
end Go.Proofs.YtabkhphoacmcdaaGreatDoor.Pvm
end
noncomputable section
namespace Go.Proofs.YtabkhphoacmcdaaGreatDoor.Pvm
open Go Go.Proofs
abbrev wqgm(R:Type): Type:=((List ((List UInt8)×(List Int)))→(List dT56)→(List UInt8)→(List UInt8)→Bool→Int→Int→Bool→(List UInt8)→Int→Int→Nat→Bool→Bool→(List Int)→Bool→Option R)
def wq174:List LS:=[.any,.obj 11 [.sl (.pr .str (.sl kI)),.sl kdT56],.obj 12 [.any,.any,.any,.any,.any,.any,.any,.any,.any,.any,.any,.any,.sl kI]]
def wqq3{R:Type}(K:wqgm R): Out→Option R
 |.ret [.v .bool y15] [(11,.var 27 [.v (.sl (.pr .str (.sl (.int .i64)))) y0,.v (.sl (.pr .str (.pr .str (.pr .bool (.pr (.int .i64) (.pr (.int .i64) (.pr .bool (.pr (.pr .str (.pr (.int .i64) (.pr (.int .i64) (.pr .flt (.pr .bool .bool))))) (.sl (.int .i64)))))))))) y1]),(12,.var 57 [.v .str y2,.v .str y3,.v .bool y4,.v (.int .i64) y5,.v (.int .i64) y6,.v .bool y7,.v .str y8,.v (.int .i64) y9,.v (.int .i64) y10,.v .flt y11,.v .bool y12,.v .bool y13,.v (.sl (.int .i64)) y14])]=>K y0 y1 y2 y3 y4 y5 y6 y7 y8 y9 y10 y11 y12 y13 y14 y15
 |_=>none
def wq1ag:RetSpec:=⟨[.any],[(11,.obj 11 [.sl (.pr .str (.sl (.int .i64))),.sl (.pr .str (.pr .str (.pr .bool (.pr (.int .i64) (.pr (.int .i64) (.pr .bool (.pr (.pr .str (.pr (.int .i64) (.pr (.int .i64) (.pr .flt (.pr .bool .bool))))) (.sl (.int .i64)))))))))]),(12,.obj 12 [.any,.any,.any,.any,.any,.any,.any,.any,.any,.any,.any,.any,.sl (.int .i64)])],[]⟩
def wq1ah(k:Nat): Ctx:=⟨tyT,[],(.add 67 wqor (wqbh k) .nil),[],[11,12],[(1,(.of [(0,1),(2,1),(1,1),(3,1),(4,1),(5,1),(6,0),(7,1)] .done))],@SH⟩
def wq1ce(k:Nat){R:Type}(x0:Int)(x1:(List ((List UInt8)×(List Int))))(x2:(List dT56))(x3 x4:(List UInt8))(x5:Bool)(x6 x7:Int)(x8:Bool)(x9:(List UInt8))(x10 x11:Int)(x12:Nat)(x13 x14:Bool)(x15:(List Int))(K:wqgm R): Option R:=cond (inb x0 (x2.length:Int)) (wqj0 k (x2.getD x0.toNat (Kd.zero (@Kd.pr Kd.str (@Kd.pr Kd.str (@Kd.pr Kd.bool (@Kd.pr kI (@Kd.pr kI (@Kd.pr Kd.bool (@Kd.pr (@Kd.pr Kd.str (@Kd.pr kI (@Kd.pr kI (@Kd.pr @Kd.flt (@Kd.pr Kd.bool Kd.bool))))) (@Kd.sl kI)))))))))).1 ((x2.getD x0.toNat (Kd.zero (@Kd.pr Kd.str (@Kd.pr Kd.str (@Kd.pr Kd.bool (@Kd.pr kI (@Kd.pr kI (@Kd.pr Kd.bool (@Kd.pr (@Kd.pr Kd.str (@Kd.pr kI (@Kd.pr kI (@Kd.pr @Kd.flt (@Kd.pr Kd.bool Kd.bool))))) (@Kd.sl kI)))))))))).2).1 (((x2.getD x0.toNat (Kd.zero (@Kd.pr Kd.str (@Kd.pr Kd.str (@Kd.pr Kd.bool (@Kd.pr kI (@Kd.pr kI (@Kd.pr Kd.bool (@Kd.pr (@Kd.pr Kd.str (@Kd.pr kI (@Kd.pr kI (@Kd.pr @Kd.flt (@Kd.pr Kd.bool Kd.bool))))) (@Kd.sl kI)))))))))).2).2).1 ((((x2.getD x0.toNat (Kd.zero (@Kd.pr Kd.str (@Kd.pr Kd.str (@Kd.pr Kd.bool (@Kd.pr kI (@Kd.pr kI (@Kd.pr Kd.bool (@Kd.pr (@Kd.pr Kd.str (@Kd.pr kI (@Kd.pr kI (@Kd.pr @Kd.flt (@Kd.pr Kd.bool Kd.bool))))) (@Kd.sl kI)))))))))).2).2).2).1 (((((x2.getD x0.toNat (Kd.zero (@Kd.pr Kd.str (@Kd.pr Kd.str (@Kd.pr Kd.bool (@Kd.pr kI (@Kd.pr kI (@Kd.pr Kd.bool (@Kd.pr (@Kd.pr Kd.str (@Kd.pr kI (@Kd.pr kI (@Kd.pr @Kd.flt (@Kd.pr Kd.bool Kd.bool))))) (@Kd.sl kI)))))))))).2).2).2).2).1 ((((((x2.getD x0.toNat (Kd.zero (@Kd.pr Kd.str (@Kd.pr Kd.str (@Kd.pr Kd.bool (@Kd.pr kI (@Kd.pr kI (@Kd.pr Kd.bool (@Kd.pr (@Kd.pr Kd.str (@Kd.pr kI (@Kd.pr kI (@Kd.pr @Kd.flt (@Kd.pr Kd.bool Kd.bool))))) (@Kd.sl kI)))))))))).2).2).2).2).2).1 ((((((((x2.getD x0.toNat (Kd.zero (@Kd.pr Kd.str (@Kd.pr Kd.str (@Kd.pr Kd.bool (@Kd.pr kI (@Kd.pr kI (@Kd.pr Kd.bool (@Kd.pr (@Kd.pr Kd.str (@Kd.pr kI (@Kd.pr kI (@Kd.pr @Kd.flt (@Kd.pr Kd.bool Kd.bool))))) (@Kd.sl kI)))))))))).2).2).2).2).2).2).1).1 (((((((((x2.getD x0.toNat (Kd.zero (@Kd.pr Kd.str (@Kd.pr Kd.str (@Kd.pr Kd.bool (@Kd.pr kI (@Kd.pr kI (@Kd.pr Kd.bool (@Kd.pr (@Kd.pr Kd.str (@Kd.pr kI (@Kd.pr kI (@Kd.pr @Kd.flt (@Kd.pr Kd.bool Kd.bool))))) (@Kd.sl kI)))))))))).2).2).2).2).2).2).1).2).1 ((((((((((x2.getD x0.toNat (Kd.zero (@Kd.pr Kd.str (@Kd.pr Kd.str (@Kd.pr Kd.bool (@Kd.pr kI (@Kd.pr kI (@Kd.pr Kd.bool (@Kd.pr (@Kd.pr Kd.str (@Kd.pr kI (@Kd.pr kI (@Kd.pr @Kd.flt (@Kd.pr Kd.bool Kd.bool))))) (@Kd.sl kI)))))))))).2).2).2).2).2).2).1).2).2).1 (((((((((((x2.getD x0.toNat (Kd.zero (@Kd.pr Kd.str (@Kd.pr Kd.str (@Kd.pr Kd.bool (@Kd.pr kI (@Kd.pr kI (@Kd.pr Kd.bool (@Kd.pr (@Kd.pr Kd.str (@Kd.pr kI (@Kd.pr kI (@Kd.pr @Kd.flt (@Kd.pr Kd.bool Kd.bool))))) (@Kd.sl kI)))))))))).2).2).2).2).2).2).1).2).2).2).1 ((((((((((((x2.getD x0.toNat (Kd.zero (@Kd.pr Kd.str (@Kd.pr Kd.str (@Kd.pr Kd.bool (@Kd.pr kI (@Kd.pr kI (@Kd.pr Kd.bool (@Kd.pr (@Kd.pr Kd.str (@Kd.pr kI (@Kd.pr kI (@Kd.pr @Kd.flt (@Kd.pr Kd.bool Kd.bool))))) (@Kd.sl kI)))))))))).2).2).2).2).2).2).1).2).2).2).2).1 ((((((((((((x2.getD x0.toNat (Kd.zero (@Kd.pr Kd.str (@Kd.pr Kd.str (@Kd.pr Kd.bool (@Kd.pr kI (@Kd.pr kI (@Kd.pr Kd.bool (@Kd.pr (@Kd.pr Kd.str (@Kd.pr kI (@Kd.pr kI (@Kd.pr @Kd.flt (@Kd.pr Kd.bool Kd.bool))))) (@Kd.sl kI)))))))))).2).2).2).2).2).2).1).2).2).2).2).2 (((((((x2.getD x0.toNat (Kd.zero (@Kd.pr Kd.str (@Kd.pr Kd.str (@Kd.pr Kd.bool (@Kd.pr kI (@Kd.pr kI (@Kd.pr Kd.bool (@Kd.pr (@Kd.pr Kd.str (@Kd.pr kI (@Kd.pr kI (@Kd.pr @Kd.flt (@Kd.pr Kd.bool Kd.bool))))) (@Kd.sl kI)))))))))).2).2).2).2).2).2).2 x3 x4 x5 x6 x7 x8 x9 x10 x11 x12 x13 x14 x15 (fun y19=>K x1 x2 x3 x4 x5 x6 x7 x8 x9 x10 x11 x12 x13 x14 x15 y19)) none
def wqp8(k:Nat){R:Type}(x0:Int)(x1:(List ((List UInt8)×(List Int))))(x2:(List dT56))(x3 x4:(List UInt8))(x5:Bool)(x6 x7:Int)(x8:Bool)(x9:(List UInt8))(x10 x11:Int)(x12:Nat)(x13 x14:Bool)(x15:(List Int))(K:wqgm R): Option R:=wq1ce k x0 x1 x2 x3 x4 x5 x6 x7 x8 x9 x10 x11 x12 x13 x14 x15 K
theorem wq14o(k:Nat){R:Type}(x0:Int)(x1:(List ((List UInt8)×(List Int))))(x2:(List dT56))(x3 x4:(List UInt8))(x5:Bool)(x6 x7:Int)(x8:Bool)(x9:(List UInt8))(x10 x11:Int)(x12:Nat)(x13 x14:Bool)(x15:(List Int))(K:wqgm R): fnW (wq1ah k) k Tryz.f66 wq1ag [.v kI x0,.ptr 11 0,.ptr 12 0] [(11,.var 27 [.v (.sl (.pr .str (.sl kI))) x1,.v (.sl kdT56) x2]),(12,.var 57 [.v .str x3,.v .str x4,.v .bool x5,.v kI x6,.v kI x7,.v .bool x8,.v .str x9,.v kI x10,.v kI x11,.v .flt x12,.v .bool x13,.v .bool x14,.v (.sl kI) x15])] (wqq3 K)=wqp8 k x0 x1 x2 x3 x4 x5 x6 x7 x8 x9 x10 x11 x12 x13 x14 x15 K:=by
 kernel_rfl
def wqev(k:Nat){R:Type}: List PV→List (Nm×HObj)→(Out→Option R)→Option R
 |[.v (.int .i64) x0,.ptr 11 0,.ptr 12 0],[(11,.var 27 [.v (.sl (.pr .str (.sl (.int .i64)))) x1,.v (.sl (.pr .str (.pr .str (.pr .bool (.pr (.int .i64) (.pr (.int .i64) (.pr .bool (.pr (.pr .str (.pr (.int .i64) (.pr (.int .i64) (.pr .flt (.pr .bool .bool))))) (.sl (.int .i64)))))))))) x2]),(12,.var 57 [.v .str x3,.v .str x4,.v .bool x5,.v (.int .i64) x6,.v (.int .i64) x7,.v .bool x8,.v .str x9,.v (.int .i64) x10,.v (.int .i64) x11,.v .flt x12,.v .bool x13,.v .bool x14,.v (.sl (.int .i64)) x15])],K=>wqp8 k x0 x1 x2 x3 x4 x5 x6 x7 x8 x9 x10 x11 x12 x13 x14 x15 (fun y0 y1 y2 y3 y4 y5 y6 y7 y8 y9 y10 y11 y12 y13 y14 y15=>K (.ret [.v .bool y15] [(11,.var 27 [.v (.sl (.pr .str (.sl (.int .i64)))) y0,.v (.sl (.pr .str (.pr .str (.pr .bool (.pr (.int .i64) (.pr (.int .i64) (.pr .bool (.pr (.pr .str (.pr (.int .i64) (.pr (.int .i64) (.pr .flt (.pr .bool .bool))))) (.sl (.int .i64)))))))))) y1]),(12,.var 57 [.v .str y2,.v .str y3,.v .bool y4,.v (.int .i64) y5,.v (.int .i64) y6,.v .bool y7,.v .str y8,.v (.int .i64) y9,.v (.int .i64) y10,.v .flt y11,.v .bool y12,.v .bool y13,.v (.sl (.int .i64)) y14])]))
 |_,_,_=>none
theorem wq1cf(k:Nat): DOK Tryz.prog 66 (wqev k):=by
 intro ps hp R K r h
 have h:wqev k ps hp K=some r:=h
 unfold wqev at h
 split at h
 ·rw[←wq14o]at h
  exact fnW_ok ⟨tyT_ok,(wqd (wqtp k) CTab.nil_ok),fun _ _=>rfl⟩ mixed (by kernel_rfl) (by kernel_rfl) h fun o ho=>by unfold wqq3 at ho;split at ho<;>first|exact ho|cases ho
 ·cases h
end Go.Proofs.YtabkhphoacmcdaaGreatDoor.Pvm
end
noncomputable section
namespace Go.Proofs.YtabkhphoacmcdaaGreatDoor.Pvm
open Go Go.Proofs
abbrev wq25(R:Type): Type:=((List ((List UInt8)×(List Int)))→(List dT56)→(List UInt8)→(List UInt8)→Bool→Int→Int→Bool→(List UInt8)→Int→Int→Nat→Bool→Bool→(List Int)→Int→Option R)
def wqfm:List LS:=[.sl kI,.clo [.obj 300 [.sl (.pr .str (.sl kI)),.sl kdT56],.obj 301 [.any,.any,.any,.any,.any,.any,.any,.any,.any,.any,.any,.any,.sl kI]]]
def wq4b{R:Type}(K:wq25 R): Out→Option R
 |.ret [.v (.int .i64) y15] [(300,.var 27 [.v (.sl (.pr .str (.sl (.int .i64)))) y0,.v (.sl (.pr .str (.pr .str (.pr .bool (.pr (.int .i64) (.pr (.int .i64) (.pr .bool (.pr (.pr .str (.pr (.int .i64) (.pr (.int .i64) (.pr .flt (.pr .bool .bool))))) (.sl (.int .i64)))))))))) y1]),(301,.var 57 [.v .str y2,.v .str y3,.v .bool y4,.v (.int .i64) y5,.v (.int .i64) y6,.v .bool y7,.v .str y8,.v (.int .i64) y9,.v (.int .i64) y10,.v .flt y11,.v .bool y12,.v .bool y13,.v (.sl (.int .i64)) y14])]=>K y0 y1 y2 y3 y4 y5 y6 y7 y8 y9 y10 y11 y12 y13 y14 y15
 |_=>none
def wq65:RetSpec:=⟨[.any],[(300,.obj 300 [.sl (.pr .str (.sl (.int .i64))),.sl (.pr .str (.pr .str (.pr .bool (.pr (.int .i64) (.pr (.int .i64) (.pr .bool (.pr (.pr .str (.pr (.int .i64) (.pr (.int .i64) (.pr .flt (.pr .bool .bool))))) (.sl (.int .i64)))))))))]),(301,.obj 301 [.any,.any,.any,.any,.any,.any,.any,.any,.any,.any,.any,.any,.sl (.int .i64)])],[]⟩
def wq66(k:Nat): Ctx:=⟨tyT,[(1002,⟨[(0,.sl kI),(1,.clo [.obj 300 [.sl (.pr .str (.sl kI)),.sl kdT56],.obj 301 [.any,.any,.any,.any,.any,.any,.any,.any,.any,.any,.any,.any,.sl kI]]),(7,.any),(8,.any)],[(300,.obj 300 [.sl (.pr .str (.sl kI)),.sl kdT56]),(301,.obj 301 [.any,.any,.any,.any,.any,.any,.any,.any,.any,.any,.any,.any,.sl kI])]⟩)],(.add 66 wq174 (wqev k) .nil),[],[300,301],[],@SH⟩
def wq3v(s0:(List ((List UInt8)×(List Int))))(s1:(List dT56))(s2 s3:(List UInt8))(s4:Bool)(s5 s6:Int)(s7:Bool)(s8:(List UInt8))(s9 s10:Int)(s11:Nat)(s12 s13:Bool)(s14 s15:(List Int))(s16 s17:Int): St:=⟨mkT [(0,.v (.sl kI) s15),(1,.clo 66 [.ptr 300 0,.ptr 301 0]),(7,.v kI s16),(8,.v kI s17)],mkH [(300,.var 27 [.v (.sl (.pr .str (.sl kI))) s0,.v (.sl kdT56) s1]),(301,.var 57 [.v .str s2,.v .str s3,.v .bool s4,.v kI s5,.v kI s6,.v .bool s7,.v .str s8,.v kI s9,.v kI s10,.v .flt s11,.v .bool s12,.v .bool s13,.v (.sl kI) s14])]⟩
def wq54(k:Nat){R:Type}(I:Nat→St→Option R)(n:Nat)(s:St)(K:wq25 R): Option R:=loopK (wq66 k) k Tryz.f110 wq65 1002 [1,0,1,0] I n s (wq4b K)
def wq7n(k:Nat){R:Type}(E1002:((List ((List UInt8)×(List Int)))→(List dT56)→(List UInt8)→(List UInt8)→Bool→Int→Int→Bool→(List UInt8)→Int→Int→Nat→Bool→Bool→(List Int)→(List Int)→Int→Int→Option R))(s0:(List ((List UInt8)×(List Int))))(s1:(List dT56))(s2 s3:(List UInt8))(s4:Bool)(s5 s6:Int)(s7:Bool)(s8:(List UInt8))(s9 s10:Int)(s11:Nat)(s12 s13:Bool)(s14 s15:(List Int))(s16 s17:Int)(K:wq25 R): Option R:=cond (decide (s17<s16)) (cond (inb s17 (s15.length:Int)) (wqp8 k (s15.getD s17.toNat kI.zero) s0 s1 s2 s3 s4 s5 s6 s7 s8 s9 s10 s11 s12 s13 s14 (fun y22 y23 y24 y25 y26 y27 y28 y29 y30 y31 y32 y33 y34 y35 y36 y37=>cond y37 (K y22 y23 y24 y25 y26 y27 y28 y29 y30 y31 y32 y33 y34 y35 y36 s17) (E1002 y22 y23 y24 y25 y26 y27 y28 y29 y30 y31 y32 y33 y34 y35 y36 s15 s16 (@Go.IntKind.wrap Go.IntKind.i64 (s17+1))))) none) (K s0 s1 s2 s3 s4 s5 s6 s7 s8 s9 s10 s11 s12 s13 s14 (@Neg.neg Int @Int.instNegInt (1:Int)))
theorem wqcf(k:Nat){R:Type}(I:Nat→St→Option R)(s0:(List ((List UInt8)×(List Int))))(s1:(List dT56))(s2 s3:(List UInt8))(s4:Bool)(s5 s6:Int)(s7:Bool)(s8:(List UInt8))(s9 s10:Int)(s11:Nat)(s12 s13:Bool)(s14 s15:(List Int))(s16 s17:Int)(K:wq25 R): bodyK (wq66 k) k Tryz.f110 wq65 [1,0,1,0,0] I (wq3v s0 s1 s2 s3 s4 s5 s6 s7 s8 s9 s10 s11 s12 s13 s14 s15 s16 s17) (wq4b K)=wq7n k (fun s0 s1 s2 s3 s4 s5 s6 s7 s8 s9 s10 s11 s12 s13 s14 s15 s16 s17=>I 1002 (wq3v s0 s1 s2 s3 s4 s5 s6 s7 s8 s9 s10 s11 s12 s13 s14 s15 s16 s17)) s0 s1 s2 s3 s4 s5 s6 s7 s8 s9 s10 s11 s12 s13 s14 s15 s16 s17 K:=by kernel_rfl
def wq9m(k:Nat){R:Type}(E1002:((List ((List UInt8)×(List Int)))→(List dT56)→(List UInt8)→(List UInt8)→Bool→Int→Int→Bool→(List UInt8)→Int→Int→Nat→Bool→Bool→(List Int)→(List Int)→Int→Int→Option R))(x0:(List Int))(x1:(List ((List UInt8)×(List Int))))(x2:(List dT56))(x3 x4:(List UInt8))(x5:Bool)(x6 x7:Int)(x8:Bool)(x9:(List UInt8))(x10 x11:Int)(x12:Nat)(x13 x14:Bool)(x15:(List Int))(K:wq25 R): Option R:=E1002 x1 x2 x3 x4 x5 x6 x7 x8 x9 x10 x11 x12 x13 x14 x15 x0 (x0.length:Int) 0
def wq55(k:Nat){R:Type}: Nat→(List ((List UInt8)×(List Int)))→(List dT56)→(List UInt8)→(List UInt8)→Bool→Int→Int→Bool→(List UInt8)→Int→Int→Nat→Bool→Bool→(List Int)→(List Int)→Int→Int→((List ((List UInt8)×(List Int)))→(List dT56)→(List UInt8)→(List UInt8)→Bool→Int→Int→Bool→(List UInt8)→Int→Int→Nat→Bool→Bool→(List Int)→Int→Option R)→Option R
 |0,_,_,_,_,_,_,_,_,_,_,_,_,_,_,_,_,_,_,_=>none
 |n+1,s0,s1,s2,s3,s4,s5,s6,s7,s8,s9,s10,s11,s12,s13,s14,s15,s16,s17,K=>wq7n k (fun s0 s1 s2 s3 s4 s5 s6 s7 s8 s9 s10 s11 s12 s13 s14 s15 s16 s17=>wq55 k n s0 s1 s2 s3 s4 s5 s6 s7 s8 s9 s10 s11 s12 s13 s14 s15 s16 s17 K) s0 s1 s2 s3 s4 s5 s6 s7 s8 s9 s10 s11 s12 s13 s14 s15 s16 s17 K
theorem wqcg(k:Nat){R:Type}(I:Nat→St→Option R)(K:wq25 R)(n:Nat): ∀(s0:(List ((List UInt8)×(List Int)))) (s1:(List dT56)) (s2 s3:(List UInt8)) (s4:Bool) (s5 s6:Int) (s7:Bool) (s8:(List UInt8)) (s9 s10:Int) (s11:Nat) (s12 s13:Bool) (s14 s15:(List Int)) (s16 s17:Int),wq54 k I n (wq3v s0 s1 s2 s3 s4 s5 s6 s7 s8 s9 s10 s11 s12 s13 s14 s15 s16 s17) K=wq55 k n s0 s1 s2 s3 s4 s5 s6 s7 s8 s9 s10 s11 s12 s13 s14 s15 s16 s17 K:=by
 induction n with
 |zero=>intros;rfl
 |succ n ih =>
  intro s0 s1 s2 s3 s4 s5 s6 s7 s8 s9 s10 s11 s12 s13 s14 s15 s16 s17
  refine(?_:_=_).trans ((wqcf k (upI 1002 (fun s=>wq54 k I n s K) I) s0 s1 s2 s3 s4 s5 s6 s7 s8 s9 s10 s11 s12 s13 s14 s15 s16 s17 K).trans ?_)
  ·rfl
  ·simp only[wq43,ih]<;>rfl
def wq6c(k:Nat){R:Type}(x0:(List Int))(x1:(List ((List UInt8)×(List Int))))(x2:(List dT56))(x3 x4:(List UInt8))(x5:Bool)(x6 x7:Int)(x8:Bool)(x9:(List UInt8))(x10 x11:Int)(x12:Nat)(x13 x14:Bool)(x15:(List Int))(K:wq25 R): Option R:=wq9m k (fun s0 s1 s2 s3 s4 s5 s6 s7 s8 s9 s10 s11 s12 s13 s14 s15 s16 s17=>wq55 k k s0 s1 s2 s3 s4 s5 s6 s7 s8 s9 s10 s11 s12 s13 s14 s15 s16 s17 K) x0 x1 x2 x3 x4 x5 x6 x7 x8 x9 x10 x11 x12 x13 x14 x15 K
theorem wqf9(k:Nat){R:Type}(x0:(List Int))(x1:(List ((List UInt8)×(List Int))))(x2:(List dT56))(x3 x4:(List UInt8))(x5:Bool)(x6 x7:Int)(x8:Bool)(x9:(List UInt8))(x10 x11:Int)(x12:Nat)(x13 x14:Bool)(x15:(List Int))(K:wq25 R): fnW (wq66 k) k Tryz.f110 wq65 [.v (.sl kI) x0,.clo 66 [.ptr 300 0,.ptr 301 0]] [(300,.var 27 [.v (.sl (.pr .str (.sl kI))) x1,.v (.sl kdT56) x2]),(301,.var 57 [.v .str x3,.v .str x4,.v .bool x5,.v kI x6,.v kI x7,.v .bool x8,.v .str x9,.v kI x10,.v kI x11,.v .flt x12,.v .bool x13,.v .bool x14,.v (.sl kI) x15])] (wq4b K)=wq6c k x0 x1 x2 x3 x4 x5 x6 x7 x8 x9 x10 x11 x12 x13 x14 x15 K:=by
 refine Eq.trans (b:=wq9m k (fun s0 s1 s2 s3 s4 s5 s6 s7 s8 s9 s10 s11 s12 s13 s14 s15 s16 s17=>wq54 k (fun _ _=>none) k (wq3v s0 s1 s2 s3 s4 s5 s6 s7 s8 s9 s10 s11 s12 s13 s14 s15 s16 s17) K) x0 x1 x2 x3 x4 x5 x6 x7 x8 x9 x10 x11 x12 x13 x14 x15 K) (by kernel_rfl) ?_
 simp only[wqcg]<;>rfl
def wq4f(k:Nat){R:Type}: List PV→List (Nm×HObj)→(Out→Option R)→Option R
 |[.v (.sl (.int .i64)) x0,.clo 66 [.ptr 300 0,.ptr 301 0]],[(300,.var 27 [.v (.sl (.pr .str (.sl (.int .i64)))) x1,.v (.sl (.pr .str (.pr .str (.pr .bool (.pr (.int .i64) (.pr (.int .i64) (.pr .bool (.pr (.pr .str (.pr (.int .i64) (.pr (.int .i64) (.pr .flt (.pr .bool .bool))))) (.sl (.int .i64)))))))))) x2]),(301,.var 57 [.v .str x3,.v .str x4,.v .bool x5,.v (.int .i64) x6,.v (.int .i64) x7,.v .bool x8,.v .str x9,.v (.int .i64) x10,.v (.int .i64) x11,.v .flt x12,.v .bool x13,.v .bool x14,.v (.sl (.int .i64)) x15])],K=>wq6c k x0 x1 x2 x3 x4 x5 x6 x7 x8 x9 x10 x11 x12 x13 x14 x15 (fun y0 y1 y2 y3 y4 y5 y6 y7 y8 y9 y10 y11 y12 y13 y14 y15=>K (.ret [.v (.int .i64) y15] [(300,.var 27 [.v (.sl (.pr .str (.sl (.int .i64)))) y0,.v (.sl (.pr .str (.pr .str (.pr .bool (.pr (.int .i64) (.pr (.int .i64) (.pr .bool (.pr (.pr .str (.pr (.int .i64) (.pr (.int .i64) (.pr .flt (.pr .bool .bool))))) (.sl (.int .i64)))))))))) y1]),(301,.var 57 [.v .str y2,.v .str y3,.v .bool y4,.v (.int .i64) y5,.v (.int .i64) y6,.v .bool y7,.v .str y8,.v (.int .i64) y9,.v (.int .i64) y10,.v .flt y11,.v .bool y12,.v .bool y13,.v (.sl (.int .i64)) y14])]))
 |_,_,_=>none
theorem wqgx(k:Nat): DOK Tryz.prog 110 (wq4f k):=by
 intro ps hp R K r h
 have h:wq4f k ps hp K=some r:=h
 unfold wq4f at h
 split at h
 ·rw[←wqf9]at h
  exact fnW_ok ⟨tyT_ok,(wqd (wq1cf k) CTab.nil_ok),fun _ _=>rfl⟩ mixed (by kernel_rfl) (by kernel_rfl) h fun o ho=>by unfold wq4b at ho;split at ho<;>first|exact ho|cases ho
 ·cases h
end Go.Proofs.YtabkhphoacmcdaaGreatDoor.Pvm
end
noncomputable section
namespace Go.Proofs.YtabkhphoacmcdaaGreatDoor.Pvm
open Go Go.Proofs
abbrev wq45(R:Type): Type:=((List ((List UInt8)×(List Int)))→(List dT56)→(List UInt8)→(List UInt8)→Bool→Int→Int→Bool→(List UInt8)→Int→Int→Nat→Bool→Bool→(List Int)→Bool→Option R)
def wqe7:List LS:=[.sl kI,.clo [.obj 300 [.sl (.pr .str (.sl kI)),.sl kdT56],.obj 301 [.any,.any,.any,.any,.any,.any,.any,.any,.any,.any,.any,.any,.sl kI]]]
def wq7g{R:Type}(K:wq45 R): Out→Option R
 |.ret [.v .bool y15] [(300,.var 27 [.v (.sl (.pr .str (.sl (.int .i64)))) y0,.v (.sl (.pr .str (.pr .str (.pr .bool (.pr (.int .i64) (.pr (.int .i64) (.pr .bool (.pr (.pr .str (.pr (.int .i64) (.pr (.int .i64) (.pr .flt (.pr .bool .bool))))) (.sl (.int .i64)))))))))) y1]),(301,.var 57 [.v .str y2,.v .str y3,.v .bool y4,.v (.int .i64) y5,.v (.int .i64) y6,.v .bool y7,.v .str y8,.v (.int .i64) y9,.v (.int .i64) y10,.v .flt y11,.v .bool y12,.v .bool y13,.v (.sl (.int .i64)) y14])]=>K y0 y1 y2 y3 y4 y5 y6 y7 y8 y9 y10 y11 y12 y13 y14 y15
 |_=>none
def wqed:RetSpec:=⟨[.any],[(300,.obj 300 [.sl (.pr .str (.sl (.int .i64))),.sl (.pr .str (.pr .str (.pr .bool (.pr (.int .i64) (.pr (.int .i64) (.pr .bool (.pr (.pr .str (.pr (.int .i64) (.pr (.int .i64) (.pr .flt (.pr .bool .bool))))) (.sl (.int .i64)))))))))]),(301,.obj 301 [.any,.any,.any,.any,.any,.any,.any,.any,.any,.any,.any,.any,.sl (.int .i64)])],[]⟩
def wqee(k:Nat): Ctx:=⟨tyT,[],(.add 110 wqfm (wq4f k) .nil),[],[300,301],[],@SH⟩
def wqfa(k:Nat){R:Type}(x0:(List Int))(x1:(List ((List UInt8)×(List Int))))(x2:(List dT56))(x3 x4:(List UInt8))(x5:Bool)(x6 x7:Int)(x8:Bool)(x9:(List UInt8))(x10 x11:Int)(x12:Nat)(x13 x14:Bool)(x15:(List Int))(K:wq45 R): Option R:=wq6c k x0 x1 x2 x3 x4 x5 x6 x7 x8 x9 x10 x11 x12 x13 x14 x15 (fun y19 y20 y21 y22 y23 y24 y25 y26 y27 y28 y29 y30 y31 y32 y33 y34=>K y19 y20 y21 y22 y23 y24 y25 y26 y27 y28 y29 y30 y31 y32 y33 (decide (y34≥0)))
def wq5q(k:Nat){R:Type}(x0:(List Int))(x1:(List ((List UInt8)×(List Int))))(x2:(List dT56))(x3 x4:(List UInt8))(x5:Bool)(x6 x7:Int)(x8:Bool)(x9:(List UInt8))(x10 x11:Int)(x12:Nat)(x13 x14:Bool)(x15:(List Int))(K:wq45 R): Option R:=wqfa k x0 x1 x2 x3 x4 x5 x6 x7 x8 x9 x10 x11 x12 x13 x14 x15 K
theorem wqdj(k:Nat){R:Type}(x0:(List Int))(x1:(List ((List UInt8)×(List Int))))(x2:(List dT56))(x3 x4:(List UInt8))(x5:Bool)(x6 x7:Int)(x8:Bool)(x9:(List UInt8))(x10 x11:Int)(x12:Nat)(x13 x14:Bool)(x15:(List Int))(K:wq45 R): fnW (wqee k) k Tryz.f65 wqed [.v (.sl kI) x0,.clo 66 [.ptr 300 0,.ptr 301 0]] [(300,.var 27 [.v (.sl (.pr .str (.sl kI))) x1,.v (.sl kdT56) x2]),(301,.var 57 [.v .str x3,.v .str x4,.v .bool x5,.v kI x6,.v kI x7,.v .bool x8,.v .str x9,.v kI x10,.v kI x11,.v .flt x12,.v .bool x13,.v .bool x14,.v (.sl kI) x15])] (wq7g K)=wq5q k x0 x1 x2 x3 x4 x5 x6 x7 x8 x9 x10 x11 x12 x13 x14 x15 K:=by
 kernel_rfl
def wq41(k:Nat){R:Type}: List PV→List (Nm×HObj)→(Out→Option R)→Option R
 |[.v (.sl (.int .i64)) x0,.clo 66 [.ptr 300 0,.ptr 301 0]],[(300,.var 27 [.v (.sl (.pr .str (.sl (.int .i64)))) x1,.v (.sl (.pr .str (.pr .str (.pr .bool (.pr (.int .i64) (.pr (.int .i64) (.pr .bool (.pr (.pr .str (.pr (.int .i64) (.pr (.int .i64) (.pr .flt (.pr .bool .bool))))) (.sl (.int .i64)))))))))) x2]),(301,.var 57 [.v .str x3,.v .str x4,.v .bool x5,.v (.int .i64) x6,.v (.int .i64) x7,.v .bool x8,.v .str x9,.v (.int .i64) x10,.v (.int .i64) x11,.v .flt x12,.v .bool x13,.v .bool x14,.v (.sl (.int .i64)) x15])],K=>wq5q k x0 x1 x2 x3 x4 x5 x6 x7 x8 x9 x10 x11 x12 x13 x14 x15 (fun y0 y1 y2 y3 y4 y5 y6 y7 y8 y9 y10 y11 y12 y13 y14 y15=>K (.ret [.v .bool y15] [(300,.var 27 [.v (.sl (.pr .str (.sl (.int .i64)))) y0,.v (.sl (.pr .str (.pr .str (.pr .bool (.pr (.int .i64) (.pr (.int .i64) (.pr .bool (.pr (.pr .str (.pr (.int .i64) (.pr (.int .i64) (.pr .flt (.pr .bool .bool))))) (.sl (.int .i64)))))))))) y1]),(301,.var 57 [.v .str y2,.v .str y3,.v .bool y4,.v (.int .i64) y5,.v (.int .i64) y6,.v .bool y7,.v .str y8,.v (.int .i64) y9,.v (.int .i64) y10,.v .flt y11,.v .bool y12,.v .bool y13,.v (.sl (.int .i64)) y14])]))
 |_,_,_=>none
theorem wqfb(k:Nat): DOK Tryz.prog 65 (wq41 k):=by
 intro ps hp R K r h
 have h:wq41 k ps hp K=some r:=h
 unfold wq41 at h
 split at h
 ·rw[←wqdj]at h
  exact fnW_ok ⟨tyT_ok,(wqd (wqgx k) CTab.nil_ok),fun _ _=>rfl⟩ mixed (by kernel_rfl) (by kernel_rfl) h fun o ho=>by unfold wq7g at ho;split at ho<;>first|exact ho|cases ho
 ·cases h
end Go.Proofs.YtabkhphoacmcdaaGreatDoor.Pvm
end
noncomputable section
namespace Go.Proofs.YtabkhphoacmcdaaGreatDoor.Pvm
open Go Go.Proofs
abbrev wq9g:Type 1:=(R:Type)→(List ((List UInt8)×(List Int)))→(List dT56)→(List Int)→Int→Int→Int→Int→(Int→Option R)→Option R
def wqx3:List LS:=[.ag [.sl (.pr .str (.sl kI)),.sl kdT56],.sl kI,.any,.any,.any,.any]
def wqup(wq3r:wq9g){R:Type}: List PV→List (Nm×HObj)→(Out→Option R)→Option R
 |[.agg [.v (.sl (.pr .str (.sl (.int .i64)))) x0,.v (.sl (.pr .str (.pr .str (.pr .bool (.pr (.int .i64) (.pr (.int .i64) (.pr .bool (.pr (.pr .str (.pr (.int .i64) (.pr (.int .i64) (.pr .flt (.pr .bool .bool))))) (.sl (.int .i64)))))))))) x1],.v (.sl (.int .i64)) x2,.v (.int .i64) x3,.v (.int .i64) x4,.v (.int .i64) x5,.v (.int .i64) x6],[],K=>wq3r R x0 x1 x2 x3 x4 x5 x6 (fun y0=>K (.ret [.v (.int .i64) y0] []))
 |_,_,_=>none
def wqgn{R:Type}(K:(Int→Option R)): Out→Option R
 |.ret [.v (.int .i64) y0] []=>K y0
 |_=>none
def wqrp:RetSpec:=⟨[.any],[],[]⟩
def wqrq(k:Nat)(wq3r:wq9g): Ctx:=⟨tyT,[(1002,⟨[(1,.sl kI),(2,.any),(3,.any),(4,.any),(5,.any),(6,.obj 16 [.sl (.pr .str (.sl kI)),.sl kdT56]),(16,.sl kI),(17,.any),(18,.any)],[]⟩)],(.add 34 wqx3 (wqup wq3r) (.add 64 wq1fx (wqla k) (.add 65 wqe7 (wq41 k) .nil))),[],[],[],@SH⟩
def wqcc(s0:(List Int))(s1 s2 s3 s4:Int)(s5:(List ((List UInt8)×(List Int))))(s6:(List dT56))(s7:(List Int))(s8 s9:Int): St:=⟨mkT [(1,.v (.sl kI) s0),(2,.v kI s1),(3,.v kI s2),(4,.v kI s3),(5,.v kI s4),(6,.ptr 16 0),(16,.v (.sl kI) s7),(17,.v kI s8),(18,.v kI s9)],mkH [(16,.var 27 [.v (.sl (.pr .str (.sl kI))) s5,.v (.sl kdT56) s6])]⟩
def wqi2(k:Nat)(wq3r:wq9g){R:Type}(I:Nat→St→Option R)(n:Nat)(s:St)(K:(Int→Option R)): Option R:=loopK (wqrq k wq3r) k Tryz.f34 wqrp 1002 [1,0,1,0] I n s (wqgn K)
def wqq4(k:Nat)(wq3r:wq9g){R:Type}(E1002:((List Int)→Int→Int→Int→Int→(List ((List UInt8)×(List Int)))→(List dT56)→(List Int)→Int→Int→Option R))(s0:(List Int))(s1 s2 s3 s4:Int)(s5:(List ((List UInt8)×(List Int))))(s6:(List dT56))(s7:(List Int))(s8 s9:Int)(K:(Int→Option R)): Option R:=cond (decide (s9<s8)) (cond (inb s9 (s7.length:Int)) (cond ((!((cond (cond ((s7.getD s9.toNat kI.zero) != s3) true (decide ((s7.getD s9.toNat kI.zero)≥(s6.length:Int)))) true (decide (s4>8))) == false)) || (inb (s7.getD s9.toNat kI.zero) (s6.length:Int))) (cond ((cond (cond ((s7.getD s9.toNat kI.zero) != s3) true (decide ((s7.getD s9.toNat kI.zero)≥(s6.length:Int)))) true (decide (s4>8))) == false) (wqzj k (s6.getD (s7.getD s9.toNat kI.zero).toNat (Kd.zero (@Kd.pr Kd.str (@Kd.pr Kd.str (@Kd.pr Kd.bool (@Kd.pr kI (@Kd.pr kI (@Kd.pr Kd.bool (@Kd.pr (@Kd.pr Kd.str (@Kd.pr kI (@Kd.pr kI (@Kd.pr @Kd.flt (@Kd.pr Kd.bool Kd.bool))))) (@Kd.sl kI)))))))))).1 ((s6.getD (s7.getD s9.toNat kI.zero).toNat (Kd.zero (@Kd.pr Kd.str (@Kd.pr Kd.str (@Kd.pr Kd.bool (@Kd.pr kI (@Kd.pr kI (@Kd.pr Kd.bool (@Kd.pr (@Kd.pr Kd.str (@Kd.pr kI (@Kd.pr kI (@Kd.pr @Kd.flt (@Kd.pr Kd.bool Kd.bool))))) (@Kd.sl kI)))))))))).2).1 (((s6.getD (s7.getD s9.toNat kI.zero).toNat (Kd.zero (@Kd.pr Kd.str (@Kd.pr Kd.str (@Kd.pr Kd.bool (@Kd.pr kI (@Kd.pr kI (@Kd.pr Kd.bool (@Kd.pr (@Kd.pr Kd.str (@Kd.pr kI (@Kd.pr kI (@Kd.pr @Kd.flt (@Kd.pr Kd.bool Kd.bool))))) (@Kd.sl kI)))))))))).2).2).1 ((((s6.getD (s7.getD s9.toNat kI.zero).toNat (Kd.zero (@Kd.pr Kd.str (@Kd.pr Kd.str (@Kd.pr Kd.bool (@Kd.pr kI (@Kd.pr kI (@Kd.pr Kd.bool (@Kd.pr (@Kd.pr Kd.str (@Kd.pr kI (@Kd.pr kI (@Kd.pr @Kd.flt (@Kd.pr Kd.bool Kd.bool))))) (@Kd.sl kI)))))))))).2).2).2).1 (((((s6.getD (s7.getD s9.toNat kI.zero).toNat (Kd.zero (@Kd.pr Kd.str (@Kd.pr Kd.str (@Kd.pr Kd.bool (@Kd.pr kI (@Kd.pr kI (@Kd.pr Kd.bool (@Kd.pr (@Kd.pr Kd.str (@Kd.pr kI (@Kd.pr kI (@Kd.pr @Kd.flt (@Kd.pr Kd.bool Kd.bool))))) (@Kd.sl kI)))))))))).2).2).2).2).1 ((((((s6.getD (s7.getD s9.toNat kI.zero).toNat (Kd.zero (@Kd.pr Kd.str (@Kd.pr Kd.str (@Kd.pr Kd.bool (@Kd.pr kI (@Kd.pr kI (@Kd.pr Kd.bool (@Kd.pr (@Kd.pr Kd.str (@Kd.pr kI (@Kd.pr kI (@Kd.pr @Kd.flt (@Kd.pr Kd.bool Kd.bool))))) (@Kd.sl kI)))))))))).2).2).2).2).2).1 ((((((((s6.getD (s7.getD s9.toNat kI.zero).toNat (Kd.zero (@Kd.pr Kd.str (@Kd.pr Kd.str (@Kd.pr Kd.bool (@Kd.pr kI (@Kd.pr kI (@Kd.pr Kd.bool (@Kd.pr (@Kd.pr Kd.str (@Kd.pr kI (@Kd.pr kI (@Kd.pr @Kd.flt (@Kd.pr Kd.bool Kd.bool))))) (@Kd.sl kI)))))))))).2).2).2).2).2).2).1).1 (((((((((s6.getD (s7.getD s9.toNat kI.zero).toNat (Kd.zero (@Kd.pr Kd.str (@Kd.pr Kd.str (@Kd.pr Kd.bool (@Kd.pr kI (@Kd.pr kI (@Kd.pr Kd.bool (@Kd.pr (@Kd.pr Kd.str (@Kd.pr kI (@Kd.pr kI (@Kd.pr @Kd.flt (@Kd.pr Kd.bool Kd.bool))))) (@Kd.sl kI)))))))))).2).2).2).2).2).2).1).2).1 ((((((((((s6.getD (s7.getD s9.toNat kI.zero).toNat (Kd.zero (@Kd.pr Kd.str (@Kd.pr Kd.str (@Kd.pr Kd.bool (@Kd.pr kI (@Kd.pr kI (@Kd.pr Kd.bool (@Kd.pr (@Kd.pr Kd.str (@Kd.pr kI (@Kd.pr kI (@Kd.pr @Kd.flt (@Kd.pr Kd.bool Kd.bool))))) (@Kd.sl kI)))))))))).2).2).2).2).2).2).1).2).2).1 (((((((((((s6.getD (s7.getD s9.toNat kI.zero).toNat (Kd.zero (@Kd.pr Kd.str (@Kd.pr Kd.str (@Kd.pr Kd.bool (@Kd.pr kI (@Kd.pr kI (@Kd.pr Kd.bool (@Kd.pr (@Kd.pr Kd.str (@Kd.pr kI (@Kd.pr kI (@Kd.pr @Kd.flt (@Kd.pr Kd.bool Kd.bool))))) (@Kd.sl kI)))))))))).2).2).2).2).2).2).1).2).2).2).1 ((((((((((((s6.getD (s7.getD s9.toNat kI.zero).toNat (Kd.zero (@Kd.pr Kd.str (@Kd.pr Kd.str (@Kd.pr Kd.bool (@Kd.pr kI (@Kd.pr kI (@Kd.pr Kd.bool (@Kd.pr (@Kd.pr Kd.str (@Kd.pr kI (@Kd.pr kI (@Kd.pr @Kd.flt (@Kd.pr Kd.bool Kd.bool))))) (@Kd.sl kI)))))))))).2).2).2).2).2).2).1).2).2).2).2).1 ((((((((((((s6.getD (s7.getD s9.toNat kI.zero).toNat (Kd.zero (@Kd.pr Kd.str (@Kd.pr Kd.str (@Kd.pr Kd.bool (@Kd.pr kI (@Kd.pr kI (@Kd.pr Kd.bool (@Kd.pr (@Kd.pr Kd.str (@Kd.pr kI (@Kd.pr kI (@Kd.pr @Kd.flt (@Kd.pr Kd.bool Kd.bool))))) (@Kd.sl kI)))))))))).2).2).2).2).2).2).1).2).2).2).2).2 (((((((s6.getD (s7.getD s9.toNat kI.zero).toNat (Kd.zero (@Kd.pr Kd.str (@Kd.pr Kd.str (@Kd.pr Kd.bool (@Kd.pr kI (@Kd.pr kI (@Kd.pr Kd.bool (@Kd.pr (@Kd.pr Kd.str (@Kd.pr kI (@Kd.pr kI (@Kd.pr @Kd.flt (@Kd.pr Kd.bool Kd.bool))))) (@Kd.sl kI)))))))))).2).2).2).2).2).2).2 s1 s2 (fun y14=>cond (!y14) (K (@Neg.neg Int @Int.instNegInt (1:Int))) (cond (inb (s7.getD s9.toNat kI.zero) (s6.length:Int)) (cond (bnd 0 s9 (s0.length:Int)) (wq5q k (cut s0 0 s9) s5 s6 (s6.getD (s7.getD s9.toNat kI.zero).toNat (Kd.zero (@Kd.pr Kd.str (@Kd.pr Kd.str (@Kd.pr Kd.bool (@Kd.pr kI (@Kd.pr kI (@Kd.pr Kd.bool (@Kd.pr (@Kd.pr Kd.str (@Kd.pr kI (@Kd.pr kI (@Kd.pr @Kd.flt (@Kd.pr Kd.bool Kd.bool))))) (@Kd.sl kI)))))))))).1 ((s6.getD (s7.getD s9.toNat kI.zero).toNat (Kd.zero (@Kd.pr Kd.str (@Kd.pr Kd.str (@Kd.pr Kd.bool (@Kd.pr kI (@Kd.pr kI (@Kd.pr Kd.bool (@Kd.pr (@Kd.pr Kd.str (@Kd.pr kI (@Kd.pr kI (@Kd.pr @Kd.flt (@Kd.pr Kd.bool Kd.bool))))) (@Kd.sl kI)))))))))).2).1 (((s6.getD (s7.getD s9.toNat kI.zero).toNat (Kd.zero (@Kd.pr Kd.str (@Kd.pr Kd.str (@Kd.pr Kd.bool (@Kd.pr kI (@Kd.pr kI (@Kd.pr Kd.bool (@Kd.pr (@Kd.pr Kd.str (@Kd.pr kI (@Kd.pr kI (@Kd.pr @Kd.flt (@Kd.pr Kd.bool Kd.bool))))) (@Kd.sl kI)))))))))).2).2).1 ((((s6.getD (s7.getD s9.toNat kI.zero).toNat (Kd.zero (@Kd.pr Kd.str (@Kd.pr Kd.str (@Kd.pr Kd.bool (@Kd.pr kI (@Kd.pr kI (@Kd.pr Kd.bool (@Kd.pr (@Kd.pr Kd.str (@Kd.pr kI (@Kd.pr kI (@Kd.pr @Kd.flt (@Kd.pr Kd.bool Kd.bool))))) (@Kd.sl kI)))))))))).2).2).2).1 (((((s6.getD (s7.getD s9.toNat kI.zero).toNat (Kd.zero (@Kd.pr Kd.str (@Kd.pr Kd.str (@Kd.pr Kd.bool (@Kd.pr kI (@Kd.pr kI (@Kd.pr Kd.bool (@Kd.pr (@Kd.pr Kd.str (@Kd.pr kI (@Kd.pr kI (@Kd.pr @Kd.flt (@Kd.pr Kd.bool Kd.bool))))) (@Kd.sl kI)))))))))).2).2).2).2).1 ((((((s6.getD (s7.getD s9.toNat kI.zero).toNat (Kd.zero (@Kd.pr Kd.str (@Kd.pr Kd.str (@Kd.pr Kd.bool (@Kd.pr kI (@Kd.pr kI (@Kd.pr Kd.bool (@Kd.pr (@Kd.pr Kd.str (@Kd.pr kI (@Kd.pr kI (@Kd.pr @Kd.flt (@Kd.pr Kd.bool Kd.bool))))) (@Kd.sl kI)))))))))).2).2).2).2).2).1 ((((((((s6.getD (s7.getD s9.toNat kI.zero).toNat (Kd.zero (@Kd.pr Kd.str (@Kd.pr Kd.str (@Kd.pr Kd.bool (@Kd.pr kI (@Kd.pr kI (@Kd.pr Kd.bool (@Kd.pr (@Kd.pr Kd.str (@Kd.pr kI (@Kd.pr kI (@Kd.pr @Kd.flt (@Kd.pr Kd.bool Kd.bool))))) (@Kd.sl kI)))))))))).2).2).2).2).2).2).1).1 (((((((((s6.getD (s7.getD s9.toNat kI.zero).toNat (Kd.zero (@Kd.pr Kd.str (@Kd.pr Kd.str (@Kd.pr Kd.bool (@Kd.pr kI (@Kd.pr kI (@Kd.pr Kd.bool (@Kd.pr (@Kd.pr Kd.str (@Kd.pr kI (@Kd.pr kI (@Kd.pr @Kd.flt (@Kd.pr Kd.bool Kd.bool))))) (@Kd.sl kI)))))))))).2).2).2).2).2).2).1).2).1 ((((((((((s6.getD (s7.getD s9.toNat kI.zero).toNat (Kd.zero (@Kd.pr Kd.str (@Kd.pr Kd.str (@Kd.pr Kd.bool (@Kd.pr kI (@Kd.pr kI (@Kd.pr Kd.bool (@Kd.pr (@Kd.pr Kd.str (@Kd.pr kI (@Kd.pr kI (@Kd.pr @Kd.flt (@Kd.pr Kd.bool Kd.bool))))) (@Kd.sl kI)))))))))).2).2).2).2).2).2).1).2).2).1 (((((((((((s6.getD (s7.getD s9.toNat kI.zero).toNat (Kd.zero (@Kd.pr Kd.str (@Kd.pr Kd.str (@Kd.pr Kd.bool (@Kd.pr kI (@Kd.pr kI (@Kd.pr Kd.bool (@Kd.pr (@Kd.pr Kd.str (@Kd.pr kI (@Kd.pr kI (@Kd.pr @Kd.flt (@Kd.pr Kd.bool Kd.bool))))) (@Kd.sl kI)))))))))).2).2).2).2).2).2).1).2).2).2).1 ((((((((((((s6.getD (s7.getD s9.toNat kI.zero).toNat (Kd.zero (@Kd.pr Kd.str (@Kd.pr Kd.str (@Kd.pr Kd.bool (@Kd.pr kI (@Kd.pr kI (@Kd.pr Kd.bool (@Kd.pr (@Kd.pr Kd.str (@Kd.pr kI (@Kd.pr kI (@Kd.pr @Kd.flt (@Kd.pr Kd.bool Kd.bool))))) (@Kd.sl kI)))))))))).2).2).2).2).2).2).1).2).2).2).2).1 ((((((((((((s6.getD (s7.getD s9.toNat kI.zero).toNat (Kd.zero (@Kd.pr Kd.str (@Kd.pr Kd.str (@Kd.pr Kd.bool (@Kd.pr kI (@Kd.pr kI (@Kd.pr Kd.bool (@Kd.pr (@Kd.pr Kd.str (@Kd.pr kI (@Kd.pr kI (@Kd.pr @Kd.flt (@Kd.pr Kd.bool Kd.bool))))) (@Kd.sl kI)))))))))).2).2).2).2).2).2).1).2).2).2).2).2 (((((((s6.getD (s7.getD s9.toNat kI.zero).toNat (Kd.zero (@Kd.pr Kd.str (@Kd.pr Kd.str (@Kd.pr Kd.bool (@Kd.pr kI (@Kd.pr kI (@Kd.pr Kd.bool (@Kd.pr (@Kd.pr Kd.str (@Kd.pr kI (@Kd.pr kI (@Kd.pr @Kd.flt (@Kd.pr Kd.bool Kd.bool))))) (@Kd.sl kI)))))))))).2).2).2).2).2).2).2 (fun y15 y16 y17 y18 y19 y20 y21 y22 y23 y24 y25 y26 y27 y28 y29 y30=>cond y30 (K (@Neg.neg Int @Int.instNegInt (1:Int))) (wq3r R y15 y16 y29 s1 (s7.getD s9.toNat kI.zero) (@Go.IntKind.wrap Go.IntKind.i64 ((s7.getD s9.toNat kI.zero)+1)) (@Go.IntKind.wrap Go.IntKind.i64 (s4+1)) (fun y31=>cond (decide (y31<0)) (K (@Neg.neg Int @Int.instNegInt (1:Int))) (E1002 s0 s1 s2 y31 s4 y15 y16 s7 s8 (@Go.IntKind.wrap Go.IntKind.i64 (s9+1))))))) none) none))) (K (@Neg.neg Int @Int.instNegInt (1:Int)))) none) none) (K s3)
theorem wqwe(k:Nat)(wq3r:wq9g){R:Type}(I:Nat→St→Option R)(s0:(List Int))(s1 s2 s3 s4:Int)(s5:(List ((List UInt8)×(List Int))))(s6:(List dT56))(s7:(List Int))(s8 s9:Int)(K:(Int→Option R)): bodyK (wqrq k wq3r) k Tryz.f34 wqrp [1,0,1,0,0] I (wqcc s0 s1 s2 s3 s4 s5 s6 s7 s8 s9) (wqgn K)=wqq4 k wq3r (fun s0 s1 s2 s3 s4 s5 s6 s7 s8 s9=>I 1002 (wqcc s0 s1 s2 s3 s4 s5 s6 s7 s8 s9)) s0 s1 s2 s3 s4 s5 s6 s7 s8 s9 K:=by kernel_rfl
def wq161(k:Nat)(wq3r:wq9g){R:Type}(E1002:((List Int)→Int→Int→Int→Int→(List ((List UInt8)×(List Int)))→(List dT56)→(List Int)→Int→Int→Option R))(x0:(List ((List UInt8)×(List Int))))(x1:(List dT56))(x2:(List Int))(x3 x4 x5 x6:Int)(K:(Int→Option R)): Option R:=E1002 x2 x3 x4 x5 x6 x0 x1 x2 (x2.length:Int) 0
def wqi3(k:Nat)(wq3r:wq9g){R:Type}: Nat→(List Int)→Int→Int→Int→Int→(List ((List UInt8)×(List Int)))→(List dT56)→(List Int)→Int→Int→(Int→Option R)→Option R
 |0,_,_,_,_,_,_,_,_,_,_,_=>none
 |n+1,s0,s1,s2,s3,s4,s5,s6,s7,s8,s9,K=>wqq4 k wq3r (fun s0 s1 s2 s3 s4 s5 s6 s7 s8 s9=>wqi3 k wq3r n s0 s1 s2 s3 s4 s5 s6 s7 s8 s9 K) s0 s1 s2 s3 s4 s5 s6 s7 s8 s9 K
theorem wqwf(k:Nat)(wq3r:wq9g){R:Type}(I:Nat→St→Option R)(K:(Int→Option R))(n:Nat): ∀(s0:(List Int)) (s1 s2 s3 s4:Int) (s5:(List ((List UInt8)×(List Int)))) (s6:(List dT56)) (s7:(List Int)) (s8 s9:Int),wqi2 k wq3r I n (wqcc s0 s1 s2 s3 s4 s5 s6 s7 s8 s9) K=wqi3 k wq3r n s0 s1 s2 s3 s4 s5 s6 s7 s8 s9 K:=by
 induction n with
 |zero=>intros;rfl
 |succ n ih =>
  intro s0 s1 s2 s3 s4 s5 s6 s7 s8 s9
  refine(?_:_=_).trans ((wqwe k wq3r (upI 1002 (fun s=>wqi2 k wq3r I n s K) I) s0 s1 s2 s3 s4 s5 s6 s7 s8 s9 K).trans ?_)
  ·rfl
  ·simp only[wq43,ih]<;>rfl
def wq7z:Nat→(R:Type)→(List ((List UInt8)×(List Int)))→(List dT56)→(List Int)→Int→Int→Int→Int→(Int→Option R)→Option R
 |0,_,_,_,_,_,_,_,_,_=>none
 |k+1,R,x0,x1,x2,x3,x4,x5,x6,K=>wq161 k (wq7z k) (fun s0 s1 s2 s3 s4 s5 s6 s7 s8 s9=>wqi3 k (wq7z k) k s0 s1 s2 s3 s4 s5 s6 s7 s8 s9 K) x0 x1 x2 x3 x4 x5 x6 K
def wqoc(k:Nat){R:Type}(x0:(List ((List UInt8)×(List Int))))(x1:(List dT56))(x2:(List Int))(x3 x4 x5 x6:Int)(K:(Int→Option R)): Option R:=wq7z k R x0 x1 x2 x3 x4 x5 x6 K
theorem wq1ai(k:Nat){R:Type}(x0:(List ((List UInt8)×(List Int))))(x1:(List dT56))(x2:(List Int))(x3 x4 x5 x6:Int)(K:(Int→Option R)): fnW (wqrq k (wq7z k)) k Tryz.f34 wqrp [.agg [.v (.sl (.pr .str (.sl kI))) x0,.v (.sl kdT56) x1],.v (.sl kI) x2,.v kI x3,.v kI x4,.v kI x5,.v kI x6] [] (wqgn K)=wq7z (k+1) R x0 x1 x2 x3 x4 x5 x6 K:=by
 rw[wq7z]
 refine Eq.trans (b:=wq161 k (wq7z k) (fun s0 s1 s2 s3 s4 s5 s6 s7 s8 s9=>wqi2 k (wq7z k) (fun _ _=>none) k (wqcc s0 s1 s2 s3 s4 s5 s6 s7 s8 s9) K) x0 x1 x2 x3 x4 x5 x6 K) (by kernel_rfl) ?_
 simp only[wqwf]<;>rfl
def wq83(k:Nat){R:Type}: List PV→List (Nm×HObj)→(Out→Option R)→Option R
 |[.agg [.v (.sl (.pr .str (.sl (.int .i64)))) x0,.v (.sl (.pr .str (.pr .str (.pr .bool (.pr (.int .i64) (.pr (.int .i64) (.pr .bool (.pr (.pr .str (.pr (.int .i64) (.pr (.int .i64) (.pr .flt (.pr .bool .bool))))) (.sl (.int .i64)))))))))) x1],.v (.sl (.int .i64)) x2,.v (.int .i64) x3,.v (.int .i64) x4,.v (.int .i64) x5,.v (.int .i64) x6],[],K=>wqoc k x0 x1 x2 x3 x4 x5 x6 (fun y0=>K (.ret [.v (.int .i64) y0] []))
 |_,_,_=>none
theorem wq1fy(k:Nat): DOK Tryz.prog 34 (wq83 k):=by
 induction k with
 |zero =>
  ·intro ps hp R K r h
   have h:wq83 0 ps hp K=some r:=h
   unfold wq83 at h
   split at h
   ·unfold wqoc at h;rw[wq7z]at h;cases h
   ·cases h
 |succ k ih =>
  have ih_config_walk:=ih
  ·intro ps hp R K r h
   have h:wq83 (k+1) ps hp K=some r:=h
   unfold wq83 at h
   split at h
   ·unfold wqoc at h;rw[←wq1ai]at h
    exact fnW_ok ⟨tyT_ok,(CTab.add_ok (fun h=>ih_config_walk _ _ _ _ _ (by unfold wqup at h;unfold wq83;exact h)) (wqd (wq1kh k) (wqd (wqfb k) CTab.nil_ok))),fun _ _=>rfl⟩ mixed (by kernel_rfl) (by kernel_rfl) h fun o ho=>by unfold wqgn at ho;split at ho<;>first|exact ho|cases ho
   ·cases h
theorem wq1i7(k:Nat): DOK Tryz.prog 34 (wq83 k):=(wq1fy k)
end Go.Proofs.YtabkhphoacmcdaaGreatDoor.Pvm
end
noncomputable section
namespace Go.Proofs.YtabkhphoacmcdaaGreatDoor.Pvm
open Go Go.Proofs
def wquq:List LS:=[.ag [.sl (.pr .str (.sl kI)),.sl kdT56]]
def wqew{R:Type}(K:(Int→Option R)): Out→Option R
 |.ret [.v (.int .i64) y0] []=>K y0
 |_=>none
def wqp9:RetSpec:=⟨[.any],[],[]⟩
def wqpa(k:Nat): Ctx:=⟨tyT,[(1006,⟨[(1,.obj 11 [.sl (.pr .str (.sl kI)),.sl kdT56]),(3,.mpo 73 .one .bool),(4,.any),(25,.sl (.pr .str (.sl kI))),(26,.any),(27,.any)],[]⟩)],(.add 33 wqiu (wqci k) (.add 34 wqx3 (wq83 k) .nil)),[],[],[],@SH⟩
def wqb4(s0:(List ((List UInt8)×(List Int))))(s1:(List dT56))(s2:(List (List UInt8×Bool)))(s3:Int)(s4:(List ((List UInt8)×(List Int))))(s5 s6:Int): St:=⟨mkT [(1,.ptr 11 0),(3,.mpp 73),(4,.v kI s3),(25,.v (.sl (.pr .str (.sl kI))) s4),(26,.v kI s5),(27,.v kI s6)],mkH [(11,.var 27 [.v (.sl (.pr .str (.sl kI))) s0,.v (.sl kdT56) s1]),(73,.mp .one .bool s2)]⟩
def wqgo(k:Nat){R:Type}(I:Nat→St→Option R)(n:Nat)(s:St)(K:(Int→Option R)): Option R:=loopK (wqpa k) k Tryz.f14 wqp9 1006 [1,1,1,1,0,1,0] I n s (wqew K)
def wqod(k:Nat){R:Type}(E1006:((List ((List UInt8)×(List Int)))→(List dT56)→(List (List UInt8×Bool))→Int→(List ((List UInt8)×(List Int)))→Int→Int→Option R))(s0:(List ((List UInt8)×(List Int))))(s1:(List dT56))(s2:(List (List UInt8×Bool)))(s3:Int)(s4:(List ((List UInt8)×(List Int))))(s5 s6:Int)(K:(Int→Option R)): Option R:=cond (decide (s6<s5)) (cond (inb s6 (s4.length:Int)) (cond ((mget Kd.bool (s4.getD s6.toNat (Kd.zero (@Kd.pr Kd.str (@Kd.sl kI)))).1 s2) == false) (wqa2 k (s4.getD s6.toNat (Kd.zero (@Kd.pr Kd.str (@Kd.sl kI)))).1 (fun y11=>cond (!y11) (K 1) (wqoc k s0 s1 (s4.getD s6.toNat (Kd.zero (@Kd.pr Kd.str (@Kd.sl kI)))).2 s6 (@Neg.neg Int @Int.instNegInt (1:Int)) s3 1 (fun y12=>cond (decide (y12<0)) (K 1) (E1006 s0 s1 (mset Kd.bool (s4.getD s6.toNat (Kd.zero (@Kd.pr Kd.str (@Kd.sl kI)))).1 true s2) y12 s4 s5 (@Go.IntKind.wrap Go.IntKind.i64 (s6+1))))))) (K 1)) none) (cond (s3 != (s1.length:Int)) (K 1) (K 0))
theorem wqur(k:Nat){R:Type}(I:Nat→St→Option R)(s0:(List ((List UInt8)×(List Int))))(s1:(List dT56))(s2:(List (List UInt8×Bool)))(s3:Int)(s4:(List ((List UInt8)×(List Int))))(s5 s6:Int)(K:(Int→Option R)): bodyK (wqpa k) k Tryz.f14 wqp9 [1,1,1,1,0,1,0,0] I (wqb4 s0 s1 s2 s3 s4 s5 s6) (wqew K)=wqod k (fun s0 s1 s2 s3 s4 s5 s6=>I 1006 (wqb4 s0 s1 s2 s3 s4 s5 s6)) s0 s1 s2 s3 s4 s5 s6 K:=by kernel_rfl
def wq121(k:Nat){R:Type}(E1006:((List ((List UInt8)×(List Int)))→(List dT56)→(List (List UInt8×Bool))→Int→(List ((List UInt8)×(List Int)))→Int→Int→Option R))(x0:(List ((List UInt8)×(List Int))))(x1:(List dT56))(K:(Int→Option R)): Option R:=cond (cond (cond (decide ((x0.length:Int)<1)) true (decide ((x0.length:Int)>16))) true (decide ((x1.length:Int)>500))) (K 1) (E1006 x0 x1 [] 0 x0 (x0.length:Int) 0)
def wqgp(k:Nat){R:Type}: Nat→(List ((List UInt8)×(List Int)))→(List dT56)→(List (List UInt8×Bool))→Int→(List ((List UInt8)×(List Int)))→Int→Int→(Int→Option R)→Option R
 |0,_,_,_,_,_,_,_,_=>none
 |n+1,s0,s1,s2,s3,s4,s5,s6,K=>wqod k (fun s0 s1 s2 s3 s4 s5 s6=>wqgp k n s0 s1 s2 s3 s4 s5 s6 K) s0 s1 s2 s3 s4 s5 s6 K
theorem wqus(k:Nat){R:Type}(I:Nat→St→Option R)(K:(Int→Option R))(n:Nat): ∀(s0:(List ((List UInt8)×(List Int)))) (s1:(List dT56)) (s2:(List (List UInt8×Bool))) (s3:Int) (s4:(List ((List UInt8)×(List Int)))) (s5 s6:Int),wqgo k I n (wqb4 s0 s1 s2 s3 s4 s5 s6) K=wqgp k n s0 s1 s2 s3 s4 s5 s6 K:=by
 induction n with
 |zero=>intros;rfl
 |succ n ih =>
  intro s0 s1 s2 s3 s4 s5 s6
  refine(?_:_=_).trans ((wqur k (upI 1006 (fun s=>wqgo k I n s K) I) s0 s1 s2 s3 s4 s5 s6 K).trans ?_)
  ·rfl
  ·simp only[wq43,ih]<;>rfl
def wqb5(k:Nat){R:Type}(x0:(List ((List UInt8)×(List Int))))(x1:(List dT56))(K:(Int→Option R)): Option R:=wq121 k (fun s0 s1 s2 s3 s4 s5 s6=>wqgp k k s0 s1 s2 s3 s4 s5 s6 K) x0 x1 K
theorem wq175(k:Nat){R:Type}(x0:(List ((List UInt8)×(List Int))))(x1:(List dT56))(K:(Int→Option R)): fnW (wqpa k) k Tryz.f14 wqp9 [.agg [.v (.sl (.pr .str (.sl kI))) x0,.v (.sl kdT56) x1]] [] (wqew K)=wqb5 k x0 x1 K:=by
 refine Eq.trans (b:=wq121 k (fun s0 s1 s2 s3 s4 s5 s6=>wqgo k (fun _ _=>none) k (wqb4 s0 s1 s2 s3 s4 s5 s6) K) x0 x1 K) (by kernel_rfl) ?_
 simp only[wqus]<;>rfl
def wqgq(k:Nat){R:Type}: List PV→List (Nm×HObj)→(Out→Option R)→Option R
 |[.agg [.v (.sl (.pr .str (.sl (.int .i64)))) x0,.v (.sl (.pr .str (.pr .str (.pr .bool (.pr (.int .i64) (.pr (.int .i64) (.pr .bool (.pr (.pr .str (.pr (.int .i64) (.pr (.int .i64) (.pr .flt (.pr .bool .bool))))) (.sl (.int .i64)))))))))) x1]],[],K=>wqb5 k x0 x1 (fun y0=>K (.ret [.v (.int .i64) y0] []))
 |_,_,_=>none
theorem wq1fz(k:Nat): DOK Tryz.prog 14 (wqgq k):=by
 intro ps hp R K r h
 have h:wqgq k ps hp K=some r:=h
 unfold wqgq at h
 split at h
 ·rw[←wq175]at h
  exact fnW_ok ⟨tyT_ok,(wqd (wqv3 k) (wqd (wq1i7 k) CTab.nil_ok)),fun _ _=>rfl⟩ mixed (by kernel_rfl) (by kernel_rfl) h fun o ho=>by unfold wqew at ho;split at ho<;>first|exact ho|cases ho
 ·cases h
end Go.Proofs.YtabkhphoacmcdaaGreatDoor.Pvm
end
noncomputable section
namespace Go.Proofs.YtabkhphoacmcdaaGreatDoor.Pvm
open Go Go.Proofs
def wqef:List LS:=[.sl kI,.sl kI]
def wq6d{R:Type}(K:(Bool→Option R)): Out→Option R
 |.ret [.v .bool y0] []=>K y0
 |_=>none
def wqac:RetSpec:=⟨[.any],[],[]⟩
def wqad(k:Nat): Ctx:=⟨tyT,[(1004,⟨[(0,.sl kI),(1,.sl kI),(12,.any),(13,.any)],[]⟩)],.nil,[],[],[(6,(.of [(0,1),(1,1),(2,1),(4,1),(5,1),(6,1),(3,1),(7,1),(8,1)] .done))],@SH⟩
def wq5g(s0 s1:(List Int))(s2 s3:Int): St:=⟨mkT [(0,.v (.sl kI) s0),(1,.v (.sl kI) s1),(12,.v kI s2),(13,.v kI s3)],mkH []⟩
def wq80(k:Nat){R:Type}(I:Nat→St→Option R)(n:Nat)(s:St)(K:(Bool→Option R)): Option R:=loopK (wqad k) k Tryz.f50 wqac 1004 [1,1,0,1,0] I n s (wq6d K)
def wqcd(k:Nat){R:Type}(E1004:((List Int)→(List Int)→Int→Int→Option R))(s0 s1:(List Int))(s2 s3:Int)(K:(Bool→Option R)): Option R:=cond (decide (s3<s2)) (cond (inb s3 (s0.length:Int)) (cond (inb s3 (s1.length:Int)) (cond ((s0.getD s3.toNat kI.zero) != (s1.getD s3.toNat kI.zero)) (K false) (E1004 s0 s1 s2 (@Go.IntKind.wrap Go.IntKind.i64 (s3+1)))) none) none) (K true)
theorem wqi4(k:Nat){R:Type}(I:Nat→St→Option R)(s0 s1:(List Int))(s2 s3:Int)(K:(Bool→Option R)): bodyK (wqad k) k Tryz.f50 wqac [1,1,0,1,0,0] I (wq5g s0 s1 s2 s3) (wq6d K)=wqcd k (fun s0 s1 s2 s3=>I 1004 (wq5g s0 s1 s2 s3)) s0 s1 s2 s3 K:=by kernel_rfl
def wqgr(k:Nat){R:Type}(E1004:((List Int)→(List Int)→Int→Int→Option R))(x0 x1:(List Int))(K:(Bool→Option R)): Option R:=cond ((x0.length:Int) != (x1.length:Int)) (K false) (E1004 x0 x1 (x0.length:Int) 0)
def wq81(k:Nat){R:Type}: Nat→(List Int)→(List Int)→Int→Int→(Bool→Option R)→Option R
 |0,_,_,_,_,_=>none
 |n+1,s0,s1,s2,s3,K=>wqcd k (fun s0 s1 s2 s3=>wq81 k n s0 s1 s2 s3 K) s0 s1 s2 s3 K
theorem wqi5(k:Nat){R:Type}(I:Nat→St→Option R)(K:(Bool→Option R))(n:Nat): ∀(s0 s1:(List Int)) (s2 s3:Int),wq80 k I n (wq5g s0 s1 s2 s3) K=wq81 k n s0 s1 s2 s3 K:=by
 induction n with
 |zero=>intros;rfl
 |succ n ih =>
  intro s0 s1 s2 s3
  refine(?_:_=_).trans ((wqi4 k (upI 1004 (fun s=>wq80 k I n s K) I) s0 s1 s2 s3 K).trans ?_)
  ·rfl
  ·simp only[wq43,ih]<;>rfl
def wq82(k:Nat){R:Type}(x0 x1:(List Int))(K:(Bool→Option R)): Option R:=wqgr k (fun s0 s1 s2 s3=>wq81 k k s0 s1 s2 s3 K) x0 x1 K
theorem wqno(k:Nat){R:Type}(x0 x1:(List Int))(K:(Bool→Option R)): fnW (wqad k) k Tryz.f50 wqac [.v (.sl kI) x0,.v (.sl kI) x1] [] (wq6d K)=wq82 k x0 x1 K:=by
 refine Eq.trans (b:=wqgr k (fun s0 s1 s2 s3=>wq80 k (fun _ _=>none) k (wq5g s0 s1 s2 s3) K) x0 x1 K) (by kernel_rfl) ?_
 simp only[wqi5]<;>rfl
def wq5e(k:Nat){R:Type}: List PV→List (Nm×HObj)→(Out→Option R)→Option R
 |[.v (.sl (.int .i64)) x0,.v (.sl (.int .i64)) x1],[],K=>wq82 k x0 x1 (fun y0=>K (.ret [.v .bool y0] []))
 |_,_,_=>none
theorem wqgs(k:Nat): DOK Tryz.prog 50 (wq5e k):=by
 intro ps hp R K r h
 have h:wq5e k ps hp K=some r:=h
 unfold wq5e at h
 split at h
 ·rw[←wqno]at h
  exact fnW_ok ⟨tyT_ok,CTab.nil_ok,fun _ _=>rfl⟩ mixed (by kernel_rfl) (by kernel_rfl) h fun o ho=>by unfold wq6d at ho;split at ho<;>first|exact ho|cases ho
 ·cases h
end Go.Proofs.YtabkhphoacmcdaaGreatDoor.Pvm
end
noncomputable section
namespace Go.Proofs.YtabkhphoacmcdaaGreatDoor.Pvm
open Go Go.Proofs
def wqk6:List LS:=[.ag [.any,.sl kI],.ag [.any,.sl kI]]
def wqq5{R:Type}(K:(Bool→Option R)): Out→Option R
 |.ret [.v .bool y0] []=>K y0
 |_=>none
def wq1aj:RetSpec:=⟨[.any],[],[]⟩
def wq1ak(k:Nat): Ctx:=⟨tyT,[],(.add 50 wqef (wq5e k) .nil),[],[],[],@SH⟩
def wq1cg(k:Nat){R:Type}(x0:(List UInt8))(x1:(List Int))(x2:(List UInt8))(x3:(List Int))(K:(Bool→Option R)): Option R:=cond ((x0 == x2) == true) (wq82 k x1 x3 K) (K false)
def wqbi(k:Nat){R:Type}(x0:(List UInt8))(x1:(List Int))(x2:(List UInt8))(x3:(List Int))(K:(Bool→Option R)): Option R:=wq1cg k x0 x1 x2 x3 K
theorem wq14p(k:Nat){R:Type}(x0:(List UInt8))(x1:(List Int))(x2:(List UInt8))(x3:(List Int))(K:(Bool→Option R)): fnW (wq1ak k) k Tryz.f49 wq1aj [.agg [.v .str x0,.v (.sl kI) x1],.agg [.v .str x2,.v (.sl kI) x3]] [] (wqq5 K)=wqbi k x0 x1 x2 x3 K:=by
 kernel_rfl
def wqbf(k:Nat){R:Type}: List PV→List (Nm×HObj)→(Out→Option R)→Option R
 |[.agg [.v .str x0,.v (.sl (.int .i64)) x1],.agg [.v .str x2,.v (.sl (.int .i64)) x3]],[],K=>wqbi k x0 x1 x2 x3 (fun y0=>K (.ret [.v .bool y0] []))
 |_,_,_=>none
theorem wqx4(k:Nat): DOK Tryz.prog 49 (wqbf k):=by
 intro ps hp R K r h
 have h:wqbf k ps hp K=some r:=h
 unfold wqbf at h
 split at h
 ·rw[←wq14p]at h
  exact fnW_ok ⟨tyT_ok,(wqd (wqgs k) CTab.nil_ok),fun _ _=>rfl⟩ mixed (by kernel_rfl) (by kernel_rfl) h fun o ho=>by unfold wqq5 at ho;split at ho<;>first|exact ho|cases ho
 ·cases h
end Go.Proofs.YtabkhphoacmcdaaGreatDoor.Pvm
end
noncomputable section
namespace Go.Proofs.YtabkhphoacmcdaaGreatDoor.Pvm
open Go Go.Proofs
def wqgt:List LS:=[.ag [.any,.any,.any,.any,.any,.any,.any,.any,.any,.any,.any,.any,.sl kI],.ag [.any,.any,.any,.any,.any,.any,.any,.any,.any,.any,.any,.any,.sl kI]]
def wqne{R:Type}(K:(Bool→Option R)): Out→Option R
 |.ret [.v .bool y0] []=>K y0
 |_=>none
def wq14q:RetSpec:=⟨[.any],[],[]⟩
def wq14r(k:Nat): Ctx:=⟨tyT,[],(.add 50 wqef (wq5e k) (.add 67 wqor (wqbh k) (.add 92 wq160 (wqjd k) .nil))),[],[],[],@SH⟩
def wq176(k:Nat){R:Type}(x0 x1:(List UInt8))(x2:Bool)(x3 x4:Int)(x5:Bool)(x6:(List UInt8))(x7 x8:Int)(x9:Nat)(x10 x11:Bool)(x12:(List Int))(x13 x14:(List UInt8))(x15:Bool)(x16 x17:Int)(x18:Bool)(x19:(List UInt8))(x20 x21:Int)(x22:Nat)(x23 x24:Bool)(x25:(List Int))(K:(Bool→Option R)): Option R:=wqj0 k x0 x1 x2 x3 x4 x5 x6 x7 x8 x9 x10 x11 x12 x13 x14 x15 x16 x17 x18 x19 x20 x21 x22 x23 x24 x25 (fun y29=>cond ((cond (cond (cond y29 (x3 == x16) false) (x4 == x17) false) (x5 == x18) false) == true) (wqvd k x6 x7 x8 x9 x10 x11 x19 x20 x21 x22 x23 x24 (fun y30=>cond (y30 == true) (wq82 k x12 x25 K) (K false))) (K false))
def wq93(k:Nat){R:Type}(x0 x1:(List UInt8))(x2:Bool)(x3 x4:Int)(x5:Bool)(x6:(List UInt8))(x7 x8:Int)(x9:Nat)(x10 x11:Bool)(x12:(List Int))(x13 x14:(List UInt8))(x15:Bool)(x16 x17:Int)(x18:Bool)(x19:(List UInt8))(x20 x21:Int)(x22:Nat)(x23 x24:Bool)(x25:(List Int))(K:(Bool→Option R)): Option R:=wq176 k x0 x1 x2 x3 x4 x5 x6 x7 x8 x9 x10 x11 x12 x13 x14 x15 x16 x17 x18 x19 x20 x21 x22 x23 x24 x25 K
theorem wqzk(k:Nat){R:Type}(x0 x1:(List UInt8))(x2:Bool)(x3 x4:Int)(x5:Bool)(x6:(List UInt8))(x7 x8:Int)(x9:Nat)(x10 x11:Bool)(x12:(List Int))(x13 x14:(List UInt8))(x15:Bool)(x16 x17:Int)(x18:Bool)(x19:(List UInt8))(x20 x21:Int)(x22:Nat)(x23 x24:Bool)(x25:(List Int))(K:(Bool→Option R)): fnW (wq14r k) k Tryz.f53 wq14q [.agg [.v .str x0,.v .str x1,.v .bool x2,.v kI x3,.v kI x4,.v .bool x5,.v .str x6,.v kI x7,.v kI x8,.v .flt x9,.v .bool x10,.v .bool x11,.v (.sl kI) x12],.agg [.v .str x13,.v .str x14,.v .bool x15,.v kI x16,.v kI x17,.v .bool x18,.v .str x19,.v kI x20,.v kI x21,.v .flt x22,.v .bool x23,.v .bool x24,.v (.sl kI) x25]] [] (wqne K)=wq93 k x0 x1 x2 x3 x4 x5 x6 x7 x8 x9 x10 x11 x12 x13 x14 x15 x16 x17 x18 x19 x20 x21 x22 x23 x24 x25 K:=by
 kernel_rfl
def wq9h(k:Nat){R:Type}: List PV→List (Nm×HObj)→(Out→Option R)→Option R
 |[.agg [.v .str x0,.v .str x1,.v .bool x2,.v (.int .i64) x3,.v (.int .i64) x4,.v .bool x5,.v .str x6,.v (.int .i64) x7,.v (.int .i64) x8,.v .flt x9,.v .bool x10,.v .bool x11,.v (.sl (.int .i64)) x12],.agg [.v .str x13,.v .str x14,.v .bool x15,.v (.int .i64) x16,.v (.int .i64) x17,.v .bool x18,.v .str x19,.v (.int .i64) x20,.v (.int .i64) x21,.v .flt x22,.v .bool x23,.v .bool x24,.v (.sl (.int .i64)) x25]],[],K=>wq93 k x0 x1 x2 x3 x4 x5 x6 x7 x8 x9 x10 x11 x12 x13 x14 x15 x16 x17 x18 x19 x20 x21 x22 x23 x24 x25 (fun y0=>K (.ret [.v .bool y0] []))
 |_,_,_=>none
theorem wqsb(k:Nat): DOK Tryz.prog 53 (wq9h k):=by
 intro ps hp R K r h
 have h:wq9h k ps hp K=some r:=h
 unfold wq9h at h
 split at h
 ·rw[←wqzk]at h
  exact fnW_ok ⟨tyT_ok,(wqd (wqgs k) (wqd (wqtp k) (wqd (wq1dm k) CTab.nil_ok))),fun _ _=>rfl⟩ mixed (by kernel_rfl) (by kernel_rfl) h fun o ho=>by unfold wqne at ho;split at ho<;>first|exact ho|cases ho
 ·cases h
end Go.Proofs.YtabkhphoacmcdaaGreatDoor.Pvm
end
noncomputable section
namespace Go.Proofs.YtabkhphoacmcdaaGreatDoor.Pvm
open Go Go.Proofs
def wq3e:List LS:=[.sl kdT56,.sl kdT56,.clo []]
def wq1d{R:Type}(K:(Bool→Option R)): Out→Option R
 |.ret [.v .bool y0] []=>K y0
 |_=>none
def wq2f:RetSpec:=⟨[.any],[],[]⟩
def wq2g(k:Nat): Ctx:=⟨tyT,[(1004,⟨[(1,.sl kdT56),(2,.clo []),(15,.sl kdT56),(16,.any),(17,.any)],[]⟩)],(.add 53 wqgt (wq9h k) .nil),[],[],[],@SH⟩
def wq13(s0 s1:(List dT56))(s2 s3:Int): St:=⟨mkT [(1,.v (.sl kdT56) s0),(2,.clo 53 []),(15,.v (.sl kdT56) s1),(16,.v kI s2),(17,.v kI s3)],mkH []⟩
def wq26(k:Nat){R:Type}(I:Nat→St→Option R)(n:Nat)(s:St)(K:(Bool→Option R)): Option R:=loopK (wq2g k) k Tryz.f52 wq2f 1004 [1,1,0,1,0] I n s (wq1d K)
def wq34(k:Nat){R:Type}(E1004:((List dT56)→(List dT56)→Int→Int→Option R))(s0 s1:(List dT56))(s2 s3:Int)(K:(Bool→Option R)): Option R:=cond (decide (s3<s2)) (cond (inb s3 (s1.length:Int)) (cond (inb s3 (s0.length:Int)) (wq93 k (s1.getD s3.toNat (Kd.zero (@Kd.pr Kd.str (@Kd.pr Kd.str (@Kd.pr Kd.bool (@Kd.pr kI (@Kd.pr kI (@Kd.pr Kd.bool (@Kd.pr (@Kd.pr Kd.str (@Kd.pr kI (@Kd.pr kI (@Kd.pr @Kd.flt (@Kd.pr Kd.bool Kd.bool))))) (@Kd.sl kI)))))))))).1 ((s1.getD s3.toNat (Kd.zero (@Kd.pr Kd.str (@Kd.pr Kd.str (@Kd.pr Kd.bool (@Kd.pr kI (@Kd.pr kI (@Kd.pr Kd.bool (@Kd.pr (@Kd.pr Kd.str (@Kd.pr kI (@Kd.pr kI (@Kd.pr @Kd.flt (@Kd.pr Kd.bool Kd.bool))))) (@Kd.sl kI)))))))))).2).1 (((s1.getD s3.toNat (Kd.zero (@Kd.pr Kd.str (@Kd.pr Kd.str (@Kd.pr Kd.bool (@Kd.pr kI (@Kd.pr kI (@Kd.pr Kd.bool (@Kd.pr (@Kd.pr Kd.str (@Kd.pr kI (@Kd.pr kI (@Kd.pr @Kd.flt (@Kd.pr Kd.bool Kd.bool))))) (@Kd.sl kI)))))))))).2).2).1 ((((s1.getD s3.toNat (Kd.zero (@Kd.pr Kd.str (@Kd.pr Kd.str (@Kd.pr Kd.bool (@Kd.pr kI (@Kd.pr kI (@Kd.pr Kd.bool (@Kd.pr (@Kd.pr Kd.str (@Kd.pr kI (@Kd.pr kI (@Kd.pr @Kd.flt (@Kd.pr Kd.bool Kd.bool))))) (@Kd.sl kI)))))))))).2).2).2).1 (((((s1.getD s3.toNat (Kd.zero (@Kd.pr Kd.str (@Kd.pr Kd.str (@Kd.pr Kd.bool (@Kd.pr kI (@Kd.pr kI (@Kd.pr Kd.bool (@Kd.pr (@Kd.pr Kd.str (@Kd.pr kI (@Kd.pr kI (@Kd.pr @Kd.flt (@Kd.pr Kd.bool Kd.bool))))) (@Kd.sl kI)))))))))).2).2).2).2).1 ((((((s1.getD s3.toNat (Kd.zero (@Kd.pr Kd.str (@Kd.pr Kd.str (@Kd.pr Kd.bool (@Kd.pr kI (@Kd.pr kI (@Kd.pr Kd.bool (@Kd.pr (@Kd.pr Kd.str (@Kd.pr kI (@Kd.pr kI (@Kd.pr @Kd.flt (@Kd.pr Kd.bool Kd.bool))))) (@Kd.sl kI)))))))))).2).2).2).2).2).1 ((((((((s1.getD s3.toNat (Kd.zero (@Kd.pr Kd.str (@Kd.pr Kd.str (@Kd.pr Kd.bool (@Kd.pr kI (@Kd.pr kI (@Kd.pr Kd.bool (@Kd.pr (@Kd.pr Kd.str (@Kd.pr kI (@Kd.pr kI (@Kd.pr @Kd.flt (@Kd.pr Kd.bool Kd.bool))))) (@Kd.sl kI)))))))))).2).2).2).2).2).2).1).1 (((((((((s1.getD s3.toNat (Kd.zero (@Kd.pr Kd.str (@Kd.pr Kd.str (@Kd.pr Kd.bool (@Kd.pr kI (@Kd.pr kI (@Kd.pr Kd.bool (@Kd.pr (@Kd.pr Kd.str (@Kd.pr kI (@Kd.pr kI (@Kd.pr @Kd.flt (@Kd.pr Kd.bool Kd.bool))))) (@Kd.sl kI)))))))))).2).2).2).2).2).2).1).2).1 ((((((((((s1.getD s3.toNat (Kd.zero (@Kd.pr Kd.str (@Kd.pr Kd.str (@Kd.pr Kd.bool (@Kd.pr kI (@Kd.pr kI (@Kd.pr Kd.bool (@Kd.pr (@Kd.pr Kd.str (@Kd.pr kI (@Kd.pr kI (@Kd.pr @Kd.flt (@Kd.pr Kd.bool Kd.bool))))) (@Kd.sl kI)))))))))).2).2).2).2).2).2).1).2).2).1 (((((((((((s1.getD s3.toNat (Kd.zero (@Kd.pr Kd.str (@Kd.pr Kd.str (@Kd.pr Kd.bool (@Kd.pr kI (@Kd.pr kI (@Kd.pr Kd.bool (@Kd.pr (@Kd.pr Kd.str (@Kd.pr kI (@Kd.pr kI (@Kd.pr @Kd.flt (@Kd.pr Kd.bool Kd.bool))))) (@Kd.sl kI)))))))))).2).2).2).2).2).2).1).2).2).2).1 ((((((((((((s1.getD s3.toNat (Kd.zero (@Kd.pr Kd.str (@Kd.pr Kd.str (@Kd.pr Kd.bool (@Kd.pr kI (@Kd.pr kI (@Kd.pr Kd.bool (@Kd.pr (@Kd.pr Kd.str (@Kd.pr kI (@Kd.pr kI (@Kd.pr @Kd.flt (@Kd.pr Kd.bool Kd.bool))))) (@Kd.sl kI)))))))))).2).2).2).2).2).2).1).2).2).2).2).1 ((((((((((((s1.getD s3.toNat (Kd.zero (@Kd.pr Kd.str (@Kd.pr Kd.str (@Kd.pr Kd.bool (@Kd.pr kI (@Kd.pr kI (@Kd.pr Kd.bool (@Kd.pr (@Kd.pr Kd.str (@Kd.pr kI (@Kd.pr kI (@Kd.pr @Kd.flt (@Kd.pr Kd.bool Kd.bool))))) (@Kd.sl kI)))))))))).2).2).2).2).2).2).1).2).2).2).2).2 (((((((s1.getD s3.toNat (Kd.zero (@Kd.pr Kd.str (@Kd.pr Kd.str (@Kd.pr Kd.bool (@Kd.pr kI (@Kd.pr kI (@Kd.pr Kd.bool (@Kd.pr (@Kd.pr Kd.str (@Kd.pr kI (@Kd.pr kI (@Kd.pr @Kd.flt (@Kd.pr Kd.bool Kd.bool))))) (@Kd.sl kI)))))))))).2).2).2).2).2).2).2 (s0.getD s3.toNat (Kd.zero (@Kd.pr Kd.str (@Kd.pr Kd.str (@Kd.pr Kd.bool (@Kd.pr kI (@Kd.pr kI (@Kd.pr Kd.bool (@Kd.pr (@Kd.pr Kd.str (@Kd.pr kI (@Kd.pr kI (@Kd.pr @Kd.flt (@Kd.pr Kd.bool Kd.bool))))) (@Kd.sl kI)))))))))).1 ((s0.getD s3.toNat (Kd.zero (@Kd.pr Kd.str (@Kd.pr Kd.str (@Kd.pr Kd.bool (@Kd.pr kI (@Kd.pr kI (@Kd.pr Kd.bool (@Kd.pr (@Kd.pr Kd.str (@Kd.pr kI (@Kd.pr kI (@Kd.pr @Kd.flt (@Kd.pr Kd.bool Kd.bool))))) (@Kd.sl kI)))))))))).2).1 (((s0.getD s3.toNat (Kd.zero (@Kd.pr Kd.str (@Kd.pr Kd.str (@Kd.pr Kd.bool (@Kd.pr kI (@Kd.pr kI (@Kd.pr Kd.bool (@Kd.pr (@Kd.pr Kd.str (@Kd.pr kI (@Kd.pr kI (@Kd.pr @Kd.flt (@Kd.pr Kd.bool Kd.bool))))) (@Kd.sl kI)))))))))).2).2).1 ((((s0.getD s3.toNat (Kd.zero (@Kd.pr Kd.str (@Kd.pr Kd.str (@Kd.pr Kd.bool (@Kd.pr kI (@Kd.pr kI (@Kd.pr Kd.bool (@Kd.pr (@Kd.pr Kd.str (@Kd.pr kI (@Kd.pr kI (@Kd.pr @Kd.flt (@Kd.pr Kd.bool Kd.bool))))) (@Kd.sl kI)))))))))).2).2).2).1 (((((s0.getD s3.toNat (Kd.zero (@Kd.pr Kd.str (@Kd.pr Kd.str (@Kd.pr Kd.bool (@Kd.pr kI (@Kd.pr kI (@Kd.pr Kd.bool (@Kd.pr (@Kd.pr Kd.str (@Kd.pr kI (@Kd.pr kI (@Kd.pr @Kd.flt (@Kd.pr Kd.bool Kd.bool))))) (@Kd.sl kI)))))))))).2).2).2).2).1 ((((((s0.getD s3.toNat (Kd.zero (@Kd.pr Kd.str (@Kd.pr Kd.str (@Kd.pr Kd.bool (@Kd.pr kI (@Kd.pr kI (@Kd.pr Kd.bool (@Kd.pr (@Kd.pr Kd.str (@Kd.pr kI (@Kd.pr kI (@Kd.pr @Kd.flt (@Kd.pr Kd.bool Kd.bool))))) (@Kd.sl kI)))))))))).2).2).2).2).2).1 ((((((((s0.getD s3.toNat (Kd.zero (@Kd.pr Kd.str (@Kd.pr Kd.str (@Kd.pr Kd.bool (@Kd.pr kI (@Kd.pr kI (@Kd.pr Kd.bool (@Kd.pr (@Kd.pr Kd.str (@Kd.pr kI (@Kd.pr kI (@Kd.pr @Kd.flt (@Kd.pr Kd.bool Kd.bool))))) (@Kd.sl kI)))))))))).2).2).2).2).2).2).1).1 (((((((((s0.getD s3.toNat (Kd.zero (@Kd.pr Kd.str (@Kd.pr Kd.str (@Kd.pr Kd.bool (@Kd.pr kI (@Kd.pr kI (@Kd.pr Kd.bool (@Kd.pr (@Kd.pr Kd.str (@Kd.pr kI (@Kd.pr kI (@Kd.pr @Kd.flt (@Kd.pr Kd.bool Kd.bool))))) (@Kd.sl kI)))))))))).2).2).2).2).2).2).1).2).1 ((((((((((s0.getD s3.toNat (Kd.zero (@Kd.pr Kd.str (@Kd.pr Kd.str (@Kd.pr Kd.bool (@Kd.pr kI (@Kd.pr kI (@Kd.pr Kd.bool (@Kd.pr (@Kd.pr Kd.str (@Kd.pr kI (@Kd.pr kI (@Kd.pr @Kd.flt (@Kd.pr Kd.bool Kd.bool))))) (@Kd.sl kI)))))))))).2).2).2).2).2).2).1).2).2).1 (((((((((((s0.getD s3.toNat (Kd.zero (@Kd.pr Kd.str (@Kd.pr Kd.str (@Kd.pr Kd.bool (@Kd.pr kI (@Kd.pr kI (@Kd.pr Kd.bool (@Kd.pr (@Kd.pr Kd.str (@Kd.pr kI (@Kd.pr kI (@Kd.pr @Kd.flt (@Kd.pr Kd.bool Kd.bool))))) (@Kd.sl kI)))))))))).2).2).2).2).2).2).1).2).2).2).1 ((((((((((((s0.getD s3.toNat (Kd.zero (@Kd.pr Kd.str (@Kd.pr Kd.str (@Kd.pr Kd.bool (@Kd.pr kI (@Kd.pr kI (@Kd.pr Kd.bool (@Kd.pr (@Kd.pr Kd.str (@Kd.pr kI (@Kd.pr kI (@Kd.pr @Kd.flt (@Kd.pr Kd.bool Kd.bool))))) (@Kd.sl kI)))))))))).2).2).2).2).2).2).1).2).2).2).2).1 ((((((((((((s0.getD s3.toNat (Kd.zero (@Kd.pr Kd.str (@Kd.pr Kd.str (@Kd.pr Kd.bool (@Kd.pr kI (@Kd.pr kI (@Kd.pr Kd.bool (@Kd.pr (@Kd.pr Kd.str (@Kd.pr kI (@Kd.pr kI (@Kd.pr @Kd.flt (@Kd.pr Kd.bool Kd.bool))))) (@Kd.sl kI)))))))))).2).2).2).2).2).2).1).2).2).2).2).2 (((((((s0.getD s3.toNat (Kd.zero (@Kd.pr Kd.str (@Kd.pr Kd.str (@Kd.pr Kd.bool (@Kd.pr kI (@Kd.pr kI (@Kd.pr Kd.bool (@Kd.pr (@Kd.pr Kd.str (@Kd.pr kI (@Kd.pr kI (@Kd.pr @Kd.flt (@Kd.pr Kd.bool Kd.bool))))) (@Kd.sl kI)))))))))).2).2).2).2).2).2).2 (fun y8=>cond (!y8) (K false) (E1004 s0 s1 s2 (@Go.IntKind.wrap Go.IntKind.i64 (s3+1))))) none) none) (K true)
theorem wq4y(k:Nat){R:Type}(I:Nat→St→Option R)(s0 s1:(List dT56))(s2 s3:Int)(K:(Bool→Option R)): bodyK (wq2g k) k Tryz.f52 wq2f [1,1,0,1,0,0] I (wq13 s0 s1 s2 s3) (wq1d K)=wq34 k (fun s0 s1 s2 s3=>I 1004 (wq13 s0 s1 s2 s3)) s0 s1 s2 s3 K:=by kernel_rfl
def wq3h(k:Nat){R:Type}(E1004:((List dT56)→(List dT56)→Int→Int→Option R))(x0 x1:(List dT56))(K:(Bool→Option R)): Option R:=cond ((x0.length:Int) != (x1.length:Int)) (K false) (E1004 x1 x0 (x0.length:Int) 0)
def wq27(k:Nat){R:Type}: Nat→(List dT56)→(List dT56)→Int→Int→(Bool→Option R)→Option R
 |0,_,_,_,_,_=>none
 |n+1,s0,s1,s2,s3,K=>wq34 k (fun s0 s1 s2 s3=>wq27 k n s0 s1 s2 s3 K) s0 s1 s2 s3 K
theorem wq4z(k:Nat){R:Type}(I:Nat→St→Option R)(K:(Bool→Option R))(n:Nat): ∀(s0 s1:(List dT56)) (s2 s3:Int),wq26 k I n (wq13 s0 s1 s2 s3) K=wq27 k n s0 s1 s2 s3 K:=by
 induction n with
 |zero=>intros;rfl
 |succ n ih =>
  intro s0 s1 s2 s3
  refine(?_:_=_).trans ((wq4y k (upI 1004 (fun s=>wq26 k I n s K) I) s0 s1 s2 s3 K).trans ?_)
  ·rfl
  ·simp only[wq43,ih]<;>rfl
def wqk(k:Nat){R:Type}(x0 x1:(List dT56))(K:(Bool→Option R)): Option R:=wq3h k (fun s0 s1 s2 s3=>wq27 k k s0 s1 s2 s3 K) x0 x1 K
theorem wq5h(k:Nat){R:Type}(x0 x1:(List dT56))(K:(Bool→Option R)): fnW (wq2g k) k Tryz.f52 wq2f [.v (.sl kdT56) x0,.v (.sl kdT56) x1,.clo 53 []] [] (wq1d K)=wqk k x0 x1 K:=by
 refine Eq.trans (b:=wq3h k (fun s0 s1 s2 s3=>wq26 k (fun _ _=>none) k (wq13 s0 s1 s2 s3) K) x0 x1 K) (by kernel_rfl) ?_
 simp only[wq4z]<;>rfl
def wq1i(k:Nat){R:Type}: List PV→List (Nm×HObj)→(Out→Option R)→Option R
 |[.v (.sl (.pr .str (.pr .str (.pr .bool (.pr (.int .i64) (.pr (.int .i64) (.pr .bool (.pr (.pr .str (.pr (.int .i64) (.pr (.int .i64) (.pr .flt (.pr .bool .bool))))) (.sl (.int .i64)))))))))) x0,.v (.sl (.pr .str (.pr .str (.pr .bool (.pr (.int .i64) (.pr (.int .i64) (.pr .bool (.pr (.pr .str (.pr (.int .i64) (.pr (.int .i64) (.pr .flt (.pr .bool .bool))))) (.sl (.int .i64)))))))))) x1,.clo 53 []],[],K=>wqk k x0 x1 (fun y0=>K (.ret [.v .bool y0] []))
 |_,_,_=>none
theorem wq5y(k:Nat): DOK Tryz.prog 52 (wq1i k):=by
 intro ps hp R K r h
 have h:wq1i k ps hp K=some r:=h
 unfold wq1i at h
 split at h
 ·rw[←wq5h]at h
  exact fnW_ok ⟨tyT_ok,(wqd (wqsb k) CTab.nil_ok),fun _ _=>rfl⟩ mixed (by kernel_rfl) (by kernel_rfl) h fun o ho=>by unfold wq1d at ho;split at ho<;>first|exact ho|cases ho
 ·cases h
end Go.Proofs.YtabkhphoacmcdaaGreatDoor.Pvm
end
noncomputable section
namespace Go.Proofs.YtabkhphoacmcdaaGreatDoor.Pvm
open Go Go.Proofs
def wq3f:List LS:=[.sl (.pr .str (.sl kI)),.sl (.pr .str (.sl kI)),.clo []]
def wq1e{R:Type}(K:(Bool→Option R)): Out→Option R
 |.ret [.v .bool y0] []=>K y0
 |_=>none
def wq2h:RetSpec:=⟨[.any],[],[]⟩
def wq2i(k:Nat): Ctx:=⟨tyT,[(1004,⟨[(1,.sl (.pr .str (.sl kI))),(2,.clo []),(15,.sl (.pr .str (.sl kI))),(16,.any),(17,.any)],[]⟩)],(.add 49 wqk6 (wqbf k) .nil),[],[],[],@SH⟩
def wq14(s0 s1:(List ((List UInt8)×(List Int))))(s2 s3:Int): St:=⟨mkT [(1,.v (.sl (.pr .str (.sl kI))) s0),(2,.clo 49 []),(15,.v (.sl (.pr .str (.sl kI))) s1),(16,.v kI s2),(17,.v kI s3)],mkH []⟩
def wq28(k:Nat){R:Type}(I:Nat→St→Option R)(n:Nat)(s:St)(K:(Bool→Option R)): Option R:=loopK (wq2i k) k Tryz.f51 wq2h 1004 [1,1,0,1,0] I n s (wq1e K)
def wq35(k:Nat){R:Type}(E1004:((List ((List UInt8)×(List Int)))→(List ((List UInt8)×(List Int)))→Int→Int→Option R))(s0 s1:(List ((List UInt8)×(List Int))))(s2 s3:Int)(K:(Bool→Option R)): Option R:=cond (decide (s3<s2)) (cond (inb s3 (s1.length:Int)) (cond (inb s3 (s0.length:Int)) (wqbi k (s1.getD s3.toNat (Kd.zero (@Kd.pr Kd.str (@Kd.sl kI)))).1 (s1.getD s3.toNat (Kd.zero (@Kd.pr Kd.str (@Kd.sl kI)))).2 (s0.getD s3.toNat (Kd.zero (@Kd.pr Kd.str (@Kd.sl kI)))).1 (s0.getD s3.toNat (Kd.zero (@Kd.pr Kd.str (@Kd.sl kI)))).2 (fun y8=>cond (!y8) (K false) (E1004 s0 s1 s2 (@Go.IntKind.wrap Go.IntKind.i64 (s3+1))))) none) none) (K true)
theorem wq50(k:Nat){R:Type}(I:Nat→St→Option R)(s0 s1:(List ((List UInt8)×(List Int))))(s2 s3:Int)(K:(Bool→Option R)): bodyK (wq2i k) k Tryz.f51 wq2h [1,1,0,1,0,0] I (wq14 s0 s1 s2 s3) (wq1e K)=wq35 k (fun s0 s1 s2 s3=>I 1004 (wq14 s0 s1 s2 s3)) s0 s1 s2 s3 K:=by kernel_rfl
def wq3i(k:Nat){R:Type}(E1004:((List ((List UInt8)×(List Int)))→(List ((List UInt8)×(List Int)))→Int→Int→Option R))(x0 x1:(List ((List UInt8)×(List Int))))(K:(Bool→Option R)): Option R:=cond ((x0.length:Int) != (x1.length:Int)) (K false) (E1004 x1 x0 (x0.length:Int) 0)
def wq29(k:Nat){R:Type}: Nat→(List ((List UInt8)×(List Int)))→(List ((List UInt8)×(List Int)))→Int→Int→(Bool→Option R)→Option R
 |0,_,_,_,_,_=>none
 |n+1,s0,s1,s2,s3,K=>wq35 k (fun s0 s1 s2 s3=>wq29 k n s0 s1 s2 s3 K) s0 s1 s2 s3 K
theorem wq51(k:Nat){R:Type}(I:Nat→St→Option R)(K:(Bool→Option R))(n:Nat): ∀(s0 s1:(List ((List UInt8)×(List Int)))) (s2 s3:Int),wq28 k I n (wq14 s0 s1 s2 s3) K=wq29 k n s0 s1 s2 s3 K:=by
 induction n with
 |zero=>intros;rfl
 |succ n ih =>
  intro s0 s1 s2 s3
  refine(?_:_=_).trans ((wq50 k (upI 1004 (fun s=>wq28 k I n s K) I) s0 s1 s2 s3 K).trans ?_)
  ·rfl
  ·simp only[wq43,ih]<;>rfl
def wql(k:Nat){R:Type}(x0 x1:(List ((List UInt8)×(List Int))))(K:(Bool→Option R)): Option R:=wq3i k (fun s0 s1 s2 s3=>wq29 k k s0 s1 s2 s3 K) x0 x1 K
theorem wq5i(k:Nat){R:Type}(x0 x1:(List ((List UInt8)×(List Int))))(K:(Bool→Option R)): fnW (wq2i k) k Tryz.f51 wq2h [.v (.sl (.pr .str (.sl kI))) x0,.v (.sl (.pr .str (.sl kI))) x1,.clo 49 []] [] (wq1e K)=wql k x0 x1 K:=by
 refine Eq.trans (b:=wq3i k (fun s0 s1 s2 s3=>wq28 k (fun _ _=>none) k (wq14 s0 s1 s2 s3) K) x0 x1 K) (by kernel_rfl) ?_
 simp only[wq51]<;>rfl
def wq1j(k:Nat){R:Type}: List PV→List (Nm×HObj)→(Out→Option R)→Option R
 |[.v (.sl (.pr .str (.sl (.int .i64)))) x0,.v (.sl (.pr .str (.sl (.int .i64)))) x1,.clo 49 []],[],K=>wql k x0 x1 (fun y0=>K (.ret [.v .bool y0] []))
 |_,_,_=>none
theorem wq5z(k:Nat): DOK Tryz.prog 51 (wq1j k):=by
 intro ps hp R K r h
 have h:wq1j k ps hp K=some r:=h
 unfold wq1j at h
 split at h
 ·rw[←wq5i]at h
  exact fnW_ok ⟨tyT_ok,(wqd (wqx4 k) CTab.nil_ok),fun _ _=>rfl⟩ mixed (by kernel_rfl) (by kernel_rfl) h fun o ho=>by unfold wq1e at ho;split at ho<;>first|exact ho|cases ho
 ·cases h
end Go.Proofs.YtabkhphoacmcdaaGreatDoor.Pvm
end
noncomputable section
namespace Go.Proofs.YtabkhphoacmcdaaGreatDoor.Pvm
open Go Go.Proofs
def wqx5:List LS:=[.ag [.sl (.pr .str (.sl kI)),.sl kdT56],.ag [.sl (.pr .str (.sl kI)),.sl kdT56]]
def wqnf{R:Type}(K:(Bool→Option R)): Out→Option R
 |.ret [.v .bool y0] []=>K y0
 |_=>none
def wq122:RetSpec:=⟨[.any],[],[]⟩
def wq123(k:Nat): Ctx:=⟨tyT,[],(.add 49 wqk6 (wqbf k) (.add 51 wq3f (wq1j k) (.add 52 wq3e (wq1i k) (.add 53 wqgt (wq9h k) .nil)))),[],[],[],@SH⟩
def wq1i8(k:Nat){R:Type}(x0:(List ((List UInt8)×(List Int))))(x1:(List dT56))(x2:(List ((List UInt8)×(List Int))))(x3:(List dT56))(K:(Bool→Option R)): Option R:=wql k x0 x2 (fun y7=>cond (y7 == true) (wqk k x1 x3 K) (K false))
def wqag(k:Nat){R:Type}(x0:(List ((List UInt8)×(List Int))))(x1:(List dT56))(x2:(List ((List UInt8)×(List Int))))(x3:(List dT56))(K:(Bool→Option R)): Option R:=wq1i8 k x0 x1 x2 x3 K
def wq1ch(f:(R:Type)→(List UInt8)→(List Int)→(List UInt8)→(List Int)→(Bool→Option R)→Option R){R:Type}: List PV→List (Nm×HObj)→(Out→Option R)→Option R
 |[.agg [.v .str x0,.v (.sl (.int .i64)) x1],.agg [.v .str x2,.v (.sl (.int .i64)) x3]],[],K=>f R x0 x1 x2 x3 (fun y0=>K (.ret [.v .bool y0] []))
 |_,_,_=>none
def wq1ci(f:(R:Type)→(List ((List UInt8)×(List Int)))→(List ((List UInt8)×(List Int)))→(Bool→Option R)→Option R){R:Type}: List PV→List (Nm×HObj)→(Out→Option R)→Option R
 |[.v (.sl (.pr .str (.sl (.int .i64)))) x0,.v (.sl (.pr .str (.sl (.int .i64)))) x1,.clo 49 []],[],K=>f R x0 x1 (fun y0=>K (.ret [.v .bool y0] []))
 |_,_,_=>none
def wq1cj(f:(R:Type)→(List dT56)→(List dT56)→(Bool→Option R)→Option R){R:Type}: List PV→List (Nm×HObj)→(Out→Option R)→Option R
 |[.v (.sl (.pr .str (.pr .str (.pr .bool (.pr (.int .i64) (.pr (.int .i64) (.pr .bool (.pr (.pr .str (.pr (.int .i64) (.pr (.int .i64) (.pr .flt (.pr .bool .bool))))) (.sl (.int .i64)))))))))) x0,.v (.sl (.pr .str (.pr .str (.pr .bool (.pr (.int .i64) (.pr (.int .i64) (.pr .bool (.pr (.pr .str (.pr (.int .i64) (.pr (.int .i64) (.pr .flt (.pr .bool .bool))))) (.sl (.int .i64)))))))))) x1,.clo 53 []],[],K=>f R x0 x1 (fun y0=>K (.ret [.v .bool y0] []))
 |_,_,_=>none
def wq1ck(f:(R:Type)→(List UInt8)→(List UInt8)→Bool→Int→Int→Bool→(List UInt8)→Int→Int→Nat→Bool→Bool→(List Int)→(List UInt8)→(List UInt8)→Bool→Int→Int→Bool→(List UInt8)→Int→Int→Nat→Bool→Bool→(List Int)→(Bool→Option R)→Option R){R:Type}: List PV→List (Nm×HObj)→(Out→Option R)→Option R
 |[.agg [.v .str x0,.v .str x1,.v .bool x2,.v (.int .i64) x3,.v (.int .i64) x4,.v .bool x5,.v .str x6,.v (.int .i64) x7,.v (.int .i64) x8,.v .flt x9,.v .bool x10,.v .bool x11,.v (.sl (.int .i64)) x12],.agg [.v .str x13,.v .str x14,.v .bool x15,.v (.int .i64) x16,.v (.int .i64) x17,.v .bool x18,.v .str x19,.v (.int .i64) x20,.v (.int .i64) x21,.v .flt x22,.v .bool x23,.v .bool x24,.v (.sl (.int .i64)) x25]],[],K=>f R x0 x1 x2 x3 x4 x5 x6 x7 x8 x9 x10 x11 x12 x13 x14 x15 x16 x17 x18 x19 x20 x21 x22 x23 x24 x25 (fun y0=>K (.ret [.v .bool y0] []))
 |_,_,_=>none
def wq124(f0:(R:Type)→(List UInt8)→(List Int)→(List UInt8)→(List Int)→(Bool→Option R)→Option R)(f1:(R:Type)→(List ((List UInt8)×(List Int)))→(List ((List UInt8)×(List Int)))→(Bool→Option R)→Option R)(f2:(R:Type)→(List dT56)→(List dT56)→(Bool→Option R)→Option R)(f3:(R:Type)→(List UInt8)→(List UInt8)→Bool→Int→Int→Bool→(List UInt8)→Int→Int→Nat→Bool→Bool→(List Int)→(List UInt8)→(List UInt8)→Bool→Int→Int→Bool→(List UInt8)→Int→Int→Nat→Bool→Bool→(List Int)→(Bool→Option R)→Option R): Ctx:=⟨tyT,[],(.add 49 wqk6 (wq1ch f0) (.add 51 wq3f (wq1ci f1) (.add 52 wq3e (wq1cj f2) (.add 53 wqgt (wq1ck f3) .nil)))),[],[],[],@SH⟩
def wq162(f0:(R:Type)→(List UInt8)→(List Int)→(List UInt8)→(List Int)→(Bool→Option R)→Option R)(f1:(R:Type)→(List ((List UInt8)×(List Int)))→(List ((List UInt8)×(List Int)))→(Bool→Option R)→Option R)(f2:(R:Type)→(List dT56)→(List dT56)→(Bool→Option R)→Option R)(f3:(R:Type)→(List UInt8)→(List UInt8)→Bool→Int→Int→Bool→(List UInt8)→Int→Int→Nat→Bool→Bool→(List Int)→(List UInt8)→(List UInt8)→Bool→Int→Int→Bool→(List UInt8)→Int→Int→Nat→Bool→Bool→(List Int)→(Bool→Option R)→Option R){R:Type}(x0:(List ((List UInt8)×(List Int))))(x1:(List dT56))(x2:(List ((List UInt8)×(List Int))))(x3:(List dT56))(K:(Bool→Option R)): Option R:=f1 R x0 x2 (fun y7=>cond (y7 == true) (f2 R x1 x3 K) (K false))
theorem wq1al(f0:(R:Type)→(List UInt8)→(List Int)→(List UInt8)→(List Int)→(Bool→Option R)→Option R)(f1:(R:Type)→(List ((List UInt8)×(List Int)))→(List ((List UInt8)×(List Int)))→(Bool→Option R)→Option R)(f2:(R:Type)→(List dT56)→(List dT56)→(Bool→Option R)→Option R)(f3:(R:Type)→(List UInt8)→(List UInt8)→Bool→Int→Int→Bool→(List UInt8)→Int→Int→Nat→Bool→Bool→(List Int)→(List UInt8)→(List UInt8)→Bool→Int→Int→Bool→(List UInt8)→Int→Int→Nat→Bool→Bool→(List Int)→(Bool→Option R)→Option R)(k:Nat){R:Type}(x0:(List ((List UInt8)×(List Int))))(x1:(List dT56))(x2:(List ((List UInt8)×(List Int))))(x3:(List dT56))(K:(Bool→Option R)): fnW (wq124 f0 f1 f2 f3) k Tryz.f23 wq122 [.agg [.v (.sl (.pr .str (.sl kI))) x0,.v (.sl kdT56) x1],.agg [.v (.sl (.pr .str (.sl kI))) x2,.v (.sl kdT56) x3]] [] (wqnf K)=wq162 f0 f1 f2 f3 x0 x1 x2 x3 K:=by
 kernel_rfl
theorem wq177(k:Nat): wq123 k=wq124 (fun R=>@wqbi k R) (fun R=>@wql k R) (fun R=>@wqk k R) (fun R=>@wq93 k R):=by
 kernel_rfl
theorem wq1am(k:Nat){R:Type}(x0:(List ((List UInt8)×(List Int))))(x1:(List dT56))(x2:(List ((List UInt8)×(List Int))))(x3:(List dT56))(K:(Bool→Option R)): fnW (wq123 k) k Tryz.f23 wq122 [.agg [.v (.sl (.pr .str (.sl kI))) x0,.v (.sl kdT56) x1],.agg [.v (.sl (.pr .str (.sl kI))) x2,.v (.sl kdT56) x3]] [] (wqnf K)=wqag k x0 x1 x2 x3 K:=by
 have e:wqag k x0 x1 x2 x3 K=wq162 (fun R=>@wqbi k R) (fun R=>@wql k R) (fun R=>@wqk k R) (fun R=>@wq93 k R) x0 x1 x2 x3 K:=by kernel_rfl
 rw[wq177,e]
 exact wq1al (fun R=>@wqbi k R) (fun R=>@wql k R) (fun R=>@wqk k R) (fun R=>@wq93 k R) k x0 x1 x2 x3 K
def wqir(k:Nat){R:Type}: List PV→List (Nm×HObj)→(Out→Option R)→Option R
 |[.agg [.v (.sl (.pr .str (.sl (.int .i64)))) x0,.v (.sl (.pr .str (.pr .str (.pr .bool (.pr (.int .i64) (.pr (.int .i64) (.pr .bool (.pr (.pr .str (.pr (.int .i64) (.pr (.int .i64) (.pr .flt (.pr .bool .bool))))) (.sl (.int .i64)))))))))) x1],.agg [.v (.sl (.pr .str (.sl (.int .i64)))) x2,.v (.sl (.pr .str (.pr .str (.pr .bool (.pr (.int .i64) (.pr (.int .i64) (.pr .bool (.pr (.pr .str (.pr (.int .i64) (.pr (.int .i64) (.pr .flt (.pr .bool .bool))))) (.sl (.int .i64)))))))))) x3]],[],K=>wqag k x0 x1 x2 x3 (fun y0=>K (.ret [.v .bool y0] []))
 |_,_,_=>none
theorem wq1i9(k:Nat): DOK Tryz.prog 23 (wqir k):=by
 intro ps hp R K r h
 have h:wqir k ps hp K=some r:=h
 unfold wqir at h
 split at h
 ·rw[←wq1am]at h
  exact fnW_ok ⟨tyT_ok,(wqd (wqx4 k) (wqd (wq5z k) (wqd (wq5y k) (wqd (wqsb k) CTab.nil_ok)))),fun _ _=>rfl⟩ mixed (by kernel_rfl) (by kernel_rfl) h fun o ho=>by unfold wqnf at ho;split at ho<;>first|exact ho|cases ho
 ·cases h
end Go.Proofs.YtabkhphoacmcdaaGreatDoor.Pvm
end
noncomputable section
namespace Go.Proofs.YtabkhphoacmcdaaGreatDoor.Pvm
open Go Go.Proofs
def wq1g0:List LS:=[.any,.any]
def wqx6{R:Type}(K:(Int→Option R)): Out→Option R
 |.ret [.v (.int .i64) y0] []=>K y0
 |_=>none
def wq1ia:RetSpec:=⟨[.any],[],[]⟩
def wq1ib(k:Nat): Ctx:=⟨tyT,[],(.add 134 wqcz (wqak k) (.add 161 wqab (wq8m k) .nil)),[],[],[],@SH⟩
def wq1ki(k:Nat){R:Type}(x0 x1:Nat)(K:(Int→Option R)): Option R:=wq3s k x0 (fun y5=>cond (y5 == false) (wq3s k x1 (fun y6=>cond y6 (wq3s k x0 (fun y7=>cond (y7 == true) (wq3s k x1 (fun y8=>cond y8 (K 0) (wq3s k x0 (fun y9=>cond y9 (K 1) (K (@Neg.neg Int @Int.instNegInt (1:Int))))))) (wq3s k x0 (fun y8=>cond y8 (K 1) (K (@Neg.neg Int @Int.instNegInt (1:Int))))))) (cond (@fltIs @Go.BinOp.lss x0 x1) (K (@Neg.neg Int @Int.instNegInt (1:Int))) (cond (@fltIs @Go.BinOp.gtr x0 x1) (K 1) (wq2y k x0 (fun y7=>wq2y k x1 (fun y8=>cond (y7 == y8) (K 0) (wq2y k x0 (fun y9=>cond y9 (K (@Neg.neg Int @Int.instNegInt (1:Int))) (K 1)))))))))) (wq3s k x0 (fun y6=>cond (y6 == true) (wq3s k x1 (fun y7=>cond y7 (K 0) (wq3s k x0 (fun y8=>cond y8 (K 1) (K (@Neg.neg Int @Int.instNegInt (1:Int))))))) (wq3s k x0 (fun y7=>cond y7 (K 1) (K (@Neg.neg Int @Int.instNegInt (1:Int))))))))
def wqzl(k:Nat){R:Type}(x0 x1:Nat)(K:(Int→Option R)): Option R:=wq1ki k x0 x1 K
theorem wq1cl(k:Nat){R:Type}(x0 x1:Nat)(K:(Int→Option R)): fnW (wq1ib k) k Tryz.f108 wq1ia [.v .flt x0,.v .flt x1] [] (wqx6 K)=wqzl k x0 x1 K:=by
 kernel_rfl
def wqlb(k:Nat){R:Type}: List PV→List (Nm×HObj)→(Out→Option R)→Option R
 |[.v .flt x0,.v .flt x1],[],K=>wqzl k x0 x1 (fun y0=>K (.ret [.v (.int .i64) y0] []))
 |_,_,_=>none
theorem wq1kj(k:Nat): DOK Tryz.prog 108 (wqlb k):=by
 intro ps hp R K r h
 have h:wqlb k ps hp K=some r:=h
 unfold wqlb at h
 split at h
 ·rw[←wq1cl]at h
  exact fnW_ok ⟨tyT_ok,(wqd (wqqg k) (wqd (wql5 k) CTab.nil_ok)),fun _ _=>rfl⟩ mixed (by kernel_rfl) (by kernel_rfl) h fun o ho=>by unfold wqx6 at ho;split at ho<;>first|exact ho|cases ho
 ·cases h
end Go.Proofs.YtabkhphoacmcdaaGreatDoor.Pvm
end
noncomputable section
namespace Go.Proofs.YtabkhphoacmcdaaGreatDoor.Pvm
open Go Go.Proofs
def wq1g1:List LS:=[.any,.any]
def wqx7{R:Type}(K:(Bool→Option R)): Out→Option R
 |.ret [.v .bool y0] []=>K y0
 |_=>none
def wq1ic:RetSpec:=⟨[.any],[],[]⟩
def wq1id(k:Nat): Ctx:=⟨tyT,[],(.add 108 wq1g0 (wqlb k) .nil),[],[],[],@SH⟩
def wq1kk(k:Nat){R:Type}(x0 x1:Nat)(K:(Bool→Option R)): Option R:=wqzl k x0 x1 (fun y5=>K (y5 == 0))
def wqzm(k:Nat){R:Type}(x0 x1:Nat)(K:(Bool→Option R)): Option R:=wq1kk k x0 x1 K
theorem wq1cm(k:Nat){R:Type}(x0 x1:Nat)(K:(Bool→Option R)): fnW (wq1id k) k Tryz.f63 wq1ic [.v .flt x0,.v .flt x1] [] (wqx7 K)=wqzm k x0 x1 K:=by
 kernel_rfl
def wqlc(k:Nat){R:Type}: List PV→List (Nm×HObj)→(Out→Option R)→Option R
 |[.v .flt x0,.v .flt x1],[],K=>wqzm k x0 x1 (fun y0=>K (.ret [.v .bool y0] []))
 |_,_,_=>none
theorem wq1kl(k:Nat): DOK Tryz.prog 63 (wqlc k):=by
 intro ps hp R K r h
 have h:wqlc k ps hp K=some r:=h
 unfold wqlc at h
 split at h
 ·rw[←wq1cm]at h
  exact fnW_ok ⟨tyT_ok,(wqd (wq1kj k) CTab.nil_ok),fun _ _=>rfl⟩ mixed (by kernel_rfl) (by kernel_rfl) h fun o ho=>by unfold wqx7 at ho;split at ho<;>first|exact ho|cases ho
 ·cases h
end Go.Proofs.YtabkhphoacmcdaaGreatDoor.Pvm
end
noncomputable section
namespace Go.Proofs.YtabkhphoacmcdaaGreatDoor.Pvm
open Go Go.Proofs
def wq14s:List LS:=[.ag [.any,.any,.any,.any,.any,.any],.ag [.any,.any,.any,.any,.any,.any]]
def wqoe{R:Type}(K:(Bool→Option R)): Out→Option R
 |.ret [.v .bool y0] []=>K y0
 |_=>none
def wq178:RetSpec:=⟨[.any],[],[]⟩
def wq179(k:Nat): Ctx:=⟨tyT,[],(.add 63 wq1g1 (wqlc k) .nil),[],[],[],@SH⟩
def wq1an(k:Nat){R:Type}(x0:(List UInt8))(x1 x2:Int)(x3:Nat)(x4 x5:Bool)(x6:(List UInt8))(x7 x8:Int)(x9:Nat)(x10 x11:Bool)(K:(Bool→Option R)): Option R:=cond ((cond (cond (cond (cond (x0 == x6) (x1 == x7) false) (x2 == x8) false) (x4 == x10) false) (x5 == x11) false) == true) (wqzm k x3 x9 K) (K false)
def wqgu(k:Nat){R:Type}(x0:(List UInt8))(x1 x2:Int)(x3:Nat)(x4 x5:Bool)(x6:(List UInt8))(x7 x8:Int)(x9:Nat)(x10 x11:Bool)(K:(Bool→Option R)): Option R:=wq1an k x0 x1 x2 x3 x4 x5 x6 x7 x8 x9 x10 x11 K
theorem wq125(k:Nat){R:Type}(x0:(List UInt8))(x1 x2:Int)(x3:Nat)(x4 x5:Bool)(x6:(List UInt8))(x7 x8:Int)(x9:Nat)(x10 x11:Bool)(K:(Bool→Option R)): fnW (wq179 k) k Tryz.f32 wq178 [.agg [.v .str x0,.v kI x1,.v kI x2,.v .flt x3,.v .bool x4,.v .bool x5],.agg [.v .str x6,.v kI x7,.v kI x8,.v .flt x9,.v .bool x10,.v .bool x11]] [] (wqoe K)=wqgu k x0 x1 x2 x3 x4 x5 x6 x7 x8 x9 x10 x11 K:=by
 kernel_rfl
def wqdk(k:Nat){R:Type}: List PV→List (Nm×HObj)→(Out→Option R)→Option R
 |[.agg [.v .str x0,.v (.int .i64) x1,.v (.int .i64) x2,.v .flt x3,.v .bool x4,.v .bool x5],.agg [.v .str x6,.v (.int .i64) x7,.v (.int .i64) x8,.v .flt x9,.v .bool x10,.v .bool x11]],[],K=>wqgu k x0 x1 x2 x3 x4 x5 x6 x7 x8 x9 x10 x11 (fun y0=>K (.ret [.v .bool y0] []))
 |_,_,_=>none
theorem wq1ao(k:Nat): DOK Tryz.prog 32 (wqdk k):=by
 intro ps hp R K r h
 have h:wqdk k ps hp K=some r:=h
 unfold wqdk at h
 split at h
 ·rw[←wq125]at h
  exact fnW_ok ⟨tyT_ok,(wqd (wq1kl k) CTab.nil_ok),fun _ _=>rfl⟩ mixed (by kernel_rfl) (by kernel_rfl) h fun o ho=>by unfold wqoe at ho;split at ho<;>first|exact ho|cases ho
 ·cases h
end Go.Proofs.YtabkhphoacmcdaaGreatDoor.Pvm
end
noncomputable section
namespace Go.Proofs.YtabkhphoacmcdaaGreatDoor.Pvm
open Go Go.Proofs
def wq1ie:List LS:=[.sl kI,.sl kI]
def wqld{R:Type}(K:(Bool→Option R)): Out→Option R
 |.ret [.v .bool y0] []=>K y0
 |_=>none
def wqzn:RetSpec:=⟨[.any],[],[]⟩
def wqzo(k:Nat): Ctx:=⟨tyT,[(1004,⟨[(0,.sl kI),(1,.sl kI),(5,.any)],[]⟩)],.nil,[],[],[(6,(.of [(0,1),(1,1),(2,1),(4,1),(5,1),(6,1),(3,1),(7,1),(8,1)] .done))],@SH⟩
def wqex(s0 s1:(List Int))(s2:Int): St:=⟨mkT [(0,.v (.sl kI) s0),(1,.v (.sl kI) s1),(5,.v kI s2)],mkH []⟩
def wqng(k:Nat){R:Type}(I:Nat→St→Option R)(n:Nat)(s:St)(K:(Bool→Option R)): Option R:=loopK (wqzo k) k Tryz.f31 wqzn 1004 [1,1,0,1,0] I n s (wqld K)
def wqut(k:Nat){R:Type}(E1004:((List Int)→(List Int)→Int→Option R))(s0 s1:(List Int))(s2:Int)(K:(Bool→Option R)): Option R:=cond (decide (s2<(s0.length:Int))) (cond (inb s2 (s0.length:Int)) (cond (inb s2 (s1.length:Int)) (cond ((s0.getD s2.toNat kI.zero) != (s1.getD s2.toNat kI.zero)) (K false) (E1004 s0 s1 (@Go.IntKind.wrap Go.IntKind.i64 (s2+1)))) none) none) (K true)
theorem wq126(k:Nat){R:Type}(I:Nat→St→Option R)(s0 s1:(List Int))(s2:Int)(K:(Bool→Option R)): bodyK (wqzo k) k Tryz.f31 wqzn [1,1,0,1,0,0] I (wqex s0 s1 s2) (wqld K)=wqut k (fun s0 s1 s2=>I 1004 (wqex s0 s1 s2)) s0 s1 s2 K:=by kernel_rfl
def wq1dn(k:Nat){R:Type}(E1004:((List Int)→(List Int)→Int→Option R))(x0 x1:(List Int))(K:(Bool→Option R)): Option R:=cond ((x0.length:Int) != (x1.length:Int)) (K false) (E1004 x0 x1 0)
def wqnh(k:Nat){R:Type}: Nat→(List Int)→(List Int)→Int→(Bool→Option R)→Option R
 |0,_,_,_,_=>none
 |n+1,s0,s1,s2,K=>wqut k (fun s0 s1 s2=>wqnh k n s0 s1 s2 K) s0 s1 s2 K
theorem wq127(k:Nat){R:Type}(I:Nat→St→Option R)(K:(Bool→Option R))(n:Nat): ∀(s0 s1:(List Int)) (s2:Int),wqng k I n (wqex s0 s1 s2) K=wqnh k n s0 s1 s2 K:=by
 induction n with
 |zero=>intros;rfl
 |succ n ih =>
  intro s0 s1 s2
  refine(?_:_=_).trans ((wq126 k (upI 1004 (fun s=>wqng k I n s K) I) s0 s1 s2 K).trans ?_)
  ·rfl
  ·simp only[wq43,ih]<;>rfl
def wqq6(k:Nat){R:Type}(x0 x1:(List Int))(K:(Bool→Option R)): Option R:=wq1dn k (fun s0 s1 s2=>wqnh k k s0 s1 s2 K) x0 x1 K
theorem wq1g2(k:Nat){R:Type}(x0 x1:(List Int))(K:(Bool→Option R)): fnW (wqzo k) k Tryz.f31 wqzn [.v (.sl kI) x0,.v (.sl kI) x1] [] (wqld K)=wqq6 k x0 x1 K:=by
 refine Eq.trans (b:=wq1dn k (fun s0 s1 s2=>wqng k (fun _ _=>none) k (wqex s0 s1 s2) K) x0 x1 K) (by kernel_rfl) ?_
 simp only[wq127]<;>rfl
def wqof(k:Nat){R:Type}: List PV→List (Nm×HObj)→(Out→Option R)→Option R
 |[.v (.sl (.int .i64)) x0,.v (.sl (.int .i64)) x1],[],K=>wqq6 k x0 x1 (fun y0=>K (.ret [.v .bool y0] []))
 |_,_,_=>none
theorem wq1n4(k:Nat): DOK Tryz.prog 31 (wqof k):=by
 intro ps hp R K r h
 have h:wqof k ps hp K=some r:=h
 unfold wqof at h
 split at h
 ·rw[←wq1g2]at h
  exact fnW_ok ⟨tyT_ok,CTab.nil_ok,fun _ _=>rfl⟩ mixed (by kernel_rfl) (by kernel_rfl) h fun o ho=>by unfold wqld at ho;split at ho<;>first|exact ho|cases ho
 ·cases h
end Go.Proofs.YtabkhphoacmcdaaGreatDoor.Pvm
end
noncomputable section
namespace Go.Proofs.YtabkhphoacmcdaaGreatDoor.Pvm
open Go Go.Proofs
def wq128:List LS:=[.ag [.sl (.pr .str (.sl kI)),.sl kdT56],.ag [.sl (.pr .str (.sl kI)),.sl kdT56]]
def wqbj{R:Type}(K:(Bool→Option R)): Out→Option R
 |.ret [.v .bool y0] []=>K y0
 |_=>none
def wqje:RetSpec:=⟨[.any],[],[]⟩
def wqjf(k:Nat): Ctx:=⟨tyT,[(1004,⟨[(2,.obj 12 [.sl (.pr .str (.sl kI)),.sl kdT56]),(3,.obj 13 [.sl (.pr .str (.sl kI)),.sl kdT56]),(5,.any)],[]⟩),(1009,⟨[(2,.obj 12 [.sl (.pr .str (.sl kI)),.sl kdT56]),(3,.obj 13 [.sl (.pr .str (.sl kI)),.sl kdT56]),(6,.any)],[]⟩)],(.add 31 wq1ie (wqof k) (.add 32 wq14s (wqdk k) .nil)),[],[],[(6,(.of [(0,1),(2,1),(6,1),(8,1),(1,1),(3,1),(4,1),(5,1),(7,1),(9,1),(10,1),(11,1),(12,1),(13,1),(14,1),(16,1),(20,1),(22,1),(15,1),(17,1),(18,1),(19,1),(21,1),(23,1),(24,1),(25,1),(26,0),(27,1),(28,1)] .done)),(11,(.of [(0,1),(2,1),(5,1),(7,1),(1,1),(3,1),(4,1),(6,2),(8,1),(9,2)] (.alt 10 (.of [(11,0),(12,0),(13,0)] .done) (.op 11 0 (.of [(10,0),(12,0),(13,0)] .done)))))],@SH⟩
def wqdl(s0:(List ((List UInt8)×(List Int))))(s1:(List dT56))(s2:(List ((List UInt8)×(List Int))))(s3:(List dT56))(s4:Int): St:=⟨mkT [(2,.ptr 12 0),(3,.ptr 13 0),(5,.v kI s4)],mkH [(12,.var 27 [.v (.sl (.pr .str (.sl kI))) s0,.v (.sl kdT56) s1]),(13,.var 27 [.v (.sl (.pr .str (.sl kI))) s2,.v (.sl kdT56) s3])]⟩
def wqae(s0:(List ((List UInt8)×(List Int))))(s1:(List dT56))(s2:(List ((List UInt8)×(List Int))))(s3:(List dT56))(s4:Int): St:=⟨mkT [(2,.ptr 12 0),(3,.ptr 13 0),(6,.v kI s4)],mkH [(12,.var 27 [.v (.sl (.pr .str (.sl kI))) s0,.v (.sl kdT56) s1]),(13,.var 27 [.v (.sl (.pr .str (.sl kI))) s2,.v (.sl kdT56) s3])]⟩
def wqk7(k:Nat){R:Type}(I:Nat→St→Option R)(n:Nat)(s:St)(K:(Bool→Option R)): Option R:=loopK (wqjf k) k Tryz.f13 wqje 1004 [1,1,0,1,0] I n s (wqbj K)
def wqk8(k:Nat){R:Type}(I:Nat→St→Option R)(n:Nat)(s:St)(K:(Bool→Option R)): Option R:=loopK (wqjf k) k Tryz.f13 wqje 1009 [1,1,1,0,1,0] I n s (wqbj K)
def wqsc(k:Nat){R:Type}(E1004 E1009:((List ((List UInt8)×(List Int)))→(List dT56)→(List ((List UInt8)×(List Int)))→(List dT56)→Int→Option R))(s0:(List ((List UInt8)×(List Int))))(s1:(List dT56))(s2:(List ((List UInt8)×(List Int))))(s3:(List dT56))(s4:Int)(K:(Bool→Option R)): Option R:=cond (decide (s4<(s0.length:Int))) (cond (inb s4 (s0.length:Int)) (cond (inb s4 (s2.length:Int)) (cond ((!((!((s0.getD s4.toNat (Kd.zero (@Kd.pr Kd.str (@Kd.sl kI)))).1 == (s2.getD s4.toNat (Kd.zero (@Kd.pr Kd.str (@Kd.sl kI)))).1)) == false)) || (inb s4 (s0.length:Int))) (cond ((!((!((s0.getD s4.toNat (Kd.zero (@Kd.pr Kd.str (@Kd.sl kI)))).1 == (s2.getD s4.toNat (Kd.zero (@Kd.pr Kd.str (@Kd.sl kI)))).1)) == false)) || (inb s4 (s2.length:Int))) (cond ((!((s0.getD s4.toNat (Kd.zero (@Kd.pr Kd.str (@Kd.sl kI)))).1 == (s2.getD s4.toNat (Kd.zero (@Kd.pr Kd.str (@Kd.sl kI)))).1)) == false) (wqq6 k (s0.getD s4.toNat (Kd.zero (@Kd.pr Kd.str (@Kd.sl kI)))).2 (s2.getD s4.toNat (Kd.zero (@Kd.pr Kd.str (@Kd.sl kI)))).2 (fun y10=>cond (!y10) (K false) (E1004 s0 s1 s2 s3 (@Go.IntKind.wrap Go.IntKind.i64 (s4+1))))) (K false)) none) none) none) none) (E1009 s0 s1 s2 s3 0)
theorem wqzp(k:Nat){R:Type}(I:Nat→St→Option R)(s0:(List ((List UInt8)×(List Int))))(s1:(List dT56))(s2:(List ((List UInt8)×(List Int))))(s3:(List dT56))(s4:Int)(K:(Bool→Option R)): bodyK (wqjf k) k Tryz.f13 wqje [1,1,0,1,0,0] I (wqdl s0 s1 s2 s3 s4) (wqbj K)=wqsc k (fun s0 s1 s2 s3 s4=>I 1004 (wqdl s0 s1 s2 s3 s4)) (fun s0 s1 s2 s3 s4=>wqk8 k I k (wqae s0 s1 s2 s3 s4) K) s0 s1 s2 s3 s4 K:=by kernel_rfl
def wqq7(k:Nat){R:Type}(E1009:((List ((List UInt8)×(List Int)))→(List dT56)→(List ((List UInt8)×(List Int)))→(List dT56)→Int→Option R))(s0:(List ((List UInt8)×(List Int))))(s1:(List dT56))(s2:(List ((List UInt8)×(List Int))))(s3:(List dT56))(s4:Int)(K:(Bool→Option R)): Option R:=cond (decide (s4<(s1.length:Int))) (cond (inb s4 (s1.length:Int)) (cond (inb s4 (s3.length:Int)) (dupT (@Shp.b @Shp.o @Shp.o) (cond ((cond (cond (cond (cond (cond (!((s1.getD s4.toNat (Kd.zero (@Kd.pr Kd.str (@Kd.pr Kd.str (@Kd.pr Kd.bool (@Kd.pr kI (@Kd.pr kI (@Kd.pr Kd.bool (@Kd.pr (@Kd.pr Kd.str (@Kd.pr kI (@Kd.pr kI (@Kd.pr @Kd.flt (@Kd.pr Kd.bool Kd.bool))))) (@Kd.sl kI)))))))))).1 == (s3.getD s4.toNat (Kd.zero (@Kd.pr Kd.str (@Kd.pr Kd.str (@Kd.pr Kd.bool (@Kd.pr kI (@Kd.pr kI (@Kd.pr Kd.bool (@Kd.pr (@Kd.pr Kd.str (@Kd.pr kI (@Kd.pr kI (@Kd.pr @Kd.flt (@Kd.pr Kd.bool Kd.bool))))) (@Kd.sl kI)))))))))).1)) true (!(((s1.getD s4.toNat (Kd.zero (@Kd.pr Kd.str (@Kd.pr Kd.str (@Kd.pr Kd.bool (@Kd.pr kI (@Kd.pr kI (@Kd.pr Kd.bool (@Kd.pr (@Kd.pr Kd.str (@Kd.pr kI (@Kd.pr kI (@Kd.pr @Kd.flt (@Kd.pr Kd.bool Kd.bool))))) (@Kd.sl kI)))))))))).2).1 == ((s3.getD s4.toNat (Kd.zero (@Kd.pr Kd.str (@Kd.pr Kd.str (@Kd.pr Kd.bool (@Kd.pr kI (@Kd.pr kI (@Kd.pr Kd.bool (@Kd.pr (@Kd.pr Kd.str (@Kd.pr kI (@Kd.pr kI (@Kd.pr @Kd.flt (@Kd.pr Kd.bool Kd.bool))))) (@Kd.sl kI)))))))))).2).1))) true (!((((s1.getD s4.toNat (Kd.zero (@Kd.pr Kd.str (@Kd.pr Kd.str (@Kd.pr Kd.bool (@Kd.pr kI (@Kd.pr kI (@Kd.pr Kd.bool (@Kd.pr (@Kd.pr Kd.str (@Kd.pr kI (@Kd.pr kI (@Kd.pr @Kd.flt (@Kd.pr Kd.bool Kd.bool))))) (@Kd.sl kI)))))))))).2).2).1 == (((s3.getD s4.toNat (Kd.zero (@Kd.pr Kd.str (@Kd.pr Kd.str (@Kd.pr Kd.bool (@Kd.pr kI (@Kd.pr kI (@Kd.pr Kd.bool (@Kd.pr (@Kd.pr Kd.str (@Kd.pr kI (@Kd.pr kI (@Kd.pr @Kd.flt (@Kd.pr Kd.bool Kd.bool))))) (@Kd.sl kI)))))))))).2).2).1))) true (((((s1.getD s4.toNat (Kd.zero (@Kd.pr Kd.str (@Kd.pr Kd.str (@Kd.pr Kd.bool (@Kd.pr kI (@Kd.pr kI (@Kd.pr Kd.bool (@Kd.pr (@Kd.pr Kd.str (@Kd.pr kI (@Kd.pr kI (@Kd.pr @Kd.flt (@Kd.pr Kd.bool Kd.bool))))) (@Kd.sl kI)))))))))).2).2).2).1 != ((((s3.getD s4.toNat (Kd.zero (@Kd.pr Kd.str (@Kd.pr Kd.str (@Kd.pr Kd.bool (@Kd.pr kI (@Kd.pr kI (@Kd.pr Kd.bool (@Kd.pr (@Kd.pr Kd.str (@Kd.pr kI (@Kd.pr kI (@Kd.pr @Kd.flt (@Kd.pr Kd.bool Kd.bool))))) (@Kd.sl kI)))))))))).2).2).2).1)) true ((((((s1.getD s4.toNat (Kd.zero (@Kd.pr Kd.str (@Kd.pr Kd.str (@Kd.pr Kd.bool (@Kd.pr kI (@Kd.pr kI (@Kd.pr Kd.bool (@Kd.pr (@Kd.pr Kd.str (@Kd.pr kI (@Kd.pr kI (@Kd.pr @Kd.flt (@Kd.pr Kd.bool Kd.bool))))) (@Kd.sl kI)))))))))).2).2).2).2).1 != (((((s3.getD s4.toNat (Kd.zero (@Kd.pr Kd.str (@Kd.pr Kd.str (@Kd.pr Kd.bool (@Kd.pr kI (@Kd.pr kI (@Kd.pr Kd.bool (@Kd.pr (@Kd.pr Kd.str (@Kd.pr kI (@Kd.pr kI (@Kd.pr @Kd.flt (@Kd.pr Kd.bool Kd.bool))))) (@Kd.sl kI)))))))))).2).2).2).2).1)) true (!(((((((s1.getD s4.toNat (Kd.zero (@Kd.pr Kd.str (@Kd.pr Kd.str (@Kd.pr Kd.bool (@Kd.pr kI (@Kd.pr kI (@Kd.pr Kd.bool (@Kd.pr (@Kd.pr Kd.str (@Kd.pr kI (@Kd.pr kI (@Kd.pr @Kd.flt (@Kd.pr Kd.bool Kd.bool))))) (@Kd.sl kI)))))))))).2).2).2).2).2).1 == ((((((s3.getD s4.toNat (Kd.zero (@Kd.pr Kd.str (@Kd.pr Kd.str (@Kd.pr Kd.bool (@Kd.pr kI (@Kd.pr kI (@Kd.pr Kd.bool (@Kd.pr (@Kd.pr Kd.str (@Kd.pr kI (@Kd.pr kI (@Kd.pr @Kd.flt (@Kd.pr Kd.bool Kd.bool))))) (@Kd.sl kI)))))))))).2).2).2).2).2).1))) == false) (wqgu k ((((((((s1.getD s4.toNat (Kd.zero (@Kd.pr Kd.str (@Kd.pr Kd.str (@Kd.pr Kd.bool (@Kd.pr kI (@Kd.pr kI (@Kd.pr Kd.bool (@Kd.pr (@Kd.pr Kd.str (@Kd.pr kI (@Kd.pr kI (@Kd.pr @Kd.flt (@Kd.pr Kd.bool Kd.bool))))) (@Kd.sl kI)))))))))).2).2).2).2).2).2).1).1 (((((((((s1.getD s4.toNat (Kd.zero (@Kd.pr Kd.str (@Kd.pr Kd.str (@Kd.pr Kd.bool (@Kd.pr kI (@Kd.pr kI (@Kd.pr Kd.bool (@Kd.pr (@Kd.pr Kd.str (@Kd.pr kI (@Kd.pr kI (@Kd.pr @Kd.flt (@Kd.pr Kd.bool Kd.bool))))) (@Kd.sl kI)))))))))).2).2).2).2).2).2).1).2).1 ((((((((((s1.getD s4.toNat (Kd.zero (@Kd.pr Kd.str (@Kd.pr Kd.str (@Kd.pr Kd.bool (@Kd.pr kI (@Kd.pr kI (@Kd.pr Kd.bool (@Kd.pr (@Kd.pr Kd.str (@Kd.pr kI (@Kd.pr kI (@Kd.pr @Kd.flt (@Kd.pr Kd.bool Kd.bool))))) (@Kd.sl kI)))))))))).2).2).2).2).2).2).1).2).2).1 (((((((((((s1.getD s4.toNat (Kd.zero (@Kd.pr Kd.str (@Kd.pr Kd.str (@Kd.pr Kd.bool (@Kd.pr kI (@Kd.pr kI (@Kd.pr Kd.bool (@Kd.pr (@Kd.pr Kd.str (@Kd.pr kI (@Kd.pr kI (@Kd.pr @Kd.flt (@Kd.pr Kd.bool Kd.bool))))) (@Kd.sl kI)))))))))).2).2).2).2).2).2).1).2).2).2).1 ((((((((((((s1.getD s4.toNat (Kd.zero (@Kd.pr Kd.str (@Kd.pr Kd.str (@Kd.pr Kd.bool (@Kd.pr kI (@Kd.pr kI (@Kd.pr Kd.bool (@Kd.pr (@Kd.pr Kd.str (@Kd.pr kI (@Kd.pr kI (@Kd.pr @Kd.flt (@Kd.pr Kd.bool Kd.bool))))) (@Kd.sl kI)))))))))).2).2).2).2).2).2).1).2).2).2).2).1 ((((((((((((s1.getD s4.toNat (Kd.zero (@Kd.pr Kd.str (@Kd.pr Kd.str (@Kd.pr Kd.bool (@Kd.pr kI (@Kd.pr kI (@Kd.pr Kd.bool (@Kd.pr (@Kd.pr Kd.str (@Kd.pr kI (@Kd.pr kI (@Kd.pr @Kd.flt (@Kd.pr Kd.bool Kd.bool))))) (@Kd.sl kI)))))))))).2).2).2).2).2).2).1).2).2).2).2).2 ((((((((s3.getD s4.toNat (Kd.zero (@Kd.pr Kd.str (@Kd.pr Kd.str (@Kd.pr Kd.bool (@Kd.pr kI (@Kd.pr kI (@Kd.pr Kd.bool (@Kd.pr (@Kd.pr Kd.str (@Kd.pr kI (@Kd.pr kI (@Kd.pr @Kd.flt (@Kd.pr Kd.bool Kd.bool))))) (@Kd.sl kI)))))))))).2).2).2).2).2).2).1).1 (((((((((s3.getD s4.toNat (Kd.zero (@Kd.pr Kd.str (@Kd.pr Kd.str (@Kd.pr Kd.bool (@Kd.pr kI (@Kd.pr kI (@Kd.pr Kd.bool (@Kd.pr (@Kd.pr Kd.str (@Kd.pr kI (@Kd.pr kI (@Kd.pr @Kd.flt (@Kd.pr Kd.bool Kd.bool))))) (@Kd.sl kI)))))))))).2).2).2).2).2).2).1).2).1 ((((((((((s3.getD s4.toNat (Kd.zero (@Kd.pr Kd.str (@Kd.pr Kd.str (@Kd.pr Kd.bool (@Kd.pr kI (@Kd.pr kI (@Kd.pr Kd.bool (@Kd.pr (@Kd.pr Kd.str (@Kd.pr kI (@Kd.pr kI (@Kd.pr @Kd.flt (@Kd.pr Kd.bool Kd.bool))))) (@Kd.sl kI)))))))))).2).2).2).2).2).2).1).2).2).1 (((((((((((s3.getD s4.toNat (Kd.zero (@Kd.pr Kd.str (@Kd.pr Kd.str (@Kd.pr Kd.bool (@Kd.pr kI (@Kd.pr kI (@Kd.pr Kd.bool (@Kd.pr (@Kd.pr Kd.str (@Kd.pr kI (@Kd.pr kI (@Kd.pr @Kd.flt (@Kd.pr Kd.bool Kd.bool))))) (@Kd.sl kI)))))))))).2).2).2).2).2).2).1).2).2).2).1 ((((((((((((s3.getD s4.toNat (Kd.zero (@Kd.pr Kd.str (@Kd.pr Kd.str (@Kd.pr Kd.bool (@Kd.pr kI (@Kd.pr kI (@Kd.pr Kd.bool (@Kd.pr (@Kd.pr Kd.str (@Kd.pr kI (@Kd.pr kI (@Kd.pr @Kd.flt (@Kd.pr Kd.bool Kd.bool))))) (@Kd.sl kI)))))))))).2).2).2).2).2).2).1).2).2).2).2).1 ((((((((((((s3.getD s4.toNat (Kd.zero (@Kd.pr Kd.str (@Kd.pr Kd.str (@Kd.pr Kd.bool (@Kd.pr kI (@Kd.pr kI (@Kd.pr Kd.bool (@Kd.pr (@Kd.pr Kd.str (@Kd.pr kI (@Kd.pr kI (@Kd.pr @Kd.flt (@Kd.pr Kd.bool Kd.bool))))) (@Kd.sl kI)))))))))).2).2).2).2).2).2).1).2).2).2).2).2 (fun y10=>cond ((!y10) == false) (wqq6 k (((((((s1.getD s4.toNat (Kd.zero (@Kd.pr Kd.str (@Kd.pr Kd.str (@Kd.pr Kd.bool (@Kd.pr kI (@Kd.pr kI (@Kd.pr Kd.bool (@Kd.pr (@Kd.pr Kd.str (@Kd.pr kI (@Kd.pr kI (@Kd.pr @Kd.flt (@Kd.pr Kd.bool Kd.bool))))) (@Kd.sl kI)))))))))).2).2).2).2).2).2).2 (((((((s3.getD s4.toNat (Kd.zero (@Kd.pr Kd.str (@Kd.pr Kd.str (@Kd.pr Kd.bool (@Kd.pr kI (@Kd.pr kI (@Kd.pr Kd.bool (@Kd.pr (@Kd.pr Kd.str (@Kd.pr kI (@Kd.pr kI (@Kd.pr @Kd.flt (@Kd.pr Kd.bool Kd.bool))))) (@Kd.sl kI)))))))))).2).2).2).2).2).2).2 (fun y11=>cond (!y11) (K false) (E1009 s0 s1 s2 s3 (@Go.IntKind.wrap Go.IntKind.i64 (s4+1))))) (K false))) (K false))) none) none) (K true)
def wqk9(k:Nat){R:Type}(E1009:((List ((List UInt8)×(List Int)))→(List dT56)→(List ((List UInt8)×(List Int)))→(List dT56)→Int→Option R))(s0:(List ((List UInt8)×(List Int))))(s1:(List dT56))(s2:(List ((List UInt8)×(List Int))))(s3:(List dT56))(s4:Int)(K:(Bool→Option R)): Option R:=cond (decide (s4<(s1.length:Int))) (cond (inb s4 (s1.length:Int)) (cond (inb s4 (s3.length:Int)) (cond ((cond (cond (cond (cond (cond (!((s1.getD s4.toNat (Kd.zero (@Kd.pr Kd.str (@Kd.pr Kd.str (@Kd.pr Kd.bool (@Kd.pr kI (@Kd.pr kI (@Kd.pr Kd.bool (@Kd.pr (@Kd.pr Kd.str (@Kd.pr kI (@Kd.pr kI (@Kd.pr @Kd.flt (@Kd.pr Kd.bool Kd.bool))))) (@Kd.sl kI)))))))))).1 == (s3.getD s4.toNat (Kd.zero (@Kd.pr Kd.str (@Kd.pr Kd.str (@Kd.pr Kd.bool (@Kd.pr kI (@Kd.pr kI (@Kd.pr Kd.bool (@Kd.pr (@Kd.pr Kd.str (@Kd.pr kI (@Kd.pr kI (@Kd.pr @Kd.flt (@Kd.pr Kd.bool Kd.bool))))) (@Kd.sl kI)))))))))).1)) true (!(((s1.getD s4.toNat (Kd.zero (@Kd.pr Kd.str (@Kd.pr Kd.str (@Kd.pr Kd.bool (@Kd.pr kI (@Kd.pr kI (@Kd.pr Kd.bool (@Kd.pr (@Kd.pr Kd.str (@Kd.pr kI (@Kd.pr kI (@Kd.pr @Kd.flt (@Kd.pr Kd.bool Kd.bool))))) (@Kd.sl kI)))))))))).2).1 == ((s3.getD s4.toNat (Kd.zero (@Kd.pr Kd.str (@Kd.pr Kd.str (@Kd.pr Kd.bool (@Kd.pr kI (@Kd.pr kI (@Kd.pr Kd.bool (@Kd.pr (@Kd.pr Kd.str (@Kd.pr kI (@Kd.pr kI (@Kd.pr @Kd.flt (@Kd.pr Kd.bool Kd.bool))))) (@Kd.sl kI)))))))))).2).1))) true (!((((s1.getD s4.toNat (Kd.zero (@Kd.pr Kd.str (@Kd.pr Kd.str (@Kd.pr Kd.bool (@Kd.pr kI (@Kd.pr kI (@Kd.pr Kd.bool (@Kd.pr (@Kd.pr Kd.str (@Kd.pr kI (@Kd.pr kI (@Kd.pr @Kd.flt (@Kd.pr Kd.bool Kd.bool))))) (@Kd.sl kI)))))))))).2).2).1 == (((s3.getD s4.toNat (Kd.zero (@Kd.pr Kd.str (@Kd.pr Kd.str (@Kd.pr Kd.bool (@Kd.pr kI (@Kd.pr kI (@Kd.pr Kd.bool (@Kd.pr (@Kd.pr Kd.str (@Kd.pr kI (@Kd.pr kI (@Kd.pr @Kd.flt (@Kd.pr Kd.bool Kd.bool))))) (@Kd.sl kI)))))))))).2).2).1))) true (((((s1.getD s4.toNat (Kd.zero (@Kd.pr Kd.str (@Kd.pr Kd.str (@Kd.pr Kd.bool (@Kd.pr kI (@Kd.pr kI (@Kd.pr Kd.bool (@Kd.pr (@Kd.pr Kd.str (@Kd.pr kI (@Kd.pr kI (@Kd.pr @Kd.flt (@Kd.pr Kd.bool Kd.bool))))) (@Kd.sl kI)))))))))).2).2).2).1 != ((((s3.getD s4.toNat (Kd.zero (@Kd.pr Kd.str (@Kd.pr Kd.str (@Kd.pr Kd.bool (@Kd.pr kI (@Kd.pr kI (@Kd.pr Kd.bool (@Kd.pr (@Kd.pr Kd.str (@Kd.pr kI (@Kd.pr kI (@Kd.pr @Kd.flt (@Kd.pr Kd.bool Kd.bool))))) (@Kd.sl kI)))))))))).2).2).2).1)) true ((((((s1.getD s4.toNat (Kd.zero (@Kd.pr Kd.str (@Kd.pr Kd.str (@Kd.pr Kd.bool (@Kd.pr kI (@Kd.pr kI (@Kd.pr Kd.bool (@Kd.pr (@Kd.pr Kd.str (@Kd.pr kI (@Kd.pr kI (@Kd.pr @Kd.flt (@Kd.pr Kd.bool Kd.bool))))) (@Kd.sl kI)))))))))).2).2).2).2).1 != (((((s3.getD s4.toNat (Kd.zero (@Kd.pr Kd.str (@Kd.pr Kd.str (@Kd.pr Kd.bool (@Kd.pr kI (@Kd.pr kI (@Kd.pr Kd.bool (@Kd.pr (@Kd.pr Kd.str (@Kd.pr kI (@Kd.pr kI (@Kd.pr @Kd.flt (@Kd.pr Kd.bool Kd.bool))))) (@Kd.sl kI)))))))))).2).2).2).2).1)) true (!(((((((s1.getD s4.toNat (Kd.zero (@Kd.pr Kd.str (@Kd.pr Kd.str (@Kd.pr Kd.bool (@Kd.pr kI (@Kd.pr kI (@Kd.pr Kd.bool (@Kd.pr (@Kd.pr Kd.str (@Kd.pr kI (@Kd.pr kI (@Kd.pr @Kd.flt (@Kd.pr Kd.bool Kd.bool))))) (@Kd.sl kI)))))))))).2).2).2).2).2).1 == ((((((s3.getD s4.toNat (Kd.zero (@Kd.pr Kd.str (@Kd.pr Kd.str (@Kd.pr Kd.bool (@Kd.pr kI (@Kd.pr kI (@Kd.pr Kd.bool (@Kd.pr (@Kd.pr Kd.str (@Kd.pr kI (@Kd.pr kI (@Kd.pr @Kd.flt (@Kd.pr Kd.bool Kd.bool))))) (@Kd.sl kI)))))))))).2).2).2).2).2).1))) == false) (wqgu k ((((((((s1.getD s4.toNat (Kd.zero (@Kd.pr Kd.str (@Kd.pr Kd.str (@Kd.pr Kd.bool (@Kd.pr kI (@Kd.pr kI (@Kd.pr Kd.bool (@Kd.pr (@Kd.pr Kd.str (@Kd.pr kI (@Kd.pr kI (@Kd.pr @Kd.flt (@Kd.pr Kd.bool Kd.bool))))) (@Kd.sl kI)))))))))).2).2).2).2).2).2).1).1 (((((((((s1.getD s4.toNat (Kd.zero (@Kd.pr Kd.str (@Kd.pr Kd.str (@Kd.pr Kd.bool (@Kd.pr kI (@Kd.pr kI (@Kd.pr Kd.bool (@Kd.pr (@Kd.pr Kd.str (@Kd.pr kI (@Kd.pr kI (@Kd.pr @Kd.flt (@Kd.pr Kd.bool Kd.bool))))) (@Kd.sl kI)))))))))).2).2).2).2).2).2).1).2).1 ((((((((((s1.getD s4.toNat (Kd.zero (@Kd.pr Kd.str (@Kd.pr Kd.str (@Kd.pr Kd.bool (@Kd.pr kI (@Kd.pr kI (@Kd.pr Kd.bool (@Kd.pr (@Kd.pr Kd.str (@Kd.pr kI (@Kd.pr kI (@Kd.pr @Kd.flt (@Kd.pr Kd.bool Kd.bool))))) (@Kd.sl kI)))))))))).2).2).2).2).2).2).1).2).2).1 (((((((((((s1.getD s4.toNat (Kd.zero (@Kd.pr Kd.str (@Kd.pr Kd.str (@Kd.pr Kd.bool (@Kd.pr kI (@Kd.pr kI (@Kd.pr Kd.bool (@Kd.pr (@Kd.pr Kd.str (@Kd.pr kI (@Kd.pr kI (@Kd.pr @Kd.flt (@Kd.pr Kd.bool Kd.bool))))) (@Kd.sl kI)))))))))).2).2).2).2).2).2).1).2).2).2).1 ((((((((((((s1.getD s4.toNat (Kd.zero (@Kd.pr Kd.str (@Kd.pr Kd.str (@Kd.pr Kd.bool (@Kd.pr kI (@Kd.pr kI (@Kd.pr Kd.bool (@Kd.pr (@Kd.pr Kd.str (@Kd.pr kI (@Kd.pr kI (@Kd.pr @Kd.flt (@Kd.pr Kd.bool Kd.bool))))) (@Kd.sl kI)))))))))).2).2).2).2).2).2).1).2).2).2).2).1 ((((((((((((s1.getD s4.toNat (Kd.zero (@Kd.pr Kd.str (@Kd.pr Kd.str (@Kd.pr Kd.bool (@Kd.pr kI (@Kd.pr kI (@Kd.pr Kd.bool (@Kd.pr (@Kd.pr Kd.str (@Kd.pr kI (@Kd.pr kI (@Kd.pr @Kd.flt (@Kd.pr Kd.bool Kd.bool))))) (@Kd.sl kI)))))))))).2).2).2).2).2).2).1).2).2).2).2).2 ((((((((s3.getD s4.toNat (Kd.zero (@Kd.pr Kd.str (@Kd.pr Kd.str (@Kd.pr Kd.bool (@Kd.pr kI (@Kd.pr kI (@Kd.pr Kd.bool (@Kd.pr (@Kd.pr Kd.str (@Kd.pr kI (@Kd.pr kI (@Kd.pr @Kd.flt (@Kd.pr Kd.bool Kd.bool))))) (@Kd.sl kI)))))))))).2).2).2).2).2).2).1).1 (((((((((s3.getD s4.toNat (Kd.zero (@Kd.pr Kd.str (@Kd.pr Kd.str (@Kd.pr Kd.bool (@Kd.pr kI (@Kd.pr kI (@Kd.pr Kd.bool (@Kd.pr (@Kd.pr Kd.str (@Kd.pr kI (@Kd.pr kI (@Kd.pr @Kd.flt (@Kd.pr Kd.bool Kd.bool))))) (@Kd.sl kI)))))))))).2).2).2).2).2).2).1).2).1 ((((((((((s3.getD s4.toNat (Kd.zero (@Kd.pr Kd.str (@Kd.pr Kd.str (@Kd.pr Kd.bool (@Kd.pr kI (@Kd.pr kI (@Kd.pr Kd.bool (@Kd.pr (@Kd.pr Kd.str (@Kd.pr kI (@Kd.pr kI (@Kd.pr @Kd.flt (@Kd.pr Kd.bool Kd.bool))))) (@Kd.sl kI)))))))))).2).2).2).2).2).2).1).2).2).1 (((((((((((s3.getD s4.toNat (Kd.zero (@Kd.pr Kd.str (@Kd.pr Kd.str (@Kd.pr Kd.bool (@Kd.pr kI (@Kd.pr kI (@Kd.pr Kd.bool (@Kd.pr (@Kd.pr Kd.str (@Kd.pr kI (@Kd.pr kI (@Kd.pr @Kd.flt (@Kd.pr Kd.bool Kd.bool))))) (@Kd.sl kI)))))))))).2).2).2).2).2).2).1).2).2).2).1 ((((((((((((s3.getD s4.toNat (Kd.zero (@Kd.pr Kd.str (@Kd.pr Kd.str (@Kd.pr Kd.bool (@Kd.pr kI (@Kd.pr kI (@Kd.pr Kd.bool (@Kd.pr (@Kd.pr Kd.str (@Kd.pr kI (@Kd.pr kI (@Kd.pr @Kd.flt (@Kd.pr Kd.bool Kd.bool))))) (@Kd.sl kI)))))))))).2).2).2).2).2).2).1).2).2).2).2).1 ((((((((((((s3.getD s4.toNat (Kd.zero (@Kd.pr Kd.str (@Kd.pr Kd.str (@Kd.pr Kd.bool (@Kd.pr kI (@Kd.pr kI (@Kd.pr Kd.bool (@Kd.pr (@Kd.pr Kd.str (@Kd.pr kI (@Kd.pr kI (@Kd.pr @Kd.flt (@Kd.pr Kd.bool Kd.bool))))) (@Kd.sl kI)))))))))).2).2).2).2).2).2).1).2).2).2).2).2 (fun y10=>cond ((!y10) == false) (wqq6 k (((((((s1.getD s4.toNat (Kd.zero (@Kd.pr Kd.str (@Kd.pr Kd.str (@Kd.pr Kd.bool (@Kd.pr kI (@Kd.pr kI (@Kd.pr Kd.bool (@Kd.pr (@Kd.pr Kd.str (@Kd.pr kI (@Kd.pr kI (@Kd.pr @Kd.flt (@Kd.pr Kd.bool Kd.bool))))) (@Kd.sl kI)))))))))).2).2).2).2).2).2).2 (((((((s3.getD s4.toNat (Kd.zero (@Kd.pr Kd.str (@Kd.pr Kd.str (@Kd.pr Kd.bool (@Kd.pr kI (@Kd.pr kI (@Kd.pr Kd.bool (@Kd.pr (@Kd.pr Kd.str (@Kd.pr kI (@Kd.pr kI (@Kd.pr @Kd.flt (@Kd.pr Kd.bool Kd.bool))))) (@Kd.sl kI)))))))))).2).2).2).2).2).2).2 (fun y11=>cond (!y11) (K false) (E1009 s0 s1 s2 s3 (@Go.IntKind.wrap Go.IntKind.i64 (s4+1))))) (K false))) (K false)) none) none) (K true)
theorem wqzq(k:Nat){R:Type}(I:Nat→St→Option R)(s0:(List ((List UInt8)×(List Int))))(s1:(List dT56))(s2:(List ((List UInt8)×(List Int))))(s3:(List dT56))(s4:Int)(K:(Bool→Option R)): bodyK (wqjf k) k Tryz.f13 wqje [1,1,1,0,1,0,0] I (wqae s0 s1 s2 s3 s4) (wqbj K)=wqk9 k (fun s0 s1 s2 s3 s4=>I 1009 (wqae s0 s1 s2 s3 s4)) s0 s1 s2 s3 s4 K:=(show _=wqq7 k (fun s0 s1 s2 s3 s4=>I 1009 (wqae s0 s1 s2 s3 s4)) s0 s1 s2 s3 s4 K by kernel_rfl).trans (by unfold wqq7 wqk9;simp only[wq1l8])
def wq1ap(k:Nat){R:Type}(E1004:((List ((List UInt8)×(List Int)))→(List dT56)→(List ((List UInt8)×(List Int)))→(List dT56)→Int→Option R))(x0:(List ((List UInt8)×(List Int))))(x1:(List dT56))(x2:(List ((List UInt8)×(List Int))))(x3:(List dT56))(K:(Bool→Option R)): Option R:=cond (cond ((x0.length:Int) != (x2.length:Int)) true ((x1.length:Int) != (x3.length:Int))) (K false) (E1004 x0 x1 x2 x3 0)
def wqka(k:Nat){R:Type}: Nat→(List ((List UInt8)×(List Int)))→(List dT56)→(List ((List UInt8)×(List Int)))→(List dT56)→Int→(Bool→Option R)→Option R
 |0,_,_,_,_,_,_=>none
 |n+1,s0,s1,s2,s3,s4,K=>wqk9 k (fun s0 s1 s2 s3 s4=>wqka k n s0 s1 s2 s3 s4 K) s0 s1 s2 s3 s4 K
theorem wqzr(k:Nat){R:Type}(I:Nat→St→Option R)(K:(Bool→Option R))(n:Nat): ∀(s0:(List ((List UInt8)×(List Int)))) (s1:(List dT56)) (s2:(List ((List UInt8)×(List Int)))) (s3:(List dT56)) (s4:Int),wqk8 k I n (wqae s0 s1 s2 s3 s4) K=wqka k n s0 s1 s2 s3 s4 K:=by
 induction n with
 |zero=>intros;rfl
 |succ n ih =>
  intro s0 s1 s2 s3 s4
  refine(?_:_=_).trans ((wqzq k (upI 1009 (fun s=>wqk8 k I n s K) I) s0 s1 s2 s3 s4 K).trans ?_)
  ·rfl
  ·simp only[wq43,ih]<;>rfl
def wqkb(k:Nat){R:Type}: Nat→(List ((List UInt8)×(List Int)))→(List dT56)→(List ((List UInt8)×(List Int)))→(List dT56)→Int→(Bool→Option R)→Option R
 |0,_,_,_,_,_,_=>none
 |n+1,s0,s1,s2,s3,s4,K=>wqsc k (fun s0 s1 s2 s3 s4=>wqkb k n s0 s1 s2 s3 s4 K) (fun s0 s1 s2 s3 s4=>wqka k k s0 s1 s2 s3 s4 K) s0 s1 s2 s3 s4 K
theorem wqzs(k:Nat){R:Type}(I:Nat→St→Option R)(K:(Bool→Option R))(n:Nat): ∀(s0:(List ((List UInt8)×(List Int)))) (s1:(List dT56)) (s2:(List ((List UInt8)×(List Int)))) (s3:(List dT56)) (s4:Int),wqk7 k I n (wqdl s0 s1 s2 s3 s4) K=wqkb k n s0 s1 s2 s3 s4 K:=by
 induction n with
 |zero=>intros;rfl
 |succ n ih =>
  intro s0 s1 s2 s3 s4
  refine(?_:_=_).trans ((wqzp k (upI 1004 (fun s=>wqk7 k I n s K) I) s0 s1 s2 s3 s4 K).trans ?_)
  ·rfl
  ·simp only[wq43,ih,wqzr]<;>rfl
def wqi6(k:Nat){R:Type}(x0:(List ((List UInt8)×(List Int))))(x1:(List dT56))(x2:(List ((List UInt8)×(List Int))))(x3:(List dT56))(K:(Bool→Option R)): Option R:=wq1ap k (fun s0 s1 s2 s3 s4=>wqkb k k s0 s1 s2 s3 s4 K) x0 x1 x2 x3 K
theorem wq1cn(k:Nat){R:Type}(x0:(List ((List UInt8)×(List Int))))(x1:(List dT56))(x2:(List ((List UInt8)×(List Int))))(x3:(List dT56))(K:(Bool→Option R)): fnW (wqjf k) k Tryz.f13 wqje [.agg [.v (.sl (.pr .str (.sl kI))) x0,.v (.sl kdT56) x1],.agg [.v (.sl (.pr .str (.sl kI))) x2,.v (.sl kdT56) x3]] [] (wqbj K)=wqi6 k x0 x1 x2 x3 K:=by
 refine Eq.trans (b:=wq1ap k (fun s0 s1 s2 s3 s4=>wqk7 k (fun _ _=>none) k (wqdl s0 s1 s2 s3 s4) K) x0 x1 x2 x3 K) (by kernel_rfl) ?_
 simp only[wqzs]<;>rfl
def wqle(k:Nat){R:Type}: List PV→List (Nm×HObj)→(Out→Option R)→Option R
 |[.agg [.v (.sl (.pr .str (.sl (.int .i64)))) x0,.v (.sl (.pr .str (.pr .str (.pr .bool (.pr (.int .i64) (.pr (.int .i64) (.pr .bool (.pr (.pr .str (.pr (.int .i64) (.pr (.int .i64) (.pr .flt (.pr .bool .bool))))) (.sl (.int .i64)))))))))) x1],.agg [.v (.sl (.pr .str (.sl (.int .i64)))) x2,.v (.sl (.pr .str (.pr .str (.pr .bool (.pr (.int .i64) (.pr (.int .i64) (.pr .bool (.pr (.pr .str (.pr (.int .i64) (.pr (.int .i64) (.pr .flt (.pr .bool .bool))))) (.sl (.int .i64)))))))))) x3]],[],K=>wqi6 k x0 x1 x2 x3 (fun y0=>K (.ret [.v .bool y0] []))
 |_,_,_=>none
theorem wq1km(k:Nat): DOK Tryz.prog 13 (wqle k):=by
 intro ps hp R K r h
 have h:wqle k ps hp K=some r:=h
 unfold wqle at h
 split at h
 ·rw[←wq1cn]at h
  exact fnW_ok ⟨tyT_ok,(wqd (wq1n4 k) (wqd (wq1ao k) CTab.nil_ok)),fun _ _=>rfl⟩ mixed (by kernel_rfl) (by kernel_rfl) h fun o ho=>by unfold wqbj at ho;split at ho<;>first|exact ho|cases ho
 ·cases h
end Go.Proofs.YtabkhphoacmcdaaGreatDoor.Pvm
end
noncomputable section
namespace Go.Proofs.YtabkhphoacmcdaaGreatDoor.Pvm
open Go Go.Proofs
def wq1co:List LS:=[]
def wqni{R:Type}(K:(Bool→Option R)): Out→Option R
 |.ret [.v .bool y0] []=>K y0
 |_=>none
def wq129:RetSpec:=⟨[.any],[],[]⟩
def wq12a(k:Nat): Ctx:=⟨tyT,[],(.add 11 wqna (wqct k) (.add 13 wq128 (wqle k) (.add 14 wquq (wqgq k) (.add 16 wqu6 (wqo4 k) (.add 23 wqx5 (wqir k) .nil))))),[],[],[],@SH⟩
def wq1if(k:Nat){R:Type}(K:(Bool→Option R)): Option R:=wqb2 k [100,111,109,97,105,110,115,58,10,32,32,45,32,100,111,109,97,105,110,58,32,115,104,111,112,10,32,32,32,32,100,101,115,99,114,105,112,116,111,114,115,58,10,32,32,32,32,32,32,45,32,107,101,121,58,32,117,115,101,114,10,32,32,32,32,32,32,32,32,114,97,116,101,95,108,105,109,105,116,58,10,32,32,32,32,32,32,32,32,32,32,117,110,105,116,58,32,109,105,110,117,116,101,10,32,32,32,32,32,32,32,32,32,32,114,101,113,117,101,115,116,115,95,112,101,114,95,117,110,105,116,58,32,49,48,10] (fun y3 y4 y5 y6=>wqhq k [] (fun y7 y8 y9 y10=>cond (((y5 == 0)&&(y6 == 0)) == true) (wqi6 k y3 y4 [([115,104,111,112],[0])] [([117,115,101,114],([],(true,(0,((@Neg.neg Int @Int.instNegInt (1:Int)),(true,(([],(2,(10,(4605380978949069210,(false,false))))),[])))))))] (fun y11=>cond (y11 == true) (wqb5 k y3 y4 (fun y12=>cond ((y12 == 0) == true) (wqb5 k [] [] (fun y13=>cond ((cond (y13 == 1) ((y9 == 11)&&(y10 == 0)) false) == true) (wqag k y3 y4 [([115,104,111,112],[0])] [([117,115,101,114],([],(true,(0,((@Neg.neg Int @Int.instNegInt (1:Int)),(true,(([],(2,(10,(4605380978949069210,(false,false))))),[])))))))] (fun y14=>cond (y14 == true) (wqag k y3 y4 [] [] (fun y15=>K (!y15))) (K false))) (K false))) (K false))) (K false))) (K false)))
def wqfk(k:Nat){R:Type}(K:(Bool→Option R)): Option R:=wq1if k K
def wq1cp(f:(R:Type)→(List Int)→((List ((List UInt8)×(List Int)))→(List dT56)→Int→Int→Option R)→Option R){R:Type}: List PV→List (Nm×HObj)→(Out→Option R)→Option R
 |[.v (.sl (.int .u8)) x0],[],K=>f R x0 (fun y0 y1 y2 y3=>K (.ret [.agg [.v (.sl (.pr .str (.sl (.int .i64)))) y0,.v (.sl (.pr .str (.pr .str (.pr .bool (.pr (.int .i64) (.pr (.int .i64) (.pr .bool (.pr (.pr .str (.pr (.int .i64) (.pr (.int .i64) (.pr .flt (.pr .bool .bool))))) (.sl (.int .i64)))))))))) y1],.agg [.v (.int .i64) y2,.v (.int .i64) y3]] []))
 |_,_,_=>none
def wq1cq(f:(R:Type)→(List ((List UInt8)×(List Int)))→(List dT56)→(List ((List UInt8)×(List Int)))→(List dT56)→(Bool→Option R)→Option R){R:Type}: List PV→List (Nm×HObj)→(Out→Option R)→Option R
 |[.agg [.v (.sl (.pr .str (.sl (.int .i64)))) x0,.v (.sl (.pr .str (.pr .str (.pr .bool (.pr (.int .i64) (.pr (.int .i64) (.pr .bool (.pr (.pr .str (.pr (.int .i64) (.pr (.int .i64) (.pr .flt (.pr .bool .bool))))) (.sl (.int .i64)))))))))) x1],.agg [.v (.sl (.pr .str (.sl (.int .i64)))) x2,.v (.sl (.pr .str (.pr .str (.pr .bool (.pr (.int .i64) (.pr (.int .i64) (.pr .bool (.pr (.pr .str (.pr (.int .i64) (.pr (.int .i64) (.pr .flt (.pr .bool .bool))))) (.sl (.int .i64)))))))))) x3]],[],K=>f R x0 x1 x2 x3 (fun y0=>K (.ret [.v .bool y0] []))
 |_,_,_=>none
def wq1cr(f:(R:Type)→(List ((List UInt8)×(List Int)))→(List dT56)→(Int→Option R)→Option R){R:Type}: List PV→List (Nm×HObj)→(Out→Option R)→Option R
 |[.agg [.v (.sl (.pr .str (.sl (.int .i64)))) x0,.v (.sl (.pr .str (.pr .str (.pr .bool (.pr (.int .i64) (.pr (.int .i64) (.pr .bool (.pr (.pr .str (.pr (.int .i64) (.pr (.int .i64) (.pr .flt (.pr .bool .bool))))) (.sl (.int .i64)))))))))) x1]],[],K=>f R x0 x1 (fun y0=>K (.ret [.v (.int .i64) y0] []))
 |_,_,_=>none
def wq1cs(f:(R:Type)→(List dT72)→((List ((List UInt8)×(List Int)))→(List dT56)→Int→Int→Option R)→Option R){R:Type}: List PV→List (Nm×HObj)→(Out→Option R)→Option R
 |[.agg [.v (.sl (.pr (.int .i64) (.pr (.int .i64) (.pr .str (.pr .bool (.pr (.sl .str) (.sl (.int .i64)))))))) x0]],[],K=>f R x0 (fun y0 y1 y2 y3=>K (.ret [.agg [.v (.sl (.pr .str (.sl (.int .i64)))) y0,.v (.sl (.pr .str (.pr .str (.pr .bool (.pr (.int .i64) (.pr (.int .i64) (.pr .bool (.pr (.pr .str (.pr (.int .i64) (.pr (.int .i64) (.pr .flt (.pr .bool .bool))))) (.sl (.int .i64)))))))))) y1],.agg [.v (.int .i64) y2,.v (.int .i64) y3]] []))
 |_,_,_=>none
def wq1ct(f:(R:Type)→(List ((List UInt8)×(List Int)))→(List dT56)→(List ((List UInt8)×(List Int)))→(List dT56)→(Bool→Option R)→Option R){R:Type}: List PV→List (Nm×HObj)→(Out→Option R)→Option R
 |[.agg [.v (.sl (.pr .str (.sl (.int .i64)))) x0,.v (.sl (.pr .str (.pr .str (.pr .bool (.pr (.int .i64) (.pr (.int .i64) (.pr .bool (.pr (.pr .str (.pr (.int .i64) (.pr (.int .i64) (.pr .flt (.pr .bool .bool))))) (.sl (.int .i64)))))))))) x1],.agg [.v (.sl (.pr .str (.sl (.int .i64)))) x2,.v (.sl (.pr .str (.pr .str (.pr .bool (.pr (.int .i64) (.pr (.int .i64) (.pr .bool (.pr (.pr .str (.pr (.int .i64) (.pr (.int .i64) (.pr .flt (.pr .bool .bool))))) (.sl (.int .i64)))))))))) x3]],[],K=>f R x0 x1 x2 x3 (fun y0=>K (.ret [.v .bool y0] []))
 |_,_,_=>none
def wq12b(f0:(R:Type)→(List Int)→((List ((List UInt8)×(List Int)))→(List dT56)→Int→Int→Option R)→Option R)(f1:(R:Type)→(List ((List UInt8)×(List Int)))→(List dT56)→(List ((List UInt8)×(List Int)))→(List dT56)→(Bool→Option R)→Option R)(f2:(R:Type)→(List ((List UInt8)×(List Int)))→(List dT56)→(Int→Option R)→Option R)(f3:(R:Type)→(List dT72)→((List ((List UInt8)×(List Int)))→(List dT56)→Int→Int→Option R)→Option R)(f4:(R:Type)→(List ((List UInt8)×(List Int)))→(List dT56)→(List ((List UInt8)×(List Int)))→(List dT56)→(Bool→Option R)→Option R): Ctx:=⟨tyT,[],(.add 11 wqna (wq1cp f0) (.add 13 wq128 (wq1cq f1) (.add 14 wquq (wq1cr f2) (.add 16 wqu6 (wq1cs f3) (.add 23 wqx5 (wq1ct f4) .nil))))),[],[],[],@SH⟩
def wq163(f0:(R:Type)→(List Int)→((List ((List UInt8)×(List Int)))→(List dT56)→Int→Int→Option R)→Option R)(f1:(R:Type)→(List ((List UInt8)×(List Int)))→(List dT56)→(List ((List UInt8)×(List Int)))→(List dT56)→(Bool→Option R)→Option R)(f2:(R:Type)→(List ((List UInt8)×(List Int)))→(List dT56)→(Int→Option R)→Option R)(f3:(R:Type)→(List dT72)→((List ((List UInt8)×(List Int)))→(List dT56)→Int→Int→Option R)→Option R)(f4:(R:Type)→(List ((List UInt8)×(List Int)))→(List dT56)→(List ((List UInt8)×(List Int)))→(List dT56)→(Bool→Option R)→Option R){R:Type}(K:(Bool→Option R)): Option R:=f0 R [100,111,109,97,105,110,115,58,10,32,32,45,32,100,111,109,97,105,110,58,32,115,104,111,112,10,32,32,32,32,100,101,115,99,114,105,112,116,111,114,115,58,10,32,32,32,32,32,32,45,32,107,101,121,58,32,117,115,101,114,10,32,32,32,32,32,32,32,32,114,97,116,101,95,108,105,109,105,116,58,10,32,32,32,32,32,32,32,32,32,32,117,110,105,116,58,32,109,105,110,117,116,101,10,32,32,32,32,32,32,32,32,32,32,114,101,113,117,101,115,116,115,95,112,101,114,95,117,110,105,116,58,32,49,48,10] (fun y3 y4 y5 y6=>f3 R [] (fun y7 y8 y9 y10=>cond (((y5 == 0)&&(y6 == 0)) == true) (f1 R y3 y4 [([115,104,111,112],[0])] [([117,115,101,114],([],(true,(0,((@Neg.neg Int @Int.instNegInt (1:Int)),(true,(([],(2,(10,(4605380978949069210,(false,false))))),[])))))))] (fun y11=>cond (y11 == true) (f2 R y3 y4 (fun y12=>cond ((y12 == 0) == true) (f2 R [] [] (fun y13=>cond ((cond (y13 == 1) ((y9 == 11)&&(y10 == 0)) false) == true) (f4 R y3 y4 [([115,104,111,112],[0])] [([117,115,101,114],([],(true,(0,((@Neg.neg Int @Int.instNegInt (1:Int)),(true,(([],(2,(10,(4605380978949069210,(false,false))))),[])))))))] (fun y14=>cond (y14 == true) (f4 R y3 y4 [] [] (fun y15=>K (!y15))) (K false))) (K false))) (K false))) (K false))) (K false)))
theorem wq1aq(f0:(R:Type)→(List Int)→((List ((List UInt8)×(List Int)))→(List dT56)→Int→Int→Option R)→Option R)(f1:(R:Type)→(List ((List UInt8)×(List Int)))→(List dT56)→(List ((List UInt8)×(List Int)))→(List dT56)→(Bool→Option R)→Option R)(f2:(R:Type)→(List ((List UInt8)×(List Int)))→(List dT56)→(Int→Option R)→Option R)(f3:(R:Type)→(List dT72)→((List ((List UInt8)×(List Int)))→(List dT56)→Int→Int→Option R)→Option R)(f4:(R:Type)→(List ((List UInt8)×(List Int)))→(List dT56)→(List ((List UInt8)×(List Int)))→(List dT56)→(Bool→Option R)→Option R)(k:Nat){R:Type}(K:(Bool→Option R)): fnW (wq12b f0 f1 f2 f3 f4) k Tryz.f10 wq129 [] [] (wqni K)=wq163 f0 f1 f2 f3 f4 K:=by
 kernel_rfl
theorem wq17a(k:Nat): wq12a k=wq12b (fun R=>@wqb2 k R) (fun R=>@wqi6 k R) (fun R=>@wqb5 k R) (fun R=>@wqhq k R) (fun R=>@wqag k R):=by
 kernel_rfl
theorem wq1ar(k:Nat){R:Type}(K:(Bool→Option R)): fnW (wq12a k) k Tryz.f10 wq129 [] [] (wqni K)=wqfk k K:=by
 have e:wqfk k K=wq163 (fun R=>@wqb2 k R) (fun R=>@wqi6 k R) (fun R=>@wqb5 k R) (fun R=>@wqhq k R) (fun R=>@wqag k R) K:=by kernel_rfl
 rw[wq17a,e]
 exact wq1aq (fun R=>@wqb2 k R) (fun R=>@wqi6 k R) (fun R=>@wqb5 k R) (fun R=>@wqhq k R) (fun R=>@wqag k R) k K
def wqis(k:Nat){R:Type}: List PV→List (Nm×HObj)→(Out→Option R)→Option R
 |[],[],K=>wqfk k (fun y0=>K (.ret [.v .bool y0] []))
 |_,_,_=>none
theorem wq1ig(k:Nat): DOK Tryz.prog 10 (wqis k):=by
 intro ps hp R K r h
 have h:wqis k ps hp K=some r:=h
 unfold wqis at h
 split at h
 ·rw[←wq1ar]at h
  exact fnW_ok ⟨tyT_ok,(wqd (wq11q k) (wqd (wq1km k) (wqd (wq1fz k) (CTab.add_ok (fun h=>wq1dl k h) (wqd (wq1i9 k) CTab.nil_ok))))),fun _ _=>rfl⟩ mixed (by kernel_rfl) (by kernel_rfl) h fun o ho=>by unfold wqni at ho;split at ho<;>first|exact ho|cases ho
 ·cases h
end Go.Proofs.YtabkhphoacmcdaaGreatDoor.Pvm
end
noncomputable section
namespace Go.Proofs.YtabkhphoacmcdaaGreatDoor.Pvm
open Go Go.Proofs
def wq1g3:List LS:=[]
def wqx8{R:Type}(K:((List dT43)→Option R)): Out→Option R
 |.ret [.v (.sl (.pr .str (.pr (.int .i64) (.int .i64)))) y0] []=>K y0
 |_=>none
def wq1ih:RetSpec:=⟨[.sl (.pr .str (.pr (.int .i64) (.int .i64)))],[],[]⟩
def wq1ii(k:Nat): Ctx:=⟨tyT,[],.nil,[],[],[],@SH⟩
def wq1kn(k:Nat){R:Type}(K:((List dT43)→Option R)): Option R:=K [([97,58,32,98],(5,1)),([45,32,97],(11,1)),([110,101,97,114,58,32,48,46,53],(10,1)),([100,111,109,97,105,110,115,58,32,120],(11,1)),([110,101,97,114,58,32,50,10,100,111,109,97,105,110,115,58,10,32,32,45,32,100,111,109,97,105,110,58,32,97],(15,1)),([100,111,109,97,105,110,115,58,10,32,32,45,32,100,111,109,97,105,110,58,32,97,10,32,32,45,32,100,111,109,97,105,110,58,32,97],(7,3)),([100,111,109,97,105,110,115,58,10,32,32,45,32,100,101,115,99,114,105,112,116,111,114,115,58,10,32,32,32,32,32,32,45,32,107,101,121,58,32,97],(10,2)),([100,111,109,97,105,110,115,58,10,32,32,45,32,100,111,109,97,105,110,58,32,34,97,32,98,34],(12,2)),((@Array.toList UInt8 (@ByteArray.data (@ByteArray.mk (@List.toArray UInt8 (@List.append UInt8 [(100:UInt8),111,109,97,105,110,115,58,10,32,32,45,32,100,111,109,97,105,110,58,32,115,104,111,112,10,32,32,32,32,100,101,115,99,114,105,112,116,111,114,115,58,10,32,32,32,32,32,32,45] [(32:UInt8),107,101,121,58,32,117,115,101,114,10,32,32,32,32,32,32,32,32,114,97,116,101,95,108,105,109,105,116,58,10,32,32,32,32,32,32,32,32,32,32,117,110,105,116,58,32,119,101,101,107]))))),(16,6)),((@Array.toList UInt8 (@ByteArray.data (@ByteArray.mk (@List.toArray UInt8 (@List.append UInt8 (@List.append UInt8 [(100:UInt8),111,109,97,105,110,115,58,10,32,32,45,32,100,111,109,97,105,110,58,32,115,104,111,112,10,32,32,32,32,100,101,115] [(99:UInt8),114,105,112,116,111,114,115,58,10,32,32,32,32,32,32,45,32,107,101,121,58,32,117,115,101,114,10,32,32,32,32,32,32]) (@List.append UInt8 [(32:UInt8),32,114,97,116,101,95,108,105,109,105,116,58,10,32,32,32,32,32,32,32,32,32,32,117,110,105,116,58,32,109,105,110,117] [(116:UInt8),101,10,32,32,32,32,32,32,32,32,32,32,114,101,113,117,101,115,116,115,95,112,101,114,95,117,110,105,116,58,32,45,49])))))),(13,7)),((@Array.toList UInt8 (@ByteArray.data (@ByteArray.mk (@List.toArray UInt8 (@List.append UInt8 (@List.append UInt8 [(100:UInt8),111,109,97,105,110,115,58,10,32,32,45,32,100,111,109,97,105,110,58,32,115,104,111,112,10,32,32,32,32,100,101,115,99,114] [(105:UInt8),112,116,111,114,115,58,10,32,32,32,32,32,32,45,32,107,101,121,58,32,117,115,101,114,10,32,32,32,32,32,32,32,32,114,97]) (@List.append UInt8 [(116:UInt8),101,95,108,105,109,105,116,58,10,32,32,32,32,32,32,32,32,32,32,117,110,105,116,58,32,109,105,110,117,116,101,10,32,32,32] [(32:UInt8),32,32,32,32,32,32,114,101,113,117,101,115,116,115,95,112,101,114,95,117,110,105,116,58,32,52,50,57,52,57,54,55,50,57,54])))))),(13,7)),((@Array.toList UInt8 (@ByteArray.data (@ByteArray.mk (@List.toArray UInt8 (@List.append UInt8 (@List.append UInt8 [(100:UInt8),111,109,97,105,110,115,58,10,32,32,45,32,100,111,109,97,105,110,58,32,115,104,111,112,10,32,32,32,32,100,101,115,99,114] [(105:UInt8),112,116,111,114,115,58,10,32,32,32,32,32,32,45,32,107,101,121,58,32,117,115,101,114,10,32,32,32,32,32,32,32,32,114,97]) (@List.append UInt8 [(116:UInt8),101,95,108,105,109,105,116,58,10,32,32,32,32,32,32,32,32,32,32,117,110,105,116,58,32,109,105,110,117,116,101,10,32,32,32] [(32:UInt8),32,32,32,32,32,32,114,101,113,117,101,115,116,115,95,112,101,114,95,117,110,105,116,58,32,52,50,57,52,57,54,55,50,57,53])))))),(0,0)),((@Array.toList UInt8 (@ByteArray.data (@ByteArray.mk (@List.toArray UInt8 (@List.append UInt8 (@List.append UInt8 [(100:UInt8),111,109,97,105,110,115,58,10,32,32,45,32,100,111,109,97,105,110,58,32,115,104,111,112,10,32,32,32,32,100,101,115,99] [(114:UInt8),105,112,116,111,114,115,58,10,32,32,32,32,32,32,45,32,107,101,121,58,32,117,115,101,114,10,32,32,32,32,32,32,32]) (@List.append UInt8 [(32:UInt8),114,97,116,101,95,108,105,109,105,116,58,10,32,32,32,32,32,32,32,32,32,32,117,110,105,116,58,32,109,105,110,117,116] [(101:UInt8),10,32,32,32,32,32,32,32,32,32,32,114,101,113,117,101,115,116,115,95,112,101,114,95,117,110,105,116,58,32,34,49,34])))))),(13,7)),((@Array.toList UInt8 (@ByteArray.data (@ByteArray.mk (@List.toArray UInt8 (@List.append UInt8 [(100:UInt8),111,109,97,105,110,115,58,10,32,32,45,32,100,111,109,97,105,110,58,32,115,104,111,112,10,32,32,32,32,100,101,115,99,114,105,112,116,111,114,115,58,10,32,32,32,32,32,32,45,32,107,101,121,58,32] [(117:UInt8),115,101,114,10,32,32,32,32,32,32,32,32,114,97,116,101,95,108,105,109,105,116,58,10,32,32,32,32,32,32,32,32,32,32,114,101,113,117,101,115,116,115,95,112,101,114,95,117,110,105,116,58,32,49,48]))))),(10,6)),((@Array.toList UInt8 (@ByteArray.data (@ByteArray.mk (@List.toArray UInt8 (@List.append UInt8 [(100:UInt8),111,109,97,105,110,115,58,10,32,32,45,32,100,111,109,97,105,110,58,32,115,104,111,112,10,32,32,32,32,100,101,115,99,114,105,112,116,111,114,115,58,10,32,32,32,32,32,32,45,32,107] [(101:UInt8),121,58,32,117,115,101,114,10,32,32,32,32,32,32,32,32,114,97,116,101,95,108,105,109,105,116,58,10,32,32,32,32,32,32,32,32,32,32,117,110,105,116,58,32,109,105,110,117,116,101,10]))))),(10,6)),((@Array.toList UInt8 (@ByteArray.data (@ByteArray.mk (@List.toArray UInt8 (@List.append UInt8 [(100:UInt8),111,109,97,105,110,115,58,10,32,32,45,32,100,111,109,97,105,110,58,32,115,104,111,112,10,32,32,32,32,100,101,115,99,114,105,112,116,111,114,115,58,10,32,32,32,32,32,32,45,32,107,101,121,58,32,117,115,101,114,10,32,32,32] (@List.append UInt8 [(32:UInt8),32,32,32,32,114,97,116,101,95,108,105,109,105,116,58,10,32,32,32,32,32,32,32,32,32,32,117,110,108,105,109] [(105:UInt8),116,101,100,58,32,116,114,117,101,10,32,32,32,32,32,32,32,32,32,32,117,110,105,116,58,32,109,105,110,117,116,101])))))),(17,6)),((@Array.toList UInt8 (@ByteArray.data (@ByteArray.mk (@List.toArray UInt8 (@List.append UInt8 [(100:UInt8),111,109,97,105,110,115,58,10,32,32,45,32,100,111,109,97,105,110,58,32,115,104,111,112,10,32,32,32,32,100,101,115,99,114,105,112,116,111,114,115,58,10,32,32,32,32,32,32,45,32,107,101] [(121:UInt8),58,32,117,115,101,114,10,32,32,32,32,32,32,32,32,114,97,116,101,95,108,105,109,105,116,58,10,32,32,32,32,32,32,32,32,32,32,117,110,108,105,109,105,116,101,100,58,32,116,114,117,101]))))),(0,0)),((@Array.toList UInt8 (@ByteArray.data (@ByteArray.mk (@List.toArray UInt8 (@List.append UInt8 [(100:UInt8),111,109,97,105,110,115,58,10,32,32,45,32,100,111,109,97,105,110,58,32,115,104,111,112,10,32,32,32,32,100,101,115,99,114,105,112,116,111,114,115,58,10,32,32,32,32,32,32,45,32,107] [(101:UInt8),121,58,32,117,115,101,114,10,32,32,32,32,32,32,32,32,114,97,116,101,95,108,105,109,105,116,58,10,32,32,32,32,32,32,32,32,32,32,117,110,108,105,109,105,116,101,100,58,32,121,101,115]))))),(14,6)),((@Array.toList UInt8 (@ByteArray.data (@ByteArray.mk (@List.toArray UInt8 (@List.append UInt8 [(100:UInt8),111,109,97,105,110,115,58,10,32,32,45,32,100,111,109,97,105,110,58,32,115,104,111,112,10,32,32,32,32,100,101,115,99,114,105,112,116,111,114,115,58,10] [(32:UInt8),32,32,32,32,32,45,32,107,101,121,58,32,117,115,101,114,10,32,32,32,32,32,32,32,32,115,104,97,100,111,119,95,109,111,100,101,58,32,116,114,117,101]))))),(17,5)),((@Array.toList UInt8 (@ByteArray.data (@ByteArray.mk (@List.toArray UInt8 (@List.append UInt8 [(100:UInt8),111,109,97,105,110,115,58,10,32,32,45,32,100,111,109,97,105,110,58,32,115,104,111,112,10,32,32,32,32,100,101,115,99,114,105,112,116,111,114,115,58,10] [(32:UInt8),32,32,32,32,32,45,32,107,101,121,58,32,117,115,101,114,10,32,32,32,32,32,32,32,32,115,104,97,100,111,119,95,109,111,100,101,58,32,102,97,108,115,101]))))),(0,0)),((@Array.toList UInt8 (@ByteArray.data (@ByteArray.mk (@List.toArray UInt8 (@List.append UInt8 [(100:UInt8),111,109,97,105,110,115,58,10,32,32,45,32,100,111,109,97,105,110,58,32,115,104,111,112,10,32,32,32,32,100,101,115,99,114,105,112,116,111] [(114:UInt8),115,58,10,32,32,32,32,32,32,45,32,107,101,121,58,32,117,115,101,114,10,32,32,32,32,32,32,45,32,107,101,121,58,32,117,115,101,114]))))),(7,5)),((@Array.toList UInt8 (@ByteArray.data (@ByteArray.mk (@List.toArray UInt8 (@List.append UInt8 [(100:UInt8),111,109,97,105,110,115,58,10,32,32,45,32,100,111,109,97,105,110,58,32,115,104,111,112,10,32,32,32,32,100,101,115,99,114,105,112,116,111,114,115,58,10,32,32,32,32] [(32:UInt8),32,45,32,107,101,121,58,32,117,115,101,114,10,32,32,32,32,32,32,45,32,107,101,121,58,32,117,115,101,114,10,32,32,32,32,32,32,32,32,118,97,108,117,101,58,32,97]))))),(0,0)),((@Array.toList UInt8 (@ByteArray.data (@ByteArray.mk (@List.toArray UInt8 (@List.append UInt8 [(100:UInt8),111,109,97,105,110,115,58,10,32,32,45,32,100,111,109,97,105,110,58,32,115,104,111,112,10,32,32,32,32,100,101,115,99,114,105,112,116,111,114,115,58,10,32,32] [(32:UInt8),32,32,32,45,32,107,101,121,58,32,117,115,101,114,10,32,32,32,32,32,32,32,32,118,97,108,117,101,58,10,32,32,32,32,32,32,32,32,32,32,97,58,32,98]))))),(11,6)),((@Array.toList UInt8 (@ByteArray.data (@ByteArray.mk (@List.toArray UInt8 (@List.append UInt8 [(100:UInt8),111,109,97,105,110,115,58,10,32,32,45,32,100,111,109,97,105,110,58,32,115,104,111,112,10,32,32,32,32,100,101,115,99,114,105,112,116] [(111:UInt8),114,115,58,10,32,32,32,32,32,32,45,32,107,101,121,58,32,117,115,101,114,10,32,32,32,32,32,32,32,32,107,101,121,115,58,32,120]))))),(5,5)),((@Array.toList UInt8 (@ByteArray.data (@ByteArray.mk (@List.toArray UInt8 (@List.append UInt8 (@List.append UInt8 [(100:UInt8),111,109,97,105,110,115,58,10,32,32,45,32,100,111,109,97,105,110,58,32,115,104,111,112,10,32,32,32,32,100,101,115,99,114,105,112,116] [(111:UInt8),114,115,58,10,32,32,32,32,32,32,45,32,107,101,121,58,32,117,115,101,114,10,32,32,32,32,32,32,32,32,114,97,116,101,95,108,105,109]) (@List.append UInt8 [(105:UInt8),116,58,10,32,32,32,32,32,32,32,32,32,32,117,110,105,116,58,32,109,105,110,117,116,101,10,32,32,32,32,32,32,32,32,32,32,114] [(101:UInt8),113,117,101,115,116,115,95,112,101,114,95,117,110,105,116,58,32,49,10,32,32,32,32,32,32,32,32,32,32,110,101,97,114,58,32,110,97,110])))))),(15,8)),((@Array.toList UInt8 (@ByteArray.data (@ByteArray.mk (@List.toArray UInt8 (@List.append UInt8 (@List.append UInt8 [(100:UInt8),111,109,97,105,110,115,58,10,32,32,45,32,100,111,109,97,105,110,58,32,115,104,111,112,10,32,32,32,32,100,101,115,99,114,105,112,116] [(111:UInt8),114,115,58,10,32,32,32,32,32,32,45,32,107,101,121,58,32,117,115,101,114,10,32,32,32,32,32,32,32,32,114,97,116,101,95,108,105]) (@List.append UInt8 [(109:UInt8),105,116,58,10,32,32,32,32,32,32,32,32,32,32,117,110,105,116,58,32,109,105,110,117,116,101,10,32,32,32,32,32,32,32,32,32,32] [(114:UInt8),101,113,117,101,115,116,115,95,112,101,114,95,117,110,105,116,58,32,49,10,32,32,32,32,32,32,32,32,32,32,110,101,97,114,58,32,45,48])))))),(0,0)),((@Array.toList UInt8 (@ByteArray.data (@ByteArray.mk (@List.toArray UInt8 (@List.append UInt8 (@List.append UInt8 [(100:UInt8),111,109,97,105,110,115,58,10,32,32,45,32,100,111,109,97,105,110,58,32,115,104,111,112,10,32,32,32,32,100,101,115,99,114,105,112,116,111] [(114:UInt8),115,58,10,32,32,32,32,32,32,45,32,107,101,121,58,32,117,115,101,114,10,32,32,32,32,32,32,32,32,114,97,116,101,95,108,105,109,105,116]) (@List.append UInt8 [(58:UInt8),10,32,32,32,32,32,32,32,32,32,32,117,110,105,116,58,32,109,105,110,117,116,101,10,32,32,32,32,32,32,32,32,32,32,114,101,113,117,101] [(115:UInt8),116,115,95,112,101,114,95,117,110,105,116,58,32,49,10,32,32,32,32,32,32,32,32,32,32,110,101,97,114,58,32,49,46,48,48,48,48,48,49])))))),(15,8)),((@Array.toList UInt8 (@ByteArray.data (@ByteArray.mk (@List.toArray UInt8 (@List.append UInt8 (@List.append UInt8 [(100:UInt8),111,109,97,105,110,115,58,10,32,32,45,32,100,111,109,97,105,110,58,32,115,104,111,112,10,32,32,32,32,100,101,115,99,114,105,112,116] [(111:UInt8),114,115,58,10,32,32,32,32,32,32,45,32,107,101,121,58,32,117,115,101,114,10,32,32,32,32,32,32,32,32,114,97,116,101,95,108,105]) (@List.append UInt8 [(109:UInt8),105,116,58,10,32,32,32,32,32,32,32,32,32,32,117,110,105,116,58,32,109,105,110,117,116,101,10,32,32,32,32,32,32,32,32,32,32] [(114:UInt8),101,113,117,101,115,116,115,95,112,101,114,95,117,110,105,116,58,32,49,10,32,32,32,32,32,32,32,32,32,32,110,97,109,101,58,32,34,34])))))),(12,8)),((@Array.toList UInt8 (@ByteArray.data (@ByteArray.mk (@List.toArray UInt8 (@List.append UInt8 [(100:UInt8),111,109,97,105,110,115,58,10,32,32,45,32,100,111,109,97,105,110,58,32,115,104,111,112,10,32,32,32,32,100,101,115,99,114,105,112,116,111,114,115] [(58:UInt8),10,32,32,32,32,32,32,45,32,107,101,121,58,32,117,115,101,114,10,32,32,32,32,32,32,32,32,114,97,116,101,95,108,105,109,105,116,58,32,53]))))),(11,5))]
def wqnj(k:Nat){R:Type}(K:((List dT43)→Option R)): Option R:=wq1kn k K
theorem wq1cu(k:Nat){R:Type}(K:((List dT43)→Option R)): fnW (wq1ii k) k Tryz.f18 wq1ih [] [] (wqx8 K)=wqnj k K:=by
 kernel_rfl
def wqlf(k:Nat){R:Type}: List PV→List (Nm×HObj)→(Out→Option R)→Option R
 |[],[],K=>wqnj k (fun y0=>K (.ret [.v (.sl (.pr .str (.pr (.int .i64) (.int .i64)))) y0] []))
 |_,_,_=>none
theorem wq1ko(k:Nat): DOK Tryz.prog 18 (wqlf k):=by
 intro ps hp R K r h
 have h:wqlf k ps hp K=some r:=h
 unfold wqlf at h
 split at h
 ·rw[←wq1cu]at h
  exact fnW_ok ⟨tyT_ok,CTab.nil_ok,fun _ _=>rfl⟩ mixed (by kernel_rfl) (by kernel_rfl) h fun o ho=>by unfold wqx8 at ho;split at ho<;>first|exact ho|cases ho
 ·cases h
end Go.Proofs.YtabkhphoacmcdaaGreatDoor.Pvm
end
noncomputable section
namespace Go.Proofs.YtabkhphoacmcdaaGreatDoor.Pvm
open Go Go.Proofs
def wqjg{R:Type}(K:(Bool→Option R)): Out→Option R
 |.ret [.v .bool y0] []=>K y0
 |_=>none
def wqzt:RetSpec:=⟨[.any],[],[]⟩
def wqzu(k:Nat): Ctx:=⟨tyT,[],(.add 10 wq1co (wqis k) (.add 11 wqna (wqct k) (.add 18 wq1g3 (wqlf k) .nil))),[],[],[(5,(.of [(1,1),(2,1),(3,1),(4,1),(6,1),(7,1),(8,1),(9,1),(0,1),(5,1),(10,1),(11,1),(12,1),(13,1),(14,1),(18,1),(19,1),(20,1),(21,1),(15,1),(16,1),(17,1),(22,1),(23,1),(24,1),(25,1),(26,1),(27,0),(28,1),(29,1)] .done))],@SH⟩
def wqog(k:Nat){R:Type}(x0:Int)(K:(Bool→Option R)): Option R:=wqnj k (fun y4=>cond (cond (decide (x0<0)) true (decide (x0≥(y4.length:Int)))) (wqfk k K) (cond (inb x0 (y4.length:Int)) (wqb2 k (wqzv (y4.getD x0.toNat (Kd.zero (@Kd.pr Kd.str (@Kd.pr kI kI)))).1) (fun y5 y6 y7 y8=>cond (inb x0 (y4.length:Int)) (cond (inb x0 (y4.length:Int)) (cond ((!(((y7 == ((y4.getD x0.toNat (Kd.zero (@Kd.pr Kd.str (@Kd.pr kI kI)))).2).1)&&(y8 == ((y4.getD x0.toNat (Kd.zero (@Kd.pr Kd.str (@Kd.pr kI kI)))).2).2)) == true)) || (inb x0 (y4.length:Int))) (cond ((cond ((y7 == ((y4.getD x0.toNat (Kd.zero (@Kd.pr Kd.str (@Kd.pr kI kI)))).2).1)&&(y8 == ((y4.getD x0.toNat (Kd.zero (@Kd.pr Kd.str (@Kd.pr kI kI)))).2).2)) ((decide ((y5.length:Int)>0)) == (((y4.getD x0.toNat (Kd.zero (@Kd.pr Kd.str (@Kd.pr kI kI)))).2).1 == 0)) false) == true) (wqfk k K) (K false)) none) none) none)) none))
def wqe(k:Nat){R:Type}(x0:Int)(K:(Bool→Option R)): Option R:=wqog k x0 K
theorem wquu(k:Nat){R:Type}(x0:Int)(K:(Bool→Option R)): fnW (wqzu k) k Tryz.f5 wqzt [.v kI x0] [] (wqjg K)=wqe k x0 K:=by
 kernel_rfl
def wqa1(k:Nat){R:Type}: List PV→List (Nm×HObj)→(Out→Option R)→Option R
 |[.v (.int .i64) x0],[],K=>wqe k x0 (fun y0=>K (.ret [.v .bool y0] []))
 |_,_,_=>none
theorem wq12c(k:Nat): DOK Tryz.prog 5 (wqa1 k):=by
 intro ps hp R K r h
 have h:wqa1 k ps hp K=some r:=h
 unfold wqa1 at h
 split at h
 ·rw[←wquu]at h
  exact fnW_ok ⟨tyT_ok,(wqd (wq1ig k) (wqd (wq11q k) (wqd (wq1ko k) CTab.nil_ok))),fun _ _=>rfl⟩ mixed (by kernel_rfl) (by kernel_rfl) h fun o ho=>by unfold wqjg at ho;split at ho<;>first|exact ho|cases ho
 ·cases h
end Go.Proofs.YtabkhphoacmcdaaGreatDoor.Pvm
end
namespace Go.Proofs.YtabkhphoacmcdaaGreatDoor.Pvm
open Go Go.Proofs
theorem aw17{R:Type}(K:Bool→Option R): wqfk 300 K=K true:=by kernel_rfl
def rl17:=(wqnj 300 fun l=>some l).getD []
theorem rows17{R:Type}(K:_→Option R): wqnj 300 K=K rl17:=by kernel_rfl
theorem wq1se:(rl17.length:Int)=29:=by kernel_rfl
theorem cf_0:wqe 300 0 (fun b=>some b)=some true:=by kernel_rfl
theorem cf_1:wqe 300 1 (fun b=>some b)=some true:=by kernel_rfl
theorem cf_2:wqe 300 2 (fun b=>some b)=some true:=by kernel_rfl
theorem cf_3:wqe 300 3 (fun b=>some b)=some true:=by kernel_rfl
theorem cf_4:wqe 300 4 (fun b=>some b)=some true:=by kernel_rfl
theorem cf_5:wqe 300 5 (fun b=>some b)=some true:=by kernel_rfl
theorem cf_6:wqe 300 6 (fun b=>some b)=some true:=by kernel_rfl
theorem cf_7:wqe 300 7 (fun b=>some b)=some true:=by kernel_rfl
theorem cf_8:wqe 300 8 (fun b=>some b)=some true:=by kernel_rfl
theorem cf_9:wqe 300 9 (fun b=>some b)=some true:=by kernel_rfl
theorem cf_10:wqe 300 10 (fun b=>some b)=some true:=by kernel_rfl
theorem cf_11:wqe 300 11 (fun b=>some b)=some true:=by kernel_rfl
theorem cf_12:wqe 300 12 (fun b=>some b)=some true:=by kernel_rfl
theorem cf_13:wqe 300 13 (fun b=>some b)=some true:=by kernel_rfl
theorem cf_14:wqe 300 14 (fun b=>some b)=some true:=by kernel_rfl
theorem cf_15:wqe 300 15 (fun b=>some b)=some true:=by kernel_rfl
theorem cf_16:wqe 300 16 (fun b=>some b)=some true:=by kernel_rfl
theorem cf_17:wqe 300 17 (fun b=>some b)=some true:=by kernel_rfl
theorem cf_18:wqe 300 18 (fun b=>some b)=some true:=by kernel_rfl
theorem cf_19:wqe 300 19 (fun b=>some b)=some true:=by kernel_rfl
theorem cf_20:wqe 300 20 (fun b=>some b)=some true:=by kernel_rfl
theorem cf_21:wqe 300 21 (fun b=>some b)=some true:=by kernel_rfl
theorem cf_22:wqe 300 22 (fun b=>some b)=some true:=by kernel_rfl
theorem cf_23:wqe 300 23 (fun b=>some b)=some true:=by kernel_rfl
theorem cf_24:wqe 300 24 (fun b=>some b)=some true:=by kernel_rfl
theorem cf_25:wqe 300 25 (fun b=>some b)=some true:=by kernel_rfl
theorem cf_26:wqe 300 26 (fun b=>some b)=some true:=by kernel_rfl
theorem cf_27:wqe 300 27 (fun b=>some b)=some true:=by kernel_rfl
theorem cf_28:wqe 300 28 (fun b=>some b)=some true:=by kernel_rfl
theorem wq1cv(x:Int): ∃ k,wqe k x (fun b=>some b)=some true:=by
 refine⟨300,?_⟩
 by_cases h:x<0∨x≥29
 ·unfold wqe wqog
  rw[rows17]
  have:(cond (decide (x<0)) true (decide (x≥(rl17.length:Int))))=true:=by
   rw[wq1se,Bool.cond_true_left];simpa using h
  dsimp only
  rw[this,cond_true,aw17]
 ·obtain⟨n,rfl⟩:∃ n:Nat,x=n:=⟨x.toNat,by omega⟩
  have hn:n<29:=by omega
  match n,hn with
  |0,_=>exact cf_0
  |1,_=>exact cf_1
  |2,_=>exact cf_2
  |3,_=>exact cf_3
  |4,_=>exact cf_4
  |5,_=>exact cf_5
  |6,_=>exact cf_6
  |7,_=>exact cf_7
  |8,_=>exact cf_8
  |9,_=>exact cf_9
  |10,_=>exact cf_10
  |11,_=>exact cf_11
  |12,_=>exact cf_12
  |13,_=>exact cf_13
  |14,_=>exact cf_14
  |15,_=>exact cf_15
  |16,_=>exact cf_16
  |17,_=>exact cf_17
  |18,_=>exact cf_18
  |19,_=>exact cf_19
  |20,_=>exact cf_20
  |21,_=>exact cf_21
  |22,_=>exact cf_22
  |23,_=>exact cf_23
  |24,_=>exact cf_24
  |25,_=>exact cf_25
  |26,_=>exact cf_26
  |27,_=>exact cf_27
  |28,_=>exact cf_28
  |n+29,h=>omega
theorem wq1as(x:(Kd.int .i64).T)(_:Wf (.int .i64) x): ∃ k,wqe k x (fun b=>some b)=some true:=wq1cv x
end Go.Proofs.YtabkhphoacmcdaaGreatDoor.Pvm
namespace Go.Proofs.YtabkhphoacmcdaaGreatDoor.configForms
open Go Go.Proofs Go.ChangeShapes Go.WideShapes Go.ChangeAt Go.RowKit Go.Proofs.YtabkhphoacmcdaaGreatDoor.Pvm
theorem own:ownKnob Tryz.prog.godebug=none:=by kernel_rfl
theorem laidOut:laidOutB Tryz.prog=true:=by kernel_rfl
set_option maxRecDepth 100000 in
theorem lifted(os:Os)(started:os.Started)(H:Type)(enc:TypeId×Value→H):
 ReturnsInHanded {} Tryz.checked os 5 .any (fun w args=>(Rows.configFormsSpec.pre enc Tryz.prog Tryz.f5 Rows.configFormsRow.domain false w args∧laidMetH Tryz.prog Rows.configFormsRow.laid w)∧sizedMet enc Tryz.prog Tryz.f5 (OpenSpec.ofChange Rows.configFormsSpec) false w args) (Rows.configFormsSpec.post enc Tryz.prog Tryz.f5 false true false false):=by
 refine returnsInHanded_of_change_and (C:=Tryz.checked) (X:=fun w _=>laidMetH Tryz.prog Rows.configFormsRow.laid w) (fun _ _ _ hh h=>h.of_heap hh) own started (by kernel_rfl) Tryz.func5
  (ChangeSpec.witness_shaped (enc:=enc) (C:=Tryz.checked) (os:=os) (X:=fun w _=>laidMetH Tryz.prog Rows.configFormsRow.laid w) false (World.laidAll Tryz.prog os Rows.configFormsRow.laid) #[.int .i64 0] 8 (World.laidAll_os _ _ _)
   (World.shaped_of_ZipB (by kernel_rfl) (by kernel_rfl)) (by kernel_rfl) (by kernel_rfl) (by kernel_rfl)
   (by rw[MakeChecks.laidMetH_plain _ _ _ (by kernel_rfl)];exact laidMet_laidAll _ (by kernel_rfl) (by kernel_rfl))) ?_
 intro W base args ds gs before hval0 hW hcnd hsz0 hL _
 have hsz:(DataW.weightsEach Tryz.prog (Tryz.f5.params.toList++Rows.configFormsSpec.plain.varTypes Tryz.prog) (ds++gs)).all (· ≤ reachBytes)=true:=hsz0
 have hval:∀(j:Nat) t v,Tryz.f5.params[j]? = some t→args[j]? = some v→Value.okWide Tryz.prog W .any base t v:=hval0
 have hW':=hW
 obtain⟨p,q,hA0,hV,rfl,hfz,hnd⟩:=hW
 have hA:DataW.TrodAll enc Tryz.prog W 0 (fun _=>true) true Tryz.f5.params.toList args.toList ds p:=hA0
 rw[Tryz.params5]at hA hval hsz
 obtain⟨v0,vs0,d0,ds0,p0,q0,hargs,rfl,rfl,h0,r0⟩:=trodAll_cons hA
 obtain⟨rfl,rfl,rfl⟩:=trodAll_nil r0
 obtain rfl:args = #[v0]:=by cases args;simp_all
 obtain⟨rfl,rfl⟩:=trodVars_none hV
 have hws:=wq1og (P:=Tryz.prog) hsz
 have k0:=h0
 have lt0:∀ x∈p0,x.block<W.heap.size:=by obtain⟨m,hm⟩:=k0;exact DataW.trod_lt m _ _ _ hm
 obtain⟨x0,wf0,rv0⟩:=wq1qr tyT_ok (n:=9) (K:=(.int .i64)) (by kernel_rfl) (by kernel_rfl) (hval 0 3 v0 rfl rfl) h0 (hws 0 3 d0 rfl rfl) (h:=mkH []) (G:=G0) (fun _=>rfl) (fun _ h=>h)
 obtain⟨k,hk⟩:=wq1as x0 wf0
 have hrun:wqa1 k [.v (.int .i64) x0] [] lawK=some true:=hk
 refine(wq1ld (fn:=Tryz.f5) (c:=Tryz.f5.body.getD .skip) (by kernel_rfl) (by kernel_rfl) (by kernel_rfl) (wq12c k _ _ _ _ _ hrun) (vals:=[v0]) ⟨v0,_,rfl,rv0,rfl⟩).mono fun e W' ⟨he,bel⟩ => ?_
 subst he
 exact⟨_,rfl,_,_,_,[],_,[],hW',trodAll_mk1 (shut_bool Tryz.underlying4 _),(trodAll_cons_mk (Below.trod laidOut (by kernel_rfl) (of_decide_eq_true (by kernel_rfl)) k0 bel lt0) trodAll_mk0),rfl,bel.frame _,fun h=>by cases h⟩
theorem over:Rows.configFormsRow.holds Tryz.pinned (OpenSpec.ofChange Rows.configFormsSpec) :=
 OpenClaim.holds_of_wide 5 Tryz.f5 rfl rfl rfl rfl rfl rfl rfl ⟨rfl,rfl,rfl,rfl,rfl⟩ rfl rfl rfl rfl rfl (by kernel_rfl) Tryz.func5 (by kernel_rfl)
  (of_decide_eq_true (by kernel_rfl)) (by unfold Func.isWrapper;first|(rw[if_pos (by decide +kernel)];kernel_rfl)|(rw[if_neg (by decide +kernel)];exact⟨rfl,rfl⟩))
  (fun os started H enc _=>lifted os started H enc)
theorem tied:Rows.ConfigFormsCardSaid :=
 Claim7.holds_tied_plain_at .later [] [.data,.pinned] true (true,"c61b158f2341520057692774128471b7c7a277b548e973e80533808263959f4a") true over (fun _ h=>by cases h) (by kernel_rfl) (fun _ h=>by cases h) configForms_row_tie rfl ⟨rfl,rfl⟩ (by kernel_rfl) rfl
  (fun f fn hf hfn=>by
   obtain rfl:f=5:=Option.some.inj ((show Tryz.prog.funcNamed Rows.configFormsRow.func=some 5 by kernel_rfl).symm.trans hf) |>.symm
   obtain rfl:fn=Tryz.f5:=(Option.some.inj (Tryz.func5.symm.trans hfn)).symm
   exact⟨by kernel_rfl,fun j t ht=>by
    rw[Tryz.params5]at ht
    have hm:t∈[3]:=by simpa using Array.mem_of_getElem? ht
    have hall:([3].all fun u => !Tryz.prog.wantsStandIn u)=true:=by kernel_rfl
    exact(show Tryz.prog.wantsStandIn t=false by simpa using List.all_eq_true.1 hall t hm)⟩)
  (by kernel_rfl)
#print axioms tied
end Go.Proofs.YtabkhphoacmcdaaGreatDoor.configForms
namespace Go.Proofs.YtabkhphoacmcdaaGreatDoor
theorem configForms_holds:Rows.ConfigFormsCardSaid:=configForms.tied
end Go.Proofs.YtabkhphoacmcdaaGreatDoor
end
