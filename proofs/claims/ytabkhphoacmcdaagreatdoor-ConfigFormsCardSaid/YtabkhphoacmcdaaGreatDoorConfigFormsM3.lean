/- For every number i the Go function ConfigForms of turncocklaw17 returns true. -/
import Derived.Test.YtabkhphoacmcdaaGreatDoorChecked
import Derived.WalkKit
import Derived.WalkSpells
import Derived.WalkLawsBesides
import Derived.Lib.Builder
import Derived.Lib.AppendStr
import Derived.Lib.UnsafeStr
import Derived.Laws.Externs
import Derived.Shelf.RegionOpenPlain
import Derived.Deep.Heap
import Derived.Lib.Bytealg
import Derived.Test.YtabkhphoacmcdaaGreatDoorConfigFormsM0
import Derived.Test.YtabkhphoacmcdaaGreatDoorConfigFormsM1
import Derived.Test.YtabkhphoacmcdaaGreatDoorConfigFormsM2
set_option linter.unusedVariables false
set_option linter.unusedSimpArgs false
set_option linter.unusedSectionVars false
noncomputable section
set_option maxRecDepth 1000000
set_option maxHeartbeats 0
noncomputable section
namespace Go.Proofs.YtabkhphoacmcdaaGreatDoor.Pvm
open Go Go.Proofs
def wqib:List LS:=[.any]
def wqm6{R:Type}(K:(Nat→Bool→Option R)): Out→Option R
 |.ret [.v .flt y0,.v .bool y1] []=>K y0 y1
 |_=>none
def wq10j:RetSpec:=⟨[.any,.any],[],[]⟩
def wq10k(k:Nat): Ctx:=⟨tyT,[],(.add 115 wq18l (wqqi k) (.add 116 wq18k (wqqh k) (.add 117 wqke (wq9n k) (.add 118 wqoo (wqe9 k) (.add 119 wqt5 (wqfs k) (.add 120 wqwo (wqi9 k) (.add 121 wqt8 (wqiv k) (.add 122 wqru (wqej k) .nil)))))))),[],[],[],@SH⟩
def wq1h4(k:Nat){R:Type}(x0:(List UInt8))(K:(Nat→Bool→Option R)): Option R:=cond (x0 == [(110:UInt8),97,110]) (wqpd k (fun y4=>K y4 true)) (cond (x0 == [(105:UInt8),110,102]) (wqm0 k 1 (fun y4=>K y4 true)) (cond (x0 == [(45:UInt8),105,110,102]) (wqm0 k (@Neg.neg Int @Int.instNegInt (1:Int)) (fun y4=>K y4 true)) (wq77 k x0 45 (fun y4 y5=>wqck k y4 46 (fun y6 y7 y8=>wqam k y6 9 (fun y9=>cond ((!(((!y9) == false)&&((decide ((y6.length:Int)>1)) == true))) || (inb 0 (y6.length:Int))) (cond ((cond (!y9) true (cond (decide ((y6.length:Int)>1)) (((y6.getD (Int.toNat 0) 0).toNat:Int) == 48) false)) == false) (cond (y8 == true) (wqam k y7 6 (fun y10=>cond (!y10) (K 0 false) (cond (joins y6 y7) (wqcj k (y6++y7) (fun y11=>wq85 k (y7.length:Int) (fun y12=>cond (@Option.isSome Nat (@fltAr @Go.BinOp.quo (@fltOf y11) (@fltOf y12))) (cond y5 (wq9k k (@Option.getD Nat (@fltAr @Go.BinOp.quo (@fltOf y11) (@fltOf y12)) (0:Nat)) 13830554455654793216 (fun y13=>K y13 true)) (K (@Option.getD Nat (@fltAr @Go.BinOp.quo (@fltOf y11) (@fltOf y12)) (0:Nat)) true)) none))) none))) (cond (joins y6 y7) (wqcj k (y6++y7) (fun y10=>wq85 k (y7.length:Int) (fun y11=>cond (@Option.isSome Nat (@fltAr @Go.BinOp.quo (@fltOf y10) (@fltOf y11))) (cond y5 (wq9k k (@Option.getD Nat (@fltAr @Go.BinOp.quo (@fltOf y10) (@fltOf y11)) (0:Nat)) 13830554455654793216 (fun y12=>K y12 true)) (K (@Option.getD Nat (@fltAr @Go.BinOp.quo (@fltOf y10) (@fltOf y11)) (0:Nat)) true)) none))) none)) (K 0 false)) none))))))
def wq3n(k:Nat){R:Type}(x0:(List UInt8))(K:(Nat→Bool→Option R)): Option R:=wq1h4 k x0 K
def wq1b0(f:(R:Type)→(Nat→Option R)→Option R){R:Type}: List PV→List (Nm×HObj)→(Out→Option R)→Option R
 |[],[],K=>f R (fun y0=>K (.ret [.v .flt y0] []))
 |_,_,_=>none
def wq1b1(f:(R:Type)→Int→(Nat→Option R)→Option R){R:Type}: List PV→List (Nm×HObj)→(Out→Option R)→Option R
 |[.v (.int .i64) x0],[],K=>f R x0 (fun y0=>K (.ret [.v .flt y0] []))
 |_,_,_=>none
def wq1b2(f:(R:Type)→(List UInt8)→UInt8→((List UInt8)→Bool→Option R)→Option R){R:Type}: List PV→List (Nm×HObj)→(Out→Option R)→Option R
 |[.v .str x0,.v .str [x1]],[],K=>f R x0 x1 (fun y0 y1=>K (.ret [.v .str y0,.v .bool y1] []))
 |_,_,_=>none
def wq1b3(f:(R:Type)→(List UInt8)→UInt8→((List UInt8)→(List UInt8)→Bool→Option R)→Option R){R:Type}: List PV→List (Nm×HObj)→(Out→Option R)→Option R
 |[.v .str x0,.v .str [x1]],[],K=>f R x0 x1 (fun y0 y1 y2=>K (.ret [.v .str y0,.v .str y1,.v .bool y2] []))
 |_,_,_=>none
def wq1b4(f:(R:Type)→(List UInt8)→Int→(Bool→Option R)→Option R){R:Type}: List PV→List (Nm×HObj)→(Out→Option R)→Option R
 |[.v .str x0,.v (.int .i64) x1],[],K=>f R x0 x1 (fun y0=>K (.ret [.v .bool y0] []))
 |_,_,_=>none
def wq1b5(f:(R:Type)→(List UInt8)→(Int→Option R)→Option R){R:Type}: List PV→List (Nm×HObj)→(Out→Option R)→Option R
 |[.v .str x0],[],K=>f R x0 (fun y0=>K (.ret [.v (.int .i64) y0] []))
 |_,_,_=>none
def wq1b6(f:(R:Type)→Int→(Int→Option R)→Option R){R:Type}: List PV→List (Nm×HObj)→(Out→Option R)→Option R
 |[.v (.int .i64) x0],[],K=>f R x0 (fun y0=>K (.ret [.v (.int .i64) y0] []))
 |_,_,_=>none
def wq1b7(f:(R:Type)→Nat→Nat→(Nat→Option R)→Option R){R:Type}: List PV→List (Nm×HObj)→(Out→Option R)→Option R
 |[.v .flt x0,.v .flt x1],[],K=>f R x0 x1 (fun y0=>K (.ret [.v .flt y0] []))
 |_,_,_=>none
def wq10l(f0:(R:Type)→(Nat→Option R)→Option R)(f1:(R:Type)→Int→(Nat→Option R)→Option R)(f2:(R:Type)→(List UInt8)→UInt8→((List UInt8)→Bool→Option R)→Option R)(f3:(R:Type)→(List UInt8)→UInt8→((List UInt8)→(List UInt8)→Bool→Option R)→Option R)(f4:(R:Type)→(List UInt8)→Int→(Bool→Option R)→Option R)(f5:(R:Type)→(List UInt8)→(Int→Option R)→Option R)(f6:(R:Type)→Int→(Int→Option R)→Option R)(f7:(R:Type)→Nat→Nat→(Nat→Option R)→Option R): Ctx:=⟨tyT,[],(.add 115 wq18l (wq1b0 f0) (.add 116 wq18k (wq1b1 f1) (.add 117 wqke (wq1b2 f2) (.add 118 wqoo (wq1b3 f3) (.add 119 wqt5 (wq1b4 f4) (.add 120 wqwo (wq1b5 f5) (.add 121 wqt8 (wq1b6 f6) (.add 122 wqru (wq1b7 f7) .nil)))))))),[],[],[],@SH⟩
def wq157(f0:(R:Type)→(Nat→Option R)→Option R)(f1:(R:Type)→Int→(Nat→Option R)→Option R)(f2:(R:Type)→(List UInt8)→UInt8→((List UInt8)→Bool→Option R)→Option R)(f3:(R:Type)→(List UInt8)→UInt8→((List UInt8)→(List UInt8)→Bool→Option R)→Option R)(f4:(R:Type)→(List UInt8)→Int→(Bool→Option R)→Option R)(f5:(R:Type)→(List UInt8)→(Int→Option R)→Option R)(f6:(R:Type)→Int→(Int→Option R)→Option R)(f7:(R:Type)→Nat→Nat→(Nat→Option R)→Option R){R:Type}(x0:(List UInt8))(K:(Nat→Bool→Option R)): Option R:=cond (x0 == [(110:UInt8),97,110]) (f0 R (fun y4=>K y4 true)) (cond (x0 == [(105:UInt8),110,102]) (f1 R 1 (fun y4=>K y4 true)) (cond (x0 == [(45:UInt8),105,110,102]) (f1 R (@Neg.neg Int @Int.instNegInt (1:Int)) (fun y4=>K y4 true)) (f2 R x0 45 (fun y4 y5=>f3 R y4 46 (fun y6 y7 y8=>f4 R y6 9 (fun y9=>cond ((!(((!y9) == false)&&((decide ((y6.length:Int)>1)) == true))) || (inb 0 (y6.length:Int))) (cond ((cond (!y9) true (cond (decide ((y6.length:Int)>1)) (((y6.getD (Int.toNat 0) 0).toNat:Int) == 48) false)) == false) (cond (y8 == true) (f4 R y7 6 (fun y10=>cond (!y10) (K 0 false) (cond (joins y6 y7) (f5 R (y6++y7) (fun y11=>f6 R (y7.length:Int) (fun y12=>cond (@Option.isSome Nat (@fltAr @Go.BinOp.quo (@fltOf y11) (@fltOf y12))) (cond y5 (f7 R (@Option.getD Nat (@fltAr @Go.BinOp.quo (@fltOf y11) (@fltOf y12)) (0:Nat)) 13830554455654793216 (fun y13=>K y13 true)) (K (@Option.getD Nat (@fltAr @Go.BinOp.quo (@fltOf y11) (@fltOf y12)) (0:Nat)) true)) none))) none))) (cond (joins y6 y7) (f5 R (y6++y7) (fun y10=>f6 R (y7.length:Int) (fun y11=>cond (@Option.isSome Nat (@fltAr @Go.BinOp.quo (@fltOf y10) (@fltOf y11))) (cond y5 (f7 R (@Option.getD Nat (@fltAr @Go.BinOp.quo (@fltOf y10) (@fltOf y11)) (0:Nat)) 13830554455654793216 (fun y12=>K y12 true)) (K (@Option.getD Nat (@fltAr @Go.BinOp.quo (@fltOf y10) (@fltOf y11)) (0:Nat)) true)) none))) none)) (K 0 false)) none))))))
theorem wq18q(f0:(R:Type)→(Nat→Option R)→Option R)(f1:(R:Type)→Int→(Nat→Option R)→Option R)(f2:(R:Type)→(List UInt8)→UInt8→((List UInt8)→Bool→Option R)→Option R)(f3:(R:Type)→(List UInt8)→UInt8→((List UInt8)→(List UInt8)→Bool→Option R)→Option R)(f4:(R:Type)→(List UInt8)→Int→(Bool→Option R)→Option R)(f5:(R:Type)→(List UInt8)→(Int→Option R)→Option R)(f6:(R:Type)→Int→(Int→Option R)→Option R)(f7:(R:Type)→Nat→Nat→(Nat→Option R)→Option R)(k:Nat){R:Type}(x0:(List UInt8))(K:(Nat→Bool→Option R)): fnW (wq10l f0 f1 f2 f3 f4 f5 f6 f7) k Tryz.f71 wq10j [.v .str x0] [] (wqm6 K)=wq157 f0 f1 f2 f3 f4 f5 f6 f7 x0 K:=by
 kernel_rfl
theorem wq16h(k:Nat): wq10k k=wq10l (fun R=>@wqpd k R) (fun R=>@wqm0 k R) (fun R=>@wq77 k R) (fun R=>@wqck k R) (fun R=>@wqam k R) (fun R=>@wqcj k R) (fun R=>@wq85 k R) (fun R=>@wq9k k R):=by
 kernel_rfl
theorem wq18r(k:Nat){R:Type}(x0:(List UInt8))(K:(Nat→Bool→Option R)): fnW (wq10k k) k Tryz.f71 wq10j [.v .str x0] [] (wqm6 K)=wq3n k x0 K:=by
 have e:wq3n k x0 K=wq157 (fun R=>@wqpd k R) (fun R=>@wqm0 k R) (fun R=>@wq77 k R) (fun R=>@wqck k R) (fun R=>@wqam k R) (fun R=>@wqcj k R) (fun R=>@wq85 k R) (fun R=>@wq9k k R) x0 K:=by kernel_rfl
 rw[wq16h,e]
 exact wq18q (fun R=>@wqpd k R) (fun R=>@wqm0 k R) (fun R=>@wq77 k R) (fun R=>@wqck k R) (fun R=>@wqam k R) (fun R=>@wqcj k R) (fun R=>@wq85 k R) (fun R=>@wq9k k R) k x0 K
def wqbg(k:Nat){R:Type}: List PV→List (Nm×HObj)→(Out→Option R)→Option R
 |[.v .str x0],[],K=>wq3n k x0 (fun y0 y1=>K (.ret [.v .flt y0,.v .bool y1] []))
 |_,_,_=>none
theorem wqtf(k:Nat): DOK Tryz.prog 71 (wqbg k):=by
 intro ps hp R K r h
 have h:wqbg k ps hp K=some r:=h
 unfold wqbg at h
 split at h
 ·rw[←wq18r]at h
  exact fnW_ok ⟨tyT_ok,(wqd (wq1om k) (wqd (wq1ok k) (wqd (wq10i k) (wqd (wq156 k) (wqd (wq1ee k) (wqd (wq1gz k) (wqd (wq1dc k) (wqd (wq1ay k) CTab.nil_ok)))))))),fun _ _=>rfl⟩ mixed (by kernel_rfl) (by kernel_rfl) h fun o ho=>by unfold wqm6 at ho;split at ho<;>first|exact ho|cases ho
 ·cases h
end Go.Proofs.YtabkhphoacmcdaaGreatDoor.Pvm
end
noncomputable section
namespace Go.Proofs.YtabkhphoacmcdaaGreatDoor.Pvm
open Go Go.Proofs
def wqxy:List LS:=[.ag [.sl kdT72],.any]
def wqdu{R:Type}(K:(Nat→Int→Int→Option R)): Out→Option R
 |.ret [.v .flt y0,.agg [.v (.int .i64) y1,.v (.int .i64) y2]] []=>K y0 y1 y2
 |_=>none
def wqnt:RetSpec:=⟨[.any,.ag [.any,.any]],[],[]⟩
def wqnu(k:Nat): Ctx:=⟨tyT,[],(.add 71 wqib (wqbg k) (.add 114 wq49 (wq3c k) (.add 134 wqcz (wqak k) (.add 171 wqbw (wq75 k) (.add 172 wqhk (wqf3 k) .nil))))),[],[],[(3,(.of [(1,1),(0,1),(2,0)] .done))],@SH⟩
def wq13g(k:Nat){R:Type}(x0:(List dT72))(x1:Int)(K:(Nat→Int→Int→Option R)): Option R:=wq69 k x0 x1 15 (fun y5 y6 y7=>cond (y6 != 0) (K 0 y6 y7) (wq3n k y5 (fun y8 y9=>cond ((!y9) == false) (wq3s k y8 (fun y10=>cond (cond (cond y10 true (@fltIs @Go.BinOp.lss y8 (0:Nat))) true (@fltIs @Go.BinOp.gtr y8 (4607182418800017408:Nat))) (wq2x k x0 x1 15 (fun y11 y12=>K 0 y11 y12)) (wq6f k y8 (fun y11=>K y11 0 0)))) (wq2x k x0 x1 15 (fun y10 y11=>K 0 y10 y11)))))
def wqd0(k:Nat){R:Type}(x0:(List dT72))(x1:Int)(K:(Nat→Int→Int→Option R)): Option R:=wq13g k x0 x1 K
def wqxz(f:(R:Type)→(List UInt8)→(Nat→Bool→Option R)→Option R){R:Type}: List PV→List (Nm×HObj)→(Out→Option R)→Option R
 |[.v .str x0],[],K=>f R x0 (fun y0 y1=>K (.ret [.v .flt y0,.v .bool y1] []))
 |_,_,_=>none
def wqy0(f:(R:Type)→(List dT72)→Int→Int→(Int→Int→Option R)→Option R){R:Type}: List PV→List (Nm×HObj)→(Out→Option R)→Option R
 |[.agg [.v (.sl (.pr (.int .i64) (.pr (.int .i64) (.pr .str (.pr .bool (.pr (.sl .str) (.sl (.int .i64)))))))) x0],.v (.int .i64) x1,.v (.int .i64) x2],[],K=>f R x0 x1 x2 (fun y0 y1=>K (.ret [.agg [.v (.int .i64) y0,.v (.int .i64) y1]] []))
 |_,_,_=>none
def wqy1(f:(R:Type)→Nat→(Bool→Option R)→Option R){R:Type}: List PV→List (Nm×HObj)→(Out→Option R)→Option R
 |[.v .flt x0],[],K=>f R x0 (fun y0=>K (.ret [.v .bool y0] []))
 |_,_,_=>none
def wqy2(f:(R:Type)→(List dT72)→Int→Int→((List UInt8)→Int→Int→Option R)→Option R){R:Type}: List PV→List (Nm×HObj)→(Out→Option R)→Option R
 |[.agg [.v (.sl (.pr (.int .i64) (.pr (.int .i64) (.pr .str (.pr .bool (.pr (.sl .str) (.sl (.int .i64)))))))) x0],.v (.int .i64) x1,.v (.int .i64) x2],[],K=>f R x0 x1 x2 (fun y0 y1 y2=>K (.ret [.v .str y0,.agg [.v (.int .i64) y1,.v (.int .i64) y2]] []))
 |_,_,_=>none
def wqy3(f:(R:Type)→Nat→(Nat→Option R)→Option R){R:Type}: List PV→List (Nm×HObj)→(Out→Option R)→Option R
 |[.v .flt x0],[],K=>f R x0 (fun y0=>K (.ret [.v .flt y0] []))
 |_,_,_=>none
def wqnv(f0:(R:Type)→(List UInt8)→(Nat→Bool→Option R)→Option R)(f1:(R:Type)→(List dT72)→Int→Int→(Int→Int→Option R)→Option R)(f2:(R:Type)→Nat→(Bool→Option R)→Option R)(f3:(R:Type)→(List dT72)→Int→Int→((List UInt8)→Int→Int→Option R)→Option R)(f4:(R:Type)→Nat→(Nat→Option R)→Option R): Ctx:=⟨tyT,[],(.add 71 wqib (wqxz f0) (.add 114 wq49 (wqy0 f1) (.add 134 wqcz (wqy1 f2) (.add 171 wqbw (wqy2 f3) (.add 172 wqhk (wqy3 f4) .nil))))),[],[],[(3,(.of [(1,1),(0,1),(2,0)] .done))],@SH⟩
def wqph(f0:(R:Type)→(List UInt8)→(Nat→Bool→Option R)→Option R)(f1:(R:Type)→(List dT72)→Int→Int→(Int→Int→Option R)→Option R)(f2:(R:Type)→Nat→(Bool→Option R)→Option R)(f3:(R:Type)→(List dT72)→Int→Int→((List UInt8)→Int→Int→Option R)→Option R)(f4:(R:Type)→Nat→(Nat→Option R)→Option R){R:Type}(x0:(List dT72))(x1:Int)(K:(Nat→Int→Int→Option R)): Option R:=f3 R x0 x1 15 (fun y5 y6 y7=>cond (y6 != 0) (K 0 y6 y7) (f0 R y5 (fun y8 y9=>cond ((!y9) == false) (f2 R y8 (fun y10=>cond (cond (cond y10 true (@fltIs @Go.BinOp.lss y8 (0:Nat))) true (@fltIs @Go.BinOp.gtr y8 (4607182418800017408:Nat))) (f1 R x0 x1 15 (fun y11 y12=>K 0 y11 y12)) (f4 R y8 (fun y11=>K y11 0 0)))) (f1 R x0 x1 15 (fun y10 y11=>K 0 y10 y11)))))
theorem wqvr(f0:(R:Type)→(List UInt8)→(Nat→Bool→Option R)→Option R)(f1:(R:Type)→(List dT72)→Int→Int→(Int→Int→Option R)→Option R)(f2:(R:Type)→Nat→(Bool→Option R)→Option R)(f3:(R:Type)→(List dT72)→Int→Int→((List UInt8)→Int→Int→Option R)→Option R)(f4:(R:Type)→Nat→(Nat→Option R)→Option R)(k:Nat){R:Type}(x0:(List dT72))(x1:Int)(K:(Nat→Int→Int→Option R)): fnW (wqnv f0 f1 f2 f3 f4) k Tryz.f124 wqnt [.agg [.v kdT37 x0],.v kI x1] [] (wqdu K)=wqph f0 f1 f2 f3 f4 x0 x1 K:=by
 kernel_rfl
theorem wqtg(k:Nat): wqnu k=wqnv (fun R=>@wq3n k R) (fun R=>@wq2x k R) (fun R=>@wq3s k R) (fun R=>@wq69 k R) (fun R=>@wq6f k R):=by
 kernel_rfl
theorem wqvs(k:Nat){R:Type}(x0:(List dT72))(x1:Int)(K:(Nat→Int→Int→Option R)): fnW (wqnu k) k Tryz.f124 wqnt [.agg [.v kdT37 x0],.v kI x1] [] (wqdu K)=wqd0 k x0 x1 K:=by
 have e:wqd0 k x0 x1 K=wqph (fun R=>@wq3n k R) (fun R=>@wq2x k R) (fun R=>@wq3s k R) (fun R=>@wq69 k R) (fun R=>@wq6f k R) x0 x1 K:=by kernel_rfl
 rw[wqtg,e]
 exact wqvr (fun R=>@wq3n k R) (fun R=>@wq2x k R) (fun R=>@wq3s k R) (fun R=>@wq69 k R) (fun R=>@wq6f k R) k x0 x1 K
def wqao(k:Nat){R:Type}: List PV→List (Nm×HObj)→(Out→Option R)→Option R
 |[.agg [.v (.sl (.pr (.int .i64) (.pr (.int .i64) (.pr .str (.pr .bool (.pr (.sl .str) (.sl (.int .i64)))))))) x0],.v (.int .i64) x1],[],K=>wqd0 k x0 x1 (fun y0 y1 y2=>K (.ret [.v .flt y0,.agg [.v (.int .i64) y1,.v (.int .i64) y2]] []))
 |_,_,_=>none
theorem wq13h(k:Nat): DOK Tryz.prog 124 (wqao k):=by
 intro ps hp R K r h
 have h:wqao k ps hp K=some r:=h
 unfold wqao at h
 split at h
 ·rw[←wqvs]at h
  exact fnW_ok ⟨tyT_ok,(wqd (wqtf k) (wqd (wq5r k) (wqd (wqqg k) (wqd (wqji k) (wqd (wq10b k) CTab.nil_ok))))),fun _ _=>rfl⟩ mixed (by kernel_rfl) (by kernel_rfl) h fun o ho=>by unfold wqdu at ho;split at ho<;>first|exact ho|cases ho
 ·cases h
end Go.Proofs.YtabkhphoacmcdaaGreatDoor.Pvm
end
noncomputable section
namespace Go.Proofs.YtabkhphoacmcdaaGreatDoor.Pvm
open Go Go.Proofs
def wqh3:List LS:=[.lend kdT37,.any,.any,.any]
def wqfu{R:Type}(K:(Nat→Option R))(E:(Int→Int→Option R)): Out→Option R
 |.ret [.v .flt y0] []=>K y0
 |.pan (.ifc 29 (.agg [.v (.int .i64) z0,.v (.int .i64) z1])) []=>E z0 z1
 |_=>none
def wqth:RetSpec:=⟨[.any],[],[]⟩
def wqti(k:Nat): Ctx:=⟨tyT,[],(.add 69 wq5c (wq4d k) (.add 123 wq76 (wq4j k) (.add 124 wqxy (wqao k) .nil))),[],[],[],@SH⟩
def wqvt(k:Nat){R:Type}(x0:dT37)(x1:Int)(x2:(List UInt8))(x3:Nat)(K:(Nat→Option R))(E:(Int→Int→Option R)): Option R:=wq2z k x0 x1 x2 (fun y8 y9=>cond (!y9) (K x3) (wqd0 k x0 y8 (fun y10 y11 y12=>wq23 k y11 y12 (fun y13=>K y10) E)))
def wq2b(k:Nat){R:Type}(x0:dT37)(x1:Int)(x2:(List UInt8))(x3:Nat)(K:(Nat→Option R))(E:(Int→Int→Option R)): Option R:=wqvt k x0 x1 x2 x3 K E
theorem wqqm(k:Nat){R:Type}(x0:dT37)(x1:Int)(x2:(List UInt8))(x3:Nat)(K:(Nat→Option R))(E:(Int→Int→Option R)): fnW (wqti k) k Tryz.f72 wqth [.lp kdT37 x0 0,.v kI x1,.v .str x2,.v .flt x3] [] (wqfu K E)=wq2b k x0 x1 x2 x3 K E:=by
 kernel_rfl
def wq6g(k:Nat){R:Type}: List PV→List (Nm×HObj)→(Out→Option R)→Option R
 |[.lp (.sl (.pr (.int .i64) (.pr (.int .i64) (.pr .str (.pr .bool (.pr (.sl .str) (.sl (.int .i64)))))))) x0 0,.v (.int .i64) x1,.v .str x2,.v .flt x3],[],K=>wq2b k x0 x1 x2 x3 (fun y0=>K (.ret [.v .flt y0] [])) (fun z0 z1=>K (.pan (.ifc 29 (.agg [.v (.int .i64) z0,.v (.int .i64) z1])) []))
 |_,_,_=>none
theorem wqkf(k:Nat): DOK Tryz.prog 72 (wq6g k):=by
 intro ps hp R K r h
 have h:wq6g k ps hp K=some r:=h
 unfold wq6g at h
 split at h
 ·rw[←wqqm]at h
  exact fnW_ok ⟨tyT_ok,(wqd (wq7o k) (wqd (wq91 k) (wqd (wq13h k) CTab.nil_ok))),fun _ _=>rfl⟩ mixed (by kernel_rfl) (by kernel_rfl) h fun o ho=>by unfold wqfu at ho;split at ho<;>first|exact ho|cases ho
 ·cases h
end Go.Proofs.YtabkhphoacmcdaaGreatDoor.Pvm
end
noncomputable section
namespace Go.Proofs.YtabkhphoacmcdaaGreatDoor.Pvm
open Go Go.Proofs
def wq7q(wq2:(R:Type)→dT37→Int→(List UInt8)→Nat→(Nat→Option R)→(Int→Int→Option R)→Option R){R:Type}: List PV→List (Nm×HObj)→(Out→Option R)→Option R
 |[.lp (.sl (.pr (.int .i64) (.pr (.int .i64) (.pr .str (.pr .bool (.pr (.sl .str) (.sl (.int .i64)))))))) x0 0,.v (.int .i64) x1,.v .str x2,.v .flt x3],[],K=>wq2 R x0 x1 x2 x3 (fun y0=>K (.ret [.v .flt y0] [])) (fun z0 z1=>K (.pan (.ifc 29 (.agg [.v (.int .i64) z0,.v (.int .i64) z1])) []))
 |_,_,_=>none
end Go.Proofs.YtabkhphoacmcdaaGreatDoor.Pvm
end
noncomputable section
namespace Go.Proofs.YtabkhphoacmcdaaGreatDoor.Pvm
open Go Go.Proofs
def wqap(wq7:(R:Type)→(List dT72)→Int→(List UInt8)→(Int→Bool→Option R)→Option R){R:Type}: List PV→List (Nm×HObj)→(Out→Option R)→Option R
 |[.agg [.v (.sl (.pr (.int .i64) (.pr (.int .i64) (.pr .str (.pr .bool (.pr (.sl .str) (.sl (.int .i64)))))))) x0],.v (.int .i64) x1,.v .str x2],[],K=>wq7 R x0 x1 x2 (fun y0 y1=>K (.ret [.v (.int .i64) y0,.v .bool y1] []))
 |_,_,_=>none
end Go.Proofs.YtabkhphoacmcdaaGreatDoor.Pvm
end
noncomputable section
namespace Go.Proofs.YtabkhphoacmcdaaGreatDoor.Pvm
open Go Go.Proofs
def wq8v:List LS:=[.sl .str,.any]
def wq8d{R:Type}(K:(Bool→Option R)): Out→Option R
 |.ret [.v .bool y0] []=>K y0
 |_=>none
def wqfv:RetSpec:=⟨[.any],[],[]⟩
def wqfw(k:Nat): Ctx:=⟨tyT,[],(.add 166 wq6k (wq39 k) .nil),[],[],[],@SH⟩
def wqgw(k:Nat){R:Type}(x0:(List (List UInt8)))(x1:(List UInt8))(K:(Bool→Option R)): Option R:=wq4e k x0 x1 (fun y5=>K (decide (y5≥0)))
def wq4p(k:Nat){R:Type}(x0:(List (List UInt8)))(x1:(List UInt8))(K:(Bool→Option R)): Option R:=wqgw k x0 x1 K
theorem wqf4(k:Nat){R:Type}(x0:(List (List UInt8)))(x1:(List UInt8))(K:(Bool→Option R)): fnW (wqfw k) k Tryz.f113 wqfv [.v (.sl .str) x0,.v .str x1] [] (wq8d K)=wq4p k x0 x1 K:=by
 kernel_rfl
def wq3g(k:Nat){R:Type}: List PV→List (Nm×HObj)→(Out→Option R)→Option R
 |[.v (.sl .str) x0,.v .str x1],[],K=>wq4p k x0 x1 (fun y0=>K (.ret [.v .bool y0] []))
 |_,_,_=>none
theorem wq9l(k:Nat): DOK Tryz.prog 113 (wq3g k):=by
 intro ps hp R K r h
 have h:wq3g k ps hp K=some r:=h
 unfold wq3g at h
 split at h
 ·rw[←wqf4]at h
  exact fnW_ok ⟨tyT_ok,(wqd (wq7i k) CTab.nil_ok),fun _ _=>rfl⟩ mixed (by kernel_rfl) (by kernel_rfl) h fun o ho=>by unfold wq8d at ho;split at ho<;>first|exact ho|cases ho
 ·cases h
end Go.Proofs.YtabkhphoacmcdaaGreatDoor.Pvm
end
noncomputable section
namespace Go.Proofs.YtabkhphoacmcdaaGreatDoor.Pvm
open Go Go.Proofs
def wq8e:List LS:=[.ag [.sl kdT72],.any,.sl .str]
def wq9o{R:Type}(K:(Int→Int→Option R)): Out→Option R
 |.ret [.agg [.v (.int .i64) y0,.v (.int .i64) y1]] []=>K y0 y1
 |_=>none
def wqfx:RetSpec:=⟨[.ag [.any,.any]],[],[]⟩
def wqfy(k:Nat): Ctx:=⟨tyT,[(1006,⟨[(2,.sl .str),(3,.obj 13 [.sl kdT72]),(6,.obj 16 [.any,.any]),(8,.obj 18 [.any,.any,.any,.any,.sl .str,.sl kI]),(25,.sl .str),(26,.any),(27,.any)],[]⟩)],(.add 112 wq74 (wq4i k) (.add 113 wq8v (wq3g k) (.add 114 wq49 (wq3c k) .nil))),[],[],[(9,(.of [(1,1),(3,1),(0,1),(2,1),(4,1),(5,1),(6,0),(7,0)] .done))],@SH⟩
def wq7r(s0:(List (List UInt8)))(s1:(List dT72))(s2 s3 s4 s5:Int)(s6:(List UInt8))(s7:Bool)(s8:(List (List UInt8)))(s9:(List Int))(s10:(List (List UInt8)))(s11 s12:Int): St:=⟨mkT [(2,.v (.sl .str) s0),(3,.ptr 13 0),(6,.ptr 16 0),(8,.ptr 18 0),(25,.v (.sl .str) s10),(26,.v kI s11),(27,.v kI s12)],mkH [(13,.var 77 [.v kdT37 s1]),(16,.var 29 [.v kI s2,.v kI s3]),(18,.var 73 [.v kI s4,.v kI s5,.v .str s6,.v .bool s7,.v (.sl .str) s8,.v (.sl kI) s9])]⟩
def wqbk(k:Nat){R:Type}(I:Nat→St→Option R)(n:Nat)(s:St)(K:(Int→Int→Option R)): Option R:=loopK (wqfy k) k Tryz.f70 wqfx 1006 [1,1,1,0,1,0] I n s (wq9o K)
def wqh4(k:Nat){R:Type}(E1006:((List (List UInt8))→(List dT72)→Int→Int→Int→Int→(List UInt8)→Bool→(List (List UInt8))→(List Int)→(List (List UInt8))→Int→Int→Option R))(s0:(List (List UInt8)))(s1:(List dT72))(s2 s3 s4 s5:Int)(s6:(List UInt8))(s7:Bool)(s8:(List (List UInt8)))(s9:(List Int))(s10:(List (List UInt8)))(s11 s12:Int)(K:(Int→Int→Option R)): Option R:=cond (decide (s12<s11)) (cond (inb s12 (s10.length:Int)) (wq4p k s0 (s10.getD s12.toNat Kd.str.zero) (fun y17=>cond (!y17) (cond (inb s12 (s9.length:Int)) (wq2x k s1 (s9.getD s12.toNat kI.zero) 5 K) none) (E1006 s0 s1 s2 s3 s4 s5 s6 s7 s8 s9 s10 s11 (@Go.IntKind.wrap Go.IntKind.i64 (s12+1))))) none) (K 0 0)
theorem wqop(k:Nat){R:Type}(I:Nat→St→Option R)(s0:(List (List UInt8)))(s1:(List dT72))(s2 s3 s4 s5:Int)(s6:(List UInt8))(s7:Bool)(s8:(List (List UInt8)))(s9:(List Int))(s10:(List (List UInt8)))(s11 s12:Int)(K:(Int→Int→Option R)): bodyK (wqfy k) k Tryz.f70 wqfx [1,1,1,0,1,0,0] I (wq7r s0 s1 s2 s3 s4 s5 s6 s7 s8 s9 s10 s11 s12) (wq9o K)=wqh4 k (fun s0 s1 s2 s3 s4 s5 s6 s7 s8 s9 s10 s11 s12=>I 1006 (wq7r s0 s1 s2 s3 s4 s5 s6 s7 s8 s9 s10 s11 s12)) s0 s1 s2 s3 s4 s5 s6 s7 s8 s9 s10 s11 s12 K:=by kernel_rfl
def wqpi(k:Nat){R:Type}(E1006:((List (List UInt8))→(List dT72)→Int→Int→Int→Int→(List UInt8)→Bool→(List (List UInt8))→(List Int)→(List (List UInt8))→Int→Int→Option R))(x0:(List dT72))(x1:Int)(x2:(List (List UInt8)))(K:(Int→Int→Option R)): Option R:=wq3m k x0 x1 3 (fun y7 y8=>cond (y7 != 0) (K y7 y8) (cond (inb x1 (x0.length:Int)) (E1006 x2 x0 0 0 (x0.getD x1.toNat (Kd.zero (@Kd.pr kI (@Kd.pr kI (@Kd.pr Kd.str (@Kd.pr Kd.bool (@Kd.pr (@Kd.sl Kd.str) (@Kd.sl kI)))))))).1 ((x0.getD x1.toNat (Kd.zero (@Kd.pr kI (@Kd.pr kI (@Kd.pr Kd.str (@Kd.pr Kd.bool (@Kd.pr (@Kd.sl Kd.str) (@Kd.sl kI)))))))).2).1 (((x0.getD x1.toNat (Kd.zero (@Kd.pr kI (@Kd.pr kI (@Kd.pr Kd.str (@Kd.pr Kd.bool (@Kd.pr (@Kd.sl Kd.str) (@Kd.sl kI)))))))).2).2).1 ((((x0.getD x1.toNat (Kd.zero (@Kd.pr kI (@Kd.pr kI (@Kd.pr Kd.str (@Kd.pr Kd.bool (@Kd.pr (@Kd.sl Kd.str) (@Kd.sl kI)))))))).2).2).2).1 (((((x0.getD x1.toNat (Kd.zero (@Kd.pr kI (@Kd.pr kI (@Kd.pr Kd.str (@Kd.pr Kd.bool (@Kd.pr (@Kd.sl Kd.str) (@Kd.sl kI)))))))).2).2).2).2).1 (((((x0.getD x1.toNat (Kd.zero (@Kd.pr kI (@Kd.pr kI (@Kd.pr Kd.str (@Kd.pr Kd.bool (@Kd.pr (@Kd.sl Kd.str) (@Kd.sl kI)))))))).2).2).2).2).2 (((((x0.getD x1.toNat (Kd.zero (@Kd.pr kI (@Kd.pr kI (@Kd.pr Kd.str (@Kd.pr Kd.bool (@Kd.pr (@Kd.sl Kd.str) (@Kd.sl kI)))))))).2).2).2).2).1 (((((((x0.getD x1.toNat (Kd.zero (@Kd.pr kI (@Kd.pr kI (@Kd.pr Kd.str (@Kd.pr Kd.bool (@Kd.pr (@Kd.sl Kd.str) (@Kd.sl kI)))))))).2).2).2).2).1).length:Int) 0) none))
def wqbl(k:Nat){R:Type}: Nat→(List (List UInt8))→(List dT72)→Int→Int→Int→Int→(List UInt8)→Bool→(List (List UInt8))→(List Int)→(List (List UInt8))→Int→Int→(Int→Int→Option R)→Option R
 |0,_,_,_,_,_,_,_,_,_,_,_,_,_,_=>none
 |n+1,s0,s1,s2,s3,s4,s5,s6,s7,s8,s9,s10,s11,s12,K=>wqh4 k (fun s0 s1 s2 s3 s4 s5 s6 s7 s8 s9 s10 s11 s12=>wqbl k n s0 s1 s2 s3 s4 s5 s6 s7 s8 s9 s10 s11 s12 K) s0 s1 s2 s3 s4 s5 s6 s7 s8 s9 s10 s11 s12 K
theorem wqoq(k:Nat){R:Type}(I:Nat→St→Option R)(K:(Int→Int→Option R))(n:Nat): ∀(s0:(List (List UInt8))) (s1:(List dT72)) (s2 s3 s4 s5:Int) (s6:(List UInt8)) (s7:Bool) (s8:(List (List UInt8))) (s9:(List Int)) (s10:(List (List UInt8))) (s11 s12:Int),wqbk k I n (wq7r s0 s1 s2 s3 s4 s5 s6 s7 s8 s9 s10 s11 s12) K=wqbl k n s0 s1 s2 s3 s4 s5 s6 s7 s8 s9 s10 s11 s12 K:=by
 induction n with
 |zero=>intros;rfl
 |succ n ih =>
  intro s0 s1 s2 s3 s4 s5 s6 s7 s8 s9 s10 s11 s12
  refine(?_:_=_).trans ((wqop k (upI 1006 (fun s=>wqbk k I n s K) I) s0 s1 s2 s3 s4 s5 s6 s7 s8 s9 s10 s11 s12 K).trans ?_)
  ·rfl
  ·simp only[wq43,ih]<;>rfl
def wq1o(k:Nat){R:Type}(x0:(List dT72))(x1:Int)(x2:(List (List UInt8)))(K:(Int→Int→Option R)): Option R:=wqpi k (fun s0 s1 s2 s3 s4 s5 s6 s7 s8 s9 s10 s11 s12=>wqbl k k s0 s1 s2 s3 s4 s5 s6 s7 s8 s9 s10 s11 s12 K) x0 x1 x2 K
theorem wqvu(k:Nat){R:Type}(x0:(List dT72))(x1:Int)(x2:(List (List UInt8)))(K:(Int→Int→Option R)): fnW (wqfy k) k Tryz.f70 wqfx [.agg [.v kdT37 x0],.v kI x1,.v (.sl .str) x2] [] (wq9o K)=wq1o k x0 x1 x2 K:=by
 refine Eq.trans (b:=wqpi k (fun s0 s1 s2 s3 s4 s5 s6 s7 s8 s9 s10 s11 s12=>wqbk k (fun _ _=>none) k (wq7r s0 s1 s2 s3 s4 s5 s6 s7 s8 s9 s10 s11 s12) K) x0 x1 x2 K) (by kernel_rfl) ?_
 simp only[wqoq]<;>rfl
def wq5k(k:Nat){R:Type}: List PV→List (Nm×HObj)→(Out→Option R)→Option R
 |[.agg [.v (.sl (.pr (.int .i64) (.pr (.int .i64) (.pr .str (.pr .bool (.pr (.sl .str) (.sl (.int .i64)))))))) x0],.v (.int .i64) x1,.v (.sl .str) x2],[],K=>wq1o k x0 x1 x2 (fun y0 y1=>K (.ret [.agg [.v (.int .i64) y0,.v (.int .i64) y1]] []))
 |_,_,_=>none
theorem wqd1(k:Nat): DOK Tryz.prog 70 (wq5k k):=by
 intro ps hp R K r h
 have h:wq5k k ps hp K=some r:=h
 unfold wq5k at h
 split at h
 ·rw[←wqvu]at h
  exact fnW_ok ⟨tyT_ok,(wqd (wq90 k) (wqd (wq9l k) (wqd (wq5r k) CTab.nil_ok))),fun _ _=>rfl⟩ mixed (by kernel_rfl) (by kernel_rfl) h fun o ho=>by unfold wq9o at ho;split at ho<;>first|exact ho|cases ho
 ·cases h
end Go.Proofs.YtabkhphoacmcdaaGreatDoor.Pvm
end
noncomputable section
namespace Go.Proofs.YtabkhphoacmcdaaGreatDoor.Pvm
open Go Go.Proofs
def wq68(wq3:(R:Type)→(List dT72)→Int→(List (List UInt8))→(Int→Int→Option R)→Option R){R:Type}: List PV→List (Nm×HObj)→(Out→Option R)→Option R
 |[.agg [.v (.sl (.pr (.int .i64) (.pr (.int .i64) (.pr .str (.pr .bool (.pr (.sl .str) (.sl (.int .i64)))))))) x0],.v (.int .i64) x1,.v (.sl .str) x2],[],K=>wq3 R x0 x1 x2 (fun y0 y1=>K (.ret [.agg [.v (.int .i64) y0,.v (.int .i64) y1]] []))
 |_,_,_=>none
end Go.Proofs.YtabkhphoacmcdaaGreatDoor.Pvm
end
noncomputable section
namespace Go.Proofs.YtabkhphoacmcdaaGreatDoor.Pvm
open Go Go.Proofs
def wqm7(wqn:(R:Type)→(List dT72)→Int→Int→(Int→Int→Option R)→Option R){R:Type}: List PV→List (Nm×HObj)→(Out→Option R)→Option R
 |[.agg [.v (.sl (.pr (.int .i64) (.pr (.int .i64) (.pr .str (.pr .bool (.pr (.sl .str) (.sl (.int .i64)))))))) x0],.v (.int .i64) x1,.v (.int .i64) x2],[],K=>wqn R x0 x1 x2 (fun y0 y1=>K (.ret [.agg [.v (.int .i64) y0,.v (.int .i64) y1]] []))
 |_,_,_=>none
end Go.Proofs.YtabkhphoacmcdaaGreatDoor.Pvm
end
noncomputable section
namespace Go.Proofs.YtabkhphoacmcdaaGreatDoor.Pvm
open Go Go.Proofs
def wqy4:List LS:=[.any]
def wq158{R:Type}(K:(Int→Option R)): Out→Option R
 |.ret [.v (.int .i64) y0] []=>K y0
 |_=>none
def wq1mb:RetSpec:=⟨[.any],[],[]⟩
def wq1mc(k:Nat): Ctx:=⟨tyT,[],.nil,[],[],[],@SH⟩
def wq1on(k:Nat){R:Type}(x0:Int)(K:(Int→Option R)): Option R:=K (cond false (@ite (@Kd.T kI) ((4611686018427387904:Int)>(cond true (@ite (@Kd.T kI) ((0:Int)>x0) (@Int.decLt x0 (0:Int)) (0:Int) x0) (@ite (@Kd.T kI) ((0:Int)<x0) (@Int.decLt (0:Int) x0) (0:Int) x0))) (@Int.decLt (cond true (@ite (@Kd.T kI) ((0:Int)>x0) (@Int.decLt x0 (0:Int)) (0:Int) x0) (@ite (@Kd.T kI) ((0:Int)<x0) (@Int.decLt (0:Int) x0) (0:Int) x0)) (4611686018427387904:Int)) (4611686018427387904:Int) (cond true (@ite (@Kd.T kI) ((0:Int)>x0) (@Int.decLt x0 (0:Int)) (0:Int) x0) (@ite (@Kd.T kI) ((0:Int)<x0) (@Int.decLt (0:Int) x0) (0:Int) x0))) (@ite (@Kd.T kI) ((4611686018427387904:Int)<(cond true (@ite (@Kd.T kI) ((0:Int)>x0) (@Int.decLt x0 (0:Int)) (0:Int) x0) (@ite (@Kd.T kI) ((0:Int)<x0) (@Int.decLt (0:Int) x0) (0:Int) x0))) (@Int.decLt (4611686018427387904:Int) (cond true (@ite (@Kd.T kI) ((0:Int)>x0) (@Int.decLt x0 (0:Int)) (0:Int) x0) (@ite (@Kd.T kI) ((0:Int)<x0) (@Int.decLt (0:Int) x0) (0:Int) x0))) (4611686018427387904:Int) (cond true (@ite (@Kd.T kI) ((0:Int)>x0) (@Int.decLt x0 (0:Int)) (0:Int) x0) (@ite (@Kd.T kI) ((0:Int)<x0) (@Int.decLt (0:Int) x0) (0:Int) x0))))
def wqm8(k:Nat){R:Type}(x0:Int)(K:(Int→Option R)): Option R:=wq1on k x0 K
theorem wq1h5(k:Nat){R:Type}(x0:Int)(K:(Int→Option R)): fnW (wq1mc k) k Tryz.f256 wq1mb [.v kI x0] [] (wq158 K)=wqm8 k x0 K:=by
 kernel_rfl
def wqhn(k:Nat){R:Type}: List PV→List (Nm×HObj)→(Out→Option R)→Option R
 |[.v (.int .i64) x0],[],K=>wqm8 k x0 (fun y0=>K (.ret [.v (.int .i64) y0] []))
 |_,_,_=>none
theorem wq18s(k:Nat): DOK Tryz.prog 256 (wqhn k):=by
 intro ps hp R K r h
 have h:wqhn k ps hp K=some r:=h
 unfold wqhn at h
 split at h
 ·rw[←wq1h5]at h
  exact fnW_ok ⟨tyT_ok,CTab.nil_ok,fun _ _=>rfl⟩ mixed (by kernel_rfl) (by kernel_rfl) h fun o ho=>by unfold wq158 at ho;split at ho<;>first|exact ho|cases ho
 ·cases h
end Go.Proofs.YtabkhphoacmcdaaGreatDoor.Pvm
end
noncomputable section
namespace Go.Proofs.YtabkhphoacmcdaaGreatDoor.Pvm
open Go Go.Proofs
def wq1md:List LS:=[.any,.any]
def wq18t{R:Type}(K:(Int→Option R)): Out→Option R
 |.ret [.v (.int .i64) y0] []=>K y0
 |_=>none
def wq1oo:RetSpec:=⟨[.any],[],[]⟩
def wq1op(k:Nat): Ctx:=⟨tyT,[],(.add 256 wqy4 (wqhn k) .nil),[],[],[],@SH⟩
def wq1pt(k:Nat){R:Type}(x0 x1:Int)(K:(Int→Option R)): Option R:=wqm8 k x0 (fun y5=>wqm8 k x1 (fun y6=>cond (decide (y5>(@Go.IntKind.wrap Go.IntKind.i64 ((4611686018427387904:Int)-y6)))) (K 4611686018427387904) (K (@Go.IntKind.wrap Go.IntKind.i64 (y5+y6)))))
def wq1el(k:Nat){R:Type}(x0 x1:Int)(K:(Int→Option R)): Option R:=wq1pt k x0 x1 K
theorem wq1j9(k:Nat){R:Type}(x0 x1:Int)(K:(Int→Option R)): fnW (wq1op k) k Tryz.f264 wq1oo [.v kI x0,.v kI x1] [] (wq18t K)=wq1el k x0 x1 K:=by
 kernel_rfl
def wqv4(k:Nat){R:Type}: List PV→List (Nm×HObj)→(Out→Option R)→Option R
 |[.v (.int .i64) x0,.v (.int .i64) x1],[],K=>wq1el k x0 x1 (fun y0=>K (.ret [.v (.int .i64) y0] []))
 |_,_,_=>none
theorem wq1pu(k:Nat): DOK Tryz.prog 264 (wqv4 k):=by
 intro ps hp R K r h
 have h:wqv4 k ps hp K=some r:=h
 unfold wqv4 at h
 split at h
 ·rw[←wq1j9]at h
  exact fnW_ok ⟨tyT_ok,(wqd (wq18s k) CTab.nil_ok),fun _ _=>rfl⟩ mixed (by kernel_rfl) (by kernel_rfl) h fun o ho=>by unfold wq18t at ho;split at ho<;>first|exact ho|cases ho
 ·cases h
end Go.Proofs.YtabkhphoacmcdaaGreatDoor.Pvm
end
noncomputable section
namespace Go.Proofs.YtabkhphoacmcdaaGreatDoor.Pvm
open Go Go.Proofs
def wqfz:List LS:=[.any]
def wqic{R:Type}(K:((List UInt8)→Option R)): Out→Option R
 |.ret [.v .str y0] []=>K y0
 |_=>none
def wqtj:RetSpec:=⟨[.any],[],[]⟩
def wqtk(k:Nat): Ctx:=⟨tyT,[(1004,⟨[(0,.any),(3,.sl (.int .u8))],[]⟩)],(.add 256 wqy4 (wqhn k) .nil),[],[],[],@SH⟩
def wqd2(s0:Int)(s1:(List Int)): St:=⟨mkT [(0,.v kI s0),(3,.v (.sl (.int .u8)) s1)],mkH []⟩
def wqjm(k:Nat){R:Type}(I:Nat→St→Option R)(n:Nat)(s:St)(K:((List UInt8)→Option R)): Option R:=loopK (wqtk k) k Tryz.f233 wqtj 1004 [1,1,1,0,1,0] I n s (wqic K)
def wqrx(k:Nat){R:Type}(E1004:(Int→(List Int)→Option R))(s0:Int)(s1:(List Int))(K:((List UInt8)→Option R)): Option R:=cond (decide (s0>0)) (cond (fits (@List.length (@Kd.T (@Kd.int Go.IntKind.u8)) [(@Go.IntKind.wrap Go.IntKind.u8 (@Go.IntKind.wrap Go.IntKind.i64 ((48:Int)+(Int.tmod s0 10))))]) s1.length 1) (E1004 (@Go.IntKind.wrap Go.IntKind.i64 (Int.tdiv s0 10)) ([(@Go.IntKind.wrap Go.IntKind.u8 (@Go.IntKind.wrap Go.IntKind.i64 ((48:Int)+(Int.tmod s0 10))))]++s1)) none) (K (wq73 s1))
theorem wqy5(k:Nat){R:Type}(I:Nat→St→Option R)(s0:Int)(s1:(List Int))(K:((List UInt8)→Option R)): bodyK (wqtk k) k Tryz.f233 wqtj [1,1,1,0,1,0,0] I (wqd2 s0 s1) (wqic K)=wqrx k (fun s0 s1=>I 1004 (wqd2 s0 s1)) s0 s1 K:=by kernel_rfl
def wq18u(k:Nat){R:Type}(E1004:(Int→(List Int)→Option R))(x0:Int)(K:((List UInt8)→Option R)): Option R:=wqm8 k x0 (fun y5=>E1004 (@Go.IntKind.wrap Go.IntKind.i64 (Int.tdiv y5 10)) [(@Go.IntKind.wrap Go.IntKind.u8 (@Go.IntKind.wrap Go.IntKind.i64 ((48:Int)+(Int.tmod y5 10))))])
def wqjn(k:Nat){R:Type}: Nat→Int→(List Int)→((List UInt8)→Option R)→Option R
 |0,_,_,_=>none
 |n+1,s0,s1,K=>wqrx k (fun s0 s1=>wqjn k n s0 s1 K) s0 s1 K
theorem wqy6(k:Nat){R:Type}(I:Nat→St→Option R)(K:((List UInt8)→Option R))(n:Nat): ∀(s0:Int) (s1:(List Int)),wqjm k I n (wqd2 s0 s1) K=wqjn k n s0 s1 K:=by
 induction n with
 |zero=>intros;rfl
 |succ n ih =>
  intro s0 s1
  refine(?_:_=_).trans ((wqy5 k (upI 1004 (fun s=>wqjm k I n s K) I) s0 s1 K).trans ?_)
  ·rfl
  ·simp only[wq43,ih]<;>rfl
def wq5l(k:Nat){R:Type}(x0:Int)(K:((List UInt8)→Option R)): Option R:=wq18u k (fun s0 s1=>wqjn k k s0 s1 K) x0 K
theorem wq1b8(k:Nat){R:Type}(x0:Int)(K:((List UInt8)→Option R)): fnW (wqtk k) k Tryz.f233 wqtj [.v kI x0] [] (wqic K)=wq5l k x0 K:=by
 refine Eq.trans (b:=wq18u k (fun s0 s1=>wqjm k (fun _ _=>none) k (wqd2 s0 s1) K) x0 K) (by kernel_rfl) ?_
 simp only[wqy6]<;>rfl
def wqaq(k:Nat){R:Type}: List PV→List (Nm×HObj)→(Out→Option R)→Option R
 |[.v (.int .i64) x0],[],K=>wq5l k x0 (fun y0=>K (.ret [.v .str y0] []))
 |_,_,_=>none
theorem wqqn(k:Nat): DOK Tryz.prog 233 (wqaq k):=by
 intro ps hp R K r h
 have h:wqaq k ps hp K=some r:=h
 unfold wqaq at h
 split at h
 ·rw[←wq1b8]at h
  exact fnW_ok ⟨tyT_ok,(wqd (wq18s k) CTab.nil_ok),fun _ _=>rfl⟩ mixed (by kernel_rfl) (by kernel_rfl) h fun o ho=>by unfold wqic at ho;split at ho<;>first|exact ho|cases ho
 ·cases h
end Go.Proofs.YtabkhphoacmcdaaGreatDoor.Pvm
end
noncomputable section
namespace Go.Proofs.YtabkhphoacmcdaaGreatDoor.Pvm
open Go Go.Proofs
def wq1me:List LS:=[.any,.any]
def wq18v{R:Type}(K:(Int→Option R)): Out→Option R
 |.ret [.v (.int .i64) y0] []=>K y0
 |_=>none
def wq1oq:RetSpec:=⟨[.any],[],[]⟩
def wq1or(k:Nat): Ctx:=⟨tyT,[],(.add 256 wqy4 (wqhn k) .nil),[],[],[],@SH⟩
def wq1pv(k:Nat){R:Type}(x0 x1:Int)(K:(Int→Option R)): Option R:=wqm8 k x0 (fun y5=>wqm8 k x1 (fun y6=>cond ((!((decide (y6>0)) == true)) || (y6 != 0)) (cond (cond (decide (y6>0)) (decide (y5>(@Go.IntKind.wrap Go.IntKind.i64 (Int.tdiv 4611686018427387904 y6)))) false) (K 4611686018427387904) (K (@Go.IntKind.wrap Go.IntKind.i64 (y5*y6)))) none))
def wq1em(k:Nat){R:Type}(x0 x1:Int)(K:(Int→Option R)): Option R:=wq1pv k x0 x1 K
theorem wq1ja(k:Nat){R:Type}(x0 x1:Int)(K:(Int→Option R)): fnW (wq1or k) k Tryz.f265 wq1oq [.v kI x0,.v kI x1] [] (wq18v K)=wq1em k x0 x1 K:=by
 kernel_rfl
def wqv5(k:Nat){R:Type}: List PV→List (Nm×HObj)→(Out→Option R)→Option R
 |[.v (.int .i64) x0,.v (.int .i64) x1],[],K=>wq1em k x0 x1 (fun y0=>K (.ret [.v (.int .i64) y0] []))
 |_,_,_=>none
theorem wq1pw(k:Nat): DOK Tryz.prog 265 (wqv5 k):=by
 intro ps hp R K r h
 have h:wqv5 k ps hp K=some r:=h
 unfold wqv5 at h
 split at h
 ·rw[←wq1ja]at h
  exact fnW_ok ⟨tyT_ok,(wqd (wq18s k) CTab.nil_ok),fun _ _=>rfl⟩ mixed (by kernel_rfl) (by kernel_rfl) h fun o ho=>by unfold wq18v at ho;split at ho<;>first|exact ho|cases ho
 ·cases h
end Go.Proofs.YtabkhphoacmcdaaGreatDoor.Pvm
end
noncomputable section
namespace Go.Proofs.YtabkhphoacmcdaaGreatDoor.Pvm
open Go Go.Proofs
def wq1h6:List LS:=[.any]
def wqkv{R:Type}(K:(Int→Bool→Option R)): Out→Option R
 |.ret [.v (.int .i64) y0,.v .bool y1] []=>K y0 y1
 |_=>none
def wqy7:RetSpec:=⟨[.any,.any],[],[]⟩
def wqy8(k:Nat): Ctx:=⟨tyT,[(1003,⟨[(0,.any),(4,.any),(8,.mpo 78 .it kI)],[]⟩)],(.add 233 wqfz (wqaq k) (.add 264 wq1md (wqv4 k) (.add 265 wq1me (wqv5 k) .nil))),[],[],[],@SH⟩
def wqeo(s0:(List UInt8))(s1:Int)(s2:(List UInt8))(s3:Int): St:=⟨mkT [(0,.v .str s0),(4,.v kI s1),(8,.mpp 78)],mkH [(78,.mp .it kI [(s2,s3)])]⟩
def wqm9(k:Nat){R:Type}(I:Nat→St→Option R)(n:Nat)(s:St)(K:(Int→Bool→Option R)): Option R:=loopK (wqy8 k) k Tryz.f260 wqy7 1003 [1,1,0,1,0] I n s (wqkv K)
def wqtl(k:Nat){R:Type}(E1003:((List UInt8)→Int→(List UInt8)→Int→Option R))(s0:(List UInt8))(s1:Int)(s2:(List UInt8))(s3:Int)(K:(Int→Bool→Option R)): Option R:=cond (decide (s3<(s2.length:Int))) (cond (decide (s3<(s2.length:Int))) (cond (cond (decide ((nxtC s2 s3)<48)) true (decide ((nxtC s2 s3)>57))) (K 0 false) (wq1em k s1 10 (fun y8=>wq1el k y8 (@Go.IntKind.wrap Go.IntKind.i64 (@Go.IntKind.wrap Go.IntKind.i32 ((nxtC s2 s3)-48))) (fun y9=>E1003 s0 y9 s2 (nxtP s2 s3))))) none) (wq5l k s1 (fun y8=>cond (!(y8 == s0)) (K 0 false) (K s1 true)))
theorem wq10m(k:Nat){R:Type}(I:Nat→St→Option R)(s0:(List UInt8))(s1:Int)(s2:(List UInt8))(s3:Int)(K:(Int→Bool→Option R)): bodyK (wqy8 k) k Tryz.f260 wqy7 [1,1,0,1,0,0] I (wqeo s0 s1 s2 s3) (wqkv K)=wqtl k (fun s0 s1 s2 s3=>I 1003 (wqeo s0 s1 s2 s3)) s0 s1 s2 s3 K:=by kernel_rfl
def wq1de(k:Nat){R:Type}(E1003:((List UInt8)→Int→(List UInt8)→Int→Option R))(x0:(List UInt8))(K:(Int→Bool→Option R)): Option R:=E1003 x0 0 x0 0
def wqma(k:Nat){R:Type}: Nat→(List UInt8)→Int→(List UInt8)→Int→(Int→Bool→Option R)→Option R
 |0,_,_,_,_,_=>none
 |n+1,s0,s1,s2,s3,K=>wqtl k (fun s0 s1 s2 s3=>wqma k n s0 s1 s2 s3 K) s0 s1 s2 s3 K
theorem wq10n(k:Nat){R:Type}(I:Nat→St→Option R)(K:(Int→Bool→Option R))(n:Nat): ∀(s0:(List UInt8)) (s1:Int) (s2:(List UInt8)) (s3:Int),wqm9 k I n (wqeo s0 s1 s2 s3) K=wqma k n s0 s1 s2 s3 K:=by
 induction n with
 |zero=>intros;rfl
 |succ n ih =>
  intro s0 s1 s2 s3
  refine(?_:_=_).trans ((wq10m k (upI 1003 (fun s=>wqm9 k I n s K) I) s0 s1 s2 s3 K).trans ?_)
  ·rfl
  ·simp only[wq43,ih]<;>rfl
def wq13i(k:Nat){R:Type}(x0:(List UInt8))(K:(Int→Bool→Option R)): Option R:=wq1de k (fun s0 s1 s2 s3=>wqma k k s0 s1 s2 s3 K) x0 K
theorem wq1en(k:Nat){R:Type}(x0:(List UInt8))(K:(Int→Bool→Option R)): fnW (wqy8 k) k Tryz.f260 wqy7 [.v .str x0] [] (wqkv K)=wq13i k x0 K:=by
 refine Eq.trans (b:=wq1de k (fun s0 s1 s2 s3=>wqm9 k (fun _ _=>none) k (wqeo s0 s1 s2 s3) K) x0 K) (by kernel_rfl) ?_
 simp only[wq10n]<;>rfl
def wqnw(k:Nat){R:Type}: List PV→List (Nm×HObj)→(Out→Option R)→Option R
 |[.v .str x0],[],K=>wq13i k x0 (fun y0 y1=>K (.ret [.v (.int .i64) y0,.v .bool y1] []))
 |_,_,_=>none
theorem wq1mf(k:Nat): DOK Tryz.prog 260 (wqnw k):=by
 intro ps hp R K r h
 have h:wqnw k ps hp K=some r:=h
 unfold wqnw at h
 split at h
 ·rw[←wq1en]at h
  exact fnW_ok ⟨tyT_ok,(wqd (wqqn k) (wqd (wq1pu k) (wqd (wq1pw k) CTab.nil_ok))),fun _ _=>rfl⟩ mixed (by kernel_rfl) (by kernel_rfl) h fun o ho=>by unfold wqkv at ho;split at ho<;>first|exact ho|cases ho
 ·cases h
end Go.Proofs.YtabkhphoacmcdaaGreatDoor.Pvm
end
noncomputable section
namespace Go.Proofs.YtabkhphoacmcdaaGreatDoor.Pvm
open Go Go.Proofs
def wqvv:List LS:=[.ag [.sl kdT72],.any,.any,.any]
def wqiy{R:Type}(K:(Int→Int→Int→Option R)): Out→Option R
 |.ret [.v (.int .i64) y0,.agg [.v (.int .i64) y1,.v (.int .i64) y2]] []=>K y0 y1 y2
 |_=>none
def wqy9:RetSpec:=⟨[.any,.ag [.any,.any]],[],[]⟩
def wqya(k:Nat): Ctx:=⟨tyT,[],(.add 114 wq49 (wq3c k) (.add 171 wqbw (wq75 k) (.add 260 wq1h6 (wqnw k) .nil))),[],[],[(3,(.of [(1,1),(0,1),(2,0)] .done))],@SH⟩
def wq10o(k:Nat){R:Type}(x0:(List dT72))(x1 x2 x3:Int)(K:(Int→Int→Int→Option R)): Option R:=wq69 k x0 x1 13 (fun y7 y8 y9=>cond (y8 != 0) (K 0 y8 y9) (wq13i k y7 (fun y10 y11=>cond (cond (cond (!y11) true (decide (y10<x2))) true (decide (y10>x3))) (wq2x k x0 x1 13 (fun y12 y13=>K 0 y12 y13)) (K y10 0 0))))
def wq56(k:Nat){R:Type}(x0:(List dT72))(x1 x2 x3:Int)(K:(Int→Int→Int→Option R)): Option R:=wq10o k x0 x1 x2 x3 K
theorem wqtm(k:Nat){R:Type}(x0:(List dT72))(x1 x2 x3:Int)(K:(Int→Int→Int→Option R)): fnW (wqya k) k Tryz.f240 wqy9 [.agg [.v kdT37 x0],.v kI x1,.v kI x2,.v kI x3] [] (wqiy K)=wq56 k x0 x1 x2 x3 K:=by
 kernel_rfl
def wq9p(k:Nat){R:Type}: List PV→List (Nm×HObj)→(Out→Option R)→Option R
 |[.agg [.v (.sl (.pr (.int .i64) (.pr (.int .i64) (.pr .str (.pr .bool (.pr (.sl .str) (.sl (.int .i64)))))))) x0],.v (.int .i64) x1,.v (.int .i64) x2,.v (.int .i64) x3],[],K=>wq56 k x0 x1 x2 x3 (fun y0 y1 y2=>K (.ret [.v (.int .i64) y0,.agg [.v (.int .i64) y1,.v (.int .i64) y2]] []))
 |_,_,_=>none
theorem wq10p(k:Nat): DOK Tryz.prog 240 (wq9p k):=by
 intro ps hp R K r h
 have h:wq9p k ps hp K=some r:=h
 unfold wq9p at h
 split at h
 ·rw[←wqtm]at h
  exact fnW_ok ⟨tyT_ok,(wqd (wq5r k) (wqd (wqji k) (wqd (wq1mf k) CTab.nil_ok))),fun _ _=>rfl⟩ mixed (by kernel_rfl) (by kernel_rfl) h fun o ho=>by unfold wqiy at ho;split at ho<;>first|exact ho|cases ho
 ·cases h
end Go.Proofs.YtabkhphoacmcdaaGreatDoor.Pvm
end
noncomputable section
namespace Go.Proofs.YtabkhphoacmcdaaGreatDoor.Pvm
open Go Go.Proofs
def wqiz(wqg:(R:Type)→(List dT72)→Int→Int→Int→(Int→Int→Int→Option R)→Option R){R:Type}: List PV→List (Nm×HObj)→(Out→Option R)→Option R
 |[.agg [.v (.sl (.pr (.int .i64) (.pr (.int .i64) (.pr .str (.pr .bool (.pr (.sl .str) (.sl (.int .i64)))))))) x0],.v (.int .i64) x1,.v (.int .i64) x2,.v (.int .i64) x3],[],K=>wqg R x0 x1 x2 x3 (fun y0 y1 y2=>K (.ret [.v (.int .i64) y0,.agg [.v (.int .i64) y1,.v (.int .i64) y2]] []))
 |_,_,_=>none
end Go.Proofs.YtabkhphoacmcdaaGreatDoor.Pvm
end
noncomputable section
namespace Go.Proofs.YtabkhphoacmcdaaGreatDoor.Pvm
open Go Go.Proofs
def wq1eo:List LS:=[]
def wqwp{R:Type}(K:((List (List UInt8))→Option R)): Out→Option R
 |.ret [.v (.sl .str) y0] []=>K y0
 |_=>none
def wq1h7:RetSpec:=⟨[.sl .str],[],[]⟩
def wq1h8(k:Nat): Ctx:=⟨tyT,[],.nil,[],[],[],@SH⟩
def wq1jb(k:Nat){R:Type}(K:((List (List UInt8))→Option R)): Option R:=K [[],[115,101,99,111,110,100],[109,105,110,117,116,101],[104,111,117,114],[100,97,121]]
def wqyb(k:Nat){R:Type}(K:((List (List UInt8))→Option R)): Option R:=wq1jb k K
theorem wq1b9(k:Nat){R:Type}(K:((List (List UInt8))→Option R)): fnW (wq1h8 k) k Tryz.f259 wq1h7 [] [] (wqwp K)=wqyb k K:=by
 kernel_rfl
def wqkw(k:Nat){R:Type}: List PV→List (Nm×HObj)→(Out→Option R)→Option R
 |[],[],K=>wqyb k (fun y0=>K (.ret [.v (.sl .str) y0] []))
 |_,_,_=>none
theorem wq1jc(k:Nat): DOK Tryz.prog 259 (wqkw k):=by
 intro ps hp R K r h
 have h:wqkw k ps hp K=some r:=h
 unfold wqkw at h
 split at h
 ·rw[←wq1b9]at h
  exact fnW_ok ⟨tyT_ok,CTab.nil_ok,fun _ _=>rfl⟩ mixed (by kernel_rfl) (by kernel_rfl) h fun o ho=>by unfold wqwp at ho;split at ho<;>first|exact ho|cases ho
 ·cases h
end Go.Proofs.YtabkhphoacmcdaaGreatDoor.Pvm
end
noncomputable section
namespace Go.Proofs.YtabkhphoacmcdaaGreatDoor.Pvm
open Go Go.Proofs
def wq1mg:List LS:=[.any]
def wq18w{R:Type}(K:(Int→Option R)): Out→Option R
 |.ret [.v (.int .i64) y0] []=>K y0
 |_=>none
def wq1os:RetSpec:=⟨[.any],[],[]⟩
def wq1ot(k:Nat): Ctx:=⟨tyT,[],(.add 166 wq6k (wq39 k) (.add 259 wq1eo (wqkw k) .nil)),[],[],[],@SH⟩
def wq1px(k:Nat){R:Type}(x0:(List UInt8))(K:(Int→Option R)): Option R:=wqyb k (fun y4=>wq4e k y4 x0 (fun y5=>K (cond true (@ite (@Kd.T kI) ((0:Int)>y5) (@Int.decLt y5 (0:Int)) (0:Int) y5) (@ite (@Kd.T kI) ((0:Int)<y5) (@Int.decLt (0:Int) y5) (0:Int) y5))))
def wqnx(k:Nat){R:Type}(x0:(List UInt8))(K:(Int→Option R)): Option R:=wq1px k x0 K
theorem wq1jd(k:Nat){R:Type}(x0:(List UInt8))(K:(Int→Option R)): fnW (wq1ot k) k Tryz.f239 wq1os [.v .str x0] [] (wq18w K)=wqnx k x0 K:=by
 kernel_rfl
def wqv6(k:Nat){R:Type}: List PV→List (Nm×HObj)→(Out→Option R)→Option R
 |[.v .str x0],[],K=>wqnx k x0 (fun y0=>K (.ret [.v (.int .i64) y0] []))
 |_,_,_=>none
theorem wq1py(k:Nat): DOK Tryz.prog 239 (wqv6 k):=by
 intro ps hp R K r h
 have h:wqv6 k ps hp K=some r:=h
 unfold wqv6 at h
 split at h
 ·rw[←wq1jd]at h
  exact fnW_ok ⟨tyT_ok,(wqd (wq7i k) (wqd (wq1jc k) CTab.nil_ok)),fun _ _=>rfl⟩ mixed (by kernel_rfl) (by kernel_rfl) h fun o ho=>by unfold wq18w at ho;split at ho<;>first|exact ho|cases ho
 ·cases h
end Go.Proofs.YtabkhphoacmcdaaGreatDoor.Pvm
end
noncomputable section
namespace Go.Proofs.YtabkhphoacmcdaaGreatDoor.Pvm
open Go Go.Proofs
def wq18x(wq46:(R:Type)→(List UInt8)→(Int→Option R)→Option R){R:Type}: List PV→List (Nm×HObj)→(Out→Option R)→Option R
 |[.v .str x0],[],K=>wq46 R x0 (fun y0=>K (.ret [.v (.int .i64) y0] []))
 |_,_,_=>none
end Go.Proofs.YtabkhphoacmcdaaGreatDoor.Pvm
end
noncomputable section
namespace Go.Proofs.YtabkhphoacmcdaaGreatDoor.Pvm
open Go Go.Proofs
abbrev wq1b:Type 1:=(R:Type)→Int→Int→(Unit→Option R)→(Int→Int→Option R)→Option R
abbrev wqy:Type 1:=(R:Type)→(List dT72)→Int→(List (List UInt8))→(Int→Int→Option R)→Option R
abbrev wqp:Type 1:=(R:Type)→dT37→Int→(List UInt8)→Nat→(Nat→Option R)→(Int→Int→Option R)→Option R
abbrev wqs:Type 1:=(R:Type)→dT37→Int→(List UInt8)→(Int→Option R)→(Int→Int→Option R)→Option R
abbrev wqq:Type 1:=(R:Type)→dT37→Int→Int→(Int→Int→Option R)→Option R
abbrev wqz:Type 1:=(R:Type)→(List dT72)→Int→Int→(Int→Int→Option R)→Option R
abbrev wq10:Type 1:=(R:Type)→(List dT72)→Int→(List UInt8)→(Int→Bool→Option R)→Option R
abbrev wqt:Type 1:=(R:Type)→dT37→Int→((List UInt8)→Option R)→(Int→Int→Option R)→Option R
abbrev wqu:Type 1:=(R:Type)→dT37→Int→(List UInt8)→(Bool→Option R)→(Int→Int→Option R)→Option R
abbrev wqw:Type 1:=(R:Type)→(List dT72)→Int→Int→Int→(Int→Int→Int→Option R)→Option R
abbrev wq6p(R:Type): Type:=((List dT72)→(List ((List UInt8)×(List Int)))→(List dT56)→Nat→Int→(List UInt8)→Int→Int→Nat→Bool→Bool→(List (List UInt8))→Int→Int→Option R)
abbrev wq30(R:Type): Type:=((List dT72)→(List ((List UInt8)×(List Int)))→(List dT56)→Nat→(List UInt8)→Int→Int→Nat→Bool→Bool→Option R)
abbrev wq31(R:Type): Type:=((List dT72)→(List ((List UInt8)×(List Int)))→(List dT56)→Nat→Int→Int→Option R)
def wqtn:List LS:=[.obj 1 [.sl kdT72,.own 21 64 (.pr .str (.sl kI)),.own 51 57 kdT56,.any],.any]
def wq6h{R:Type}(K:wq30 R)(E:wq31 R): Out→Option R
 |.ret [.agg [.v .str y4,.v (.int .i64) y5,.v (.int .i64) y6,.v .flt y7,.v .bool y8,.v .bool y9]] [(21,.row 64 (.pr .str (.sl (.int .i64))) y1),(51,.row 57 (.pr .str (.pr .str (.pr .bool (.pr (.int .i64) (.pr (.int .i64) (.pr .bool (.pr (.pr .str (.pr (.int .i64) (.pr (.int .i64) (.pr .flt (.pr .bool .bool))))) (.sl (.int .i64))))))))) y2),(1,.var 79 [.v (.sl (.pr (.int .i64) (.pr (.int .i64) (.pr .str (.pr .bool (.pr (.sl .str) (.sl (.int .i64)))))))) y0,.row 21,.row 51,.v .flt y3])]=>K y0 y1 y2 y3 y4 y5 y6 y7 y8 y9
 |.pan (.ifc 29 (.agg [.v (.int .i64) z4,.v (.int .i64) z5])) [(21,.row 64 (.pr .str (.sl (.int .i64))) z1),(51,.row 57 (.pr .str (.pr .str (.pr .bool (.pr (.int .i64) (.pr (.int .i64) (.pr .bool (.pr (.pr .str (.pr (.int .i64) (.pr (.int .i64) (.pr .flt (.pr .bool .bool))))) (.sl (.int .i64))))))))) z2),(1,.var 79 [.v (.sl (.pr (.int .i64) (.pr (.int .i64) (.pr .str (.pr .bool (.pr (.sl .str) (.sl (.int .i64)))))))) z0,.row 21,.row 51,.v .flt z3])]=>E z0 z1 z2 z3 z4 z5
 |_=>none
def wq9q:RetSpec:=⟨[.ag [.any,.any,.any,.any,.any,.any]],[(1,.obj 1 [.sl (.pr (.int .i64) (.pr (.int .i64) (.pr .str (.pr .bool (.pr (.sl .str) (.sl (.int .i64))))))),.own 21 64 (.pr .str (.sl (.int .i64))),.own 51 57 (.pr .str (.pr .str (.pr .bool (.pr (.int .i64) (.pr (.int .i64) (.pr .bool (.pr (.pr .str (.pr (.int .i64) (.pr (.int .i64) (.pr .flt (.pr .bool .bool))))) (.sl (.int .i64))))))))),.any])],[(1,.obj 1 [.sl (.pr (.int .i64) (.pr (.int .i64) (.pr .str (.pr .bool (.pr (.sl .str) (.sl (.int .i64))))))),.own 21 64 (.pr .str (.sl (.int .i64))),.own 51 57 (.pr .str (.pr .str (.pr .bool (.pr (.int .i64) (.pr (.int .i64) (.pr .bool (.pr (.pr .str (.pr (.int .i64) (.pr (.int .i64) (.pr .flt (.pr .bool .bool))))) (.sl (.int .i64))))))))),.any])]⟩
def wq9r(k:Nat)(wq5:wq1b)(wq3:wqy)(wq2:wqp)(wq1:wqs)(wq0:wqq)(wqn:wqz)(wq7:wq10)(wq6:wqt)(wq4:wqu)(wq46:(R:Type)→(List UInt8)→(Int→Option R)→Option R)(wqg:wqw): Ctx:=⟨tyT,[(1005,⟨[(0,.obj 1 [.sl kdT72,.own 21 64 (.pr .str (.sl kI)),.own 51 57 kdT56,.any]),(1,.any),(4,.obj 14 [.any,.any,.any,.any,.any,.any]),(28,.sl .str),(29,.any),(30,.any)],[(1,.obj 1 [.sl kdT72,.own 21 64 (.pr .str (.sl kI)),.own 51 57 kdT56,.any])]⟩)],(.add 69 wq5c (wq8z wq5) (.add 70 wq8e (wq68 wq3) (.add 72 wqh3 (wq7q wq2) (.add 73 wq6y (wq5a wq1) (.add 75 wq59 (wq4v wq0) (.add 112 wq74 (wqm7 wqn) (.add 123 wq76 (wqap wq7) (.add 126 wq95 (wq8q wq6) (.add 207 wqit (wq8p wq4) (.add 239 wq1mg (wq18x wq46) (.add 240 wqvv (wqiz wqg) .nil))))))))))),[],[1],[(16,(.of [(0,1),(1,1),(2,1),(4,1),(5,1),(3,2)] (.alt 6 (.alt 7 (.of [(8,1),(9,1),(10,1),(11,0),(12,1),(13,0)] .done) (.op 11 0 (.of [(7,0),(8,1),(9,1),(10,1),(12,1),(13,0)] .done))) (.op 11 0 (.of [(6,0),(7,0),(8,1),(9,1),(10,1),(12,1),(13,0)] .done)))))],@SH⟩
def wq3t(s0:(List dT72))(s1:(List ((List UInt8)×(List Int))))(s2:(List dT56))(s3:Nat)(s4:Int)(s5:(List UInt8))(s6 s7:Int)(s8:Nat)(s9 s10:Bool)(s11:(List (List UInt8)))(s12 s13:Int): St:=⟨mkT [(0,.ptr 1 0),(1,.v kI s4),(4,.ptr 14 0),(28,.v (.sl .str) s11),(29,.v kI s12),(30,.v kI s13)],mkH [(21,.row 64 (.pr .str (.sl kI)) s1),(51,.row 57 kdT56 s2),(1,.var 79 [.v kdT37 s0,.row 21,.row 51,.v .flt s3]),(14,.var 55 [.v .str s5,.v kI s6,.v kI s7,.v .flt s8,.v .bool s9,.v .bool s10])]⟩
def wq4n(k:Nat)(wq5:wq1b)(wq3:wqy)(wq2:wqp)(wq1:wqs)(wq0:wqq)(wqn:wqz)(wq7:wq10)(wq6:wqt)(wq4:wqu)(wq46:(R:Type)→(List UInt8)→(Int→Option R)→Option R)(wqg:wqw){R:Type}(I:Nat→St→Option R)(n:Nat)(s:St)(K:wq30 R)(E:wq31 R): Option R:=loopK (wq9r k wq5 wq3 wq2 wq1 wq0 wqn wq7 wq6 wq4 wq46 wqg) k Tryz.f206 wq9q 1005 [1,1,0,1,1,0,1,0] I n s (wq6h K E)
def wqfe(k:Nat)(wq5:wq1b)(wq3:wqy)(wq2:wqp)(wq1:wqs)(wq0:wqq)(wqn:wqz)(wq7:wq10)(wq6:wqt)(wq4:wqu)(wq46:(R:Type)→(List UInt8)→(Int→Option R)→Option R)(wqg:wqw){R:Type}(E1005:wq6p R)(s0:(List dT72))(s1:(List ((List UInt8)×(List Int))))(s2:(List dT56))(s3:Nat)(s4:Int)(s5:(List UInt8))(s6 s7:Int)(s8:Nat)(s9 s10:Bool)(s11:(List (List UInt8)))(s12 s13:Int)(K:wq30 R)(E:wq31 R): Option R:=cond (decide (s13<s12)) (cond (inb s13 (s11.length:Int)) (wq7 R s0 s4 (s11.getD s13.toNat Kd.str.zero) (fun y19 y20=>cond y20 (wq0 R s0 s4 17 (fun y21 y22=>E s0 s1 s2 s3 y21 y22)) (E1005 s0 s1 s2 s3 s4 s5 s6 s7 s8 s9 s10 s11 s12 (@Go.IntKind.wrap Go.IntKind.i64 (s13+1))))) none) (wq7 R s0 s4 [110,97,109,101] (fun y19 y20=>cond y20 (wq6 R s0 y19 (fun y21=>K s0 s1 s2 s3 y21 s6 s7 s8 s9 s10) (fun y21 y22=>E s0 s1 s2 s3 y21 y22)) (K s0 s1 s2 s3 s5 s6 s7 s8 s9 s10)))
theorem wqmb(k:Nat)(wq5:wq1b)(wq3:wqy)(wq2:wqp)(wq1:wqs)(wq0:wqq)(wqn:wqz)(wq7:wq10)(wq6:wqt)(wq4:wqu)(wq46:(R:Type)→(List UInt8)→(Int→Option R)→Option R)(wqg:wqw){R:Type}(I:Nat→St→Option R)(s0:(List dT72))(s1:(List ((List UInt8)×(List Int))))(s2:(List dT56))(s3:Nat)(s4:Int)(s5:(List UInt8))(s6 s7:Int)(s8:Nat)(s9 s10:Bool)(s11:(List (List UInt8)))(s12 s13:Int)(K:wq30 R)(E:wq31 R): bodyK (wq9r k wq5 wq3 wq2 wq1 wq0 wqn wq7 wq6 wq4 wq46 wqg) k Tryz.f206 wq9q [1,1,0,1,1,0,1,0,0] I (wq3t s0 s1 s2 s3 s4 s5 s6 s7 s8 s9 s10 s11 s12 s13) (wq6h K E)=wqfe k wq5 wq3 wq2 wq1 wq0 wqn wq7 wq6 wq4 wq46 wqg (fun s0 s1 s2 s3 s4 s5 s6 s7 s8 s9 s10 s11 s12 s13=>I 1005 (wq3t s0 s1 s2 s3 s4 s5 s6 s7 s8 s9 s10 s11 s12 s13)) s0 s1 s2 s3 s4 s5 s6 s7 s8 s9 s10 s11 s12 s13 K E:=by kernel_rfl
def wqdv(k:Nat)(wq5:wq1b)(wq3:wqy)(wq2:wqp)(wq1:wqs)(wq0:wqq)(wqn:wqz)(wq7:wq10)(wq6:wqt)(wq4:wqu)(wq46:(R:Type)→(List UInt8)→(Int→Option R)→Option R)(wqg:wqw){R:Type}(E1005:wq6p R)(x0:(List dT72))(x1:(List ((List UInt8)×(List Int))))(x2:(List dT56))(x3:Nat)(x4:Int)(K:wq30 R)(E:wq31 R): Option R:=wq3 R x0 x4 [[117,110,108,105,109,105,116,101,100],[117,110,105,116],[114,101,113,117,101,115,116,115,95,112,101,114,95,117,110,105,116],[110,101,97,114],[110,97,109,101]] (fun y10 y11=>wq5 R y10 y11 (fun y12=>wq4 R x0 x4 [117,110,108,105,109,105,116,101,100] (fun y13=>cond y13 (E1005 x0 x1 x2 x3 x4 [] 0 0 0 false y13 [[117,110,105,116],[114,101,113,117,101,115,116,115,95,112,101,114,95,117,110,105,116],[110,101,97,114]] (@List.length (@Kd.T Kd.str) [[(117:UInt8),110,105,116],[(114:UInt8),101,113,117,101,115,116,115,95,112,101,114,95,117,110,105,116],[(110:UInt8),101,97,114]]:Int) 0) (wq1 R x0 x4 [117,110,105,116] (fun y14=>wqn R x0 y14 1 (fun y15 y16=>wq5 R y15 y16 (fun y17=>cond (inb y14 (x0.length:Int)) (wq46 R (((x0.getD y14.toNat (Kd.zero (@Kd.pr kI (@Kd.pr kI (@Kd.pr Kd.str (@Kd.pr Kd.bool (@Kd.pr (@Kd.sl Kd.str) (@Kd.sl kI)))))))).2).2).1 (fun y18=>cond (y18 == 0) (wq0 R x0 y14 16 (fun y19 y20=>E x0 x1 x2 x3 y19 y20)) (both (wq1 R x0 x4 [114,101,113,117,101,115,116,115,95,112,101,114,95,117,110,105,116] (fun y19=>dupT (@Shp.b @Shp.o @Shp.o) (wqg R x0 y19 0 4294967295 (fun y20 y21 y22=>wq5 R y21 y22 (fun y23=>wq2 R x0 x4 [110,101,97,114] x3 (fun y24=>wq7 R x0 x4 [110,97,109,101] (fun y25 y26=>cond y26 (wq6 R x0 y25 (fun y27=>K x0 x1 x2 x3 y27 y18 y20 y24 false y13) (fun y27 y28=>E x0 x1 x2 x3 y27 y28)) (K x0 x1 x2 x3 [] y18 y20 y24 false y13))) (fun y24 y25=>E x0 x1 x2 x3 y24 y25)) (fun y23 y24=>E x0 x1 x2 x3 y23 y24)))) (fun y19 y20=>E x0 x1 x2 x3 y19 y20)) (wq1 R x0 x4 [114,101,113,117,101,115,116,115,95,112,101,114,95,117,110,105,116] (fun y19=>wqg R x0 y19 0 4294967295 (fun y20 y21 y22=>wq5 R y21 y22 (fun y23=>wq2 R x0 x4 [110,101,97,114] x3 (fun y24=>wq7 R x0 x4 [110,97,109,101] (fun y25 y26=>cond y26 (wq6 R x0 y25 (fun y27=>K x0 x1 x2 x3 y27 y18 y20 y24 false y13) (fun y27 y28=>E x0 x1 x2 x3 y27 y28)) (K x0 x1 x2 x3 [] y18 y20 y24 false y13))) (fun y24 y25=>E x0 x1 x2 x3 y24 y25)) (fun y23 y24=>E x0 x1 x2 x3 y23 y24))) (fun y19 y20=>E x0 x1 x2 x3 y19 y20))))) none) (fun y17 y18=>E x0 x1 x2 x3 y17 y18))) (fun y14 y15=>E x0 x1 x2 x3 y14 y15))) (fun y13 y14=>E x0 x1 x2 x3 y13 y14)) (fun y12 y13=>E x0 x1 x2 x3 y12 y13))
def wq8f(k:Nat)(wq5:wq1b)(wq3:wqy)(wq2:wqp)(wq1:wqs)(wq0:wqq)(wqn:wqz)(wq7:wq10)(wq6:wqt)(wq4:wqu)(wq46:(R:Type)→(List UInt8)→(Int→Option R)→Option R)(wqg:wqw){R:Type}(E1005:wq6p R)(x0:(List dT72))(x1:(List ((List UInt8)×(List Int))))(x2:(List dT56))(x3:Nat)(x4:Int)(K:wq30 R)(E:wq31 R): Option R:=wq3 R x0 x4 [[117,110,108,105,109,105,116,101,100],[117,110,105,116],[114,101,113,117,101,115,116,115,95,112,101,114,95,117,110,105,116],[110,101,97,114],[110,97,109,101]] (fun y10 y11=>wq5 R y10 y11 (fun y12=>wq4 R x0 x4 [117,110,108,105,109,105,116,101,100] (fun y13=>cond y13 (E1005 x0 x1 x2 x3 x4 [] 0 0 0 false y13 [[117,110,105,116],[114,101,113,117,101,115,116,115,95,112,101,114,95,117,110,105,116],[110,101,97,114]] (@List.length (@Kd.T Kd.str) [[(117:UInt8),110,105,116],[(114:UInt8),101,113,117,101,115,116,115,95,112,101,114,95,117,110,105,116],[(110:UInt8),101,97,114]]:Int) 0) (wq1 R x0 x4 [117,110,105,116] (fun y14=>wqn R x0 y14 1 (fun y15 y16=>wq5 R y15 y16 (fun y17=>cond (inb y14 (x0.length:Int)) (wq46 R (((x0.getD y14.toNat (Kd.zero (@Kd.pr kI (@Kd.pr kI (@Kd.pr Kd.str (@Kd.pr Kd.bool (@Kd.pr (@Kd.sl Kd.str) (@Kd.sl kI)))))))).2).2).1 (fun y18=>cond (y18 == 0) (wq0 R x0 y14 16 (fun y19 y20=>E x0 x1 x2 x3 y19 y20)) (wq1 R x0 x4 [114,101,113,117,101,115,116,115,95,112,101,114,95,117,110,105,116] (fun y19=>wqg R x0 y19 0 4294967295 (fun y20 y21 y22=>wq5 R y21 y22 (fun y23=>wq2 R x0 x4 [110,101,97,114] x3 (fun y24=>wq7 R x0 x4 [110,97,109,101] (fun y25 y26=>cond y26 (wq6 R x0 y25 (fun y27=>K x0 x1 x2 x3 y27 y18 y20 y24 false y13) (fun y27 y28=>E x0 x1 x2 x3 y27 y28)) (K x0 x1 x2 x3 [] y18 y20 y24 false y13))) (fun y24 y25=>E x0 x1 x2 x3 y24 y25)) (fun y23 y24=>E x0 x1 x2 x3 y23 y24))) (fun y19 y20=>E x0 x1 x2 x3 y19 y20)))) none) (fun y17 y18=>E x0 x1 x2 x3 y17 y18))) (fun y14 y15=>E x0 x1 x2 x3 y14 y15))) (fun y13 y14=>E x0 x1 x2 x3 y13 y14)) (fun y12 y13=>E x0 x1 x2 x3 y12 y13))
theorem wqqo(k:Nat)(wq5:wq1b)(wq3:wqy)(wq2:wqp)(wq1:wqs)(wq0:wqq)(wqn:wqz)(wq7:wq10)(wq6:wqt)(wq4:wqu)(wq46:(R:Type)→(List UInt8)→(Int→Option R)→Option R)(wqg:wqw){R:Type}(E1005:wq6p R)(x0:(List dT72))(x1:(List ((List UInt8)×(List Int))))(x2:(List dT56))(x3:Nat)(x4:Int)(K:wq30 R)(E:wq31 R): wqdv k wq5 wq3 wq2 wq1 wq0 wqn wq7 wq6 wq4 wq46 wqg E1005 x0 x1 x2 x3 x4 K E=wq8f k wq5 wq3 wq2 wq1 wq0 wqn wq7 wq6 wq4 wq46 wqg E1005 x0 x1 x2 x3 x4 K E:=by unfold wqdv wq8f;simp only[wq1l8,show ∀(R:Type) (a:Option R),both a a=a from fun R a=>by unfold both;exact if_pos rfl]
def wqa4(k:Nat)(wq5:wq1b)(wq3:wqy)(wq2:wqp)(wq1:wqs)(wq0:wqq)(wqn:wqz)(wq7:wq10)(wq6:wqt)(wq4:wqu)(wq46:(R:Type)→(List UInt8)→(Int→Option R)→Option R)(wqg:wqw){R:Type}: Nat→(List dT72)→(List ((List UInt8)×(List Int)))→(List dT56)→Nat→Int→(List UInt8)→Int→Int→Nat→Bool→Bool→(List (List UInt8))→Int→Int→((List dT72)→(List ((List UInt8)×(List Int)))→(List dT56)→Nat→(List UInt8)→Int→Int→Nat→Bool→Bool→Option R)→((List dT72)→(List ((List UInt8)×(List Int)))→(List dT56)→Nat→Int→Int→Option R)→Option R
 |0,_,_,_,_,_,_,_,_,_,_,_,_,_,_,_,_=>none
 |n+1,s0,s1,s2,s3,s4,s5,s6,s7,s8,s9,s10,s11,s12,s13,K,E=>wqfe k wq5 wq3 wq2 wq1 wq0 wqn wq7 wq6 wq4 wq46 wqg (fun s0 s1 s2 s3 s4 s5 s6 s7 s8 s9 s10 s11 s12 s13=>wqa4 k wq5 wq3 wq2 wq1 wq0 wqn wq7 wq6 wq4 wq46 wqg n s0 s1 s2 s3 s4 s5 s6 s7 s8 s9 s10 s11 s12 s13 K E) s0 s1 s2 s3 s4 s5 s6 s7 s8 s9 s10 s11 s12 s13 K E
theorem wqmc(k:Nat)(wq5:wq1b)(wq3:wqy)(wq2:wqp)(wq1:wqs)(wq0:wqq)(wqn:wqz)(wq7:wq10)(wq6:wqt)(wq4:wqu)(wq46:(R:Type)→(List UInt8)→(Int→Option R)→Option R)(wqg:wqw){R:Type}(I:Nat→St→Option R)(K:wq30 R)(E:wq31 R)(n:Nat): ∀(s0:(List dT72)) (s1:(List ((List UInt8)×(List Int)))) (s2:(List dT56)) (s3:Nat) (s4:Int) (s5:(List UInt8)) (s6 s7:Int) (s8:Nat) (s9 s10:Bool) (s11:(List (List UInt8))) (s12 s13:Int),wq4n k wq5 wq3 wq2 wq1 wq0 wqn wq7 wq6 wq4 wq46 wqg I n (wq3t s0 s1 s2 s3 s4 s5 s6 s7 s8 s9 s10 s11 s12 s13) K E=wqa4 k wq5 wq3 wq2 wq1 wq0 wqn wq7 wq6 wq4 wq46 wqg n s0 s1 s2 s3 s4 s5 s6 s7 s8 s9 s10 s11 s12 s13 K E:=by
 induction n with
 |zero=>intros;rfl
 |succ n ih =>
  intro s0 s1 s2 s3 s4 s5 s6 s7 s8 s9 s10 s11 s12 s13
  refine(?_:_=_).trans ((wqmb k wq5 wq3 wq2 wq1 wq0 wqn wq7 wq6 wq4 wq46 wqg (upI 1005 (fun s=>wq4n k wq5 wq3 wq2 wq1 wq0 wqn wq7 wq6 wq4 wq46 wqg I n s K E) I) s0 s1 s2 s3 s4 s5 s6 s7 s8 s9 s10 s11 s12 s13 K E).trans ?_)
  ·rfl
  ·simp only[wq43,ih]<;>rfl
def wq8g(k:Nat){R:Type}(x0:(List dT72))(x1:(List ((List UInt8)×(List Int))))(x2:(List dT56))(x3:Nat)(x4:Int)(K:wq30 R)(E:wq31 R): Option R:=wq8f k (@wq23 k) (@wq1o k) (@wq2b k) (@wq11 k) (@wqv k) (@wq3m k) (@wq2z k) (@wq2a k) (@wq3d k) (@wqnx k) (@wq56 k) (fun s0 s1 s2 s3 s4 s5 s6 s7 s8 s9 s10 s11 s12 s13=>wqa4 k (@wq23 k) (@wq1o k) (@wq2b k) (@wq11 k) (@wqv k) (@wq3m k) (@wq2z k) (@wq2a k) (@wq3d k) (@wqnx k) (@wq56 k) k s0 s1 s2 s3 s4 s5 s6 s7 s8 s9 s10 s11 s12 s13 K E) x0 x1 x2 x3 x4 K E
theorem wqsi(k:Nat)(wq5:wq1b)(wq3:wqy)(wq2:wqp)(wq1:wqs)(wq0:wqq)(wqn:wqz)(wq7:wq10)(wq6:wqt)(wq4:wqu)(wq46:(R:Type)→(List UInt8)→(Int→Option R)→Option R)(wqg:wqw){R:Type}(x0:(List dT72))(x1:(List ((List UInt8)×(List Int))))(x2:(List dT56))(x3:Nat)(x4:Int)(K:wq30 R)(E:wq31 R): fnW (wq9r k wq5 wq3 wq2 wq1 wq0 wqn wq7 wq6 wq4 wq46 wqg) k Tryz.f206 wq9q [.ptr 1 0,.v kI x4] [(21,.row 64 (.pr .str (.sl kI)) x1),(51,.row 57 kdT56 x2),(1,.var 79 [.v kdT37 x0,.row 21,.row 51,.v .flt x3])] (wq6h K E)=wq8f k wq5 wq3 wq2 wq1 wq0 wqn wq7 wq6 wq4 wq46 wqg (fun s0 s1 s2 s3 s4 s5 s6 s7 s8 s9 s10 s11 s12 s13=>wq4n k wq5 wq3 wq2 wq1 wq0 wqn wq7 wq6 wq4 wq46 wqg (fun _ _=>none) k (wq3t s0 s1 s2 s3 s4 s5 s6 s7 s8 s9 s10 s11 s12 s13) K E) x0 x1 x2 x3 x4 K E:=((show _=wqdv k wq5 wq3 wq2 wq1 wq0 wqn wq7 wq6 wq4 wq46 wqg (fun s0 s1 s2 s3 s4 s5 s6 s7 s8 s9 s10 s11 s12 s13=>wq4n k wq5 wq3 wq2 wq1 wq0 wqn wq7 wq6 wq4 wq46 wqg (fun _ _=>none) k (wq3t s0 s1 s2 s3 s4 s5 s6 s7 s8 s9 s10 s11 s12 s13) K E) x0 x1 x2 x3 x4 K E by kernel_rfl).trans (wqqo k wq5 wq3 wq2 wq1 wq0 wqn wq7 wq6 wq4 wq46 wqg (fun s0 s1 s2 s3 s4 s5 s6 s7 s8 s9 s10 s11 s12 s13=>wq4n k wq5 wq3 wq2 wq1 wq0 wqn wq7 wq6 wq4 wq46 wqg (fun _ _=>none) k (wq3t s0 s1 s2 s3 s4 s5 s6 s7 s8 s9 s10 s11 s12 s13) K E) x0 x1 x2 x3 x4 K E))
theorem wqsj(k:Nat){R:Type}(x0:(List dT72))(x1:(List ((List UInt8)×(List Int))))(x2:(List dT56))(x3:Nat)(x4:Int)(K:wq30 R)(E:wq31 R): fnW (wq9r k (@wq23 k) (@wq1o k) (@wq2b k) (@wq11 k) (@wqv k) (@wq3m k) (@wq2z k) (@wq2a k) (@wq3d k) (@wqnx k) (@wq56 k)) k Tryz.f206 wq9q [.ptr 1 0,.v kI x4] [(21,.row 64 (.pr .str (.sl kI)) x1),(51,.row 57 kdT56 x2),(1,.var 79 [.v kdT37 x0,.row 21,.row 51,.v .flt x3])] (wq6h K E)=wq8g k x0 x1 x2 x3 x4 K E:=by
 refine Eq.trans (b:=wq8f k (@wq23 k) (@wq1o k) (@wq2b k) (@wq11 k) (@wqv k) (@wq3m k) (@wq2z k) (@wq2a k) (@wq3d k) (@wqnx k) (@wq56 k) (fun s0 s1 s2 s3 s4 s5 s6 s7 s8 s9 s10 s11 s12 s13=>wq4n k (@wq23 k) (@wq1o k) (@wq2b k) (@wq11 k) (@wqv k) (@wq3m k) (@wq2z k) (@wq2a k) (@wq3d k) (@wqnx k) (@wq56 k) (fun _ _=>none) k (wq3t s0 s1 s2 s3 s4 s5 s6 s7 s8 s9 s10 s11 s12 s13) K E) x0 x1 x2 x3 x4 K E) (wqsi k (@wq23 k) (@wq1o k) (@wq2b k) (@wq11 k) (@wqv k) (@wq3m k) (@wq2z k) (@wq2a k) (@wq3d k) (@wqnx k) (@wq56 k) x0 x1 x2 x3 x4 K E) ?_
 simp only[wqmc]<;>rfl
def wq99(k:Nat){R:Type}: List PV→List (Nm×HObj)→(Out→Option R)→Option R
 |[.ptr 1 0,.v (.int .i64) x4],[(21,.row 64 (.pr .str (.sl (.int .i64))) x1),(51,.row 57 (.pr .str (.pr .str (.pr .bool (.pr (.int .i64) (.pr (.int .i64) (.pr .bool (.pr (.pr .str (.pr (.int .i64) (.pr (.int .i64) (.pr .flt (.pr .bool .bool))))) (.sl (.int .i64))))))))) x2),(1,.var 79 [.v (.sl (.pr (.int .i64) (.pr (.int .i64) (.pr .str (.pr .bool (.pr (.sl .str) (.sl (.int .i64)))))))) x0,.row 21,.row 51,.v .flt x3])],K=>wq8g k x0 x1 x2 x3 x4 (fun y0 y1 y2 y3 y4 y5 y6 y7 y8 y9=>K (.ret [.agg [.v .str y4,.v (.int .i64) y5,.v (.int .i64) y6,.v .flt y7,.v .bool y8,.v .bool y9]] [(21,.row 64 (.pr .str (.sl (.int .i64))) y1),(51,.row 57 (.pr .str (.pr .str (.pr .bool (.pr (.int .i64) (.pr (.int .i64) (.pr .bool (.pr (.pr .str (.pr (.int .i64) (.pr (.int .i64) (.pr .flt (.pr .bool .bool))))) (.sl (.int .i64))))))))) y2),(1,.var 79 [.v (.sl (.pr (.int .i64) (.pr (.int .i64) (.pr .str (.pr .bool (.pr (.sl .str) (.sl (.int .i64)))))))) y0,.row 21,.row 51,.v .flt y3])])) (fun z0 z1 z2 z3 z4 z5=>K (.pan (.ifc 29 (.agg [.v (.int .i64) z4,.v (.int .i64) z5])) [(21,.row 64 (.pr .str (.sl (.int .i64))) z1),(51,.row 57 (.pr .str (.pr .str (.pr .bool (.pr (.int .i64) (.pr (.int .i64) (.pr .bool (.pr (.pr .str (.pr (.int .i64) (.pr (.int .i64) (.pr .flt (.pr .bool .bool))))) (.sl (.int .i64))))))))) z2),(1,.var 79 [.v (.sl (.pr (.int .i64) (.pr (.int .i64) (.pr .str (.pr .bool (.pr (.sl .str) (.sl (.int .i64)))))))) z0,.row 21,.row 51,.v .flt z3])]))
 |_,_,_=>none
theorem wqyc(k:Nat): DOK Tryz.prog 206 (wq99 k):=by
 intro ps hp R K r h
 have h:wq99 k ps hp K=some r:=h
 unfold wq99 at h
 split at h
 ·rw[←wqsj]at h
  exact fnW_ok ⟨tyT_ok,(CTab.add_ok (fun h=>wq7o k _ _ _ _ _ (by unfold wq8z at h;unfold wq4d;exact h)) (CTab.add_ok (fun h=>wqd1 k _ _ _ _ _ (by unfold wq68 at h;unfold wq5k;exact h)) (CTab.add_ok (fun h=>wqkf k _ _ _ _ _ (by unfold wq7q at h;unfold wq6g;exact h)) (CTab.add_ok (fun h=>wqaj k _ _ _ _ _ (by unfold wq5a at h;unfold wq4q;exact h)) (CTab.add_ok (fun h=>wq7j k _ _ _ _ _ (by unfold wq4v at h;unfold wq3w;exact h)) (CTab.add_ok (fun h=>wq90 k _ _ _ _ _ (by unfold wqm7 at h;unfold wq4i;exact h)) (CTab.add_ok (fun h=>wq91 k _ _ _ _ _ (by unfold wqap at h;unfold wq4j;exact h)) (CTab.add_ok (fun h=>wqf1 k _ _ _ _ _ (by unfold wq8q at h;unfold wq5s;exact h)) (CTab.add_ok (fun h=>wqlw k _ _ _ _ _ (by unfold wq8p at h;unfold wq6x;exact h)) (CTab.add_ok (fun h=>wq1py k _ _ _ _ _ (by unfold wq18x at h;unfold wqv6;exact h)) (CTab.add_ok (fun h=>wq10p k _ _ _ _ _ (by unfold wqiz at h;unfold wq9p;exact h)) CTab.nil_ok))))))))))),fun _ _=>rfl⟩ mixed (by kernel_rfl) (by kernel_rfl) h fun o ho=>by unfold wq6h at ho;split at ho<;>first|exact ho|cases ho
 ·cases h
end Go.Proofs.YtabkhphoacmcdaaGreatDoor.Pvm
end
noncomputable section
namespace Go.Proofs.YtabkhphoacmcdaaGreatDoor.Pvm
open Go Go.Proofs
def wqh5(wq4c:(R:Type)→(List dT72)→(List ((List UInt8)×(List Int)))→(List dT56)→Nat→Int→((List dT72)→(List ((List UInt8)×(List Int)))→(List dT56)→Nat→(List UInt8)→Int→Int→Nat→Bool→Bool→Option R)→((List dT72)→(List ((List UInt8)×(List Int)))→(List dT56)→Nat→Int→Int→Option R)→Option R){R:Type}: List PV→List (Nm×HObj)→(Out→Option R)→Option R
 |[.ptr 1 0,.v (.int .i64) x4],[(21,.row 64 (.pr .str (.sl (.int .i64))) x1),(51,.row 57 (.pr .str (.pr .str (.pr .bool (.pr (.int .i64) (.pr (.int .i64) (.pr .bool (.pr (.pr .str (.pr (.int .i64) (.pr (.int .i64) (.pr .flt (.pr .bool .bool))))) (.sl (.int .i64))))))))) x2),(1,.var 79 [.v (.sl (.pr (.int .i64) (.pr (.int .i64) (.pr .str (.pr .bool (.pr (.sl .str) (.sl (.int .i64)))))))) x0,.row 21,.row 51,.v .flt x3])],K=>wq4c R x0 x1 x2 x3 x4 (fun y0 y1 y2 y3 y4 y5 y6 y7 y8 y9=>K (.ret [.agg [.v .str y4,.v (.int .i64) y5,.v (.int .i64) y6,.v .flt y7,.v .bool y8,.v .bool y9]] [(21,.row 64 (.pr .str (.sl (.int .i64))) y1),(51,.row 57 (.pr .str (.pr .str (.pr .bool (.pr (.int .i64) (.pr (.int .i64) (.pr .bool (.pr (.pr .str (.pr (.int .i64) (.pr (.int .i64) (.pr .flt (.pr .bool .bool))))) (.sl (.int .i64))))))))) y2),(1,.var 79 [.v (.sl (.pr (.int .i64) (.pr (.int .i64) (.pr .str (.pr .bool (.pr (.sl .str) (.sl (.int .i64)))))))) y0,.row 21,.row 51,.v .flt y3])])) (fun z0 z1 z2 z3 z4 z5=>K (.pan (.ifc 29 (.agg [.v (.int .i64) z4,.v (.int .i64) z5])) [(21,.row 64 (.pr .str (.sl (.int .i64))) z1),(51,.row 57 (.pr .str (.pr .str (.pr .bool (.pr (.int .i64) (.pr (.int .i64) (.pr .bool (.pr (.pr .str (.pr (.int .i64) (.pr (.int .i64) (.pr .flt (.pr .bool .bool))))) (.sl (.int .i64))))))))) z2),(1,.var 79 [.v (.sl (.pr (.int .i64) (.pr (.int .i64) (.pr .str (.pr .bool (.pr (.sl .str) (.sl (.int .i64)))))))) z0,.row 21,.row 51,.v .flt z3])]))
 |_,_,_=>none
end Go.Proofs.YtabkhphoacmcdaaGreatDoor.Pvm
end
noncomputable section
namespace Go.Proofs.YtabkhphoacmcdaaGreatDoor.Pvm
open Go Go.Proofs
def wq10q:List LS:=[.ag [.sl kdT72],.any]
def wqmd{R:Type}(K:((List UInt8)→Int→Int→Option R)): Out→Option R
 |.ret [.v .str y0,.agg [.v (.int .i64) y1,.v (.int .i64) y2]] []=>K y0 y1 y2
 |_=>none
def wq13j:RetSpec:=⟨[.any,.ag [.any,.any]],[],[]⟩
def wq13k(k:Nat): Ctx:=⟨tyT,[],(.add 112 wq74 (wq4i k) (.add 114 wq49 (wq3c k) .nil)),[],[],[(3,(.of [(1,1),(0,1),(2,0)] .done))],@SH⟩
def wq16i(k:Nat){R:Type}(x0:(List dT72))(x1:Int)(K:((List UInt8)→Int→Int→Option R)): Option R:=wq3m k x0 x1 1 (fun y5 y6=>cond (y5 != 0) (K [] y5 y6) (cond (inb x1 (x0.length:Int)) (cond (decide ((((((x0.getD x1.toNat (Kd.zero (@Kd.pr kI (@Kd.pr kI (@Kd.pr Kd.str (@Kd.pr Kd.bool (@Kd.pr (@Kd.sl Kd.str) (@Kd.sl kI)))))))).2).2).1).length:Int)≤128)) (K (((x0.getD x1.toNat (Kd.zero (@Kd.pr kI (@Kd.pr kI (@Kd.pr Kd.str (@Kd.pr Kd.bool (@Kd.pr (@Kd.sl Kd.str) (@Kd.sl kI)))))))).2).2).1 0 0) (wq2x k x0 x1 12 (fun y7 y8=>K [] y7 y8))) none))
def wqb7(k:Nat){R:Type}(x0:(List dT72))(x1:Int)(K:((List UInt8)→Int→Int→Option R)): Option R:=wq16i k x0 x1 K
theorem wqyd(k:Nat){R:Type}(x0:(List dT72))(x1:Int)(K:((List UInt8)→Int→Int→Option R)): fnW (wq13k k) k Tryz.f204 wq13j [.agg [.v kdT37 x0],.v kI x1] [] (wqmd K)=wqb7 k x0 x1 K:=by
 kernel_rfl
def wqc1(k:Nat){R:Type}: List PV→List (Nm×HObj)→(Out→Option R)→Option R
 |[.agg [.v (.sl (.pr (.int .i64) (.pr (.int .i64) (.pr .str (.pr .bool (.pr (.sl .str) (.sl (.int .i64)))))))) x0],.v (.int .i64) x1],[],K=>wqb7 k x0 x1 (fun y0 y1 y2=>K (.ret [.v .str y0,.agg [.v (.int .i64) y1,.v (.int .i64) y2]] []))
 |_,_,_=>none
theorem wq16j(k:Nat): DOK Tryz.prog 204 (wqc1 k):=by
 intro ps hp R K r h
 have h:wqc1 k ps hp K=some r:=h
 unfold wqc1 at h
 split at h
 ·rw[←wqyd]at h
  exact fnW_ok ⟨tyT_ok,(wqd (wq90 k) (wqd (wq5r k) CTab.nil_ok)),fun _ _=>rfl⟩ mixed (by kernel_rfl) (by kernel_rfl) h fun o ho=>by unfold wqmd at ho;split at ho<;>first|exact ho|cases ho
 ·cases h
end Go.Proofs.YtabkhphoacmcdaaGreatDoor.Pvm
end
noncomputable section
namespace Go.Proofs.YtabkhphoacmcdaaGreatDoor.Pvm
open Go Go.Proofs
def wqme(wq6a:(R:Type)→(List dT72)→Int→((List UInt8)→Int→Int→Option R)→Option R){R:Type}: List PV→List (Nm×HObj)→(Out→Option R)→Option R
 |[.agg [.v (.sl (.pr (.int .i64) (.pr (.int .i64) (.pr .str (.pr .bool (.pr (.sl .str) (.sl (.int .i64)))))))) x0],.v (.int .i64) x1],[],K=>wq6a R x0 x1 (fun y0 y1 y2=>K (.ret [.v .str y0,.agg [.v (.int .i64) y1,.v (.int .i64) y2]] []))
 |_,_,_=>none
end Go.Proofs.YtabkhphoacmcdaaGreatDoor.Pvm
end
noncomputable section
namespace Go.Proofs.YtabkhphoacmcdaaGreatDoor.Pvm
open Go Go.Proofs
def wqor:List LS:=[.ag [.any,.any,.any,.any,.any,.any,.any,.any,.any,.any,.any,.any,.sl kI],.ag [.any,.any,.any,.any,.any,.any,.any,.any,.any,.any,.any,.any,.sl kI]]
def wqto{R:Type}(K:(Bool→Option R)): Out→Option R
 |.ret [.v .bool y0] []=>K y0
 |_=>none
def wq1ep:RetSpec:=⟨[.any],[],[]⟩
def wq1eq(k:Nat): Ctx:=⟨tyT,[],.nil,[],[],[],@SH⟩
def wq1h9(k:Nat){R:Type}(x0 x1:(List UInt8))(x2:Bool)(x3 x4:Int)(x5:Bool)(x6:(List UInt8))(x7 x8:Int)(x9:Nat)(x10 x11:Bool)(x12:(List Int))(x13 x14:(List UInt8))(x15:Bool)(x16 x17:Int)(x18:Bool)(x19:(List UInt8))(x20 x21:Int)(x22:Nat)(x23 x24:Bool)(x25:(List Int))(K:(Bool→Option R)): Option R:=K (cond (cond (x0 == x13) (x1 == x14) false) (x2 == x15) false)
def wqj0(k:Nat){R:Type}(x0 x1:(List UInt8))(x2:Bool)(x3 x4:Int)(x5:Bool)(x6:(List UInt8))(x7 x8:Int)(x9:Nat)(x10 x11:Bool)(x12:(List Int))(x13 x14:(List UInt8))(x15:Bool)(x16 x17:Int)(x18:Bool)(x19:(List UInt8))(x20 x21:Int)(x22:Nat)(x23 x24:Bool)(x25:(List Int))(K:(Bool→Option R)): Option R:=wq1h9 k x0 x1 x2 x3 x4 x5 x6 x7 x8 x9 x10 x11 x12 x13 x14 x15 x16 x17 x18 x19 x20 x21 x22 x23 x24 x25 K
theorem wq18y(k:Nat){R:Type}(x0 x1:(List UInt8))(x2:Bool)(x3 x4:Int)(x5:Bool)(x6:(List UInt8))(x7 x8:Int)(x9:Nat)(x10 x11:Bool)(x12:(List Int))(x13 x14:(List UInt8))(x15:Bool)(x16 x17:Int)(x18:Bool)(x19:(List UInt8))(x20 x21:Int)(x22:Nat)(x23 x24:Bool)(x25:(List Int))(K:(Bool→Option R)): fnW (wq1eq k) k Tryz.f67 wq1ep [.agg [.v .str x0,.v .str x1,.v .bool x2,.v kI x3,.v kI x4,.v .bool x5,.v .str x6,.v kI x7,.v kI x8,.v .flt x9,.v .bool x10,.v .bool x11,.v (.sl kI) x12],.agg [.v .str x13,.v .str x14,.v .bool x15,.v kI x16,.v kI x17,.v .bool x18,.v .str x19,.v kI x20,.v kI x21,.v .flt x22,.v .bool x23,.v .bool x24,.v (.sl kI) x25]] [] (wqto K)=wqj0 k x0 x1 x2 x3 x4 x5 x6 x7 x8 x9 x10 x11 x12 x13 x14 x15 x16 x17 x18 x19 x20 x21 x22 x23 x24 x25 K:=by
 kernel_rfl
def wqbh(k:Nat){R:Type}: List PV→List (Nm×HObj)→(Out→Option R)→Option R
 |[.agg [.v .str x0,.v .str x1,.v .bool x2,.v (.int .i64) x3,.v (.int .i64) x4,.v .bool x5,.v .str x6,.v (.int .i64) x7,.v (.int .i64) x8,.v .flt x9,.v .bool x10,.v .bool x11,.v (.sl (.int .i64)) x12],.agg [.v .str x13,.v .str x14,.v .bool x15,.v (.int .i64) x16,.v (.int .i64) x17,.v .bool x18,.v .str x19,.v (.int .i64) x20,.v (.int .i64) x21,.v .flt x22,.v .bool x23,.v .bool x24,.v (.sl (.int .i64)) x25]],[],K=>wqj0 k x0 x1 x2 x3 x4 x5 x6 x7 x8 x9 x10 x11 x12 x13 x14 x15 x16 x17 x18 x19 x20 x21 x22 x23 x24 x25 (fun y0=>K (.ret [.v .bool y0] []))
 |_,_,_=>none
theorem wqtp(k:Nat): DOK Tryz.prog 67 (wqbh k):=by
 intro ps hp R K r h
 have h:wqbh k ps hp K=some r:=h
 unfold wqbh at h
 split at h
 ·rw[←wq18y]at h
  exact fnW_ok ⟨tyT_ok,CTab.nil_ok,fun _ _=>rfl⟩ mixed (by kernel_rfl) (by kernel_rfl) h fun o ho=>by unfold wqto at ho;split at ho<;>first|exact ho|cases ho
 ·cases h
end Go.Proofs.YtabkhphoacmcdaaGreatDoor.Pvm
end
noncomputable section
namespace Go.Proofs.YtabkhphoacmcdaaGreatDoor.Pvm
open Go Go.Proofs
abbrev wq78(R:Type): Type:=((List dT72)→(List ((List UInt8)×(List Int)))→(List dT56)→Nat→(List UInt8)→(List UInt8)→Bool→Int→Int→Bool→(List UInt8)→Int→Int→Nat→Bool→Bool→(List Int)→Bool→Option R)
def wqos:List LS:=[.any,.obj 11 [.obj 330 [.sl kdT72,.own 350 64 (.pr .str (.sl kI)),.own 380 57 kdT56,.any]],.obj 12 [.any,.any,.any,.any,.any,.any,.any,.any,.any,.any,.any,.any,.sl kI]]
def wqdm{R:Type}(K:wq78 R): Out→Option R
 |.ret [.v .bool y17] [(350,.row 64 (.pr .str (.sl (.int .i64))) y1),(380,.row 57 (.pr .str (.pr .str (.pr .bool (.pr (.int .i64) (.pr (.int .i64) (.pr .bool (.pr (.pr .str (.pr (.int .i64) (.pr (.int .i64) (.pr .flt (.pr .bool .bool))))) (.sl (.int .i64))))))))) y2),(330,.var 79 [.v (.sl (.pr (.int .i64) (.pr (.int .i64) (.pr .str (.pr .bool (.pr (.sl .str) (.sl (.int .i64)))))))) y0,.row 350,.row 380,.v .flt y3]),(11,.var 75 [.ptr 330 0]),(12,.var 57 [.v .str y4,.v .str y5,.v .bool y6,.v (.int .i64) y7,.v (.int .i64) y8,.v .bool y9,.v .str y10,.v (.int .i64) y11,.v (.int .i64) y12,.v .flt y13,.v .bool y14,.v .bool y15,.v (.sl (.int .i64)) y16])]=>K y0 y1 y2 y3 y4 y5 y6 y7 y8 y9 y10 y11 y12 y13 y14 y15 y16 y17
 |_=>none
def wqpj:RetSpec:=⟨[.any],[(11,.obj 11 [.obj 330 [.sl (.pr (.int .i64) (.pr (.int .i64) (.pr .str (.pr .bool (.pr (.sl .str) (.sl (.int .i64))))))),.own 350 64 (.pr .str (.sl (.int .i64))),.own 380 57 (.pr .str (.pr .str (.pr .bool (.pr (.int .i64) (.pr (.int .i64) (.pr .bool (.pr (.pr .str (.pr (.int .i64) (.pr (.int .i64) (.pr .flt (.pr .bool .bool))))) (.sl (.int .i64))))))))),.any]]),(330,.obj 330 [.sl (.pr (.int .i64) (.pr (.int .i64) (.pr .str (.pr .bool (.pr (.sl .str) (.sl (.int .i64))))))),.own 350 64 (.pr .str (.sl (.int .i64))),.own 380 57 (.pr .str (.pr .str (.pr .bool (.pr (.int .i64) (.pr (.int .i64) (.pr .bool (.pr (.pr .str (.pr (.int .i64) (.pr (.int .i64) (.pr .flt (.pr .bool .bool))))) (.sl (.int .i64))))))))),.any]),(12,.obj 12 [.any,.any,.any,.any,.any,.any,.any,.any,.any,.any,.any,.any,.sl (.int .i64)])],[]⟩
def wqpk(k:Nat): Ctx:=⟨tyT,[],(.add 67 wqor (wqbh k) .nil),[],[11,330,12],[(1,(.of [(5,1),(0,1),(1,1),(2,1),(3,1),(4,1),(6,1),(7,1),(8,1),(9,0),(10,1)] .done))],@SH⟩
def wqqp(k:Nat){R:Type}(x0:Int)(x1:(List dT72))(x2:(List ((List UInt8)×(List Int))))(x3:(List dT56))(x4:Nat)(x5 x6:(List UInt8))(x7:Bool)(x8 x9:Int)(x10:Bool)(x11:(List UInt8))(x12 x13:Int)(x14:Nat)(x15 x16:Bool)(x17:(List Int))(K:wq78 R): Option R:=cond (inb x0 (x3.length:Int)) (wqj0 k (x3.getD x0.toNat (Kd.zero (@Kd.pr Kd.str (@Kd.pr Kd.str (@Kd.pr Kd.bool (@Kd.pr kI (@Kd.pr kI (@Kd.pr Kd.bool (@Kd.pr (@Kd.pr Kd.str (@Kd.pr kI (@Kd.pr kI (@Kd.pr @Kd.flt (@Kd.pr Kd.bool Kd.bool))))) (@Kd.sl kI)))))))))).1 ((x3.getD x0.toNat (Kd.zero (@Kd.pr Kd.str (@Kd.pr Kd.str (@Kd.pr Kd.bool (@Kd.pr kI (@Kd.pr kI (@Kd.pr Kd.bool (@Kd.pr (@Kd.pr Kd.str (@Kd.pr kI (@Kd.pr kI (@Kd.pr @Kd.flt (@Kd.pr Kd.bool Kd.bool))))) (@Kd.sl kI)))))))))).2).1 (((x3.getD x0.toNat (Kd.zero (@Kd.pr Kd.str (@Kd.pr Kd.str (@Kd.pr Kd.bool (@Kd.pr kI (@Kd.pr kI (@Kd.pr Kd.bool (@Kd.pr (@Kd.pr Kd.str (@Kd.pr kI (@Kd.pr kI (@Kd.pr @Kd.flt (@Kd.pr Kd.bool Kd.bool))))) (@Kd.sl kI)))))))))).2).2).1 ((((x3.getD x0.toNat (Kd.zero (@Kd.pr Kd.str (@Kd.pr Kd.str (@Kd.pr Kd.bool (@Kd.pr kI (@Kd.pr kI (@Kd.pr Kd.bool (@Kd.pr (@Kd.pr Kd.str (@Kd.pr kI (@Kd.pr kI (@Kd.pr @Kd.flt (@Kd.pr Kd.bool Kd.bool))))) (@Kd.sl kI)))))))))).2).2).2).1 (((((x3.getD x0.toNat (Kd.zero (@Kd.pr Kd.str (@Kd.pr Kd.str (@Kd.pr Kd.bool (@Kd.pr kI (@Kd.pr kI (@Kd.pr Kd.bool (@Kd.pr (@Kd.pr Kd.str (@Kd.pr kI (@Kd.pr kI (@Kd.pr @Kd.flt (@Kd.pr Kd.bool Kd.bool))))) (@Kd.sl kI)))))))))).2).2).2).2).1 ((((((x3.getD x0.toNat (Kd.zero (@Kd.pr Kd.str (@Kd.pr Kd.str (@Kd.pr Kd.bool (@Kd.pr kI (@Kd.pr kI (@Kd.pr Kd.bool (@Kd.pr (@Kd.pr Kd.str (@Kd.pr kI (@Kd.pr kI (@Kd.pr @Kd.flt (@Kd.pr Kd.bool Kd.bool))))) (@Kd.sl kI)))))))))).2).2).2).2).2).1 ((((((((x3.getD x0.toNat (Kd.zero (@Kd.pr Kd.str (@Kd.pr Kd.str (@Kd.pr Kd.bool (@Kd.pr kI (@Kd.pr kI (@Kd.pr Kd.bool (@Kd.pr (@Kd.pr Kd.str (@Kd.pr kI (@Kd.pr kI (@Kd.pr @Kd.flt (@Kd.pr Kd.bool Kd.bool))))) (@Kd.sl kI)))))))))).2).2).2).2).2).2).1).1 (((((((((x3.getD x0.toNat (Kd.zero (@Kd.pr Kd.str (@Kd.pr Kd.str (@Kd.pr Kd.bool (@Kd.pr kI (@Kd.pr kI (@Kd.pr Kd.bool (@Kd.pr (@Kd.pr Kd.str (@Kd.pr kI (@Kd.pr kI (@Kd.pr @Kd.flt (@Kd.pr Kd.bool Kd.bool))))) (@Kd.sl kI)))))))))).2).2).2).2).2).2).1).2).1 ((((((((((x3.getD x0.toNat (Kd.zero (@Kd.pr Kd.str (@Kd.pr Kd.str (@Kd.pr Kd.bool (@Kd.pr kI (@Kd.pr kI (@Kd.pr Kd.bool (@Kd.pr (@Kd.pr Kd.str (@Kd.pr kI (@Kd.pr kI (@Kd.pr @Kd.flt (@Kd.pr Kd.bool Kd.bool))))) (@Kd.sl kI)))))))))).2).2).2).2).2).2).1).2).2).1 (((((((((((x3.getD x0.toNat (Kd.zero (@Kd.pr Kd.str (@Kd.pr Kd.str (@Kd.pr Kd.bool (@Kd.pr kI (@Kd.pr kI (@Kd.pr Kd.bool (@Kd.pr (@Kd.pr Kd.str (@Kd.pr kI (@Kd.pr kI (@Kd.pr @Kd.flt (@Kd.pr Kd.bool Kd.bool))))) (@Kd.sl kI)))))))))).2).2).2).2).2).2).1).2).2).2).1 ((((((((((((x3.getD x0.toNat (Kd.zero (@Kd.pr Kd.str (@Kd.pr Kd.str (@Kd.pr Kd.bool (@Kd.pr kI (@Kd.pr kI (@Kd.pr Kd.bool (@Kd.pr (@Kd.pr Kd.str (@Kd.pr kI (@Kd.pr kI (@Kd.pr @Kd.flt (@Kd.pr Kd.bool Kd.bool))))) (@Kd.sl kI)))))))))).2).2).2).2).2).2).1).2).2).2).2).1 ((((((((((((x3.getD x0.toNat (Kd.zero (@Kd.pr Kd.str (@Kd.pr Kd.str (@Kd.pr Kd.bool (@Kd.pr kI (@Kd.pr kI (@Kd.pr Kd.bool (@Kd.pr (@Kd.pr Kd.str (@Kd.pr kI (@Kd.pr kI (@Kd.pr @Kd.flt (@Kd.pr Kd.bool Kd.bool))))) (@Kd.sl kI)))))))))).2).2).2).2).2).2).1).2).2).2).2).2 (((((((x3.getD x0.toNat (Kd.zero (@Kd.pr Kd.str (@Kd.pr Kd.str (@Kd.pr Kd.bool (@Kd.pr kI (@Kd.pr kI (@Kd.pr Kd.bool (@Kd.pr (@Kd.pr Kd.str (@Kd.pr kI (@Kd.pr kI (@Kd.pr @Kd.flt (@Kd.pr Kd.bool Kd.bool))))) (@Kd.sl kI)))))))))).2).2).2).2).2).2).2 x5 x6 x7 x8 x9 x10 x11 x12 x13 x14 x15 x16 x17 (fun y21=>K x1 x2 x3 x4 x5 x6 x7 x8 x9 x10 x11 x12 x13 x14 x15 x16 x17 y21)) none
def wqar(k:Nat){R:Type}(x0:Int)(x1:(List dT72))(x2:(List ((List UInt8)×(List Int))))(x3:(List dT56))(x4:Nat)(x5 x6:(List UInt8))(x7:Bool)(x8 x9:Int)(x10:Bool)(x11:(List UInt8))(x12 x13:Int)(x14:Nat)(x15 x16:Bool)(x17:(List Int))(K:wq78 R): Option R:=wqqp k x0 x1 x2 x3 x4 x5 x6 x7 x8 x9 x10 x11 x12 x13 x14 x15 x16 x17 K
theorem wqnk(k:Nat){R:Type}(x0:Int)(x1:(List dT72))(x2:(List ((List UInt8)×(List Int))))(x3:(List dT56))(x4:Nat)(x5 x6:(List UInt8))(x7:Bool)(x8 x9:Int)(x10:Bool)(x11:(List UInt8))(x12 x13:Int)(x14:Nat)(x15 x16:Bool)(x17:(List Int))(K:wq78 R): fnW (wqpk k) k Tryz.f205 wqpj [.v kI x0,.ptr 11 0,.ptr 12 0] [(350,.row 64 (.pr .str (.sl kI)) x2),(380,.row 57 kdT56 x3),(330,.var 79 [.v kdT37 x1,.row 350,.row 380,.v .flt x4]),(11,.var 75 [.ptr 330 0]),(12,.var 57 [.v .str x5,.v .str x6,.v .bool x7,.v kI x8,.v kI x9,.v .bool x10,.v .str x11,.v kI x12,.v kI x13,.v .flt x14,.v .bool x15,.v .bool x16,.v (.sl kI) x17])] (wqdm K)=wqar k x0 x1 x2 x3 x4 x5 x6 x7 x8 x9 x10 x11 x12 x13 x14 x15 x16 x17 K:=by
 kernel_rfl
def wq6q(k:Nat){R:Type}: List PV→List (Nm×HObj)→(Out→Option R)→Option R
 |[.v (.int .i64) x0,.ptr 11 0,.ptr 12 0],[(350,.row 64 (.pr .str (.sl (.int .i64))) x2),(380,.row 57 (.pr .str (.pr .str (.pr .bool (.pr (.int .i64) (.pr (.int .i64) (.pr .bool (.pr (.pr .str (.pr (.int .i64) (.pr (.int .i64) (.pr .flt (.pr .bool .bool))))) (.sl (.int .i64))))))))) x3),(330,.var 79 [.v (.sl (.pr (.int .i64) (.pr (.int .i64) (.pr .str (.pr .bool (.pr (.sl .str) (.sl (.int .i64)))))))) x1,.row 350,.row 380,.v .flt x4]),(11,.var 75 [.ptr 330 0]),(12,.var 57 [.v .str x5,.v .str x6,.v .bool x7,.v (.int .i64) x8,.v (.int .i64) x9,.v .bool x10,.v .str x11,.v (.int .i64) x12,.v (.int .i64) x13,.v .flt x14,.v .bool x15,.v .bool x16,.v (.sl (.int .i64)) x17])],K=>wqar k x0 x1 x2 x3 x4 x5 x6 x7 x8 x9 x10 x11 x12 x13 x14 x15 x16 x17 (fun y0 y1 y2 y3 y4 y5 y6 y7 y8 y9 y10 y11 y12 y13 y14 y15 y16 y17=>K (.ret [.v .bool y17] [(350,.row 64 (.pr .str (.sl (.int .i64))) y1),(380,.row 57 (.pr .str (.pr .str (.pr .bool (.pr (.int .i64) (.pr (.int .i64) (.pr .bool (.pr (.pr .str (.pr (.int .i64) (.pr (.int .i64) (.pr .flt (.pr .bool .bool))))) (.sl (.int .i64))))))))) y2),(330,.var 79 [.v (.sl (.pr (.int .i64) (.pr (.int .i64) (.pr .str (.pr .bool (.pr (.sl .str) (.sl (.int .i64)))))))) y0,.row 350,.row 380,.v .flt y3]),(11,.var 75 [.ptr 330 0]),(12,.var 57 [.v .str y4,.v .str y5,.v .bool y6,.v (.int .i64) y7,.v (.int .i64) y8,.v .bool y9,.v .str y10,.v (.int .i64) y11,.v (.int .i64) y12,.v .flt y13,.v .bool y14,.v .bool y15,.v (.sl (.int .i64)) y16])]))
 |_,_,_=>none
theorem wqqq(k:Nat): DOK Tryz.prog 205 (wq6q k):=by
 intro ps hp R K r h
 have h:wq6q k ps hp K=some r:=h
 unfold wq6q at h
 split at h
 ·rw[←wqnk]at h
  exact fnW_ok ⟨tyT_ok,(wqd (wqtp k) CTab.nil_ok),fun _ _=>rfl⟩ mixed (by kernel_rfl) (by kernel_rfl) h fun o ho=>by unfold wqdm at ho;split at ho<;>first|exact ho|cases ho
 ·cases h
end Go.Proofs.YtabkhphoacmcdaaGreatDoor.Pvm
end
noncomputable section
namespace Go.Proofs.YtabkhphoacmcdaaGreatDoor.Pvm
open Go Go.Proofs
abbrev wq20(R:Type): Type:=((List dT72)→(List ((List UInt8)×(List Int)))→(List dT56)→Nat→(List UInt8)→(List UInt8)→Bool→Int→Int→Bool→(List UInt8)→Int→Int→Nat→Bool→Bool→(List Int)→Int→Option R)
def wqea:List LS:=[.bor kI,.clo [.obj 300 [.obj 330 [.sl kdT72,.own 350 64 (.pr .str (.sl kI)),.own 380 57 kdT56,.any]],.obj 301 [.any,.any,.any,.any,.any,.any,.any,.any,.any,.any,.any,.any,.sl kI]]]
def wq3y{R:Type}(K:wq20 R): Out→Option R
 |.ret [.v (.int .i64) y17] [(350,.row 64 (.pr .str (.sl (.int .i64))) y1),(380,.row 57 (.pr .str (.pr .str (.pr .bool (.pr (.int .i64) (.pr (.int .i64) (.pr .bool (.pr (.pr .str (.pr (.int .i64) (.pr (.int .i64) (.pr .flt (.pr .bool .bool))))) (.sl (.int .i64))))))))) y2),(330,.var 79 [.v (.sl (.pr (.int .i64) (.pr (.int .i64) (.pr .str (.pr .bool (.pr (.sl .str) (.sl (.int .i64)))))))) y0,.row 350,.row 380,.v .flt y3]),(300,.var 75 [.ptr 330 0]),(301,.var 57 [.v .str y4,.v .str y5,.v .bool y6,.v (.int .i64) y7,.v (.int .i64) y8,.v .bool y9,.v .str y10,.v (.int .i64) y11,.v (.int .i64) y12,.v .flt y13,.v .bool y14,.v .bool y15,.v (.sl (.int .i64)) y16])]=>K y0 y1 y2 y3 y4 y5 y6 y7 y8 y9 y10 y11 y12 y13 y14 y15 y16 y17
 |_=>none
def wq5m:RetSpec:=⟨[.any],[(300,.obj 300 [.obj 330 [.sl (.pr (.int .i64) (.pr (.int .i64) (.pr .str (.pr .bool (.pr (.sl .str) (.sl (.int .i64))))))),.own 350 64 (.pr .str (.sl (.int .i64))),.own 380 57 (.pr .str (.pr .str (.pr .bool (.pr (.int .i64) (.pr (.int .i64) (.pr .bool (.pr (.pr .str (.pr (.int .i64) (.pr (.int .i64) (.pr .flt (.pr .bool .bool))))) (.sl (.int .i64))))))))),.any]]),(330,.obj 330 [.sl (.pr (.int .i64) (.pr (.int .i64) (.pr .str (.pr .bool (.pr (.sl .str) (.sl (.int .i64))))))),.own 350 64 (.pr .str (.sl (.int .i64))),.own 380 57 (.pr .str (.pr .str (.pr .bool (.pr (.int .i64) (.pr (.int .i64) (.pr .bool (.pr (.pr .str (.pr (.int .i64) (.pr (.int .i64) (.pr .flt (.pr .bool .bool))))) (.sl (.int .i64))))))))),.any]),(301,.obj 301 [.any,.any,.any,.any,.any,.any,.any,.any,.any,.any,.any,.any,.sl (.int .i64)])],[]⟩
def wq5n(k:Nat): Ctx:=⟨tyT,[(1002,⟨[(0,.bor kI),(1,.clo [.obj 300 [.obj 330 [.sl kdT72,.own 350 64 (.pr .str (.sl kI)),.own 380 57 kdT56,.any]],.obj 301 [.any,.any,.any,.any,.any,.any,.any,.any,.any,.any,.any,.any,.sl kI]]),(7,.any),(8,.any)],[(300,.obj 300 [.obj 330 [.sl kdT72,.own 350 64 (.pr .str (.sl kI)),.own 380 57 kdT56,.any]]),(330,.obj 330 [.sl kdT72,.own 350 64 (.pr .str (.sl kI)),.own 380 57 kdT56,.any]),(301,.obj 301 [.any,.any,.any,.any,.any,.any,.any,.any,.any,.any,.any,.any,.sl kI])]⟩)],(.add 205 wqos (wq6q k) .nil),[],[300,330,301],[],@SH⟩
def wq3j(s0:(List dT72))(s1:(List ((List UInt8)×(List Int))))(s2:(List dT56))(s3:Nat)(s4 s5:(List UInt8))(s6:Bool)(s7 s8:Int)(s9:Bool)(s10:(List UInt8))(s11 s12:Int)(s13:Nat)(s14 s15:Bool)(s16 s17:(List Int))(s18 s19:Int): St:=⟨mkT [(0,.bv kI s17),(1,.clo 205 [.ptr 300 0,.ptr 301 0]),(7,.v kI s18),(8,.v kI s19)],mkH [(350,.row 64 (.pr .str (.sl kI)) s1),(380,.row 57 kdT56 s2),(330,.var 79 [.v kdT37 s0,.row 350,.row 380,.v .flt s3]),(300,.var 75 [.ptr 330 0]),(301,.var 57 [.v .str s4,.v .str s5,.v .bool s6,.v kI s7,.v kI s8,.v .bool s9,.v .str s10,.v kI s11,.v kI s12,.v .flt s13,.v .bool s14,.v .bool s15,.v (.sl kI) s16])]⟩
def wq4r(k:Nat){R:Type}(I:Nat→St→Option R)(n:Nat)(s:St)(K:wq20 R): Option R:=loopK (wq5n k) k Tryz.f110 wq5m 1002 [1,0,1,0] I n s (wq3y K)
def wq6z(k:Nat){R:Type}(E1002:((List dT72)→(List ((List UInt8)×(List Int)))→(List dT56)→Nat→(List UInt8)→(List UInt8)→Bool→Int→Int→Bool→(List UInt8)→Int→Int→Nat→Bool→Bool→(List Int)→(List Int)→Int→Int→Option R))(s0:(List dT72))(s1:(List ((List UInt8)×(List Int))))(s2:(List dT56))(s3:Nat)(s4 s5:(List UInt8))(s6:Bool)(s7 s8:Int)(s9:Bool)(s10:(List UInt8))(s11 s12:Int)(s13:Nat)(s14 s15:Bool)(s16 s17:(List Int))(s18 s19:Int)(K:wq20 R): Option R:=cond (decide (s19<s18)) (cond (inb s19 (s17.length:Int)) (wqar k (s17.getD s19.toNat kI.zero) s0 s1 s2 s3 s4 s5 s6 s7 s8 s9 s10 s11 s12 s13 s14 s15 s16 (fun y24 y25 y26 y27 y28 y29 y30 y31 y32 y33 y34 y35 y36 y37 y38 y39 y40 y41=>cond y41 (K y24 y25 y26 y27 y28 y29 y30 y31 y32 y33 y34 y35 y36 y37 y38 y39 y40 s19) (E1002 y24 y25 y26 y27 y28 y29 y30 y31 y32 y33 y34 y35 y36 y37 y38 y39 y40 s17 s18 (@Go.IntKind.wrap Go.IntKind.i64 (s19+1))))) none) (K s0 s1 s2 s3 s4 s5 s6 s7 s8 s9 s10 s11 s12 s13 s14 s15 s16 (@Neg.neg Int @Int.instNegInt (1:Int)))
theorem wqb8(k:Nat){R:Type}(I:Nat→St→Option R)(s0:(List dT72))(s1:(List ((List UInt8)×(List Int))))(s2:(List dT56))(s3:Nat)(s4 s5:(List UInt8))(s6:Bool)(s7 s8:Int)(s9:Bool)(s10:(List UInt8))(s11 s12:Int)(s13:Nat)(s14 s15:Bool)(s16 s17:(List Int))(s18 s19:Int)(K:wq20 R): bodyK (wq5n k) k Tryz.f110 wq5m [1,0,1,0,0] I (wq3j s0 s1 s2 s3 s4 s5 s6 s7 s8 s9 s10 s11 s12 s13 s14 s15 s16 s17 s18 s19) (wq3y K)=wq6z k (fun s0 s1 s2 s3 s4 s5 s6 s7 s8 s9 s10 s11 s12 s13 s14 s15 s16 s17 s18 s19=>I 1002 (wq3j s0 s1 s2 s3 s4 s5 s6 s7 s8 s9 s10 s11 s12 s13 s14 s15 s16 s17 s18 s19)) s0 s1 s2 s3 s4 s5 s6 s7 s8 s9 s10 s11 s12 s13 s14 s15 s16 s17 s18 s19 K:=by kernel_rfl
def wq8w(k:Nat){R:Type}(E1002:((List dT72)→(List ((List UInt8)×(List Int)))→(List dT56)→Nat→(List UInt8)→(List UInt8)→Bool→Int→Int→Bool→(List UInt8)→Int→Int→Nat→Bool→Bool→(List Int)→(List Int)→Int→Int→Option R))(x0:(List Int))(x1:(List dT72))(x2:(List ((List UInt8)×(List Int))))(x3:(List dT56))(x4:Nat)(x5 x6:(List UInt8))(x7:Bool)(x8 x9:Int)(x10:Bool)(x11:(List UInt8))(x12 x13:Int)(x14:Nat)(x15 x16:Bool)(x17:(List Int))(K:wq20 R): Option R:=E1002 x1 x2 x3 x4 x5 x6 x7 x8 x9 x10 x11 x12 x13 x14 x15 x16 x17 x0 (x0.length:Int) 0
def wq4s(k:Nat){R:Type}: Nat→(List dT72)→(List ((List UInt8)×(List Int)))→(List dT56)→Nat→(List UInt8)→(List UInt8)→Bool→Int→Int→Bool→(List UInt8)→Int→Int→Nat→Bool→Bool→(List Int)→(List Int)→Int→Int→((List dT72)→(List ((List UInt8)×(List Int)))→(List dT56)→Nat→(List UInt8)→(List UInt8)→Bool→Int→Int→Bool→(List UInt8)→Int→Int→Nat→Bool→Bool→(List Int)→Int→Option R)→Option R
 |0,_,_,_,_,_,_,_,_,_,_,_,_,_,_,_,_,_,_,_,_,_=>none
 |n+1,s0,s1,s2,s3,s4,s5,s6,s7,s8,s9,s10,s11,s12,s13,s14,s15,s16,s17,s18,s19,K=>wq6z k (fun s0 s1 s2 s3 s4 s5 s6 s7 s8 s9 s10 s11 s12 s13 s14 s15 s16 s17 s18 s19=>wq4s k n s0 s1 s2 s3 s4 s5 s6 s7 s8 s9 s10 s11 s12 s13 s14 s15 s16 s17 s18 s19 K) s0 s1 s2 s3 s4 s5 s6 s7 s8 s9 s10 s11 s12 s13 s14 s15 s16 s17 s18 s19 K
theorem wqb9(k:Nat){R:Type}(I:Nat→St→Option R)(K:wq20 R)(n:Nat): ∀(s0:(List dT72)) (s1:(List ((List UInt8)×(List Int)))) (s2:(List dT56)) (s3:Nat) (s4 s5:(List UInt8)) (s6:Bool) (s7 s8:Int) (s9:Bool) (s10:(List UInt8)) (s11 s12:Int) (s13:Nat) (s14 s15:Bool) (s16 s17:(List Int)) (s18 s19:Int),wq4r k I n (wq3j s0 s1 s2 s3 s4 s5 s6 s7 s8 s9 s10 s11 s12 s13 s14 s15 s16 s17 s18 s19) K=wq4s k n s0 s1 s2 s3 s4 s5 s6 s7 s8 s9 s10 s11 s12 s13 s14 s15 s16 s17 s18 s19 K:=by
 induction n with
 |zero=>intros;rfl
 |succ n ih =>
  intro s0 s1 s2 s3 s4 s5 s6 s7 s8 s9 s10 s11 s12 s13 s14 s15 s16 s17 s18 s19
  refine(?_:_=_).trans ((wqb8 k (upI 1002 (fun s=>wq4r k I n s K) I) s0 s1 s2 s3 s4 s5 s6 s7 s8 s9 s10 s11 s12 s13 s14 s15 s16 s17 s18 s19 K).trans ?_)
  ·rfl
  ·simp only[wq43,ih]<;>rfl
def wq5x(k:Nat){R:Type}(x0:(List Int))(x1:(List dT72))(x2:(List ((List UInt8)×(List Int))))(x3:(List dT56))(x4:Nat)(x5 x6:(List UInt8))(x7:Bool)(x8 x9:Int)(x10:Bool)(x11:(List UInt8))(x12 x13:Int)(x14:Nat)(x15 x16:Bool)(x17:(List Int))(K:wq20 R): Option R:=wq8w k (fun s0 s1 s2 s3 s4 s5 s6 s7 s8 s9 s10 s11 s12 s13 s14 s15 s16 s17 s18 s19=>wq4s k k s0 s1 s2 s3 s4 s5 s6 s7 s8 s9 s10 s11 s12 s13 s14 s15 s16 s17 s18 s19 K) x0 x1 x2 x3 x4 x5 x6 x7 x8 x9 x10 x11 x12 x13 x14 x15 x16 x17 K
theorem wqdw(k:Nat){R:Type}(x0:(List Int))(x1:(List dT72))(x2:(List ((List UInt8)×(List Int))))(x3:(List dT56))(x4:Nat)(x5 x6:(List UInt8))(x7:Bool)(x8 x9:Int)(x10:Bool)(x11:(List UInt8))(x12 x13:Int)(x14:Nat)(x15 x16:Bool)(x17:(List Int))(K:wq20 R): fnW (wq5n k) k Tryz.f110 wq5m [.bv kI x0,.clo 205 [.ptr 300 0,.ptr 301 0]] [(350,.row 64 (.pr .str (.sl kI)) x2),(380,.row 57 kdT56 x3),(330,.var 79 [.v kdT37 x1,.row 350,.row 380,.v .flt x4]),(300,.var 75 [.ptr 330 0]),(301,.var 57 [.v .str x5,.v .str x6,.v .bool x7,.v kI x8,.v kI x9,.v .bool x10,.v .str x11,.v kI x12,.v kI x13,.v .flt x14,.v .bool x15,.v .bool x16,.v (.sl kI) x17])] (wq3y K)=wq5x k x0 x1 x2 x3 x4 x5 x6 x7 x8 x9 x10 x11 x12 x13 x14 x15 x16 x17 K:=by
 refine Eq.trans (b:=wq8w k (fun s0 s1 s2 s3 s4 s5 s6 s7 s8 s9 s10 s11 s12 s13 s14 s15 s16 s17 s18 s19=>wq4r k (fun _ _=>none) k (wq3j s0 s1 s2 s3 s4 s5 s6 s7 s8 s9 s10 s11 s12 s13 s14 s15 s16 s17 s18 s19) K) x0 x1 x2 x3 x4 x5 x6 x7 x8 x9 x10 x11 x12 x13 x14 x15 x16 x17 K) (by kernel_rfl) ?_
 simp only[wqb9]<;>rfl
def wq44(k:Nat){R:Type}: List PV→List (Nm×HObj)→(Out→Option R)→Option R
 |[.bv (.int .i64) x0,.clo 205 [.ptr 300 0,.ptr 301 0]],[(350,.row 64 (.pr .str (.sl (.int .i64))) x2),(380,.row 57 (.pr .str (.pr .str (.pr .bool (.pr (.int .i64) (.pr (.int .i64) (.pr .bool (.pr (.pr .str (.pr (.int .i64) (.pr (.int .i64) (.pr .flt (.pr .bool .bool))))) (.sl (.int .i64))))))))) x3),(330,.var 79 [.v (.sl (.pr (.int .i64) (.pr (.int .i64) (.pr .str (.pr .bool (.pr (.sl .str) (.sl (.int .i64)))))))) x1,.row 350,.row 380,.v .flt x4]),(300,.var 75 [.ptr 330 0]),(301,.var 57 [.v .str x5,.v .str x6,.v .bool x7,.v (.int .i64) x8,.v (.int .i64) x9,.v .bool x10,.v .str x11,.v (.int .i64) x12,.v (.int .i64) x13,.v .flt x14,.v .bool x15,.v .bool x16,.v (.sl (.int .i64)) x17])],K=>wq5x k x0 x1 x2 x3 x4 x5 x6 x7 x8 x9 x10 x11 x12 x13 x14 x15 x16 x17 (fun y0 y1 y2 y3 y4 y5 y6 y7 y8 y9 y10 y11 y12 y13 y14 y15 y16 y17=>K (.ret [.v (.int .i64) y17] [(350,.row 64 (.pr .str (.sl (.int .i64))) y1),(380,.row 57 (.pr .str (.pr .str (.pr .bool (.pr (.int .i64) (.pr (.int .i64) (.pr .bool (.pr (.pr .str (.pr (.int .i64) (.pr (.int .i64) (.pr .flt (.pr .bool .bool))))) (.sl (.int .i64))))))))) y2),(330,.var 79 [.v (.sl (.pr (.int .i64) (.pr (.int .i64) (.pr .str (.pr .bool (.pr (.sl .str) (.sl (.int .i64)))))))) y0,.row 350,.row 380,.v .flt y3]),(300,.var 75 [.ptr 330 0]),(301,.var 57 [.v .str y4,.v .str y5,.v .bool y6,.v (.int .i64) y7,.v (.int .i64) y8,.v .bool y9,.v .str y10,.v (.int .i64) y11,.v (.int .i64) y12,.v .flt y13,.v .bool y14,.v .bool y15,.v (.sl (.int .i64)) y16])]))
 |_,_,_=>none
theorem wqfl(k:Nat): DOK Tryz.prog 110 (wq44 k):=by
 intro ps hp R K r h
 have h:wq44 k ps hp K=some r:=h
 unfold wq44 at h
 split at h
 ·rw[←wqdw]at h
  exact fnW_ok ⟨tyT_ok,(wqd (wqqq k) CTab.nil_ok),fun _ _=>rfl⟩ mixed (by kernel_rfl) (by kernel_rfl) h fun o ho=>by unfold wq3y at ho;split at ho<;>first|exact ho|cases ho
 ·cases h
end Go.Proofs.YtabkhphoacmcdaaGreatDoor.Pvm
end
noncomputable section
namespace Go.Proofs.YtabkhphoacmcdaaGreatDoor.Pvm
open Go Go.Proofs
abbrev wq3u(R:Type): Type:=((List dT72)→(List ((List UInt8)×(List Int)))→(List dT56)→Nat→(List UInt8)→(List UInt8)→Bool→Int→Int→Bool→(List UInt8)→Int→Int→Nat→Bool→Bool→(List Int)→Bool→Option R)
def wqcl:List LS:=[.bor kI,.clo [.obj 300 [.obj 330 [.sl kdT72,.own 350 64 (.pr .str (.sl kI)),.own 380 57 kdT56,.any]],.obj 301 [.any,.any,.any,.any,.any,.any,.any,.any,.any,.any,.any,.any,.sl kI]]]
def wq6n{R:Type}(K:wq3u R): Out→Option R
 |.ret [.v .bool y17] [(350,.row 64 (.pr .str (.sl (.int .i64))) y1),(380,.row 57 (.pr .str (.pr .str (.pr .bool (.pr (.int .i64) (.pr (.int .i64) (.pr .bool (.pr (.pr .str (.pr (.int .i64) (.pr (.int .i64) (.pr .flt (.pr .bool .bool))))) (.sl (.int .i64))))))))) y2),(330,.var 79 [.v (.sl (.pr (.int .i64) (.pr (.int .i64) (.pr .str (.pr .bool (.pr (.sl .str) (.sl (.int .i64)))))))) y0,.row 350,.row 380,.v .flt y3]),(300,.var 75 [.ptr 330 0]),(301,.var 57 [.v .str y4,.v .str y5,.v .bool y6,.v (.int .i64) y7,.v (.int .i64) y8,.v .bool y9,.v .str y10,.v (.int .i64) y11,.v (.int .i64) y12,.v .flt y13,.v .bool y14,.v .bool y15,.v (.sl (.int .i64)) y16])]=>K y0 y1 y2 y3 y4 y5 y6 y7 y8 y9 y10 y11 y12 y13 y14 y15 y16 y17
 |_=>none
def wqd3:RetSpec:=⟨[.any],[(300,.obj 300 [.obj 330 [.sl (.pr (.int .i64) (.pr (.int .i64) (.pr .str (.pr .bool (.pr (.sl .str) (.sl (.int .i64))))))),.own 350 64 (.pr .str (.sl (.int .i64))),.own 380 57 (.pr .str (.pr .str (.pr .bool (.pr (.int .i64) (.pr (.int .i64) (.pr .bool (.pr (.pr .str (.pr (.int .i64) (.pr (.int .i64) (.pr .flt (.pr .bool .bool))))) (.sl (.int .i64))))))))),.any]]),(330,.obj 330 [.sl (.pr (.int .i64) (.pr (.int .i64) (.pr .str (.pr .bool (.pr (.sl .str) (.sl (.int .i64))))))),.own 350 64 (.pr .str (.sl (.int .i64))),.own 380 57 (.pr .str (.pr .str (.pr .bool (.pr (.int .i64) (.pr (.int .i64) (.pr .bool (.pr (.pr .str (.pr (.int .i64) (.pr (.int .i64) (.pr .flt (.pr .bool .bool))))) (.sl (.int .i64))))))))),.any]),(301,.obj 301 [.any,.any,.any,.any,.any,.any,.any,.any,.any,.any,.any,.any,.sl (.int .i64)])],[]⟩
def wqd4(k:Nat): Ctx:=⟨tyT,[],(.add 110 wqea (wq44 k) .nil),[],[300,330,301],[],@SH⟩
def wqdx(k:Nat){R:Type}(x0:(List Int))(x1:(List dT72))(x2:(List ((List UInt8)×(List Int))))(x3:(List dT56))(x4:Nat)(x5 x6:(List UInt8))(x7:Bool)(x8 x9:Int)(x10:Bool)(x11:(List UInt8))(x12 x13:Int)(x14:Nat)(x15 x16:Bool)(x17:(List Int))(K:wq3u R): Option R:=wq5x k x0 x1 x2 x3 x4 x5 x6 x7 x8 x9 x10 x11 x12 x13 x14 x15 x16 x17 (fun y21 y22 y23 y24 y25 y26 y27 y28 y29 y30 y31 y32 y33 y34 y35 y36 y37 y38=>K y21 y22 y23 y24 y25 y26 y27 y28 y29 y30 y31 y32 y33 y34 y35 y36 y37 (decide (y38≥0)))
def wq32(k:Nat){R:Type}(x0:(List Int))(x1:(List dT72))(x2:(List ((List UInt8)×(List Int))))(x3:(List dT56))(x4:Nat)(x5 x6:(List UInt8))(x7:Bool)(x8 x9:Int)(x10:Bool)(x11:(List UInt8))(x12 x13:Int)(x14:Nat)(x15 x16:Bool)(x17:(List Int))(K:wq3u R): Option R:=wqdx k x0 x1 x2 x3 x4 x5 x6 x7 x8 x9 x10 x11 x12 x13 x14 x15 x16 x17 K
theorem wqce(k:Nat){R:Type}(x0:(List Int))(x1:(List dT72))(x2:(List ((List UInt8)×(List Int))))(x3:(List dT56))(x4:Nat)(x5 x6:(List UInt8))(x7:Bool)(x8 x9:Int)(x10:Bool)(x11:(List UInt8))(x12 x13:Int)(x14:Nat)(x15 x16:Bool)(x17:(List Int))(K:wq3u R): fnW (wqd4 k) k Tryz.f65 wqd3 [.bv kI x0,.clo 205 [.ptr 300 0,.ptr 301 0]] [(350,.row 64 (.pr .str (.sl kI)) x2),(380,.row 57 kdT56 x3),(330,.var 79 [.v kdT37 x1,.row 350,.row 380,.v .flt x4]),(300,.var 75 [.ptr 330 0]),(301,.var 57 [.v .str x5,.v .str x6,.v .bool x7,.v kI x8,.v kI x9,.v .bool x10,.v .str x11,.v kI x12,.v kI x13,.v .flt x14,.v .bool x15,.v .bool x16,.v (.sl kI) x17])] (wq6n K)=wq32 k x0 x1 x2 x3 x4 x5 x6 x7 x8 x9 x10 x11 x12 x13 x14 x15 x16 x17 K:=by
 kernel_rfl
def wq3o(k:Nat){R:Type}: List PV→List (Nm×HObj)→(Out→Option R)→Option R
 |[.bv (.int .i64) x0,.clo 205 [.ptr 300 0,.ptr 301 0]],[(350,.row 64 (.pr .str (.sl (.int .i64))) x2),(380,.row 57 (.pr .str (.pr .str (.pr .bool (.pr (.int .i64) (.pr (.int .i64) (.pr .bool (.pr (.pr .str (.pr (.int .i64) (.pr (.int .i64) (.pr .flt (.pr .bool .bool))))) (.sl (.int .i64))))))))) x3),(330,.var 79 [.v (.sl (.pr (.int .i64) (.pr (.int .i64) (.pr .str (.pr .bool (.pr (.sl .str) (.sl (.int .i64)))))))) x1,.row 350,.row 380,.v .flt x4]),(300,.var 75 [.ptr 330 0]),(301,.var 57 [.v .str x5,.v .str x6,.v .bool x7,.v (.int .i64) x8,.v (.int .i64) x9,.v .bool x10,.v .str x11,.v (.int .i64) x12,.v (.int .i64) x13,.v .flt x14,.v .bool x15,.v .bool x16,.v (.sl (.int .i64)) x17])],K=>wq32 k x0 x1 x2 x3 x4 x5 x6 x7 x8 x9 x10 x11 x12 x13 x14 x15 x16 x17 (fun y0 y1 y2 y3 y4 y5 y6 y7 y8 y9 y10 y11 y12 y13 y14 y15 y16 y17=>K (.ret [.v .bool y17] [(350,.row 64 (.pr .str (.sl (.int .i64))) y1),(380,.row 57 (.pr .str (.pr .str (.pr .bool (.pr (.int .i64) (.pr (.int .i64) (.pr .bool (.pr (.pr .str (.pr (.int .i64) (.pr (.int .i64) (.pr .flt (.pr .bool .bool))))) (.sl (.int .i64))))))))) y2),(330,.var 79 [.v (.sl (.pr (.int .i64) (.pr (.int .i64) (.pr .str (.pr .bool (.pr (.sl .str) (.sl (.int .i64)))))))) y0,.row 350,.row 380,.v .flt y3]),(300,.var 75 [.ptr 330 0]),(301,.var 57 [.v .str y4,.v .str y5,.v .bool y6,.v (.int .i64) y7,.v (.int .i64) y8,.v .bool y9,.v .str y10,.v (.int .i64) y11,.v (.int .i64) y12,.v .flt y13,.v .bool y14,.v .bool y15,.v (.sl (.int .i64)) y16])]))
 |_,_,_=>none
theorem wqdy(k:Nat): DOK Tryz.prog 65 (wq3o k):=by
 intro ps hp R K r h
 have h:wq3o k ps hp K=some r:=h
 unfold wq3o at h
 split at h
 ·rw[←wqce]at h
  exact fnW_ok ⟨tyT_ok,(wqd (wqfl k) CTab.nil_ok),fun _ _=>rfl⟩ mixed (by kernel_rfl) (by kernel_rfl) h fun o ho=>by unfold wq6n at ho;split at ho<;>first|exact ho|cases ho
 ·cases h
end Go.Proofs.YtabkhphoacmcdaaGreatDoor.Pvm
end
noncomputable section
namespace Go.Proofs.YtabkhphoacmcdaaGreatDoor.Pvm
open Go Go.Proofs
def wq6o(wq15:(R:Type)→(List Int)→(List dT72)→(List ((List UInt8)×(List Int)))→(List dT56)→Nat→(List UInt8)→(List UInt8)→Bool→Int→Int→Bool→(List UInt8)→Int→Int→Nat→Bool→Bool→(List Int)→((List dT72)→(List ((List UInt8)×(List Int)))→(List dT56)→Nat→(List UInt8)→(List UInt8)→Bool→Int→Int→Bool→(List UInt8)→Int→Int→Nat→Bool→Bool→(List Int)→Bool→Option R)→Option R){R:Type}: List PV→List (Nm×HObj)→(Out→Option R)→Option R
 |[.bv (.int .i64) x0,.clo 205 [.ptr 300 0,.ptr 301 0]],[(350,.row 64 (.pr .str (.sl (.int .i64))) x2),(380,.row 57 (.pr .str (.pr .str (.pr .bool (.pr (.int .i64) (.pr (.int .i64) (.pr .bool (.pr (.pr .str (.pr (.int .i64) (.pr (.int .i64) (.pr .flt (.pr .bool .bool))))) (.sl (.int .i64))))))))) x3),(330,.var 79 [.v (.sl (.pr (.int .i64) (.pr (.int .i64) (.pr .str (.pr .bool (.pr (.sl .str) (.sl (.int .i64)))))))) x1,.row 350,.row 380,.v .flt x4]),(300,.var 75 [.ptr 330 0]),(301,.var 57 [.v .str x5,.v .str x6,.v .bool x7,.v (.int .i64) x8,.v (.int .i64) x9,.v .bool x10,.v .str x11,.v (.int .i64) x12,.v (.int .i64) x13,.v .flt x14,.v .bool x15,.v .bool x16,.v (.sl (.int .i64)) x17])],K=>wq15 R x0 x1 x2 x3 x4 x5 x6 x7 x8 x9 x10 x11 x12 x13 x14 x15 x16 x17 (fun y0 y1 y2 y3 y4 y5 y6 y7 y8 y9 y10 y11 y12 y13 y14 y15 y16 y17=>K (.ret [.v .bool y17] [(350,.row 64 (.pr .str (.sl (.int .i64))) y1),(380,.row 57 (.pr .str (.pr .str (.pr .bool (.pr (.int .i64) (.pr (.int .i64) (.pr .bool (.pr (.pr .str (.pr (.int .i64) (.pr (.int .i64) (.pr .flt (.pr .bool .bool))))) (.sl (.int .i64))))))))) y2),(330,.var 79 [.v (.sl (.pr (.int .i64) (.pr (.int .i64) (.pr .str (.pr .bool (.pr (.sl .str) (.sl (.int .i64)))))))) y0,.row 350,.row 380,.v .flt y3]),(300,.var 75 [.ptr 330 0]),(301,.var 57 [.v .str y4,.v .str y5,.v .bool y6,.v (.int .i64) y7,.v (.int .i64) y8,.v .bool y9,.v .str y10,.v (.int .i64) y11,.v (.int .i64) y12,.v .flt y13,.v .bool y14,.v .bool y15,.v (.sl (.int .i64)) y16])]))
 |_,_,_=>none
end Go.Proofs.YtabkhphoacmcdaaGreatDoor.Pvm
end
noncomputable section
namespace Go.Proofs.YtabkhphoacmcdaaGreatDoor.Pvm
open Go Go.Proofs
abbrev wq33:Type 1:=(R:Type)→(List dT72)→(List ((List UInt8)×(List Int)))→(List dT56)→Nat→Int→Int→Int→Int→((List dT72)→(List ((List UInt8)×(List Int)))→(List dT56)→Nat→(List Int)→Option R)→((List dT72)→(List ((List UInt8)×(List Int)))→(List dT56)→Nat→Int→Int→Option R)→Option R
abbrev wq2q:Type 1:=(R:Type)→(List dT72)→(List ((List UInt8)×(List Int)))→(List dT56)→Nat→Int→(List UInt8)→(List UInt8)→Bool→Int→Int→Bool→(List UInt8)→Int→Int→Nat→Bool→Bool→(List Int)→(List Int)→Int→((List dT72)→(List ((List UInt8)×(List Int)))→(List dT56)→Nat→Int→Option R)→((List dT72)→(List ((List UInt8)×(List Int)))→(List dT56)→Nat→Int→Int→Option R)→Option R
abbrev wq2s:Type 1:=(R:Type)→(List Int)→(List dT72)→(List ((List UInt8)×(List Int)))→(List dT56)→Nat→(List UInt8)→(List UInt8)→Bool→Int→Int→Bool→(List UInt8)→Int→Int→Nat→Bool→Bool→(List Int)→((List dT72)→(List ((List UInt8)×(List Int)))→(List dT56)→Nat→(List UInt8)→(List UInt8)→Bool→Int→Int→Bool→(List UInt8)→Int→Int→Nat→Bool→Bool→(List Int)→Bool→Option R)→Option R
abbrev wq4h:Type 1:=(R:Type)→(List dT72)→(List ((List UInt8)×(List Int)))→(List dT56)→Nat→Int→((List dT72)→(List ((List UInt8)×(List Int)))→(List dT56)→Nat→(List UInt8)→Int→Int→Nat→Bool→Bool→Option R)→((List dT72)→(List ((List UInt8)×(List Int)))→(List dT56)→Nat→Int→Int→Option R)→Option R
abbrev wq2t(R:Type): Type:=((List dT72)→(List ((List UInt8)×(List Int)))→(List dT56)→Nat→(List Int)→Option R)
abbrev wq1r(R:Type): Type:=((List dT72)→(List ((List UInt8)×(List Int)))→(List dT56)→Nat→Int→Int→Option R)
def wqcm:List LS:=[.obj 1 [.sl kdT72,.own 21 64 (.pr .str (.sl kI)),.own 51 57 kdT56,.any],.any,.any,.any,.any]
def wqh6(wqj:wq33){R:Type}: List PV→List (Nm×HObj)→(Out→Option R)→Option R
 |[.ptr 1 0,.v (.int .i64) x4,.v (.int .i64) x5,.v (.int .i64) x6,.v (.int .i64) x7],[(21,.row 64 (.pr .str (.sl (.int .i64))) x1),(51,.row 57 (.pr .str (.pr .str (.pr .bool (.pr (.int .i64) (.pr (.int .i64) (.pr .bool (.pr (.pr .str (.pr (.int .i64) (.pr (.int .i64) (.pr .flt (.pr .bool .bool))))) (.sl (.int .i64))))))))) x2),(1,.var 79 [.v (.sl (.pr (.int .i64) (.pr (.int .i64) (.pr .str (.pr .bool (.pr (.sl .str) (.sl (.int .i64)))))))) x0,.row 21,.row 51,.v .flt x3])],K=>wqj R x0 x1 x2 x3 x4 x5 x6 x7 (fun y0 y1 y2 y3 y4=>K (.ret [.v (.sl (.int .i64)) y4] [(21,.row 64 (.pr .str (.sl (.int .i64))) y1),(51,.row 57 (.pr .str (.pr .str (.pr .bool (.pr (.int .i64) (.pr (.int .i64) (.pr .bool (.pr (.pr .str (.pr (.int .i64) (.pr (.int .i64) (.pr .flt (.pr .bool .bool))))) (.sl (.int .i64))))))))) y2),(1,.var 79 [.v (.sl (.pr (.int .i64) (.pr (.int .i64) (.pr .str (.pr .bool (.pr (.sl .str) (.sl (.int .i64)))))))) y0,.row 21,.row 51,.v .flt y3])])) (fun z0 z1 z2 z3 z4 z5=>K (.pan (.ifc 29 (.agg [.v (.int .i64) z4,.v (.int .i64) z5])) [(21,.row 64 (.pr .str (.sl (.int .i64))) z1),(51,.row 57 (.pr .str (.pr .str (.pr .bool (.pr (.int .i64) (.pr (.int .i64) (.pr .bool (.pr (.pr .str (.pr (.int .i64) (.pr (.int .i64) (.pr .flt (.pr .bool .bool))))) (.sl (.int .i64))))))))) z2),(1,.var 79 [.v (.sl (.pr (.int .i64) (.pr (.int .i64) (.pr .str (.pr .bool (.pr (.sl .str) (.sl (.int .i64)))))))) z0,.row 21,.row 51,.v .flt z3])]))
 |_,_,_=>none
def wqqr:List LS:=[.obj 1 [.sl kdT72,.own 21 64 (.pr .str (.sl kI)),.own 51 57 kdT56,.any],.any,.ag [.any,.any,.any,.any,.any,.any,.any,.any,.any,.any,.any,.any,.sl kI],.bor kI,.any]
def wqff(wqi:wq2q){R:Type}: List PV→List (Nm×HObj)→(Out→Option R)→Option R
 |[.ptr 1 0,.v (.int .i64) x4,.agg [.v .str x5,.v .str x6,.v .bool x7,.v (.int .i64) x8,.v (.int .i64) x9,.v .bool x10,.v .str x11,.v (.int .i64) x12,.v (.int .i64) x13,.v .flt x14,.v .bool x15,.v .bool x16,.v (.sl (.int .i64)) x17],.bv (.int .i64) x18,.v (.int .i64) x19],[(21,.row 64 (.pr .str (.sl (.int .i64))) x1),(51,.row 57 (.pr .str (.pr .str (.pr .bool (.pr (.int .i64) (.pr (.int .i64) (.pr .bool (.pr (.pr .str (.pr (.int .i64) (.pr (.int .i64) (.pr .flt (.pr .bool .bool))))) (.sl (.int .i64))))))))) x2),(1,.var 79 [.v (.sl (.pr (.int .i64) (.pr (.int .i64) (.pr .str (.pr .bool (.pr (.sl .str) (.sl (.int .i64)))))))) x0,.row 21,.row 51,.v .flt x3])],K=>wqi R x0 x1 x2 x3 x4 x5 x6 x7 x8 x9 x10 x11 x12 x13 x14 x15 x16 x17 x18 x19 (fun y0 y1 y2 y3 y4=>K (.ret [.v (.int .i64) y4] [(21,.row 64 (.pr .str (.sl (.int .i64))) y1),(51,.row 57 (.pr .str (.pr .str (.pr .bool (.pr (.int .i64) (.pr (.int .i64) (.pr .bool (.pr (.pr .str (.pr (.int .i64) (.pr (.int .i64) (.pr .flt (.pr .bool .bool))))) (.sl (.int .i64))))))))) y2),(1,.var 79 [.v (.sl (.pr (.int .i64) (.pr (.int .i64) (.pr .str (.pr .bool (.pr (.sl .str) (.sl (.int .i64)))))))) y0,.row 21,.row 51,.v .flt y3])])) (fun z0 z1 z2 z3 z4 z5=>K (.pan (.ifc 29 (.agg [.v (.int .i64) z4,.v (.int .i64) z5])) [(21,.row 64 (.pr .str (.sl (.int .i64))) z1),(51,.row 57 (.pr .str (.pr .str (.pr .bool (.pr (.int .i64) (.pr (.int .i64) (.pr .bool (.pr (.pr .str (.pr (.int .i64) (.pr (.int .i64) (.pr .flt (.pr .bool .bool))))) (.sl (.int .i64))))))))) z2),(1,.var 79 [.v (.sl (.pr (.int .i64) (.pr (.int .i64) (.pr .str (.pr .bool (.pr (.sl .str) (.sl (.int .i64)))))))) z0,.row 21,.row 51,.v .flt z3])]))
 |_,_,_=>none
def wq8r{R:Type}(K:wq2t R)(E:wq1r R): Out→Option R
 |.ret [.v (.sl (.int .i64)) y4] [(21,.row 64 (.pr .str (.sl (.int .i64))) y1),(51,.row 57 (.pr .str (.pr .str (.pr .bool (.pr (.int .i64) (.pr (.int .i64) (.pr .bool (.pr (.pr .str (.pr (.int .i64) (.pr (.int .i64) (.pr .flt (.pr .bool .bool))))) (.sl (.int .i64))))))))) y2),(1,.var 79 [.v (.sl (.pr (.int .i64) (.pr (.int .i64) (.pr .str (.pr .bool (.pr (.sl .str) (.sl (.int .i64)))))))) y0,.row 21,.row 51,.v .flt y3])]=>K y0 y1 y2 y3 y4
 |.pan (.ifc 29 (.agg [.v (.int .i64) z4,.v (.int .i64) z5])) [(21,.row 64 (.pr .str (.sl (.int .i64))) z1),(51,.row 57 (.pr .str (.pr .str (.pr .bool (.pr (.int .i64) (.pr (.int .i64) (.pr .bool (.pr (.pr .str (.pr (.int .i64) (.pr (.int .i64) (.pr .flt (.pr .bool .bool))))) (.sl (.int .i64))))))))) z2),(1,.var 79 [.v (.sl (.pr (.int .i64) (.pr (.int .i64) (.pr .str (.pr .bool (.pr (.sl .str) (.sl (.int .i64)))))))) z0,.row 21,.row 51,.v .flt z3])]=>E z0 z1 z2 z3 z4 z5
 |_=>none
def wqdz:RetSpec:=⟨[.sl (.int .i64)],[(1,.obj 1 [.sl (.pr (.int .i64) (.pr (.int .i64) (.pr .str (.pr .bool (.pr (.sl .str) (.sl (.int .i64))))))),.own 21 64 (.pr .str (.sl (.int .i64))),.own 51 57 (.pr .str (.pr .str (.pr .bool (.pr (.int .i64) (.pr (.int .i64) (.pr .bool (.pr (.pr .str (.pr (.int .i64) (.pr (.int .i64) (.pr .flt (.pr .bool .bool))))) (.sl (.int .i64))))))))),.any])],[(1,.obj 1 [.sl (.pr (.int .i64) (.pr (.int .i64) (.pr .str (.pr .bool (.pr (.sl .str) (.sl (.int .i64))))))),.own 21 64 (.pr .str (.sl (.int .i64))),.own 51 57 (.pr .str (.pr .str (.pr .bool (.pr (.int .i64) (.pr (.int .i64) (.pr .bool (.pr (.pr .str (.pr (.int .i64) (.pr (.int .i64) (.pr .flt (.pr .bool .bool))))) (.sl (.int .i64))))))))),.any])]⟩
def wqe0(k:Nat)(wqj:wq33)(wqi:wq2q): Ctx:=⟨tyT,[(1003,⟨[(0,.obj 1 [.sl kdT72,.own 21 64 (.pr .str (.sl kI)),.own 51 57 kdT56,.any]),(2,.any),(3,.any),(4,.any),(11,.own 100011 3 kI),(16,.sl kI),(17,.any),(18,.any)],[(1,.obj 1 [.sl kdT72,.own 21 64 (.pr .str (.sl kI)),.own 51 57 kdT56,.any])]⟩)],(.add 74 wqh0 (wq6e k) (.add 175 wqqr (wqff wqi) .nil)),[],[1],[],@SH⟩
def wq6r(s0:(List dT72))(s1:(List ((List UInt8)×(List Int))))(s2:(List dT56))(s3:Nat)(s4 s5 s6:Int)(s7 s8:(List Int))(s9 s10:Int): St:=⟨mkT [(0,.ptr 1 0),(2,.v kI s4),(3,.v kI s5),(4,.v kI s6),(11,.row 100011),(16,.v (.sl kI) s8),(17,.v kI s9),(18,.v kI s10)],mkH [(21,.row 64 (.pr .str (.sl kI)) s1),(51,.row 57 kdT56 s2),(1,.var 79 [.v kdT37 s0,.row 21,.row 51,.v .flt s3]),(100011,.row 3 kI s7)]⟩
def wqa5(k:Nat)(wqj:wq33)(wqi:wq2q){R:Type}(I:Nat→St→Option R)(n:Nat)(s:St)(K:wq2t R)(E:wq1r R): Option R:=loopK (wqe0 k wqj wqi) k Tryz.f129 wqdz 1003 [1,1,0,1,0] I n s (wq8r K E)
def wqfg(k:Nat)(wqj:wq33)(wqi:wq2q){R:Type}(E1003:((List dT72)→(List ((List UInt8)×(List Int)))→(List dT56)→Nat→Int→Int→Int→(List Int)→(List Int)→Int→Int→Option R))(s0:(List dT72))(s1:(List ((List UInt8)×(List Int))))(s2:(List dT56))(s3:Nat)(s4 s5 s6:Int)(s7 s8:(List Int))(s9 s10:Int)(K:wq2t R)(E:wq1r R): Option R:=cond (decide (s10<s9)) (cond (inb s10 (s8.length:Int)) (wqi R s0 s1 s2 s3 (s8.getD s10.toNat kI.zero) [] [] false s4 s5 false [] 0 0 0 false false [] s7 s6 (fun y16 y17 y18 y19 y20=>cond (fits s7.length (@List.length (@Kd.T kI) [y20]) 8) (E1003 y16 y17 y18 y19 s4 s5 s6 (s7++[y20]) s8 s9 (@Go.IntKind.wrap Go.IntKind.i64 (s10+1))) none) E) none) (K s0 s1 s2 s3 s7)
theorem wqmf(k:Nat)(wqj:wq33)(wqi:wq2q){R:Type}(I:Nat→St→Option R)(s0:(List dT72))(s1:(List ((List UInt8)×(List Int))))(s2:(List dT56))(s3:Nat)(s4 s5 s6:Int)(s7 s8:(List Int))(s9 s10:Int)(K:wq2t R)(E:wq1r R): bodyK (wqe0 k wqj wqi) k Tryz.f129 wqdz [1,1,0,1,0,0] I (wq6r s0 s1 s2 s3 s4 s5 s6 s7 s8 s9 s10) (wq8r K E)=wqfg k wqj wqi (fun s0 s1 s2 s3 s4 s5 s6 s7 s8 s9 s10=>I 1003 (wq6r s0 s1 s2 s3 s4 s5 s6 s7 s8 s9 s10)) s0 s1 s2 s3 s4 s5 s6 s7 s8 s9 s10 K E:=by kernel_rfl
def wqmg(k:Nat)(wqj:wq33)(wqi:wq2q){R:Type}(E1003:((List dT72)→(List ((List UInt8)×(List Int)))→(List dT56)→Nat→Int→Int→Int→(List Int)→(List Int)→Int→Int→Option R))(x0:(List dT72))(x1:(List ((List UInt8)×(List Int))))(x2:(List dT56))(x3:Nat)(x4 x5 x6 x7:Int)(K:wq2t R)(E:wq1r R): Option R:=wq3x k x0 x4 [100,101,115,99,114,105,112,116,111,114,115] (fun y13=>E1003 x0 x1 x2 x3 x5 x6 x7 [] y13 (y13.length:Int) 0) (fun y13 y14=>E x0 x1 x2 x3 y13 y14)
def wqa6(k:Nat)(wqj:wq33)(wqi:wq2q){R:Type}: Nat→(List dT72)→(List ((List UInt8)×(List Int)))→(List dT56)→Nat→Int→Int→Int→(List Int)→(List Int)→Int→Int→((List dT72)→(List ((List UInt8)×(List Int)))→(List dT56)→Nat→(List Int)→Option R)→((List dT72)→(List ((List UInt8)×(List Int)))→(List dT56)→Nat→Int→Int→Option R)→Option R
 |0,_,_,_,_,_,_,_,_,_,_,_,_,_=>none
 |n+1,s0,s1,s2,s3,s4,s5,s6,s7,s8,s9,s10,K,E=>wqfg k wqj wqi (fun s0 s1 s2 s3 s4 s5 s6 s7 s8 s9 s10=>wqa6 k wqj wqi n s0 s1 s2 s3 s4 s5 s6 s7 s8 s9 s10 K E) s0 s1 s2 s3 s4 s5 s6 s7 s8 s9 s10 K E
theorem wqmh(k:Nat)(wqj:wq33)(wqi:wq2q){R:Type}(I:Nat→St→Option R)(K:wq2t R)(E:wq1r R)(n:Nat): ∀(s0:(List dT72)) (s1:(List ((List UInt8)×(List Int)))) (s2:(List dT56)) (s3:Nat) (s4 s5 s6:Int) (s7 s8:(List Int)) (s9 s10:Int),wqa5 k wqj wqi I n (wq6r s0 s1 s2 s3 s4 s5 s6 s7 s8 s9 s10) K E=wqa6 k wqj wqi n s0 s1 s2 s3 s4 s5 s6 s7 s8 s9 s10 K E:=by
 induction n with
 |zero=>intros;rfl
 |succ n ih =>
  intro s0 s1 s2 s3 s4 s5 s6 s7 s8 s9 s10
  refine(?_:_=_).trans ((wqmf k wqj wqi (upI 1003 (fun s=>wqa5 k wqj wqi I n s K E) I) s0 s1 s2 s3 s4 s5 s6 s7 s8 s9 s10 K E).trans ?_)
  ·rfl
  ·simp only[wq43,ih]<;>rfl
def wqa7{R:Type}(K:((List dT72)→(List ((List UInt8)×(List Int)))→(List dT56)→Nat→Int→Option R))(E:wq1r R): Out→Option R
 |.ret [.v (.int .i64) y4] [(21,.row 64 (.pr .str (.sl (.int .i64))) y1),(51,.row 57 (.pr .str (.pr .str (.pr .bool (.pr (.int .i64) (.pr (.int .i64) (.pr .bool (.pr (.pr .str (.pr (.int .i64) (.pr (.int .i64) (.pr .flt (.pr .bool .bool))))) (.sl (.int .i64))))))))) y2),(1,.var 79 [.v (.sl (.pr (.int .i64) (.pr (.int .i64) (.pr .str (.pr .bool (.pr (.sl .str) (.sl (.int .i64)))))))) y0,.row 21,.row 51,.v .flt y3])]=>K y0 y1 y2 y3 y4
 |.pan (.ifc 29 (.agg [.v (.int .i64) z4,.v (.int .i64) z5])) [(21,.row 64 (.pr .str (.sl (.int .i64))) z1),(51,.row 57 (.pr .str (.pr .str (.pr .bool (.pr (.int .i64) (.pr (.int .i64) (.pr .bool (.pr (.pr .str (.pr (.int .i64) (.pr (.int .i64) (.pr .flt (.pr .bool .bool))))) (.sl (.int .i64))))))))) z2),(1,.var 79 [.v (.sl (.pr (.int .i64) (.pr (.int .i64) (.pr .str (.pr .bool (.pr (.sl .str) (.sl (.int .i64)))))))) z0,.row 21,.row 51,.v .flt z3])]=>E z0 z1 z2 z3 z4 z5
 |_=>none
def wqh7:RetSpec:=⟨[.any],[(1,.obj 1 [.sl (.pr (.int .i64) (.pr (.int .i64) (.pr .str (.pr .bool (.pr (.sl .str) (.sl (.int .i64))))))),.own 21 64 (.pr .str (.sl (.int .i64))),.own 51 57 (.pr .str (.pr .str (.pr .bool (.pr (.int .i64) (.pr (.int .i64) (.pr .bool (.pr (.pr .str (.pr (.int .i64) (.pr (.int .i64) (.pr .flt (.pr .bool .bool))))) (.sl (.int .i64))))))))),.any])],[(1,.obj 1 [.sl (.pr (.int .i64) (.pr (.int .i64) (.pr .str (.pr .bool (.pr (.sl .str) (.sl (.int .i64))))))),.own 21 64 (.pr .str (.sl (.int .i64))),.own 51 57 (.pr .str (.pr .str (.pr .bool (.pr (.int .i64) (.pr (.int .i64) (.pr .bool (.pr (.pr .str (.pr (.int .i64) (.pr (.int .i64) (.pr .flt (.pr .bool .bool))))) (.sl (.int .i64))))))))),.any])]⟩
def wqh8(k:Nat)(wqj:wq33)(wqi:wq2q)(wq15:wq2s)(wq5:(R:Type)→Int→Int→(Unit→Option R)→(Int→Int→Option R)→Option R)(wq3:(R:Type)→(List dT72)→Int→(List (List UInt8))→(Int→Int→Option R)→Option R)(wq1:(R:Type)→dT37→Int→(List UInt8)→(Int→Option R)→(Int→Int→Option R)→Option R)(wq0:(R:Type)→dT37→Int→Int→(Int→Int→Option R)→Option R)(wq7:(R:Type)→(List dT72)→Int→(List UInt8)→(Int→Bool→Option R)→Option R)(wq6:(R:Type)→dT37→Int→((List UInt8)→Option R)→(Int→Int→Option R)→Option R)(wq6a:(R:Type)→(List dT72)→Int→((List UInt8)→Int→Int→Option R)→Option R)(wq4c:wq4h)(wq4:(R:Type)→dT37→Int→(List UInt8)→(Bool→Option R)→(Int→Int→Option R)→Option R): Ctx:=⟨tyT,[],(.add 65 wqcl (wq6o wq15) (.add 69 wq5c (wq8z wq5) (.add 70 wq8e (wq68 wq3) (.add 73 wq6y (wq5a wq1) (.add 75 wq59 (wq4v wq0) (.add 123 wq76 (wqap wq7) (.add 126 wq95 (wq8q wq6) (.add 129 wqcm (wqh6 wqj) (.add 204 wq10q (wqme wq6a) (.add 206 wqtn (wqh5 wq4c) (.add 207 wqit (wq8p wq4) .nil))))))))))),[],[1],[(6,(.of [(2,1),(1,1),(0,2),(3,0),(4,0),(5,1),(6,0)] .done)),(16,(.of [(1,1),(2,1),(3,1),(4,1),(5,1),(6,1),(0,2),(7,0),(8,0),(9,1),(10,1),(11,1),(12,0)] .done)),(25,(.of [(5,1),(0,1),(1,1),(2,1),(3,1),(4,1),(6,1),(7,1),(8,0)] .done))],@SH⟩
def wqj1(k:Nat)(wqj:wq33)(wqi:wq2q)(wq15:wq2s)(wq5:(R:Type)→Int→Int→(Unit→Option R)→(Int→Int→Option R)→Option R)(wq3:(R:Type)→(List dT72)→Int→(List (List UInt8))→(Int→Int→Option R)→Option R)(wq1:(R:Type)→dT37→Int→(List UInt8)→(Int→Option R)→(Int→Int→Option R)→Option R)(wq0:(R:Type)→dT37→Int→Int→(Int→Int→Option R)→Option R)(wq7:(R:Type)→(List dT72)→Int→(List UInt8)→(Int→Bool→Option R)→Option R)(wq6:(R:Type)→dT37→Int→((List UInt8)→Option R)→(Int→Int→Option R)→Option R)(wq6a:(R:Type)→(List dT72)→Int→((List UInt8)→Int→Int→Option R)→Option R)(wq4c:wq4h)(wq4:(R:Type)→dT37→Int→(List UInt8)→(Bool→Option R)→(Int→Int→Option R)→Option R){R:Type}(x0:(List dT72))(x1:(List ((List UInt8)×(List Int))))(x2:(List dT56))(x3:Nat)(x4:Int)(x5 x6:(List UInt8))(x7:Bool)(x8 x9:Int)(x10:Bool)(x11:(List UInt8))(x12 x13:Int)(x14:Nat)(x15 x16:Bool)(x17 x18:(List Int))(x19:Int)(K:((List dT72)→(List ((List UInt8)×(List Int)))→(List dT56)→Nat→Int→Option R))(E:wq1r R): Option R:=cond (decide (x19>8)) (wq0 R x0 x4 8 (fun y24 y25=>E x0 x1 x2 x3 y24 y25)) (cond (decide ((x2.length:Int)≥500)) (wq0 R x0 x4 9 (fun y24 y25=>E x0 x1 x2 x3 y24 y25)) (wq3 R x0 x4 [[107,101,121],[118,97,108,117,101],[114,97,116,101,95,108,105,109,105,116],[115,104,97,100,111,119,95,109,111,100,101],[100,101,115,99,114,105,112,116,111,114,115]] (fun y24 y25=>wq5 R y24 y25 (fun y26=>wq1 R x0 x4 [107,101,121] (fun y27=>wq6 R x0 y27 (fun y28=>wq7 R x0 x4 [118,97,108,117,101] (fun y29 y30=>cond y30 (wq6a R x0 y29 (fun y31 y32 y33=>wq5 R y32 y33 (fun y34=>wq15 R x18 x0 x1 x2 x3 y28 y31 false x8 x9 x10 x11 x12 x13 x14 x15 x16 x17 (fun y35 y36 y37 y38 y39 y40 y41 y42 y43 y44 y45 y46 y47 y48 y49 y50 y51 y52=>cond y52 (wq0 R y35 x4 7 (fun y53 y54=>E y35 y36 y37 y38 y53 y54)) (cond (fits y37.length (@List.length (@Kd.T (@Kd.pr Kd.str (@Kd.pr Kd.str (@Kd.pr Kd.bool (@Kd.pr kI (@Kd.pr kI (@Kd.pr Kd.bool (@Kd.pr (@Kd.pr Kd.str (@Kd.pr kI (@Kd.pr kI (@Kd.pr @Kd.flt (@Kd.pr Kd.bool Kd.bool))))) (@Kd.sl kI))))))))) [(y39,(y40,(y41,(y42,(y43,(y44,((y45,(y46,(y47,(y48,(y49,y50))))),y51)))))))]) 136) (wq7 R y35 x4 [114,97,116,101,95,108,105,109,105,116] (fun y53 y54=>cond y54 (wq4c R y35 y36 (y37++[(y39,(y40,(y41,(y42,(y43,(y44,((y45,(y46,(y47,(y48,(y49,y50))))),y51)))))))]) y38 y53 (fun y55 y56 y57 y58 y59 y60 y61 y62 y63 y64=>wq4 R y55 x4 [115,104,97,100,111,119,95,109,111,100,101] (fun y65=>cond (cond y65 (!true) false) (wq7 R y55 x4 [115,104,97,100,111,119,95,109,111,100,101] (fun y66 y67=>wq0 R y55 y66 17 (fun y68 y69=>E y55 y56 y57 y58 y68 y69))) (wqj R y55 y56 y57 y58 x4 y42 (y37.length:Int) (@Go.IntKind.wrap Go.IntKind.i64 (x19+1)) (fun y66 y67 y68 y69 y70=>cond (inb (y37.length:Int) (y68.length:Int)) (@SH (@List (@Kd.T (@Kd.pr Kd.str (@Kd.pr Kd.str (@Kd.pr Kd.bool (@Kd.pr kI (@Kd.pr kI (@Kd.pr Kd.bool (@Kd.pr (@Kd.pr Kd.str (@Kd.pr kI (@Kd.pr kI (@Kd.pr @Kd.flt (@Kd.pr Kd.bool Kd.bool))))) (@Kd.sl kI)))))))))) R (List.set y68 (y37.length:Int).toNat (y39,(y40,(y41,(y42,(y43,(true,((y59,(y60,(y61,(y62,(y65,y64))))),y70)))))))) (fun y71=>K y66 y67 y71 y69 (y37.length:Int))) none) E)) (fun y65 y66=>E y55 y56 y57 y58 y65 y66)) E) (wq4 R y35 x4 [115,104,97,100,111,119,95,109,111,100,101] (fun y55=>cond (cond y55 (!y44) false) (wq7 R y35 x4 [115,104,97,100,111,119,95,109,111,100,101] (fun y56 y57=>wq0 R y35 y56 17 (fun y58 y59=>E y35 y36 (y37++[(y39,(y40,(y41,(y42,(y43,(y44,((y45,(y46,(y47,(y48,(y49,y50))))),y51)))))))]) y38 y58 y59))) (wqj R y35 y36 (y37++[(y39,(y40,(y41,(y42,(y43,(y44,((y45,(y46,(y47,(y48,(y49,y50))))),y51)))))))]) y38 x4 y42 (y37.length:Int) (@Go.IntKind.wrap Go.IntKind.i64 (x19+1)) (fun y56 y57 y58 y59 y60=>cond (inb (y37.length:Int) (y58.length:Int)) (@SH (@List (@Kd.T (@Kd.pr Kd.str (@Kd.pr Kd.str (@Kd.pr Kd.bool (@Kd.pr kI (@Kd.pr kI (@Kd.pr Kd.bool (@Kd.pr (@Kd.pr Kd.str (@Kd.pr kI (@Kd.pr kI (@Kd.pr @Kd.flt (@Kd.pr Kd.bool Kd.bool))))) (@Kd.sl kI)))))))))) R (List.set y58 (y37.length:Int).toNat (y39,(y40,(y41,(y42,(y43,(y44,((y45,(y46,(y47,(y48,(y55,y50))))),y60)))))))) (fun y61=>K y56 y57 y61 y59 (y37.length:Int))) none) E)) (fun y55 y56=>E y35 y36 (y37++[(y39,(y40,(y41,(y42,(y43,(y44,((y45,(y46,(y47,(y48,(y49,y50))))),y51)))))))]) y38 y55 y56)))) none))) (fun y34 y35=>E x0 x1 x2 x3 y34 y35))) (wq15 R x18 x0 x1 x2 x3 y28 x6 true x8 x9 x10 x11 x12 x13 x14 x15 x16 x17 (fun y31 y32 y33 y34 y35 y36 y37 y38 y39 y40 y41 y42 y43 y44 y45 y46 y47 y48=>cond y48 (wq0 R y31 x4 7 (fun y49 y50=>E y31 y32 y33 y34 y49 y50)) (cond (fits y33.length (@List.length (@Kd.T (@Kd.pr Kd.str (@Kd.pr Kd.str (@Kd.pr Kd.bool (@Kd.pr kI (@Kd.pr kI (@Kd.pr Kd.bool (@Kd.pr (@Kd.pr Kd.str (@Kd.pr kI (@Kd.pr kI (@Kd.pr @Kd.flt (@Kd.pr Kd.bool Kd.bool))))) (@Kd.sl kI))))))))) [(y35,(y36,(y37,(y38,(y39,(y40,((y41,(y42,(y43,(y44,(y45,y46))))),y47)))))))]) 136) (wq7 R y31 x4 [114,97,116,101,95,108,105,109,105,116] (fun y49 y50=>cond y50 (wq4c R y31 y32 (y33++[(y35,(y36,(y37,(y38,(y39,(y40,((y41,(y42,(y43,(y44,(y45,y46))))),y47)))))))]) y34 y49 (fun y51 y52 y53 y54 y55 y56 y57 y58 y59 y60=>wq4 R y51 x4 [115,104,97,100,111,119,95,109,111,100,101] (fun y61=>cond (cond y61 (!true) false) (wq7 R y51 x4 [115,104,97,100,111,119,95,109,111,100,101] (fun y62 y63=>wq0 R y51 y62 17 (fun y64 y65=>E y51 y52 y53 y54 y64 y65))) (wqj R y51 y52 y53 y54 x4 y38 (y33.length:Int) (@Go.IntKind.wrap Go.IntKind.i64 (x19+1)) (fun y62 y63 y64 y65 y66=>cond (inb (y33.length:Int) (y64.length:Int)) (@SH (@List (@Kd.T (@Kd.pr Kd.str (@Kd.pr Kd.str (@Kd.pr Kd.bool (@Kd.pr kI (@Kd.pr kI (@Kd.pr Kd.bool (@Kd.pr (@Kd.pr Kd.str (@Kd.pr kI (@Kd.pr kI (@Kd.pr @Kd.flt (@Kd.pr Kd.bool Kd.bool))))) (@Kd.sl kI)))))))))) R (List.set y64 (y33.length:Int).toNat (y35,(y36,(y37,(y38,(y39,(true,((y55,(y56,(y57,(y58,(y61,y60))))),y66)))))))) (fun y67=>K y62 y63 y67 y65 (y33.length:Int))) none) E)) (fun y61 y62=>E y51 y52 y53 y54 y61 y62)) E) (wq4 R y31 x4 [115,104,97,100,111,119,95,109,111,100,101] (fun y51=>cond (cond y51 (!y40) false) (wq7 R y31 x4 [115,104,97,100,111,119,95,109,111,100,101] (fun y52 y53=>wq0 R y31 y52 17 (fun y54 y55=>E y31 y32 (y33++[(y35,(y36,(y37,(y38,(y39,(y40,((y41,(y42,(y43,(y44,(y45,y46))))),y47)))))))]) y34 y54 y55))) (wqj R y31 y32 (y33++[(y35,(y36,(y37,(y38,(y39,(y40,((y41,(y42,(y43,(y44,(y45,y46))))),y47)))))))]) y34 x4 y38 (y33.length:Int) (@Go.IntKind.wrap Go.IntKind.i64 (x19+1)) (fun y52 y53 y54 y55 y56=>cond (inb (y33.length:Int) (y54.length:Int)) (@SH (@List (@Kd.T (@Kd.pr Kd.str (@Kd.pr Kd.str (@Kd.pr Kd.bool (@Kd.pr kI (@Kd.pr kI (@Kd.pr Kd.bool (@Kd.pr (@Kd.pr Kd.str (@Kd.pr kI (@Kd.pr kI (@Kd.pr @Kd.flt (@Kd.pr Kd.bool Kd.bool))))) (@Kd.sl kI)))))))))) R (List.set y54 (y33.length:Int).toNat (y35,(y36,(y37,(y38,(y39,(y40,((y41,(y42,(y43,(y44,(y51,y46))))),y56)))))))) (fun y57=>K y52 y53 y57 y55 (y33.length:Int))) none) E)) (fun y51 y52=>E y31 y32 (y33++[(y35,(y36,(y37,(y38,(y39,(y40,((y41,(y42,(y43,(y44,(y45,y46))))),y47)))))))]) y34 y51 y52)))) none))))) (fun y28 y29=>E x0 x1 x2 x3 y28 y29)) (fun y27 y28=>E x0 x1 x2 x3 y27 y28)) (fun y26 y27=>E x0 x1 x2 x3 y26 y27))))
mutual
def wq2u:Nat→(R:Type)→(List dT72)→(List ((List UInt8)×(List Int)))→(List dT56)→Nat→Int→Int→Int→Int→((List dT72)→(List ((List UInt8)×(List Int)))→(List dT56)→Nat→(List Int)→Option R)→((List dT72)→(List ((List UInt8)×(List Int)))→(List dT56)→Nat→Int→Int→Option R)→Option R
 |0,_,_,_,_,_,_,_,_,_,_,_=>none
 |k+1,R,x0,x1,x2,x3,x4,x5,x6,x7,K,E=>wqmg k (wq2u k) (FR_config_reader_branch k) (fun s0 s1 s2 s3 s4 s5 s6 s7 s8 s9 s10=>wqa6 k (wq2u k) (FR_config_reader_branch k) k s0 s1 s2 s3 s4 s5 s6 s7 s8 s9 s10 K E) x0 x1 x2 x3 x4 x5 x6 x7 K E
def FR_config_reader_branch:Nat→(R:Type)→(List dT72)→(List ((List UInt8)×(List Int)))→(List dT56)→Nat→Int→(List UInt8)→(List UInt8)→Bool→Int→Int→Bool→(List UInt8)→Int→Int→Nat→Bool→Bool→(List Int)→(List Int)→Int→((List dT72)→(List ((List UInt8)×(List Int)))→(List dT56)→Nat→Int→Option R)→((List dT72)→(List ((List UInt8)×(List Int)))→(List dT56)→Nat→Int→Int→Option R)→Option R
 |0,_,_,_,_,_,_,_,_,_,_,_,_,_,_,_,_,_,_,_,_,_,_,_=>none
 |k+1,R,x0,x1,x2,x3,x4,x5,x6,x7,x8,x9,x10,x11,x12,x13,x14,x15,x16,x17,x18,x19,K,E=>wqj1 k (wq2u k) (FR_config_reader_branch k) (@wq32 k) (@wq23 k) (@wq1o k) (@wq11 k) (@wqv k) (@wq2z k) (@wq2a k) (@wqb7 k) (@wq8g k) (@wq3d k) x0 x1 x2 x3 x4 x5 x6 x7 x8 x9 x10 x11 x12 x13 x14 x15 x16 x17 x18 x19 K E
end
def wq5o(k:Nat){R:Type}(x0:(List dT72))(x1:(List ((List UInt8)×(List Int))))(x2:(List dT56))(x3:Nat)(x4 x5 x6 x7:Int)(K:wq2t R)(E:wq1r R): Option R:=wq2u k R x0 x1 x2 x3 x4 x5 x6 x7 K E
def wqcn(k:Nat){R:Type}(x0:(List dT72))(x1:(List ((List UInt8)×(List Int))))(x2:(List dT56))(x3:Nat)(x4:Int)(x5 x6:(List UInt8))(x7:Bool)(x8 x9:Int)(x10:Bool)(x11:(List UInt8))(x12 x13:Int)(x14:Nat)(x15 x16:Bool)(x17 x18:(List Int))(x19:Int)(K:((List dT72)→(List ((List UInt8)×(List Int)))→(List dT56)→Nat→Int→Option R))(E:wq1r R): Option R:=FR_config_reader_branch k R x0 x1 x2 x3 x4 x5 x6 x7 x8 x9 x10 x11 x12 x13 x14 x15 x16 x17 x18 x19 K E
theorem wqsk(k:Nat){R:Type}(x0:(List dT72))(x1:(List ((List UInt8)×(List Int))))(x2:(List dT56))(x3:Nat)(x4 x5 x6 x7:Int)(K:wq2t R)(E:wq1r R): fnW (wqe0 k (wq2u k) (FR_config_reader_branch k)) k Tryz.f129 wqdz [.ptr 1 0,.v kI x4,.v kI x5,.v kI x6,.v kI x7] [(21,.row 64 (.pr .str (.sl kI)) x1),(51,.row 57 kdT56 x2),(1,.var 79 [.v kdT37 x0,.row 21,.row 51,.v .flt x3])] (wq8r K E)=wq2u (k+1) R x0 x1 x2 x3 x4 x5 x6 x7 K E:=by
 rw[wq2u]
 refine Eq.trans (b:=wqmg k (wq2u k) (FR_config_reader_branch k) (fun s0 s1 s2 s3 s4 s5 s6 s7 s8 s9 s10=>wqa5 k (wq2u k) (FR_config_reader_branch k) (fun _ _=>none) k (wq6r s0 s1 s2 s3 s4 s5 s6 s7 s8 s9 s10) K E) x0 x1 x2 x3 x4 x5 x6 x7 K E) (by kernel_rfl) ?_
 simp only[wqmh]<;>rfl
def wq47(k:Nat){R:Type}: List PV→List (Nm×HObj)→(Out→Option R)→Option R
 |[.ptr 1 0,.v (.int .i64) x4,.v (.int .i64) x5,.v (.int .i64) x6,.v (.int .i64) x7],[(21,.row 64 (.pr .str (.sl (.int .i64))) x1),(51,.row 57 (.pr .str (.pr .str (.pr .bool (.pr (.int .i64) (.pr (.int .i64) (.pr .bool (.pr (.pr .str (.pr (.int .i64) (.pr (.int .i64) (.pr .flt (.pr .bool .bool))))) (.sl (.int .i64))))))))) x2),(1,.var 79 [.v (.sl (.pr (.int .i64) (.pr (.int .i64) (.pr .str (.pr .bool (.pr (.sl .str) (.sl (.int .i64)))))))) x0,.row 21,.row 51,.v .flt x3])],K=>wq5o k x0 x1 x2 x3 x4 x5 x6 x7 (fun y0 y1 y2 y3 y4=>K (.ret [.v (.sl (.int .i64)) y4] [(21,.row 64 (.pr .str (.sl (.int .i64))) y1),(51,.row 57 (.pr .str (.pr .str (.pr .bool (.pr (.int .i64) (.pr (.int .i64) (.pr .bool (.pr (.pr .str (.pr (.int .i64) (.pr (.int .i64) (.pr .flt (.pr .bool .bool))))) (.sl (.int .i64))))))))) y2),(1,.var 79 [.v (.sl (.pr (.int .i64) (.pr (.int .i64) (.pr .str (.pr .bool (.pr (.sl .str) (.sl (.int .i64)))))))) y0,.row 21,.row 51,.v .flt y3])])) (fun z0 z1 z2 z3 z4 z5=>K (.pan (.ifc 29 (.agg [.v (.int .i64) z4,.v (.int .i64) z5])) [(21,.row 64 (.pr .str (.sl (.int .i64))) z1),(51,.row 57 (.pr .str (.pr .str (.pr .bool (.pr (.int .i64) (.pr (.int .i64) (.pr .bool (.pr (.pr .str (.pr (.int .i64) (.pr (.int .i64) (.pr .flt (.pr .bool .bool))))) (.sl (.int .i64))))))))) z2),(1,.var 79 [.v (.sl (.pr (.int .i64) (.pr (.int .i64) (.pr .str (.pr .bool (.pr (.sl .str) (.sl (.int .i64)))))))) z0,.row 21,.row 51,.v .flt z3])]))
 |_,_,_=>none
theorem wqpl(k:Nat)(wqj:wq33)(wqi:wq2q)(wq15:wq2s)(wq5:(R:Type)→Int→Int→(Unit→Option R)→(Int→Int→Option R)→Option R)(wq3:(R:Type)→(List dT72)→Int→(List (List UInt8))→(Int→Int→Option R)→Option R)(wq1:(R:Type)→dT37→Int→(List UInt8)→(Int→Option R)→(Int→Int→Option R)→Option R)(wq0:(R:Type)→dT37→Int→Int→(Int→Int→Option R)→Option R)(wq7:(R:Type)→(List dT72)→Int→(List UInt8)→(Int→Bool→Option R)→Option R)(wq6:(R:Type)→dT37→Int→((List UInt8)→Option R)→(Int→Int→Option R)→Option R)(wq6a:(R:Type)→(List dT72)→Int→((List UInt8)→Int→Int→Option R)→Option R)(wq4c:wq4h)(wq4:(R:Type)→dT37→Int→(List UInt8)→(Bool→Option R)→(Int→Int→Option R)→Option R){R:Type}(x0:(List dT72))(x1:(List ((List UInt8)×(List Int))))(x2:(List dT56))(x3:Nat)(x4:Int)(x5 x6:(List UInt8))(x7:Bool)(x8 x9:Int)(x10:Bool)(x11:(List UInt8))(x12 x13:Int)(x14:Nat)(x15 x16:Bool)(x17 x18:(List Int))(x19:Int)(K:((List dT72)→(List ((List UInt8)×(List Int)))→(List dT56)→Nat→Int→Option R))(E:wq1r R): fnW (wqh8 k wqj wqi wq15 wq5 wq3 wq1 wq0 wq7 wq6 wq6a wq4c wq4) k Tryz.f175 wqh7 [.ptr 1 0,.v kI x4,.agg [.v .str x5,.v .str x6,.v .bool x7,.v kI x8,.v kI x9,.v .bool x10,.v .str x11,.v kI x12,.v kI x13,.v .flt x14,.v .bool x15,.v .bool x16,.v (.sl kI) x17],.bv kI x18,.v kI x19] [(21,.row 64 (.pr .str (.sl kI)) x1),(51,.row 57 kdT56 x2),(1,.var 79 [.v kdT37 x0,.row 21,.row 51,.v .flt x3])] (wqa7 K E)=wqj1 k wqj wqi wq15 wq5 wq3 wq1 wq0 wq7 wq6 wq6a wq4c wq4 x0 x1 x2 x3 x4 x5 x6 x7 x8 x9 x10 x11 x12 x13 x14 x15 x16 x17 x18 x19 K E:=by kernel_rfl
theorem wqpm(k:Nat){R:Type}(x0:(List dT72))(x1:(List ((List UInt8)×(List Int))))(x2:(List dT56))(x3:Nat)(x4:Int)(x5 x6:(List UInt8))(x7:Bool)(x8 x9:Int)(x10:Bool)(x11:(List UInt8))(x12 x13:Int)(x14:Nat)(x15 x16:Bool)(x17 x18:(List Int))(x19:Int)(K:((List dT72)→(List ((List UInt8)×(List Int)))→(List dT56)→Nat→Int→Option R))(E:wq1r R): fnW (wqh8 k (wq2u k) (FR_config_reader_branch k) (@wq32 k) (@wq23 k) (@wq1o k) (@wq11 k) (@wqv k) (@wq2z k) (@wq2a k) (@wqb7 k) (@wq8g k) (@wq3d k)) k Tryz.f175 wqh7 [.ptr 1 0,.v kI x4,.agg [.v .str x5,.v .str x6,.v .bool x7,.v kI x8,.v kI x9,.v .bool x10,.v .str x11,.v kI x12,.v kI x13,.v .flt x14,.v .bool x15,.v .bool x16,.v (.sl kI) x17],.bv kI x18,.v kI x19] [(21,.row 64 (.pr .str (.sl kI)) x1),(51,.row 57 kdT56 x2),(1,.var 79 [.v kdT37 x0,.row 21,.row 51,.v .flt x3])] (wqa7 K E)=FR_config_reader_branch (k+1) R x0 x1 x2 x3 x4 x5 x6 x7 x8 x9 x10 x11 x12 x13 x14 x15 x16 x17 x18 x19 K E:=by
 rw[FR_config_reader_branch]
 exact wqpl k (wq2u k) (FR_config_reader_branch k) (@wq32 k) (@wq23 k) (@wq1o k) (@wq11 k) (@wqv k) (@wq2z k) (@wq2a k) (@wqb7 k) (@wq8g k) (@wq3d k) x0 x1 x2 x3 x4 x5 x6 x7 x8 x9 x10 x11 x12 x13 x14 x15 x16 x17 x18 x19 K E
def wq4x(k:Nat){R:Type}: List PV→List (Nm×HObj)→(Out→Option R)→Option R
 |[.ptr 1 0,.v (.int .i64) x4,.agg [.v .str x5,.v .str x6,.v .bool x7,.v (.int .i64) x8,.v (.int .i64) x9,.v .bool x10,.v .str x11,.v (.int .i64) x12,.v (.int .i64) x13,.v .flt x14,.v .bool x15,.v .bool x16,.v (.sl (.int .i64)) x17],.bv (.int .i64) x18,.v (.int .i64) x19],[(21,.row 64 (.pr .str (.sl (.int .i64))) x1),(51,.row 57 (.pr .str (.pr .str (.pr .bool (.pr (.int .i64) (.pr (.int .i64) (.pr .bool (.pr (.pr .str (.pr (.int .i64) (.pr (.int .i64) (.pr .flt (.pr .bool .bool))))) (.sl (.int .i64))))))))) x2),(1,.var 79 [.v (.sl (.pr (.int .i64) (.pr (.int .i64) (.pr .str (.pr .bool (.pr (.sl .str) (.sl (.int .i64)))))))) x0,.row 21,.row 51,.v .flt x3])],K=>wqcn k x0 x1 x2 x3 x4 x5 x6 x7 x8 x9 x10 x11 x12 x13 x14 x15 x16 x17 x18 x19 (fun y0 y1 y2 y3 y4=>K (.ret [.v (.int .i64) y4] [(21,.row 64 (.pr .str (.sl (.int .i64))) y1),(51,.row 57 (.pr .str (.pr .str (.pr .bool (.pr (.int .i64) (.pr (.int .i64) (.pr .bool (.pr (.pr .str (.pr (.int .i64) (.pr (.int .i64) (.pr .flt (.pr .bool .bool))))) (.sl (.int .i64))))))))) y2),(1,.var 79 [.v (.sl (.pr (.int .i64) (.pr (.int .i64) (.pr .str (.pr .bool (.pr (.sl .str) (.sl (.int .i64)))))))) y0,.row 21,.row 51,.v .flt y3])])) (fun z0 z1 z2 z3 z4 z5=>K (.pan (.ifc 29 (.agg [.v (.int .i64) z4,.v (.int .i64) z5])) [(21,.row 64 (.pr .str (.sl (.int .i64))) z1),(51,.row 57 (.pr .str (.pr .str (.pr .bool (.pr (.int .i64) (.pr (.int .i64) (.pr .bool (.pr (.pr .str (.pr (.int .i64) (.pr (.int .i64) (.pr .flt (.pr .bool .bool))))) (.sl (.int .i64))))))))) z2),(1,.var 79 [.v (.sl (.pr (.int .i64) (.pr (.int .i64) (.pr .str (.pr .bool (.pr (.sl .str) (.sl (.int .i64)))))))) z0,.row 21,.row 51,.v .flt z3])]))
 |_,_,_=>none
theorem wqvw(k:Nat): DOK Tryz.prog 129 (wq47 k)∧DOK Tryz.prog 175 (wq4x k):=by
 induction k with
 |zero =>
  refine⟨?_,?_⟩
  ·intro ps hp R K r h
   have h:wq47 0 ps hp K=some r:=h
   unfold wq47 at h
   split at h
   ·unfold wq5o at h;rw[wq2u]at h;cases h
   ·cases h
  ·intro ps hp R K r h
   have h:wq4x 0 ps hp K=some r:=h
   unfold wq4x at h
   split at h
   ·unfold wqcn at h;rw[FR_config_reader_branch]at h;cases h
   ·cases h
 |succ k ih =>
  obtain⟨ih_config_reader_list,ih_config_reader_branch⟩:=ih
  refine⟨?_,?_⟩
  ·intro ps hp R K r h
   have h:wq47 (k+1) ps hp K=some r:=h
   unfold wq47 at h
   split at h
   ·unfold wq5o at h;rw[←wqsk]at h
    exact fnW_ok ⟨tyT_ok,(wqd (wqkd k) (CTab.add_ok (fun h=>ih_config_reader_branch _ _ _ _ _ (by unfold wqff at h;unfold wq4x;exact h)) CTab.nil_ok)),fun _ _=>rfl⟩ mixed (by kernel_rfl) (by kernel_rfl) h fun o ho=>by unfold wq8r at ho;split at ho<;>first|exact ho|cases ho
   ·cases h
  ·intro ps hp R K r h
   have h:wq4x (k+1) ps hp K=some r:=h
   unfold wq4x at h
   split at h
   ·unfold wqcn at h;rw[←wqpm]at h
    exact fnW_ok ⟨tyT_ok,(CTab.add_ok (fun h=>wqdy k _ _ _ _ _ (by unfold wq6o at h;unfold wq3o;exact h)) (CTab.add_ok (fun h=>wq7o k _ _ _ _ _ (by unfold wq8z at h;unfold wq4d;exact h)) (CTab.add_ok (fun h=>wqd1 k _ _ _ _ _ (by unfold wq68 at h;unfold wq5k;exact h)) (CTab.add_ok (fun h=>wqaj k _ _ _ _ _ (by unfold wq5a at h;unfold wq4q;exact h)) (CTab.add_ok (fun h=>wq7j k _ _ _ _ _ (by unfold wq4v at h;unfold wq3w;exact h)) (CTab.add_ok (fun h=>wq91 k _ _ _ _ _ (by unfold wqap at h;unfold wq4j;exact h)) (CTab.add_ok (fun h=>wqf1 k _ _ _ _ _ (by unfold wq8q at h;unfold wq5s;exact h)) (CTab.add_ok (fun h=>ih_config_reader_list _ _ _ _ _ (by unfold wqh6 at h;unfold wq47;exact h)) (CTab.add_ok (fun h=>wq16j k _ _ _ _ _ (by unfold wqme at h;unfold wqc1;exact h)) (CTab.add_ok (fun h=>wqyc k _ _ _ _ _ (by unfold wqh5 at h;unfold wq99;exact h)) (CTab.add_ok (fun h=>wqlw k _ _ _ _ _ (by unfold wq8p at h;unfold wq6x;exact h)) CTab.nil_ok))))))))))),fun _ _=>rfl⟩ mixed (by kernel_rfl) (by kernel_rfl) h fun o ho=>by unfold wqa7 at ho;split at ho<;>first|exact ho|cases ho
   ·cases h
theorem wqye(k:Nat): DOK Tryz.prog 129 (wq47 k):=(wqvw k).1
end Go.Proofs.YtabkhphoacmcdaaGreatDoor.Pvm
end
noncomputable section
namespace Go.Proofs.YtabkhphoacmcdaaGreatDoor.Pvm
open Go Go.Proofs
def wqot:List LS:=[.ag [.any,.sl kI],.obj 11 [.any]]
def wqdn{R:Type}(K:((List UInt8)→Bool→Option R)): Out→Option R
 |.ret [.v .bool y1] [(11,.var 9 [.v .str y0])]=>K y0 y1
 |_=>none
def wqpn:RetSpec:=⟨[.any],[(11,.obj 11 [.any])],[]⟩
def wqpo(k:Nat): Ctx:=⟨tyT,[],.nil,[],[11],[],@SH⟩
def wqqs(k:Nat){R:Type}(x0:(List UInt8))(x1:(List Int))(x2:(List UInt8))(K:((List UInt8)→Bool→Option R)): Option R:=K x2 (x0 == x2)
def wqas(k:Nat){R:Type}(x0:(List UInt8))(x1:(List Int))(x2:(List UInt8))(K:((List UInt8)→Bool→Option R)): Option R:=wqqs k x0 x1 x2 K
theorem wqnl(k:Nat){R:Type}(x0:(List UInt8))(x1:(List Int))(x2:(List UInt8))(K:((List UInt8)→Bool→Option R)): fnW (wqpo k) k Tryz.f128 wqpn [.agg [.v .str x0,.v (.sl kI) x1],.ptr 11 0] [(11,.var 9 [.v .str x2])] (wqdn K)=wqas k x0 x1 x2 K:=by
 kernel_rfl
def wq6s(k:Nat){R:Type}: List PV→List (Nm×HObj)→(Out→Option R)→Option R
 |[.agg [.v .str x0,.v (.sl (.int .i64)) x1],.ptr 11 0],[(11,.var 9 [.v .str x2])],K=>wqas k x0 x1 x2 (fun y0 y1=>K (.ret [.v .bool y1] [(11,.var 9 [.v .str y0])]))
 |_,_,_=>none
theorem wqqt(k:Nat): DOK Tryz.prog 128 (wq6s k):=by
 intro ps hp R K r h
 have h:wq6s k ps hp K=some r:=h
 unfold wq6s at h
 split at h
 ·rw[←wqnl]at h
  exact fnW_ok ⟨tyT_ok,CTab.nil_ok,fun _ _=>rfl⟩ mixed (by kernel_rfl) (by kernel_rfl) h fun o ho=>by unfold wqdn at ho;split at ho<;>first|exact ho|cases ho
 ·cases h
end Go.Proofs.YtabkhphoacmcdaaGreatDoor.Pvm
end
noncomputable section
namespace Go.Proofs.YtabkhphoacmcdaaGreatDoor.Pvm
open Go Go.Proofs
def wq8t:List LS:=[.sl (.pr .str (.sl kI)),.clo [.obj 300 [.any]]]
def wq2n{R:Type}(K:((List UInt8)→Int→Option R)): Out→Option R
 |.ret [.v (.int .i64) y1] [(300,.var 9 [.v .str y0])]=>K y0 y1
 |_=>none
def wq3k:RetSpec:=⟨[.any],[(300,.obj 300 [.any])],[]⟩
def wq3l(k:Nat): Ctx:=⟨tyT,[(1002,⟨[(0,.sl (.pr .str (.sl kI))),(1,.clo [.obj 300 [.any]]),(7,.any),(8,.any)],[(300,.obj 300 [.any])]⟩)],(.add 128 wqot (wq6s k) .nil),[],[300],[],@SH⟩
def wq2c(s0:(List UInt8))(s1:(List ((List UInt8)×(List Int))))(s2 s3:Int): St:=⟨mkT [(0,.v (.sl (.pr .str (.sl kI))) s1),(1,.clo 128 [.ptr 300 0]),(7,.v kI s2),(8,.v kI s3)],mkH [(300,.var 9 [.v .str s0])]⟩
def wq36(k:Nat){R:Type}(I:Nat→St→Option R)(n:Nat)(s:St)(K:((List UInt8)→Int→Option R)): Option R:=loopK (wq3l k) k Tryz.f174 wq3k 1002 [1,0,1,0] I n s (wq2n K)
def wq4k(k:Nat){R:Type}(E1002:((List UInt8)→(List ((List UInt8)×(List Int)))→Int→Int→Option R))(s0:(List UInt8))(s1:(List ((List UInt8)×(List Int))))(s2 s3:Int)(K:((List UInt8)→Int→Option R)): Option R:=cond (decide (s3<s2)) (cond (inb s3 (s1.length:Int)) (wqas k (s1.getD s3.toNat (Kd.zero (@Kd.pr Kd.str (@Kd.sl kI)))).1 (s1.getD s3.toNat (Kd.zero (@Kd.pr Kd.str (@Kd.sl kI)))).2 s0 (fun y8 y9=>cond y9 (K y8 s3) (E1002 y8 s1 s2 (@Go.IntKind.wrap Go.IntKind.i64 (s3+1))))) none) (K s0 (@Neg.neg Int @Int.instNegInt (1:Int)))
theorem wq71(k:Nat){R:Type}(I:Nat→St→Option R)(s0:(List UInt8))(s1:(List ((List UInt8)×(List Int))))(s2 s3:Int)(K:((List UInt8)→Int→Option R)): bodyK (wq3l k) k Tryz.f174 wq3k [1,0,1,0,0] I (wq2c s0 s1 s2 s3) (wq2n K)=wq4k k (fun s0 s1 s2 s3=>I 1002 (wq2c s0 s1 s2 s3)) s0 s1 s2 s3 K:=by kernel_rfl
def wq57(k:Nat){R:Type}(E1002:((List UInt8)→(List ((List UInt8)×(List Int)))→Int→Int→Option R))(x0:(List ((List UInt8)×(List Int))))(x1:(List UInt8))(K:((List UInt8)→Int→Option R)): Option R:=E1002 x1 x0 (x0.length:Int) 0
def wq37(k:Nat){R:Type}: Nat→(List UInt8)→(List ((List UInt8)×(List Int)))→Int→Int→((List UInt8)→Int→Option R)→Option R
 |0,_,_,_,_,_=>none
 |n+1,s0,s1,s2,s3,K=>wq4k k (fun s0 s1 s2 s3=>wq37 k n s0 s1 s2 s3 K) s0 s1 s2 s3 K
theorem wq72(k:Nat){R:Type}(I:Nat→St→Option R)(K:((List UInt8)→Int→Option R))(n:Nat): ∀(s0:(List UInt8)) (s1:(List ((List UInt8)×(List Int)))) (s2 s3:Int),wq36 k I n (wq2c s0 s1 s2 s3) K=wq37 k n s0 s1 s2 s3 K:=by
 induction n with
 |zero=>intros;rfl
 |succ n ih =>
  intro s0 s1 s2 s3
  refine(?_:_=_).trans ((wq71 k (upI 1002 (fun s=>wq36 k I n s K) I) s0 s1 s2 s3 K).trans ?_)
  ·rfl
  ·simp only[wq43,ih]<;>rfl
def wq3p(k:Nat){R:Type}(x0:(List ((List UInt8)×(List Int))))(x1:(List UInt8))(K:((List UInt8)→Int→Option R)): Option R:=wq57 k (fun s0 s1 s2 s3=>wq37 k k s0 s1 s2 s3 K) x0 x1 K
theorem wq8h(k:Nat){R:Type}(x0:(List ((List UInt8)×(List Int))))(x1:(List UInt8))(K:((List UInt8)→Int→Option R)): fnW (wq3l k) k Tryz.f174 wq3k [.v (.sl (.pr .str (.sl kI))) x0,.clo 128 [.ptr 300 0]] [(300,.var 9 [.v .str x1])] (wq2n K)=wq3p k x0 x1 K:=by
 refine Eq.trans (b:=wq57 k (fun s0 s1 s2 s3=>wq36 k (fun _ _=>none) k (wq2c s0 s1 s2 s3) K) x0 x1 K) (by kernel_rfl) ?_
 simp only[wq72]<;>rfl
def wq2p(k:Nat){R:Type}: List PV→List (Nm×HObj)→(Out→Option R)→Option R
 |[.v (.sl (.pr .str (.sl (.int .i64)))) x0,.clo 128 [.ptr 300 0]],[(300,.var 9 [.v .str x1])],K=>wq3p k x0 x1 (fun y0 y1=>K (.ret [.v (.int .i64) y1] [(300,.var 9 [.v .str y0])]))
 |_,_,_=>none
theorem wq9a(k:Nat): DOK Tryz.prog 174 (wq2p k):=by
 intro ps hp R K r h
 have h:wq2p k ps hp K=some r:=h
 unfold wq2p at h
 split at h
 ·rw[←wq8h]at h
  exact fnW_ok ⟨tyT_ok,(wqd (wqqt k) CTab.nil_ok),fun _ _=>rfl⟩ mixed (by kernel_rfl) (by kernel_rfl) h fun o ho=>by unfold wq2n at ho;split at ho<;>first|exact ho|cases ho
 ·cases h
end Go.Proofs.YtabkhphoacmcdaaGreatDoor.Pvm
end
noncomputable section
namespace Go.Proofs.YtabkhphoacmcdaaGreatDoor.Pvm
open Go Go.Proofs
def wq4l:List LS:=[.sl (.pr .str (.sl kI)),.clo [.obj 300 [.any]]]
def wq4g{R:Type}(K:((List UInt8)→Bool→Option R)): Out→Option R
 |.ret [.v .bool y1] [(300,.var 9 [.v .str y0])]=>K y0 y1
 |_=>none
def wq86:RetSpec:=⟨[.any],[(300,.obj 300 [.any])],[]⟩
def wq87(k:Nat): Ctx:=⟨tyT,[],(.add 174 wq8t (wq2p k) .nil),[],[300],[],@SH⟩
def wq8i(k:Nat){R:Type}(x0:(List ((List UInt8)×(List Int))))(x1:(List UInt8))(K:((List UInt8)→Bool→Option R)): Option R:=wq3p k x0 x1 (fun y5 y6=>K y5 (decide (y6≥0)))
def wq17(k:Nat){R:Type}(x0:(List ((List UInt8)×(List Int))))(x1:(List UInt8))(K:((List UInt8)→Bool→Option R)): Option R:=wq8i k x0 x1 K
theorem wq7k(k:Nat){R:Type}(x0:(List ((List UInt8)×(List Int))))(x1:(List UInt8))(K:((List UInt8)→Bool→Option R)): fnW (wq87 k) k Tryz.f127 wq86 [.v (.sl (.pr .str (.sl kI))) x0,.clo 128 [.ptr 300 0]] [(300,.var 9 [.v .str x1])] (wq4g K)=wq17 k x0 x1 K:=by
 kernel_rfl
def wq2j(k:Nat){R:Type}: List PV→List (Nm×HObj)→(Out→Option R)→Option R
 |[.v (.sl (.pr .str (.sl (.int .i64)))) x0,.clo 128 [.ptr 300 0]],[(300,.var 9 [.v .str x1])],K=>wq17 k x0 x1 (fun y0 y1=>K (.ret [.v .bool y1] [(300,.var 9 [.v .str y0])]))
 |_,_,_=>none
theorem wq8j(k:Nat): DOK Tryz.prog 127 (wq2j k):=by
 intro ps hp R K r h
 have h:wq2j k ps hp K=some r:=h
 unfold wq2j at h
 split at h
 ·rw[←wq7k]at h
  exact fnW_ok ⟨tyT_ok,(wqd (wq9a k) CTab.nil_ok),fun _ _=>rfl⟩ mixed (by kernel_rfl) (by kernel_rfl) h fun o ho=>by unfold wq4g at ho;split at ho<;>first|exact ho|cases ho
 ·cases h
end Go.Proofs.YtabkhphoacmcdaaGreatDoor.Pvm
end
noncomputable section
namespace Go.Proofs.YtabkhphoacmcdaaGreatDoor.Pvm
open Go Go.Proofs
def wqqu:List LS:=[.obj 1 [.sl kdT72,.own 21 64 (.pr .str (.sl kI)),.own 51 57 kdT56,.any],.any]
def wqa8{R:Type}(K:((List dT72)→(List ((List UInt8)×(List Int)))→(List dT56)→Nat→Option R))(E:((List dT72)→(List ((List UInt8)×(List Int)))→(List dT56)→Nat→Int→Int→Option R)): Out→Option R
 |.ret [] [(21,.row 64 (.pr .str (.sl (.int .i64))) y1),(51,.row 57 (.pr .str (.pr .str (.pr .bool (.pr (.int .i64) (.pr (.int .i64) (.pr .bool (.pr (.pr .str (.pr (.int .i64) (.pr (.int .i64) (.pr .flt (.pr .bool .bool))))) (.sl (.int .i64))))))))) y2),(1,.var 79 [.v (.sl (.pr (.int .i64) (.pr (.int .i64) (.pr .str (.pr .bool (.pr (.sl .str) (.sl (.int .i64)))))))) y0,.row 21,.row 51,.v .flt y3])]=>K y0 y1 y2 y3
 |.pan (.ifc 29 (.agg [.v (.int .i64) z4,.v (.int .i64) z5])) [(21,.row 64 (.pr .str (.sl (.int .i64))) z1),(51,.row 57 (.pr .str (.pr .str (.pr .bool (.pr (.int .i64) (.pr (.int .i64) (.pr .bool (.pr (.pr .str (.pr (.int .i64) (.pr (.int .i64) (.pr .flt (.pr .bool .bool))))) (.sl (.int .i64))))))))) z2),(1,.var 79 [.v (.sl (.pr (.int .i64) (.pr (.int .i64) (.pr .str (.pr .bool (.pr (.sl .str) (.sl (.int .i64)))))))) z0,.row 21,.row 51,.v .flt z3])]=>E z0 z1 z2 z3 z4 z5
 |_=>none
def wqh9:RetSpec:=⟨[],[(1,.obj 1 [.sl (.pr (.int .i64) (.pr (.int .i64) (.pr .str (.pr .bool (.pr (.sl .str) (.sl (.int .i64))))))),.own 21 64 (.pr .str (.sl (.int .i64))),.own 51 57 (.pr .str (.pr .str (.pr .bool (.pr (.int .i64) (.pr (.int .i64) (.pr .bool (.pr (.pr .str (.pr (.int .i64) (.pr (.int .i64) (.pr .flt (.pr .bool .bool))))) (.sl (.int .i64))))))))),.any])],[(1,.obj 1 [.sl (.pr (.int .i64) (.pr (.int .i64) (.pr .str (.pr .bool (.pr (.sl .str) (.sl (.int .i64))))))),.own 21 64 (.pr .str (.sl (.int .i64))),.own 51 57 (.pr .str (.pr .str (.pr .bool (.pr (.int .i64) (.pr (.int .i64) (.pr .bool (.pr (.pr .str (.pr (.int .i64) (.pr (.int .i64) (.pr .flt (.pr .bool .bool))))) (.sl (.int .i64))))))))),.any])]⟩
def wqha(k:Nat): Ctx:=⟨tyT,[],(.add 69 wq5c (wq4d k) (.add 70 wq8e (wq5k k) (.add 73 wq6y (wq4q k) (.add 75 wq59 (wq3w k) (.add 126 wq95 (wq5s k) (.add 127 wq4l (wq2j k) (.add 129 wqcm (wq47 k) .nil))))))),[],[1],[(5,(.of [(0,1),(1,1),(2,1),(3,1),(4,1),(5,1),(6,1),(7,1),(8,0),(9,0),(10,1),(11,1),(12,1),(13,0)] .done)),(7,(.of [(0,1),(1,1),(2,1),(3,1),(5,1),(6,1),(7,1),(8,1),(12,1),(4,1),(9,1),(10,1),(11,1),(13,1),(14,1),(15,0)] .done))],@SH⟩
def wqtq(k:Nat){R:Type}(x0:(List dT72))(x1:(List ((List UInt8)×(List Int))))(x2:(List dT56))(x3:Nat)(x4:Int)(K:((List dT72)→(List ((List UInt8)×(List Int)))→(List dT56)→Nat→Option R))(E:((List dT72)→(List ((List UInt8)×(List Int)))→(List dT56)→Nat→Int→Int→Option R)): Option R:=wq1o k x0 x4 [[100,111,109,97,105,110],[100,101,115,99,114,105,112,116,111,114,115]] (fun y9 y10=>wq23 k y9 y10 (fun y11=>wq11 k x0 x4 [100,111,109,97,105,110] (fun y12=>wq2a k x0 y12 (fun y13=>wq17 k x1 y13 (fun y14 y15=>cond y15 (wqv k x0 y12 7 (fun y16 y17=>E x0 x1 x2 x3 y16 y17)) (cond (fits x1.length (@List.length (@Kd.T (@Kd.pr Kd.str (@Kd.sl kI))) [(y14,[])]) 40) (wq5o k x0 (x1++[(y14,[])]) x2 x3 x4 (@Go.IntKind.wrap Go.IntKind.i64 (((x1++[(y14,[])]).length:Int)-1)) (@Neg.neg Int @Int.instNegInt (1:Int)) 1 (fun y16 y17 y18 y19 y20=>cond (inb (@Go.IntKind.wrap Go.IntKind.i64 ((y17.length:Int)-1)) (y17.length:Int)) (@SH (@List (@Kd.T (@Kd.pr Kd.str (@Kd.sl kI)))) R (List.set y17 (@Go.IntKind.wrap Go.IntKind.i64 ((y17.length:Int)-1)).toNat ((y17.getD (@Go.IntKind.wrap Go.IntKind.i64 ((y17.length:Int)-1)).toNat (Kd.zero (@Kd.pr Kd.str (@Kd.sl kI)))).1,y20)) (fun y21=>K y16 y21 y18 y19)) none) E) none))) (fun y13 y14=>E x0 x1 x2 x3 y13 y14)) (fun y12 y13=>E x0 x1 x2 x3 y12 y13)) (fun y11 y12=>E x0 x1 x2 x3 y11 y12))
def wq3q(k:Nat){R:Type}(x0:(List dT72))(x1:(List ((List UInt8)×(List Int))))(x2:(List dT56))(x3:Nat)(x4:Int)(K:((List dT72)→(List ((List UInt8)×(List Int)))→(List dT56)→Nat→Option R))(E:((List dT72)→(List ((List UInt8)×(List Int)))→(List dT56)→Nat→Int→Int→Option R)): Option R:=wqtq k x0 x1 x2 x3 x4 K E
def wqqv(f:(R:Type)→Int→Int→(Unit→Option R)→(Int→Int→Option R)→Option R){R:Type}: List PV→List (Nm×HObj)→(Out→Option R)→Option R
 |[.agg [.v (.int .i64) x0,.v (.int .i64) x1]],[],K=>f R x0 x1 (fun _=>K (.ret [] [])) (fun z0 z1=>K (.pan (.ifc 29 (.agg [.v (.int .i64) z0,.v (.int .i64) z1])) []))
 |_,_,_=>none
def wqqw(f:(R:Type)→(List dT72)→Int→(List (List UInt8))→(Int→Int→Option R)→Option R){R:Type}: List PV→List (Nm×HObj)→(Out→Option R)→Option R
 |[.agg [.v (.sl (.pr (.int .i64) (.pr (.int .i64) (.pr .str (.pr .bool (.pr (.sl .str) (.sl (.int .i64)))))))) x0],.v (.int .i64) x1,.v (.sl .str) x2],[],K=>f R x0 x1 x2 (fun y0 y1=>K (.ret [.agg [.v (.int .i64) y0,.v (.int .i64) y1]] []))
 |_,_,_=>none
def wqqx(f:(R:Type)→dT37→Int→(List UInt8)→(Int→Option R)→(Int→Int→Option R)→Option R){R:Type}: List PV→List (Nm×HObj)→(Out→Option R)→Option R
 |[.lp (.sl (.pr (.int .i64) (.pr (.int .i64) (.pr .str (.pr .bool (.pr (.sl .str) (.sl (.int .i64)))))))) x0 0,.v (.int .i64) x1,.v .str x2],[],K=>f R x0 x1 x2 (fun y0=>K (.ret [.v (.int .i64) y0] [])) (fun z0 z1=>K (.pan (.ifc 29 (.agg [.v (.int .i64) z0,.v (.int .i64) z1])) []))
 |_,_,_=>none
def wqqy(f:(R:Type)→dT37→Int→Int→(Int→Int→Option R)→Option R){R:Type}: List PV→List (Nm×HObj)→(Out→Option R)→Option R
 |[.lp (.sl (.pr (.int .i64) (.pr (.int .i64) (.pr .str (.pr .bool (.pr (.sl .str) (.sl (.int .i64)))))))) x0 0,.v (.int .i64) x1,.v (.int .i64) x2],[],K=>f R x0 x1 x2 (fun z0 z1=>K (.pan (.ifc 29 (.agg [.v (.int .i64) z0,.v (.int .i64) z1])) []))
 |_,_,_=>none
def wqqz(f:(R:Type)→dT37→Int→((List UInt8)→Option R)→(Int→Int→Option R)→Option R){R:Type}: List PV→List (Nm×HObj)→(Out→Option R)→Option R
 |[.lp (.sl (.pr (.int .i64) (.pr (.int .i64) (.pr .str (.pr .bool (.pr (.sl .str) (.sl (.int .i64)))))))) x0 0,.v (.int .i64) x1],[],K=>f R x0 x1 (fun y0=>K (.ret [.v .str y0] [])) (fun z0 z1=>K (.pan (.ifc 29 (.agg [.v (.int .i64) z0,.v (.int .i64) z1])) []))
 |_,_,_=>none
def wqr0(f:(R:Type)→(List ((List UInt8)×(List Int)))→(List UInt8)→((List UInt8)→Bool→Option R)→Option R){R:Type}: List PV→List (Nm×HObj)→(Out→Option R)→Option R
 |[.v (.sl (.pr .str (.sl (.int .i64)))) x0,.clo 128 [.ptr 300 0]],[(300,.var 9 [.v .str x1])],K=>f R x0 x1 (fun y0 y1=>K (.ret [.v .bool y1] [(300,.var 9 [.v .str y0])]))
 |_,_,_=>none
def wqr1(f:(R:Type)→(List dT72)→(List ((List UInt8)×(List Int)))→(List dT56)→Nat→Int→Int→Int→Int→wq2t R→wq1r R→Option R){R:Type}: List PV→List (Nm×HObj)→(Out→Option R)→Option R
 |[.ptr 1 0,.v (.int .i64) x4,.v (.int .i64) x5,.v (.int .i64) x6,.v (.int .i64) x7],[(21,.row 64 (.pr .str (.sl (.int .i64))) x1),(51,.row 57 (.pr .str (.pr .str (.pr .bool (.pr (.int .i64) (.pr (.int .i64) (.pr .bool (.pr (.pr .str (.pr (.int .i64) (.pr (.int .i64) (.pr .flt (.pr .bool .bool))))) (.sl (.int .i64))))))))) x2),(1,.var 79 [.v (.sl (.pr (.int .i64) (.pr (.int .i64) (.pr .str (.pr .bool (.pr (.sl .str) (.sl (.int .i64)))))))) x0,.row 21,.row 51,.v .flt x3])],K=>f R x0 x1 x2 x3 x4 x5 x6 x7 (fun y0 y1 y2 y3 y4=>K (.ret [.v (.sl (.int .i64)) y4] [(21,.row 64 (.pr .str (.sl (.int .i64))) y1),(51,.row 57 (.pr .str (.pr .str (.pr .bool (.pr (.int .i64) (.pr (.int .i64) (.pr .bool (.pr (.pr .str (.pr (.int .i64) (.pr (.int .i64) (.pr .flt (.pr .bool .bool))))) (.sl (.int .i64))))))))) y2),(1,.var 79 [.v (.sl (.pr (.int .i64) (.pr (.int .i64) (.pr .str (.pr .bool (.pr (.sl .str) (.sl (.int .i64)))))))) y0,.row 21,.row 51,.v .flt y3])])) (fun z0 z1 z2 z3 z4 z5=>K (.pan (.ifc 29 (.agg [.v (.int .i64) z4,.v (.int .i64) z5])) [(21,.row 64 (.pr .str (.sl (.int .i64))) z1),(51,.row 57 (.pr .str (.pr .str (.pr .bool (.pr (.int .i64) (.pr (.int .i64) (.pr .bool (.pr (.pr .str (.pr (.int .i64) (.pr (.int .i64) (.pr .flt (.pr .bool .bool))))) (.sl (.int .i64))))))))) z2),(1,.var 79 [.v (.sl (.pr (.int .i64) (.pr (.int .i64) (.pr .str (.pr .bool (.pr (.sl .str) (.sl (.int .i64)))))))) z0,.row 21,.row 51,.v .flt z3])]))
 |_,_,_=>none
def wqhb(f0:(R:Type)→Int→Int→(Unit→Option R)→(Int→Int→Option R)→Option R)(f1:(R:Type)→(List dT72)→Int→(List (List UInt8))→(Int→Int→Option R)→Option R)(f2:(R:Type)→dT37→Int→(List UInt8)→(Int→Option R)→(Int→Int→Option R)→Option R)(f3:(R:Type)→dT37→Int→Int→(Int→Int→Option R)→Option R)(f4:(R:Type)→dT37→Int→((List UInt8)→Option R)→(Int→Int→Option R)→Option R)(f5:(R:Type)→(List ((List UInt8)×(List Int)))→(List UInt8)→((List UInt8)→Bool→Option R)→Option R)(f6:(R:Type)→(List dT72)→(List ((List UInt8)×(List Int)))→(List dT56)→Nat→Int→Int→Int→Int→wq2t R→wq1r R→Option R): Ctx:=⟨tyT,[],(.add 69 wq5c (wqqv f0) (.add 70 wq8e (wqqw f1) (.add 73 wq6y (wqqx f2) (.add 75 wq59 (wqqy f3) (.add 126 wq95 (wqqz f4) (.add 127 wq4l (wqr0 f5) (.add 129 wqcm (wqr1 f6) .nil))))))),[],[1],[(5,(.of [(0,1),(1,1),(2,1),(3,1),(4,1),(5,1),(6,1),(7,1),(8,0),(9,0),(10,1),(11,1),(12,1),(13,0)] .done)),(7,(.of [(0,1),(1,1),(2,1),(3,1),(5,1),(6,1),(7,1),(8,1),(12,1),(4,1),(9,1),(10,1),(11,1),(13,1),(14,1),(15,0)] .done))],@SH⟩
def wqj2(f0:(R:Type)→Int→Int→(Unit→Option R)→(Int→Int→Option R)→Option R)(f1:(R:Type)→(List dT72)→Int→(List (List UInt8))→(Int→Int→Option R)→Option R)(f2:(R:Type)→dT37→Int→(List UInt8)→(Int→Option R)→(Int→Int→Option R)→Option R)(f3:(R:Type)→dT37→Int→Int→(Int→Int→Option R)→Option R)(f4:(R:Type)→dT37→Int→((List UInt8)→Option R)→(Int→Int→Option R)→Option R)(f5:(R:Type)→(List ((List UInt8)×(List Int)))→(List UInt8)→((List UInt8)→Bool→Option R)→Option R)(f6:(R:Type)→(List dT72)→(List ((List UInt8)×(List Int)))→(List dT56)→Nat→Int→Int→Int→Int→wq2t R→wq1r R→Option R){R:Type}(x0:(List dT72))(x1:(List ((List UInt8)×(List Int))))(x2:(List dT56))(x3:Nat)(x4:Int)(K:((List dT72)→(List ((List UInt8)×(List Int)))→(List dT56)→Nat→Option R))(E:((List dT72)→(List ((List UInt8)×(List Int)))→(List dT56)→Nat→Int→Int→Option R)): Option R:=f1 R x0 x4 [[100,111,109,97,105,110],[100,101,115,99,114,105,112,116,111,114,115]] (fun y9 y10=>f0 R y9 y10 (fun y11=>f2 R x0 x4 [100,111,109,97,105,110] (fun y12=>f4 R x0 y12 (fun y13=>f5 R x1 y13 (fun y14 y15=>cond y15 (f3 R x0 y12 7 (fun y16 y17=>E x0 x1 x2 x3 y16 y17)) (cond (fits x1.length (@List.length (@Kd.T (@Kd.pr Kd.str (@Kd.sl kI))) [(y14,[])]) 40) (f6 R x0 (x1++[(y14,[])]) x2 x3 x4 (@Go.IntKind.wrap Go.IntKind.i64 (((x1++[(y14,[])]).length:Int)-1)) (@Neg.neg Int @Int.instNegInt (1:Int)) 1 (fun y16 y17 y18 y19 y20=>cond (inb (@Go.IntKind.wrap Go.IntKind.i64 ((y17.length:Int)-1)) (y17.length:Int)) (@SH (@List (@Kd.T (@Kd.pr Kd.str (@Kd.sl kI)))) R (List.set y17 (@Go.IntKind.wrap Go.IntKind.i64 ((y17.length:Int)-1)).toNat ((y17.getD (@Go.IntKind.wrap Go.IntKind.i64 ((y17.length:Int)-1)).toNat (Kd.zero (@Kd.pr Kd.str (@Kd.sl kI)))).1,y20)) (fun y21=>K y16 y21 y18 y19)) none) E) none))) (fun y13 y14=>E x0 x1 x2 x3 y13 y14)) (fun y12 y13=>E x0 x1 x2 x3 y12 y13)) (fun y11 y12=>E x0 x1 x2 x3 y11 y12))
theorem wqpp(f0:(R:Type)→Int→Int→(Unit→Option R)→(Int→Int→Option R)→Option R)(f1:(R:Type)→(List dT72)→Int→(List (List UInt8))→(Int→Int→Option R)→Option R)(f2:(R:Type)→dT37→Int→(List UInt8)→(Int→Option R)→(Int→Int→Option R)→Option R)(f3:(R:Type)→dT37→Int→Int→(Int→Int→Option R)→Option R)(f4:(R:Type)→dT37→Int→((List UInt8)→Option R)→(Int→Int→Option R)→Option R)(f5:(R:Type)→(List ((List UInt8)×(List Int)))→(List UInt8)→((List UInt8)→Bool→Option R)→Option R)(f6:(R:Type)→(List dT72)→(List ((List UInt8)×(List Int)))→(List dT56)→Nat→Int→Int→Int→Int→wq2t R→wq1r R→Option R)(k:Nat){R:Type}(x0:(List dT72))(x1:(List ((List UInt8)×(List Int))))(x2:(List dT56))(x3:Nat)(x4:Int)(K:((List dT72)→(List ((List UInt8)×(List Int)))→(List dT56)→Nat→Option R))(E:((List dT72)→(List ((List UInt8)×(List Int)))→(List dT56)→Nat→Int→Int→Option R)): fnW (wqhb f0 f1 f2 f3 f4 f5 f6) k Tryz.f76 wqh9 [.ptr 1 0,.v kI x4] [(21,.row 64 (.pr .str (.sl kI)) x1),(51,.row 57 kdT56 x2),(1,.var 79 [.v kdT37 x0,.row 21,.row 51,.v .flt x3])] (wqa8 K E)=wqj2 f0 f1 f2 f3 f4 f5 f6 x0 x1 x2 x3 x4 K E:=by
 kernel_rfl
theorem wqou(k:Nat): wqha k=wqhb (fun R=>@wq23 k R) (fun R=>@wq1o k R) (fun R=>@wq11 k R) (fun R=>@wqv k R) (fun R=>@wq2a k R) (fun R=>@wq17 k R) (fun R=>@wq5o k R):=by
 kernel_rfl
theorem wqpq(k:Nat){R:Type}(x0:(List dT72))(x1:(List ((List UInt8)×(List Int))))(x2:(List dT56))(x3:Nat)(x4:Int)(K:((List dT72)→(List ((List UInt8)×(List Int)))→(List dT56)→Nat→Option R))(E:((List dT72)→(List ((List UInt8)×(List Int)))→(List dT56)→Nat→Int→Int→Option R)): fnW (wqha k) k Tryz.f76 wqh9 [.ptr 1 0,.v kI x4] [(21,.row 64 (.pr .str (.sl kI)) x1),(51,.row 57 kdT56 x2),(1,.var 79 [.v kdT37 x0,.row 21,.row 51,.v .flt x3])] (wqa8 K E)=wq3q k x0 x1 x2 x3 x4 K E:=by
 have e:wq3q k x0 x1 x2 x3 x4 K E=wqj2 (fun R=>@wq23 k R) (fun R=>@wq1o k R) (fun R=>@wq11 k R) (fun R=>@wqv k R) (fun R=>@wq2a k R) (fun R=>@wq17 k R) (fun R=>@wq5o k R) x0 x1 x2 x3 x4 K E:=by kernel_rfl
 rw[wqou,e]
 exact wqpp (fun R=>@wq23 k R) (fun R=>@wq1o k R) (fun R=>@wq11 k R) (fun R=>@wqv k R) (fun R=>@wq2a k R) (fun R=>@wq17 k R) (fun R=>@wq5o k R) k x0 x1 x2 x3 x4 K E
def wq7s(k:Nat){R:Type}: List PV→List (Nm×HObj)→(Out→Option R)→Option R
 |[.ptr 1 0,.v (.int .i64) x4],[(21,.row 64 (.pr .str (.sl (.int .i64))) x1),(51,.row 57 (.pr .str (.pr .str (.pr .bool (.pr (.int .i64) (.pr (.int .i64) (.pr .bool (.pr (.pr .str (.pr (.int .i64) (.pr (.int .i64) (.pr .flt (.pr .bool .bool))))) (.sl (.int .i64))))))))) x2),(1,.var 79 [.v (.sl (.pr (.int .i64) (.pr (.int .i64) (.pr .str (.pr .bool (.pr (.sl .str) (.sl (.int .i64)))))))) x0,.row 21,.row 51,.v .flt x3])],K=>wq3q k x0 x1 x2 x3 x4 (fun y0 y1 y2 y3=>K (.ret [] [(21,.row 64 (.pr .str (.sl (.int .i64))) y1),(51,.row 57 (.pr .str (.pr .str (.pr .bool (.pr (.int .i64) (.pr (.int .i64) (.pr .bool (.pr (.pr .str (.pr (.int .i64) (.pr (.int .i64) (.pr .flt (.pr .bool .bool))))) (.sl (.int .i64))))))))) y2),(1,.var 79 [.v (.sl (.pr (.int .i64) (.pr (.int .i64) (.pr .str (.pr .bool (.pr (.sl .str) (.sl (.int .i64)))))))) y0,.row 21,.row 51,.v .flt y3])])) (fun z0 z1 z2 z3 z4 z5=>K (.pan (.ifc 29 (.agg [.v (.int .i64) z4,.v (.int .i64) z5])) [(21,.row 64 (.pr .str (.sl (.int .i64))) z1),(51,.row 57 (.pr .str (.pr .str (.pr .bool (.pr (.int .i64) (.pr (.int .i64) (.pr .bool (.pr (.pr .str (.pr (.int .i64) (.pr (.int .i64) (.pr .flt (.pr .bool .bool))))) (.sl (.int .i64))))))))) z2),(1,.var 79 [.v (.sl (.pr (.int .i64) (.pr (.int .i64) (.pr .str (.pr .bool (.pr (.sl .str) (.sl (.int .i64)))))))) z0,.row 21,.row 51,.v .flt z3])]))
 |_,_,_=>none
theorem wqtr(k:Nat): DOK Tryz.prog 76 (wq7s k):=by
 intro ps hp R K r h
 have h:wq7s k ps hp K=some r:=h
 unfold wq7s at h
 split at h
 ·rw[←wqpq]at h
  exact fnW_ok ⟨tyT_ok,(wqd (wq7o k) (wqd (wqd1 k) (wqd (wqaj k) (wqd (wq7j k) (wqd (wqf1 k) (wqd (wq8j k) (wqd (wqye k) CTab.nil_ok))))))),fun _ _=>rfl⟩ mixed (by kernel_rfl) (by kernel_rfl) h fun o ho=>by unfold wqa8 at ho;split at ho<;>first|exact ho|cases ho
 ·cases h
end Go.Proofs.YtabkhphoacmcdaaGreatDoor.Pvm
end
noncomputable section
namespace Go.Proofs.YtabkhphoacmcdaaGreatDoor.Pvm
open Go Go.Proofs
def wqfh(wqm:(R:Type)→(List dT72)→(List ((List UInt8)×(List Int)))→(List dT56)→Nat→Int→((List dT72)→(List ((List UInt8)×(List Int)))→(List dT56)→Nat→Option R)→((List dT72)→(List ((List UInt8)×(List Int)))→(List dT56)→Nat→Int→Int→Option R)→Option R){R:Type}: List PV→List (Nm×HObj)→(Out→Option R)→Option R
 |[.ptr 1 0,.v (.int .i64) x4],[(21,.row 64 (.pr .str (.sl (.int .i64))) x1),(51,.row 57 (.pr .str (.pr .str (.pr .bool (.pr (.int .i64) (.pr (.int .i64) (.pr .bool (.pr (.pr .str (.pr (.int .i64) (.pr (.int .i64) (.pr .flt (.pr .bool .bool))))) (.sl (.int .i64))))))))) x2),(1,.var 79 [.v (.sl (.pr (.int .i64) (.pr (.int .i64) (.pr .str (.pr .bool (.pr (.sl .str) (.sl (.int .i64)))))))) x0,.row 21,.row 51,.v .flt x3])],K=>wqm R x0 x1 x2 x3 x4 (fun y0 y1 y2 y3=>K (.ret [] [(21,.row 64 (.pr .str (.sl (.int .i64))) y1),(51,.row 57 (.pr .str (.pr .str (.pr .bool (.pr (.int .i64) (.pr (.int .i64) (.pr .bool (.pr (.pr .str (.pr (.int .i64) (.pr (.int .i64) (.pr .flt (.pr .bool .bool))))) (.sl (.int .i64))))))))) y2),(1,.var 79 [.v (.sl (.pr (.int .i64) (.pr (.int .i64) (.pr .str (.pr .bool (.pr (.sl .str) (.sl (.int .i64)))))))) y0,.row 21,.row 51,.v .flt y3])])) (fun z0 z1 z2 z3 z4 z5=>K (.pan (.ifc 29 (.agg [.v (.int .i64) z4,.v (.int .i64) z5])) [(21,.row 64 (.pr .str (.sl (.int .i64))) z1),(51,.row 57 (.pr .str (.pr .str (.pr .bool (.pr (.int .i64) (.pr (.int .i64) (.pr .bool (.pr (.pr .str (.pr (.int .i64) (.pr (.int .i64) (.pr .flt (.pr .bool .bool))))) (.sl (.int .i64))))))))) z2),(1,.var 79 [.v (.sl (.pr (.int .i64) (.pr (.int .i64) (.pr .str (.pr .bool (.pr (.sl .str) (.sl (.int .i64)))))))) z0,.row 21,.row 51,.v .flt z3])]))
 |_,_,_=>none
end Go.Proofs.YtabkhphoacmcdaaGreatDoor.Pvm
end
noncomputable section
namespace Go.Proofs.YtabkhphoacmcdaaGreatDoor.Pvm
open Go Go.Proofs
def wqg0(wqo:(R:Type)→dT37→Int→(List UInt8)→((List Int)→Option R)→(Int→Int→Option R)→Option R){R:Type}: List PV→List (Nm×HObj)→(Out→Option R)→Option R
 |[.lp (.sl (.pr (.int .i64) (.pr (.int .i64) (.pr .str (.pr .bool (.pr (.sl .str) (.sl (.int .i64)))))))) x0 0,.v (.int .i64) x1,.v .str x2],[],K=>wqo R x0 x1 x2 (fun y0=>K (.ret [.v (.sl (.int .i64)) y0] [])) (fun z0 z1=>K (.pan (.ifc 29 (.agg [.v (.int .i64) z0,.v (.int .i64) z1])) []))
 |_,_,_=>none
end Go.Proofs.YtabkhphoacmcdaaGreatDoor.Pvm
end
noncomputable section
namespace Go.Proofs.YtabkhphoacmcdaaGreatDoor.Pvm
open Go Go.Proofs
def wqg1(wqa:(R:Type)→(List UInt8)→(Nat→Bool→Option R)→Option R){R:Type}: List PV→List (Nm×HObj)→(Out→Option R)→Option R
 |[.v .str x0],[],K=>wqa R x0 (fun y0 y1=>K (.ret [.v .flt y0,.v .bool y1] []))
 |_,_,_=>none
end Go.Proofs.YtabkhphoacmcdaaGreatDoor.Pvm
end
noncomputable section
namespace Go.Proofs.YtabkhphoacmcdaaGreatDoor.Pvm
open Go Go.Proofs
abbrev wq24:Type 1:=(R:Type)→Int→Int→(Unit→Option R)→(Int→Int→Option R)→Option R
abbrev wq1s:Type 1:=(R:Type)→(List dT72)→Int→(List (List UInt8))→(Int→Int→Option R)→Option R
abbrev wq19:Type 1:=(R:Type)→dT37→Int→(List UInt8)→Nat→(Nat→Option R)→(Int→Int→Option R)→Option R
abbrev wq1g:Type 1:=(R:Type)→dT37→Int→(List UInt8)→(Int→Option R)→(Int→Int→Option R)→Option R
abbrev wq1a:Type 1:=(R:Type)→dT37→Int→(List UInt8)→((List Int)→Option R)→(Int→Int→Option R)→Option R
abbrev wq12:Type 1:=(R:Type)→(List dT72)→(List ((List UInt8)×(List Int)))→(List dT56)→Nat→Int→((List dT72)→(List ((List UInt8)×(List Int)))→(List dT56)→Nat→Option R)→((List dT72)→(List ((List UInt8)×(List Int)))→(List dT56)→Nat→Int→Int→Option R)→Option R
abbrev wq3z(R:Type): Type:=((List dT72)→(List ((List UInt8)×(List Int)))→(List dT56)→Nat→Option R)
abbrev wq40(R:Type): Type:=((List dT72)→(List ((List UInt8)×(List Int)))→(List dT56)→Nat→Int→Int→Option R)
def wqts:List LS:=[.obj 1 [.sl kdT72,.own 21 64 (.pr .str (.sl kI)),.own 51 57 kdT56,.any]]
def wq6i{R:Type}(K:wq3z R)(E:wq40 R): Out→Option R
 |.ret [] [(21,.row 64 (.pr .str (.sl (.int .i64))) y1),(51,.row 57 (.pr .str (.pr .str (.pr .bool (.pr (.int .i64) (.pr (.int .i64) (.pr .bool (.pr (.pr .str (.pr (.int .i64) (.pr (.int .i64) (.pr .flt (.pr .bool .bool))))) (.sl (.int .i64))))))))) y2),(1,.var 79 [.v (.sl (.pr (.int .i64) (.pr (.int .i64) (.pr .str (.pr .bool (.pr (.sl .str) (.sl (.int .i64)))))))) y0,.row 21,.row 51,.v .flt y3])]=>K y0 y1 y2 y3
 |.pan (.ifc 29 (.agg [.v (.int .i64) z4,.v (.int .i64) z5])) [(21,.row 64 (.pr .str (.sl (.int .i64))) z1),(51,.row 57 (.pr .str (.pr .str (.pr .bool (.pr (.int .i64) (.pr (.int .i64) (.pr .bool (.pr (.pr .str (.pr (.int .i64) (.pr (.int .i64) (.pr .flt (.pr .bool .bool))))) (.sl (.int .i64))))))))) z2),(1,.var 79 [.v (.sl (.pr (.int .i64) (.pr (.int .i64) (.pr .str (.pr .bool (.pr (.sl .str) (.sl (.int .i64)))))))) z0,.row 21,.row 51,.v .flt z3])]=>E z0 z1 z2 z3 z4 z5
 |_=>none
def wq9s:RetSpec:=⟨[],[(1,.obj 1 [.sl (.pr (.int .i64) (.pr (.int .i64) (.pr .str (.pr .bool (.pr (.sl .str) (.sl (.int .i64))))))),.own 21 64 (.pr .str (.sl (.int .i64))),.own 51 57 (.pr .str (.pr .str (.pr .bool (.pr (.int .i64) (.pr (.int .i64) (.pr .bool (.pr (.pr .str (.pr (.int .i64) (.pr (.int .i64) (.pr .flt (.pr .bool .bool))))) (.sl (.int .i64))))))))),.any])],[(1,.obj 1 [.sl (.pr (.int .i64) (.pr (.int .i64) (.pr .str (.pr .bool (.pr (.sl .str) (.sl (.int .i64))))))),.own 21 64 (.pr .str (.sl (.int .i64))),.own 51 57 (.pr .str (.pr .str (.pr .bool (.pr (.int .i64) (.pr (.int .i64) (.pr .bool (.pr (.pr .str (.pr (.int .i64) (.pr (.int .i64) (.pr .flt (.pr .bool .bool))))) (.sl (.int .i64))))))))),.any])]⟩
def wq9t(k:Nat)(wq5:wq24)(wq3:wq1s)(wqa:(R:Type)→(List UInt8)→(Nat→Bool→Option R)→Option R)(wq2:wq19)(wq1:wq1g)(wqo:wq1a)(wq0:(R:Type)→dT37→Int→Int→(Int→Int→Option R)→Option R)(wqm:wq12): Ctx:=⟨tyT,[(1005,⟨[(0,.obj 1 [.sl kdT72,.own 21 64 (.pr .str (.sl kI)),.own 51 57 kdT56,.any]),(30,.sl kI),(31,.any),(32,.any)],[(1,.obj 1 [.sl kdT72,.own 21 64 (.pr .str (.sl kI)),.own 51 57 kdT56,.any])]⟩)],(.add 69 wq5c (wq8z wq5) (.add 70 wq8e (wq68 wq3) (.add 71 wqib (wqg1 wqa) (.add 72 wqh3 (wq7q wq2) (.add 73 wq6y (wq5a wq1) (.add 74 wqh0 (wqg0 wqo) (.add 75 wq59 (wq4v wq0) (.add 76 wqqu (wqfh wqm) .nil)))))))),[],[1],[],@SH⟩
def wq5d(s0:(List dT72))(s1:(List ((List UInt8)×(List Int))))(s2:(List dT56))(s3:Nat)(s4:(List Int))(s5 s6:Int): St:=⟨mkT [(0,.ptr 1 0),(30,.v (.sl kI) s4),(31,.v kI s5),(32,.v kI s6)],mkH [(21,.row 64 (.pr .str (.sl kI)) s1),(51,.row 57 kdT56 s2),(1,.var 79 [.v kdT37 s0,.row 21,.row 51,.v .flt s3])]⟩
def wq79(k:Nat)(wq5:wq24)(wq3:wq1s)(wqa:(R:Type)→(List UInt8)→(Nat→Bool→Option R)→Option R)(wq2:wq19)(wq1:wq1g)(wqo:wq1a)(wq0:(R:Type)→dT37→Int→Int→(Int→Int→Option R)→Option R)(wqm:wq12){R:Type}(I:Nat→St→Option R)(n:Nat)(s:St)(K:wq3z R)(E:wq40 R): Option R:=loopK (wq9t k wq5 wq3 wqa wq2 wq1 wqo wq0 wqm) k Tryz.f37 wq9s 1005 [1,1,1,1,1,0] I n s (wq6i K E)
def wqfi(k:Nat)(wq5:wq24)(wq3:wq1s)(wqa:(R:Type)→(List UInt8)→(Nat→Bool→Option R)→Option R)(wq2:wq19)(wq1:wq1g)(wqo:wq1a)(wq0:(R:Type)→dT37→Int→Int→(Int→Int→Option R)→Option R)(wqm:wq12){R:Type}(E1005:((List dT72)→(List ((List UInt8)×(List Int)))→(List dT56)→Nat→(List Int)→Int→Int→Option R))(s0:(List dT72))(s1:(List ((List UInt8)×(List Int))))(s2:(List dT56))(s3:Nat)(s4:(List Int))(s5 s6:Int)(K:wq3z R)(E:wq40 R): Option R:=cond (decide (s6<s5)) (cond (inb s6 (s4.length:Int)) (cond (decide (s6≥16)) (wq0 R s0 (s4.getD s6.toNat kI.zero) 9 (fun y12 y13=>E s0 s1 s2 s3 y12 y13)) (wqm R s0 s1 s2 s3 (s4.getD s6.toNat kI.zero) (fun y12 y13 y14 y15=>E1005 y12 y13 y14 y15 s4 s5 (@Go.IntKind.wrap Go.IntKind.i64 (s6+1))) E)) none) (K s0 s1 s2 s3)
theorem wqmi(k:Nat)(wq5:wq24)(wq3:wq1s)(wqa:(R:Type)→(List UInt8)→(Nat→Bool→Option R)→Option R)(wq2:wq19)(wq1:wq1g)(wqo:wq1a)(wq0:(R:Type)→dT37→Int→Int→(Int→Int→Option R)→Option R)(wqm:wq12){R:Type}(I:Nat→St→Option R)(s0:(List dT72))(s1:(List ((List UInt8)×(List Int))))(s2:(List dT56))(s3:Nat)(s4:(List Int))(s5 s6:Int)(K:wq3z R)(E:wq40 R): bodyK (wq9t k wq5 wq3 wqa wq2 wq1 wqo wq0 wqm) k Tryz.f37 wq9s [1,1,1,1,1,0,0] I (wq5d s0 s1 s2 s3 s4 s5 s6) (wq6i K E)=wqfi k wq5 wq3 wqa wq2 wq1 wqo wq0 wqm (fun s0 s1 s2 s3 s4 s5 s6=>I 1005 (wq5d s0 s1 s2 s3 s4 s5 s6)) s0 s1 s2 s3 s4 s5 s6 K E:=by kernel_rfl
def wqf5(k:Nat)(wq5:wq24)(wq3:wq1s)(wqa:(R:Type)→(List UInt8)→(Nat→Bool→Option R)→Option R)(wq2:wq19)(wq1:wq1g)(wqo:wq1a)(wq0:(R:Type)→dT37→Int→Int→(Int→Int→Option R)→Option R)(wqm:wq12){R:Type}(E1005:((List dT72)→(List ((List UInt8)×(List Int)))→(List dT56)→Nat→(List Int)→Int→Int→Option R))(x0:(List dT72))(x1:(List ((List UInt8)×(List Int))))(x2:(List dT56))(x3:Nat)(K:wq3z R)(E:wq40 R): Option R:=wq3 R x0 0 [[110,101,97,114],[100,111,109,97,105,110,115]] (fun y9 y10=>wq5 R y9 y10 (fun y11=>wqa R [48,46,56] (fun y12 y13=>wq2 R x0 0 [110,101,97,114] y12 (fun y14=>wq1 R x0 0 [100,111,109,97,105,110,115] (fun y15=>wqo R x0 0 [100,111,109,97,105,110,115] (fun y16=>E1005 x0 x1 x2 y14 y16 (y16.length:Int) 0) (fun y16 y17=>E x0 x1 x2 y14 y16 y17)) (fun y15 y16=>E x0 x1 x2 y14 y15 y16)) (fun y14 y15=>E x0 x1 x2 y12 y14 y15))) (fun y11 y12=>E x0 x1 x2 x3 y11 y12))
def wqa9(k:Nat)(wq5:wq24)(wq3:wq1s)(wqa:(R:Type)→(List UInt8)→(Nat→Bool→Option R)→Option R)(wq2:wq19)(wq1:wq1g)(wqo:wq1a)(wq0:(R:Type)→dT37→Int→Int→(Int→Int→Option R)→Option R)(wqm:wq12){R:Type}: Nat→(List dT72)→(List ((List UInt8)×(List Int)))→(List dT56)→Nat→(List Int)→Int→Int→((List dT72)→(List ((List UInt8)×(List Int)))→(List dT56)→Nat→Option R)→((List dT72)→(List ((List UInt8)×(List Int)))→(List dT56)→Nat→Int→Int→Option R)→Option R
 |0,_,_,_,_,_,_,_,_,_=>none
 |n+1,s0,s1,s2,s3,s4,s5,s6,K,E=>wqfi k wq5 wq3 wqa wq2 wq1 wqo wq0 wqm (fun s0 s1 s2 s3 s4 s5 s6=>wqa9 k wq5 wq3 wqa wq2 wq1 wqo wq0 wqm n s0 s1 s2 s3 s4 s5 s6 K E) s0 s1 s2 s3 s4 s5 s6 K E
theorem wqmj(k:Nat)(wq5:wq24)(wq3:wq1s)(wqa:(R:Type)→(List UInt8)→(Nat→Bool→Option R)→Option R)(wq2:wq19)(wq1:wq1g)(wqo:wq1a)(wq0:(R:Type)→dT37→Int→Int→(Int→Int→Option R)→Option R)(wqm:wq12){R:Type}(I:Nat→St→Option R)(K:wq3z R)(E:wq40 R)(n:Nat): ∀(s0:(List dT72)) (s1:(List ((List UInt8)×(List Int)))) (s2:(List dT56)) (s3:Nat) (s4:(List Int)) (s5 s6:Int),wq79 k wq5 wq3 wqa wq2 wq1 wqo wq0 wqm I n (wq5d s0 s1 s2 s3 s4 s5 s6) K E=wqa9 k wq5 wq3 wqa wq2 wq1 wqo wq0 wqm n s0 s1 s2 s3 s4 s5 s6 K E:=by
 induction n with
 |zero=>intros;rfl
 |succ n ih =>
  intro s0 s1 s2 s3 s4 s5 s6
  refine(?_:_=_).trans ((wqmi k wq5 wq3 wqa wq2 wq1 wqo wq0 wqm (upI 1005 (fun s=>wq79 k wq5 wq3 wqa wq2 wq1 wqo wq0 wqm I n s K E) I) s0 s1 s2 s3 s4 s5 s6 K E).trans ?_)
  ·rfl
  ·simp only[wq43,ih]<;>rfl
def wqf6(k:Nat){R:Type}(x0:(List dT72))(x1:(List ((List UInt8)×(List Int))))(x2:(List dT56))(x3:Nat)(K:wq3z R)(E:wq40 R): Option R:=wqf5 k (@wq23 k) (@wq1o k) (@wq3n k) (@wq2b k) (@wq11 k) (@wq3x k) (@wqv k) (@wq3q k) (fun s0 s1 s2 s3 s4 s5 s6=>wqa9 k (@wq23 k) (@wq1o k) (@wq3n k) (@wq2b k) (@wq11 k) (@wq3x k) (@wqv k) (@wq3q k) k s0 s1 s2 s3 s4 s5 s6 K E) x0 x1 x2 x3 K E
theorem wqsl(k:Nat)(wq5:wq24)(wq3:wq1s)(wqa:(R:Type)→(List UInt8)→(Nat→Bool→Option R)→Option R)(wq2:wq19)(wq1:wq1g)(wqo:wq1a)(wq0:(R:Type)→dT37→Int→Int→(Int→Int→Option R)→Option R)(wqm:wq12){R:Type}(x0:(List dT72))(x1:(List ((List UInt8)×(List Int))))(x2:(List dT56))(x3:Nat)(K:wq3z R)(E:wq40 R): fnW (wq9t k wq5 wq3 wqa wq2 wq1 wqo wq0 wqm) k Tryz.f37 wq9s [.ptr 1 0] [(21,.row 64 (.pr .str (.sl kI)) x1),(51,.row 57 kdT56 x2),(1,.var 79 [.v kdT37 x0,.row 21,.row 51,.v .flt x3])] (wq6i K E)=wqf5 k wq5 wq3 wqa wq2 wq1 wqo wq0 wqm (fun s0 s1 s2 s3 s4 s5 s6=>wq79 k wq5 wq3 wqa wq2 wq1 wqo wq0 wqm (fun _ _=>none) k (wq5d s0 s1 s2 s3 s4 s5 s6) K E) x0 x1 x2 x3 K E:=by kernel_rfl
theorem wqsm(k:Nat){R:Type}(x0:(List dT72))(x1:(List ((List UInt8)×(List Int))))(x2:(List dT56))(x3:Nat)(K:wq3z R)(E:wq40 R): fnW (wq9t k (@wq23 k) (@wq1o k) (@wq3n k) (@wq2b k) (@wq11 k) (@wq3x k) (@wqv k) (@wq3q k)) k Tryz.f37 wq9s [.ptr 1 0] [(21,.row 64 (.pr .str (.sl kI)) x1),(51,.row 57 kdT56 x2),(1,.var 79 [.v kdT37 x0,.row 21,.row 51,.v .flt x3])] (wq6i K E)=wqf6 k x0 x1 x2 x3 K E:=by
 refine Eq.trans (b:=wqf5 k (@wq23 k) (@wq1o k) (@wq3n k) (@wq2b k) (@wq11 k) (@wq3x k) (@wqv k) (@wq3q k) (fun s0 s1 s2 s3 s4 s5 s6=>wq79 k (@wq23 k) (@wq1o k) (@wq3n k) (@wq2b k) (@wq11 k) (@wq3x k) (@wqv k) (@wq3q k) (fun _ _=>none) k (wq5d s0 s1 s2 s3 s4 s5 s6) K E) x0 x1 x2 x3 K E) (wqsl k (@wq23 k) (@wq1o k) (@wq3n k) (@wq2b k) (@wq11 k) (@wq3x k) (@wqv k) (@wq3q k) x0 x1 x2 x3 K E) ?_
 simp only[wqmj]<;>rfl
def wq9b(k:Nat){R:Type}: List PV→List (Nm×HObj)→(Out→Option R)→Option R
 |[.ptr 1 0],[(21,.row 64 (.pr .str (.sl (.int .i64))) x1),(51,.row 57 (.pr .str (.pr .str (.pr .bool (.pr (.int .i64) (.pr (.int .i64) (.pr .bool (.pr (.pr .str (.pr (.int .i64) (.pr (.int .i64) (.pr .flt (.pr .bool .bool))))) (.sl (.int .i64))))))))) x2),(1,.var 79 [.v (.sl (.pr (.int .i64) (.pr (.int .i64) (.pr .str (.pr .bool (.pr (.sl .str) (.sl (.int .i64)))))))) x0,.row 21,.row 51,.v .flt x3])],K=>wqf6 k x0 x1 x2 x3 (fun y0 y1 y2 y3=>K (.ret [] [(21,.row 64 (.pr .str (.sl (.int .i64))) y1),(51,.row 57 (.pr .str (.pr .str (.pr .bool (.pr (.int .i64) (.pr (.int .i64) (.pr .bool (.pr (.pr .str (.pr (.int .i64) (.pr (.int .i64) (.pr .flt (.pr .bool .bool))))) (.sl (.int .i64))))))))) y2),(1,.var 79 [.v (.sl (.pr (.int .i64) (.pr (.int .i64) (.pr .str (.pr .bool (.pr (.sl .str) (.sl (.int .i64)))))))) y0,.row 21,.row 51,.v .flt y3])])) (fun z0 z1 z2 z3 z4 z5=>K (.pan (.ifc 29 (.agg [.v (.int .i64) z4,.v (.int .i64) z5])) [(21,.row 64 (.pr .str (.sl (.int .i64))) z1),(51,.row 57 (.pr .str (.pr .str (.pr .bool (.pr (.int .i64) (.pr (.int .i64) (.pr .bool (.pr (.pr .str (.pr (.int .i64) (.pr (.int .i64) (.pr .flt (.pr .bool .bool))))) (.sl (.int .i64))))))))) z2),(1,.var 79 [.v (.sl (.pr (.int .i64) (.pr (.int .i64) (.pr .str (.pr .bool (.pr (.sl .str) (.sl (.int .i64)))))))) z0,.row 21,.row 51,.v .flt z3])]))
 |_,_,_=>none
theorem wqyf(k:Nat): DOK Tryz.prog 37 (wq9b k):=by
 intro ps hp R K r h
 have h:wq9b k ps hp K=some r:=h
 unfold wq9b at h
 split at h
 ·rw[←wqsm]at h
  exact fnW_ok ⟨tyT_ok,(CTab.add_ok (fun h=>wq7o k _ _ _ _ _ (by unfold wq8z at h;unfold wq4d;exact h)) (CTab.add_ok (fun h=>wqd1 k _ _ _ _ _ (by unfold wq68 at h;unfold wq5k;exact h)) (CTab.add_ok (fun h=>wqtf k _ _ _ _ _ (by unfold wqg1 at h;unfold wqbg;exact h)) (CTab.add_ok (fun h=>wqkf k _ _ _ _ _ (by unfold wq7q at h;unfold wq6g;exact h)) (CTab.add_ok (fun h=>wqaj k _ _ _ _ _ (by unfold wq5a at h;unfold wq4q;exact h)) (CTab.add_ok (fun h=>wqkd k _ _ _ _ _ (by unfold wqg0 at h;unfold wq6e;exact h)) (CTab.add_ok (fun h=>wq7j k _ _ _ _ _ (by unfold wq4v at h;unfold wq3w;exact h)) (CTab.add_ok (fun h=>wqtr k _ _ _ _ _ (by unfold wqfh at h;unfold wq7s;exact h)) CTab.nil_ok)))))))),fun _ _=>rfl⟩ mixed (by kernel_rfl) (by kernel_rfl) h fun o ho=>by unfold wq6i at ho;split at ho<;>first|exact ho|cases ho
 ·cases h
end Go.Proofs.YtabkhphoacmcdaaGreatDoor.Pvm
end
noncomputable section
namespace Go.Proofs.YtabkhphoacmcdaaGreatDoor.Pvm
open Go Go.Proofs
def wq1je:List LS:=[.any]
def wq159{R:Type}(K:(Bool→Option R)): Out→Option R
 |.ret [.v .bool y0] []=>K y0
 |_=>none
def wq1mh:RetSpec:=⟨[.any],[],[]⟩
def wq1mi(k:Nat): Ctx:=⟨tyT,[],.nil,[],[],[],@SH⟩
def wq1ou(k:Nat){R:Type}(x0:Int)(K:(Bool→Option R)): Option R:=K (cond (cond (cond (cond (cond (cond (decide (x0≥97)) (decide (x0≤122)) false) true (cond (decide (x0≥65)) (decide (x0≤90)) false)) true (cond (decide (x0≥48)) (decide (x0≤57)) false)) true (x0 == 95)) true (x0 == 45)) true (x0 == 46))
def wq18z(k:Nat){R:Type}(x0:Int)(K:(Bool→Option R)): Option R:=wq1ou k x0 K
theorem wq1ha(k:Nat){R:Type}(x0:Int)(K:(Bool→Option R)): fnW (wq1mi k) k Tryz.f235 wq1mh [.v (.int .u8) x0] [] (wq159 K)=wq18z k x0 K:=by
 kernel_rfl
def wqr2(k:Nat){R:Type}: List PV→List (Nm×HObj)→(Out→Option R)→Option R
 |[.v (.int .u8) x0],[],K=>wq18z k x0 (fun y0=>K (.ret [.v .bool y0] []))
 |_,_,_=>none
theorem wq1ov(k:Nat): DOK Tryz.prog 235 (wqr2 k):=by
 intro ps hp R K r h
 have h:wqr2 k ps hp K=some r:=h
 unfold wqr2 at h
 split at h
 ·rw[←wq1ha]at h
  exact fnW_ok ⟨tyT_ok,CTab.nil_ok,fun _ _=>rfl⟩ mixed (by kernel_rfl) (by kernel_rfl) h fun o ho=>by unfold wq159 at ho;split at ho<;>first|exact ho|cases ho
 ·cases h
end Go.Proofs.YtabkhphoacmcdaaGreatDoor.Pvm
end
noncomputable section
namespace Go.Proofs.YtabkhphoacmcdaaGreatDoor.Pvm
open Go Go.Proofs
def wq15a:List LS:=[.any]
def wqkx{R:Type}(K:(Bool→Option R)): Out→Option R
 |.ret [.v .bool y0] []=>K y0
 |_=>none
def wqyg:RetSpec:=⟨[.any],[],[]⟩
def wqyh(k:Nat): Ctx:=⟨tyT,[(1002,⟨[(0,.any),(5,.any),(6,.any)],[]⟩)],(.add 235 wq1je (wqr2 k) .nil),[],[],[],@SH⟩
def wqep(s0:(List UInt8))(s1 s2:Int): St:=⟨mkT [(0,.v .str s0),(5,.v kI s1),(6,.v kI s2)],mkH []⟩
def wqmk(k:Nat){R:Type}(I:Nat→St→Option R)(n:Nat)(s:St)(K:(Bool→Option R)): Option R:=loopK (wqyh k) k Tryz.f202 wqyg 1002 [1,0,1,0] I n s (wqkx K)
def wqtt(k:Nat){R:Type}(E1002:((List UInt8)→Int→Int→Option R))(s0:(List UInt8))(s1 s2:Int)(K:(Bool→Option R)): Option R:=cond (decide (s2<s1)) (cond (inb s2 (s0.length:Int)) (wq18z k ((s0.getD s2.toNat 0).toNat:Int) (fun y7=>cond (!y7) (K false) (E1002 s0 s1 (@Go.IntKind.wrap Go.IntKind.i64 (s2+1))))) none) (K (!(s0 == [])))
theorem wq10r(k:Nat){R:Type}(I:Nat→St→Option R)(s0:(List UInt8))(s1 s2:Int)(K:(Bool→Option R)): bodyK (wqyh k) k Tryz.f202 wqyg [1,0,1,0,0] I (wqep s0 s1 s2) (wqkx K)=wqtt k (fun s0 s1 s2=>I 1002 (wqep s0 s1 s2)) s0 s1 s2 K:=by kernel_rfl
def wq1df(k:Nat){R:Type}(E1002:((List UInt8)→Int→Int→Option R))(x0:(List UInt8))(K:(Bool→Option R)): Option R:=E1002 x0 (x0.length:Int) 0
def wqml(k:Nat){R:Type}: Nat→(List UInt8)→Int→Int→(Bool→Option R)→Option R
 |0,_,_,_,_=>none
 |n+1,s0,s1,s2,K=>wqtt k (fun s0 s1 s2=>wqml k n s0 s1 s2 K) s0 s1 s2 K
theorem wq10s(k:Nat){R:Type}(I:Nat→St→Option R)(K:(Bool→Option R))(n:Nat): ∀(s0:(List UInt8)) (s1 s2:Int),wqmk k I n (wqep s0 s1 s2) K=wqml k n s0 s1 s2 K:=by
 induction n with
 |zero=>intros;rfl
 |succ n ih =>
  intro s0 s1 s2
  refine(?_:_=_).trans ((wq10r k (upI 1002 (fun s=>wqmk k I n s K) I) s0 s1 s2 K).trans ?_)
  ·rfl
  ·simp only[wq43,ih]<;>rfl
def wqv7(k:Nat){R:Type}(x0:(List UInt8))(K:(Bool→Option R)): Option R:=wq1df k (fun s0 s1 s2=>wqml k k s0 s1 s2 K) x0 K
theorem wq1er(k:Nat){R:Type}(x0:(List UInt8))(K:(Bool→Option R)): fnW (wqyh k) k Tryz.f202 wqyg [.v .str x0] [] (wqkx K)=wqv7 k x0 K:=by
 refine Eq.trans (b:=wq1df k (fun s0 s1 s2=>wqmk k (fun _ _=>none) k (wqep s0 s1 s2) K) x0 K) (by kernel_rfl) ?_
 simp only[wq10s]<;>rfl
def wqj3(k:Nat){R:Type}: List PV→List (Nm×HObj)→(Out→Option R)→Option R
 |[.v .str x0],[],K=>wqv7 k x0 (fun y0=>K (.ret [.v .bool y0] []))
 |_,_,_=>none
theorem wq1dg(k:Nat): DOK Tryz.prog 202 (wqj3 k):=by
 intro ps hp R K r h
 have h:wqj3 k ps hp K=some r:=h
 unfold wqj3 at h
 split at h
 ·rw[←wq1er]at h
  exact fnW_ok ⟨tyT_ok,(wqd (wq1ov k) CTab.nil_ok),fun _ _=>rfl⟩ mixed (by kernel_rfl) (by kernel_rfl) h fun o ho=>by unfold wqkx at ho;split at ho<;>first|exact ho|cases ho
 ·cases h
end Go.Proofs.YtabkhphoacmcdaaGreatDoor.Pvm
end
noncomputable section
namespace Go.Proofs.YtabkhphoacmcdaaGreatDoor.Pvm
open Go Go.Proofs
def wq1es:List LS:=[.sl .str]
def wqid{R:Type}(K:(Bool→Option R)): Out→Option R
 |.ret [.v .bool y0] []=>K y0
 |_=>none
def wqtu:RetSpec:=⟨[.any],[],[]⟩
def wqtv(k:Nat): Ctx:=⟨tyT,[(1003,⟨[(3,.mpo 73 .one .bool),(7,.sl .str),(8,.any),(9,.any)],[]⟩)],(.add 202 wq15a (wqj3 k) .nil),[],[],[],@SH⟩
def wqd5(s0:(List (List UInt8×Bool)))(s1:(List (List UInt8)))(s2 s3:Int): St:=⟨mkT [(3,.mpp 73),(7,.v (.sl .str) s1),(8,.v kI s2),(9,.v kI s3)],mkH [(73,.mp .one .bool s0)]⟩
def wqjo(k:Nat){R:Type}(I:Nat→St→Option R)(n:Nat)(s:St)(K:(Bool→Option R)): Option R:=loopK (wqtv k) k Tryz.f165 wqtu 1003 [1,1,0,1,0] I n s (wqid K)
def wqry(k:Nat){R:Type}(E1003:((List (List UInt8×Bool))→(List (List UInt8))→Int→Int→Option R))(s0:(List (List UInt8×Bool)))(s1:(List (List UInt8)))(s2 s3:Int)(K:(Bool→Option R)): Option R:=cond (decide (s3<s2)) (cond (inb s3 (s1.length:Int)) (wqv7 k (s1.getD s3.toNat Kd.str.zero) (fun y8=>cond ((cond (!y8) true (decide (((s1.getD s3.toNat Kd.str.zero).length:Int)>64))) == false) (cond (mget Kd.bool (s1.getD s3.toNat Kd.str.zero) s0) (K false) (E1003 (mset Kd.bool (s1.getD s3.toNat Kd.str.zero) true s0) s1 s2 (@Go.IntKind.wrap Go.IntKind.i64 (s3+1)))) (K false))) none) (K true)
theorem wqyi(k:Nat){R:Type}(I:Nat→St→Option R)(s0:(List (List UInt8×Bool)))(s1:(List (List UInt8)))(s2 s3:Int)(K:(Bool→Option R)): bodyK (wqtv k) k Tryz.f165 wqtu [1,1,0,1,0,0] I (wqd5 s0 s1 s2 s3) (wqid K)=wqry k (fun s0 s1 s2 s3=>I 1003 (wqd5 s0 s1 s2 s3)) s0 s1 s2 s3 K:=by kernel_rfl
def wq190(k:Nat){R:Type}(E1003:((List (List UInt8×Bool))→(List (List UInt8))→Int→Int→Option R))(x0:(List (List UInt8)))(K:(Bool→Option R)): Option R:=E1003 [] x0 (x0.length:Int) 0
def wqjp(k:Nat){R:Type}: Nat→(List (List UInt8×Bool))→(List (List UInt8))→Int→Int→(Bool→Option R)→Option R
 |0,_,_,_,_,_=>none
 |n+1,s0,s1,s2,s3,K=>wqry k (fun s0 s1 s2 s3=>wqjp k n s0 s1 s2 s3 K) s0 s1 s2 s3 K
theorem wqyj(k:Nat){R:Type}(I:Nat→St→Option R)(K:(Bool→Option R))(n:Nat): ∀(s0:(List (List UInt8×Bool))) (s1:(List (List UInt8))) (s2 s3:Int),wqjo k I n (wqd5 s0 s1 s2 s3) K=wqjp k n s0 s1 s2 s3 K:=by
 induction n with
 |zero=>intros;rfl
 |succ n ih =>
  intro s0 s1 s2 s3
  refine(?_:_=_).trans ((wqyi k (upI 1003 (fun s=>wqjo k I n s K) I) s0 s1 s2 s3 K).trans ?_)
  ·rfl
  ·simp only[wq43,ih]<;>rfl
def wqyk(k:Nat){R:Type}(x0:(List (List UInt8)))(K:(Bool→Option R)): Option R:=wq190 k (fun s0 s1 s2 s3=>wqjp k k s0 s1 s2 s3 K) x0 K
theorem wq1ba(k:Nat){R:Type}(x0:(List (List UInt8)))(K:(Bool→Option R)): fnW (wqtv k) k Tryz.f165 wqtu [.v (.sl .str) x0] [] (wqid K)=wqyk k x0 K:=by
 refine Eq.trans (b:=wq190 k (fun s0 s1 s2 s3=>wqjo k (fun _ _=>none) k (wqd5 s0 s1 s2 s3) K) x0 K) (by kernel_rfl) ?_
 simp only[wqyj]<;>rfl
def wqky(k:Nat){R:Type}: List PV→List (Nm×HObj)→(Out→Option R)→Option R
 |[.v (.sl .str) x0],[],K=>wqyk k x0 (fun y0=>K (.ret [.v .bool y0] []))
 |_,_,_=>none
theorem wq1jf(k:Nat): DOK Tryz.prog 165 (wqky k):=by
 intro ps hp R K r h
 have h:wqky k ps hp K=some r:=h
 unfold wqky at h
 split at h
 ·rw[←wq1ba]at h
  exact fnW_ok ⟨tyT_ok,(wqd (wq1dg k) CTab.nil_ok),fun _ _=>rfl⟩ mixed (by kernel_rfl) (by kernel_rfl) h fun o ho=>by unfold wqid at ho;split at ho<;>first|exact ho|cases ho
 ·cases h
end Go.Proofs.YtabkhphoacmcdaaGreatDoor.Pvm
end
namespace Go.Proofs.YtabkhphoacmcdaaGreatDoor.Pvm
open Go Go.Proofs
def wq15b:List LS:=[.obj 1 [.sl (.pr (.int .i64) (.pr (.int .i64) (.pr (.int .i64) (.pr .str .bool))))],.obj 2 [.any,.any]]
def wq15c(k:Nat): CTab:=CTab.nil
def wqmm{R:Type}(K:((List dT156)→Int→Int→Option R)): Out→Option R
 |.ret [] [(1,.var 110 [.v (.sl (.pr (.int .i64) (.pr (.int .i64) (.pr (.int .i64) (.pr .str .bool))))) y0]),(2,.var 29 [.v (.int .i64) y1,.v (.int .i64) y2])]=>K y0 y1 y2
 |_=>none
def wq10t:RetSpec:=⟨[],[(1,.obj 1 [.sl (.pr (.int .i64) (.pr (.int .i64) (.pr (.int .i64) (.pr .str .bool))))]),(2,.obj 2 [.any,.any])],[]⟩
def wq191:List (Nat×CutSpec):=[]
def wq16k:List (Nat×Plan):=[(7,(.of [(0,2),(1,0),(2,0)] .done))]
def wqr3(k:Nat): Ctx:=⟨tyT,wq191,wq15c k,[],[1,2],wq16k,@SH⟩
def wqg2:Code:=Tryz.f149.body.getD .skip
def wq15d(k:Nat){R:Type}(x0:(List dT156))(x1 x2:Int)(K:((List dT156)→Int→Int→Option R)): Option R:=K x0 x1 x2
theorem wq192(k:Nat){R:Type}(I:Nat→St→Option R)(x0:(List dT156))(x1 x2:Int)(K:((List dT156)→Int→Int→Option R)): fnCK (wqr3 k) k (at_ [1] wqg2) 12 [] wq10t [.ptr 1 0,.ptr 2 0] 5 (.nilif) [(1,.var 110 [.v (.sl (.pr (.int .i64) (.pr (.int .i64) (.pr (.int .i64) (.pr .str .bool))))) x0]),(2,.var 29 [.v (.int .i64) x1,.v (.int .i64) x2])] (wqmm K)=wq15d k x0 x1 x2 K:=by kernel_rfl
def wqny(k:Nat){R:Type}(x0:(List dT156))(x1 x2:Int)(K:((List dT156)→Int→Int→Option R)): Option R:=wq15d k x0 x1 x2 K
theorem wq193(k:Nat){R:Type}(x0:(List dT156))(x1 x2:Int)(K:((List dT156)→Int→Int→Option R)): fnCK (wqr3 k) k (at_ [1] wqg2) 12 [] wq10t [.ptr 1 0,.ptr 2 0] 5 (.nilif) [(1,.var 110 [.v (.sl (.pr (.int .i64) (.pr (.int .i64) (.pr (.int .i64) (.pr .str .bool))))) x0]),(2,.var 29 [.v (.int .i64) x1,.v (.int .i64) x2])] (wqmm K)=wqny k x0 x1 x2 K:=by
 exact wq192 k (fun _ _=>none) x0 x1 x2 K
def wqwq(k:Nat){R:Type}: PV→List PV→List (Nm×HObj)→(Out→Option R)→Option R
 |.nilif,[.ptr 1 0,.ptr 2 0],[(1,.var 110 [.v (.sl (.pr (.int .i64) (.pr (.int .i64) (.pr (.int .i64) (.pr .str .bool))))) x0]),(2,.var 29 [.v (.int .i64) x1,.v (.int .i64) x2])],K=>wqny k x0 x1 x2 (fun y0 y1 y2=>K (.ret [] [(1,.var 110 [.v (.sl (.pr (.int .i64) (.pr (.int .i64) (.pr (.int .i64) (.pr .str .bool))))) y0]),(2,.var 29 [.v (.int .i64) y1,.v (.int .i64) y2])]))
 |_,_,_,_=>none
theorem wq194(k:Nat): (wq15c k).Ok Tryz.prog:=CTab.nil_ok
theorem wq1et(k:Nat){rec:PV}{ps:List PV}{hp:List (Nm×HObj)}{R:Type}{K:Out→Option R}{r:R}(h:wqwq k rec ps hp K=some r): DoesToD Tryz.prog 149 rec ps hp fun out=>K out=some r:=by
 unfold wqwq at h
 split at h
 ·rw[←wq193]at h
  have:=wq1d9 (P:=Tryz.prog) (cx:=wqr3 k) (f:=149) ⟨tyT_ok,wq194 k,fun _ _=>rfl⟩ (by kernel_rfl) (fn:=Tryz.f149) (id:=0) (ops:=opsAt (at_ [0] wqg2)) (c:=at_ [1] wqg2) (by kernel_rfl) (by kernel_rfl) (by kernel_rfl) (rs:=[]) (by kernel_rfl) (by kernel_rfl) h
  exact this.mono fun out ho=>by
   unfold wqmm at ho
   split at ho<;>first|exact ho|cases ho
 ·cases h
def wq15e(k:Nat): CTab:=CTab.nil
def wqmn{R:Type}(K:((List dT156)→Int→Int→Option R)): Out→Option R
 |.ret [] [(1,.var 110 [.v (.sl (.pr (.int .i64) (.pr (.int .i64) (.pr (.int .i64) (.pr .str .bool))))) y0]),(2,.var 29 [.v (.int .i64) y1,.v (.int .i64) y2])]=>K y0 y1 y2
 |_=>none
def wq10u:RetSpec:=⟨[],[(1,.obj 1 [.sl (.pr (.int .i64) (.pr (.int .i64) (.pr (.int .i64) (.pr .str .bool))))]),(2,.obj 2 [.any,.any])],[]⟩
def wq195:List (Nat×CutSpec):=[]
def wq16l:List (Nat×Plan):=[(7,(.of [(0,2),(1,0),(2,0)] .done))]
def wqr4(k:Nat): Ctx:=⟨tyT,wq195,wq15e k,[],[1,2],wq16l,@SH⟩
def wqg3:Code:=Tryz.f149.body.getD .skip
def wq15f(k:Nat){R:Type}(x0:(List dT156))(x1 x2 x3 x4:Int)(K:((List dT156)→Int→Int→Option R)): Option R:=K [] x3 x4
theorem wq196(k:Nat){R:Type}(I:Nat→St→Option R)(x0:(List dT156))(x1 x2 x3 x4:Int)(K:((List dT156)→Int→Int→Option R)): fnCK (wqr4 k) k (at_ [1] wqg3) 12 [] wq10u [.ptr 1 0,.ptr 2 0] 5 (.ifc 29 (.agg [.v (.int .i64) x3,.v (.int .i64) x4])) [(1,.var 110 [.v (.sl (.pr (.int .i64) (.pr (.int .i64) (.pr (.int .i64) (.pr .str .bool))))) x0]),(2,.var 29 [.v (.int .i64) x1,.v (.int .i64) x2])] (wqmn K)=wq15f k x0 x1 x2 x3 x4 K:=by kernel_rfl
def wqnz(k:Nat){R:Type}(x0:(List dT156))(x1 x2 x3 x4:Int)(K:((List dT156)→Int→Int→Option R)): Option R:=wq15f k x0 x1 x2 x3 x4 K
theorem wq197(k:Nat){R:Type}(x0:(List dT156))(x1 x2 x3 x4:Int)(K:((List dT156)→Int→Int→Option R)): fnCK (wqr4 k) k (at_ [1] wqg3) 12 [] wq10u [.ptr 1 0,.ptr 2 0] 5 (.ifc 29 (.agg [.v (.int .i64) x3,.v (.int .i64) x4])) [(1,.var 110 [.v (.sl (.pr (.int .i64) (.pr (.int .i64) (.pr (.int .i64) (.pr .str .bool))))) x0]),(2,.var 29 [.v (.int .i64) x1,.v (.int .i64) x2])] (wqmn K)=wqnz k x0 x1 x2 x3 x4 K:=by
 exact wq196 k (fun _ _=>none) x0 x1 x2 x3 x4 K
def wqwr(k:Nat){R:Type}: PV→List PV→List (Nm×HObj)→(Out→Option R)→Option R
 |.ifc 29 (.agg [.v (.int .i64) x3,.v (.int .i64) x4]),[.ptr 1 0,.ptr 2 0],[(1,.var 110 [.v (.sl (.pr (.int .i64) (.pr (.int .i64) (.pr (.int .i64) (.pr .str .bool))))) x0]),(2,.var 29 [.v (.int .i64) x1,.v (.int .i64) x2])],K=>wqnz k x0 x1 x2 x3 x4 (fun y0 y1 y2=>K (.ret [] [(1,.var 110 [.v (.sl (.pr (.int .i64) (.pr (.int .i64) (.pr (.int .i64) (.pr .str .bool))))) y0]),(2,.var 29 [.v (.int .i64) y1,.v (.int .i64) y2])]))
 |_,_,_,_=>none
theorem wq198(k:Nat): (wq15e k).Ok Tryz.prog:=CTab.nil_ok
theorem wq1eu(k:Nat){rec:PV}{ps:List PV}{hp:List (Nm×HObj)}{R:Type}{K:Out→Option R}{r:R}(h:wqwr k rec ps hp K=some r): DoesToD Tryz.prog 149 rec ps hp fun out=>K out=some r:=by
 unfold wqwr at h
 split at h
 ·rw[←wq197]at h
  have:=wq1d9 (P:=Tryz.prog) (cx:=wqr4 k) (f:=149) ⟨tyT_ok,wq198 k,fun _ _=>rfl⟩ (by kernel_rfl) (fn:=Tryz.f149) (id:=0) (ops:=opsAt (at_ [0] wqg3)) (c:=at_ [1] wqg3) (by kernel_rfl) (by kernel_rfl) (by kernel_rfl) (rs:=[]) (by kernel_rfl) (by kernel_rfl) h
  exact this.mono fun out ho=>by
   unfold wqmn at ho
   split at ho<;>first|exact ho|cases ho
 ·cases h
end Go.Proofs.YtabkhphoacmcdaaGreatDoor.Pvm
noncomputable section
namespace Go.Proofs.YtabkhphoacmcdaaGreatDoor.Pvm
open Go Go.Proofs
def wqvx:List LS:=[.any,.any]
def wqj4{R:Type}(K:(Bool→Option R)): Out→Option R
 |.ret [.v .bool y0] []=>K y0
 |_=>none
def wqyl:RetSpec:=⟨[.any],[],[]⟩
def wqym(k:Nat): Ctx:=⟨tyT,[],(.add 88 wqns (wq98 k) .nil),[],[],[],@SH⟩
def wq10v(k:Nat){R:Type}(x0 x1:(List UInt8))(K:(Bool→Option R)): Option R:=wqen k x0 x1 K
def wqg4(k:Nat){R:Type}(x0 x1:(List UInt8))(K:(Bool→Option R)): Option R:=wq10v k x0 x1 K
theorem wqtw(k:Nat){R:Type}(x0 x1:(List UInt8))(K:(Bool→Option R)): fnW (wqym k) k Tryz.f41 wqyl [.v .str x0,.v .str x1] [] (wqj4 K)=wqg4 k x0 x1 K:=by
 kernel_rfl
def wq9u(k:Nat){R:Type}: List PV→List (Nm×HObj)→(Out→Option R)→Option R
 |[.v .str x0,.v .str x1],[],K=>wqg4 k x0 x1 (fun y0=>K (.ret [.v .bool y0] []))
 |_,_,_=>none
theorem wq10w(k:Nat): DOK Tryz.prog 41 (wq9u k):=by
 intro ps hp R K r h
 have h:wq9u k ps hp K=some r:=h
 unfold wq9u at h
 split at h
 ·rw[←wqtw]at h
  exact fnW_ok ⟨tyT_ok,(wqd (wqrw k) CTab.nil_ok),fun _ _=>rfl⟩ mixed (by kernel_rfl) (by kernel_rfl) h fun o ho=>by unfold wqj4 at ho;split at ho<;>first|exact ho|cases ho
 ·cases h
end Go.Proofs.YtabkhphoacmcdaaGreatDoor.Pvm
end
noncomputable section
namespace Go.Proofs.YtabkhphoacmcdaaGreatDoor.Pvm
open Go Go.Proofs
def wqyn:List LS:=[.any]
def wq15g{R:Type}(K:(Bool→Option R)): Out→Option R
 |.ret [.v .bool y0] []=>K y0
 |_=>none
def wq1mj:RetSpec:=⟨[.any],[],[]⟩
def wq1mk(k:Nat): Ctx:=⟨tyT,[],(.add 41 wqvx (wq9u k) .nil),[],[],[],@SH⟩
def wq1ow(k:Nat){R:Type}(x0:(List UInt8))(K:(Bool→Option R)): Option R:=cond ((x0 == [(45:UInt8)]) == false) (wqg4 k x0 [45,32] K) (K true)
def wqba(k:Nat){R:Type}(x0:(List UInt8))(K:(Bool→Option R)): Option R:=wq1ow k x0 K
theorem wq1hb(k:Nat){R:Type}(x0:(List UInt8))(K:(Bool→Option R)): fnW (wq1mk k) k Tryz.f193 wq1mj [.v .str x0] [] (wq15g K)=wqba k x0 K:=by
 kernel_rfl
def wqmo(k:Nat){R:Type}: List PV→List (Nm×HObj)→(Out→Option R)→Option R
 |[.v .str x0],[],K=>wqba k x0 (fun y0=>K (.ret [.v .bool y0] []))
 |_,_,_=>none
theorem wq1hc(k:Nat): DOK Tryz.prog 193 (wqmo k):=by
 intro ps hp R K r h
 have h:wqmo k ps hp K=some r:=h
 unfold wqmo at h
 split at h
 ·rw[←wq1hb]at h
  exact fnW_ok ⟨tyT_ok,(wqd (wq10w k) CTab.nil_ok),fun _ _=>rfl⟩ mixed (by kernel_rfl) (by kernel_rfl) h fun o ho=>by unfold wq15g at ho;split at ho<;>first|exact ho|cases ho
 ·cases h
end Go.Proofs.YtabkhphoacmcdaaGreatDoor.Pvm
end
noncomputable section
namespace Go.Proofs.YtabkhphoacmcdaaGreatDoor.Pvm
open Go Go.Proofs
def wq15h(wq4u:(R:Type)→(List UInt8)→(Bool→Option R)→Option R){R:Type}: List PV→List (Nm×HObj)→(Out→Option R)→Option R
 |[.v .str x0],[],K=>wq4u R x0 (fun y0=>K (.ret [.v .bool y0] []))
 |_,_,_=>none
end Go.Proofs.YtabkhphoacmcdaaGreatDoor.Pvm
end
noncomputable section
namespace Go.Proofs.YtabkhphoacmcdaaGreatDoor.Pvm
open Go Go.Proofs
def wq13l:List LS:=[.any]
def wq199{R:Type}(K:((List UInt8)→Option R)): Out→Option R
 |.ret [.v .str y0] []=>K y0
 |_=>none
def wq1ox:RetSpec:=⟨[.any],[],[]⟩
def wq1oy(k:Nat): Ctx:=⟨tyT,[],(.add 118 wqoo (wqe9 k) (.add 202 wq15a (wqj3 k) .nil)),[],[],[],@SH⟩
def wq1pz(k:Nat){R:Type}(x0:(List UInt8))(K:((List UInt8)→Option R)): Option R:=wqck k x0 58 (fun y4 y5 y6=>cond ((!y6) == false) (wqv7 k y4 (fun y7=>cond ((!(((!y7) == false)&&((!(y5 == [])) == true))) || (inb 0 (y5.length:Int))) (cond (cond (!y7) true (cond (!(y5 == [])) (((y5.getD (Int.toNat 0) 0).toNat:Int) != 32) false)) (K []) (K y4)) none)) (K []))
def wqeq(k:Nat){R:Type}(x0:(List UInt8))(K:((List UInt8)→Option R)): Option R:=wq1pz k x0 K
theorem wq1jg(k:Nat){R:Type}(x0:(List UInt8))(K:((List UInt8)→Option R)): fnW (wq1oy k) k Tryz.f195 wq1ox [.v .str x0] [] (wq199 K)=wqeq k x0 K:=by
 kernel_rfl
def wqpr(k:Nat){R:Type}: List PV→List (Nm×HObj)→(Out→Option R)→Option R
 |[.v .str x0],[],K=>wqeq k x0 (fun y0=>K (.ret [.v .str y0] []))
 |_,_,_=>none
theorem wq1lg(k:Nat): DOK Tryz.prog 195 (wqpr k):=by
 intro ps hp R K r h
 have h:wqpr k ps hp K=some r:=h
 unfold wqpr at h
 split at h
 ·rw[←wq1jg]at h
  exact fnW_ok ⟨tyT_ok,(wqd (wq156 k) (wqd (wq1dg k) CTab.nil_ok)),fun _ _=>rfl⟩ mixed (by kernel_rfl) (by kernel_rfl) h fun o ho=>by unfold wq199 at ho;split at ho<;>first|exact ho|cases ho
 ·cases h
end Go.Proofs.YtabkhphoacmcdaaGreatDoor.Pvm
end
noncomputable section
namespace Go.Proofs.YtabkhphoacmcdaaGreatDoor.Pvm
open Go Go.Proofs
def wq19a(wq67:(R:Type)→(List UInt8)→((List UInt8)→Option R)→Option R){R:Type}: List PV→List (Nm×HObj)→(Out→Option R)→Option R
 |[.v .str x0],[],K=>wq67 R x0 (fun y0=>K (.ret [.v .str y0] []))
 |_,_,_=>none
end Go.Proofs.YtabkhphoacmcdaaGreatDoor.Pvm
end
noncomputable section
namespace Go.Proofs.YtabkhphoacmcdaaGreatDoor.Pvm
open Go Go.Proofs
def wq7a:List LS:=[.obj 1 [.any,.any,.any,.any,.own 21 157 kdT156],.any]
def wqmp{R:Type}(K:(Int→Int→(List UInt8)→Int→(List dT156)→Option R))(E:(Int→Int→(List UInt8)→Int→(List dT156)→Int→Int→Option R)): Out→Option R
 |.ret [] [(21,.row 157 (.pr (.int .i64) (.pr (.int .i64) (.pr (.int .i64) (.pr .str .bool)))) y4),(1,.var 200 [.v (.int .i64) y0,.v (.int .i64) y1,.v .str y2,.v (.int .i64) y3,.row 21])]=>K y0 y1 y2 y3 y4
 |.pan (.ifc 29 (.agg [.v (.int .i64) z5,.v (.int .i64) z6])) [(21,.row 157 (.pr (.int .i64) (.pr (.int .i64) (.pr (.int .i64) (.pr .str .bool)))) z4),(1,.var 200 [.v (.int .i64) z0,.v (.int .i64) z1,.v .str z2,.v (.int .i64) z3,.row 21])]=>E z0 z1 z2 z3 z4 z5 z6
 |_=>none
def wq13m:RetSpec:=⟨[],[(1,.obj 1 [.any,.any,.any,.any,.own 21 157 (.pr (.int .i64) (.pr (.int .i64) (.pr (.int .i64) (.pr .str .bool))))])],[(1,.obj 1 [.any,.any,.any,.any,.own 21 157 (.pr (.int .i64) (.pr (.int .i64) (.pr (.int .i64) (.pr .str .bool))))])]⟩
def wq13n(k:Nat): Ctx:=⟨tyT,[],.nil,[],[1],[],@SH⟩
def wq16m(k:Nat){R:Type}(x0 x1:Int)(x2:(List UInt8))(x3:Int)(x4:(List dT156))(x5:Int)(K:(Int→Int→(List UInt8)→Int→(List dT156)→Option R))(E:(Int→Int→(List UInt8)→Int→(List dT156)→Int→Int→Option R)): Option R:=E x0 x1 x2 x3 x4 x5 x0
def wq9(k:Nat){R:Type}(x0 x1:Int)(x2:(List UInt8))(x3:Int)(x4:(List dT156))(x5:Int)(K:(Int→Int→(List UInt8)→Int→(List dT156)→Option R))(E:(Int→Int→(List UInt8)→Int→(List dT156)→Int→Int→Option R)): Option R:=wq16m k x0 x1 x2 x3 x4 x5 K E
theorem wqyo(k:Nat){R:Type}(x0 x1:Int)(x2:(List UInt8))(x3:Int)(x4:(List dT156))(x5:Int)(K:(Int→Int→(List UInt8)→Int→(List dT156)→Option R))(E:(Int→Int→(List UInt8)→Int→(List dT156)→Int→Int→Option R)): fnW (wq13n k) k Tryz.f191 wq13m [.ptr 1 0,.v kI x5] [(21,.row 157 kdT156 x4),(1,.var 200 [.v kI x0,.v kI x1,.v .str x2,.v kI x3,.row 21])] (wqmp K E)=wq9 k x0 x1 x2 x3 x4 x5 K E:=by
 kernel_rfl
def wq58(k:Nat){R:Type}: List PV→List (Nm×HObj)→(Out→Option R)→Option R
 |[.ptr 1 0,.v (.int .i64) x5],[(21,.row 157 (.pr (.int .i64) (.pr (.int .i64) (.pr (.int .i64) (.pr .str .bool)))) x4),(1,.var 200 [.v (.int .i64) x0,.v (.int .i64) x1,.v .str x2,.v (.int .i64) x3,.row 21])],K=>wq9 k x0 x1 x2 x3 x4 x5 (fun y0 y1 y2 y3 y4=>K (.ret [] [(21,.row 157 (.pr (.int .i64) (.pr (.int .i64) (.pr (.int .i64) (.pr .str .bool)))) y4),(1,.var 200 [.v (.int .i64) y0,.v (.int .i64) y1,.v .str y2,.v (.int .i64) y3,.row 21])])) (fun z0 z1 z2 z3 z4 z5 z6=>K (.pan (.ifc 29 (.agg [.v (.int .i64) z5,.v (.int .i64) z6])) [(21,.row 157 (.pr (.int .i64) (.pr (.int .i64) (.pr (.int .i64) (.pr .str .bool)))) z4),(1,.var 200 [.v (.int .i64) z0,.v (.int .i64) z1,.v .str z2,.v (.int .i64) z3,.row 21])]))
 |_,_,_=>none
theorem wqbb(k:Nat): DOK Tryz.prog 191 (wq58 k):=by
 intro ps hp R K r h
 have h:wq58 k ps hp K=some r:=h
 unfold wq58 at h
 split at h
 ·rw[←wqyo]at h
  exact fnW_ok ⟨tyT_ok,CTab.nil_ok,fun _ _=>rfl⟩ mixed (by kernel_rfl) (by kernel_rfl) h fun o ho=>by unfold wqmp at ho;split at ho<;>first|exact ho|cases ho
 ·cases h
end Go.Proofs.YtabkhphoacmcdaaGreatDoor.Pvm
end
noncomputable section
namespace Go.Proofs.YtabkhphoacmcdaaGreatDoor.Pvm
open Go Go.Proofs
def wqmq(wq1f:(R:Type)→Int→Int→(List UInt8)→Int→(List dT156)→Int→(Int→Int→(List UInt8)→Int→(List dT156)→Option R)→(Int→Int→(List UInt8)→Int→(List dT156)→Int→Int→Option R)→Option R){R:Type}: List PV→List (Nm×HObj)→(Out→Option R)→Option R
 |[.ptr 1 0,.v (.int .i64) x5],[(21,.row 157 (.pr (.int .i64) (.pr (.int .i64) (.pr (.int .i64) (.pr .str .bool)))) x4),(1,.var 200 [.v (.int .i64) x0,.v (.int .i64) x1,.v .str x2,.v (.int .i64) x3,.row 21])],K=>wq1f R x0 x1 x2 x3 x4 x5 (fun y0 y1 y2 y3 y4=>K (.ret [] [(21,.row 157 (.pr (.int .i64) (.pr (.int .i64) (.pr (.int .i64) (.pr .str .bool)))) y4),(1,.var 200 [.v (.int .i64) y0,.v (.int .i64) y1,.v .str y2,.v (.int .i64) y3,.row 21])])) (fun z0 z1 z2 z3 z4 z5 z6=>K (.pan (.ifc 29 (.agg [.v (.int .i64) z5,.v (.int .i64) z6])) [(21,.row 157 (.pr (.int .i64) (.pr (.int .i64) (.pr (.int .i64) (.pr .str .bool)))) z4),(1,.var 200 [.v (.int .i64) z0,.v (.int .i64) z1,.v .str z2,.v (.int .i64) z3,.row 21])]))
 |_,_,_=>none
end Go.Proofs.YtabkhphoacmcdaaGreatDoor.Pvm
end
noncomputable section
namespace Go.Proofs.YtabkhphoacmcdaaGreatDoor.Pvm
open Go Go.Proofs
def wqg5:List LS:=[.obj 1 [.any,.any,.any,.any,.own 21 157 kdT156],.any,.any,.any,.any]
def wqmr{R:Type}(K:(Int→Int→(List UInt8)→Int→(List dT156)→Option R)): Out→Option R
 |.ret [] [(21,.row 157 (.pr (.int .i64) (.pr (.int .i64) (.pr (.int .i64) (.pr .str .bool)))) y4),(1,.var 200 [.v (.int .i64) y0,.v (.int .i64) y1,.v .str y2,.v (.int .i64) y3,.row 21])]=>K y0 y1 y2 y3 y4
 |_=>none
def wq13o:RetSpec:=⟨[],[(1,.obj 1 [.any,.any,.any,.any,.own 21 157 (.pr (.int .i64) (.pr (.int .i64) (.pr (.int .i64) (.pr .str .bool))))])],[]⟩
def wq13p(k:Nat): Ctx:=⟨tyT,[],.nil,[],[1],[(0,(.of [(0,1),(1,1),(2,1),(3,1),(5,1),(6,1),(7,1),(8,1),(9,1),(11,1),(12,1),(13,1),(14,1),(16,1),(17,1),(18,1),(21,1),(22,1),(4,1),(10,1),(15,1),(19,1),(20,1),(23,1),(24,0),(25,0),(26,1),(27,1),(28,0)] .done))],@SH⟩
def wq16n(k:Nat){R:Type}(x0 x1:Int)(x2:(List UInt8))(x3:Int)(x4:(List dT156))(x5:Int)(x6:(List UInt8))(x7:Bool)(x8:Int)(K:(Int→Int→(List UInt8)→Int→(List dT156)→Option R)): Option R:=cond (fits x4.length (@List.length (@Kd.T (@Kd.pr kI (@Kd.pr kI (@Kd.pr kI (@Kd.pr Kd.str Kd.bool))))) [(x5,(x0,((@Go.IntKind.wrap Go.IntKind.i64 (x1+x3)),(x6,x7))))]) 48) (K x0 x1 x2 (@Go.IntKind.wrap Go.IntKind.i64 (x3+x8)) (x4++[(x5,(x0,((@Go.IntKind.wrap Go.IntKind.i64 (x1+x3)),(x6,x7))))])) none
def wqh(k:Nat){R:Type}(x0 x1:Int)(x2:(List UInt8))(x3:Int)(x4:(List dT156))(x5:Int)(x6:(List UInt8))(x7:Bool)(x8:Int)(K:(Int→Int→(List UInt8)→Int→(List dT156)→Option R)): Option R:=wq16n k x0 x1 x2 x3 x4 x5 x6 x7 x8 K
theorem wqyp(k:Nat){R:Type}(x0 x1:Int)(x2:(List UInt8))(x3:Int)(x4:(List dT156))(x5:Int)(x6:(List UInt8))(x7:Bool)(x8:Int)(K:(Int→Int→(List UInt8)→Int→(List dT156)→Option R)): fnW (wq13p k) k Tryz.f194 wq13o [.ptr 1 0,.v kI x5,.v .str x6,.v .bool x7,.v kI x8] [(21,.row 157 kdT156 x4),(1,.var 200 [.v kI x0,.v kI x1,.v .str x2,.v kI x3,.row 21])] (wqmr K)=wqh k x0 x1 x2 x3 x4 x5 x6 x7 x8 K:=by
 kernel_rfl
def wq9c(k:Nat){R:Type}: List PV→List (Nm×HObj)→(Out→Option R)→Option R
 |[.ptr 1 0,.v (.int .i64) x5,.v .str x6,.v .bool x7,.v (.int .i64) x8],[(21,.row 157 (.pr (.int .i64) (.pr (.int .i64) (.pr (.int .i64) (.pr .str .bool)))) x4),(1,.var 200 [.v (.int .i64) x0,.v (.int .i64) x1,.v .str x2,.v (.int .i64) x3,.row 21])],K=>wqh k x0 x1 x2 x3 x4 x5 x6 x7 x8 (fun y0 y1 y2 y3 y4=>K (.ret [] [(21,.row 157 (.pr (.int .i64) (.pr (.int .i64) (.pr (.int .i64) (.pr .str .bool)))) y4),(1,.var 200 [.v (.int .i64) y0,.v (.int .i64) y1,.v .str y2,.v (.int .i64) y3,.row 21])]))
 |_,_,_=>none
theorem wqrz(k:Nat): DOK Tryz.prog 194 (wq9c k):=by
 intro ps hp R K r h
 have h:wq9c k ps hp K=some r:=h
 unfold wq9c at h
 split at h
 ·rw[←wqyp]at h
  exact fnW_ok ⟨tyT_ok,CTab.nil_ok,fun _ _=>rfl⟩ mixed (by kernel_rfl) (by kernel_rfl) h fun o ho=>by unfold wqmr at ho;split at ho<;>first|exact ho|cases ho
 ·cases h
end Go.Proofs.YtabkhphoacmcdaaGreatDoor.Pvm
end
noncomputable section
namespace Go.Proofs.YtabkhphoacmcdaaGreatDoor.Pvm
open Go Go.Proofs
def wqms(wq16:(R:Type)→Int→Int→(List UInt8)→Int→(List dT156)→Int→(List UInt8)→Bool→Int→(Int→Int→(List UInt8)→Int→(List dT156)→Option R)→Option R){R:Type}: List PV→List (Nm×HObj)→(Out→Option R)→Option R
 |[.ptr 1 0,.v (.int .i64) x5,.v .str x6,.v .bool x7,.v (.int .i64) x8],[(21,.row 157 (.pr (.int .i64) (.pr (.int .i64) (.pr (.int .i64) (.pr .str .bool)))) x4),(1,.var 200 [.v (.int .i64) x0,.v (.int .i64) x1,.v .str x2,.v (.int .i64) x3,.row 21])],K=>wq16 R x0 x1 x2 x3 x4 x5 x6 x7 x8 (fun y0 y1 y2 y3 y4=>K (.ret [] [(21,.row 157 (.pr (.int .i64) (.pr (.int .i64) (.pr (.int .i64) (.pr .str .bool)))) y4),(1,.var 200 [.v (.int .i64) y0,.v (.int .i64) y1,.v .str y2,.v (.int .i64) y3,.row 21])]))
 |_,_,_=>none
end Go.Proofs.YtabkhphoacmcdaaGreatDoor.Pvm
end
noncomputable section
namespace Go.Proofs.YtabkhphoacmcdaaGreatDoor.Pvm
open Go Go.Proofs
def wq13q:List LS:=[.obj 1 [.any,.any,.any,.any,.own 21 157 kdT156]]
def wqc2{R:Type}(K:(Int→Int→(List UInt8)→Int→(List dT156)→(List UInt8)→Option R)): Out→Option R
 |.ret [.v .str y5] [(21,.row 157 (.pr (.int .i64) (.pr (.int .i64) (.pr (.int .i64) (.pr .str .bool)))) y4),(1,.var 200 [.v (.int .i64) y0,.v (.int .i64) y1,.v .str y2,.v (.int .i64) y3,.row 21])]=>K y0 y1 y2 y3 y4 y5
 |_=>none
def wqjq:RetSpec:=⟨[.any],[(1,.obj 1 [.any,.any,.any,.any,.own 21 157 (.pr (.int .i64) (.pr (.int .i64) (.pr (.int .i64) (.pr .str .bool))))])],[]⟩
def wqjr(k:Nat): Ctx:=⟨tyT,[(1001,⟨[(0,.obj 1 [.any,.any,.any,.any,.own 21 157 kdT156])],[(1,.obj 1 [.any,.any,.any,.any,.own 21 157 kdT156])]⟩)],.nil,[],[1],[(1,(.of [(0,1),(1,1),(2,1),(4,1),(5,1),(6,1),(7,1),(3,1),(8,1),(9,1),(10,1),(11,1),(12,1),(13,1),(14,1),(15,1),(17,1),(18,1),(19,1),(16,1),(20,1),(21,1),(22,1),(23,1)] .done)),(3,(.of [(0,1),(1,1),(2,1),(3,1),(5,1),(6,1),(7,1),(4,1),(8,1),(9,1),(10,1)] .done))],@SH⟩
def wq9d(s0 s1:Int)(s2:(List UInt8))(s3:Int)(s4:(List dT156)): St:=⟨mkT [(0,.ptr 1 0)],mkH [(21,.row 157 kdT156 s4),(1,.var 200 [.v kI s0,.v kI s1,.v .str s2,.v kI s3,.row 21])]⟩
def wqe1(k:Nat){R:Type}(I:Nat→St→Option R)(n:Nat)(s:St)(K:(Int→Int→(List UInt8)→Int→(List dT156)→(List UInt8)→Option R)): Option R:=loopK (wqjr k) k Tryz.f192 wqjq 1001 [1,0,0] I n s (wqc2 K)
def wqkg(k:Nat){R:Type}(E1001:(Int→Int→(List UInt8)→Int→(List dT156)→Option R))(s0 s1:Int)(s2:(List UInt8))(s3:Int)(s4:(List dT156))(K:(Int→Int→(List UInt8)→Int→(List dT156)→(List UInt8)→Option R)): Option R:=cond ((!((decide (s3<(s2.length:Int))) == true)) || (inb s3 (s2.length:Int))) (cond (cond (decide (s3<(s2.length:Int))) (((s2.getD s3.toNat 0).toNat:Int) == 32) false) (E1001 s0 s1 s2 (@Go.IntKind.wrap Go.IntKind.i64 (s3+1)) s4) (cond (bnd s3 (s2.length:Int) (s2.length:Int)) (K s0 s1 s2 s3 s4 (cut s2 s3 (s2.length:Int))) none)) none
theorem wqr5(k:Nat){R:Type}(I:Nat→St→Option R)(s0 s1:Int)(s2:(List UInt8))(s3:Int)(s4:(List dT156))(K:(Int→Int→(List UInt8)→Int→(List dT156)→(List UInt8)→Option R)): bodyK (wqjr k) k Tryz.f192 wqjq [1,0,0,0] I (wq9d s0 s1 s2 s3 s4) (wqc2 K)=wqkg k (fun s0 s1 s2 s3 s4=>I 1001 (wq9d s0 s1 s2 s3 s4)) s0 s1 s2 s3 s4 K:=by kernel_rfl
def wqtx(k:Nat){R:Type}(E1001:(Int→Int→(List UInt8)→Int→(List dT156)→Option R))(x0 x1:Int)(x2:(List UInt8))(x3:Int)(x4:(List dT156))(K:(Int→Int→(List UInt8)→Int→(List dT156)→(List UInt8)→Option R)): Option R:=E1001 x0 x1 x2 x3 x4
def wqe2(k:Nat){R:Type}: Nat→Int→Int→(List UInt8)→Int→(List dT156)→(Int→Int→(List UInt8)→Int→(List dT156)→(List UInt8)→Option R)→Option R
 |0,_,_,_,_,_,_=>none
 |n+1,s0,s1,s2,s3,s4,K=>wqkg k (fun s0 s1 s2 s3 s4=>wqe2 k n s0 s1 s2 s3 s4 K) s0 s1 s2 s3 s4 K
theorem wqr6(k:Nat){R:Type}(I:Nat→St→Option R)(K:(Int→Int→(List UInt8)→Int→(List dT156)→(List UInt8)→Option R))(n:Nat): ∀(s0 s1:Int) (s2:(List UInt8)) (s3:Int) (s4:(List dT156)),wqe1 k I n (wq9d s0 s1 s2 s3 s4) K=wqe2 k n s0 s1 s2 s3 s4 K:=by
 induction n with
 |zero=>intros;rfl
 |succ n ih =>
  intro s0 s1 s2 s3 s4
  refine(?_:_=_).trans ((wqr5 k (upI 1001 (fun s=>wqe1 k I n s K) I) s0 s1 s2 s3 s4 K).trans ?_)
  ·rfl
  ·simp only[wq43,ih]<;>rfl
def wq70(k:Nat){R:Type}(x0 x1:Int)(x2:(List UInt8))(x3:Int)(x4:(List dT156))(K:(Int→Int→(List UInt8)→Int→(List dT156)→(List UInt8)→Option R)): Option R:=wqtx k (fun s0 s1 s2 s3 s4=>wqe2 k k s0 s1 s2 s3 s4 K) x0 x1 x2 x3 x4 K
theorem wq10x(k:Nat){R:Type}(x0 x1:Int)(x2:(List UInt8))(x3:Int)(x4:(List dT156))(K:(Int→Int→(List UInt8)→Int→(List dT156)→(List UInt8)→Option R)): fnW (wqjr k) k Tryz.f192 wqjq [.ptr 1 0] [(21,.row 157 kdT156 x4),(1,.var 200 [.v kI x0,.v kI x1,.v .str x2,.v kI x3,.row 21])] (wqc2 K)=wq70 k x0 x1 x2 x3 x4 K:=by
 refine Eq.trans (b:=wqtx k (fun s0 s1 s2 s3 s4=>wqe1 k (fun _ _=>none) k (wq9d s0 s1 s2 s3 s4) K) x0 x1 x2 x3 x4 K) (by kernel_rfl) ?_
 simp only[wqr6]<;>rfl
def wqd6(k:Nat){R:Type}: List PV→List (Nm×HObj)→(Out→Option R)→Option R
 |[.ptr 1 0],[(21,.row 157 (.pr (.int .i64) (.pr (.int .i64) (.pr (.int .i64) (.pr .str .bool)))) x4),(1,.var 200 [.v (.int .i64) x0,.v (.int .i64) x1,.v .str x2,.v (.int .i64) x3,.row 21])],K=>wq70 k x0 x1 x2 x3 x4 (fun y0 y1 y2 y3 y4 y5=>K (.ret [.v .str y5] [(21,.row 157 (.pr (.int .i64) (.pr (.int .i64) (.pr (.int .i64) (.pr .str .bool)))) y4),(1,.var 200 [.v (.int .i64) y0,.v (.int .i64) y1,.v .str y2,.v (.int .i64) y3,.row 21])]))
 |_,_,_=>none
theorem wq19b(k:Nat): DOK Tryz.prog 192 (wqd6 k):=by
 intro ps hp R K r h
 have h:wqd6 k ps hp K=some r:=h
 unfold wqd6 at h
 split at h
 ·rw[←wq10x]at h
  exact fnW_ok ⟨tyT_ok,CTab.nil_ok,fun _ _=>rfl⟩ mixed (by kernel_rfl) (by kernel_rfl) h fun o ho=>by unfold wqc2 at ho;split at ho<;>first|exact ho|cases ho
 ·cases h
end Go.Proofs.YtabkhphoacmcdaaGreatDoor.Pvm
end
noncomputable section
namespace Go.Proofs.YtabkhphoacmcdaaGreatDoor.Pvm
open Go Go.Proofs
def wqo0(wq18:(R:Type)→Int→Int→(List UInt8)→Int→(List dT156)→(Int→Int→(List UInt8)→Int→(List dT156)→(List UInt8)→Option R)→Option R){R:Type}: List PV→List (Nm×HObj)→(Out→Option R)→Option R
 |[.ptr 1 0],[(21,.row 157 (.pr (.int .i64) (.pr (.int .i64) (.pr (.int .i64) (.pr .str .bool)))) x4),(1,.var 200 [.v (.int .i64) x0,.v (.int .i64) x1,.v .str x2,.v (.int .i64) x3,.row 21])],K=>wq18 R x0 x1 x2 x3 x4 (fun y0 y1 y2 y3 y4 y5=>K (.ret [.v .str y5] [(21,.row 157 (.pr (.int .i64) (.pr (.int .i64) (.pr (.int .i64) (.pr .str .bool)))) y4),(1,.var 200 [.v (.int .i64) y0,.v (.int .i64) y1,.v .str y2,.v (.int .i64) y3,.row 21])]))
 |_,_,_=>none
end Go.Proofs.YtabkhphoacmcdaaGreatDoor.Pvm
end
noncomputable section
namespace Go.Proofs.YtabkhphoacmcdaaGreatDoor.Pvm
open Go Go.Proofs
def wqe3:List LS:=[.any,.any]
def wqj5{R:Type}(K:(Int→Option R)): Out→Option R
 |.ret [.v (.int .i64) y0] []=>K y0
 |_=>none
def wqyq:RetSpec:=⟨[.any],[],[]⟩
def wqyr(k:Nat): Ctx:=⟨tyT,[],(.add 236 wqnq (wq97 k) .nil),[],[],[],@SH⟩
def wq10y(k:Nat){R:Type}(x0:(List UInt8))(x1:Int)(K:(Int→Option R)): Option R:=wqem k x0 x1 K
def wq2r(k:Nat){R:Type}(x0:(List UInt8))(x1:Int)(K:(Int→Option R)): Option R:=wq10y k x0 x1 K
theorem wqty(k:Nat){R:Type}(x0:(List UInt8))(x1:Int)(K:(Int→Option R)): fnW (wqyr k) k Tryz.f231 wqyq [.v .str x0,.v (.int .u8) x1] [] (wqj5 K)=wq2r k x0 x1 K:=by
 kernel_rfl
def wq7l(k:Nat){R:Type}: List PV→List (Nm×HObj)→(Out→Option R)→Option R
 |[.v .str x0,.v (.int .u8) x1],[],K=>wq2r k x0 x1 (fun y0=>K (.ret [.v (.int .i64) y0] []))
 |_,_,_=>none
theorem wqo1(k:Nat): DOK Tryz.prog 231 (wq7l k):=by
 intro ps hp R K r h
 have h:wq7l k ps hp K=some r:=h
 unfold wq7l at h
 split at h
 ·rw[←wqty]at h
  exact fnW_ok ⟨tyT_ok,(wqd (wqrv k) CTab.nil_ok),fun _ _=>rfl⟩ mixed (by kernel_rfl) (by kernel_rfl) h fun o ho=>by unfold wqj5 at ho;split at ho<;>first|exact ho|cases ho
 ·cases h
end Go.Proofs.YtabkhphoacmcdaaGreatDoor.Pvm
end
noncomputable section
namespace Go.Proofs.YtabkhphoacmcdaaGreatDoor.Pvm
open Go Go.Proofs
def wq10z:List LS:=[.obj 1 [.any,.any,.any,.any,.own 21 157 kdT156],.any]
def wqmt{R:Type}(K E:(Int→Int→(List UInt8)→Int→(List dT156)→Int→Int→Option R)): Out→Option R
 |.ret [.v (.int .u8) y5,.v (.int .i64) y6] [(21,.row 157 (.pr (.int .i64) (.pr (.int .i64) (.pr (.int .i64) (.pr .str .bool)))) y4),(1,.var 200 [.v (.int .i64) y0,.v (.int .i64) y1,.v .str y2,.v (.int .i64) y3,.row 21])]=>K y0 y1 y2 y3 y4 y5 y6
 |.pan (.ifc 29 (.agg [.v (.int .i64) z5,.v (.int .i64) z6])) [(21,.row 157 (.pr (.int .i64) (.pr (.int .i64) (.pr (.int .i64) (.pr .str .bool)))) z4),(1,.var 200 [.v (.int .i64) z0,.v (.int .i64) z1,.v .str z2,.v (.int .i64) z3,.row 21])]=>E z0 z1 z2 z3 z4 z5 z6
 |_=>none
def wq13r:RetSpec:=⟨[.any,.any],[(1,.obj 1 [.any,.any,.any,.any,.own 21 157 (.pr (.int .i64) (.pr (.int .i64) (.pr (.int .i64) (.pr .str .bool))))])],[(1,.obj 1 [.any,.any,.any,.any,.own 21 157 (.pr (.int .i64) (.pr (.int .i64) (.pr (.int .i64) (.pr .str .bool))))])]⟩
def wq13s(k:Nat): Ctx:=⟨tyT,[],(.add 191 wq7a (wq58 k) (.add 231 wqe3 (wq7l k) .nil)),[],[1],[(14,(.of [(0,1),(1,1),(3,1),(4,1),(2,0),(5,0),(6,1),(7,1)] .done))],@SH⟩
def wq16o(k:Nat){R:Type}(x0 x1:Int)(x2:(List UInt8))(x3:Int)(x4:(List dT156))(x5:(List UInt8))(K E:(Int→Int→(List UInt8)→Int→(List dT156)→Int→Int→Option R)): Option R:=cond (x5 == []) (wq9 k x0 x1 x2 x3 x4 3 (fun y10 y11 y12 y13 y14=>cond (inb 0 (x5.length:Int)) (cond (((x5.getD (Int.toNat 0) 0).toNat:Int) == 92) (cond (inb 0 (x5.length:Int)) (K y10 y11 y12 y13 y14 ((x5.getD (Int.toNat 0) 0).toNat:Int) 1) none) (cond (((x5.getD (Int.toNat 0) 0).toNat:Int) == 34) (cond (inb 0 (x5.length:Int)) (K y10 y11 y12 y13 y14 ((x5.getD (Int.toNat 0) 0).toNat:Int) 1) none) (cond (((x5.getD (Int.toNat 0) 0).toNat:Int) == 110) (K y10 y11 y12 y13 y14 10 1) (cond (((x5.getD (Int.toNat 0) 0).toNat:Int) == 116) (K y10 y11 y12 y13 y14 9 1) (cond (((x5.getD (Int.toNat 0) 0).toNat:Int) == 120) (cond (decide ((x5.length:Int)<3)) (wq9 k y10 y11 y12 y13 y14 3 (fun y15 y16 y17 y18 y19=>cond (inb 1 (x5.length:Int)) (cond (inb 2 (x5.length:Int)) (wq2r k [48,49,50,51,52,53,54,55,56,57,97,98,99,100,101,102] ((x5.getD (Int.toNat 1) 0).toNat:Int) (fun y20=>wq2r k [48,49,50,51,52,53,54,55,56,57,97,98,99,100,101,102] ((x5.getD (Int.toNat 2) 0).toNat:Int) (fun y21=>cond (cond (decide (y20<0)) true (decide (y21<0))) (wq9 k y15 y16 y17 y18 y19 3 (fun y22 y23 y24 y25 y26=>K y22 y23 y24 y25 y26 (@Go.IntKind.wrap Go.IntKind.u8 (@Go.IntKind.wrap Go.IntKind.i64 ((@Go.IntKind.wrap Go.IntKind.i64 ((16:Int)*y20))+y21))) 3) E) (K y15 y16 y17 y18 y19 (@Go.IntKind.wrap Go.IntKind.u8 (@Go.IntKind.wrap Go.IntKind.i64 ((@Go.IntKind.wrap Go.IntKind.i64 ((16:Int)*y20))+y21))) 3)))) none) none) E) (cond (inb 1 (x5.length:Int)) (cond (inb 2 (x5.length:Int)) (wq2r k [48,49,50,51,52,53,54,55,56,57,97,98,99,100,101,102] ((x5.getD (Int.toNat 1) 0).toNat:Int) (fun y15=>wq2r k [48,49,50,51,52,53,54,55,56,57,97,98,99,100,101,102] ((x5.getD (Int.toNat 2) 0).toNat:Int) (fun y16=>cond (cond (decide (y15<0)) true (decide (y16<0))) (wq9 k y10 y11 y12 y13 y14 3 (fun y17 y18 y19 y20 y21=>K y17 y18 y19 y20 y21 (@Go.IntKind.wrap Go.IntKind.u8 (@Go.IntKind.wrap Go.IntKind.i64 ((@Go.IntKind.wrap Go.IntKind.i64 ((16:Int)*y15))+y16))) 3) E) (K y10 y11 y12 y13 y14 (@Go.IntKind.wrap Go.IntKind.u8 (@Go.IntKind.wrap Go.IntKind.i64 ((@Go.IntKind.wrap Go.IntKind.i64 ((16:Int)*y15))+y16))) 3)))) none) none)) (wq9 k y10 y11 y12 y13 y14 3 (fun y15 y16 y17 y18 y19=>K y15 y16 y17 y18 y19 0 0) E)))))) none) E) (cond (inb 0 (x5.length:Int)) (cond (((x5.getD (Int.toNat 0) 0).toNat:Int) == 92) (cond (inb 0 (x5.length:Int)) (K x0 x1 x2 x3 x4 ((x5.getD (Int.toNat 0) 0).toNat:Int) 1) none) (cond (((x5.getD (Int.toNat 0) 0).toNat:Int) == 34) (cond (inb 0 (x5.length:Int)) (K x0 x1 x2 x3 x4 ((x5.getD (Int.toNat 0) 0).toNat:Int) 1) none) (cond (((x5.getD (Int.toNat 0) 0).toNat:Int) == 110) (K x0 x1 x2 x3 x4 10 1) (cond (((x5.getD (Int.toNat 0) 0).toNat:Int) == 116) (K x0 x1 x2 x3 x4 9 1) (cond (((x5.getD (Int.toNat 0) 0).toNat:Int) == 120) (cond (decide ((x5.length:Int)<3)) (wq9 k x0 x1 x2 x3 x4 3 (fun y10 y11 y12 y13 y14=>cond (inb 1 (x5.length:Int)) (cond (inb 2 (x5.length:Int)) (wq2r k [48,49,50,51,52,53,54,55,56,57,97,98,99,100,101,102] ((x5.getD (Int.toNat 1) 0).toNat:Int) (fun y15=>wq2r k [48,49,50,51,52,53,54,55,56,57,97,98,99,100,101,102] ((x5.getD (Int.toNat 2) 0).toNat:Int) (fun y16=>cond (cond (decide (y15<0)) true (decide (y16<0))) (wq9 k y10 y11 y12 y13 y14 3 (fun y17 y18 y19 y20 y21=>K y17 y18 y19 y20 y21 (@Go.IntKind.wrap Go.IntKind.u8 (@Go.IntKind.wrap Go.IntKind.i64 ((@Go.IntKind.wrap Go.IntKind.i64 ((16:Int)*y15))+y16))) 3) E) (K y10 y11 y12 y13 y14 (@Go.IntKind.wrap Go.IntKind.u8 (@Go.IntKind.wrap Go.IntKind.i64 ((@Go.IntKind.wrap Go.IntKind.i64 ((16:Int)*y15))+y16))) 3)))) none) none) E) (cond (inb 1 (x5.length:Int)) (cond (inb 2 (x5.length:Int)) (wq2r k [48,49,50,51,52,53,54,55,56,57,97,98,99,100,101,102] ((x5.getD (Int.toNat 1) 0).toNat:Int) (fun y10=>wq2r k [48,49,50,51,52,53,54,55,56,57,97,98,99,100,101,102] ((x5.getD (Int.toNat 2) 0).toNat:Int) (fun y11=>cond (cond (decide (y10<0)) true (decide (y11<0))) (wq9 k x0 x1 x2 x3 x4 3 (fun y12 y13 y14 y15 y16=>K y12 y13 y14 y15 y16 (@Go.IntKind.wrap Go.IntKind.u8 (@Go.IntKind.wrap Go.IntKind.i64 ((@Go.IntKind.wrap Go.IntKind.i64 ((16:Int)*y10))+y11))) 3) E) (K x0 x1 x2 x3 x4 (@Go.IntKind.wrap Go.IntKind.u8 (@Go.IntKind.wrap Go.IntKind.i64 ((@Go.IntKind.wrap Go.IntKind.i64 ((16:Int)*y10))+y11))) 3)))) none) none)) (wq9 k x0 x1 x2 x3 x4 3 (fun y10 y11 y12 y13 y14=>K y10 y11 y12 y13 y14 0 0) E)))))) none)
def wqjs(k:Nat){R:Type}(x0 x1:Int)(x2:(List UInt8))(x3:Int)(x4:(List dT156))(x5:(List UInt8))(K E:(Int→Int→(List UInt8)→Int→(List dT156)→Int→Int→Option R)): Option R:=wq16o k x0 x1 x2 x3 x4 x5 K E
theorem wqys(k:Nat){R:Type}(x0 x1:Int)(x2:(List UInt8))(x3:Int)(x4:(List dT156))(x5:(List UInt8))(K E:(Int→Int→(List UInt8)→Int→(List dT156)→Int→Int→Option R)): fnW (wq13s k) k Tryz.f255 wq13r [.ptr 1 0,.v .str x5] [(21,.row 157 kdT156 x4),(1,.var 200 [.v kI x0,.v kI x1,.v .str x2,.v kI x3,.row 21])] (wqmt K E)=wqjs k x0 x1 x2 x3 x4 x5 K E:=by
 kernel_rfl
def wqc3(k:Nat){R:Type}: List PV→List (Nm×HObj)→(Out→Option R)→Option R
 |[.ptr 1 0,.v .str x5],[(21,.row 157 (.pr (.int .i64) (.pr (.int .i64) (.pr (.int .i64) (.pr .str .bool)))) x4),(1,.var 200 [.v (.int .i64) x0,.v (.int .i64) x1,.v .str x2,.v (.int .i64) x3,.row 21])],K=>wqjs k x0 x1 x2 x3 x4 x5 (fun y0 y1 y2 y3 y4 y5 y6=>K (.ret [.v (.int .u8) y5,.v (.int .i64) y6] [(21,.row 157 (.pr (.int .i64) (.pr (.int .i64) (.pr (.int .i64) (.pr .str .bool)))) y4),(1,.var 200 [.v (.int .i64) y0,.v (.int .i64) y1,.v .str y2,.v (.int .i64) y3,.row 21])])) (fun z0 z1 z2 z3 z4 z5 z6=>K (.pan (.ifc 29 (.agg [.v (.int .i64) z5,.v (.int .i64) z6])) [(21,.row 157 (.pr (.int .i64) (.pr (.int .i64) (.pr (.int .i64) (.pr .str .bool)))) z4),(1,.var 200 [.v (.int .i64) z0,.v (.int .i64) z1,.v .str z2,.v (.int .i64) z3,.row 21])]))
 |_,_,_=>none
theorem wq16p(k:Nat): DOK Tryz.prog 255 (wqc3 k):=by
 intro ps hp R K r h
 have h:wqc3 k ps hp K=some r:=h
 unfold wqc3 at h
 split at h
 ·rw[←wqys]at h
  exact fnW_ok ⟨tyT_ok,(wqd (wqbb k) (wqd (wqo1 k) CTab.nil_ok)),fun _ _=>rfl⟩ mixed (by kernel_rfl) (by kernel_rfl) h fun o ho=>by unfold wqmt at ho;split at ho<;>first|exact ho|cases ho
 ·cases h
end Go.Proofs.YtabkhphoacmcdaaGreatDoor.Pvm
end
set_option maxHeartbeats 2000000
set_option maxRecDepth 100000
namespace Go.Proofs.YtabkhphoacmcdaaGreatDoor.Pvm
open Go Go.Proofs Go.RowKit
theorem wq1jh (b g cap:Nat) (p:Value) (l:List UInt8) (cur:Array Value) (w:World) (hbk:w.heap[b]? = some (.cells #[p,.slice (some ⟨g,0,none⟩) l.length cap] 89 (0,0))) (h0:l≠[])
 (hg:w.heap[g]? = some (.cells cur 5 (0,0))) (hnc:l.length≤cap) (hcm:cap≤maxLen) (hcs:cur.size=cap) (htake:∀(j:Nat) (x:UInt8),l[j]? = some x→w.cell? ⟨g,j,none⟩=some (.int .u8 x.toNat)) :
 Calls Tryz.prog 45 #[.pointer (some ⟨b,0,none⟩)] w fun e w'=>e = .returned (.string ⟨l.toArray⟩)∧w'=w.drew.freeze ⟨g,0,none⟩ l.length:=by
 have hl0:l.length≠0:=by simpa using h0
 have mixed:Tryz.prog.follows .mixedOrders=true:=by kernel_rfl
 have t86:Tryz.prog.underlying 140=some (.pointer 5):=by kernel_rfl
 have c1:w.drew.cell? ⟨b,1,none⟩=some (.slice (some ⟨g,0,none⟩) l.length cap):=by
  have:w.drew.heap[b]? = some (.cells #[p,.slice (some ⟨g,0,none⟩) l.length cap] 89 (0,0)):=hbk
  rw[Lib.cell_of_heap this];rfl
 have hSD:(Builtin.unsafeSliceData_ #[22] 140 #[.slice (some ⟨g,0,none⟩) l.length cap]).run Tryz.prog w.drew = .ok (.pointer (some ⟨g,0,none⟩)) w.drew :=
  Lib.run_unsafeSliceData_row _ _ _ _ _ _ (by omega)
 have hUS:(Builtin.unsafeString_ #[140,3] 9 #[.pointer (some ⟨g,0,none⟩),.int .i64 l.length]).run Tryz.prog w.drew = .ok (.string ⟨l.toArray⟩) (w.drew.freeze ⟨g,0,none⟩ l.length):=by
  refine Lib.run_unsafeString_row w.drew 140 3 9 5 t86 (by kernel_rfl) g cur.size (by have hg':w.drew.heap[g]? = some (.cells cur 5 (0,0)):=hg;simp[World.shape?,hg']) l h0 (by omega) (by unfold maxLen at hcm;omega) ?_
  intro j x hx
  have:=htake j x hx
  rw[show(⟨g,0,none⟩:Addr).add j=⟨g,j,none⟩ by simp[Addr.add];omega]
  exact this
 go_enter Tryz.func45,Tryz.ntmps45
 go_wp2
 go_region_o
 all_goals (go_wp2;go_ret;exact⟨rfl,rfl⟩)
theorem wq1oz(W:World)(q:Option Addr): (Builtin.unsafeString_ #[140,3] 9 #[.pointer q,.int .i64 0]).run Tryz.prog W = .ok (.string .empty) W :=
 Lib.run_unsafeString_none W _ _ _ q
theorem wq1p0(b:Nat)(p:Value)(w:World)(hbk:w.heap[b]? = some (.cells #[p,.slice none 0 0] 89 (0,0))):
 Calls Tryz.prog 45 #[.pointer (some ⟨b,0,none⟩)] w fun e w'=>e = .returned (.string ⟨#[]⟩)∧w'=w.drew:=by
 have hUS:=wq1oz
 have mixed:Tryz.prog.follows .mixedOrders=true:=by kernel_rfl
 have c1:w.drew.cell? ⟨b,1,none⟩=some (.slice none 0 0):=by
  have:w.drew.heap[b]? = some (.cells #[p,.slice none 0 0] 89 (0,0)):=hbk
  rw[Lib.cell_of_heap this];rfl
 have hSD:(Builtin.unsafeSliceData_ #[22] 140 #[.slice none 0 0]).run Tryz.prog w.drew = .ok (.pointer none) w.drew:=rfl
 go_enter Tryz.func45,Tryz.ntmps45
 go_wp2
 go_region_o
 all_goals (go_wp2;go_ret;exact⟨rfl,rfl⟩)
theorem wq1ml(b g cap:Nat)(p:Value)(w:World)(hc0:cap≠0)(hbk:w.heap[b]? = some (.cells #[p,.slice (some ⟨g,0,none⟩) 0 cap] 89 (0,0))):
 Calls Tryz.prog 45 #[.pointer (some ⟨b,0,none⟩)] w fun e w'=>e = .returned (.string ⟨#[]⟩)∧w'=w.drew:=by
 have hUS:=wq1oz
 have mixed:Tryz.prog.follows .mixedOrders=true:=by kernel_rfl
 have c1:w.drew.cell? ⟨b,1,none⟩=some (.slice (some ⟨g,0,none⟩) 0 cap):=by
  have:w.drew.heap[b]? = some (.cells #[p,.slice (some ⟨g,0,none⟩) 0 cap] 89 (0,0)):=hbk
  rw[Lib.cell_of_heap this];rfl
 have hSD:(Builtin.unsafeSliceData_ #[22] 140 #[.slice (some ⟨g,0,none⟩) 0 cap]).run Tryz.prog w.drew = .ok (.pointer (some ⟨g,0,none⟩)) w.drew :=
  Lib.run_unsafeSliceData_row _ _ _ _ _ _ hc0
 clear hc0
 go_enter Tryz.func45,Tryz.ntmps45
 go_wp2
 go_region_o
 all_goals (go_wp2;go_ret;exact⟨rfl,rfl⟩)
theorem wq1hd(b g:Nat)(p:Value)(cur:Array Value)(w:World)(hbk:w.heap[b]? = some (.cells #[p,.slice (some ⟨g,0,none⟩) 0 0] 89 (0,0)))(hg:w.heap[g]? = some (.cells cur 5 (0,0))):
 Calls Tryz.prog 45 #[.pointer (some ⟨b,0,none⟩)] w fun e w'=>e = .returned (.string ⟨#[]⟩)∧∃ o,w'=(w.alloc o).drew:=by
 have hUS:=wq1oz
 have hlt:b<w.heap.size:=(Array.getElem?_eq_some_iff.1 hbk).1
 have mixed:Tryz.prog.follows .mixedOrders=true:=by kernel_rfl
 have c1:w.drew.cell? ⟨b,1,none⟩=some (.slice (some ⟨g,0,none⟩) 0 0):=by
  have:w.drew.heap[b]? = some (.cells #[p,.slice (some ⟨g,0,none⟩) 0 0] 89 (0,0)):=hbk
  rw[Lib.cell_of_heap this];rfl
 have hSD:(Builtin.unsafeSliceData_ #[22] 140 #[.slice (some ⟨g,0,none⟩) 0 0]).run Tryz.prog w.drew = .ok (.pointer (some ⟨w.drew.heap.size,0,none⟩)) (w.drew.alloc (.view ⟨g,0,none⟩ 5)) :=
  Lib.run_unsafeSliceData_zero w.drew _ _ 5 (by kernel_rfl) ⟨g,0,none⟩ 0 (5,cur.size) (by have hg':w.drew.heap[g]? = some (.cells cur 5 (0,0)):=hg;simp[World.shape?,hg'])
 have c2:(w.drew.alloc (.view ⟨g,0,none⟩ 5)).cell? ⟨b,1,none⟩=some (.slice (some ⟨g,0,none⟩) 0 0):=by
  have:(w.drew.alloc (.view ⟨g,0,none⟩ 5)).heap[b]? = _:=(Lib.alloc_old w.drew _ b hlt).trans hbk
  rw[Lib.cell_of_heap this];rfl
 have c3:(w.alloc (.view ⟨g,0,none⟩ 5)).drew.cell? ⟨b,1,none⟩=some (.slice (some ⟨g,0,none⟩) 0 0):=c2
 have c0:w.cell? ⟨b,1,none⟩=some (.slice (some ⟨g,0,none⟩) 0 0):=c1
 go_enter Tryz.func45,Tryz.ntmps45
 go_wp2
 go_region_o
 all_goals (go_wp2;go_ret;exact⟨rfl,_,rfl⟩)
def allB:List Int→Bool
 |[]=>true
 |x::r=>decide (0≤x)&&decide (x<256)&&allB r
def wqeb:List LS:=[.obj 1 [.nps 1 0,.own 21 5 (.int .u8)]]
def wq7t(k:Nat){R:Type}(x0:List Int)(K:List Int→List UInt8→Option R): Option R:=bif allB x0 then K x0 (wq73 x0)else none
def wq6t(k:Nat){R:Type}: List PV→List (Nm×HObj)→(Out→Option R)→Option R
 |[.ptr 1 0],[(21,.row 5 (.int .u8) x0),(1,.var 89 [.nps 1 0,.row 21])],K=>wq7t k x0 (fun y0 y1=>K (.ret [.v .str y1] [(1,.var 89 [.nps 1 0,.v (.sl (.int .u8)) y0])]))
 |_,_,_=>none
theorem wqj6(vs:Array Value)(w:World): (callFunc 45 vs).run Tryz.prog w = .ok (.enter 45 vs) w:=by
 have h1:Tryz.prog.funcs[45]? = some Tryz.f45:=by kernel_rfl
 have h2:(Tryz.f45.name == "runtime.NumGoroutine")=false:=by kernel_rfl
 have h3:Tryz.f45.body.isNone=false:=by kernel_rfl
 unfold callFunc
 rw[Sem.run_bind]
 have e2:(program).run Tryz.prog w = .ok Tryz.prog w:=rfl
 rw[e2,Result.andThen_ok,h1]
 simp only[h2,h3,Bool.false_eq_true,if_false]
 rfl
theorem wq1qd:∀ {l:List Int},allB l=true→∀(i:Nat) (y:Int),l[i]? = some y→0≤y∧y<256
 |[],_,i,y,h=>by simp at h
 |x::r,hb,0,y,h=>by
  simp only[allB,Bool.and_eq_true,decide_eq_true_eq]at hb
  simp at h;subst h;exact hb.1
 |x::r,hb,i+1,y,h=>by
  simp only[allB,Bool.and_eq_true]at hb
  exact wq1qd hb.2 i y (by simpa using h)
theorem wq1ji {G:Gh} {w w':World} {x0:List Int} {HP:List (Nm×HObj)} (hHP:HP=[(21,.row 5 (.int .u8) x0),(1,.var 89 [.nps 1 0,.row 21])])
 (obj:∀ n o,mkH HP n=some o→RO (mkH HP) G w n o) (dis:Dis (mkH HP) G w) (hblk:∀ b,b<w.heap.size→(∀ g,(G.rv 21).ownBlock=some g→b≠g)→w'.heap[b]? = w.heap[b]?)
 (hcell:∀ g o,(G.rv 21).ownBlock=some g→w'.cell? ⟨g,o,none⟩=w.cell? ⟨g,o,none⟩) (grow:w.heap.size≤w'.heap.size) (os:w'.os=w.os) (tape:w'.tape=w.tape) (out:w'.output=w.output) :
 Fin HP [(1,.var 89 [.nps 1 0,.v (.sl (.int .u8)) x0])] G w G w':=by
 have l1:mkH HP 1=some (.var 89 [.nps 1 0,.row 21]):=by subst hHP;rfl
 have l2:mkH HP 21=some (.row 5 (.int .u8) x0):=by subst hHP;rfl
 generalize hHS:[((1:Nm),HObj.var 89 [.nps 1 0,.v (.sl (.int .u8)) x0])]=HS
 have m1:mkH HS 1=some (.var 89 [.nps 1 0,.v (.sl (.int .u8)) x0]):=by subst hHS;rfl
 have mo:∀ n o,mkH HS n=some o→n=1:=by
  intro n o h
  subst hHS
  simp only[mkH,look]at h
  cases hb:Nat.beq 1 n with
  |true=>exact(Nat.eq_of_beq_eq_true hb).symm
  |false=>rw[hb]at h;cases h
 have bk1:blkOf (mkH HP) G 1=some (G.bk 1):=by simp[blkOf,l1]
 have bk2:blkOf (mkH HP) G 21=(G.rv 21).ownBlock:=by simp[blkOf,l2]
 have ck1:blkOf (mkH HS) G 1=some (G.bk 1):=by simp[blkOf,m1]
 have ck:∀ n b,blkOf (mkH HS) G n=some b→n=1∧b=G.bk 1:=by
  intro n b h
  cases hn:mkH HS n with
  |none=>simp[blkOf,hn]at h
  |some o=>have:=mo n o hn;subst this;rw[ck1]at h;cases h;exact⟨rfl,rfl⟩
 have hne:∀ g,(G.rv 21).ownBlock=some g→G.bk 1≠g:=fun g hg e=>by
  have:=dis.inj 1 21 g (by rw[bk1,e]) (by rw[bk2,hg])
  cases this
 obtain⟨vs,hw,q1,t1,rfl,hq1,q2,t2,rfl,hq2,rfl⟩:=obj 1 _ l1
 obtain⟨rfl,_⟩:=hq2
 have hlt:G.bk 1<w.heap.size:=(Array.getElem?_eq_some_iff.1 hw).1
 have hw':w'.heap[G.bk 1]? = some (.cells [q1,G.rv 21].toArray 89 (0,0)):=by rw[hblk _ hlt hne];exact hw
 have hdat:RD w' (okB (mkH HS) G) (.sl (.int .u8)) x0 [G.rv 21]:=by
  have hro:=obj 21 _ l2
  obtain⟨us,hown,hr,_⟩:=hro
  rcases hown.2 with⟨hv,hn⟩|⟨g,cap,cur,hv,_,hgb,hnc,hcm,hcs,_⟩
  ·exact⟨none,0,by rw[hv,hn],by omega,.inl (List.eq_nil_of_length_eq_zero hn)⟩
  ·have hgo:(G.rv 21).ownBlock=some g:=by rw[hv];rfl
   refine⟨_,cap,by rw[hv],hnc,.inr ⟨_,rfl,?_,?_,?_⟩⟩
   ·refine⟨fun n hn => ?_,fun hx=>dis.xo 21 g (by rw[bk2,hgo]) hx⟩
    obtain⟨_,e⟩:=ck n g hn
    exact hne g hgo e.symm
   ·have:g<w.heap.size:=(Array.getElem?_eq_some_iff.1 hgb).1
    exact Nat.lt_of_lt_of_le this grow
   ·intro i y hy
    obtain⟨c,hc,hu⟩:=hr.get i y hy
    refine⟨c,hc,fun j u hj => ?_⟩
    have:=hown.cells hgo _ _ (hu j u hj)
    rw[Addr.add_lit]at this ⊢
    rw[hcell g _ hgo]
    exact this
 refine⟨fun n o hn => ?_,fun n m b h1 h2=>(ck n b h1).1.trans (ck m b h2).1.symm,fun n t cs hn o ho => ?_,fun n ag V es hn o ho=>(wq101 (by rw[hHP];rfl) hn).elim,fun b hb hf=>hblk b hb fun g hg e=>hf 21 (by rw[bk2,hg,e]),rfl,fun n b hn => .inl ⟨1,by rw[(ck n b hn).2];exact bk1⟩,grow,os,tape,out⟩
 ·have:=mo n o hn;subst this
  rw[m1]at hn;cases hn
  refine⟨_,hw',_,_,rfl,?_,_,_,rfl,hdat,rfl⟩
  rcases hq1 with h|⟨h,_⟩
  ·exact .inl h
  ·exact .inr ⟨h,_,_,m1⟩
 ·have e1:=mo n o ho
  subst e1
  have e2:mkH HS 1=some o:=ho
  have e3:mkH HP 1=some (.var t cs):=hn
  rw[m1]at e2;rw[l1]at e3;cases e2;cases e3
  exact⟨⟨_,rfl⟩,rfl⟩
theorem wqg6(k:Nat){ps:List PV}{hp:List (Nm×HObj)}{R:Type}{K:Out→Option R}{r:R}(h:wq6t k ps hp K=some r): DoesTo Tryz.prog 45 ps hp fun out=>K out=some r:=by
 unfold wq6t at h
 split at h
 ·next x0 =>
  intro G w vals hr obj dis
  unfold wq7t at h
  cases hb:allB x0 with
  |false=>rw[hb]at h;cases h
  |true =>
   rw[hb,cond_true]at h
   obtain⟨v0,l0,rfl,h0,rfl⟩:=hr
   obtain⟨rfl,_⟩:=h0
   generalize hHP:[(21,HObj.row 5 (.int .u8) x0),(1,.var 89 [.nps 1 0,.row 21])]=HP at *
   have l1:mkH HP 1=some (.var 89 [.nps 1 0,.row 21]):=by subst hHP;rfl
   have l2:mkH HP 21=some (.row 5 (.int .u8) x0):=by subst hHP;rfl
   show Does _ _ #[_] _ _
   unfold Does
   rw[wqj6]
   obtain⟨vs,hw,q1,t1,rfl,hq1,q2,t2,rfl,hq2,rfl⟩:=obj 1 _ l1
   obtain⟨rfl,_⟩:=hq2
   have hro:=obj 21 _ l2
   obtain⟨us,hown,hrd,_⟩:=hro
   have fin:∀ {e:Ending} {w':World},e = .returned (.string ⟨(wq73 x0).toArray⟩)→(∀ b,b<w.heap.size→(∀ g,(G.rv 21).ownBlock=some g→b≠g)→w'.heap[b]? = w.heap[b]?)→(∀ g o,(G.rv 21).ownBlock=some g→w'.cell? ⟨g,o,none⟩=w.cell? ⟨g,o,none⟩)→w.heap.size≤w'.heap.size→w'.os=w.os→w'.tape=w.tape→w'.output=w.output →
    ∃ out,K out=some r∧∃ G',OutIs G' w' e out∧Fin HP out.hs G w G' w':=by
    intro e w' he h1 h2 h3 h4 h5 h6
    exact⟨_,h,G,⟨_,he,rfl⟩,wq1ji hHP.symm obj dis h1 h2 h3 h4 h5 h6⟩
   rcases hown.2 with⟨hv,hn⟩|⟨g,cap,cur,hv,_,hgb,hnc,hcm,hcs,htk⟩
   ·have hx:x0=[]:=List.eq_nil_of_length_eq_zero hn
    subst hx
    rw[hv]at hw
    refine Calls.mono (wq1p0 (G.bk 1) q1 w hw) fun e w' hh => ?_
    obtain⟨rfl,rfl⟩:=hh
    exact fin rfl (fun _ _ _=>rfl) (fun _ _ _=>rfl) (Nat.le_refl _) rfl rfl rfl
   ·have hgo:(G.rv 21).ownBlock=some g:=by rw[hv];rfl
    rw[hv]at hw
    by_cases hx:x0=[]
    ·subst hx
     by_cases hc0:cap=0
     ·subst hc0
      refine Calls.mono (wq1hd (G.bk 1) g q1 cur w hw hgb) fun e w' hh => ?_
      obtain⟨rfl,o,rfl⟩:=hh
      have hold:∀ b,b<w.heap.size→(w.alloc o).drew.heap[b]? = w.heap[b]? := fun b hb=>Lib.alloc_old w _ b hb
      refine fin rfl (fun b hb _=>hold b hb) (fun g' o' hg' => ?_) (by have:=World.size_alloc w o;show _≤(w.alloc o).heap.size;omega) rfl rfl rfl
      rw[hgo]at hg';cases hg'
      exact World.cell?_of_block (hold g (Array.getElem?_eq_some_iff.1 hgb).1)
     ·refine Calls.mono (wq1ml (G.bk 1) g cap q1 w hc0 hw) fun e w' hh => ?_
      obtain⟨rfl,rfl⟩:=hh
      exact fin rfl (fun _ _ _=>rfl) (fun _ _ _=>rfl) (Nat.le_refl _) rfl rfl rfl
    ·have hlen:(wq73 x0).length=x0.length:=by simp[wq73]
     have hbytes:∀(j:Nat) (x:UInt8),(wq73 x0)[j]? = some x→w.cell? ⟨g,j,none⟩=some (.int .u8 x.toNat):=by
      intro j x hj
      have hjl:j<x0.length:=by rw[←hlen];exact(List.getElem?_eq_some_iff.1 hj).1
      have hy:x0[j]? = some x0[j]:=by simp[hjl]
      obtain⟨c,hc,hu⟩:=hrd.get j _ hy
      have hc:c=[.int .u8 x0[j]]:=hc
      have h9:=hown.cells hgo _ _ (hu 0 (.int .u8 x0[j]) (by rw[hc];rfl))
      rw[Addr.add_lit]at h9
      have hj2:x=UInt8.ofNat (x0[j]).toNat:=by
       simp only[wq73,List.getElem?_map,hy,Option.map_some,Option.some.injEq]at hj
       exact hj.symm
      obtain⟨h10,h11⟩:=wq1qd hb j _ hy
      have:((x.toNat:Nat):Int)=x0[j]:=by
       rw[hj2,UInt8.toNat_ofNat']
       omega
      rw[this]
      have e0:0+(j*Kd.sz (.int .u8)+0)=j:=by simp[Kd.sz]
      rw[e0]at h9
      exact h9
     rw[←hlen]at hw
     have hne:wq73 x0≠[]:=by intro e;rw[e]at hlen;exact hx (List.eq_nil_of_length_eq_zero hlen.symm)
     refine Calls.mono (wq1jh (G.bk 1) g cap q1 (wq73 x0) cur w hw hne hgb (by omega) hcm (by simpa [Kd.sz]using hcs) hbytes) fun e w' hh => ?_
     obtain⟨rfl,rfl⟩:=hh
     have hfz:∀ b,b≠g→(w.drew.freeze ⟨g,0,none⟩ (wq73 x0).length).heap[b]? = w.heap[b]? := by
      intro b hb
      unfold World.freeze
      split
      ·rfl
      ·show(w.heap.modify g _)[b]? = _
       rw[Array.getElem?_modify,if_neg (Ne.symm hb)]
     refine fin rfl (fun b _ hb=>hfz b (hb g hgo)) (fun g' o' hg' => ?_) ?_ ?_ ?_ ?_
     ·rw[hgo]at hg';cases hg'
      unfold World.freeze
      split
      ·rfl
      ·simp only[World.cell?,World.drew,Array.getElem?_modify,if_true,hgb,Option.map_some]
     all_goals
      unfold World.freeze
      split
      ·first|rfl|exact Nat.le_refl _
      ·first|rfl|(show w.heap.size≤(w.heap.modify g _).size;rw[Array.size_modify];exact Nat.le_refl _)
 ·cases h
end Go.Proofs.YtabkhphoacmcdaaGreatDoor.Pvm
set_option maxHeartbeats 1000000
namespace Go.Proofs.YtabkhphoacmcdaaGreatDoor.Pvm
open Go Go.Proofs Go.RowKit
theorem wq1ev(b:Nat)(w:World)(h0:w.cell? ⟨b,0,none⟩=some (.pointer (some ⟨b,0,none⟩))):
 Calls Tryz.prog 89 #[.pointer (some ⟨b,0,none⟩)] w fun e w'=>e = .returned (.tuple #[])∧w'=w:=by
 have t76:Tryz.prog.underlying 87=some (.pointer 89):=by kernel_rfl
 have hs:(Tryz.prog.info? 89).isSome=true:=by kernel_rfl
 obtain⟨j,hj⟩:=Option.isSome_iff_exists.1 hs
 go_enter Tryz.func89,Tryz.ntmps89
 go_wp2
 rw[Lib.run_neq_ptr_same w _ t76 hj]
 go_wp2
 go_end0
 exact⟨rfl,rfl⟩
theorem wq1bb(b:Nat)(w:World)(h0:w.cell? ⟨b,0,none⟩=some (.pointer none))(hsh:w.shape? b=some (89,2))(hfz:w.frozen? ⟨b,0,none⟩=false):
 Calls Tryz.prog 89 #[.pointer (some ⟨b,0,none⟩)] w fun e w'=>e = .returned (.tuple #[])∧w'=w.setCell ⟨b,0,none⟩ (.pointer (some ⟨b,0,none⟩)):=by
 have t76:Tryz.prog.underlying 87=some (.pointer 89):=by kernel_rfl
 have t89:Tryz.prog.underlying 184=some .unsafePointer:=by kernel_rfl
 have hs:(Tryz.prog.info? 89).map (·.size)=some 2:=by kernel_rfl
 obtain⟨j,hj,hjs⟩:=Option.map_eq_some_iff.1 hs
 have hlies:liesAt Tryz.prog Tryz.prog.depth 89 (2 / Tryz.prog.cellsOf 89) 0 89 1=true:=by kernel_rfl
 go_enter Tryz.func89,Tryz.ntmps89
 go_wp2
 rw[Lib.run_to_unsafe w ⟨b,0,none⟩ t76 t89 hj (by rw[hjs];decide) hsh (Nat.zero_lt_succ 1)]
 simp only[Result.andThen]
 rw[Oper.upon_value]
 go_wp2
 rw[run_callFunc_extern Tryz.func137 (by kernel_rfl) (by kernel_rfl) (by kernel_rfl) (e:=Extern.AbiNoEscape.same) (by kernel_rfl)]
 rw[Lib.run_noEscape]
 simp only[Result.andThen]
 rw[Oper.upon_value]
 go_wp2
 rw[Lib.run_from_unsafe w ⟨b,0,none⟩ t89 t76 hj hsh hlies]
 simp only[Result.andThen]
 rw[Oper.upon_value]
 go_wp2
 go_end0
 exact⟨rfl,rfl⟩
end Go.Proofs.YtabkhphoacmcdaaGreatDoor.Pvm
set_option maxRecDepth 1000000
namespace Go.Proofs.YtabkhphoacmcdaaGreatDoor.Pvm
open Go Go.Proofs
def wqkz:List LS:=[.obj 1 [.nps 1 0,.own 21 5 (.int .u8)]]
def wqdo(k:Nat){R:Type}(x0:List Int)(K:List Int→Option R): Option R:=K x0
def wq7u(k:Nat){R:Type}: List PV→List (Nm×HObj)→(Out→Option R)→Option R
 |[.ptr 1 0],[(21,.row 5 (.int .u8) x0),(1,.var 89 [.nps 1 0,.row 21])],K=>wqdo k x0 (fun y0=>K (.ret [] [(21,.row 5 (.int .u8) y0),(1,.var 89 [.nps 1 0,.row 21])]))
 |_,_,_=>none
theorem wqg7(vs:Array Value)(w:World): (callFunc 89 vs).run Tryz.prog w = .ok (.enter 89 vs) w:=by
 have h1:Tryz.prog.funcs[89]? = some Tryz.f89:=by kernel_rfl
 have h2:(Tryz.f89.name == "runtime.NumGoroutine")=false:=by kernel_rfl
 have h3:Tryz.f89.body.isNone=false:=by kernel_rfl
 unfold callFunc
 rw[Sem.run_bind]
 have e2:(program).run Tryz.prog w = .ok Tryz.prog w:=rfl
 rw[e2,Result.andThen_ok,h1]
 simp only[h2,h3,Bool.false_eq_true,if_false]
 rfl
theorem wqnm(k:Nat){ps:List PV}{hp:List (Nm×HObj)}{R:Type}{K:Out→Option R}{r:R}(h:wq7u k ps hp K=some r): DoesTo Tryz.prog 89 ps hp fun out=>K out=some r:=by
 unfold wq7u at h
 split at h
 ·next x0 =>
  intro G w vals hr obj dis
  obtain⟨v0,l0,rfl,h0,rfl⟩:=hr
  obtain⟨rfl,_⟩:=h0
  generalize hHP:[(21,HObj.row 5 (.int .u8) x0),(1,.var 89 [.nps 1 0,.row 21])]=HP at *
  have hK:K (.ret [] HP)=some r:=by subst hHP;exact h
  have l1:mkH HP 1=some (.var 89 [.nps 1 0,.row 21]):=by subst hHP;rfl
  have hob:=obj 1 _ l1
  obtain⟨vs,hw,q1,t1,rfl,hq1,q2,t2,rfl,hq2,rfl⟩:=hob
  show Does _ _ #[_] _ _
  unfold Does
  rw[wqg7]
  have hcell:w.cell? ⟨G.bk 1,0,none⟩=some q1:=by simp[World.cell?,hw]
  have hlt:G.bk 1<w.heap.size:=(Array.getElem?_eq_some_iff.1 hw).1
  rcases hq1 with rfl|⟨rfl,_⟩
  ·refine Calls.mono (wq1bb (G.bk 1) w hcell (by simp[World.shape?,hw]) (by simp[World.frozen?,hw])) fun e w' hh => ?_
   obtain⟨rfl,rfl⟩:=hh
   have oth:∀ b,b≠G.bk 1→(w.setCell ⟨G.bk 1,0,none⟩ (.pointer (some ⟨G.bk 1,0,none⟩))).heap[b]? = w.heap[b]? := fun b hb=>Go.Deep.blk_setCell_other w _ _ b hb
   have bk1:blkOf (mkH HP) G 1=some (G.bk 1):=by simp[blkOf,l1]
   have C:Carry (mkH HP) G w (mkH HP) G (w.setCell ⟨G.bk 1,0,none⟩ (.pointer (some ⟨G.bk 1,0,none⟩))) .row :=
    ⟨fun b ho _=>⟨ho,oth b fun e=>ho.1 1 (by rw[bk1,e])⟩,fun n t cs hn=>⟨⟨cs,hn⟩,rfl⟩,fun n ag V es hn=>⟨⟨es,hn⟩,rfl⟩,fun b hx _=>⟨.inr hx,oth b fun e=>dis.xo 1 b (by rw[bk1,e]) hx⟩,fun n e K xs hn=>⟨⟨rfl,e,K,xs,hn⟩,fun m hm=>by cases hm;exact⟨e,xs,hn,Nat.le_refl _⟩⟩⟩
   have hq2':=RV.carry C _ _ hq2
   refine⟨.ret [] HP,hK,G,⟨_,rfl,⟨[],rfl,rfl⟩⟩,⟨fun n o hn => ?_,dis.inj,fun n t cs hn o ho => ?_,fun n ag V es hn o ho=>(wq101 (by rw[←hHP];rfl) hn).elim,fun b hb hf=>oth b fun e=>hf 1 (by rw[bk1,e]),rfl,fun n b hb => .inl ⟨n,hb⟩,by simp[World.setCell],rfl,rfl,rfl⟩⟩
   ·by_cases hn1:n=1
    ·subst hn1
     rw[show mkH (Out.hs (.ret [] HP)) 1=some (.var 89 [.nps 1 0,.row 21])from l1]at hn
     cases hn
     refine⟨[.pointer (some ⟨G.bk 1,0,none⟩),q2],?_,_,_,rfl,.inr ⟨rfl,89,_,l1⟩,_,_,rfl,hq2',rfl⟩
     have hw2:=(Array.getElem?_eq_some_iff.1 hw).2
     simp only[World.setCell,Array.getElem?_modify,if_pos,hw]
     simp
    ·have hne:∀ b,blkOf (mkH HP) G n=some b→b≠G.bk 1:=fun b hb e=>hn1 (dis.inj n 1 b hb (by rw[bk1,e]))
     have:=RO.carry C hn (obj n o hn) (fun b hb=>oth b (hne b hb)) rfl rfl
     rwa [wqoj]at this
   ·have e1:look HP n=some o:=ho
    rw[hn]at e1;cases e1
    exact⟨⟨cs,rfl⟩,rfl⟩
  ·refine Calls.mono (wq1ev (G.bk 1) w hcell) fun e w' hh => ?_
   obtain⟨rfl,rfl⟩:=hh
   refine⟨.ret [] HP,hK,G,⟨_,rfl,⟨[],rfl,rfl⟩⟩,⟨obj,dis.inj,fun n t cs hn o ho => ?_,fun n ag V es hn o ho=>(wq101 (by rw[←hHP];rfl) hn).elim,fun _ _ _=>rfl,rfl,fun n b hb => .inl ⟨n,hb⟩,Nat.le_refl _,rfl,rfl,rfl⟩⟩
   have e1:look HP n=some o:=ho
   rw[hn]at e1;cases e1
   exact⟨⟨cs,rfl⟩,rfl⟩
 ·cases h
end Go.Proofs.YtabkhphoacmcdaaGreatDoor.Pvm
set_option maxHeartbeats 0
noncomputable section
namespace Go.Proofs.YtabkhphoacmcdaaGreatDoor.Pvm
open Go Go.Proofs
def wqc4:List LS:=[.obj 1 [.nps 1 0,.own 21 5 (.int .u8)],.any]
def wqbc{R:Type}(K:((List Int)→Option R)): Out→Option R
 |.ret [.nilif] [(21,.row 5 (.int .u8) y0),(1,.var 89 [.nps 1 0,.row 21])]=>K y0
 |_=>none
def wqmu:RetSpec:=⟨[.any],[(1,.obj 1 [.nps 1 0,.own 21 5 (.int .u8)])],[]⟩
def wqmv(k:Nat): Ctx:=⟨tyT,[],(.add 89 wqkz (wq7u k) .nil),[],[1],[],@SH⟩
def wqnn(k:Nat){R:Type}(x0:(List Int))(x1:Int)(K:((List Int)→Option R)): Option R:=wqdo k x0 (fun y5=>cond (fits y5.length (@List.length (@Kd.T (@Kd.int Go.IntKind.u8)) [x1]) 1) (K (y5++[x1])) none)
def wq48(k:Nat){R:Type}(x0:(List Int))(x1:Int)(K:((List Int)→Option R)): Option R:=wqnn k x0 x1 K
theorem wqjt(k:Nat){R:Type}(x0:(List Int))(x1:Int)(K:((List Int)→Option R)): fnW (wqmv k) k Tryz.f254 wqmu [.ptr 1 0,.v (.int .u8) x1] [(21,.row 5 (.int .u8) x0),(1,.var 89 [.nps 1 0,.row 21])] (wqbc K)=wq48 k x0 x1 K:=by
 kernel_rfl
def wq4m(k:Nat){R:Type}: List PV→List (Nm×HObj)→(Out→Option R)→Option R
 |[.ptr 1 0,.v (.int .u8) x1],[(21,.row 5 (.int .u8) x0),(1,.var 89 [.nps 1 0,.row 21])],K=>wq48 k x0 x1 (fun y0=>K (.ret [.nilif] [(21,.row 5 (.int .u8) y0),(1,.var 89 [.nps 1 0,.row 21])]))
 |_,_,_=>none
theorem wqdp(k:Nat): DOK Tryz.prog 254 (wq4m k):=by
 intro ps hp R K r h
 have h:wq4m k ps hp K=some r:=h
 unfold wq4m at h
 split at h
 ·rw[←wqjt]at h
  exact fnW_ok ⟨tyT_ok,(CTab.add_ok (fun h=>wqnm k h) CTab.nil_ok),fun _ _=>rfl⟩ mixed (by kernel_rfl) (by kernel_rfl) h fun o ho=>by unfold wqbc at ho;split at ho<;>first|exact ho|cases ho
 ·cases h
end Go.Proofs.YtabkhphoacmcdaaGreatDoor.Pvm
end
end
