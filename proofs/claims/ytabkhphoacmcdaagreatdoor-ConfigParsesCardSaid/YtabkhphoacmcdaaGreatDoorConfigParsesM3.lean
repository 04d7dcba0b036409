/- The Go function ConfigParses returns true for every slice of bytes. -/
import Derived.Test.YtabkhphoacmcdaaGreatDoorChecked
import Derived.WalkKit
import Derived.WalkSpells
import Derived.WalkLawsBesides
import Derived.Lib.Builder
import Derived.Lib.AppendStr
import Derived.Lib.UnsafeStr
import Derived.Laws.Externs
import Derived.Shelf.RegionOpenPlain
import Derived.Deep.Heap
import Derived.Lib.Bytealg
import Derived.Shelf.GgClosure.StringsIndexFuncTop
import Derived.Shelf.Strings.FuncGrows
import Derived.Test.YtabkhphoacmcdaaGreatDoorConfigParsesM0
import Derived.Test.YtabkhphoacmcdaaGreatDoorConfigParsesM1
import Derived.Test.YtabkhphoacmcdaaGreatDoorConfigParsesM2
set_option linter.unusedVariables false
set_option linter.unusedSimpArgs false
set_option linter.unusedSectionVars false
noncomputable section
set_option maxRecDepth 1000000
set_option maxHeartbeats 0
namespace Go.Proofs.YtabkhphoacmcdaaGreatDoor.Pvm
open Go Go.Proofs
def J0L:Sh:=⟨[.o 1 79 0 [.s J4,.w 21 64 (.pr .str (.sl kI)),.w 51 57 J5,.a .flt],.a kI],some ([.o 1 79 0 [.s J4,.w 21 64 (.pr .str (.sl kI)),.w 51 57 J5,.a .flt]],[.g [.a .str,.a kI,.a kI,.a .flt,.a .bool,.a .bool]]),some ([.o 1 79 0 [.s J4,.w 21 64 (.pr .str (.sl kI)),.w 51 57 J5,.a .flt]],[.i 29 (.g [.a kI,.a kI])])⟩
abbrev JgY:Type 1:=(R:Type)->J3->J7->J9->Nat->Int->(J3->J7->J9->Nat->J0->Int->Int->Nat->Bool->Bool->Option R)->(J3->J7->J9->Nat->Int->Int->Option R)->Option R
def J6g:Cu:=⟨1,[0,1,4,28,29,30],[.o 1 79 0 [.s J4,.w 21 64 (.pr .str (.sl kI)),.w 51 57 J5,.a .flt],.r 1 0,.a kI,.o 14 55 0 [.a .str,.a kI,.a kI,.a .flt,.a .bool,.a .bool],.s .str,.a kI,.a kI]⟩
def Jcl(k:Nat)(JJ:UQ)(JR:UP)(Qf:Zu)(JN:UN)(JI:UM)(Ux:J32)(Qn:J0O)(Qk:Zv)(QE:J0J)(UB:J3n)(Uo:J2X): Cxt:=⟨[J4U.e 69 JJ,J1Y.e 70 JR,Jcb.e 72 Qf,J6z.e 73 JN,J45.e 75 JI,Jdb.e 112 Ux,J9y.e 123 Qn,J9m.e 126 Qk,Jcj.e 207 QE,Jld.e 239 UB,Jhe.e 240 Uo],[1],[(1005,J6g.spec)],[(16,(.of [(0,1),(1,1),(2,1),(4,1),(5,1),(3,2)] (.alt 6 (.alt 7 (.of [(8,1),(9,1),(10,1),(11,0),(12,1),(13,0)] .done) (.op 11 0 (.of [(7,0),(8,1),(9,1),(10,1),(12,1),(13,0)] .done))) (.op 11 0 (.of [(6,0),(7,0),(8,1),(9,1),(10,1),(12,1),(13,0)] .done)))))]⟩
def JbP(k:Nat)(JJ:UQ)(JR:UP)(Qf:Zu)(JN:UN)(JI:UM)(Ux:J32)(Qn:J0O)(Qk:Zv)(QE:J0J)(UB:J3n)(Uo:J2X){R:Type}(E1005:(J3->J7->J9->Nat->Int->J0->Int->Int->Nat->Bool->Bool->Jt->Int->Int->Option R))(s0:J3)(s1:J7)(s2:J9)(s3:Nat)(s4:Int)(s5:J0)(s6 s7:Int)(s8:Nat)(s9 s10:Bool)(s11:Jt)(s12 s13:Int)(K:(J3->J7->J9->Nat->J0->Int->Int->Nat->Bool->Bool->Option R))(E:(J3->J7->J9->Nat->Int->Int->Option R)): Option R:=cond (decide (s13<s12)) (cond (inb s13 (s11.length:Int)) (Qn R s0 s4 (s11.getD s13.toNat Kd.str.zero) (fun y19 y20=>cond y20 (JI R s0 s4 17 (fun y21 y22=>E s0 s1 s2 s3 y21 y22)) (E1005 s0 s1 s2 s3 s4 s5 s6 s7 s8 s9 s10 s11 s12 (IntKind.i64.wrap (s13+1))))) none) (Qn R s0 s4 [110,97,109,101] (fun y19 y20=>cond y20 (Qk R s0 y19 (fun y21=>K s0 s1 s2 s3 y21 s6 s7 s8 s9 s10) (fun y21 y22=>E s0 s1 s2 s3 y21 y22)) (K s0 s1 s2 s3 s5 s6 s7 s8 s9 s10)))
def JgZ(k:Nat)(JJ:UQ)(JR:UP)(Qf:Zu)(JN:UN)(JI:UM)(Ux:J32)(Qn:J0O)(Qk:Zv)(QE:J0J)(UB:J3n)(Uo:J2X){R:Type}(E1005:(J3->J7->J9->Nat->Int->J0->Int->Int->Nat->Bool->Bool->Jt->Int->Int->Option R))(x0:J3)(x1:J7)(x2:J9)(x3:Nat)(x4:Int)(K:(J3->J7->J9->Nat->J0->Int->Int->Nat->Bool->Bool->Option R))(E:(J3->J7->J9->Nat->Int->Int->Option R)): Option R:=JR R x0 x4 [[117,110,108,105,109,105,116,101,100],[117,110,105,116],[114,101,113,117,101,115,116,115,95,112,101,114,95,117,110,105,116],[110,101,97,114],[110,97,109,101]] (fun y10 y11=>JJ R y10 y11 (fun y12=>QE R x0 x4 [117,110,108,105,109,105,116,101,100] (fun y13=>cond y13 (E1005 x0 x1 x2 x3 x4 [] 0 0 0 false y13 [[117,110,105,116],[114,101,113,117,101,115,116,115,95,112,101,114,95,117,110,105,116],[110,101,97,114]] (@List.length (@Kd.T Kd.str) [[(117:UInt8),110,105,116],[(114:UInt8),101,113,117,101,115,116,115,95,112,101,114,95,117,110,105,116],[(110:UInt8),101,97,114]]:Int) 0) (JN R x0 x4 [117,110,105,116] (fun y14=>Ux R x0 y14 1 (fun y15 y16=>JJ R y15 y16 (fun y17=>cond (inb y14 (x0.length:Int)) (UB R (x0.getD y14.toNat J4.zero).2.2.1 (fun y18=>cond (y18 == 0) (JI R x0 y14 16 (fun y19 y20=>E x0 x1 x2 x3 y19 y20)) (J1L (JN R x0 x4 [114,101,113,117,101,115,116,115,95,112,101,114,95,117,110,105,116] (fun y19=>J90 (@Shp.b @Shp.o @Shp.o) (Uo R x0 y19 0 4294967295 (fun y20 y21 y22=>JJ R y21 y22 (fun y23=>Qf R x0 x4 [110,101,97,114] x3 (fun y24=>Qn R x0 x4 [110,97,109,101] (fun y25 y26=>cond y26 (Qk R x0 y25 (fun y27=>K x0 x1 x2 x3 y27 y18 y20 y24 false y13) (fun y27 y28=>E x0 x1 x2 x3 y27 y28)) (K x0 x1 x2 x3 [] y18 y20 y24 false y13))) (fun y24 y25=>E x0 x1 x2 x3 y24 y25)) (fun y23 y24=>E x0 x1 x2 x3 y23 y24)))) (fun y19 y20=>E x0 x1 x2 x3 y19 y20)) (JN R x0 x4 [114,101,113,117,101,115,116,115,95,112,101,114,95,117,110,105,116] (fun y19=>Uo R x0 y19 0 4294967295 (fun y20 y21 y22=>JJ R y21 y22 (fun y23=>Qf R x0 x4 [110,101,97,114] x3 (fun y24=>Qn R x0 x4 [110,97,109,101] (fun y25 y26=>cond y26 (Qk R x0 y25 (fun y27=>K x0 x1 x2 x3 y27 y18 y20 y24 false y13) (fun y27 y28=>E x0 x1 x2 x3 y27 y28)) (K x0 x1 x2 x3 [] y18 y20 y24 false y13))) (fun y24 y25=>E x0 x1 x2 x3 y24 y25)) (fun y23 y24=>E x0 x1 x2 x3 y23 y24))) (fun y19 y20=>E x0 x1 x2 x3 y19 y20))))) none) (fun y17 y18=>E x0 x1 x2 x3 y17 y18))) (fun y14 y15=>E x0 x1 x2 x3 y14 y15))) (fun y13 y14=>E x0 x1 x2 x3 y13 y14)) (fun y12 y13=>E x0 x1 x2 x3 y12 y13))
def J9n(k:Nat)(JJ:UQ)(JR:UP)(Qf:Zu)(JN:UN)(JI:UM)(Ux:J32)(Qn:J0O)(Qk:Zv)(QE:J0J)(UB:J3n)(Uo:J2X){R:Type}(E1005:(J3->J7->J9->Nat->Int->J0->Int->Int->Nat->Bool->Bool->Jt->Int->Int->Option R))(x0:J3)(x1:J7)(x2:J9)(x3:Nat)(x4:Int)(K:(J3->J7->J9->Nat->J0->Int->Int->Nat->Bool->Bool->Option R))(E:(J3->J7->J9->Nat->Int->Int->Option R)): Option R:=JR R x0 x4 [[117,110,108,105,109,105,116,101,100],[117,110,105,116],[114,101,113,117,101,115,116,115,95,112,101,114,95,117,110,105,116],[110,101,97,114],[110,97,109,101]] (fun y10 y11=>JJ R y10 y11 (fun y12=>QE R x0 x4 [117,110,108,105,109,105,116,101,100] (fun y13=>cond y13 (E1005 x0 x1 x2 x3 x4 [] 0 0 0 false y13 [[117,110,105,116],[114,101,113,117,101,115,116,115,95,112,101,114,95,117,110,105,116],[110,101,97,114]] (@List.length (@Kd.T Kd.str) [[(117:UInt8),110,105,116],[(114:UInt8),101,113,117,101,115,116,115,95,112,101,114,95,117,110,105,116],[(110:UInt8),101,97,114]]:Int) 0) (JN R x0 x4 [117,110,105,116] (fun y14=>Ux R x0 y14 1 (fun y15 y16=>JJ R y15 y16 (fun y17=>cond (inb y14 (x0.length:Int)) (UB R (x0.getD y14.toNat J4.zero).2.2.1 (fun y18=>cond (y18 == 0) (JI R x0 y14 16 (fun y19 y20=>E x0 x1 x2 x3 y19 y20)) (JN R x0 x4 [114,101,113,117,101,115,116,115,95,112,101,114,95,117,110,105,116] (fun y19=>Uo R x0 y19 0 4294967295 (fun y20 y21 y22=>JJ R y21 y22 (fun y23=>Qf R x0 x4 [110,101,97,114] x3 (fun y24=>Qn R x0 x4 [110,97,109,101] (fun y25 y26=>cond y26 (Qk R x0 y25 (fun y27=>K x0 x1 x2 x3 y27 y18 y20 y24 false y13) (fun y27 y28=>E x0 x1 x2 x3 y27 y28)) (K x0 x1 x2 x3 [] y18 y20 y24 false y13))) (fun y24 y25=>E x0 x1 x2 x3 y24 y25)) (fun y23 y24=>E x0 x1 x2 x3 y23 y24))) (fun y19 y20=>E x0 x1 x2 x3 y19 y20)))) none) (fun y17 y18=>E x0 x1 x2 x3 y17 y18))) (fun y14 y15=>E x0 x1 x2 x3 y14 y15))) (fun y13 y14=>E x0 x1 x2 x3 y13 y14)) (fun y12 y13=>E x0 x1 x2 x3 y12 y13))
theorem Jxk(k:Nat)(JJ:UQ)(JR:UP)(Qf:Zu)(JN:UN)(JI:UM)(Ux:J32)(Qn:J0O)(Qk:Zv)(QE:J0J)(UB:J3n)(Uo:J2X){R:Type}: @JgZ k JJ JR Qf JN JI Ux Qn Qk QE UB Uo R=@J9n k JJ JR Qf JN JI Ux Qn Qk QE UB Uo R:=by funext E1005 x0 x1 x2 x3 x4 K E;unfold JgZ J9n;simp only[Jfv,show ∀(R:Type) (a:Option R),J1L a a=a from fun R a=>by unfold J1L;exact if_pos rfl]
def J0H(k:Nat)(JJ:UQ)(JR:UP)(Qf:Zu)(JN:UN)(JI:UM)(Ux:J32)(Qn:J0O)(Qk:Zv)(QE:J0J)(UB:J3n)(Uo:J2X){R:Type}: Nat->J3->J7->J9->Nat->Int->J0->Int->Int->Nat->Bool->Bool->Jt->Int->Int->(J3->J7->J9->Nat->J0->Int->Int->Nat->Bool->Bool->Option R)->(J3->J7->J9->Nat->Int->Int->Option R)->Option R
 |0,_,_,_,_,_,_,_,_,_,_,_,_,_,_,_,_=>none
 |n+1,s0,s1,s2,s3,s4,s5,s6,s7,s8,s9,s10,s11,s12,s13,K,E=>JbP k JJ JR Qf JN JI Ux Qn Qk QE UB Uo (fun s0 s1 s2 s3 s4 s5 s6 s7 s8 s9 s10 s11 s12 s13=>J0H k JJ JR Qf JN JI Ux Qn Qk QE UB Uo n s0 s1 s2 s3 s4 s5 s6 s7 s8 s9 s10 s11 s12 s13 K E) s0 s1 s2 s3 s4 s5 s6 s7 s8 s9 s10 s11 s12 s13 K E
theorem Jx4(k:Nat)(JJ:UQ)(JR:UP)(Qf:Zu)(JN:UN)(JI:UM)(Ux:J32)(Qn:J0O)(Qk:Zv)(QE:J0J)(UB:J3n)(Uo:J2X){R:Type}: ∀(I:Nat->St->Option R) (n:Nat),J0L.lp J6g (Jcl k JJ JR Qf JN JI Ux Qn Qk QE UB Uo).cx k Tryz.f206 1005 [1,1,0,1,1,0,1,0] I n=J0H k JJ JR Qf JN JI Ux Qn Qk QE UB Uo n:=J0L.lok J6g (B:=JbP k JJ JR Qf JN JI Ux Qn Qk QE UB Uo) (L:=J0H k JJ JR Qf JN JI Ux Qn Qk QE UB Uo) (fun I=>by kernel_rfl) (fun I=>by kernel_rfl) (fun n=>by kernel_rfl) (fun _ _ _ _=>rfl)
theorem Jyn(k:Nat)(JJ:UQ)(JR:UP)(Qf:Zu)(JN:UN)(JI:UM)(Ux:J32)(Qn:J0O)(Qk:Zv)(QE:J0J)(UB:J3n)(Uo:J2X)(R:Type): J0L.at (Jcl k JJ JR Qf JN JI Ux Qn Qk QE UB Uo) k Tryz.f206 R=J0L.glue (l:=J0L.ps) (u:=J6g.fs) (fun E1005=>@JgZ k JJ JR Qf JN JI Ux Qn Qk QE UB Uo R E1005) (J0L.lp J6g (Jcl k JJ JR Qf JN JI Ux Qn Qk QE UB Uo).cx k Tryz.f206 1005 [1,1,0,1,1,0,1,0] (fun _ _=>none) k):=by kernel_rfl
def J47(k:Nat){R:Type}(x0:J3)(x1:J7)(x2:J9)(x3:Nat)(x4:Int)(K:(J3->J7->J9->Nat->J0->Int->Int->Nat->Bool->Bool->Option R))(E:(J3->J7->J9->Nat->Int->Int->Option R)): Option R:=J9n k (@Qh k) (@QM k) (@Us k) (@QY k) (@QB k) (@Uw k) (@QZ k) (@UO k) (@Y0 k) (@J03 k) (@Z6 k) (fun s0 s1 s2 s3 s4 s5 s6 s7 s8 s9 s10 s11 s12 s13=>J0H k (@Qh k) (@QM k) (@Us k) (@QY k) (@QB k) (@Uw k) (@QZ k) (@UO k) (@Y0 k) (@J03 k) (@Z6 k) k s0 s1 s2 s3 s4 s5 s6 s7 s8 s9 s10 s11 s12 s13 K E) x0 x1 x2 x3 x4 K E
theorem Jyo(k:Nat): DOK Tryz.prog 206 (J0L.run (@J47 k)):=dok J0L (Jcl k (@Qh k) (@QM k) (@Us k) (@QY k) (@QB k) (@Uw k) (@QZ k) (@UO k) (@Y0 k) (@J03 k) (@Z6 k)) Tryz.f206 k (ok1 (J2b k) (ok1 (JcV k) (ok1 (JnY k) (ok1 (Jck k) (ok1 (J9j k) (ok1 (J71 k) (ok1 (J73 k) (ok1 (Jh5 k) (ok1 (Jo1 k) (ok1 (JGP k) (ok1 (JyU k) ok0))))))))))) (by kernel_rfl) (by kernel_rfl) fun R=>(Jyn k (@Qh k) (@QM k) (@Us k) (@QY k) (@QB k) (@Uw k) (@QZ k) (@UO k) (@Y0 k) (@J03 k) (@Z6 k) R).trans ((show _=J0L.glue (l:=J0L.ps) (u:=J6g.fs) (fun E1005=>@J9n k (@Qh k) (@QM k) (@Us k) (@QY k) (@QB k) (@Uw k) (@QZ k) (@UO k) (@Y0 k) (@J03 k) (@Z6 k) R E1005) (J0H k (@Qh k) (@QM k) (@Us k) (@QY k) (@QB k) (@Uw k) (@QZ k) (@UO k) (@Y0 k) (@J03 k) (@Z6 k) k) by simp only[Jx4,Jxk]).trans (by kernel_rfl))
def JhX:Sh:=⟨[.g [.s J4],.a kI],some ([],[.a .str,.g [.a kI,.a kI]]),none⟩
abbrev Jhy:Type 1:=(R:Type)->J3->Int->(J0->Int->Int->Option R)->Option R
def JA4(k:Nat): Cxt:=⟨[J9x k,J4j k],[],[],[(3,(.of [(1,1),(0,1),(2,0)] .done))]⟩
def Joz(k:Nat){R:Type}(x0:J3)(x1:Int)(K:(J0->Int->Int->Option R)): Option R:=Uw k x0 x1 1 (fun y5 y6=>cond (y5 != 0) (K [] y5 y6) (cond (inb x1 (x0.length:Int)) (cond (decide ((((x0.getD x1.toNat J4.zero).2.2.1).length:Int)≤128)) (K (x0.getD x1.toNat J4.zero).2.2.1 0 0) (Z7 k x0 x1 12 (fun y7 y8=>K [] y7 y8))) none))
def J36:=@Joz
theorem JA5(k:Nat): DOK Tryz.prog 204 (JhX.run (@J36 k)):=dok JhX (JA4 k) Tryz.f204 k (ok1 (J71 k) (ok1 (J31 k) ok0)) (by kernel_rfl) (by kernel_rfl) fun R=>by kernel_rfl
def JgP:Sh:=⟨[.a kI,.o 11 75 0 [.o 330 79 0 [.s J4,.w 350 64 (.pr .str (.sl kI)),.w 380 57 J5,.a .flt]],.o 12 57 0 [.a .str,.a .str,.a .bool,.a kI,.a kI,.a .bool,.a .str,.a kI,.a kI,.a .flt,.a .bool,.a .bool,.s kI]],some ([.o 11 75 0 [.o 330 79 0 [.s J4,.w 350 64 (.pr .str (.sl kI)),.w 380 57 J5,.a .flt]],.r 330 0,.o 12 57 0 [.a .str,.a .str,.a .bool,.a kI,.a kI,.a .bool,.a .str,.a kI,.a kI,.a .flt,.a .bool,.a .bool,.s kI]],[.a .bool]),none⟩
def Jxl(k:Nat): Cxt:=⟨[Jj8 k],[11,330,12],[],[(1,(.of [(5,1),(0,1),(1,1),(2,1),(3,1),(4,1),(6,1),(7,1),(8,1),(9,0),(10,1)] .done))]⟩
def JnI(k:Nat){R:Type}(x0:Int)(x1:J3)(x2:J7)(x3:J9)(x4:Nat)(x5 x6:J0)(x7:Bool)(x8 x9:Int)(x10:Bool)(x11:J0)(x12 x13:Int)(x14:Nat)(x15 x16:Bool)(x17:J6)(K:(J3->J7->J9->Nat->J0->J0->Bool->Int->Int->Bool->J0->Int->Int->Nat->Bool->Bool->J6->Bool->Option R)): Option R:=cond (inb x0 (x3.length:Int)) (J7C k (x3.getD x0.toNat J5.zero).1 (x3.getD x0.toNat J5.zero).2.1 (x3.getD x0.toNat J5.zero).2.2.1 (x3.getD x0.toNat J5.zero).2.2.2.1 (x3.getD x0.toNat J5.zero).2.2.2.2.1 (x3.getD x0.toNat J5.zero).2.2.2.2.2.1 (x3.getD x0.toNat J5.zero).2.2.2.2.2.2.1.1 (x3.getD x0.toNat J5.zero).2.2.2.2.2.2.1.2.1 (x3.getD x0.toNat J5.zero).2.2.2.2.2.2.1.2.2.1 (x3.getD x0.toNat J5.zero).2.2.2.2.2.2.1.2.2.2.1 (x3.getD x0.toNat J5.zero).2.2.2.2.2.2.1.2.2.2.2.1 (x3.getD x0.toNat J5.zero).2.2.2.2.2.2.1.2.2.2.2.2 (x3.getD x0.toNat J5.zero).2.2.2.2.2.2.2 x5 x6 x7 x8 x9 x10 x11 x12 x13 x14 x15 x16 x17 (fun y21=>K x1 x2 x3 x4 x5 x6 x7 x8 x9 x10 x11 x12 x13 x14 x15 x16 x17 y21)) none
def J9g:=@JnI
theorem Jxm(k:Nat): DOK Tryz.prog 205 (JgP.run (@J9g k)):=dok JgP (Jxl k) Tryz.f205 k (ok1 (Jj7 k) ok0) (by kernel_rfl) (by kernel_rfl) fun R=>by kernel_rfl
def Jxn(k:Nat): Ent:=JgP.e 205 (@J9g k)
abbrev JgB(R:Type): Type:=(J3->J7->J9->Nat->J0->J0->Bool->Int->Int->Bool->J0->Int->Int->Nat->Bool->Bool->J6->Int->Option R)
def J68:Sh:=⟨[.b kI,.c 205 [.o 300 75 0 [.o 330 79 0 [.s J4,.w 350 64 (.pr .str (.sl kI)),.w 380 57 J5,.a .flt]],.o 301 57 0 [.a .str,.a .str,.a .bool,.a kI,.a kI,.a .bool,.a .str,.a kI,.a kI,.a .flt,.a .bool,.a .bool,.s kI]]],some ([.o 300 75 0 [.o 330 79 0 [.s J4,.w 350 64 (.pr .str (.sl kI)),.w 380 57 J5,.a .flt]],.r 330 0,.o 301 57 0 [.a .str,.a .str,.a .bool,.a kI,.a kI,.a .bool,.a .str,.a kI,.a kI,.a .flt,.a .bool,.a .bool,.s kI]],[.a kI]),none⟩
def JbA:Cu:=⟨3,[0,1,7,8],[.o 300 75 0 [.o 330 79 0 [.s J4,.w 350 64 (.pr .str (.sl kI)),.w 380 57 J5,.a .flt]],.r 330 0,.o 301 57 0 [.a .str,.a .str,.a .bool,.a kI,.a kI,.a .bool,.a .str,.a kI,.a kI,.a .flt,.a .bool,.a .bool,.s kI],.b kI,.c 205 [.r 300 0,.r 301 0],.a kI,.a kI]⟩
def Jnx(k:Nat): Cxt:=⟨[Jxn k],[300,330,301],[(1002,JbA.spec)],[]⟩
def JbB(k:Nat){R:Type}(E1002:(J3->J7->J9->Nat->J0->J0->Bool->Int->Int->Bool->J0->Int->Int->Nat->Bool->Bool->J6->J6->Int->Int->Option R))(s0:J3)(s1:J7)(s2:J9)(s3:Nat)(s4 s5:J0)(s6:Bool)(s7 s8:Int)(s9:Bool)(s10:J0)(s11 s12:Int)(s13:Nat)(s14 s15:Bool)(s16 s17:J6)(s18 s19:Int)(K:JgB R): Option R:=cond (decide (s19<s18)) (cond (inb s19 (s17.length:Int)) (J9g k (s17.getD s19.toNat kI.zero) s0 s1 s2 s3 s4 s5 s6 s7 s8 s9 s10 s11 s12 s13 s14 s15 s16 (fun y24 y25 y26 y27 y28 y29 y30 y31 y32 y33 y34 y35 y36 y37 y38 y39 y40 y41=>cond y41 (K y24 y25 y26 y27 y28 y29 y30 y31 y32 y33 y34 y35 y36 y37 y38 y39 y40 s19) (E1002 y24 y25 y26 y27 y28 y29 y30 y31 y32 y33 y34 y35 y36 y37 y38 y39 y40 s17 s18 (IntKind.i64.wrap (s19+1))))) none) (K s0 s1 s2 s3 s4 s5 s6 s7 s8 s9 s10 s11 s12 s13 s14 s15 s16 (-(1:Int)))
def JgC(k:Nat){R:Type}(E1002:(J3->J7->J9->Nat->J0->J0->Bool->Int->Int->Bool->J0->Int->Int->Nat->Bool->Bool->J6->J6->Int->Int->Option R))(x0:J6)(x1:J3)(x2:J7)(x3:J9)(x4:Nat)(x5 x6:J0)(x7:Bool)(x8 x9:Int)(x10:Bool)(x11:J0)(x12 x13:Int)(x14:Nat)(x15 x16:Bool)(x17:J6)(K:JgB R): Option R:=E1002 x1 x2 x3 x4 x5 x6 x7 x8 x9 x10 x11 x12 x13 x14 x15 x16 x17 x0 (x0.length:Int) 0
def J3V(k:Nat){R:Type}: Nat->J3->J7->J9->Nat->J0->J0->Bool->Int->Int->Bool->J0->Int->Int->Nat->Bool->Bool->J6->J6->Int->Int->(J3->J7->J9->Nat->J0->J0->Bool->Int->Int->Bool->J0->Int->Int->Nat->Bool->Bool->J6->Int->Option R)->Option R
 |0,_,_,_,_,_,_,_,_,_,_,_,_,_,_,_,_,_,_,_,_,_=>none
 |n+1,s0,s1,s2,s3,s4,s5,s6,s7,s8,s9,s10,s11,s12,s13,s14,s15,s16,s17,s18,s19,K=>JbB k (fun s0 s1 s2 s3 s4 s5 s6 s7 s8 s9 s10 s11 s12 s13 s14 s15 s16 s17 s18 s19=>J3V k n s0 s1 s2 s3 s4 s5 s6 s7 s8 s9 s10 s11 s12 s13 s14 s15 s16 s17 s18 s19 K) s0 s1 s2 s3 s4 s5 s6 s7 s8 s9 s10 s11 s12 s13 s14 s15 s16 s17 s18 s19 K
theorem JwH(k:Nat){R:Type}: ∀(I:Nat->St->Option R) (n:Nat),J68.lp JbA (Jnx k).cx k Tryz.f110 1002 [1,0,1,0] I n=J3V k n:=J68.lok JbA (B:=JbB k) (L:=J3V k) (fun I=>by kernel_rfl) (fun I=>by kernel_rfl) (fun n=>by kernel_rfl) (fun _ _ _ _=>rfl)
def JbF(k:Nat){R:Type}(x0:J6)(x1:J3)(x2:J7)(x3:J9)(x4:Nat)(x5 x6:J0)(x7:Bool)(x8 x9:Int)(x10:Bool)(x11:J0)(x12 x13:Int)(x14:Nat)(x15 x16:Bool)(x17:J6)(K:JgB R): Option R:=JgC k (fun s0 s1 s2 s3 s4 s5 s6 s7 s8 s9 s10 s11 s12 s13 s14 s15 s16 s17 s18 s19=>J3V k k s0 s1 s2 s3 s4 s5 s6 s7 s8 s9 s10 s11 s12 s13 s14 s15 s16 s17 s18 s19 K) x0 x1 x2 x3 x4 x5 x6 x7 x8 x9 x10 x11 x12 x13 x14 x15 x16 x17 K
theorem JwP(k:Nat): DOK Tryz.prog 110 (J68.run (@JbF k)):=dok J68 (Jnx k) Tryz.f110 k (ok1 (Jxm k) ok0) (by kernel_rfl) (by kernel_rfl) fun R=>J68.f1 JbA (JgC k) (by kernel_rfl) (JwH k (fun _ _=>none) k) (by kernel_rfl)
def JwQ(k:Nat): Ent:=J68.e 110 (@JbF k)
def Jgz:Sh:=⟨[.b kI,.c 205 [.o 300 75 0 [.o 330 79 0 [.s J4,.w 350 64 (.pr .str (.sl kI)),.w 380 57 J5,.a .flt]],.o 301 57 0 [.a .str,.a .str,.a .bool,.a kI,.a kI,.a .bool,.a .str,.a kI,.a kI,.a .flt,.a .bool,.a .bool,.s kI]]],some ([.o 300 75 0 [.o 330 79 0 [.s J4,.w 350 64 (.pr .str (.sl kI)),.w 380 57 J5,.a .flt]],.r 330 0,.o 301 57 0 [.a .str,.a .str,.a .bool,.a kI,.a kI,.a .bool,.a .str,.a kI,.a kI,.a .flt,.a .bool,.a .bool,.s kI]],[.a .bool]),none⟩
abbrev Jgy:Type 1:=(R:Type)->J6->J3->J7->J9->Nat->J0->J0->Bool->Int->Int->Bool->J0->Int->Int->Nat->Bool->Bool->J6->(J3->J7->J9->Nat->J0->J0->Bool->Int->Int->Bool->J0->Int->Int->Nat->Bool->Bool->J6->Bool->Option R)->Option R
def JwK(k:Nat): Cxt:=⟨[JwQ k],[300,330,301],[],[]⟩
def Jnv(k:Nat){R:Type}(x0:J6)(x1:J3)(x2:J7)(x3:J9)(x4:Nat)(x5 x6:J0)(x7:Bool)(x8 x9:Int)(x10:Bool)(x11:J0)(x12 x13:Int)(x14:Nat)(x15 x16:Bool)(x17:J6)(K:(J3->J7->J9->Nat->J0->J0->Bool->Int->Int->Bool->J0->Int->Int->Nat->Bool->Bool->J6->Bool->Option R)): Option R:=JbF k x0 x1 x2 x3 x4 x5 x6 x7 x8 x9 x10 x11 x12 x13 x14 x15 x16 x17 (fun y21 y22 y23 y24 y25 y26 y27 y28 y29 y30 y31 y32 y33 y34 y35 y36 y37 y38=>K y21 y22 y23 y24 y25 y26 y27 y28 y29 y30 y31 y32 y33 y34 y35 y36 y37 (decide (y38≥0)))
def J3X:=@Jnv
theorem JwL(k:Nat): DOK Tryz.prog 65 (Jgz.run (@J3X k)):=dok Jgz (JwK k) Tryz.f65 k (ok1 (JwP k) ok0) (by kernel_rfl) (by kernel_rfl) fun R=>by kernel_rfl
section
def ZT:Sh:=⟨[.o 1 79 0 [.s J4,.w 21 64 (.pr .str (.sl kI)),.w 51 57 J5,.a .flt],.a kI,.a kI,.a kI,.a kI],some ([.o 1 79 0 [.s J4,.w 21 64 (.pr .str (.sl kI)),.w 51 57 J5,.a .flt]],[.s kI]),some ([.o 1 79 0 [.s J4,.w 21 64 (.pr .str (.sl kI)),.w 51 57 J5,.a .flt]],[.i 29 (.g [.a kI,.a kI])])⟩
abbrev ZQ:Type 1:=(R:Type)->J3->J7->J9->Nat->Int->Int->Int->Int->(J3->J7->J9->Nat->J6->Option R)->(J3->J7->J9->Nat->Int->Int->Option R)->Option R
def J9i:Sh:=⟨[.o 1 79 0 [.s J4,.w 21 64 (.pr .str (.sl kI)),.w 51 57 J5,.a .flt],.a kI,.g [.a .str,.a .str,.a .bool,.a kI,.a kI,.a .bool,.a .str,.a kI,.a kI,.a .flt,.a .bool,.a .bool,.s kI],.b kI,.a kI],some ([.o 1 79 0 [.s J4,.w 21 64 (.pr .str (.sl kI)),.w 51 57 J5,.a .flt]],[.a kI]),some ([.o 1 79 0 [.s J4,.w 21 64 (.pr .str (.sl kI)),.w 51 57 J5,.a .flt]],[.i 29 (.g [.a kI,.a kI])])⟩
abbrev J1m:Type 1:=(R:Type)->J3->J7->J9->Nat->Int->J0->J0->Bool->Int->Int->Bool->J0->Int->Int->Nat->Bool->Bool->J6->J6->Int->(J3->J7->J9->Nat->Int->Option R)->(J3->J7->J9->Nat->Int->Int->Option R)->Option R
def J6h:Cu:=⟨1,[0,2,3,4,11,16,17,18],[.o 1 79 0 [.s J4,.w 21 64 (.pr .str (.sl kI)),.w 51 57 J5,.a .flt],.r 1 0,.a kI,.a kI,.a kI,.w 100011 3 kI,.s kI,.a kI,.a kI]⟩
def Jcm(k:Nat)(QF:ZQ)(Ur:J1m): Cxt:=⟨[JxY k,J9i.e 175 Ur],[1],[(1003,J6h.spec)],[]⟩
def JbQ(k:Nat)(QF:ZQ)(Ur:J1m){R:Type}(E1003:(J3->J7->J9->Nat->Int->Int->Int->J6->J6->Int->Int->Option R))(s0:J3)(s1:J7)(s2:J9)(s3:Nat)(s4 s5 s6:Int)(s7 s8:J6)(s9 s10:Int)(K:(J3->J7->J9->Nat->J6->Option R))(E:(J3->J7->J9->Nat->Int->Int->Option R)): Option R:=cond (decide (s10<s9)) (cond (inb s10 (s8.length:Int)) (Ur R s0 s1 s2 s3 (s8.getD s10.toNat kI.zero) [] [] false s4 s5 false [] 0 0 0 false false [] s7 s6 (fun y16 y17 y18 y19 y20=>cond (Ju s7.length (@List.length (@Kd.T kI) [y20]) 8) (E1003 y16 y17 y18 y19 s4 s5 s6 (s7++[y20]) s8 s9 (IntKind.i64.wrap (s10+1))) none) E) none) (K s0 s1 s2 s3 s7)
def Jcn(k:Nat)(QF:ZQ)(Ur:J1m){R:Type}(E1003:(J3->J7->J9->Nat->Int->Int->Int->J6->J6->Int->Int->Option R))(x0:J3)(x1:J7)(x2:J9)(x3:Nat)(x4 x5 x6 x7:Int)(K:(J3->J7->J9->Nat->J6->Option R))(E:(J3->J7->J9->Nat->Int->Int->Option R)): Option R:=ZP k x0 x4 [100,101,115,99,114,105,112,116,111,114,115] (fun y13=>E1003 x0 x1 x2 x3 x5 x6 x7 [] y13 (y13.length:Int) 0) (fun y13 y14=>E x0 x1 x2 x3 y13 y14)
def J2T(k:Nat)(QF:ZQ)(Ur:J1m){R:Type}: Nat->J3->J7->J9->Nat->Int->Int->Int->J6->J6->Int->Int->(J3->J7->J9->Nat->J6->Option R)->(J3->J7->J9->Nat->Int->Int->Option R)->Option R
 |0,_,_,_,_,_,_,_,_,_,_,_,_,_=>none
 |n+1,s0,s1,s2,s3,s4,s5,s6,s7,s8,s9,s10,K,E=>JbQ k QF Ur (fun s0 s1 s2 s3 s4 s5 s6 s7 s8 s9 s10=>J2T k QF Ur n s0 s1 s2 s3 s4 s5 s6 s7 s8 s9 s10 K E) s0 s1 s2 s3 s4 s5 s6 s7 s8 s9 s10 K E
theorem Jx5(k:Nat)(QF:ZQ)(Ur:J1m){R:Type}: ∀(I:Nat->St->Option R) (n:Nat),ZT.lp J6h (Jcm k QF Ur).cx k Tryz.f129 1003 [1,1,0,1,0] I n=J2T k QF Ur n:=ZT.lok J6h (B:=JbQ k QF Ur) (L:=J2T k QF Ur) (fun I=>by kernel_rfl) (fun I=>by kernel_rfl) (fun n=>by kernel_rfl) (fun _ _ _ _=>rfl)
theorem Jyp(k:Nat)(QF:ZQ)(Ur:J1m)(R:Type): ZT.at (Jcm k QF Ur) k Tryz.f129 R=ZT.glue (l:=ZT.ps) (u:=J6h.fs) (fun E1003=>@Jcn k QF Ur R E1003) (ZT.lp J6h (Jcm k QF Ur).cx k Tryz.f129 1003 [1,1,0,1,0] (fun _ _=>none) k):=by kernel_rfl
def JnQ(k:Nat)(QF:ZQ)(Ur:J1m)(J3Y:Jgy)(JJ:UQ)(JR:UP)(JN:UN)(JI:UM)(Qn:J0O)(Qk:Zv)(J7d:Jhy)(J4a:JgY)(QE:J0J): Cxt:=⟨[Jgz.e 65 J3Y,J4U.e 69 JJ,J1Y.e 70 JR,J6z.e 73 JN,J45.e 75 JI,J9y.e 123 Qn,J9m.e 126 Qk,ZT.e 129 QF,JhX.e 204 J7d,J0L.e 206 J4a,Jcj.e 207 QE],[1],[],[(6,(.of [(2,1),(1,1),(0,2),(3,0),(4,0),(5,1),(6,0)] .done)),(16,(.of [(1,1),(2,1),(3,1),(4,1),(5,1),(6,1),(0,2),(7,0),(8,0),(9,1),(10,1),(11,1),(12,0)] .done)),(25,(.of [(5,1),(0,1),(1,1),(2,1),(3,1),(4,1),(6,1),(7,1),(8,0)] .done))]⟩
def Jc5(k:Nat)(QF:ZQ)(Ur:J1m)(J3Y:Jgy)(JJ:UQ)(JR:UP)(JN:UN)(JI:UM)(Qn:J0O)(Qk:Zv)(J7d:Jhy)(J4a:JgY)(QE:J0J){R:Type}(x0:J3)(x1:J7)(x2:J9)(x3:Nat)(x4:Int)(x5 x6:J0)(x7:Bool)(x8 x9:Int)(x10:Bool)(x11:J0)(x12 x13:Int)(x14:Nat)(x15 x16:Bool)(x17 x18:J6)(x19:Int)(K:(J3->J7->J9->Nat->Int->Option R))(E:(J3->J7->J9->Nat->Int->Int->Option R)): Option R:=cond (decide (x19>8)) (JI R x0 x4 8 (fun y24 y25=>E x0 x1 x2 x3 y24 y25)) (cond (decide ((x2.length:Int)≥500)) (JI R x0 x4 9 (fun y24 y25=>E x0 x1 x2 x3 y24 y25)) (JR R x0 x4 [[107,101,121],[118,97,108,117,101],[114,97,116,101,95,108,105,109,105,116],[115,104,97,100,111,119,95,109,111,100,101],[100,101,115,99,114,105,112,116,111,114,115]] (fun y24 y25=>JJ R y24 y25 (fun y26=>JN R x0 x4 [107,101,121] (fun y27=>Qk R x0 y27 (fun y28=>Qn R x0 x4 [118,97,108,117,101] (fun y29 y30=>cond y30 (J7d R x0 y29 (fun y31 y32 y33=>JJ R y32 y33 (fun y34=>J3Y R x18 x0 x1 x2 x3 y28 y31 false x8 x9 x10 x11 x12 x13 x14 x15 x16 x17 (fun y35 y36 y37 y38 y39 y40 y41 y42 y43 y44 y45 y46 y47 y48 y49 y50 y51 y52=>cond y52 (JI R y35 x4 7 (fun y53 y54=>E y35 y36 y37 y38 y53 y54)) (cond (Ju y37.length (@List.length (@Kd.T J5) [(y39,(y40,(y41,(y42,(y43,(y44,((y45,(y46,(y47,(y48,(y49,y50))))),y51)))))))]) 136) (Qn R y35 x4 [114,97,116,101,95,108,105,109,105,116] (fun y53 y54=>cond y54 (J4a R y35 y36 (y37++[(y39,(y40,(y41,(y42,(y43,(y44,((y45,(y46,(y47,(y48,(y49,y50))))),y51)))))))]) y38 y53 (fun y55 y56 y57 y58 y59 y60 y61 y62 y63 y64=>QE R y55 x4 [115,104,97,100,111,119,95,109,111,100,101] (fun y65=>cond (cond y65 (!true) false) (Qn R y55 x4 [115,104,97,100,111,119,95,109,111,100,101] (fun y66 y67=>JI R y55 y66 17 (fun y68 y69=>E y55 y56 y57 y58 y68 y69))) (QF R y55 y56 y57 y58 x4 y42 (y37.length:Int) (IntKind.i64.wrap (x19+1)) (fun y66 y67 y68 y69 y70=>cond (inb (y37.length:Int) (y68.length:Int)) (@SH (@List (@Kd.T J5)) R (List.set y68 (y37.length:Int).toNat (y39,(y40,(y41,(y42,(y43,(true,((y59,(y60,(y61,(y62,(y65,y64))))),y70)))))))) (fun y71=>K y66 y67 y71 y69 (y37.length:Int))) none) E)) (fun y65 y66=>E y55 y56 y57 y58 y65 y66)) E) (QE R y35 x4 [115,104,97,100,111,119,95,109,111,100,101] (fun y55=>cond (cond y55 (!y44) false) (Qn R y35 x4 [115,104,97,100,111,119,95,109,111,100,101] (fun y56 y57=>JI R y35 y56 17 (fun y58 y59=>E y35 y36 (y37++[(y39,(y40,(y41,(y42,(y43,(y44,((y45,(y46,(y47,(y48,(y49,y50))))),y51)))))))]) y38 y58 y59))) (QF R y35 y36 (y37++[(y39,(y40,(y41,(y42,(y43,(y44,((y45,(y46,(y47,(y48,(y49,y50))))),y51)))))))]) y38 x4 y42 (y37.length:Int) (IntKind.i64.wrap (x19+1)) (fun y56 y57 y58 y59 y60=>cond (inb (y37.length:Int) (y58.length:Int)) (@SH (@List (@Kd.T J5)) R (List.set y58 (y37.length:Int).toNat (y39,(y40,(y41,(y42,(y43,(y44,((y45,(y46,(y47,(y48,(y55,y50))))),y60)))))))) (fun y61=>K y56 y57 y61 y59 (y37.length:Int))) none) E)) (fun y55 y56=>E y35 y36 (y37++[(y39,(y40,(y41,(y42,(y43,(y44,((y45,(y46,(y47,(y48,(y49,y50))))),y51)))))))]) y38 y55 y56)))) none))) (fun y34 y35=>E x0 x1 x2 x3 y34 y35))) (J3Y R x18 x0 x1 x2 x3 y28 x6 true x8 x9 x10 x11 x12 x13 x14 x15 x16 x17 (fun y31 y32 y33 y34 y35 y36 y37 y38 y39 y40 y41 y42 y43 y44 y45 y46 y47 y48=>cond y48 (JI R y31 x4 7 (fun y49 y50=>E y31 y32 y33 y34 y49 y50)) (cond (Ju y33.length (@List.length (@Kd.T J5) [(y35,(y36,(y37,(y38,(y39,(y40,((y41,(y42,(y43,(y44,(y45,y46))))),y47)))))))]) 136) (Qn R y31 x4 [114,97,116,101,95,108,105,109,105,116] (fun y49 y50=>cond y50 (J4a R y31 y32 (y33++[(y35,(y36,(y37,(y38,(y39,(y40,((y41,(y42,(y43,(y44,(y45,y46))))),y47)))))))]) y34 y49 (fun y51 y52 y53 y54 y55 y56 y57 y58 y59 y60=>QE R y51 x4 [115,104,97,100,111,119,95,109,111,100,101] (fun y61=>cond (cond y61 (!true) false) (Qn R y51 x4 [115,104,97,100,111,119,95,109,111,100,101] (fun y62 y63=>JI R y51 y62 17 (fun y64 y65=>E y51 y52 y53 y54 y64 y65))) (QF R y51 y52 y53 y54 x4 y38 (y33.length:Int) (IntKind.i64.wrap (x19+1)) (fun y62 y63 y64 y65 y66=>cond (inb (y33.length:Int) (y64.length:Int)) (@SH (@List (@Kd.T J5)) R (List.set y64 (y33.length:Int).toNat (y35,(y36,(y37,(y38,(y39,(true,((y55,(y56,(y57,(y58,(y61,y60))))),y66)))))))) (fun y67=>K y62 y63 y67 y65 (y33.length:Int))) none) E)) (fun y61 y62=>E y51 y52 y53 y54 y61 y62)) E) (QE R y31 x4 [115,104,97,100,111,119,95,109,111,100,101] (fun y51=>cond (cond y51 (!y40) false) (Qn R y31 x4 [115,104,97,100,111,119,95,109,111,100,101] (fun y52 y53=>JI R y31 y52 17 (fun y54 y55=>E y31 y32 (y33++[(y35,(y36,(y37,(y38,(y39,(y40,((y41,(y42,(y43,(y44,(y45,y46))))),y47)))))))]) y34 y54 y55))) (QF R y31 y32 (y33++[(y35,(y36,(y37,(y38,(y39,(y40,((y41,(y42,(y43,(y44,(y45,y46))))),y47)))))))]) y34 x4 y38 (y33.length:Int) (IntKind.i64.wrap (x19+1)) (fun y52 y53 y54 y55 y56=>cond (inb (y33.length:Int) (y54.length:Int)) (@SH (@List (@Kd.T J5)) R (List.set y54 (y33.length:Int).toNat (y35,(y36,(y37,(y38,(y39,(y40,((y41,(y42,(y43,(y44,(y51,y46))))),y56)))))))) (fun y57=>K y52 y53 y57 y55 (y33.length:Int))) none) E)) (fun y51 y52=>E y31 y32 (y33++[(y35,(y36,(y37,(y38,(y39,(y40,((y41,(y42,(y43,(y44,(y45,y46))))),y47)))))))]) y34 y51 y52)))) none))))) (fun y28 y29=>E x0 x1 x2 x3 y28 y29)) (fun y27 y28=>E x0 x1 x2 x3 y27 y28)) (fun y26 y27=>E x0 x1 x2 x3 y26 y27))))
theorem JxF(k:Nat)(QF:ZQ)(Ur:J1m)(J3Y:Jgy)(JJ:UQ)(JR:UP)(JN:UN)(JI:UM)(Qn:J0O)(Qk:Zv)(J7d:Jhy)(J4a:JgY)(QE:J0J)(R:Type): J9i.at (JnQ k QF Ur J3Y JJ JR JN JI Qn Qk J7d J4a QE) k Tryz.f175 R=@Jc5 k QF Ur J3Y JJ JR JN JI Qn Qk J7d J4a QE R:=by kernel_rfl
mutual
def Yj:Nat->ZQ
 |0,_,_,_,_,_,_,_,_,_,_,_=>none
 |k+1,R,x0,x1,x2,x3,x4,x5,x6,x7,K,E=>Jcn k (Yj k) (FR_config_reader_branch k) (fun s0 s1 s2 s3 s4 s5 s6 s7 s8 s9 s10=>J2T k (Yj k) (FR_config_reader_branch k) k s0 s1 s2 s3 s4 s5 s6 s7 s8 s9 s10 K E) x0 x1 x2 x3 x4 x5 x6 x7 K E
def FR_config_reader_branch:Nat->J1m
 |0,_,_,_,_,_,_,_,_,_,_,_,_,_,_,_,_,_,_,_,_,_,_,_=>none
 |k+1,R,x0,x1,x2,x3,x4,x5,x6,x7,x8,x9,x10,x11,x12,x13,x14,x15,x16,x17,x18,x19,K,E=>Jc5 k (Yj k) (FR_config_reader_branch k) (@J3X k) (@Qh k) (@QM k) (@QY k) (@QB k) (@QZ k) (@UO k) (@J36 k) (@J47 k) (@Y0 k) x0 x1 x2 x3 x4 x5 x6 x7 x8 x9 x10 x11 x12 x13 x14 x15 x16 x17 x18 x19 K E
end
def Jco(k:Nat){R:Type}(x0:J3)(x1:J7)(x2:J9)(x3:Nat)(x4 x5 x6 x7:Int)(K:(J3->J7->J9->Nat->J6->Option R))(E:(J3->J7->J9->Nat->Int->Int->Option R)): Option R:=Yj k R x0 x1 x2 x3 x4 x5 x6 x7 K E
theorem Jy0(k:Nat): DOK Tryz.prog 129 (ZT.run (Yj k))∧DOK Tryz.prog 175 (J9i.run (FR_config_reader_branch k)):=by
 induction k with
 |zero=>exact⟨ZT.ok0 fun R=>by kernel_rfl,J9i.ok0 fun R=>by kernel_rfl⟩
 |succ k ih =>
  obtain⟨ih_config_reader_list,ih_config_reader_branch⟩:=ih
  exact⟨dok ZT (Jcm k (Yj k) (FR_config_reader_branch k)) Tryz.f129 k (ok1 (JnW k) (ok1 ih_config_reader_branch ok0)) (by kernel_rfl) (by kernel_rfl) fun R=>ZT.f1 J6h (Jcn k (Yj k) (FR_config_reader_branch k)) (Jyp k (Yj k) (FR_config_reader_branch k) R) (Jx5 k (Yj k) (FR_config_reader_branch k) (fun _ _=>none) k) (by kernel_rfl),dok J9i (JnQ k (Yj k) (FR_config_reader_branch k) (@J3X k) (@Qh k) (@QM k) (@QY k) (@QB k) (@QZ k) (@UO k) (@J36 k) (@J47 k) (@Y0 k)) Tryz.f175 k (ok1 (JwL k) (ok1 (J2b k) (ok1 (JcV k) (ok1 (Jck k) (ok1 (J9j k) (ok1 (J73 k) (ok1 (Jh5 k) (ok1 ih_config_reader_list (ok1 (JA5 k) (ok1 (Jyo k) (ok1 (Jo1 k) ok0))))))))))) (by kernel_rfl) (by kernel_rfl) fun R=>JxF k (Yj k) (FR_config_reader_branch k) (@J3X k) (@Qh k) (@QM k) (@QY k) (@QB k) (@QZ k) (@UO k) (@J36 k) (@J47 k) (@Y0 k) R⟩
theorem Jyq(k:Nat): DOK Tryz.prog 129 (ZT.run (@Jco k)):=(Jy0 k).1
end
def JgQ:Sh:=⟨[.g [.a .str,.s kI],.o 11 9 0 [.a .str]],some ([.o 11 9 0 [.a .str]],[.a .bool]),none⟩
def Jxo(k:Nat): Cxt:=⟨[],[11],[],[]⟩
def JnJ(k:Nat){R:Type}(x0:J0)(x1:J6)(x2:J0)(K:(J0->Bool->Option R)): Option R:=K x2 (x0 == x2)
def JbT:=@JnJ
theorem Jxp(k:Nat): DOK Tryz.prog 128 (JgQ.run (@JbT k)):=dok JgQ (Jxo k) Tryz.f128 k ok0 (by kernel_rfl) (by kernel_rfl) fun R=>by kernel_rfl
def Jxq(k:Nat): Ent:=JgQ.e 128 (@JbT k)
def J67:Sh:=⟨[.s (.pr .str (.sl kI)),.c 128 [.o 300 9 0 [.a .str]]],some ([.o 300 9 0 [.a .str]],[.a kI]),none⟩
def Jbx:Cu:=⟨1,[0,1,7,8],[.o 300 9 0 [.a .str],.s (.pr .str (.sl kI)),.c 128 [.r 300 0],.a kI,.a kI]⟩
def Jnu(k:Nat): Cxt:=⟨[Jxq k],[300],[(1002,Jbx.spec)],[]⟩
def Jby(k:Nat){R:Type}(E1002:(J0->J7->Int->Int->Option R))(s0:J0)(s1:J7)(s2 s3:Int)(K:(J0->Int->Option R)): Option R:=cond (decide (s3<s2)) (cond (inb s3 (s1.length:Int)) (JbT k (s1.getD s3.toNat (Kd.zero (@Kd.pr Kd.str (@Kd.sl kI)))).1 (s1.getD s3.toNat (Kd.zero (@Kd.pr Kd.str (@Kd.sl kI)))).2 s0 (fun y8 y9=>cond y9 (K y8 s3) (E1002 y8 s1 s2 (IntKind.i64.wrap (s3+1))))) none) (K s0 (-(1:Int)))
def Jgx(k:Nat){R:Type}(E1002:(J0->J7->Int->Int->Option R))(x0:J7)(x1:J0)(K:(J0->Int->Option R)): Option R:=E1002 x1 x0 (x0.length:Int) 0
def J3U(k:Nat){R:Type}: Nat->J0->J7->Int->Int->(J0->Int->Option R)->Option R
 |0,_,_,_,_,_=>none
 |n+1,s0,s1,s2,s3,K=>Jby k (fun s0 s1 s2 s3=>J3U k n s0 s1 s2 s3 K) s0 s1 s2 s3 K
theorem JwC(k:Nat){R:Type}: ∀(I:Nat->St->Option R) (n:Nat),J67.lp Jbx (Jnu k).cx k Tryz.f174 1002 [1,0,1,0] I n=J3U k n:=J67.lok Jbx (B:=Jby k) (L:=J3U k) (fun I=>by kernel_rfl) (fun I=>by kernel_rfl) (fun n=>by kernel_rfl) (fun _ _ _ _=>rfl)
def Jbz(k:Nat){R:Type}(x0:J7)(x1:J0)(K:(J0->Int->Option R)): Option R:=Jgx k (fun s0 s1 s2 s3=>J3U k k s0 s1 s2 s3 K) x0 x1 K
theorem JwF(k:Nat): DOK Tryz.prog 174 (J67.run (@Jbz k)):=dok J67 (Jnu k) Tryz.f174 k (ok1 (Jxp k) ok0) (by kernel_rfl) (by kernel_rfl) fun R=>J67.f1 Jbx (Jgx k) (by kernel_rfl) (JwC k (fun _ _=>none) k) (by kernel_rfl)
def JwG(k:Nat): Ent:=J67.e 174 (@Jbz k)
def Jgw:Sh:=⟨[.s (.pr .str (.sl kI)),.c 128 [.o 300 9 0 [.a .str]]],some ([.o 300 9 0 [.a .str]],[.a .bool]),none⟩
abbrev Jgv:Type 1:=(R:Type)->J7->J0->(J0->Bool->Option R)->Option R
def JwD(k:Nat): Cxt:=⟨[JwG k],[300],[],[]⟩
def Jnt(k:Nat){R:Type}(x0:J7)(x1:J0)(K:(J0->Bool->Option R)): Option R:=Jbz k x0 x1 (fun y5 y6=>K y5 (decide (y6≥0)))
def J65:=@Jnt
theorem JwE(k:Nat): DOK Tryz.prog 127 (Jgw.run (@J65 k)):=dok Jgw (JwD k) Tryz.f127 k (ok1 (JwF k) ok0) (by kernel_rfl) (by kernel_rfl) fun R=>by kernel_rfl
def Jc6:Sh:=⟨[.o 1 79 0 [.s J4,.w 21 64 (.pr .str (.sl kI)),.w 51 57 J5,.a .flt],.a kI],some ([.o 1 79 0 [.s J4,.w 21 64 (.pr .str (.sl kI)),.w 51 57 J5,.a .flt]],[]),some ([.o 1 79 0 [.s J4,.w 21 64 (.pr .str (.sl kI)),.w 51 57 J5,.a .flt]],[.i 29 (.g [.a kI,.a kI])])⟩
abbrev J6o:Type 1:=(R:Type)->J3->J7->J9->Nat->Int->(J3->J7->J9->Nat->Option R)->(J3->J7->J9->Nat->Int->Int->Option R)->Option R
def JnR(k:Nat)(JJ:UQ)(JR:UP)(JN:UN)(JI:UM)(Qk:Zv)(J66:Jgv)(QF:ZQ): Cxt:=⟨[J4U.e 69 JJ,J1Y.e 70 JR,J6z.e 73 JN,J45.e 75 JI,J9m.e 126 Qk,Jgw.e 127 J66,ZT.e 129 QF],[1],[],[(5,(.of [(0,1),(1,1),(2,1),(3,1),(4,1),(5,1),(6,1),(7,1),(8,0),(9,0),(10,1),(11,1),(12,1),(13,0)] .done)),(7,(.of [(0,1),(1,1),(2,1),(3,1),(5,1),(6,1),(7,1),(8,1),(12,1),(4,1),(9,1),(10,1),(11,1),(13,1),(14,1),(15,0)] .done))]⟩
def JgV(k:Nat)(JJ:UQ)(JR:UP)(JN:UN)(JI:UM)(Qk:Zv)(J66:Jgv)(QF:ZQ){R:Type}(x0:J3)(x1:J7)(x2:J9)(x3:Nat)(x4:Int)(K:(J3->J7->J9->Nat->Option R))(E:(J3->J7->J9->Nat->Int->Int->Option R)): Option R:=JR R x0 x4 [[100,111,109,97,105,110],[100,101,115,99,114,105,112,116,111,114,115]] (fun y9 y10=>JJ R y9 y10 (fun y11=>JN R x0 x4 [100,111,109,97,105,110] (fun y12=>Qk R x0 y12 (fun y13=>J66 R x1 y13 (fun y14 y15=>cond y15 (JI R x0 y12 7 (fun y16 y17=>E x0 x1 x2 x3 y16 y17)) (cond (Ju x1.length (@List.length (@Kd.T (@Kd.pr Kd.str (@Kd.sl kI))) [(y14,[])]) 40) (QF R x0 (x1++[(y14,[])]) x2 x3 x4 (IntKind.i64.wrap (((x1++[(y14,[])]).length:Int)-1)) (-(1:Int)) 1 (fun y16 y17 y18 y19 y20=>cond (inb (IntKind.i64.wrap ((y17.length:Int)-1)) (y17.length:Int)) (@SH (@List (@Kd.T (@Kd.pr Kd.str (@Kd.sl kI)))) R (List.set y17 (IntKind.i64.wrap ((y17.length:Int)-1)).toNat ((y17.getD (IntKind.i64.wrap ((y17.length:Int)-1)).toNat (Kd.zero (@Kd.pr Kd.str (@Kd.sl kI)))).1,y20)) (fun y21=>K y16 y21 y18 y19)) none) E) none))) (fun y13 y14=>E x0 x1 x2 x3 y13 y14)) (fun y12 y13=>E x0 x1 x2 x3 y12 y13)) (fun y11 y12=>E x0 x1 x2 x3 y11 y12))
theorem JxG(k:Nat)(JJ:UQ)(JR:UP)(JN:UN)(JI:UM)(Qk:Zv)(J66:Jgv)(QF:ZQ)(R:Type): Jc6.at (JnR k JJ JR JN JI Qk J66 QF) k Tryz.f76 R=@JgV k JJ JR JN JI Qk J66 QF R:=by kernel_rfl
def J0I(k:Nat){R:Type}:= @JgV k (@Qh k) (@QM k) (@QY k) (@QB k) (@UO k) (@J65 k) (@Jco k) R
theorem JxH(k:Nat): DOK Tryz.prog 76 (Jc6.run (@J0I k)):=dok Jc6 (JnR k (@Qh k) (@QM k) (@QY k) (@QB k) (@UO k) (@J65 k) (@Jco k)) Tryz.f76 k (ok1 (J2b k) (ok1 (JcV k) (ok1 (Jck k) (ok1 (J9j k) (ok1 (Jh5 k) (ok1 (JwE k) (ok1 (Jyq k) ok0))))))) (by kernel_rfl) (by kernel_rfl) fun R=>JxG k (@Qh k) (@QM k) (@QY k) (@QB k) (@UO k) (@J65 k) (@Jco k) R
def J0M:Sh:=⟨[.o 1 79 0 [.s J4,.w 21 64 (.pr .str (.sl kI)),.w 51 57 J5,.a .flt]],some ([.o 1 79 0 [.s J4,.w 21 64 (.pr .str (.sl kI)),.w 51 57 J5,.a .flt]],[]),some ([.o 1 79 0 [.s J4,.w 21 64 (.pr .str (.sl kI)),.w 51 57 J5,.a .flt]],[.i 29 (.g [.a kI,.a kI])])⟩
def J6i:Cu:=⟨1,[0,30,31,32],[.o 1 79 0 [.s J4,.w 21 64 (.pr .str (.sl kI)),.w 51 57 J5,.a .flt],.r 1 0,.s kI,.a kI,.a kI]⟩
def Jcp(k:Nat)(JJ:UQ)(JR:UP)(JP:Ym)(Qf:Zu)(JN:UN)(YK:J6s)(JI:UM)(YJ:J6o): Cxt:=⟨[J4U.e 69 JJ,J1Y.e 70 JR,J7z.e 71 JP,Jcb.e 72 Qf,J6z.e 73 JN,Jca.e 74 YK,J45.e 75 JI,Jc6.e 76 YJ],[1],[(1005,J6i.spec)],[]⟩
def JbR(k:Nat)(JJ:UQ)(JR:UP)(JP:Ym)(Qf:Zu)(JN:UN)(YK:J6s)(JI:UM)(YJ:J6o){R:Type}(E1005:(J3->J7->J9->Nat->J6->Int->Int->Option R))(s0:J3)(s1:J7)(s2:J9)(s3:Nat)(s4:J6)(s5 s6:Int)(K:(J3->J7->J9->Nat->Option R))(E:(J3->J7->J9->Nat->Int->Int->Option R)): Option R:=cond (decide (s6<s5)) (cond (inb s6 (s4.length:Int)) (cond (decide (s6≥16)) (JI R s0 (s4.getD s6.toNat kI.zero) 9 (fun y12 y13=>E s0 s1 s2 s3 y12 y13)) (YJ R s0 s1 s2 s3 (s4.getD s6.toNat kI.zero) (fun y12 y13 y14 y15=>E1005 y12 y13 y14 y15 s4 s5 (IntKind.i64.wrap (s6+1))) E)) none) (K s0 s1 s2 s3)
def Jcq(k:Nat)(JJ:UQ)(JR:UP)(JP:Ym)(Qf:Zu)(JN:UN)(YK:J6s)(JI:UM)(YJ:J6o){R:Type}(E1005:(J3->J7->J9->Nat->J6->Int->Int->Option R))(x0:J3)(x1:J7)(x2:J9)(x3:Nat)(K:(J3->J7->J9->Nat->Option R))(E:(J3->J7->J9->Nat->Int->Int->Option R)): Option R:=JR R x0 0 [[110,101,97,114],[100,111,109,97,105,110,115]] (fun y9 y10=>JJ R y9 y10 (fun y11=>JP R [48,46,56] (fun y12 y13=>Qf R x0 0 [110,101,97,114] y12 (fun y14=>JN R x0 0 [100,111,109,97,105,110,115] (fun y15=>YK R x0 0 [100,111,109,97,105,110,115] (fun y16=>E1005 x0 x1 x2 y14 y16 (y16.length:Int) 0) (fun y16 y17=>E x0 x1 x2 y14 y16 y17)) (fun y15 y16=>E x0 x1 x2 y14 y15 y16)) (fun y14 y15=>E x0 x1 x2 y12 y14 y15))) (fun y11 y12=>E x0 x1 x2 x3 y11 y12))
def J2U(k:Nat)(JJ:UQ)(JR:UP)(JP:Ym)(Qf:Zu)(JN:UN)(YK:J6s)(JI:UM)(YJ:J6o){R:Type}: Nat->J3->J7->J9->Nat->J6->Int->Int->(J3->J7->J9->Nat->Option R)->(J3->J7->J9->Nat->Int->Int->Option R)->Option R
 |0,_,_,_,_,_,_,_,_,_=>none
 |n+1,s0,s1,s2,s3,s4,s5,s6,K,E=>JbR k JJ JR JP Qf JN YK JI YJ (fun s0 s1 s2 s3 s4 s5 s6=>J2U k JJ JR JP Qf JN YK JI YJ n s0 s1 s2 s3 s4 s5 s6 K E) s0 s1 s2 s3 s4 s5 s6 K E
theorem Jx6(k:Nat)(JJ:UQ)(JR:UP)(JP:Ym)(Qf:Zu)(JN:UN)(YK:J6s)(JI:UM)(YJ:J6o){R:Type}: ∀(I:Nat->St->Option R) (n:Nat),J0M.lp J6i (Jcp k JJ JR JP Qf JN YK JI YJ).cx k Tryz.f37 1005 [1,1,1,1,1,0] I n=J2U k JJ JR JP Qf JN YK JI YJ n:=J0M.lok J6i (B:=JbR k JJ JR JP Qf JN YK JI YJ) (L:=J2U k JJ JR JP Qf JN YK JI YJ) (fun I=>by kernel_rfl) (fun I=>by kernel_rfl) (fun n=>by kernel_rfl) (fun _ _ _ _=>rfl)
theorem Jyr(k:Nat)(JJ:UQ)(JR:UP)(JP:Ym)(Qf:Zu)(JN:UN)(YK:J6s)(JI:UM)(YJ:J6o)(R:Type): J0M.at (Jcp k JJ JR JP Qf JN YK JI YJ) k Tryz.f37 R=J0M.glue (l:=J0M.ps) (u:=J6i.fs) (fun E1005=>@Jcq k JJ JR JP Qf JN YK JI YJ R E1005) (J0M.lp J6i (Jcp k JJ JR JP Qf JN YK JI YJ).cx k Tryz.f37 1005 [1,1,1,1,1,0] (fun _ _=>none) k):=by kernel_rfl
def J9o(k:Nat){R:Type}(x0:J3)(x1:J7)(x2:J9)(x3:Nat)(K:(J3->J7->J9->Nat->Option R))(E:(J3->J7->J9->Nat->Int->Int->Option R)): Option R:=Jcq k (@Qh k) (@QM k) (@Ui k) (@Us k) (@QY k) (@ZP k) (@QB k) (@J0I k) (fun s0 s1 s2 s3 s4 s5 s6=>J2U k (@Qh k) (@QM k) (@Ui k) (@Us k) (@QY k) (@ZP k) (@QB k) (@J0I k) k s0 s1 s2 s3 s4 s5 s6 K E) x0 x1 x2 x3 K E
theorem Jys(k:Nat): DOK Tryz.prog 37 (J0M.run (@J9o k)):=dok J0M (Jcp k (@Qh k) (@QM k) (@Ui k) (@Us k) (@QY k) (@ZP k) (@QB k) (@J0I k)) Tryz.f37 k (ok1 (J2b k) (ok1 (JcV k) (ok1 (Jj4 k) (ok1 (JnY k) (ok1 (Jck k) (ok1 (JnW k) (ok1 (J9j k) (ok1 (JxH k) ok0)))))))) (by kernel_rfl) (by kernel_rfl) fun R=>J0M.f1 J6i (Jcq k (@Qh k) (@QM k) (@Ui k) (@Us k) (@QY k) (@ZP k) (@QB k) (@J0I k)) (Jyr k (@Qh k) (@QM k) (@Ui k) (@Us k) (@QY k) (@ZP k) (@QB k) (@J0I k) R) (Jx6 k (@Qh k) (@QM k) (@Ui k) (@Us k) (@QY k) (@ZP k) (@QB k) (@J0I k) (fun _ _=>none) k) (by kernel_rfl)
def JkH:Sh:=⟨[.a (.int .u8)],some ([],[.a .bool]),none⟩
def JFO(k:Nat): Cxt:=⟨[],[],[],[]⟩
def Jsr(k:Nat){R:Type}(x0:Int)(K:(Bool->Option R)): Option R:=K (cond (cond (cond (cond (cond (cond (decide (x0≥97)) (decide (x0≤122)) false) true (cond (decide (x0≥65)) (decide (x0≤90)) false)) true (cond (decide (x0≥48)) (decide (x0≤57)) false)) true (x0 == 95)) true (x0 == 45)) true (x0 == 46))
def Jal:=@Jsr
theorem JFP(k:Nat): DOK Tryz.prog 235 (JkH.run (@Jal k)):=dok JkH (JFO k) Tryz.f235 k ok0 (by kernel_rfl) (by kernel_rfl) fun R=>by kernel_rfl
def JFQ(k:Nat): Ent:=JkH.e 235 (@Jal k)
def J84:Sh:=⟨[.a .str],some ([],[.a .bool]),none⟩
def JdC:Cu:=⟨0,[0,5,6],[.a .str,.a kI,.a kI]⟩
def JrH(k:Nat): Cxt:=⟨[JFQ k],[],[(1002,JdC.spec)],[]⟩
def JdD(k:Nat){R:Type}(E1002:(J0->Int->Int->Option R))(s0:J0)(s1 s2:Int)(K:(Bool->Option R)): Option R:=cond (decide (s2<s1)) (cond (inb s2 (s0.length:Int)) (Jal k ((s0.getD s2.toNat 0).toNat:Int) (fun y7=>cond (!y7) (K false) (E1002 s0 s1 (IntKind.i64.wrap (s2+1))))) none) (K (!(s0 == [])))
def Jkd(k:Nat){R:Type}(E1002:(J0->Int->Int->Option R))(x0:J0)(K:(Bool->Option R)): Option R:=E1002 x0 (x0.length:Int) 0
def J4F(k:Nat){R:Type}: Nat->J0->Int->Int->(Bool->Option R)->Option R
 |0,_,_,_,_=>none
 |n+1,s0,s1,s2,K=>JdD k (fun s0 s1 s2=>J4F k n s0 s1 s2 K) s0 s1 s2 K
theorem JyV(k:Nat){R:Type}: ∀(I:Nat->St->Option R) (n:Nat),J84.lp JdC (JrH k).cx k Tryz.f202 1002 [1,0,1,0] I n=J4F k n:=J84.lok JdC (B:=JdD k) (L:=J4F k) (fun I=>by kernel_rfl) (fun I=>by kernel_rfl) (fun n=>by kernel_rfl) (fun _ _ _ _=>rfl)
def J85(k:Nat){R:Type}(x0:J0)(K:(Bool->Option R)): Option R:=Jkd k (fun s0 s1 s2=>J4F k k s0 s1 s2 K) x0 K
theorem JrI(k:Nat): DOK Tryz.prog 202 (J84.run (@J85 k)):=dok J84 (JrH k) Tryz.f202 k (ok1 (JFP k) ok0) (by kernel_rfl) (by kernel_rfl) fun R=>J84.f1 JdC (Jkd k) (by kernel_rfl) (JyV k (fun _ _=>none) k) (by kernel_rfl)
def JrJ(k:Nat): Ent:=J84.e 202 (@J85 k)
def J7P:Sh:=⟨[.s .str],some ([],[.a .bool]),none⟩
def Jde:Cu:=⟨0,[3,7,8,9],[.m 73 .one .bool,.s .str,.a kI,.a kI]⟩
def JqP(k:Nat): Cxt:=⟨[JrJ k],[],[(1003,Jde.spec)],[]⟩
def Jdf(k:Nat){R:Type}(E1003:((List (List UInt8×Bool))->Jt->Int->Int->Option R))(s0:(List (List UInt8×Bool)))(s1:Jt)(s2 s3:Int)(K:(Bool->Option R)): Option R:=cond (decide (s3<s2)) (cond (inb s3 (s1.length:Int)) (J85 k (s1.getD s3.toNat Kd.str.zero) (fun y8=>cond ((cond (!y8) true (decide (((s1.getD s3.toNat Kd.str.zero).length:Int)>64))) == false) (cond (Yv Kd.bool (s1.getD s3.toNat Kd.str.zero) s0) (K false) (E1003 (Z2 Kd.bool (s1.getD s3.toNat Kd.str.zero) true s0) s1 s2 (IntKind.i64.wrap (s3+1)))) (K false))) none) (K true)
def JjF(k:Nat){R:Type}(E1003:((List (List UInt8×Bool))->Jt->Int->Int->Option R))(x0:Jt)(K:(Bool->Option R)): Option R:=E1003 [] x0 (x0.length:Int) 0
def J4t(k:Nat){R:Type}: Nat->(List (List UInt8×Bool))->Jt->Int->Int->(Bool->Option R)->Option R
 |0,_,_,_,_,_=>none
 |n+1,s0,s1,s2,s3,K=>Jdf k (fun s0 s1 s2 s3=>J4t k n s0 s1 s2 s3 K) s0 s1 s2 s3 K
theorem Jyt(k:Nat){R:Type}: ∀(I:Nat->St->Option R) (n:Nat),J7P.lp Jde (JqP k).cx k Tryz.f165 1003 [1,1,0,1,0] I n=J4t k n:=J7P.lok Jde (B:=Jdf k) (L:=J4t k) (fun I=>by kernel_rfl) (fun I=>by kernel_rfl) (fun n=>by kernel_rfl) (fun _ _ _ _=>rfl)
def Ja3(k:Nat){R:Type}(x0:Jt)(K:(Bool->Option R)): Option R:=JjF k (fun s0 s1 s2 s3=>J4t k k s0 s1 s2 s3 K) x0 K
theorem JDC(k:Nat): DOK Tryz.prog 165 (J7P.run (@Ja3 k)):=dok J7P (JqP k) Tryz.f165 k (ok1 (JrI k) ok0) (by kernel_rfl) (by kernel_rfl) fun R=>J7P.f1 Jde (JjF k) (by kernel_rfl) (Jyt k (fun _ _=>none) k) (by kernel_rfl)
def JDD(k:Nat): Ent:=J7P.e 165 (@Ja3 k)
def Jq4:List LS:=[.obj 1 [.sl (.pr (.int .i64) (.pr (.int .i64) (.pr (.int .i64) (.pr .str .bool))))],.obj 2 [.any,.any]]
def Jq5(k:Nat): CTab:=CTab.nil
noncomputable def Jia{R:Type}(K:((List QS)->Int->Int->Option R)): Out->Option R
 |.ret [] [(1,.var 110 [.v (.sl (.pr (.int .i64) (.pr (.int .i64) (.pr (.int .i64) (.pr .str .bool))))) y0]),(2,.var 29 [.v (.int .i64) y1,.v (.int .i64) y2])]=>K y0 y1 y2
 |_=>none
def Jpm:RetSpec:=⟨[],[(1,.obj 1 [.sl (.pr (.int .i64) (.pr (.int .i64) (.pr (.int .i64) (.pr .str .bool))))]),(2,.obj 2 [.any,.any])],[]⟩
def JAw:List (Nat×CutSpec):=[]
def JA6:List (Nat×Plan):=[(7,(.of [(0,2),(1,0),(2,0)] .done))]
def JiG(k:Nat): Ctx:=⟨tyT,JAw,Jq5 k,[],[1,2],JA6,@SH⟩
def JdE:Code:=Tryz.f149.body.getD .skip
def Jj9(k:Nat){R:Type}(x0:(List QS))(x1 x2:Int)(K:((List QS)->Int->Int->Option R)): Option R:=K x0 x1 x2
theorem JAx(k:Nat){R:Type}(I:Nat->St->Option R)(x0:(List QS))(x1 x2:Int)(K:((List QS)->Int->Int->Option R)): ZK (JiG k) k (at_ [1] JdE) 12 [] Jpm [.ptr 1 0,.ptr 2 0] 5 (.nilif) [(1,.var 110 [.v (.sl (.pr (.int .i64) (.pr (.int .i64) (.pr (.int .i64) (.pr .str .bool))))) x0]),(2,.var 29 [.v (.int .i64) x1,.v (.int .i64) x2])] (Jia K)=Jj9 k x0 x1 x2 K:=by kernel_rfl
def J9N(k:Nat){R:Type}(x0:(List QS))(x1 x2:Int)(K:((List QS)->Int->Int->Option R)): Option R:=Jj9 k x0 x1 x2 K
theorem JAy(k:Nat){R:Type}(x0:(List QS))(x1 x2:Int)(K:((List QS)->Int->Int->Option R)): ZK (JiG k) k (at_ [1] JdE) 12 [] Jpm [.ptr 1 0,.ptr 2 0] 5 (.nilif) [(1,.var 110 [.v (.sl (.pr (.int .i64) (.pr (.int .i64) (.pr (.int .i64) (.pr .str .bool))))) x0]),(2,.var 29 [.v (.int .i64) x1,.v (.int .i64) x2])] (Jia K)=J9N k x0 x1 x2 K:=by
 exact JAx k (fun _ _=>none) x0 x1 x2 K
noncomputable def Jp2(k:Nat){R:Type}: PV->List PV->List (Nm×HObj)->(Out->Option R)->Option R
 |.nilif,[.ptr 1 0,.ptr 2 0],[(1,.var 110 [.v (.sl (.pr (.int .i64) (.pr (.int .i64) (.pr (.int .i64) (.pr .str .bool))))) x0]),(2,.var 29 [.v (.int .i64) x1,.v (.int .i64) x2])],K=>J9N k x0 x1 x2 (fun y0 y1 y2=>K (.ret [] [(1,.var 110 [.v (.sl (.pr (.int .i64) (.pr (.int .i64) (.pr (.int .i64) (.pr .str .bool))))) y0]),(2,.var 29 [.v (.int .i64) y1,.v (.int .i64) y2])]))
 |_,_,_,_=>none
theorem JAz(k:Nat): (Jq5 k).Ok Tryz.prog:=CTab.nil_ok
theorem JBA(k:Nat){rec:PV}{ps:List PV}{hp:List (Nm×HObj)}{R:Type}{K:Out->Option R}{r:R}(h:Jp2 k rec ps hp K=some r): DoesToD Tryz.prog 149 rec ps hp fun out=>K out=some r:=by
 unfold Jp2 at h
 split at h
 ·rw[←JAy]at h
  have:=J8C (P:=Tryz.prog) (cx:=JiG k) (f:=149) ⟨J18,JAz k,fun _ _=>rfl⟩ (by kernel_rfl) (fn:=Tryz.f149) (id:=0) (ops:=Zk (at_ [0] JdE)) (c:=at_ [1] JdE) (by kernel_rfl) (by kernel_rfl) (by kernel_rfl) (rs:=[]) (by kernel_rfl) (by kernel_rfl) h
  exact this.mono fun out ho=>by
   unfold Jia at ho
   split at ho<;>first|exact ho|cases ho
 ·cases h
def Jq6(k:Nat): CTab:=CTab.nil
noncomputable def Jib{R:Type}(K:((List QS)->Int->Int->Option R)): Out->Option R
 |.ret [] [(1,.var 110 [.v (.sl (.pr (.int .i64) (.pr (.int .i64) (.pr (.int .i64) (.pr .str .bool))))) y0]),(2,.var 29 [.v (.int .i64) y1,.v (.int .i64) y2])]=>K y0 y1 y2
 |_=>none
def Jpn:RetSpec:=⟨[],[(1,.obj 1 [.sl (.pr (.int .i64) (.pr (.int .i64) (.pr (.int .i64) (.pr .str .bool))))]),(2,.obj 2 [.any,.any])],[]⟩
def JAA:List (Nat×CutSpec):=[]
def JA7:List (Nat×Plan):=[(7,(.of [(0,2),(1,0),(2,0)] .done))]
def JiH(k:Nat): Ctx:=⟨tyT,JAA,Jq6 k,[],[1,2],JA7,@SH⟩
def JdF:Code:=Tryz.f149.body.getD .skip
def Jja(k:Nat){R:Type}(x0:(List QS))(x1 x2 x3 x4:Int)(K:((List QS)->Int->Int->Option R)): Option R:=K [] x3 x4
theorem JAB(k:Nat){R:Type}(I:Nat->St->Option R)(x0:(List QS))(x1 x2 x3 x4:Int)(K:((List QS)->Int->Int->Option R)): ZK (JiH k) k (at_ [1] JdF) 12 [] Jpn [.ptr 1 0,.ptr 2 0] 5 (.ifc 29 (.agg [.v (.int .i64) x3,.v (.int .i64) x4])) [(1,.var 110 [.v (.sl (.pr (.int .i64) (.pr (.int .i64) (.pr (.int .i64) (.pr .str .bool))))) x0]),(2,.var 29 [.v (.int .i64) x1,.v (.int .i64) x2])] (Jib K)=Jja k x0 x1 x2 x3 x4 K:=by kernel_rfl
def J9O(k:Nat){R:Type}(x0:(List QS))(x1 x2 x3 x4:Int)(K:((List QS)->Int->Int->Option R)): Option R:=Jja k x0 x1 x2 x3 x4 K
theorem JAC(k:Nat){R:Type}(x0:(List QS))(x1 x2 x3 x4:Int)(K:((List QS)->Int->Int->Option R)): ZK (JiH k) k (at_ [1] JdF) 12 [] Jpn [.ptr 1 0,.ptr 2 0] 5 (.ifc 29 (.agg [.v (.int .i64) x3,.v (.int .i64) x4])) [(1,.var 110 [.v (.sl (.pr (.int .i64) (.pr (.int .i64) (.pr (.int .i64) (.pr .str .bool))))) x0]),(2,.var 29 [.v (.int .i64) x1,.v (.int .i64) x2])] (Jib K)=J9O k x0 x1 x2 x3 x4 K:=by
 exact JAB k (fun _ _=>none) x0 x1 x2 x3 x4 K
noncomputable def Jp3(k:Nat){R:Type}: PV->List PV->List (Nm×HObj)->(Out->Option R)->Option R
 |.ifc 29 (.agg [.v (.int .i64) x3,.v (.int .i64) x4]),[.ptr 1 0,.ptr 2 0],[(1,.var 110 [.v (.sl (.pr (.int .i64) (.pr (.int .i64) (.pr (.int .i64) (.pr .str .bool))))) x0]),(2,.var 29 [.v (.int .i64) x1,.v (.int .i64) x2])],K=>J9O k x0 x1 x2 x3 x4 (fun y0 y1 y2=>K (.ret [] [(1,.var 110 [.v (.sl (.pr (.int .i64) (.pr (.int .i64) (.pr (.int .i64) (.pr .str .bool))))) y0]),(2,.var 29 [.v (.int .i64) y1,.v (.int .i64) y2])]))
 |_,_,_,_=>none
theorem JAD(k:Nat): (Jq6 k).Ok Tryz.prog:=CTab.nil_ok
theorem JBB(k:Nat){rec:PV}{ps:List PV}{hp:List (Nm×HObj)}{R:Type}{K:Out->Option R}{r:R}(h:Jp3 k rec ps hp K=some r): DoesToD Tryz.prog 149 rec ps hp fun out=>K out=some r:=by
 unfold Jp3 at h
 split at h
 ·rw[←JAC]at h
  have:=J8C (P:=Tryz.prog) (cx:=JiH k) (f:=149) ⟨J18,JAD k,fun _ _=>rfl⟩ (by kernel_rfl) (fn:=Tryz.f149) (id:=0) (ops:=Zk (at_ [0] JdF)) (c:=at_ [1] JdF) (by kernel_rfl) (by kernel_rfl) (by kernel_rfl) (rs:=[]) (by kernel_rfl) (by kernel_rfl) h
  exact this.mono fun out ho=>by
   unfold Jib at ho
   split at ho<;>first|exact ho|cases ho
 ·cases h
def Jhf:Sh:=⟨[.a .str,.a .str],some ([],[.a .bool]),none⟩
def JyW(k:Nat): Cxt:=⟨[Jop k],[],[],[]⟩
def Jo8(k:Nat){R:Type}(x0 x1:J0)(K:(Bool->Option R)): Option R:=J70 k x0 x1 K
def JcA:=@Jo8
theorem JyX(k:Nat): DOK Tryz.prog 41 (Jhf.run (@JcA k)):=dok Jhf (JyW k) Tryz.f41 k (ok1 (Joo k) ok0) (by kernel_rfl) (by kernel_rfl) fun R=>by kernel_rfl
def JyY(k:Nat): Ent:=Jhf.e 41 (@JcA k)
def JeX:Sh:=⟨[.a .str],some ([],[.a .bool]),none⟩
abbrev Jke:Type 1:=(R:Type)->J0->(Bool->Option R)->Option R
def JFR(k:Nat): Cxt:=⟨[JyY k],[],[],[]⟩
def Jss(k:Nat){R:Type}(x0:J0)(K:(Bool->Option R)): Option R:=cond ((x0 == [(45:UInt8)]) == false) (JcA k x0 [45,32] K) (K true)
def J3o:=@Jss
theorem Jst(k:Nat): DOK Tryz.prog 193 (JeX.run (@J3o k)):=dok JeX (JFR k) Tryz.f193 k (ok1 (JyX k) ok0) (by kernel_rfl) (by kernel_rfl) fun R=>by kernel_rfl
def JFS(k:Nat): Ent:=JeX.e 193 (@J3o k)
def Jf6:Sh:=⟨[.a .str],some ([],[.a .str]),none⟩
abbrev JkI:Type 1:=(R:Type)->J0->(J0->Option R)->Option R
def JGQ(k:Nat): Cxt:=⟨[JCd k,JrJ k],[],[],[]⟩
def Jth(k:Nat){R:Type}(x0:J0)(K:(J0->Option R)): Option R:=J3d k x0 58 (fun y4 y5 y6=>cond ((!y6) == false) (J85 k y4 (fun y7=>cond ((!(((!y7) == false)&&((!(y5 == [])) == true))) || (inb 0 (y5.length:Int))) (cond (cond (!y7) true (cond (!(y5 == [])) (((y5.getD (Int.toNat 0) 0).toNat:Int) != 32) false)) (K []) (K y4)) none)) (K []))
def J2o:=@Jth
theorem Jti(k:Nat): DOK Tryz.prog 195 (Jf6.run (@J2o k)):=dok Jf6 (JGQ k) Tryz.f195 k (ok1 (Jq1 k) (ok1 (JrI k) ok0)) (by kernel_rfl) (by kernel_rfl) fun R=>by kernel_rfl
def JGR(k:Nat): Ent:=Jf6.e 195 (@J2o k)
def Jdg:Sh:=⟨[.o 1 200 0 [.a kI,.a kI,.a .str,.a kI,.w 21 157 Jf],.a kI],some ([.o 1 200 0 [.a kI,.a kI,.a .str,.a kI,.w 21 157 Jf]],[]),some ([.o 1 200 0 [.a kI,.a kI,.a .str,.a kI,.w 21 157 Jf]],[.i 29 (.g [.a kI,.a kI])])⟩
abbrev Jhz:Type 1:=(R:Type)->Int->Int->J0->Int->Jc->Int->(Int->Int->J0->Int->Jc->Option R)->(Int->Int->J0->Int->Jc->Int->Int->Option R)->Option R
def JA8(k:Nat): Cxt:=⟨[],[1],[],[]⟩
def JA9(k:Nat){R:Type}(x0 x1:Int)(x2:J0)(x3:Int)(x4:Jc)(x5:Int)(K:(Int->Int->J0->Int->Jc->Option R))(E:(Int->Int->J0->Int->Jc->Int->Int->Option R)): Option R:=E x0 x1 x2 x3 x4 x5 x0
def Y5:=@JA9
theorem J9z(k:Nat): DOK Tryz.prog 191 (Jdg.run (@Y5 k)):=dok Jdg (JA8 k) Tryz.f191 k ok0 (by kernel_rfl) (by kernel_rfl) fun R=>by kernel_rfl
def Jdh(k:Nat): Ent:=Jdg.e 191 (@Y5 k)
def Jdi:Sh:=⟨[.o 1 200 0 [.a kI,.a kI,.a .str,.a kI,.w 21 157 Jf],.a kI,.a .str,.a .bool,.a kI],some ([.o 1 200 0 [.a kI,.a kI,.a .str,.a kI,.w 21 157 Jf]],[]),none⟩
abbrev JhA:Type 1:=(R:Type)->Int->Int->J0->Int->Jc->Int->J0->Bool->Int->(Int->Int->J0->Int->Jc->Option R)->Option R
def JAa(k:Nat): Cxt:=⟨[],[1],[],[(0,(.of [(0,1),(1,1),(2,1),(3,1),(5,1),(6,1),(7,1),(8,1),(9,1),(11,1),(12,1),(13,1),(14,1),(16,1),(17,1),(18,1),(21,1),(22,1),(4,1),(10,1),(15,1),(19,1),(20,1),(23,1),(24,0),(25,0),(26,1),(27,1),(28,0)] .done))]⟩
def JoA(k:Nat){R:Type}(x0 x1:Int)(x2:J0)(x3:Int)(x4:Jc)(x5:Int)(x6:J0)(x7:Bool)(x8:Int)(K:(Int->Int->J0->Int->Jc->Option R)): Option R:=cond (Ju x4.length (@List.length (@Kd.T Jf) [(x5,(x0,((IntKind.i64.wrap (x1+x3)),(x6,x7))))]) 48) (K x0 x1 x2 (IntKind.i64.wrap (x3+x8)) (x4++[(x5,(x0,((IntKind.i64.wrap (x1+x3)),(x6,x7))))])) none
def J0Q:=@JoA
theorem JoB(k:Nat): DOK Tryz.prog 194 (Jdi.run (@J0Q k)):=dok Jdi (JAa k) Tryz.f194 k ok0 (by kernel_rfl) (by kernel_rfl) fun R=>by kernel_rfl
def JAb(k:Nat): Ent:=Jdi.e 194 (@J0Q k)
def J7f:Sh:=⟨[.o 1 200 0 [.a kI,.a kI,.a .str,.a kI,.w 21 157 Jf]],some ([.o 1 200 0 [.a kI,.a kI,.a .str,.a kI,.w 21 157 Jf]],[.a .str]),none⟩
def Jcc:Cu:=⟨1,[0],[.o 1 200 0 [.a kI,.a kI,.a .str,.a kI,.w 21 157 Jf],.r 1 0]⟩
def JoM(k:Nat): Cxt:=⟨[],[1],[(1001,Jcc.spec)],[(1,(.of [(0,1),(1,1),(2,1),(4,1),(5,1),(6,1),(7,1),(3,1),(8,1),(9,1),(10,1),(11,1),(12,1),(13,1),(14,1),(15,1),(17,1),(18,1),(19,1),(16,1),(20,1),(21,1),(22,1),(23,1)] .done)),(3,(.of [(0,1),(1,1),(2,1),(3,1),(5,1),(6,1),(7,1),(4,1),(8,1),(9,1),(10,1)] .done))]⟩
def Jcd(k:Nat){R:Type}(E1001:(Int->Int->J0->Int->Jc->Option R))(s0 s1:Int)(s2:J0)(s3:Int)(s4:Jc)(K:(Int->Int->J0->Int->Jc->J0->Option R)): Option R:=cond ((!((decide (s3<(s2.length:Int))) == true)) || (inb s3 (s2.length:Int))) (cond (cond (decide (s3<(s2.length:Int))) (((s2.getD s3.toNat 0).toNat:Int) == 32) false) (E1001 s0 s1 s2 (IntKind.i64.wrap (s3+1)) s4) (cond (bnd s3 (s2.length:Int) (s2.length:Int)) (K s0 s1 s2 s3 s4 (cut s2 s3 (s2.length:Int))) none)) none
def Jic(k:Nat){R:Type}(E1001:(Int->Int->J0->Int->Jc->Option R))(x0 x1:Int)(x2:J0)(x3:Int)(x4:Jc)(K:(Int->Int->J0->Int->Jc->J0->Option R)): Option R:=E1001 x0 x1 x2 x3 x4
def J46(k:Nat){R:Type}: Nat->Int->Int->J0->Int->Jc->(Int->Int->J0->Int->Jc->J0->Option R)->Option R
 |0,_,_,_,_,_,_=>none
 |n+1,s0,s1,s2,s3,s4,K=>Jcd k (fun s0 s1 s2 s3 s4=>J46 k n s0 s1 s2 s3 s4 K) s0 s1 s2 s3 s4 K
theorem Jxr(k:Nat){R:Type}: ∀(I:Nat->St->Option R) (n:Nat),J7f.lp Jcc (JoM k).cx k Tryz.f192 1001 [1,0,0] I n=J46 k n:=J7f.lok Jcc (B:=Jcd k) (L:=J46 k) (fun I=>by kernel_rfl) (fun I=>by kernel_rfl) (fun n=>by kernel_rfl) (fun _ _ _ _=>rfl)
def J23(k:Nat){R:Type}(x0 x1:Int)(x2:J0)(x3:Int)(x4:Jc)(K:(Int->Int->J0->Int->Jc->J0->Option R)): Option R:=Jic k (fun s0 s1 s2 s3 s4=>J46 k k s0 s1 s2 s3 s4 K) x0 x1 x2 x3 x4 K
theorem JAE(k:Nat): DOK Tryz.prog 192 (J7f.run (@J23 k)):=dok J7f (JoM k) Tryz.f192 k ok0 (by kernel_rfl) (by kernel_rfl) fun R=>J7f.f1 Jcc (Jic k) (by kernel_rfl) (Jxr k (fun _ _=>none) k) (by kernel_rfl)
def JAF(k:Nat): Ent:=J7f.e 192 (@J23 k)
def JcB:Sh:=⟨[.a .str,.a (.int .u8)],some ([],[.a kI]),none⟩
abbrev Jh6:Type 1:=(R:Type)->J0->Int->(Int->Option R)->Option R
def JyZ(k:Nat): Cxt:=⟨[Jon k],[],[],[]⟩
def Jz0(k:Nat){R:Type}(x0:J0)(x1:Int)(K:(Int->Option R)): Option R:=J9w k x0 x1 K
def Zw:=@Jz0
theorem Jo9(k:Nat): DOK Tryz.prog 231 (JcB.run (@Zw k)):=dok JcB (JyZ k) Tryz.f231 k (ok1 (Jom k) ok0) (by kernel_rfl) (by kernel_rfl) fun R=>by kernel_rfl
def Jz1(k:Nat): Ent:=JcB.e 231 (@Zw k)
def JhY:Sh:=⟨[.o 1 200 0 [.a kI,.a kI,.a .str,.a kI,.w 21 157 Jf],.a .str],some ([.o 1 200 0 [.a kI,.a kI,.a .str,.a kI,.w 21 157 Jf]],[.a (.int .u8),.a kI]),some ([.o 1 200 0 [.a kI,.a kI,.a .str,.a kI,.w 21 157 Jf]],[.i 29 (.g [.a kI,.a kI])])⟩
def JAc(k:Nat): Cxt:=⟨[Jdh k,Jz1 k],[1],[],[(14,(.of [(0,1),(1,1),(3,1),(4,1),(2,0),(5,0),(6,1),(7,1)] .done))]⟩
def JoC(k:Nat){R:Type}(x0 x1:Int)(x2:J0)(x3:Int)(x4:Jc)(x5:J0)(K E:(Int->Int->J0->Int->Jc->Int->Int->Option R)): Option R:=cond (x5 == []) (Y5 k x0 x1 x2 x3 x4 3 (fun y10 y11 y12 y13 y14=>cond (inb 0 (x5.length:Int)) (cond (((x5.getD (Int.toNat 0) 0).toNat:Int) == 92) (cond (inb 0 (x5.length:Int)) (K y10 y11 y12 y13 y14 ((x5.getD (Int.toNat 0) 0).toNat:Int) 1) none) (cond (((x5.getD (Int.toNat 0) 0).toNat:Int) == 34) (cond (inb 0 (x5.length:Int)) (K y10 y11 y12 y13 y14 ((x5.getD (Int.toNat 0) 0).toNat:Int) 1) none) (cond (((x5.getD (Int.toNat 0) 0).toNat:Int) == 110) (K y10 y11 y12 y13 y14 10 1) (cond (((x5.getD (Int.toNat 0) 0).toNat:Int) == 116) (K y10 y11 y12 y13 y14 9 1) (cond (((x5.getD (Int.toNat 0) 0).toNat:Int) == 120) (cond (decide ((x5.length:Int)<3)) (Y5 k y10 y11 y12 y13 y14 3 (fun y15 y16 y17 y18 y19=>cond (inb 1 (x5.length:Int)) (cond (inb 2 (x5.length:Int)) (Zw k [48,49,50,51,52,53,54,55,56,57,97,98,99,100,101,102] ((x5.getD (Int.toNat 1) 0).toNat:Int) (fun y20=>Zw k [48,49,50,51,52,53,54,55,56,57,97,98,99,100,101,102] ((x5.getD (Int.toNat 2) 0).toNat:Int) (fun y21=>cond (cond (decide (y20<0)) true (decide (y21<0))) (Y5 k y15 y16 y17 y18 y19 3 (fun y22 y23 y24 y25 y26=>K y22 y23 y24 y25 y26 (IntKind.u8.wrap (IntKind.i64.wrap ((IntKind.i64.wrap ((16:Int)*y20))+y21))) 3) E) (K y15 y16 y17 y18 y19 (IntKind.u8.wrap (IntKind.i64.wrap ((IntKind.i64.wrap ((16:Int)*y20))+y21))) 3)))) none) none) E) (cond (inb 1 (x5.length:Int)) (cond (inb 2 (x5.length:Int)) (Zw k [48,49,50,51,52,53,54,55,56,57,97,98,99,100,101,102] ((x5.getD (Int.toNat 1) 0).toNat:Int) (fun y15=>Zw k [48,49,50,51,52,53,54,55,56,57,97,98,99,100,101,102] ((x5.getD (Int.toNat 2) 0).toNat:Int) (fun y16=>cond (cond (decide (y15<0)) true (decide (y16<0))) (Y5 k y10 y11 y12 y13 y14 3 (fun y17 y18 y19 y20 y21=>K y17 y18 y19 y20 y21 (IntKind.u8.wrap (IntKind.i64.wrap ((IntKind.i64.wrap ((16:Int)*y15))+y16))) 3) E) (K y10 y11 y12 y13 y14 (IntKind.u8.wrap (IntKind.i64.wrap ((IntKind.i64.wrap ((16:Int)*y15))+y16))) 3)))) none) none)) (Y5 k y10 y11 y12 y13 y14 3 (fun y15 y16 y17 y18 y19=>K y15 y16 y17 y18 y19 0 0) E)))))) none) E) (cond (inb 0 (x5.length:Int)) (cond (((x5.getD (Int.toNat 0) 0).toNat:Int) == 92) (cond (inb 0 (x5.length:Int)) (K x0 x1 x2 x3 x4 ((x5.getD (Int.toNat 0) 0).toNat:Int) 1) none) (cond (((x5.getD (Int.toNat 0) 0).toNat:Int) == 34) (cond (inb 0 (x5.length:Int)) (K x0 x1 x2 x3 x4 ((x5.getD (Int.toNat 0) 0).toNat:Int) 1) none) (cond (((x5.getD (Int.toNat 0) 0).toNat:Int) == 110) (K x0 x1 x2 x3 x4 10 1) (cond (((x5.getD (Int.toNat 0) 0).toNat:Int) == 116) (K x0 x1 x2 x3 x4 9 1) (cond (((x5.getD (Int.toNat 0) 0).toNat:Int) == 120) (cond (decide ((x5.length:Int)<3)) (Y5 k x0 x1 x2 x3 x4 3 (fun y10 y11 y12 y13 y14=>cond (inb 1 (x5.length:Int)) (cond (inb 2 (x5.length:Int)) (Zw k [48,49,50,51,52,53,54,55,56,57,97,98,99,100,101,102] ((x5.getD (Int.toNat 1) 0).toNat:Int) (fun y15=>Zw k [48,49,50,51,52,53,54,55,56,57,97,98,99,100,101,102] ((x5.getD (Int.toNat 2) 0).toNat:Int) (fun y16=>cond (cond (decide (y15<0)) true (decide (y16<0))) (Y5 k y10 y11 y12 y13 y14 3 (fun y17 y18 y19 y20 y21=>K y17 y18 y19 y20 y21 (IntKind.u8.wrap (IntKind.i64.wrap ((IntKind.i64.wrap ((16:Int)*y15))+y16))) 3) E) (K y10 y11 y12 y13 y14 (IntKind.u8.wrap (IntKind.i64.wrap ((IntKind.i64.wrap ((16:Int)*y15))+y16))) 3)))) none) none) E) (cond (inb 1 (x5.length:Int)) (cond (inb 2 (x5.length:Int)) (Zw k [48,49,50,51,52,53,54,55,56,57,97,98,99,100,101,102] ((x5.getD (Int.toNat 1) 0).toNat:Int) (fun y10=>Zw k [48,49,50,51,52,53,54,55,56,57,97,98,99,100,101,102] ((x5.getD (Int.toNat 2) 0).toNat:Int) (fun y11=>cond (cond (decide (y10<0)) true (decide (y11<0))) (Y5 k x0 x1 x2 x3 x4 3 (fun y12 y13 y14 y15 y16=>K y12 y13 y14 y15 y16 (IntKind.u8.wrap (IntKind.i64.wrap ((IntKind.i64.wrap ((16:Int)*y10))+y11))) 3) E) (K x0 x1 x2 x3 x4 (IntKind.u8.wrap (IntKind.i64.wrap ((IntKind.i64.wrap ((16:Int)*y10))+y11))) 3)))) none) none)) (Y5 k x0 x1 x2 x3 x4 3 (fun y10 y11 y12 y13 y14=>K y10 y11 y12 y13 y14 0 0) E)))))) none)
def J9A:=@JoC
theorem JAd(k:Nat): DOK Tryz.prog 255 (JhY.run (@J9A k)):=dok JhY (JAc k) Tryz.f255 k (ok1 (J9z k) (ok1 (Jo9 k) ok0)) (by kernel_rfl) (by kernel_rfl) fun R=>by kernel_rfl
def JAe(k:Nat): Ent:=JhY.e 255 (@J9A k)
end Go.Proofs.YtabkhphoacmcdaaGreatDoor.Pvm
set_option maxHeartbeats 2000000
set_option maxRecDepth 100000
namespace Go.Proofs.YtabkhphoacmcdaaGreatDoor.Pvm
open Go Go.Proofs Go.RowKit
theorem JDE (b g cap:Nat) (p:Value) (l:List UInt8) (cur:Array Value) (w:World) (hbk:w.heap[b]? = some (.cells #[p,.slice (some ⟨g,0,none⟩) l.length cap] 89 (0,0))) (h0:l≠[])
 (hg:w.heap[g]? = some (.cells cur 5 (0,0))) (hnc:l.length≤cap) (hcm:cap≤maxLen) (hcs:cur.size=cap) (htake:∀(j:Nat) (x:UInt8),l[j]? = some x->w.cell? ⟨g,j,none⟩=some (.int .u8 x.toNat)) :
 Calls Tryz.prog 45 #[.pointer (some ⟨b,0,none⟩)] w fun e w'=>e = .returned (.string ⟨l.toArray⟩)∧w'=w.drew.freeze ⟨g,0,none⟩ l.length:=by
 have hl0:l.length≠0:=by simpa using h0
 have mixed:Tryz.prog.follows .mixedOrders=true:=by kernel_rfl
 have t86:Tryz.prog.underlying 140=some (.pointer 5):=by kernel_rfl
 have c1:w.drew.cell? ⟨b,1,none⟩=some (.slice (some ⟨g,0,none⟩) l.length cap):=by
  have:w.drew.heap[b]? = some (.cells #[p,.slice (some ⟨g,0,none⟩) l.length cap] 89 (0,0)):=hbk
  rw[Lib.cell_of_heap this];rfl
 have hSD:(Builtin.unsafeSliceData_ #[22] 140 #[.slice (some ⟨g,0,none⟩) l.length cap]).run Tryz.prog w.drew = .ok (.pointer (some ⟨g,0,none⟩)) w.drew :=
  Lib.run_unsafeSliceData_row _ _ _ _ _ _ (by omega)
 have hUS:(Builtin.unsafeString_ #[140,3] 9 #[.pointer (some ⟨g,0,none⟩),.int .i64 l.length]).run Tryz.prog w.drew = .ok (.string ⟨l.toArray⟩) (w.drew.freeze ⟨g,0,none⟩ l.length):=by
  refine Lib.run_unsafeString_row w.drew 140 3 9 5 t86 (by kernel_rfl) g cur.size (by have hg':w.drew.heap[g]? = some (.cells cur 5 (0,0)):=hg;simp[World.shape?,hg']) l h0 (by omega) (by unfold maxLen at hcm;omega) ?_
  intro j x hx
  have:=htake j x hx
  rw[show(⟨g,0,none⟩:Addr).add j=⟨g,j,none⟩ by simp[Addr.add];omega]
  exact this
 go_enter Tryz.func45,Tryz.ntmps45
 go_wp2
 go_region_o
 all_goals (go_wp2;go_ret;exact⟨rfl,rfl⟩)
theorem Jmc(W:World)(q:Option Addr): (Builtin.unsafeString_ #[140,3] 9 #[.pointer q,.int .i64 0]).run Tryz.prog W = .ok (.string .empty) W :=
 Lib.run_unsafeString_none W _ _ _ q
theorem JFT(b:Nat)(p:Value)(w:World)(hbk:w.heap[b]? = some (.cells #[p,.slice none 0 0] 89 (0,0))):
 Calls Tryz.prog 45 #[.pointer (some ⟨b,0,none⟩)] w fun e w'=>e = .returned (.string ⟨#[]⟩)∧w'=w.drew:=by
 have hUS:=Jmc
 have mixed:Tryz.prog.follows .mixedOrders=true:=by kernel_rfl
 have c1:w.drew.cell? ⟨b,1,none⟩=some (.slice none 0 0):=by
  have:w.drew.heap[b]? = some (.cells #[p,.slice none 0 0] 89 (0,0)):=hbk
  rw[Lib.cell_of_heap this];rfl
 have hSD:(Builtin.unsafeSliceData_ #[22] 140 #[.slice none 0 0]).run Tryz.prog w.drew = .ok (.pointer none) w.drew:=rfl
 go_enter Tryz.func45,Tryz.ntmps45
 go_wp2
 go_region_o
 all_goals (go_wp2;go_ret;exact⟨rfl,rfl⟩)
theorem JER(b g cap:Nat)(p:Value)(w:World)(hc0:cap≠0)(hbk:w.heap[b]? = some (.cells #[p,.slice (some ⟨g,0,none⟩) 0 cap] 89 (0,0))):
 Calls Tryz.prog 45 #[.pointer (some ⟨b,0,none⟩)] w fun e w'=>e = .returned (.string ⟨#[]⟩)∧w'=w.drew:=by
 have hUS:=Jmc
 have mixed:Tryz.prog.follows .mixedOrders=true:=by kernel_rfl
 have c1:w.drew.cell? ⟨b,1,none⟩=some (.slice (some ⟨g,0,none⟩) 0 cap):=by
  have:w.drew.heap[b]? = some (.cells #[p,.slice (some ⟨g,0,none⟩) 0 cap] 89 (0,0)):=hbk
  rw[Lib.cell_of_heap this];rfl
 have hSD:(Builtin.unsafeSliceData_ #[22] 140 #[.slice (some ⟨g,0,none⟩) 0 cap]).run Tryz.prog w.drew = .ok (.pointer (some ⟨g,0,none⟩)) w.drew :=
  Lib.run_unsafeSliceData_row _ _ _ _ _ _ hc0
 clear hc0
 go_enter Tryz.func45,Tryz.ntmps45
 go_wp2
 go_region_o
 all_goals (go_wp2;go_ret;exact⟨rfl,rfl⟩)
theorem JCm(b g:Nat)(p:Value)(cur:Array Value)(w:World)(hbk:w.heap[b]? = some (.cells #[p,.slice (some ⟨g,0,none⟩) 0 0] 89 (0,0)))(hg:w.heap[g]? = some (.cells cur 5 (0,0))):
 Calls Tryz.prog 45 #[.pointer (some ⟨b,0,none⟩)] w fun e w'=>e = .returned (.string ⟨#[]⟩)∧∃ o,w'=(w.alloc o).drew:=by
 have hUS:=Jmc
 have hlt:b<w.heap.size:=(Array.getElem?_eq_some_iff.1 hbk).1
 have mixed:Tryz.prog.follows .mixedOrders=true:=by kernel_rfl
 have c1:w.drew.cell? ⟨b,1,none⟩=some (.slice (some ⟨g,0,none⟩) 0 0):=by
  have:w.drew.heap[b]? = some (.cells #[p,.slice (some ⟨g,0,none⟩) 0 0] 89 (0,0)):=hbk
  rw[Lib.cell_of_heap this];rfl
 have hSD:(Builtin.unsafeSliceData_ #[22] 140 #[.slice (some ⟨g,0,none⟩) 0 0]).run Tryz.prog w.drew = .ok (.pointer (some ⟨w.drew.heap.size,0,none⟩)) (w.drew.alloc (.view ⟨g,0,none⟩ 5)) :=
  Lib.run_unsafeSliceData_zero w.drew _ _ 5 (by kernel_rfl) ⟨g,0,none⟩ 0 (5,cur.size) (by have hg':w.drew.heap[g]? = some (.cells cur 5 (0,0)):=hg;simp[World.shape?,hg'])
 have c2:(w.drew.alloc (.view ⟨g,0,none⟩ 5)).cell? ⟨b,1,none⟩=some (.slice (some ⟨g,0,none⟩) 0 0):=by
  have:(w.drew.alloc (.view ⟨g,0,none⟩ 5)).heap[b]? = _:=(Lib.alloc_old w.drew _ b hlt).trans hbk
  rw[Lib.cell_of_heap this];rfl
 have c3:(w.alloc (.view ⟨g,0,none⟩ 5)).drew.cell? ⟨b,1,none⟩=some (.slice (some ⟨g,0,none⟩) 0 0):=c2
 have c0:w.cell? ⟨b,1,none⟩=some (.slice (some ⟨g,0,none⟩) 0 0):=c1
 go_enter Tryz.func45,Tryz.ntmps45
 go_wp2
 go_region_o
 all_goals (go_wp2;go_ret;exact⟨rfl,_,rfl⟩)
def J3M:List Int->Bool
 |[]=>true
 |x::r=>decide (0≤x)&&decide (x<256)&&J3M r
def JnG:List LS:=[.obj 1 [.nps 1 0,.own 21 5 (.int .u8)]]
def J6l(k:Nat){R:Type}(x0:List Int)(K:List Int->List UInt8->Option R): Option R:=bif J3M x0 then K x0 (Q5 x0)else none
noncomputable def JbM(k:Nat){R:Type}: List PV->List (Nm×HObj)->(Out->Option R)->Option R
 |[.ptr 1 0],[(21,.row 5 (.int .u8) x0),(1,.var 89 [.nps 1 0,.row 21])],K=>J6l k x0 (fun y0 y1=>K (.ret [.v .str y1] [(1,.var 89 [.nps 1 0,.v (.sl (.int .u8)) y0])]))
 |_,_,_=>none
theorem JwW(vs:Array Value)(w:World): (callFunc 45 vs).run Tryz.prog w = .ok (.enter 45 vs) w:=by
 have h1:Tryz.prog.funcs[45]? = some Tryz.f45:=by kernel_rfl
 have h2:(Tryz.f45.name == "runtime.NumGoroutine")=false:=by kernel_rfl
 have h3:Tryz.f45.body.isNone=false:=by kernel_rfl
 unfold callFunc
 rw[Sem.run_bind]
 have e2:(program).run Tryz.prog w = .ok Tryz.prog w:=rfl
 rw[e2,Result.andThen_ok,h1]
 simp only[h2,h3,Bool.false_eq_true,if_false]
 rfl
theorem JuE:∀ {l:List Int},J3M l=true->∀(i:Nat) (y:Int),l[i]? = some y->0≤y∧y<256
 |[],_,i,y,h=>by simp at h
 |x::r,hb,0,y,h=>by
  simp only[J3M,Bool.and_eq_true,decide_eq_true_eq]at hb
  simp at h;subst h;exact hb.1
 |x::r,hb,i+1,y,h=>by
  simp only[J3M,Bool.and_eq_true]at hb
  exact JuE hb.2 i y (by simpa using h)
theorem JDF {G:Gh} {w w':World} {x0:List Int} {HP:List (Nm×HObj)} (hHP:HP=[(21,.row 5 (.int .u8) x0),(1,.var 89 [.nps 1 0,.row 21])])
 (obj:∀ n o,mkH HP n=some o->RO (mkH HP) G w n o) (dis:Dis (mkH HP) G w) (hblk:∀ b,b<w.heap.size->(∀ g,(G.rv 21).ownBlock=some g->b≠g)->w'.heap[b]? = w.heap[b]?)
 (hcell:∀ g o,(G.rv 21).ownBlock=some g->w'.cell? ⟨g,o,none⟩=w.cell? ⟨g,o,none⟩) (grow:w.heap.size≤w'.heap.size) (os:w'.os=w.os) (tape:w'.tape=w.tape) (out:w'.output=w.output) :
 Fin HP [(1,.var 89 [.nps 1 0,.v (.sl (.int .u8)) x0])] G w G w':=by
 have l1:mkH HP 1=some (.var 89 [.nps 1 0,.row 21]):=by subst hHP;rfl
 have l2:mkH HP 21=some (.row 5 (.int .u8) x0):=by subst hHP;rfl
 generalize hHS:[((1:Nm),HObj.var 89 [.nps 1 0,.v (.sl (.int .u8)) x0])]=HS
 have m1:mkH HS 1=some (.var 89 [.nps 1 0,.v (.sl (.int .u8)) x0]):=by subst hHS;rfl
 have mo:∀ n o,mkH HS n=some o->n=1:=by
  intro n o h
  subst hHS
  simp only[mkH,Jx]at h
  cases hb:Nat.beq 1 n with
  |true=>exact(Nat.eq_of_beq_eq_true hb).symm
  |false=>rw[hb]at h;cases h
 have bk1:Jd (mkH HP) G 1=some (G.bk 1):=by simp[Jd,l1]
 have bk2:Jd (mkH HP) G 21=(G.rv 21).ownBlock:=by simp[Jd,l2]
 have ck1:Jd (mkH HS) G 1=some (G.bk 1):=by simp[Jd,m1]
 have ck:∀ n b,Jd (mkH HS) G n=some b->n=1∧b=G.bk 1:=by
  intro n b h
  cases hn:mkH HS n with
  |none=>simp[Jd,hn]at h
  |some o=>have:=mo n o hn;subst this;rw[ck1]at h;cases h;exact⟨rfl,rfl⟩
 have hne:∀ g,(G.rv 21).ownBlock=some g->G.bk 1≠g:=fun g hg e=>by
  have:=dis.inj 1 21 g (by rw[bk1,e]) (by rw[bk2,hg])
  cases this
 obtain⟨vs,hw,q1,t1,rfl,hq1,q2,t2,rfl,hq2,rfl⟩:=obj 1 _ l1
 obtain⟨rfl,_⟩:=hq2
 have hlt:G.bk 1<w.heap.size:=(Array.getElem?_eq_some_iff.1 hw).1
 have hw':w'.heap[G.bk 1]? = some (.cells [q1,G.rv 21].toArray 89 (0,0)):=by rw[hblk _ hlt hne];exact hw
 have hdat:RD w' (okB (mkH HS) G) (.sl (.int .u8)) x0 [G.rv 21]:=by
  have hro:=obj 21 _ l2
  obtain⟨us,hown,hr,_⟩:=hro
  rcases hown.2 with⟨hv,hn⟩|⟨g,cap,cur,hv,_,hgb,hnc,hcm,hcs,_⟩
  ·exact⟨none,0,by rw[hv,hn],by omega,.inl (List.eq_nil_of_length_eq_zero hn)⟩
  ·have hgo:(G.rv 21).ownBlock=some g:=by rw[hv];rfl
   refine⟨_,cap,by rw[hv],hnc,.inr ⟨_,rfl,?_,?_,?_⟩⟩
   ·refine⟨fun n hn => ?_,fun hx=>dis.xo 21 g (by rw[bk2,hgo]) hx⟩
    obtain⟨_,e⟩:=ck n g hn
    exact hne g hgo e.symm
   ·have:g<w.heap.size:=(Array.getElem?_eq_some_iff.1 hgb).1
    exact Nat.lt_of_lt_of_le this grow
   ·intro i y hy
    obtain⟨c,hc,hu⟩:=hr.get i y hy
    refine⟨c,hc,fun j u hj => ?_⟩
    have:=hown.cells hgo _ _ (hu j u hj)
    rw[Addr.add_lit]at this ⊢
    rw[hcell g _ hgo]
    exact this
 refine⟨fun n o hn => ?_,fun n m b h1 h2=>(ck n b h1).1.trans (ck m b h2).1.symm,fun n t cs hn o ho => ?_,fun n ag V es hn o ho=>(Jar (by rw[hHP];rfl) hn).elim,fun b hb hf=>hblk b hb fun g hg e=>hf 21 (by rw[bk2,hg,e]),rfl,fun n b hn => .inl ⟨1,by rw[(ck n b hn).2];exact bk1⟩,grow,os,tape,out⟩
 ·have:=mo n o hn;subst this
  rw[m1]at hn;cases hn
  refine⟨_,hw',_,_,rfl,?_,_,_,rfl,hdat,rfl⟩
  rcases hq1 with h|⟨h,_⟩
  ·exact .inl h
  ·exact .inr ⟨h,_,_,m1⟩
 ·have e1:=mo n o ho
  subst e1
  have e2:mkH HS 1=some o:=ho
  have e3:mkH HP 1=some (.var t cs):=hn
  rw[m1]at e2;rw[l1]at e3;cases e2;cases e3
  exact⟨⟨_,rfl⟩,rfl⟩
theorem JnK(k:Nat){ps:List PV}{hp:List (Nm×HObj)}{R:Type}{K:Out->Option R}{r:R}(h:JbM k ps hp K=some r): DoesTo Tryz.prog 45 ps hp fun out=>K out=some r:=by
 unfold JbM at h
 split at h
 ·next x0 =>
  intro G w vals hr obj dis
  unfold J6l at h
  cases hb:J3M x0 with
  |false=>rw[hb]at h;cases h
  |true =>
   rw[hb,cond_true]at h
   obtain⟨v0,l0,rfl,h0,rfl⟩:=hr
   obtain⟨rfl,_⟩:=h0
   generalize hHP:[(21,HObj.row 5 (.int .u8) x0),(1,.var 89 [.nps 1 0,.row 21])]=HP at *
   have l1:mkH HP 1=some (.var 89 [.nps 1 0,.row 21]):=by subst hHP;rfl
   have l2:mkH HP 21=some (.row 5 (.int .u8) x0):=by subst hHP;rfl
   show Does _ _ #[_] _ _
   unfold Does
   rw[JwW]
   obtain⟨vs,hw,q1,t1,rfl,hq1,q2,t2,rfl,hq2,rfl⟩:=obj 1 _ l1
   obtain⟨rfl,_⟩:=hq2
   have hro:=obj 21 _ l2
   obtain⟨us,hown,hrd,_⟩:=hro
   have fin:∀ {e:Ending} {w':World},e = .returned (.string ⟨(Q5 x0).toArray⟩)->(∀ b,b<w.heap.size->(∀ g,(G.rv 21).ownBlock=some g->b≠g)->w'.heap[b]? = w.heap[b]?)->(∀ g o,(G.rv 21).ownBlock=some g->w'.cell? ⟨g,o,none⟩=w.cell? ⟨g,o,none⟩)->w.heap.size≤w'.heap.size->w'.os=w.os->w'.tape=w.tape->w'.output=w.output ->
    ∃ out,K out=some r∧∃ G',J2A G' w' e out∧Fin HP out.hs G w G' w':=by
    intro e w' he h1 h2 h3 h4 h5 h6
    exact⟨_,h,G,⟨_,he,rfl⟩,JDF hHP.symm obj dis h1 h2 h3 h4 h5 h6⟩
   rcases hown.2 with⟨hv,hn⟩|⟨g,cap,cur,hv,_,hgb,hnc,hcm,hcs,htk⟩
   ·have hx:x0=[]:=List.eq_nil_of_length_eq_zero hn
    subst hx
    rw[hv]at hw
    refine Calls.mono (JFT (G.bk 1) q1 w hw) fun e w' hh => ?_
    obtain⟨rfl,rfl⟩:=hh
    exact fin rfl (fun _ _ _=>rfl) (fun _ _ _=>rfl) (Nat.le_refl _) rfl rfl rfl
   ·have hgo:(G.rv 21).ownBlock=some g:=by rw[hv];rfl
    rw[hv]at hw
    by_cases hx:x0=[]
    ·subst hx
     by_cases hc0:cap=0
     ·subst hc0
      refine Calls.mono (JCm (G.bk 1) g q1 cur w hw hgb) fun e w' hh => ?_
      obtain⟨rfl,o,rfl⟩:=hh
      have hold:∀ b,b<w.heap.size->(w.alloc o).drew.heap[b]? = w.heap[b]? := fun b hb=>Lib.alloc_old w _ b hb
      refine fin rfl (fun b hb _=>hold b hb) (fun g' o' hg' => ?_) (by have:=World.size_alloc w o;show _≤(w.alloc o).heap.size;omega) rfl rfl rfl
      rw[hgo]at hg';cases hg'
      exact World.cell?_of_block (hold g (Array.getElem?_eq_some_iff.1 hgb).1)
     ·refine Calls.mono (JER (G.bk 1) g cap q1 w hc0 hw) fun e w' hh => ?_
      obtain⟨rfl,rfl⟩:=hh
      exact fin rfl (fun _ _ _=>rfl) (fun _ _ _=>rfl) (Nat.le_refl _) rfl rfl rfl
    ·have hlen:(Q5 x0).length=x0.length:=by simp[Q5]
     have hbytes:∀(j:Nat) (x:UInt8),(Q5 x0)[j]? = some x->w.cell? ⟨g,j,none⟩=some (.int .u8 x.toNat):=by
      intro j x hj
      have hjl:j<x0.length:=by rw[←hlen];exact(List.getElem?_eq_some_iff.1 hj).1
      have hy:x0[j]? = some x0[j]:=by simp[hjl]
      obtain⟨c,hc,hu⟩:=hrd.get j _ hy
      have hc:c=[.int .u8 x0[j]]:=hc
      have h9:=hown.cells hgo _ _ (hu 0 (.int .u8 x0[j]) (by rw[hc];rfl))
      rw[Addr.add_lit]at h9
      have hj2:x=UInt8.ofNat (x0[j]).toNat:=by
       simp only[Q5,List.getElem?_map,hy,Option.map_some,Option.some.injEq]at hj
       exact hj.symm
      obtain⟨h10,h11⟩:=JuE hb j _ hy
      have:((x.toNat:Nat):Int)=x0[j]:=by
       rw[hj2,UInt8.toNat_ofNat']
       omega
      rw[this]
      have e0:0+(j*Kd.sz (.int .u8)+0)=j:=by simp[Kd.sz]
      rw[e0]at h9
      exact h9
     rw[←hlen]at hw
     have hne:Q5 x0≠[]:=by intro e;rw[e]at hlen;exact hx (List.eq_nil_of_length_eq_zero hlen.symm)
     refine Calls.mono (JDE (G.bk 1) g cap q1 (Q5 x0) cur w hw hne hgb (by omega) hcm (by simpa [Kd.sz]using hcs) hbytes) fun e w' hh => ?_
     obtain⟨rfl,rfl⟩:=hh
     have hfz:∀ b,b≠g->(w.drew.freeze ⟨g,0,none⟩ (Q5 x0).length).heap[b]? = w.heap[b]? := by
      intro b hb
      unfold World.freeze
      split
      ·rfl
      ·show(w.heap.modify g _)[b]? = _
       rw[Array.getElem?_modify,if_neg (Ne.symm hb)]
     refine fin rfl (fun b _ hb=>hfz b (hb g hgo)) (fun g' o' hg' => ?_) ?_ ?_ ?_ ?_
     ·rw[hgo]at hg';cases hg'
      unfold World.freeze
      split
      ·rfl
      ·simp only[World.cell?,World.drew,Array.getElem?_modify,if_true,hgb,Option.map_some]
     all_goals
      unfold World.freeze
      split
      ·first|rfl|exact Nat.le_refl _
      ·first|rfl|(show w.heap.size≤(w.heap.modify g _).size;rw[Array.size_modify];exact Nat.le_refl _)
 ·cases h
end Go.Proofs.YtabkhphoacmcdaaGreatDoor.Pvm
set_option maxHeartbeats 1000000
namespace Go.Proofs.YtabkhphoacmcdaaGreatDoor.Pvm
open Go Go.Proofs Go.RowKit
theorem JBC(b:Nat)(w:World)(h0:w.cell? ⟨b,0,none⟩=some (.pointer (some ⟨b,0,none⟩))):
 Calls Tryz.prog 89 #[.pointer (some ⟨b,0,none⟩)] w fun e w'=>e = .returned (.tuple #[])∧w'=w:=by
 have t76:Tryz.prog.underlying 87=some (.pointer 89):=by kernel_rfl
 have hs:(Tryz.prog.info? 89).isSome=true:=by kernel_rfl
 obtain⟨j,hj⟩:=Option.isSome_iff_exists.1 hs
 go_enter Tryz.func89,Tryz.ntmps89
 go_wp2
 rw[Lib.run_neq_ptr_same w _ t76 hj]
 go_wp2
 go_end0
 exact⟨rfl,rfl⟩
theorem JB6(b:Nat)(w:World)(h0:w.cell? ⟨b,0,none⟩=some (.pointer none))(hsh:w.shape? b=some (89,2))(hfz:w.frozen? ⟨b,0,none⟩=false):
 Calls Tryz.prog 89 #[.pointer (some ⟨b,0,none⟩)] w fun e w'=>e = .returned (.tuple #[])∧w'=w.setCell ⟨b,0,none⟩ (.pointer (some ⟨b,0,none⟩)):=by
 have t76:Tryz.prog.underlying 87=some (.pointer 89):=by kernel_rfl
 have t89:Tryz.prog.underlying 184=some .unsafePointer:=by kernel_rfl
 have hs:(Tryz.prog.info? 89).map (·.size)=some 2:=by kernel_rfl
 obtain⟨j,hj,hjs⟩:=Option.map_eq_some_iff.1 hs
 have hlies:liesAt Tryz.prog Tryz.prog.depth 89 (2 / Tryz.prog.cellsOf 89) 0 89 1=true:=by kernel_rfl
 go_enter Tryz.func89,Tryz.ntmps89
 go_wp2
 rw[Lib.run_to_unsafe w ⟨b,0,none⟩ t76 t89 hj (by rw[hjs];decide) hsh (Nat.zero_lt_succ 1)]
 simp only[Result.andThen]
 rw[Oper.upon_value]
 go_wp2
 rw[run_callFunc_extern Tryz.func137 (by kernel_rfl) (by kernel_rfl) (by kernel_rfl) (e:=Extern.AbiNoEscape.same) (by kernel_rfl)]
 rw[Lib.run_noEscape]
 simp only[Result.andThen]
 rw[Oper.upon_value]
 go_wp2
 rw[Lib.run_from_unsafe w ⟨b,0,none⟩ t89 t76 hj hsh hlies]
 simp only[Result.andThen]
 rw[Oper.upon_value]
 go_wp2
 go_end0
 exact⟨rfl,rfl⟩
end Go.Proofs.YtabkhphoacmcdaaGreatDoor.Pvm
set_option maxRecDepth 1000000
namespace Go.Proofs.YtabkhphoacmcdaaGreatDoor.Pvm
open Go Go.Proofs
def Jx1:List LS:=[.obj 1 [.nps 1 0,.own 21 5 (.int .u8)]]
def JgK(k:Nat){R:Type}(x0:List Int)(K:List Int->Option R): Option R:=K x0
noncomputable def JgI(k:Nat){R:Type}: List PV->List (Nm×HObj)->(Out->Option R)->Option R
 |[.ptr 1 0],[(21,.row 5 (.int .u8) x0),(1,.var 89 [.nps 1 0,.row 21])],K=>JgK k x0 (fun y0=>K (.ret [] [(21,.row 5 (.int .u8) y0),(1,.var 89 [.nps 1 0,.row 21])]))
 |_,_,_=>none
theorem JwR(vs:Array Value)(w:World): (callFunc 89 vs).run Tryz.prog w = .ok (.enter 89 vs) w:=by
 have h1:Tryz.prog.funcs[89]? = some Tryz.f89:=by kernel_rfl
 have h2:(Tryz.f89.name == "runtime.NumGoroutine")=false:=by kernel_rfl
 have h3:Tryz.f89.body.isNone=false:=by kernel_rfl
 unfold callFunc
 rw[Sem.run_bind]
 have e2:(program).run Tryz.prog w = .ok Tryz.prog w:=rfl
 rw[e2,Result.andThen_ok,h1]
 simp only[h2,h3,Bool.false_eq_true,if_false]
 rfl
theorem Jx9(k:Nat){ps:List PV}{hp:List (Nm×HObj)}{R:Type}{K:Out->Option R}{r:R}(h:JgI k ps hp K=some r): DoesTo Tryz.prog 89 ps hp fun out=>K out=some r:=by
 unfold JgI at h
 split at h
 ·next x0 =>
  intro G w vals hr obj dis
  obtain⟨v0,l0,rfl,h0,rfl⟩:=hr
  obtain⟨rfl,_⟩:=h0
  generalize hHP:[(21,HObj.row 5 (.int .u8) x0),(1,.var 89 [.nps 1 0,.row 21])]=HP at *
  have hK:K (.ret [] HP)=some r:=by subst hHP;exact h
  have l1:mkH HP 1=some (.var 89 [.nps 1 0,.row 21]):=by subst hHP;rfl
  have hob:=obj 1 _ l1
  obtain⟨vs,hw,q1,t1,rfl,hq1,q2,t2,rfl,hq2,rfl⟩:=hob
  show Does _ _ #[_] _ _
  unfold Does
  rw[JwR]
  have hcell:w.cell? ⟨G.bk 1,0,none⟩=some q1:=by simp[World.cell?,hw]
  have hlt:G.bk 1<w.heap.size:=(Array.getElem?_eq_some_iff.1 hw).1
  rcases hq1 with rfl|⟨rfl,_⟩
  ·refine Calls.mono (JB6 (G.bk 1) w hcell (by simp[World.shape?,hw]) (by simp[World.frozen?,hw])) fun e w' hh => ?_
   obtain⟨rfl,rfl⟩:=hh
   have oth:∀ b,b≠G.bk 1->(w.setCell ⟨G.bk 1,0,none⟩ (.pointer (some ⟨G.bk 1,0,none⟩))).heap[b]? = w.heap[b]? := fun b hb=>Go.Deep.blk_setCell_other w _ _ b hb
   have bk1:Jd (mkH HP) G 1=some (G.bk 1):=by simp[Jd,l1]
   have C:Carry (mkH HP) G w (mkH HP) G (w.setCell ⟨G.bk 1,0,none⟩ (.pointer (some ⟨G.bk 1,0,none⟩))) .row :=
    ⟨fun b ho _=>⟨ho,oth b fun e=>ho.1 1 (by rw[bk1,e])⟩,fun n t cs hn=>⟨⟨cs,hn⟩,rfl⟩,fun n ag V es hn=>⟨⟨es,hn⟩,rfl⟩,fun b hx _=>⟨.inr hx,oth b fun e=>dis.xo 1 b (by rw[bk1,e]) hx⟩,fun n e K xs hn=>⟨⟨rfl,e,K,xs,hn⟩,fun m hm=>by cases hm;exact⟨e,xs,hn,Nat.le_refl _⟩⟩⟩
   have hq2':=RV.carry C _ _ hq2
   refine⟨.ret [] HP,hK,G,⟨_,rfl,⟨[],rfl,rfl⟩⟩,⟨fun n o hn => ?_,dis.inj,fun n t cs hn o ho => ?_,fun n ag V es hn o ho=>(Jar (by rw[←hHP];rfl) hn).elim,fun b hb hf=>oth b fun e=>hf 1 (by rw[bk1,e]),rfl,fun n b hb => .inl ⟨n,hb⟩,by simp[World.setCell],rfl,rfl,rfl⟩⟩
   ·by_cases hn1:n=1
    ·subst hn1
     rw[show mkH (Out.hs (.ret [] HP)) 1=some (.var 89 [.nps 1 0,.row 21])from l1]at hn
     cases hn
     refine⟨[.pointer (some ⟨G.bk 1,0,none⟩),q2],?_,_,_,rfl,.inr ⟨rfl,89,_,l1⟩,_,_,rfl,hq2',rfl⟩
     have hw2:=(Array.getElem?_eq_some_iff.1 hw).2
     simp only[World.setCell,Array.getElem?_modify,if_pos,hw]
     simp
    ·have hne:∀ b,Jd (mkH HP) G n=some b->b≠G.bk 1:=fun b hb e=>hn1 (dis.inj n 1 b hb (by rw[bk1,e]))
     have:=RO.carry C hn (obj n o hn) (fun b hb=>oth b (hne b hb)) rfl rfl
     rwa [J1A]at this
   ·have e1:Jx HP n=some o:=ho
    rw[hn]at e1;cases e1
    exact⟨⟨cs,rfl⟩,rfl⟩
  ·refine Calls.mono (JBC (G.bk 1) w hcell) fun e w' hh => ?_
   obtain⟨rfl,rfl⟩:=hh
   refine⟨.ret [] HP,hK,G,⟨_,rfl,⟨[],rfl,rfl⟩⟩,⟨obj,dis.inj,fun n t cs hn o ho => ?_,fun n ag V es hn o ho=>(Jar (by rw[←hHP];rfl) hn).elim,fun _ _ _=>rfl,rfl,fun n b hb => .inl ⟨n,hb⟩,Nat.le_refl _,rfl,rfl,rfl⟩⟩
   have e1:Jx HP n=some o:=ho
   rw[hn]at e1;cases e1
   exact⟨⟨cs,rfl⟩,rfl⟩
 ·cases h
end Go.Proofs.YtabkhphoacmcdaaGreatDoor.Pvm
set_option maxHeartbeats 0
namespace Go.Proofs.YtabkhphoacmcdaaGreatDoor.Pvm
open Go Go.Proofs
def JgL:Sh:=⟨[.o 1 89 0 [.p 1 0,.w 21 5 (.int .u8)],.a (.int .u8)],some ([.o 1 89 0 [.p 1 0,.w 21 5 (.int .u8)]],[.ni]),none⟩
def Jxa(k:Nat): Cxt:=⟨[⟨89,Jx1,JgI k⟩],[1],[],[]⟩
def JnD(k:Nat){R:Type}(x0:J6)(x1:Int)(K:(J6->Option R)): Option R:=JgK k x0 (fun y5=>cond (Ju y5.length (@List.length (@Kd.T (@Kd.int Go.IntKind.u8)) [x1]) 1) (K (y5++[x1])) none)
def J2S:=@JnD
theorem JnE(k:Nat): DOK Tryz.prog 254 (JgL.run (@J2S k)):=dok JgL (Jxa k) Tryz.f254 k (ok1 (fun _ _ _ _ _ h=>Jx9 k h) ok0) (by kernel_rfl) (by kernel_rfl) fun R=>by kernel_rfl
def JnF(k:Nat): Ent:=JgL.e 254 (@J2S k)
def J6P:Sh:=⟨[.o 1 200 0 [.a kI,.a kI,.a .str,.a kI,.w 21 157 Jf],.a .str],some ([.o 1 200 0 [.a kI,.a kI,.a .str,.a kI,.w 21 157 Jf]],[.a .str,.a kI]),some ([.o 1 200 0 [.a kI,.a kI,.a .str,.a kI,.w 21 157 Jf]],[.i 29 (.g [.a kI,.a kI])])⟩
abbrev Jhg:Type 1:=(R:Type)->Int->Int->J0->Int->Jc->J0->(Int->Int->J0->Int->Jc->J0->Int->Option R)->(Int->Int->J0->Int->Jc->Int->Int->Option R)->Option R
def JbX:Cu:=⟨1,[0,1,6,7],[.o 1 200 0 [.a kI,.a kI,.a .str,.a kI,.w 21 157 Jf],.r 1 0,.a .str,.o 16 89 0 [.p 16 0,.w 36 5 (.int .u8)],.a kI]⟩
def Jog(k:Nat): Cxt:=⟨[⟨45,JnG,JbM k⟩,Jdh k,JnF k,JAe k],[1],[(1003,JbX.spec)],[]⟩
def JbY(k:Nat){R:Type}(E1003:(Int->Int->J0->Int->Jc->J0->J6->Int->Option R))(s0 s1:Int)(s2:J0)(s3:Int)(s4:Jc)(s5:J0)(s6:J6)(s7:Int)(K:(Int->Int->J0->Int->Jc->J0->Int->Option R))(E:(Int->Int->J0->Int->Jc->Int->Int->Option R)): Option R:=cond (decide (s7<(s5.length:Int))) (cond (inb s7 (s5.length:Int)) (cond (((s5.getD s7.toNat 0).toNat:Int) == 34) (J6l k s6 (fun y13 y14=>K s0 s1 s2 s3 s4 y14 (IntKind.i64.wrap (s7+1)))) (cond (((s5.getD s7.toNat 0).toNat:Int) == 92) (cond (bnd (IntKind.i64.wrap (s7+1)) (s5.length:Int) (s5.length:Int)) (J9A k s0 s1 s2 s3 s4 (cut s5 (IntKind.i64.wrap (s7+1)) (s5.length:Int)) (fun y13 y14 y15 y16 y17 y18 y19=>J2S k s6 y18 (fun y20=>E1003 y13 y14 y15 y16 y17 s5 y20 (IntKind.i64.wrap ((IntKind.i64.wrap (s7+y19))+1)))) E) none) (cond (inb s7 (s5.length:Int)) (J2S k s6 ((s5.getD s7.toNat 0).toNat:Int) (fun y13=>E1003 s0 s1 s2 s3 s4 s5 y13 (IntKind.i64.wrap (s7+1)))) none))) none) (Y5 k s0 s1 s2 s3 s4 3 (fun y13 y14 y15 y16 y17=>K y13 y14 y15 y16 y17 [] 0) E)
def JhB(k:Nat){R:Type}(E1003:(Int->Int->J0->Int->Jc->J0->J6->Int->Option R))(x0 x1:Int)(x2:J0)(x3:Int)(x4:Jc)(x5:J0)(K:(Int->Int->J0->Int->Jc->J0->Int->Option R))(E:(Int->Int->J0->Int->Jc->Int->Int->Option R)): Option R:=E1003 x0 x1 x2 x3 x4 x5 [] 1
def J43(k:Nat){R:Type}: Nat->Int->Int->J0->Int->Jc->J0->J6->Int->(Int->Int->J0->Int->Jc->J0->Int->Option R)->(Int->Int->J0->Int->Jc->Int->Int->Option R)->Option R
 |0,_,_,_,_,_,_,_,_,_,_=>none
 |n+1,s0,s1,s2,s3,s4,s5,s6,s7,K,E=>JbY k (fun s0 s1 s2 s3 s4 s5 s6 s7=>J43 k n s0 s1 s2 s3 s4 s5 s6 s7 K E) s0 s1 s2 s3 s4 s5 s6 s7 K E
theorem Jxd(k:Nat){R:Type}: ∀(I:Nat->St->Option R) (n:Nat),J6P.lp JbX (Jog k).cx k Tryz.f230 1003 [1,1,0,1,0] I n=J43 k n:=J6P.lok JbX (B:=JbY k) (L:=J43 k) (fun I=>by kernel_rfl) (fun I=>by kernel_rfl) (fun n=>by kernel_rfl) (fun _ _ _ _=>rfl)
def J6Q(k:Nat){R:Type}(x0 x1:Int)(x2:J0)(x3:Int)(x4:Jc)(x5:J0)(K:(Int->Int->J0->Int->Jc->J0->Int->Option R))(E:(Int->Int->J0->Int->Jc->Int->Int->Option R)): Option R:=JhB k (fun s0 s1 s2 s3 s4 s5 s6 s7=>J43 k k s0 s1 s2 s3 s4 s5 s6 s7 K E) x0 x1 x2 x3 x4 x5 K E
theorem JzD(k:Nat): DOK Tryz.prog 230 (J6P.run (@J6Q k)):=dok J6P (Jog k) Tryz.f230 k (ok1 (fun _ _ _ _ _ h=>JnK k h) (ok1 (J9z k) (ok1 (JnE k) (ok1 (JAd k) ok0)))) (by kernel_rfl) (by kernel_rfl) fun R=>J6P.f1 JbX (JhB k) (by kernel_rfl) (Jxd k (fun _ _=>none) k) (by kernel_rfl)
def J6R:Sh:=⟨[.o 1 200 0 [.a kI,.a kI,.a .str,.a kI,.w 21 157 Jf],.a .str],some ([.o 1 200 0 [.a kI,.a kI,.a .str,.a kI,.w 21 157 Jf]],[.a .str,.a kI]),some ([.o 1 200 0 [.a kI,.a kI,.a .str,.a kI,.w 21 157 Jf]],[.i 29 (.g [.a kI,.a kI])])⟩
abbrev Jhh:Type 1:=(R:Type)->Int->Int->J0->Int->Jc->J0->(Int->Int->J0->Int->Jc->J0->Int->Option R)->(Int->Int->J0->Int->Jc->Int->Int->Option R)->Option R
def JbZ:Cu:=⟨1,[0,1,6,7],[.o 1 200 0 [.a kI,.a kI,.a .str,.a kI,.w 21 157 Jf],.r 1 0,.a .str,.o 16 89 0 [.p 16 0,.w 36 5 (.int .u8)],.a kI]⟩
def Joh(k:Nat): Cxt:=⟨[⟨45,JnG,JbM k⟩,Jdh k,JnF k],[1],[(1003,JbZ.spec)],[]⟩
def Jc0(k:Nat){R:Type}(E1003:(Int->Int->J0->Int->Jc->J0->J6->Int->Option R))(s0 s1:Int)(s2:J0)(s3:Int)(s4:Jc)(s5:J0)(s6:J6)(s7:Int)(K:(Int->Int->J0->Int->Jc->J0->Int->Option R))(E:(Int->Int->J0->Int->Jc->Int->Int->Option R)): Option R:=cond (decide (s7<(s5.length:Int))) (cond (inb s7 (s5.length:Int)) (cond (((s5.getD s7.toNat 0).toNat:Int) != 39) (cond (inb s7 (s5.length:Int)) (J2S k s6 ((s5.getD s7.toNat 0).toNat:Int) (fun y13=>E1003 s0 s1 s2 s3 s4 s5 y13 (IntKind.i64.wrap (s7+1)))) none) (cond ((!((decide ((IntKind.i64.wrap (s7+1))≥(s5.length:Int))) == false)) || (inb (IntKind.i64.wrap (s7+1)) (s5.length:Int))) (cond (cond (decide ((IntKind.i64.wrap (s7+1))≥(s5.length:Int))) true (((s5.getD (IntKind.i64.wrap (s7+1)).toNat 0).toNat:Int) != 39)) (J6l k s6 (fun y13 y14=>K s0 s1 s2 s3 s4 y14 (IntKind.i64.wrap (s7+1)))) (J2S k s6 39 (fun y13=>E1003 s0 s1 s2 s3 s4 s5 y13 (IntKind.i64.wrap ((IntKind.i64.wrap (s7+1))+1))))) none)) none) (Y5 k s0 s1 s2 s3 s4 3 (fun y13 y14 y15 y16 y17=>K y13 y14 y15 y16 y17 [] 0) E)
def JhC(k:Nat){R:Type}(E1003:(Int->Int->J0->Int->Jc->J0->J6->Int->Option R))(x0 x1:Int)(x2:J0)(x3:Int)(x4:Jc)(x5:J0)(K:(Int->Int->J0->Int->Jc->J0->Int->Option R))(E:(Int->Int->J0->Int->Jc->Int->Int->Option R)): Option R:=E1003 x0 x1 x2 x3 x4 x5 [] 1
def J44(k:Nat){R:Type}: Nat->Int->Int->J0->Int->Jc->J0->J6->Int->(Int->Int->J0->Int->Jc->J0->Int->Option R)->(Int->Int->J0->Int->Jc->Int->Int->Option R)->Option R
 |0,_,_,_,_,_,_,_,_,_,_=>none
 |n+1,s0,s1,s2,s3,s4,s5,s6,s7,K,E=>Jc0 k (fun s0 s1 s2 s3 s4 s5 s6 s7=>J44 k n s0 s1 s2 s3 s4 s5 s6 s7 K E) s0 s1 s2 s3 s4 s5 s6 s7 K E
theorem Jxe(k:Nat){R:Type}: ∀(I:Nat->St->Option R) (n:Nat),J6R.lp JbZ (Joh k).cx k Tryz.f229 1003 [1,1,0,1,0] I n=J44 k n:=J6R.lok JbZ (B:=Jc0 k) (L:=J44 k) (fun I=>by kernel_rfl) (fun I=>by kernel_rfl) (fun n=>by kernel_rfl) (fun _ _ _ _=>rfl)
def J6S(k:Nat){R:Type}(x0 x1:Int)(x2:J0)(x3:Int)(x4:Jc)(x5:J0)(K:(Int->Int->J0->Int->Jc->J0->Int->Option R))(E:(Int->Int->J0->Int->Jc->Int->Int->Option R)): Option R:=JhC k (fun s0 s1 s2 s3 s4 s5 s6 s7=>J44 k k s0 s1 s2 s3 s4 s5 s6 s7 K E) x0 x1 x2 x3 x4 x5 K E
theorem JzE(k:Nat): DOK Tryz.prog 229 (J6R.run (@J6S k)):=dok J6R (Joh k) Tryz.f229 k (ok1 (fun _ _ _ _ _ h=>JnK k h) (ok1 (J9z k) (ok1 (JnE k) ok0))) (by kernel_rfl) (by kernel_rfl) fun R=>J6R.f1 JbZ (JhC k) (by kernel_rfl) (Jxe k (fun _ _=>none) k) (by kernel_rfl)
def JdG:Sh:=⟨[.o 1 200 0 [.a kI,.a kI,.a .str,.a kI,.w 21 157 Jf],.a .str],some ([.o 1 200 0 [.a kI,.a kI,.a .str,.a kI,.w 21 157 Jf]],[]),some ([.o 1 200 0 [.a kI,.a kI,.a .str,.a kI,.w 21 157 Jf]],[.i 29 (.g [.a kI,.a kI])])⟩
def JoN(k:Nat)(U3:Jhz)(J8i:Jke)(QN:JhA)(J8p:JkI)(J6Y:Jhh)(J6Z:Jhg)(J6K:Jh6): Cxt:=⟨[Jdg.e 191 U3,JeX.e 193 J8i,Jdi.e 194 QN,Jf6.e 195 J8p,J6R.e 229 J6Y,J6P.e 230 J6Z,JcB.e 231 J6K],[1],[],[]⟩
def Jid(k:Nat)(U3:Jhz)(J8i:Jke)(QN:JhA)(J8p:JkI)(J6Y:Jhh)(J6Z:Jhg)(J6K:Jh6){R:Type}(x0 x1:Int)(x2:J0)(x3:Int)(x4:Jc)(x5:J0)(K:(Int->Int->J0->Int->Jc->Option R))(E:(Int->Int->J0->Int->Jc->Int->Int->Option R)): Option R:=cond (inb 0 (x5.length:Int)) (cond (((x5.getD (Int.toNat 0) 0).toNat:Int) == 39) (J6Y R x0 x1 x2 x3 x4 x5 (fun y10 y11 y12 y13 y14 y15 y16=>cond (y16 != (x5.length:Int)) (U3 R y10 y11 y12 y13 y14 3 (fun y17 y18 y19 y20 y21=>cond (decide ((y15.length:Int)>200)) (U3 R y17 y18 y19 y20 y21 4 (fun y22 y23 y24 y25 y26=>QN R y22 y23 y24 y25 y26 3 y15 true y16 K) E) (QN R y17 y18 y19 y20 y21 3 y15 true y16 K)) E) (cond (decide ((y15.length:Int)>200)) (U3 R y10 y11 y12 y13 y14 4 (fun y17 y18 y19 y20 y21=>QN R y17 y18 y19 y20 y21 3 y15 true y16 K) E) (QN R y10 y11 y12 y13 y14 3 y15 true y16 K))) E) (cond (((x5.getD (Int.toNat 0) 0).toNat:Int) == 34) (J6Z R x0 x1 x2 x3 x4 x5 (fun y10 y11 y12 y13 y14 y15 y16=>cond (y16 != (x5.length:Int)) (U3 R y10 y11 y12 y13 y14 3 (fun y17 y18 y19 y20 y21=>cond (decide ((y15.length:Int)>200)) (U3 R y17 y18 y19 y20 y21 4 (fun y22 y23 y24 y25 y26=>QN R y22 y23 y24 y25 y26 3 y15 true y16 K) E) (QN R y17 y18 y19 y20 y21 3 y15 true y16 K)) E) (cond (decide ((y15.length:Int)>200)) (U3 R y10 y11 y12 y13 y14 4 (fun y17 y18 y19 y20 y21=>QN R y17 y18 y19 y20 y21 3 y15 true y16 K) E) (QN R y10 y11 y12 y13 y14 3 y15 true y16 K))) E) (cond (inb 0 (x5.length:Int)) (J6K R [91,93,123,125,38,42,33,124,62,37,64,44,63,96] ((x5.getD (Int.toNat 0) 0).toNat:Int) (fun y10=>cond ((decide (y10≥0)) == false) (J8i R x5 (fun y11=>cond (y11 == false) (J8p R x5 (fun y12=>cond (!(y12 == [])) (U3 R x0 x1 x2 x3 x4 4 (fun y13 y14 y15 y16 y17=>cond ((x5.length:Int) != (x5.length:Int)) (U3 R y13 y14 y15 y16 y17 3 (fun y18 y19 y20 y21 y22=>cond (decide ((x5.length:Int)>200)) (U3 R y18 y19 y20 y21 y22 4 (fun y23 y24 y25 y26 y27=>QN R y23 y24 y25 y26 y27 3 x5 false (x5.length:Int) K) E) (QN R y18 y19 y20 y21 y22 3 x5 false (x5.length:Int) K)) E) (cond (decide ((x5.length:Int)>200)) (U3 R y13 y14 y15 y16 y17 4 (fun y18 y19 y20 y21 y22=>QN R y18 y19 y20 y21 y22 3 x5 false (x5.length:Int) K) E) (QN R y13 y14 y15 y16 y17 3 x5 false (x5.length:Int) K))) E) (cond ((x5.length:Int) != (x5.length:Int)) (U3 R x0 x1 x2 x3 x4 3 (fun y13 y14 y15 y16 y17=>cond (decide ((x5.length:Int)>200)) (U3 R y13 y14 y15 y16 y17 4 (fun y18 y19 y20 y21 y22=>QN R y18 y19 y20 y21 y22 3 x5 false (x5.length:Int) K) E) (QN R y13 y14 y15 y16 y17 3 x5 false (x5.length:Int) K)) E) (cond (decide ((x5.length:Int)>200)) (U3 R x0 x1 x2 x3 x4 4 (fun y13 y14 y15 y16 y17=>QN R y13 y14 y15 y16 y17 3 x5 false (x5.length:Int) K) E) (QN R x0 x1 x2 x3 x4 3 x5 false (x5.length:Int) K))))) (U3 R x0 x1 x2 x3 x4 4 (fun y12 y13 y14 y15 y16=>cond ((x5.length:Int) != (x5.length:Int)) (U3 R y12 y13 y14 y15 y16 3 (fun y17 y18 y19 y20 y21=>cond (decide ((x5.length:Int)>200)) (U3 R y17 y18 y19 y20 y21 4 (fun y22 y23 y24 y25 y26=>QN R y22 y23 y24 y25 y26 3 x5 false (x5.length:Int) K) E) (QN R y17 y18 y19 y20 y21 3 x5 false (x5.length:Int) K)) E) (cond (decide ((x5.length:Int)>200)) (U3 R y12 y13 y14 y15 y16 4 (fun y17 y18 y19 y20 y21=>QN R y17 y18 y19 y20 y21 3 x5 false (x5.length:Int) K) E) (QN R y12 y13 y14 y15 y16 3 x5 false (x5.length:Int) K))) E))) (U3 R x0 x1 x2 x3 x4 4 (fun y11 y12 y13 y14 y15=>cond ((x5.length:Int) != (x5.length:Int)) (U3 R y11 y12 y13 y14 y15 3 (fun y16 y17 y18 y19 y20=>cond (decide ((x5.length:Int)>200)) (U3 R y16 y17 y18 y19 y20 4 (fun y21 y22 y23 y24 y25=>QN R y21 y22 y23 y24 y25 3 x5 false (x5.length:Int) K) E) (QN R y16 y17 y18 y19 y20 3 x5 false (x5.length:Int) K)) E) (cond (decide ((x5.length:Int)>200)) (U3 R y11 y12 y13 y14 y15 4 (fun y16 y17 y18 y19 y20=>QN R y16 y17 y18 y19 y20 3 x5 false (x5.length:Int) K) E) (QN R y11 y12 y13 y14 y15 3 x5 false (x5.length:Int) K))) E))) none))) none
theorem JAG(k:Nat)(U3:Jhz)(J8i:Jke)(QN:JhA)(J8p:JkI)(J6Y:Jhh)(J6Z:Jhg)(J6K:Jh6)(R:Type): JdG.at (JoN k U3 J8i QN J8p J6Y J6Z J6K) k Tryz.f196 R=@Jid k U3 J8i QN J8p J6Y J6Z J6K R:=by kernel_rfl
def J3a(k:Nat){R:Type}:= @Jid k (@Y5 k) (@J3o k) (@J0Q k) (@J2o k) (@J6S k) (@J6Q k) (@Zw k) R
theorem JAH(k:Nat): DOK Tryz.prog 196 (JdG.run (@J3a k)):=dok JdG (JoN k (@Y5 k) (@J3o k) (@J0Q k) (@J2o k) (@J6S k) (@J6Q k) (@Zw k)) Tryz.f196 k (ok1 (J9z k) (ok1 (Jst k) (ok1 (JoB k) (ok1 (Jti k) (ok1 (JzE k) (ok1 (JzD k) (ok1 (Jo9 k) ok0))))))) (by kernel_rfl) (by kernel_rfl) fun R=>JAG k (@Y5 k) (@J3o k) (@J0Q k) (@J2o k) (@J6S k) (@J6Q k) (@Zw k) R
def JAI(k:Nat): Ent:=JdG.e 196 (@J3a k)
def J4P:Sh:=⟨[.o 1 200 0 [.a kI,.a kI,.a .str,.a kI,.w 21 157 Jf]],some ([.o 1 200 0 [.a kI,.a kI,.a .str,.a kI,.w 21 157 Jf]],[]),some ([.o 1 200 0 [.a kI,.a kI,.a .str,.a kI,.w 21 157 Jf]],[.i 29 (.g [.a kI,.a kI])])⟩
def Jcr:Cu:=⟨1,[0,2],[.o 1 200 0 [.a kI,.a kI,.a .str,.a kI,.w 21 157 Jf],.r 1 0,.a .str]⟩
def Jp4(k:Nat): Cxt:=⟨[Jdh k,JAF k,JFS k,JAb k,JGR k,JAI k],[1],[(1003,Jcr.spec)],[]⟩
def Jh7(k:Nat){R:Type}(E1003:(Int->Int->J0->Int->Jc->J0->Option R))(s0 s1:Int)(s2:J0)(s3:Int)(s4:Jc)(s5:J0)(K:(Int->Int->J0->Int->Jc->Option R))(E:(Int->Int->J0->Int->Jc->Int->Int->Option R)): Option R:=J3o k s5 (fun y11=>cond y11 (J0Q k s0 s1 s2 s3 s4 1 [] false 1 (fun y12 y13 y14 y15 y16=>J23 k y12 y13 y14 y15 y16 E1003)) (J2o k s5 (fun y12=>cond (!(y12 == [])) (cond (decide ((y12.length:Int)>64)) (Y5 k s0 s1 s2 s3 s4 5 (fun y13 y14 y15 y16 y17=>J0Q k y13 y14 y15 y16 y17 2 y12 false (IntKind.i64.wrap ((y12.length:Int)+1)) (fun y18 y19 y20 y21 y22=>J23 k y18 y19 y20 y21 y22 (fun y23 y24 y25 y26 y27 y28=>cond (!(y28 == [])) (J3a k y23 y24 y25 y26 y27 y28 K E) (K y23 y24 y25 y26 y27)))) E) (J0Q k s0 s1 s2 s3 s4 2 y12 false (IntKind.i64.wrap ((y12.length:Int)+1)) (fun y13 y14 y15 y16 y17=>J23 k y13 y14 y15 y16 y17 (fun y18 y19 y20 y21 y22 y23=>cond (!(y23 == [])) (J3a k y18 y19 y20 y21 y22 y23 K E) (K y18 y19 y20 y21 y22))))) (cond (!(s5 == [])) (J3a k s0 s1 s2 s3 s4 s5 K E) (K s0 s1 s2 s3 s4)))))
def Jio(k:Nat){R:Type}(E1003:(Int->Int->J0->Int->Jc->J0->Option R))(x0 x1:Int)(x2:J0)(x3:Int)(x4:Jc)(K:(Int->Int->J0->Int->Jc->Option R))(E:(Int->Int->J0->Int->Jc->Int->Int->Option R)): Option R:=cond (cond (decide (x1<0)) true (decide (x1>16384))) (Y5 k x0 x1 x2 x3 x4 6 (fun y10 y11 y12 y13 y14=>J23 k y10 y11 y12 y13 y14 E1003) E) (J23 k x0 x1 x2 x3 x4 E1003)
def J48(k:Nat){R:Type}: Nat->Int->Int->J0->Int->Jc->J0->(Int->Int->J0->Int->Jc->Option R)->(Int->Int->J0->Int->Jc->Int->Int->Option R)->Option R
 |0,_,_,_,_,_,_,_,_=>none
 |n+1,s0,s1,s2,s3,s4,s5,K,E=>Jh7 k (fun s0 s1 s2 s3 s4 s5=>J48 k n s0 s1 s2 s3 s4 s5 K E) s0 s1 s2 s3 s4 s5 K E
theorem Jxv(k:Nat){R:Type}: ∀(I:Nat->St->Option R) (n:Nat),J4P.lp Jcr (Jp4 k).cx k Tryz.f150 1003 [1,1,0,0] I n=J48 k n:=J4P.lok Jcr (B:=Jh7 k) (L:=J48 k) (fun I=>by kernel_rfl) (fun I=>by kernel_rfl) (fun n=>by kernel_rfl) (fun _ _ _ _=>rfl)
def JdW(k:Nat){R:Type}(x0 x1:Int)(x2:J0)(x3:Int)(x4:Jc)(K:(Int->Int->J0->Int->Jc->Option R))(E:(Int->Int->J0->Int->Jc->Int->Int->Option R)): Option R:=Jio k (fun s0 s1 s2 s3 s4 s5=>J48 k k s0 s1 s2 s3 s4 s5 K E) x0 x1 x2 x3 x4 K E
theorem JB7(k:Nat): DOK Tryz.prog 150 (J4P.run (@JdW k)):=dok J4P (Jp4 k) Tryz.f150 k (ok1 (J9z k) (ok1 (JAE k) (ok1 (Jst k) (ok1 (JoB k) (ok1 (Jti k) (ok1 (JAH k) ok0)))))) (by kernel_rfl) (by kernel_rfl) fun R=>J4P.f1 Jcr (Jio k) (by kernel_rfl) (Jxv k (fun _ _=>none) k) (by kernel_rfl)
def JrK:List LS:=[.ag [.any,.any,.any]]
def Jtj(k:Nat): CTab:=(CTab.add 150 J4P.sig (J4P.run (@JdW k)) CTab.nil)
noncomputable def JjG{R:Type}(K:((List QS)->Int->Int->Option R)): Out->Option R
 |.ret [.v (.sl (.pr (.int .i64) (.pr (.int .i64) (.pr (.int .i64) (.pr .str .bool))))) y0,.agg [.v (.int .i64) y1,.v (.int .i64) y2]] []=>K y0 y1 y2
 |_=>none
def Jsu:RetSpec:=⟨[.sl (.pr (.int .i64) (.pr (.int .i64) (.pr (.int .i64) (.pr .str .bool)))),.ag [.any,.any]],[],[]⟩
def JDG:List (Nat×CutSpec):=[]
def JCn:List (Nat×Plan):=[]
def JkJ(k:Nat): Ctx:=⟨tyT,JDG,Jtj k,[2,3],[],JCn,@SH⟩
def J2h:Code:=Tryz.f100.body.getD .skip
noncomputable def Jew(k:Nat){R:Type}: PV->List PV->List (Nm×HObj)->(Out->Option R)->Option R
 |.nilif,[.ptr 1 0,.ptr 2 0],[(1,.var 110 [.v (.sl (.pr (.int .i64) (.pr (.int .i64) (.pr (.int .i64) (.pr .str .bool))))) x0]),(2,.var 29 [.v (.int .i64) x1,.v (.int .i64) x2])],K=>J9N k x0 x1 x2 (fun y0 y1 y2=>K (.ret [] [(1,.var 110 [.v (.sl (.pr (.int .i64) (.pr (.int .i64) (.pr (.int .i64) (.pr .str .bool))))) y0]),(2,.var 29 [.v (.int .i64) y1,.v (.int .i64) y2])]))
 |.ifc 29 (.agg [.v (.int .i64) x3,.v (.int .i64) x4]),[.ptr 1 0,.ptr 2 0],[(1,.var 110 [.v (.sl (.pr (.int .i64) (.pr (.int .i64) (.pr (.int .i64) (.pr .str .bool))))) x0]),(2,.var 29 [.v (.int .i64) x1,.v (.int .i64) x2])],K=>J9O k x0 x1 x2 x3 x4 (fun y0 y1 y2=>K (.ret [] [(1,.var 110 [.v (.sl (.pr (.int .i64) (.pr (.int .i64) (.pr (.int .i64) (.pr .str .bool))))) y0]),(2,.var 29 [.v (.int .i64) y1,.v (.int .i64) y2])]))
 |_,_,_,_=>none
def Jle(k:Nat){R:Type}(x0 x1:Int)(x2:(List UInt8))(K:((List QS)->Int->Int->Option R)): Option R:=JdW k x0 x1 x2 0 [] (fun y6 y7 y8 y9 y10=>J9N k y10 0 0 K) (fun y6 y7 y8 y9 y10 y11 y12=>J9O k [] 0 0 y11 y12 K)
theorem JDH(k:Nat){R:Type}(I:Nat->St->Option R)(x0 x1:Int)(x2:(List UInt8))(K:((List QS)->Int->Int->Option R)): J3L (JkJ k) k [300,400] [at_ [0] J2h] (Zk (at_ [1,0] J2h)) (at_ [1,1] J2h) 16 [.cell 2 110,.cell 3 29] Jsu (Jew k) Jq4 [(300,0),(400,0)] [.agg [.v (.int .i64) x0,.v (.int .i64) x1,.v .str x2]] [] (JjG K)=Jle k x0 x1 x2 K:=by kernel_rfl
def J8m(k:Nat){R:Type}(x0 x1:Int)(x2:(List UInt8))(K:((List QS)->Int->Int->Option R)): Option R:=Jle k x0 x1 x2 K
theorem JDI(k:Nat){R:Type}(x0 x1:Int)(x2:(List UInt8))(K:((List QS)->Int->Int->Option R)): J3L (JkJ k) k [300,400] [at_ [0] J2h] (Zk (at_ [1,0] J2h)) (at_ [1,1] J2h) 16 [.cell 2 110,.cell 3 29] Jsu (Jew k) Jq4 [(300,0),(400,0)] [.agg [.v (.int .i64) x0,.v (.int .i64) x1,.v .str x2]] [] (JjG K)=J8m k x0 x1 x2 K:=by
 exact JDH k (fun _ _=>none) x0 x1 x2 K
noncomputable def JeN(k:Nat){R:Type}: List PV->List (Nm×HObj)->(Out->Option R)->Option R
 |[.agg [.v (.int .i64) x0,.v (.int .i64) x1,.v .str x2]],[],K=>J8m k x0 x1 x2 (fun y0 y1 y2=>K (.ret [.v (.sl (.pr (.int .i64) (.pr (.int .i64) (.pr (.int .i64) (.pr .str .bool))))) y0,.agg [.v (.int .i64) y1,.v (.int .i64) y2]] []))
 |_,_,_=>none
theorem JDJ(k:Nat): (Jtj k).Ok Tryz.prog:=(J8D (JB7 k) CTab.nil_ok)
theorem JB8(k:Nat){R:Type}(rec:PV)(ps:List PV)(hp:List (Nm×HObj))(K:Out->Option R)(r:R)(h:Jew k rec ps hp K=some r): DoesToD Tryz.prog 149 rec ps hp fun out=>K out=some r:=by
 unfold Jew at h
 split at h
 ·exact JBA k h
 ·exact JBB k h
 ·cases h
theorem Jtk(k:Nat){ps:List PV}{hp:List (Nm×HObj)}{R:Type}{K:Out->Option R}{r:R}(h:JeN k ps hp K=some r): DoesTo Tryz.prog 100 ps hp fun out=>K out=some r:=by
 unfold JeN at h
 split at h
 ·rw[←JDI]at h
  have:=Jma (P:=Tryz.prog) (cx:=JkJ k) (f:=100) ⟨J18,JDJ k,fun _ _=>rfl⟩ (by kernel_rfl) (fn:=Tryz.f100) (id:=1) (pre:=[at_ [0] J2h]) (rest:=at_ [1,1] J2h) (ops:=Zk (at_ [1,0] J2h)) (by kernel_rfl) (by kernel_rfl) (by kernel_rfl) (rs:=[.cell 2 110,.cell 3 29]) (by kernel_rfl) (by kernel_rfl) (by kernel_rfl) (g:=149) (s:=5) (xs:=[.tmp 2,.tmp 3]) (by kernel_rfl) (Invokes.of (fn:=Tryz.f149) (by kernel_rfl) (c:=Tryz.f149.body.getD .skip) (by kernel_rfl) (by kernel_rfl)) (JB8 k) h
  exact this.mono fun out ho=>by
   unfold JjG at ho
   split at ho<;>first|exact ho|cases ho
 ·cases h
def J7D:Sh:=⟨[.a .str,.a kI],some ([],[.a kI,.a .bool]),none⟩
def JcW:Cu:=⟨0,[0,6,7],[.a .str,.a (.int .u8),.a kI]⟩
def Jq7(k:Nat): Cxt:=⟨[],[],[(1003,JcW.spec)],[]⟩
def JhD(k:Nat){R:Type}(E1003:(J0->Int->Int->Option R))(s0:J0)(s1 s2:Int)(K:(Int->Bool->Option R)): Option R:=cond (decide (s2<(s0.length:Int))) (cond ((!((s1 == 34) == true)) || (inb s2 (s0.length:Int))) (cond (cond (s1 == 34) (((s0.getD s2.toNat 0).toNat:Int) == 92) false) (E1003 s0 s1 (IntKind.i64.wrap ((IntKind.i64.wrap (s2+1))+1))) (cond (inb s2 (s0.length:Int)) (cond (((s0.getD s2.toNat 0).toNat:Int) != s1) (E1003 s0 s1 (IntKind.i64.wrap (s2+1))) (cond ((!((cond (s1 == 39) (decide ((IntKind.i64.wrap (s2+1))<(s0.length:Int))) false) == true)) || (inb (IntKind.i64.wrap (s2+1)) (s0.length:Int))) (cond (cond (cond (s1 == 39) (decide ((IntKind.i64.wrap (s2+1))<(s0.length:Int))) false) (((s0.getD (IntKind.i64.wrap (s2+1)).toNat 0).toNat:Int) == s1) false) (E1003 s0 s1 (IntKind.i64.wrap ((IntKind.i64.wrap (s2+1))+1))) (K s2 true)) none)) none)) none) (K 0 false)
def Jjb(k:Nat){R:Type}(E1003:(J0->Int->Int->Option R))(x0:J0)(x1:Int)(K:(Int->Bool->Option R)): Option R:=cond (inb x1 (x0.length:Int)) (E1003 x0 ((x0.getD x1.toNat 0).toNat:Int) (IntKind.i64.wrap (x1+1))) none
def J6T(k:Nat){R:Type}: Nat->J0->Int->Int->(Int->Bool->Option R)->Option R
 |0,_,_,_,_=>none
 |n+1,s0,s1,s2,K=>JhD k (fun s0 s1 s2=>J6T k n s0 s1 s2 K) s0 s1 s2 K
theorem Jy1(k:Nat){R:Type}: ∀(I:Nat->St->Option R) (n:Nat),J7D.lp JcW (Jq7 k).cx k Tryz.f147 1003 [1,1,0,1,0] I n=J6T k n:=J7D.lok JcW (B:=JhD k) (L:=J6T k) (fun I=>by kernel_rfl) (fun I=>by kernel_rfl) (fun n=>by kernel_rfl) (fun _ _ _ _=>rfl)
def J7E(k:Nat){R:Type}(x0:J0)(x1:Int)(K:(Int->Bool->Option R)): Option R:=Jjb k (fun s0 s1 s2=>J6T k k s0 s1 s2 K) x0 x1 K
theorem JCo(k:Nat): DOK Tryz.prog 147 (J7D.run (@J7E k)):=dok J7D (Jq7 k) Tryz.f147 k ok0 (by kernel_rfl) (by kernel_rfl) fun R=>J7D.f1 JcW (Jjb k) (by kernel_rfl) (Jy1 k (fun _ _=>none) k) (by kernel_rfl)
def JCp(k:Nat): Ent:=J7D.e 147 (@J7E k)
def J6p:Sh:=⟨[.a .str,.a (.int .u8)],some ([],[.a .str]),none⟩
def JbK:Cu:=⟨0,[0,1],[.a .str,.a (.int .u8)]⟩
def JnP(k:Nat): Cxt:=⟨[],[],[(1001,JbK.spec)],[]⟩
def JgJ(k:Nat){R:Type}(E1001:(J0->Int->Option R))(s0:J0)(s1:Int)(K:(J0->Option R)): Option R:=cond ((!((decide ((s0.length:Int)>0)) == true)) || (inb (IntKind.i64.wrap ((s0.length:Int)-1)) (s0.length:Int))) (cond (cond (decide ((s0.length:Int)>0)) (((s0.getD (IntKind.i64.wrap ((s0.length:Int)-1)).toNat 0).toNat:Int) == s1) false) (cond (bnd 0 (IntKind.i64.wrap ((s0.length:Int)-1)) (s0.length:Int)) (E1001 (cut s0 0 (IntKind.i64.wrap ((s0.length:Int)-1))) s1) none) (K s0)) none
def JgR(k:Nat){R:Type}(E1001:(J0->Int->Option R))(x0:J0)(x1:Int)(K:(J0->Option R)): Option R:=E1001 x0 x1
def J6b(k:Nat){R:Type}: Nat->J0->Int->(J0->Option R)->Option R
 |0,_,_,_=>none
 |n+1,s0,s1,K=>JgJ k (fun s0 s1=>J6b k n s0 s1 K) s0 s1 K
theorem JwX(k:Nat){R:Type}: ∀(I:Nat->St->Option R) (n:Nat),J6p.lp JbK (JnP k).cx k Tryz.f188 1001 [1,0,0] I n=J6b k n:=J6p.lok JbK (B:=JgJ k) (L:=J6b k) (fun I=>by kernel_rfl) (fun I=>by kernel_rfl) (fun n=>by kernel_rfl) (fun _ _ _ _=>rfl)
def Jc1(k:Nat){R:Type}(x0:J0)(x1:Int)(K:(J0->Option R)): Option R:=JgR k (fun s0 s1=>J6b k k s0 s1 K) x0 x1 K
theorem Jxw(k:Nat): DOK Tryz.prog 188 (J6p.run (@Jc1 k)):=dok J6p (JnP k) Tryz.f188 k ok0 (by kernel_rfl) (by kernel_rfl) fun R=>J6p.f1 JbK (JgR k) (by kernel_rfl) (JwX k (fun _ _=>none) k) (by kernel_rfl)
def Jxx(k:Nat): Ent:=J6p.e 188 (@Jc1 k)
def Jhi:Sh:=⟨[.a .str,.j],some ([],[.a .str]),none⟩
def Jz2(k:Nat): Cxt:=⟨[Jxx k],[],[],[]⟩
def Joa(k:Nat){R:Type}(x0:J0)(x1:UInt8)(K:(J0->Option R)): Option R:=cond (cond (x0 == []) true ([x1] == [])) (K x0) (cond (cond ((@List.length UInt8 [x1]:Int) == 1) (decide (((([x1]).getD (Int.toNat 0) 0).toNat:Int)<128)) false) (Jc1 k x0 ((([x1]).getD (Int.toNat 0) 0).toNat:Int) K) none)
def J6F:=@Joa
theorem Jz3(k:Nat): DOK Tryz.prog 148 (Jhi.run (@J6F k)):=dok Jhi (Jz2 k) Tryz.f148 k (ok1 (Jxw k) ok0) (by kernel_rfl) (by kernel_rfl) fun R=>by kernel_rfl
def Jz4(k:Nat): Ent:=Jhi.e 148 (@J6F k)
def J7Q:Sh:=⟨[.a .str],some ([],[.a .str,.a .bool]),none⟩
def Jdj:Cu:=⟨0,[0,4,5],[.a .str,.a kI,.a kI]⟩
def JqQ(k:Nat): Cxt:=⟨[JCp k,Jz4 k],[],[(1003,Jdj.spec)],[]⟩
def JhZ(k:Nat){R:Type}(E1003:(J0->Int->Int->Option R))(s0:J0)(s1 s2:Int)(K:(J0->Bool->Option R)): Option R:=cond (decide (s2<(s0.length:Int))) (cond ((!((decide (s2>0)) == true)) || (inb (IntKind.i64.wrap (s2-1)) (s0.length:Int))) (cond (cond (decide (s2>0)) (((s0.getD (IntKind.i64.wrap (s2-1)).toNat 0).toNat:Int) != 32) false) (E1003 s0 s1 (IntKind.i64.wrap (s2+1))) (cond (inb s2 (s0.length:Int)) (cond (((s0.getD s2.toNat 0).toNat:Int) == 35) (cond (bnd 0 s2 (s0.length:Int)) (J6F k (cut s0 0 s2) 32 (fun y7=>K y7 true)) none) (cond (((s0.getD s2.toNat 0).toNat:Int) == 39) (J7E k s0 s2 (fun y7 y8=>cond (!y8) (K [] false) (E1003 s0 s1 (IntKind.i64.wrap (y7+1))))) (cond (((s0.getD s2.toNat 0).toNat:Int) == 34) (J7E k s0 s2 (fun y7 y8=>cond (!y8) (K [] false) (E1003 s0 s1 (IntKind.i64.wrap (y7+1))))) (E1003 s0 s1 (IntKind.i64.wrap (s2+1)))))) none)) none) (cond (bnd 0 s1 (s0.length:Int)) (J6F k (cut s0 0 s1) 32 (fun y7=>K y7 true)) none)
def JjH(k:Nat){R:Type}(E1003:(J0->Int->Int->Option R))(x0:J0)(K:(J0->Bool->Option R)): Option R:=E1003 x0 (x0.length:Int) 0
def J1t(k:Nat){R:Type}: Nat->J0->Int->Int->(J0->Bool->Option R)->Option R
 |0,_,_,_,_=>none
 |n+1,s0,s1,s2,K=>JhZ k (fun s0 s1 s2=>J1t k n s0 s1 s2 K) s0 s1 s2 K
theorem Jyu(k:Nat){R:Type}: ∀(I:Nat->St->Option R) (n:Nat),J7Q.lp Jdj (JqQ k).cx k Tryz.f99 1003 [1,0,1,1,0,1,0] I n=J1t k n:=J7Q.lok Jdj (B:=JhZ k) (L:=J1t k) (fun I=>by kernel_rfl) (fun I=>by kernel_rfl) (fun n=>by kernel_rfl) (fun _ _ _ _=>rfl)
def J7R(k:Nat){R:Type}(x0:J0)(K:(J0->Bool->Option R)): Option R:=JjH k (fun s0 s1 s2=>J1t k k s0 s1 s2 K) x0 K
theorem JqR(k:Nat): DOK Tryz.prog 99 (J7Q.run (@J7R k)):=dok J7Q (JqQ k) Tryz.f99 k (ok1 (JCo k) (ok1 (Jz3 k) ok0)) (by kernel_rfl) (by kernel_rfl) fun R=>J7Q.f1 Jdj (JjH k) (by kernel_rfl) (Jyu k (fun _ _=>none) k) (by kernel_rfl)
def JqS(k:Nat): Ent:=J7Q.e 99 (@J7R k)
def J7S:Sh:=⟨[.a .str],some ([],[.a .bool]),none⟩
def Jdk:Cu:=⟨0,[0,9,10],[.a .str,.a kI,.a kI]⟩
def JqT(k:Nat): Cxt:=⟨[JqS k,⟨100,JrK,JeN k⟩],[],[(1002,Jdk.spec)],[]⟩
def Jdl(k:Nat){R:Type}(E1002:(J0->Int->Int->Option R))(s0:J0)(s1 s2:Int)(K:(Bool->Option R)): Option R:=cond (decide (s2<s1)) (cond (inb s2 (s0.length:Int)) (cond ((!((decide (((s0.getD s2.toNat 0).toNat:Int)<32)) == false)) || (inb s2 (s0.length:Int))) (cond (cond (decide (((s0.getD s2.toNat 0).toNat:Int)<32)) true (((s0.getD s2.toNat 0).toNat:Int) == 127)) (K false) (E1002 s0 s1 (IntKind.i64.wrap (s2+1)))) none) none) (J7R k s0 (fun y7 y8=>cond (cond (cond (s0 == []) true (!y8)) true (!(y7 == s0))) (K false) (J8m k 0 0 s0 (fun y9 y10 y11=>cond ((!((cond (y10 == 0) ((y9.length:Int) == 1) false) == true)) || (inb 0 (y9.length:Int))) (cond ((!((cond (cond (y10 == 0) ((y9.length:Int) == 1) false) ((y9.getD (Int.toNat 0) Jf.zero).1 == 3) false) == true)) || (inb 0 (y9.length:Int))) (cond ((!((cond (cond (cond (y10 == 0) ((y9.length:Int) == 1) false) ((y9.getD (Int.toNat 0) Jf.zero).1 == 3) false) (((((y9.getD (Int.toNat 0) Jf.zero).2).2).2).1 == s0) false) == true)) || (inb 0 (y9.length:Int))) (K (cond (cond (cond (cond (y10 == 0) ((y9.length:Int) == 1) false) ((y9.getD (Int.toNat 0) Jf.zero).1 == 3) false) (((((y9.getD (Int.toNat 0) Jf.zero).2).2).2).1 == s0) false) (!((((y9.getD (Int.toNat 0) Jf.zero).2).2).2).2) false)) none) none) none))))
def JjI(k:Nat){R:Type}(E1002:(J0->Int->Int->Option R))(x0:J0)(K:(Bool->Option R)): Option R:=E1002 x0 (x0.length:Int) 0
def J4u(k:Nat){R:Type}: Nat->J0->Int->Int->(Bool->Option R)->Option R
 |0,_,_,_,_=>none
 |n+1,s0,s1,s2,K=>Jdl k (fun s0 s1 s2=>J4u k n s0 s1 s2 K) s0 s1 s2 K
theorem Jyv(k:Nat){R:Type}: ∀(I:Nat->St->Option R) (n:Nat),J7S.lp Jdk (JqT k).cx k Tryz.f164 1002 [1,0,1,0] I n=J4u k n:=J7S.lok Jdk (B:=Jdl k) (L:=J4u k) (fun I=>by kernel_rfl) (fun I=>by kernel_rfl) (fun n=>by kernel_rfl) (fun _ _ _ _=>rfl)
def Ja4(k:Nat){R:Type}(x0:J0)(K:(Bool->Option R)): Option R:=JjI k (fun s0 s1 s2=>J4u k k s0 s1 s2 K) x0 K
theorem JDK(k:Nat): DOK Tryz.prog 164 (J7S.run (@Ja4 k)):=dok J7S (JqT k) Tryz.f164 k (ok1 (JqR k) (ok1 (fun _ _ _ _ _ h=>Jtk k h) ok0)) (by kernel_rfl) (by kernel_rfl) fun R=>J7S.f1 Jdk (JjI k) (by kernel_rfl) (Jyv k (fun _ _=>none) k) (by kernel_rfl)
def JDL(k:Nat): Ent:=J7S.e 164 (@Ja4 k)
def JkK:Sh:=⟨[.g [.a kI,.a kI,.a .str,.a .bool,.s .str,.s kI]],some ([],[.a .bool]),none⟩
def JFU(k:Nat): Cxt:=⟨[JDL k,JDD k],[],[],[]⟩
def Jsv(k:Nat){R:Type}(x0 x1:Int)(x2:J0)(x3:Bool)(x4:Jt)(x5:J6)(K:(Bool->Option R)): Option R:=cond (x0 == 1) (cond ((cond (cond ((x4.length:Int) == 0) ((x5.length:Int) == 0) false) (decide ((x2.length:Int)≤200)) false) == true) (cond (x3 == false) (Ja4 k x2 K) (K true)) (K false)) (cond (x0 == 2) (K (cond (cond (cond (x2 == []) (!x3) false) ((x4.length:Int) == 0) false) (decide ((x5.length:Int)>0)) false)) (cond (x0 == 3) (cond ((cond (cond (cond (x2 == []) (!x3) false) (decide ((x5.length:Int)>0)) false) ((x4.length:Int) == (x5.length:Int)) false) == true) (Ja3 k x4 K) (K false)) (K false)))
def Jam:=@Jsv
theorem JFV(k:Nat): DOK Tryz.prog 111 (JkK.run (@Jam k)):=dok JkK (JFU k) Tryz.f111 k (ok1 (JDK k) (ok1 (JDC k) ok0)) (by kernel_rfl) (by kernel_rfl) fun R=>by kernel_rfl
def JFW(k:Nat): Ent:=JkK.e 111 (@Jam k)
def J01:Sh:=⟨[.g [.s J4],.a kI,.a kI],some ([],[.a kI]),none⟩
abbrev J57:Type 1:=(R:Type)->J3->Int->Int->(Int->Option R)->Option R
def J7g:Cu:=⟨0,[2,3,7,35,36,37],[.a kI,.o 13 38 0 [.s J4],.a kI,.s kI,.a kI,.a kI]⟩
def JeO(k:Nat)(YT:J57): Cxt:=⟨[J01.e 68 YT,JFW k],[],[(1005,J7g.spec)],[]⟩
def JdH(k:Nat)(YT:J57){R:Type}(E1005:(Int->J3->Int->J6->Int->Int->Option R))(s0:Int)(s1:J3)(s2:Int)(s3:J6)(s4 s5:Int)(K:(Int->Option R)): Option R:=cond (decide (s5<s4)) (cond (inb s5 (s3.length:Int)) (cond ((s3.getD s5.toNat kI.zero) != s2) (K (-(1:Int))) (YT R s1 (s3.getD s5.toNat kI.zero) (IntKind.i64.wrap (s0+1)) (fun y10=>cond (decide (y10<0)) (K (-(1:Int))) (E1005 s0 s1 y10 s3 s4 (IntKind.i64.wrap (s5+1)))))) none) (K s2)
def Jae(k:Nat)(YT:J57){R:Type}(E1005:(Int->J3->Int->J6->Int->Int->Option R))(x0:J3)(x1 x2:Int)(K:(Int->Option R)): Option R:=cond ((!((cond (decide (x1≥(x0.length:Int))) true (decide (x2>24))) == false)) || (inb x1 (x0.length:Int))) (cond ((cond (decide (x1≥(x0.length:Int))) true (decide (x2>24))) == false) (Jam k (x0.getD x1.toNat J4.zero).1 (x0.getD x1.toNat J4.zero).2.1 (x0.getD x1.toNat J4.zero).2.2.1 (x0.getD x1.toNat J4.zero).2.2.2.1 (x0.getD x1.toNat J4.zero).2.2.2.2.1 (x0.getD x1.toNat J4.zero).2.2.2.2.2 (fun y7=>cond (!y7) (K (-(1:Int))) (cond (inb x1 (x0.length:Int)) (E1005 x2 x0 (IntKind.i64.wrap (x1+1)) (x0.getD x1.toNat J4.zero).2.2.2.2.2 (((x0.getD x1.toNat J4.zero).2.2.2.2.2).length:Int) 0) none))) (K (-(1:Int)))) none
def J4G(k:Nat)(YT:J57){R:Type}: Nat->Int->J3->Int->J6->Int->Int->(Int->Option R)->Option R
 |0,_,_,_,_,_,_,_=>none
 |n+1,s0,s1,s2,s3,s4,s5,K=>JdH k YT (fun s0 s1 s2 s3 s4 s5=>J4G k YT n s0 s1 s2 s3 s4 s5 K) s0 s1 s2 s3 s4 s5 K
theorem Jz5(k:Nat)(YT:J57){R:Type}: ∀(I:Nat->St->Option R) (n:Nat),J01.lp J7g (JeO k YT).cx k Tryz.f68 1005 [1,1,1,0,1,0] I n=J4G k YT n:=J01.lok J7g (B:=JdH k YT) (L:=J4G k YT) (fun I=>by kernel_rfl) (fun I=>by kernel_rfl) (fun n=>by kernel_rfl) (fun _ _ _ _=>rfl)
theorem JES(k:Nat)(YT:J57)(R:Type): J01.at (JeO k YT) k Tryz.f68 R=J01.glue (l:=J01.ps) (u:=J7g.fs) (fun E1005=>@Jae k YT R E1005) (J01.lp J7g (JeO k YT).cx k Tryz.f68 1005 [1,1,1,0,1,0] (fun _ _=>none) k):=by kernel_rfl
def J0X:Nat->J57
 |0,_,_,_,_,_=>none
 |k+1,R,x0,x1,x2,K=>Jae k (J0X k) (fun s0 s1 s2 s3 s4 s5=>J4G k (J0X k) k s0 s1 s2 s3 s4 s5 K) x0 x1 x2 K
def JeP(k:Nat){R:Type}(x0:J3)(x1 x2:Int)(K:(Int->Option R)): Option R:=J0X k R x0 x1 x2 K
theorem JDM(k:Nat): DOK Tryz.prog 68 (J01.run (J0X k)):=by
 induction k with
 |zero=>exact J01.ok0 fun R=>by kernel_rfl
 |succ k ih =>
  have ih_show_walk:=ih
  exact dok J01 (JeO k (J0X k)) Tryz.f68 k (ok1 ih_show_walk (ok1 (JFV k) ok0)) (by kernel_rfl) (by kernel_rfl) fun R=>J01.f1 J7g (Jae k (J0X k)) (JES k (J0X k) R) (Jz5 k (J0X k) (fun _ _=>none) k) (by kernel_rfl)
theorem JET(k:Nat): DOK Tryz.prog 68 (J01.run (@JeP k)):=(JDM k)
def JEU(k:Nat): Ent:=J01.e 68 (@JeP k)
def Jex:Sh:=⟨[.g [.s J4]],some ([],[.a kI]),none⟩
def JDN(k:Nat): Cxt:=⟨[JEU k],[],[],[(1,(.of [(0,1),(1,1),(2,1),(3,1),(4,1),(5,1),(6,1),(7,1),(8,1),(9,1),(10,1),(13,1),(11,1),(14,2),(15,1),(12,0),(16,1),(17,1)] .done))]⟩
def JqU(k:Nat){R:Type}(x0:J3)(K:(Int->Option R)): Option R:=cond ((cond (decide ((x0.length:Int)<1)) true (decide ((x0.length:Int)>2000))) == false) (JeP k x0 0 1 (fun y4=>cond (y4 != (x0.length:Int)) (K 1) (K 0))) (K 1)
def Ja5:=@JqU
theorem JDO(k:Nat): DOK Tryz.prog 35 (Jex.run (@Ja5 k)):=dok Jex (JDN k) Tryz.f35 k (ok1 (JET k) ok0) (by kernel_rfl) (by kernel_rfl) fun R=>by kernel_rfl
def Jq8:List LS:=[.ag [.sl (.pr (.int .i64) (.pr (.int .i64) (.pr .str (.pr .bool (.pr (.sl .str) (.sl (.int .i64)))))))]]
def JrL(k:Nat): CTab:=(CTab.add 35 Jex.sig (Jex.run (@Ja5 k)) (CTab.add 37 J0M.sig (J0M.run (@J9o k)) CTab.nil))
noncomputable def JiI{R:Type}(K:((List ((List UInt8)×(List Int)))->(List Uc)->Int->Int->Option R)): Out->Option R
 |.ret [.agg [.v (.sl (.pr .str (.sl (.int .i64)))) y0,.v (.sl (.pr .str (.pr .str (.pr .bool (.pr (.int .i64) (.pr (.int .i64) (.pr .bool (.pr (.pr .str (.pr (.int .i64) (.pr (.int .i64) (.pr .flt (.pr .bool .bool))))) (.sl (.int .i64)))))))))) y1],.agg [.v (.int .i64) y2,.v (.int .i64) y3]] []=>K y0 y1 y2 y3
 |_=>none
def JqV:RetSpec:=⟨[.ag [.sl (.pr .str (.sl (.int .i64))),.sl (.pr .str (.pr .str (.pr .bool (.pr (.int .i64) (.pr (.int .i64) (.pr .bool (.pr (.pr .str (.pr (.int .i64) (.pr (.int .i64) (.pr .flt (.pr .bool .bool))))) (.sl (.int .i64)))))))))],.ag [.any,.any]],[],[]⟩
def JBD:List (Nat×CutSpec):=[]
def JB9:List (Nat×Plan):=[]
def JjJ(k:Nat): Ctx:=⟨tyT,JBD,JrL k,[2,3],[],JB9,@SH⟩
def J0j:Code:=Tryz.f16.body.getD .skip
noncomputable def Je8(k:Nat){R:Type}: PV->List PV->List (Nm×HObj)->(Out->Option R)->Option R
 |.nilif,[.ptr 1 0,.ptr 2 0],[(1,.var 27 [.v (.sl (.pr .str (.sl (.int .i64)))) x0,.v (.sl (.pr .str (.pr .str (.pr .bool (.pr (.int .i64) (.pr (.int .i64) (.pr .bool (.pr (.pr .str (.pr (.int .i64) (.pr (.int .i64) (.pr .flt (.pr .bool .bool))))) (.sl (.int .i64)))))))))) x1]),(2,.var 29 [.v (.int .i64) x2,.v (.int .i64) x3])],K=>J9E k x0 x1 x2 x3 (fun y0 y1 y2 y3=>K (.ret [] [(1,.var 27 [.v (.sl (.pr .str (.sl (.int .i64)))) y0,.v (.sl (.pr .str (.pr .str (.pr .bool (.pr (.int .i64) (.pr (.int .i64) (.pr .bool (.pr (.pr .str (.pr (.int .i64) (.pr (.int .i64) (.pr .flt (.pr .bool .bool))))) (.sl (.int .i64)))))))))) y1]),(2,.var 29 [.v (.int .i64) y2,.v (.int .i64) y3])]))
 |.ifc 29 (.agg [.v (.int .i64) x4,.v (.int .i64) x5]),[.ptr 1 0,.ptr 2 0],[(1,.var 27 [.v (.sl (.pr .str (.sl (.int .i64)))) x0,.v (.sl (.pr .str (.pr .str (.pr .bool (.pr (.int .i64) (.pr (.int .i64) (.pr .bool (.pr (.pr .str (.pr (.int .i64) (.pr (.int .i64) (.pr .flt (.pr .bool .bool))))) (.sl (.int .i64)))))))))) x1]),(2,.var 29 [.v (.int .i64) x2,.v (.int .i64) x3])],K=>J9F k x0 x1 x2 x3 x4 x5 (fun y0 y1 y2 y3=>K (.ret [] [(1,.var 27 [.v (.sl (.pr .str (.sl (.int .i64)))) y0,.v (.sl (.pr .str (.pr .str (.pr .bool (.pr (.int .i64) (.pr (.int .i64) (.pr .bool (.pr (.pr .str (.pr (.int .i64) (.pr (.int .i64) (.pr .flt (.pr .bool .bool))))) (.sl (.int .i64)))))))))) y1]),(2,.var 29 [.v (.int .i64) y2,.v (.int .i64) y3])]))
 |_,_,_,_=>none
def Jkf(k:Nat){R:Type}(x0:(List QL))(K:((List ((List UInt8)×(List Int)))->(List Uc)->Int->Int->Option R)): Option R:=Ja5 k x0 (fun y4=>cond (y4 != 0) (K [] [] 11 0) (J9o k x0 [] [] 0 (fun y5 y6 y7 y8=>J9E k y6 y7 0 0 K) (fun y5 y6 y7 y8 y9 y10=>J9F k [] [] 0 0 y9 y10 K)))
theorem JBE(k:Nat){R:Type}(I:Nat->St->Option R)(x0:(List QL))(K:((List ((List UInt8)×(List Int)))->(List Uc)->Int->Int->Option R)): J3L (JjJ k) k [300,400] [at_ [0] J0j,at_ [1,0] J0j] (Zk (at_ [1,1,0] J0j)) (at_ [1,1,1] J0j) 22 [.cell 2 27,.cell 3 29] JqV (Je8 k) JoX [(300,0),(400,0)] [.agg [.v (.sl (.pr (.int .i64) (.pr (.int .i64) (.pr .str (.pr .bool (.pr (.sl .str) (.sl (.int .i64)))))))) x0]] [] (JiI K)=Jkf k x0 K:=by kernel_rfl
def J3k(k:Nat){R:Type}(x0:(List QL))(K:((List ((List UInt8)×(List Int)))->(List Uc)->Int->Int->Option R)): Option R:=Jkf k x0 K
theorem JBF(k:Nat){R:Type}(x0:(List QL))(K:((List ((List UInt8)×(List Int)))->(List Uc)->Int->Int->Option R)): J3L (JjJ k) k [300,400] [at_ [0] J0j,at_ [1,0] J0j] (Zk (at_ [1,1,0] J0j)) (at_ [1,1,1] J0j) 22 [.cell 2 27,.cell 3 29] JqV (Je8 k) JoX [(300,0),(400,0)] [.agg [.v (.sl (.pr (.int .i64) (.pr (.int .i64) (.pr .str (.pr .bool (.pr (.sl .str) (.sl (.int .i64)))))))) x0]] [] (JiI K)=J3k k x0 K:=by
 exact JBE k (fun _ _=>none) x0 K
noncomputable def Jej(k:Nat){R:Type}: List PV->List (Nm×HObj)->(Out->Option R)->Option R
 |[.agg [.v (.sl (.pr (.int .i64) (.pr (.int .i64) (.pr .str (.pr .bool (.pr (.sl .str) (.sl (.int .i64)))))))) x0]],[],K=>J3k k x0 (fun y0 y1 y2 y3=>K (.ret [.agg [.v (.sl (.pr .str (.sl (.int .i64)))) y0,.v (.sl (.pr .str (.pr .str (.pr .bool (.pr (.int .i64) (.pr (.int .i64) (.pr .bool (.pr (.pr .str (.pr (.int .i64) (.pr (.int .i64) (.pr .flt (.pr .bool .bool))))) (.sl (.int .i64)))))))))) y1],.agg [.v (.int .i64) y2,.v (.int .i64) y3]] []))
 |_,_,_=>none
theorem JBG(k:Nat): (JrL k).Ok Tryz.prog:=(J8D (JDO k) (J8D (Jys k) CTab.nil_ok))
theorem JAf(k:Nat){R:Type}(rec:PV)(ps:List PV)(hp:List (Nm×HObj))(K:Out->Option R)(r:R)(h:Je8 k rec ps hp K=some r): DoesToD Tryz.prog 36 rec ps hp fun out=>K out=some r:=by
 unfold Je8 at h
 split at h
 ·exact JAu k h
 ·exact JAv k h
 ·cases h
theorem JrM(k:Nat){ps:List PV}{hp:List (Nm×HObj)}{R:Type}{K:Out->Option R}{r:R}(h:Jej k ps hp K=some r): DoesTo Tryz.prog 16 ps hp fun out=>K out=some r:=by
 unfold Jej at h
 split at h
 ·rw[←JBF]at h
  have:=Jma (P:=Tryz.prog) (cx:=JjJ k) (f:=16) ⟨J18,JBG k,fun _ _=>rfl⟩ (by kernel_rfl) (fn:=Tryz.f16) (id:=3) (pre:=[at_ [0] J0j,at_ [1,0] J0j]) (rest:=at_ [1,1,1] J0j) (ops:=Zk (at_ [1,1,0] J0j)) (by kernel_rfl) (by kernel_rfl) (by kernel_rfl) (rs:=[.cell 2 27,.cell 3 29]) (by kernel_rfl) (by kernel_rfl) (by kernel_rfl) (g:=36) (s:=10) (xs:=[.tmp 2,.tmp 3]) (by kernel_rfl) (Invokes.of (fn:=Tryz.f36) (by kernel_rfl) (c:=Tryz.f36.body.getD .skip) (by kernel_rfl) (by kernel_rfl)) (JAf k) h
  exact this.mono fun out ho=>by
   unfold JiI at ho
   split at ho<;>first|exact ho|cases ho
 ·cases h
def JqW:List LS:=[.obj 1 [.sl (.pr (.int .i64) (.pr (.int .i64) (.pr .str (.pr .bool (.pr (.sl .str) (.sl (.int .i64)))))))],.obj 2 [.any,.any]]
def JqX(k:Nat): CTab:=CTab.nil
noncomputable def Jip{R:Type}(K:((List QL)->Int->Int->Option R)): Out->Option R
 |.ret [] [(1,.var 38 [.v (.sl (.pr (.int .i64) (.pr (.int .i64) (.pr .str (.pr .bool (.pr (.sl .str) (.sl (.int .i64)))))))) y0]),(2,.var 29 [.v (.int .i64) y1,.v (.int .i64) y2])]=>K y0 y1 y2
 |_=>none
def Jq9:RetSpec:=⟨[],[(1,.obj 1 [.sl (.pr (.int .i64) (.pr (.int .i64) (.pr .str (.pr .bool (.pr (.sl .str) (.sl (.int .i64)))))))]),(2,.obj 2 [.any,.any])],[]⟩
def JBa:List (Nat×CutSpec):=[]
def JAJ:List (Nat×Plan):=[(7,(.of [(0,1),(1,2),(2,0),(3,0)] .done))]
def Jjc(k:Nat): Ctx:=⟨tyT,JBa,JqX k,[],[1,2],JAJ,@SH⟩
def JdX:Code:=Tryz.f101.body.getD .skip
def JqY(k:Nat){R:Type}(x0:(List QL))(x1 x2:Int)(K:((List QL)->Int->Int->Option R)): Option R:=K x0 x1 x2
theorem JBb(k:Nat){R:Type}(I:Nat->St->Option R)(x0:(List QL))(x1 x2:Int)(K:((List QL)->Int->Int->Option R)): ZK (Jjc k) k (at_ [1] JdX) 13 [] Jq9 [.ptr 1 0,.ptr 2 0] 5 (.nilif) [(1,.var 38 [.v (.sl (.pr (.int .i64) (.pr (.int .i64) (.pr .str (.pr .bool (.pr (.sl .str) (.sl (.int .i64)))))))) x0]),(2,.var 29 [.v (.int .i64) x1,.v (.int .i64) x2])] (Jip K)=JqY k x0 x1 x2 K:=by kernel_rfl
def Ja6(k:Nat){R:Type}(x0:(List QL))(x1 x2:Int)(K:((List QL)->Int->Int->Option R)): Option R:=JqY k x0 x1 x2 K
theorem JBc(k:Nat){R:Type}(x0:(List QL))(x1 x2:Int)(K:((List QL)->Int->Int->Option R)): ZK (Jjc k) k (at_ [1] JdX) 13 [] Jq9 [.ptr 1 0,.ptr 2 0] 5 (.nilif) [(1,.var 38 [.v (.sl (.pr (.int .i64) (.pr (.int .i64) (.pr .str (.pr .bool (.pr (.sl .str) (.sl (.int .i64)))))))) x0]),(2,.var 29 [.v (.int .i64) x1,.v (.int .i64) x2])] (Jip K)=Ja6 k x0 x1 x2 K:=by
 exact JBb k (fun _ _=>none) x0 x1 x2 K
noncomputable def Jpo(k:Nat){R:Type}: PV->List PV->List (Nm×HObj)->(Out->Option R)->Option R
 |.nilif,[.ptr 1 0,.ptr 2 0],[(1,.var 38 [.v (.sl (.pr (.int .i64) (.pr (.int .i64) (.pr .str (.pr .bool (.pr (.sl .str) (.sl (.int .i64)))))))) x0]),(2,.var 29 [.v (.int .i64) x1,.v (.int .i64) x2])],K=>Ja6 k x0 x1 x2 (fun y0 y1 y2=>K (.ret [] [(1,.var 38 [.v (.sl (.pr (.int .i64) (.pr (.int .i64) (.pr .str (.pr .bool (.pr (.sl .str) (.sl (.int .i64)))))))) y0]),(2,.var 29 [.v (.int .i64) y1,.v (.int .i64) y2])]))
 |_,_,_,_=>none
theorem JBd(k:Nat): (JqX k).Ok Tryz.prog:=CTab.nil_ok
theorem JCq(k:Nat){rec:PV}{ps:List PV}{hp:List (Nm×HObj)}{R:Type}{K:Out->Option R}{r:R}(h:Jpo k rec ps hp K=some r): DoesToD Tryz.prog 101 rec ps hp fun out=>K out=some r:=by
 unfold Jpo at h
 split at h
 ·rw[←JBc]at h
  have:=J8C (P:=Tryz.prog) (cx:=Jjc k) (f:=101) ⟨J18,JBd k,fun _ _=>rfl⟩ (by kernel_rfl) (fn:=Tryz.f101) (id:=0) (ops:=Zk (at_ [0] JdX)) (c:=at_ [1] JdX) (by kernel_rfl) (by kernel_rfl) (by kernel_rfl) (rs:=[]) (by kernel_rfl) (by kernel_rfl) h
  exact this.mono fun out ho=>by
   unfold Jip at ho
   split at ho<;>first|exact ho|cases ho
 ·cases h
def JqZ(k:Nat): CTab:=CTab.nil
noncomputable def Jiq{R:Type}(K:((List QL)->Int->Int->Option R)): Out->Option R
 |.ret [] [(1,.var 38 [.v (.sl (.pr (.int .i64) (.pr (.int .i64) (.pr .str (.pr .bool (.pr (.sl .str) (.sl (.int .i64)))))))) y0]),(2,.var 29 [.v (.int .i64) y1,.v (.int .i64) y2])]=>K y0 y1 y2
 |_=>none
def Jqa:RetSpec:=⟨[],[(1,.obj 1 [.sl (.pr (.int .i64) (.pr (.int .i64) (.pr .str (.pr .bool (.pr (.sl .str) (.sl (.int .i64)))))))]),(2,.obj 2 [.any,.any])],[]⟩
def JBe:List (Nat×CutSpec):=[]
def JAK:List (Nat×Plan):=[(7,(.of [(0,1),(1,2),(2,0),(3,0)] .done))]
def Jjd(k:Nat): Ctx:=⟨tyT,JBe,JqZ k,[],[1,2],JAK,@SH⟩
def JdY:Code:=Tryz.f101.body.getD .skip
def Jr0(k:Nat){R:Type}(x0:(List QL))(x1 x2 x3 x4:Int)(K:((List QL)->Int->Int->Option R)): Option R:=K [] x3 x4
theorem JBf(k:Nat){R:Type}(I:Nat->St->Option R)(x0:(List QL))(x1 x2 x3 x4:Int)(K:((List QL)->Int->Int->Option R)): ZK (Jjd k) k (at_ [1] JdY) 13 [] Jqa [.ptr 1 0,.ptr 2 0] 5 (.ifc 29 (.agg [.v (.int .i64) x3,.v (.int .i64) x4])) [(1,.var 38 [.v (.sl (.pr (.int .i64) (.pr (.int .i64) (.pr .str (.pr .bool (.pr (.sl .str) (.sl (.int .i64)))))))) x0]),(2,.var 29 [.v (.int .i64) x1,.v (.int .i64) x2])] (Jiq K)=Jr0 k x0 x1 x2 x3 x4 K:=by kernel_rfl
def J58(k:Nat){R:Type}(x0:(List QL))(x1 x2 x3 x4:Int)(K:((List QL)->Int->Int->Option R)): Option R:=Jr0 k x0 x1 x2 x3 x4 K
theorem JBg(k:Nat){R:Type}(x0:(List QL))(x1 x2 x3 x4:Int)(K:((List QL)->Int->Int->Option R)): ZK (Jjd k) k (at_ [1] JdY) 13 [] Jqa [.ptr 1 0,.ptr 2 0] 5 (.ifc 29 (.agg [.v (.int .i64) x3,.v (.int .i64) x4])) [(1,.var 38 [.v (.sl (.pr (.int .i64) (.pr (.int .i64) (.pr .str (.pr .bool (.pr (.sl .str) (.sl (.int .i64)))))))) x0]),(2,.var 29 [.v (.int .i64) x1,.v (.int .i64) x2])] (Jiq K)=J58 k x0 x1 x2 x3 x4 K:=by
 exact JBf k (fun _ _=>none) x0 x1 x2 x3 x4 K
noncomputable def Jpp(k:Nat){R:Type}: PV->List PV->List (Nm×HObj)->(Out->Option R)->Option R
 |.ifc 29 (.agg [.v (.int .i64) x3,.v (.int .i64) x4]),[.ptr 1 0,.ptr 2 0],[(1,.var 38 [.v (.sl (.pr (.int .i64) (.pr (.int .i64) (.pr .str (.pr .bool (.pr (.sl .str) (.sl (.int .i64)))))))) x0]),(2,.var 29 [.v (.int .i64) x1,.v (.int .i64) x2])],K=>J58 k x0 x1 x2 x3 x4 (fun y0 y1 y2=>K (.ret [] [(1,.var 38 [.v (.sl (.pr (.int .i64) (.pr (.int .i64) (.pr .str (.pr .bool (.pr (.sl .str) (.sl (.int .i64)))))))) y0]),(2,.var 29 [.v (.int .i64) y1,.v (.int .i64) y2])]))
 |_,_,_,_=>none
theorem JBh(k:Nat): (JqZ k).Ok Tryz.prog:=CTab.nil_ok
theorem JCr(k:Nat){rec:PV}{ps:List PV}{hp:List (Nm×HObj)}{R:Type}{K:Out->Option R}{r:R}(h:Jpp k rec ps hp K=some r): DoesToD Tryz.prog 101 rec ps hp fun out=>K out=some r:=by
 unfold Jpp at h
 split at h
 ·rw[←JBg]at h
  have:=J8C (P:=Tryz.prog) (cx:=Jjd k) (f:=101) ⟨J18,JBh k,fun _ _=>rfl⟩ (by kernel_rfl) (fn:=Tryz.f101) (id:=0) (ops:=Zk (at_ [0] JdY)) (c:=at_ [1] JdY) (by kernel_rfl) (by kernel_rfl) (by kernel_rfl) (rs:=[]) (by kernel_rfl) (by kernel_rfl) h
  exact this.mono fun out ho=>by
   unfold Jiq at ho
   split at ho<;>first|exact ho|cases ho
 ·cases h
def Jaf:Sh:=⟨[.a kI,.a kI],none,some ([],[.i 29 (.g [.a kI,.a kI])])⟩
def JEV(k:Nat): Cxt:=⟨[],[],[],[]⟩
def JEW(k:Nat){R:Type}(x0 x1:Int)(E:(Int->Int->Option R)): Option R:=E x0 x1
def J0q:=@JEW
theorem JeQ(k:Nat): DOK Tryz.prog 102 (Jaf.run (@J0q k)):=dok Jaf (JEV k) Tryz.f102 k ok0 (by kernel_rfl) (by kernel_rfl) fun R=>by kernel_rfl
def Jkg(k:Nat): Ent:=Jaf.e 102 (@J0q k)
def Ji0:Sh:=⟨[.o 1 155 0 [.s Jf,.w 21 73 J4],.a kI,.a kI],some ([.o 1 155 0 [.s Jf,.w 21 73 J4]],[.a .bool]),none⟩
def JAg(k:Nat): Cxt:=⟨[],[1],[],[]⟩
def JoD(k:Nat){R:Type}(x0:Jc)(x1:J3)(x2 x3:Int)(K:(Jc->J3->Bool->Option R)): Option R:=cond ((!((decide ((x0.length:Int)>0)) == true)) || (inb 0 (x0.length:Int))) (cond ((!((cond (decide ((x0.length:Int)>0)) ((x0.getD (Int.toNat 0) Jf.zero).1 == x2) false) == true)) || (inb 0 (x0.length:Int))) (K x0 x1 (cond (cond (decide ((x0.length:Int)>0)) ((x0.getD (Int.toNat 0) Jf.zero).1 == x2) false) ((((x0.getD (Int.toNat 0) Jf.zero).2).2).1 == x3) false)) none) none
def J75:=@JoD
theorem JoE(k:Nat): DOK Tryz.prog 197 (Ji0.run (@J75 k)):=dok Ji0 (JAg k) Tryz.f197 k ok0 (by kernel_rfl) (by kernel_rfl) fun R=>by kernel_rfl
def JoF(k:Nat): Ent:=Ji0.e 197 (@J75 k)
def Ji1:Sh:=⟨[.o 1 155 0 [.s Jf,.w 21 73 J4]],some ([.o 1 155 0 [.s Jf,.w 21 73 J4]],[.g [.a kI,.a kI,.a kI,.a .str,.a .bool]]),none⟩
def JAh(k:Nat): Cxt:=⟨[],[1],[],[]⟩
def JoG(k:Nat){R:Type}(x0:Jc)(x1:J3)(K:(Jc->J3->Int->Int->Int->J0->Bool->Option R)): Option R:=cond (inb 0 (x0.length:Int)) (cond (bnd 1 (x0.length:Int) (x0.length:Int)) (K (cut x0 1 (x0.length:Int)) x1 (x0.getD (Int.toNat 0) Jf.zero).1 ((x0.getD (Int.toNat 0) Jf.zero).2).1 (((x0.getD (Int.toNat 0) Jf.zero).2).2).1 ((((x0.getD (Int.toNat 0) Jf.zero).2).2).2).1 ((((x0.getD (Int.toNat 0) Jf.zero).2).2).2).2) none) none
def J4v:=@JoG
theorem Ji2(k:Nat): DOK Tryz.prog 151 (Ji1.run (@J4v k)):=dok Ji1 (JAh k) Tryz.f151 k ok0 (by kernel_rfl) (by kernel_rfl) fun R=>by kernel_rfl
def Ji3(k:Nat): Ent:=Ji1.e 151 (@J4v k)
section
def J33:Sh:=⟨[.o 1 155 0 [.s Jf,.w 21 73 J4],.a kI],some ([.o 1 155 0 [.s Jf,.w 21 73 J4]],[.a kI]),some ([.o 1 155 0 [.s Jf,.w 21 73 J4]],[.i 29 (.g [.a kI,.a kI])])⟩
abbrev Y1:Type 1:=(R:Type)->Jc->J3->Int->(Jc->J3->Int->Option R)->(Jc->J3->Int->Int->Option R)->Option R
def J0R:Sh:=⟨[.o 1 155 0 [.s Jf,.w 21 73 J4],.a kI,.a kI,.a kI],some ([.o 1 155 0 [.s Jf,.w 21 73 J4]],[]),some ([.o 1 155 0 [.s Jf,.w 21 73 J4]],[.i 29 (.g [.a kI,.a kI])])⟩
abbrev Y4:Type 1:=(R:Type)->Jc->J3->Int->Int->Int->(Jc->J3->Option R)->(Jc->J3->Int->Int->Option R)->Option R
def J0P:Sh:=⟨[.o 1 155 0 [.s Jf,.w 21 73 J4],.a kI,.a kI,.a kI],some ([.o 1 155 0 [.s Jf,.w 21 73 J4]],[]),some ([.o 1 155 0 [.s Jf,.w 21 73 J4]],[.i 29 (.g [.a kI,.a kI])])⟩
abbrev Y2:Type 1:=(R:Type)->Jc->J3->Int->Int->Int->(Jc->J3->Option R)->(Jc->J3->Int->Int->Option R)->Option R
def J6U:Sh:=⟨[.o 1 155 0 [.s Jf,.w 21 73 J4],.g [.a kI,.a kI,.a kI,.a .str,.a .bool],.a kI],some ([.o 1 155 0 [.s Jf,.w 21 73 J4]],[.a kI]),some ([.o 1 155 0 [.s Jf,.w 21 73 J4]],[.i 29 (.g [.a kI,.a kI])])⟩
abbrev Y3:Type 1:=(R:Type)->Jc->J3->Int->Int->Int->J0->Bool->Int->(Jc->J3->Int->Option R)->(Jc->J3->Int->Int->Option R)->Option R
def Joi(k:Nat)(Q9:Y1)(Qb:Y4)(Qa:Y2)(Q3:Y3): Cxt:=⟨[Jkg k,Ji3 k,J0R.e 152 Qb,J0P.e 153 Qa],[1],[],[(9,(.of [(0,1),(1,1),(2,1),(3,1),(4,1),(6,1),(5,1),(7,1),(8,1),(9,0),(10,0),(11,1),(12,1),(13,1),(14,0)] .done)),(14,(.of [(0,1),(1,1),(2,1),(3,1),(5,1),(6,1),(8,1),(10,1),(4,1),(7,1),(9,1),(11,1),(12,1),(13,1),(14,0)] .done))]⟩
def JhE(k:Nat)(Q9:Y1)(Qb:Y4)(Qa:Y2)(Q3:Y3){R:Type}(x0:Jc)(x1:J3)(x2:Int)(K:(Jc->J3->Int->Option R))(E:(Jc->J3->Int->Int->Option R)): Option R:=cond (inb 0 (x0.length:Int)) (cond (cond (decide ((x0.getD (Int.toNat 0) Jf.zero).1<1)) true (decide ((x0.getD (Int.toNat 0) Jf.zero).1>3))) (J0q k 6 ((x0.getD (Int.toNat 0) Jf.zero).2).1 (fun y7 y8=>E x0 x1 y7 y8)) (cond (decide (x2>24)) (J0q k 8 ((x0.getD (Int.toNat 0) Jf.zero).2).1 (fun y7 y8=>E x0 x1 y7 y8)) (cond (decide ((x1.length:Int)≥2000)) (J0q k 9 ((x0.getD (Int.toNat 0) Jf.zero).2).1 (fun y7 y8=>E x0 x1 y7 y8)) (cond (Ju x1.length (@List.length (@Kd.T J4) [((0:(@Kd.T kI)),(((x0.getD (Int.toNat 0) Jf.zero).2).1,([],(false,([],[])))))]) 88) (cond ((x0.getD (Int.toNat 0) Jf.zero).1 == 3) (J4v k x0 (x1++[(0,(((x0.getD (Int.toNat 0) Jf.zero).2).1,([],(false,([],[])))))]) (fun y7 y8 y9 y10 y11 y12 y13=>cond (inb (x1.length:Int) (y8.length:Int)) (@SH (@List (@Kd.T J4)) R (List.set y8 (x1.length:Int).toNat (1,(((x0.getD (Int.toNat 0) Jf.zero).2).1,(((((x0.getD (Int.toNat 0) Jf.zero).2).2).2).1,(((((x0.getD (Int.toNat 0) Jf.zero).2).2).2).2,([],[])))))) (fun y14=>K y7 y14 (x1.length:Int))) none)) (cond ((x0.getD (Int.toNat 0) Jf.zero).1 == 1) (Qb R x0 (x1++[(0,(((x0.getD (Int.toNat 0) Jf.zero).2).1,([],(false,([],[])))))]) (x1.length:Int) (((x0.getD (Int.toNat 0) Jf.zero).2).2).1 x2 (fun y7 y8=>K y7 y8 (x1.length:Int)) E) (Qa R x0 (x1++[(0,(((x0.getD (Int.toNat 0) Jf.zero).2).1,([],(false,([],[])))))]) (x1.length:Int) (((x0.getD (Int.toNat 0) Jf.zero).2).2).1 x2 (fun y7 y8=>K y7 y8 (x1.length:Int)) E))) none)))) none
theorem JzF(k:Nat)(Q9:Y1)(Qb:Y4)(Qa:Y2)(Q3:Y3)(R:Type): J33.at (Joi k Q9 Qb Qa Q3) k Tryz.f103 R=@JhE k Q9 Qb Qa Q3 R:=by kernel_rfl
def J6t:Cu:=⟨1,[0,1,2,3,8],[.o 1 155 0 [.s Jf,.w 21 73 J4],.r 1 0,.a kI,.a kI,.a kI,.w 100008 3 kI]⟩
def Jdm(k:Nat)(Q9:Y1)(Qb:Y4)(Qa:Y2)(Q3:Y3): Cxt:=⟨[Ji3 k,JoF k,J6U.e 198 Q3],[1],[(1001,J6t.spec)],[(3,(.of [(0,1),(1,1),(2,1),(3,1),(5,1),(6,1),(7,1),(8,1),(9,1),(11,1),(12,1),(4,1),(10,1),(13,1),(14,1),(15,0),(16,1),(17,1),(18,0)] .done))]⟩
def JgW(k:Nat)(Q9:Y1)(Qb:Y4)(Qa:Y2)(Q3:Y3){R:Type}(E1001:(Jc->J3->Int->Int->Int->J6->Option R))(s0:Jc)(s1:J3)(s2 s3 s4:Int)(s5:J6)(K:(Jc->J3->Option R))(E:(Jc->J3->Int->Int->Option R)): Option R:=J75 k s0 s1 1 s3 (fun y11 y12 y13=>cond y13 (J4v k y11 y12 (fun y14 y15 y16 y17 y18 y19 y20=>Q3 R y14 y15 y16 y17 y18 y19 y20 s4 (fun y21 y22 y23=>cond (Ju s5.length (@List.length (@Kd.T kI) [y23]) 8) (E1001 y21 y22 s2 s3 s4 (s5++[y23])) none) E)) (cond (inb s2 (y12.length:Int)) (@SH (@List (@Kd.T J4)) R (List.set y12 s2.toNat (2,((y12.getD s2.toNat J4.zero).2.1,((y12.getD s2.toNat J4.zero).2.2.1,((y12.getD s2.toNat J4.zero).2.2.2.1,((y12.getD s2.toNat J4.zero).2.2.2.2.1,(y12.getD s2.toNat J4.zero).2.2.2.2.2)))))) (fun y14=>cond (inb s2 (y14.length:Int)) (@SH (@List (@Kd.T J4)) R (List.set y14 s2.toNat ((y14.getD s2.toNat J4.zero).1,((y14.getD s2.toNat J4.zero).2.1,((y14.getD s2.toNat J4.zero).2.2.1,((y14.getD s2.toNat J4.zero).2.2.2.1,((y14.getD s2.toNat J4.zero).2.2.2.2.1,s5)))))) (fun y15=>K y11 y15)) none)) none))
def Jdn(k:Nat)(Q9:Y1)(Qb:Y4)(Qa:Y2)(Q3:Y3){R:Type}(E1001:(Jc->J3->Int->Int->Int->J6->Option R))(x0:Jc)(x1:J3)(x2 x3 x4:Int)(K:(Jc->J3->Option R))(E:(Jc->J3->Int->Int->Option R)): Option R:=E1001 x0 x1 x2 x3 x4 []
def J6u(k:Nat)(Q9:Y1)(Qb:Y4)(Qa:Y2)(Q3:Y3){R:Type}: Nat->Jc->J3->Int->Int->Int->J6->(Jc->J3->Option R)->(Jc->J3->Int->Int->Option R)->Option R
 |0,_,_,_,_,_,_,_,_=>none
 |n+1,s0,s1,s2,s3,s4,s5,K,E=>JgW k Q9 Qb Qa Q3 (fun s0 s1 s2 s3 s4 s5=>J6u k Q9 Qb Qa Q3 n s0 s1 s2 s3 s4 s5 K E) s0 s1 s2 s3 s4 s5 K E
theorem Jxi(k:Nat)(Q9:Y1)(Qb:Y4)(Qa:Y2)(Q3:Y3){R:Type}: ∀(I:Nat->St->Option R) (n:Nat),J0R.lp J6t (Jdm k Q9 Qb Qa Q3).cx k Tryz.f152 1001 [1,0,0] I n=J6u k Q9 Qb Qa Q3 n:=J0R.lok J6t (B:=JgW k Q9 Qb Qa Q3) (L:=J6u k Q9 Qb Qa Q3) (fun I=>by kernel_rfl) (fun I=>by kernel_rfl) (fun n=>by kernel_rfl) (fun _ _ _ _=>rfl)
theorem JAi(k:Nat)(Q9:Y1)(Qb:Y4)(Qa:Y2)(Q3:Y3)(R:Type): J0R.at (Jdm k Q9 Qb Qa Q3) k Tryz.f152 R=J0R.glue (l:=J0R.ps) (u:=J6t.fs) (fun E1001=>@Jdn k Q9 Qb Qa Q3 R E1001) (J0R.lp J6t (Jdm k Q9 Qb Qa Q3).cx k Tryz.f152 1001 [1,0,0] (fun _ _=>none) k):=by kernel_rfl
def J6q:Cu:=⟨1,[0,1,2,3,8,9],[.o 1 155 0 [.s Jf,.w 21 73 J4],.r 1 0,.a kI,.a kI,.a kI,.w 100008 9 .str,.w 100009 3 kI]⟩
def JcX(k:Nat)(Q9:Y1)(Qb:Y4)(Qa:Y2)(Q3:Y3): Cxt:=⟨[Jkg k,JnA k,Ji3 k,JoF k,J6U.e 198 Q3],[1],[(1002,J6q.spec)],[]⟩
def JgS(k:Nat)(Q9:Y1)(Qb:Y4)(Qa:Y2)(Q3:Y3){R:Type}(E1002:(Jc->J3->Int->Int->Int->Jt->J6->Option R))(s0:Jc)(s1:J3)(s2 s3 s4:Int)(s5:Jt)(s6:J6)(K:(Jc->J3->Option R))(E:(Jc->J3->Int->Int->Option R)): Option R:=J75 k s0 s1 2 s3 (fun y12 y13 y14=>cond y14 (J4v k y12 y13 (fun y15 y16 y17 y18 y19 y20 y21=>J2Q k s5 y20 (fun y22=>cond y22 (J0q k 7 y18 (fun y23 y24=>E y15 y16 y23 y24)) (cond (Ju s5.length (@List.length (@Kd.T Kd.str) [y20]) 16) (Q3 R y15 y16 y17 y18 y19 y20 y21 s4 (fun y23 y24 y25=>cond (Ju s6.length (@List.length (@Kd.T kI) [y25]) 8) (E1002 y23 y24 s2 s3 s4 (s5++[y20]) (s6++[y25])) none) E) none)))) (cond (inb s2 (y13.length:Int)) (@SH (@List (@Kd.T J4)) R (List.set y13 s2.toNat (3,((y13.getD s2.toNat J4.zero).2.1,((y13.getD s2.toNat J4.zero).2.2.1,((y13.getD s2.toNat J4.zero).2.2.2.1,((y13.getD s2.toNat J4.zero).2.2.2.2.1,(y13.getD s2.toNat J4.zero).2.2.2.2.2)))))) (fun y15=>@SH (@List (@Kd.T J4)) R (List.set y15 s2.toNat ((y15.getD s2.toNat J4.zero).1,((y15.getD s2.toNat J4.zero).2.1,((y15.getD s2.toNat J4.zero).2.2.1,((y15.getD s2.toNat J4.zero).2.2.2.1,(s5,(y15.getD s2.toNat J4.zero).2.2.2.2.2)))))) (fun y16=>@SH (@List (@Kd.T J4)) R (List.set y16 s2.toNat ((y16.getD s2.toNat J4.zero).1,((y16.getD s2.toNat J4.zero).2.1,((y16.getD s2.toNat J4.zero).2.2.1,((y16.getD s2.toNat J4.zero).2.2.2.1,((y16.getD s2.toNat J4.zero).2.2.2.2.1,s6)))))) (fun y17=>K y12 y17)))) none))
def JcY(k:Nat)(Q9:Y1)(Qb:Y4)(Qa:Y2)(Q3:Y3){R:Type}(E1002:(Jc->J3->Int->Int->Int->Jt->J6->Option R))(x0:Jc)(x1:J3)(x2 x3 x4:Int)(K:(Jc->J3->Option R))(E:(Jc->J3->Int->Int->Option R)): Option R:=E1002 x0 x1 x2 x3 x4 [] []
def J6r(k:Nat)(Q9:Y1)(Qb:Y4)(Qa:Y2)(Q3:Y3){R:Type}: Nat->Jc->J3->Int->Int->Int->Jt->J6->(Jc->J3->Option R)->(Jc->J3->Int->Int->Option R)->Option R
 |0,_,_,_,_,_,_,_,_,_=>none
 |n+1,s0,s1,s2,s3,s4,s5,s6,K,E=>JgS k Q9 Qb Qa Q3 (fun s0 s1 s2 s3 s4 s5 s6=>J6r k Q9 Qb Qa Q3 n s0 s1 s2 s3 s4 s5 s6 K E) s0 s1 s2 s3 s4 s5 s6 K E
theorem Jxf(k:Nat)(Q9:Y1)(Qb:Y4)(Qa:Y2)(Q3:Y3){R:Type}: ∀(I:Nat->St->Option R) (n:Nat),J0P.lp J6q (JcX k Q9 Qb Qa Q3).cx k Tryz.f153 1002 [1,1,0,0] I n=J6r k Q9 Qb Qa Q3 n:=J0P.lok J6q (B:=JgS k Q9 Qb Qa Q3) (L:=J6r k Q9 Qb Qa Q3) (fun I=>by kernel_rfl) (fun I=>by kernel_rfl) (fun n=>by kernel_rfl) (fun _ _ _ _=>rfl)
theorem JzG(k:Nat)(Q9:Y1)(Qb:Y4)(Qa:Y2)(Q3:Y3)(R:Type): J0P.at (JcX k Q9 Qb Qa Q3) k Tryz.f153 R=J0P.glue (l:=J0P.ps) (u:=J6q.fs) (fun E1002=>@JcY k Q9 Qb Qa Q3 R E1002) (J0P.lp J6q (JcX k Q9 Qb Qa Q3).cx k Tryz.f153 1002 [1,1,0,0] (fun _ _=>none) k):=by kernel_rfl
def Joj(k:Nat)(Q9:Y1)(Qb:Y4)(Qa:Y2)(Q3:Y3): Cxt:=⟨[Jkg k,J33.e 103 Q9],[1],[],[(1,(.of [(0,1),(1,1),(2,1),(3,1),(4,1),(5,1),(6,1),(7,1),(8,1),(9,1),(14,1),(10,1),(11,1),(12,1),(13,1),(15,1),(16,1),(17,1)] .done))]⟩
def JhF(k:Nat)(Q9:Y1)(Qb:Y4)(Qa:Y2)(Q3:Y3){R:Type}(x0:Jc)(x1:J3)(x2 x3 x4:Int)(x5:J0)(x6:Bool)(x7:Int)(K:(Jc->J3->Int->Option R))(E:(Jc->J3->Int->Int->Option R)): Option R:=cond ((!(((x0.length:Int) == 0) == false)) || (inb 0 (x0.length:Int))) (cond (cond ((x0.length:Int) == 0) true (decide ((((x0.getD (Int.toNat 0) Jf.zero).2).2).1≤x4))) (J0q k 10 x3 (fun y12 y13=>E x0 x1 y12 y13)) (Q9 R x0 x1 (IntKind.i64.wrap (x7+1)) K E)) none
theorem JzH(k:Nat)(Q9:Y1)(Qb:Y4)(Qa:Y2)(Q3:Y3)(R:Type): J6U.at (Joj k Q9 Qb Qa Q3) k Tryz.f198 R=@JhF k Q9 Qb Qa Q3 R:=by kernel_rfl
mutual
def U8:Nat->Y1
 |0,_,_,_,_,_,_=>none
 |k+1,R,x0,x1,x2,K,E=>JhE k (U8 k) (FR_doc_parser_list k) (FR_doc_parser_pairs k) (FR_doc_parser_under k) x0 x1 x2 K E
def FR_doc_parser_list:Nat->Y4
 |0,_,_,_,_,_,_,_,_=>none
 |k+1,R,x0,x1,x2,x3,x4,K,E=>Jdn k (U8 k) (FR_doc_parser_list k) (FR_doc_parser_pairs k) (FR_doc_parser_under k) (fun s0 s1 s2 s3 s4 s5=>J6u k (U8 k) (FR_doc_parser_list k) (FR_doc_parser_pairs k) (FR_doc_parser_under k) k s0 s1 s2 s3 s4 s5 K E) x0 x1 x2 x3 x4 K E
def FR_doc_parser_pairs:Nat->Y2
 |0,_,_,_,_,_,_,_,_=>none
 |k+1,R,x0,x1,x2,x3,x4,K,E=>JcY k (U8 k) (FR_doc_parser_list k) (FR_doc_parser_pairs k) (FR_doc_parser_under k) (fun s0 s1 s2 s3 s4 s5 s6=>J6r k (U8 k) (FR_doc_parser_list k) (FR_doc_parser_pairs k) (FR_doc_parser_under k) k s0 s1 s2 s3 s4 s5 s6 K E) x0 x1 x2 x3 x4 K E
def FR_doc_parser_under:Nat->Y3
 |0,_,_,_,_,_,_,_,_,_,_,_=>none
 |k+1,R,x0,x1,x2,x3,x4,x5,x6,x7,K,E=>JhF k (U8 k) (FR_doc_parser_list k) (FR_doc_parser_pairs k) (FR_doc_parser_under k) x0 x1 x2 x3 x4 x5 x6 x7 K E
end
def JhG(k:Nat){R:Type}(x0:Jc)(x1:J3)(x2:Int)(K:(Jc->J3->Int->Option R))(E:(Jc->J3->Int->Int->Option R)): Option R:=U8 k R x0 x1 x2 K E
theorem Jz6(k:Nat): DOK Tryz.prog 103 (J33.run (U8 k))∧DOK Tryz.prog 152 (J0R.run (FR_doc_parser_list k))∧DOK Tryz.prog 153 (J0P.run (FR_doc_parser_pairs k))∧DOK Tryz.prog 198 (J6U.run (FR_doc_parser_under k)):=by
 induction k with
 |zero=>exact⟨J33.ok0 fun R=>by kernel_rfl,J0R.ok0 fun R=>by kernel_rfl,J0P.ok0 fun R=>by kernel_rfl,J6U.ok0 fun R=>by kernel_rfl⟩
 |succ k ih =>
  obtain⟨ih_doc_parser_block,ih_doc_parser_list,ih_doc_parser_pairs,ih_doc_parser_under⟩:=ih
  exact⟨dok J33 (Joi k (U8 k) (FR_doc_parser_list k) (FR_doc_parser_pairs k) (FR_doc_parser_under k)) Tryz.f103 k (ok1 (JeQ k) (ok1 (Ji2 k) (ok1 ih_doc_parser_list (ok1 ih_doc_parser_pairs ok0)))) (by kernel_rfl) (by kernel_rfl) fun R=>JzF k (U8 k) (FR_doc_parser_list k) (FR_doc_parser_pairs k) (FR_doc_parser_under k) R,dok J0R (Jdm k (U8 k) (FR_doc_parser_list k) (FR_doc_parser_pairs k) (FR_doc_parser_under k)) Tryz.f152 k (ok1 (Ji2 k) (ok1 (JoE k) (ok1 ih_doc_parser_under ok0))) (by kernel_rfl) (by kernel_rfl) fun R=>J0R.f1 J6t (Jdn k (U8 k) (FR_doc_parser_list k) (FR_doc_parser_pairs k) (FR_doc_parser_under k)) (JAi k (U8 k) (FR_doc_parser_list k) (FR_doc_parser_pairs k) (FR_doc_parser_under k) R) (Jxi k (U8 k) (FR_doc_parser_list k) (FR_doc_parser_pairs k) (FR_doc_parser_under k) (fun _ _=>none) k) (by kernel_rfl),dok J0P (JcX k (U8 k) (FR_doc_parser_list k) (FR_doc_parser_pairs k) (FR_doc_parser_under k)) Tryz.f153 k (ok1 (JeQ k) (ok1 (Jnz k) (ok1 (Ji2 k) (ok1 (JoE k) (ok1 ih_doc_parser_under ok0))))) (by kernel_rfl) (by kernel_rfl) fun R=>J0P.f1 J6q (JcY k (U8 k) (FR_doc_parser_list k) (FR_doc_parser_pairs k) (FR_doc_parser_under k)) (JzG k (U8 k) (FR_doc_parser_list k) (FR_doc_parser_pairs k) (FR_doc_parser_under k) R) (Jxf k (U8 k) (FR_doc_parser_list k) (FR_doc_parser_pairs k) (FR_doc_parser_under k) (fun _ _=>none) k) (by kernel_rfl),dok J6U (Joj k (U8 k) (FR_doc_parser_list k) (FR_doc_parser_pairs k) (FR_doc_parser_under k)) Tryz.f198 k (ok1 (JeQ k) (ok1 ih_doc_parser_block ok0)) (by kernel_rfl) (by kernel_rfl) fun R=>JzH k (U8 k) (FR_doc_parser_list k) (FR_doc_parser_pairs k) (FR_doc_parser_under k) R⟩
theorem JzI(k:Nat): DOK Tryz.prog 103 (J33.run (@JhG k)):=(Jz6 k).1
end
def JFX:List LS:=[.sl (.pr (.int .i64) (.pr (.int .i64) (.pr (.int .i64) (.pr .str .bool))))]
def JtZ(k:Nat): CTab:=(CTab.add 102 Jaf.sig (Jaf.run (@J0q k)) (CTab.add 103 J33.sig (J33.run (@JhG k)) CTab.nil))
noncomputable def Jkh{R:Type}(K:((List QL)->Int->Int->Option R)): Out->Option R
 |.ret [.agg [.v (.sl (.pr (.int .i64) (.pr (.int .i64) (.pr .str (.pr .bool (.pr (.sl .str) (.sl (.int .i64)))))))) y0],.agg [.v (.int .i64) y1,.v (.int .i64) y2]] []=>K y0 y1 y2
 |_=>none
def Jtl:RetSpec:=⟨[.ag [.sl (.pr (.int .i64) (.pr (.int .i64) (.pr .str (.pr .bool (.pr (.sl .str) (.sl (.int .i64)))))))],.ag [.any,.any]],[],[]⟩
def JEX:List (Nat×CutSpec):=[]
def JDP:List (Nat×Plan):=[]
def Jlf(k:Nat): Ctx:=⟨tyT,JEX,JtZ k,[2,3],[],JDP,@SH⟩
def J2k:Code:=Tryz.f59.body.getD .skip
noncomputable def JeR(k:Nat){R:Type}: PV->List PV->List (Nm×HObj)->(Out->Option R)->Option R
 |.nilif,[.ptr 1 0,.ptr 2 0],[(1,.var 38 [.v (.sl (.pr (.int .i64) (.pr (.int .i64) (.pr .str (.pr .bool (.pr (.sl .str) (.sl (.int .i64)))))))) x0]),(2,.var 29 [.v (.int .i64) x1,.v (.int .i64) x2])],K=>Ja6 k x0 x1 x2 (fun y0 y1 y2=>K (.ret [] [(1,.var 38 [.v (.sl (.pr (.int .i64) (.pr (.int .i64) (.pr .str (.pr .bool (.pr (.sl .str) (.sl (.int .i64)))))))) y0]),(2,.var 29 [.v (.int .i64) y1,.v (.int .i64) y2])]))
 |.ifc 29 (.agg [.v (.int .i64) x3,.v (.int .i64) x4]),[.ptr 1 0,.ptr 2 0],[(1,.var 38 [.v (.sl (.pr (.int .i64) (.pr (.int .i64) (.pr .str (.pr .bool (.pr (.sl .str) (.sl (.int .i64)))))))) x0]),(2,.var 29 [.v (.int .i64) x1,.v (.int .i64) x2])],K=>J58 k x0 x1 x2 x3 x4 (fun y0 y1 y2=>K (.ret [] [(1,.var 38 [.v (.sl (.pr (.int .i64) (.pr (.int .i64) (.pr .str (.pr .bool (.pr (.sl .str) (.sl (.int .i64)))))))) y0]),(2,.var 29 [.v (.int .i64) y1,.v (.int .i64) y2])]))
 |_,_,_,_=>none
def JlF(k:Nat){R:Type}(x0:(List QS))(K:((List QL)->Int->Int->Option R)): Option R:=cond ((x0.length:Int) == 0) (J0q k 10 1 (fun y4 y5=>J58 k [] 0 0 y4 y5 K)) (JhG k x0 [] 1 (fun y4 y5 y6=>cond (decide ((y4.length:Int)>0)) (cond (inb 0 (y4.length:Int)) (J0q k 6 ((y4.getD (Int.toNat 0) Jf.zero).2).1 (fun y7 y8=>J58 k [] 0 0 y7 y8 K)) none) (Ja6 k y5 0 0 K)) (fun y4 y5 y6 y7=>J58 k [] 0 0 y6 y7 K))
theorem JEY(k:Nat){R:Type}(I:Nat->St->Option R)(x0:(List QS))(K:((List QL)->Int->Int->Option R)): J3L (Jlf k) k [300,400] [at_ [0] J2k] (Zk (at_ [1,0] J2k)) (at_ [1,1] J2k) 34 [.cell 2 38,.cell 3 29] Jtl (JeR k) JqW [(300,0),(400,0)] [.v (.sl (.pr (.int .i64) (.pr (.int .i64) (.pr (.int .i64) (.pr .str .bool))))) x0] [] (Jkh K)=JlF k x0 K:=by kernel_rfl
def JaB(k:Nat){R:Type}(x0:(List QS))(K:((List QL)->Int->Int->Option R)): Option R:=JlF k x0 K
theorem JEZ(k:Nat){R:Type}(x0:(List QS))(K:((List QL)->Int->Int->Option R)): J3L (Jlf k) k [300,400] [at_ [0] J2k] (Zk (at_ [1,0] J2k)) (at_ [1,1] J2k) 34 [.cell 2 38,.cell 3 29] Jtl (JeR k) JqW [(300,0),(400,0)] [.v (.sl (.pr (.int .i64) (.pr (.int .i64) (.pr (.int .i64) (.pr .str .bool))))) x0] [] (Jkh K)=JaB k x0 K:=by
 exact JEY k (fun _ _=>none) x0 K
noncomputable def JkL(k:Nat){R:Type}: List PV->List (Nm×HObj)->(Out->Option R)->Option R
 |[.v (.sl (.pr (.int .i64) (.pr (.int .i64) (.pr (.int .i64) (.pr .str .bool))))) x0],[],K=>JaB k x0 (fun y0 y1 y2=>K (.ret [.agg [.v (.sl (.pr (.int .i64) (.pr (.int .i64) (.pr .str (.pr .bool (.pr (.sl .str) (.sl (.int .i64)))))))) y0],.agg [.v (.int .i64) y1,.v (.int .i64) y2]] []))
 |_,_,_=>none
theorem JF0(k:Nat): (JtZ k).Ok Tryz.prog:=(J8D (JeQ k) (J8D (JzI k) CTab.nil_ok))
theorem JBH(k:Nat){R:Type}(rec:PV)(ps:List PV)(hp:List (Nm×HObj))(K:Out->Option R)(r:R)(h:JeR k rec ps hp K=some r): DoesToD Tryz.prog 101 rec ps hp fun out=>K out=some r:=by
 unfold JeR at h
 split at h
 ·exact JCq k h
 ·exact JCr k h
 ·cases h
theorem JHr(k:Nat){ps:List PV}{hp:List (Nm×HObj)}{R:Type}{K:Out->Option R}{r:R}(h:JkL k ps hp K=some r): DoesTo Tryz.prog 59 ps hp fun out=>K out=some r:=by
 unfold JkL at h
 split at h
 ·rw[←JEZ]at h
  have:=Jma (P:=Tryz.prog) (cx:=Jlf k) (f:=59) ⟨J18,JF0 k,fun _ _=>rfl⟩ (by kernel_rfl) (fn:=Tryz.f59) (id:=1) (pre:=[at_ [0] J2k]) (rest:=at_ [1,1] J2k) (ops:=Zk (at_ [1,0] J2k)) (by kernel_rfl) (by kernel_rfl) (by kernel_rfl) (rs:=[.cell 2 38,.cell 3 29]) (by kernel_rfl) (by kernel_rfl) (by kernel_rfl) (g:=101) (s:=5) (xs:=[.tmp 2,.tmp 3]) (by kernel_rfl) (Invokes.of (fn:=Tryz.f101) (by kernel_rfl) (c:=Tryz.f101.body.getD .skip) (by kernel_rfl) (by kernel_rfl)) (JBH k) h
  exact this.mono fun out ho=>by
   unfold Jkh at ho
   split at ho<;>first|exact ho|cases ho
 ·cases h
def J8n:Sh:=⟨[.s US],some ([],[.s Jf,.g [.a kI,.a kI]]),none⟩
def Je9:Cu:=⟨0,[3,4,9,10,11],[.o 13 29 0 [.a kI,.a kI],.w 100004 157 Jf,.s US,.a kI,.a kI]⟩
def Jtm(k:Nat): Cxt:=⟨[⟨100,JrK,JeN k⟩],[],[(1003,Je9.spec)],[(7,(.of [(1,1),(0,1),(2,0)] .done))]⟩
def Jea(k:Nat){R:Type}(E1003:(Int->Int->Jc->Q8->Int->Int->Option R))(s0 s1:Int)(s2:Jc)(s3:Q8)(s4 s5:Int)(K:(Jc->Int->Int->Option R)): Option R:=cond (decide (s5<s4)) (cond (inb s5 (s3.length:Int)) (J8m k (s3.getD s5.toNat US.zero).1 (s3.getD s5.toNat US.zero).2.1 (s3.getD s5.toNat US.zero).2.2 (fun y10 y11 y12=>cond (y11 != 0) (K [] y11 y12) (cond (Ju s2.length y10.length 48) (E1003 s0 s1 (s2++y10) s3 s4 (IntKind.i64.wrap (s5+1))) none))) none) (K s2 0 0)
def Jlg(k:Nat){R:Type}(E1003:(Int->Int->Jc->Q8->Int->Int->Option R))(x0:Q8)(K:(Jc->Int->Int->Option R)): Option R:=E1003 0 0 [] x0 (x0.length:Int) 0
def J4V(k:Nat){R:Type}: Nat->Int->Int->Jc->Q8->Int->Int->(Jc->Int->Int->Option R)->Option R
 |0,_,_,_,_,_,_,_=>none
 |n+1,s0,s1,s2,s3,s4,s5,K=>Jea k (fun s0 s1 s2 s3 s4 s5=>J4V k n s0 s1 s2 s3 s4 s5 K) s0 s1 s2 s3 s4 s5 K
theorem JAj(k:Nat){R:Type}: ∀(I:Nat->St->Option R) (n:Nat),J8n.lp Je9 (Jtm k).cx k Tryz.f58 1003 [1,1,0,1,0] I n=J4V k n:=J8n.lok Je9 (B:=Jea k) (L:=J4V k) (fun I=>by kernel_rfl) (fun I=>by kernel_rfl) (fun n=>by kernel_rfl) (fun _ _ _ _=>rfl)
def Jau(k:Nat){R:Type}(x0:Q8)(K:(Jc->Int->Int->Option R)): Option R:=Jlg k (fun s0 s1 s2 s3 s4 s5=>J4V k k s0 s1 s2 s3 s4 s5 K) x0 K
theorem JGS(k:Nat): DOK Tryz.prog 58 (J8n.run (@Jau k)):=dok J8n (Jtm k) Tryz.f58 k (ok1 (fun _ _ _ _ _ h=>Jtk k h) ok0) (by kernel_rfl) (by kernel_rfl) fun R=>J8n.f1 Je9 (Jlg k) (by kernel_rfl) (JAj k (fun _ _=>none) k) (by kernel_rfl)
def JGT(k:Nat): Ent:=J8n.e 58 (@Jau k)
def Jnj(s:List UInt8)(c:UInt8): Int:=Lib.countByte s c
def JBI:List LS:=[.sl (.int .u8),.any]
def Jr1(k:Nat){R:Type}(x0:List Int)(x1:Int)(K:Int->Option R): Option R:=K (Jnj (Q5 x0) (UInt8.ofNat x1.toNat))
noncomputable def JiJ(k:Nat){R:Type}: List PV->List (Nm×HObj)->(Out->Option R)->Option R
 |[.v (.sl (.int .u8)) x0,.v (.int .u8) x1],[],K=>Jr1 k x0 x1 (fun y0=>K (.ret [.v (.int .i64) y0] []))
 |_,_,_=>none
theorem JDQ(k:Nat){ps:List PV}{hp:List (Nm×HObj)}{R:Type}{K:Out->Option R}{r:R}(h:JiJ k ps hp K=some r): DoesTo Tryz.prog 220 ps hp fun out=>K out=some r:=by
 unfold JiJ at h
 split at h
 ·next x0 x1 =>
  intro G w vals hr obj dis
  obtain⟨v0,l0,rfl,h0,v1,l1,rfl,h1,rfl⟩:=hr
  have e1:v1 = .int .u8 x1:=by simpa [RV,RD]using h1
  subst e1
  have hb:=JtY (P:=Tryz.prog) h0
  have hrun:(callFunc 220 #[v0,.int .u8 x1]).run Tryz.prog w = .ok (.value (.int .i64 (Jnj (Q5 x0) (UInt8.ofNat x1.toNat)))) w:=by
   refine Jfx (fn:=Tryz.f220) (g:=Extern.BytealgCount.count) (by kernel_rfl) (by kernel_rfl) (by kernel_rfl) (by kernel_rfl) (by kernel_rfl) _ w ?_
   have hs:=Lib.run_countString (P:=Tryz.prog) ⟨(Q5 x0).toArray⟩ x1 w
   change Sem.run Tryz.prog (do
    let b ←Extern.Bytes.bytesOf v0
    let c' ←Extern.Bytes.asByte (.int .u8 x1)
    pure (goInt (b.foldl (fun n x=>if x == c' then n+1 else n) (0:Nat)))) w=_
   change Sem.run Tryz.prog (do
    let b ←Extern.Bytes.bytesOf (.string ⟨(Q5 x0).toArray⟩)
    let c' ←Extern.Bytes.asByte (.int .u8 x1)
    pure (goInt (b.foldl (fun n x=>if x == c' then n+1 else n) (0:Nat)))) w=_ at hs
   rw[Sem.run_bind]at hs ⊢
   rw[hb]
   exact hs
  show Does _ _ #[_,_] _ _
  unfold Does
  rw[hrun]
  exact⟨.ret [.v (.int .i64) _] [],h,G,⟨_,rfl,rfl⟩,Jfd⟩
 ·cases h
def Jje:Sh:=⟨[.s (.int .u8),.k (.int .u8)],some ([],[.a kI]),none⟩
def JCs(k:Nat): Cxt:=⟨[⟨220,JBI,JiJ k⟩],[],[],[]⟩
def JCt(k:Nat){R:Type}(x0:J6)(x1:Int)(K:(Int->Option R)): Option R:=Jr1 k x0 (([x1]).getD (Int.toNat 0) (Kd.zero (@Kd.int Go.IntKind.u8))) K
def J9P:=@JCt
theorem JCu(k:Nat): DOK Tryz.prog 183 (Jje.run (@J9P k)):=dok Jje (JCs k) Tryz.f183 k (ok1 (fun _ _ _ _ _ h=>JDQ k h) ok0) (by kernel_rfl) (by kernel_rfl) fun R=>by kernel_rfl
def JCv(k:Nat): Ent:=Jje.e 183 (@J9P k)
def JzJ:List LS:=[.sl (.int .u8),.any]
def JoO(k:Nat){R:Type}(x0:List Int)(x1:Int)(K:Int->Option R): Option R:=K (YW (Q5 x0) x1)
noncomputable def JhH(k:Nat){R:Type}: List PV->List (Nm×HObj)->(Out->Option R)->Option R
 |[.v (.sl (.int .u8)) x0,.v (.int .u8) x1],[],K=>JoO k x0 x1 (fun y0=>K (.ret [.v (.int .i64) y0] []))
 |_,_,_=>none
theorem JAL(k:Nat){ps:List PV}{hp:List (Nm×HObj)}{R:Type}{K:Out->Option R}{r:R}(h:JhH k ps hp K=some r): DoesTo Tryz.prog 250 ps hp fun out=>K out=some r:=by
 unfold JhH at h
 split at h
 ·next x0 x1 =>
  intro G w vals hr obj dis
  obtain⟨v0,l0,rfl,h0,v1,l1,rfl,h1,rfl⟩:=hr
  have e1:v1 = .int .u8 x1:=by simpa [RV,RD]using h1
  subst e1
  have hb:=JtY (P:=Tryz.prog) h0
  have hrun:(callFunc 250 #[v0,.int .u8 x1]).run Tryz.prog w = .ok (.value (.int .i64 (YW (Q5 x0) x1))) w:=by
   refine Jfx (fn:=Tryz.f250) (g:=Extern.BytealgIndexByte.indexByte) (by kernel_rfl) (by kernel_rfl) (by kernel_rfl) (by kernel_rfl) (by kernel_rfl) _ w ?_
   have hs:=Jrz (P:=Tryz.prog) (Q5 x0) x1 w
   change Sem.run Tryz.prog (do
    let b ←Extern.Bytes.bytesOf v0
    let c ←Extern.Bytes.asByte (.int .u8 x1)
    match(List.range b.size).find? fun i=>b[i]! == c with
    |some i=>pure (goInt i)
    |none=>pure (goInt (-1))) w=_
   change Sem.run Tryz.prog (do
    let b ←Extern.Bytes.bytesOf (.string ⟨(Q5 x0).toArray⟩)
    let c ←Extern.Bytes.asByte (.int .u8 x1)
    match(List.range b.size).find? fun i=>b[i]! == c with
    |some i=>pure (goInt i)
    |none=>pure (goInt (-1))) w=_ at hs
   rw[Sem.run_bind]at hs ⊢
   rw[hb]
   exact hs
  show Does _ _ #[_,_] _ _
  unfold Does
  rw[hrun]
  exact⟨.ret [.v (.int .i64) _] [],h,G,⟨_,rfl,rfl⟩,Jfd⟩
 ·cases h
def Ji4:Sh:=⟨[.s (.int .u8),.a (.int .u8)],some ([],[.a kI]),none⟩
abbrev JhI:Type 1:=(R:Type)->J6->Int->(Int->Option R)->Option R
def JAk(k:Nat): Cxt:=⟨[⟨250,JzJ,JhH k⟩],[],[],[]⟩
def JAl(k:Nat){R:Type}(x0:J6)(x1:Int)(K:(Int->Option R)): Option R:=JoO k x0 x1 K
def Jdo:=@JAl
theorem JAm(k:Nat): DOK Tryz.prog 221 (Ji4.run (@Jdo k)):=dok Ji4 (JAk k) Tryz.f221 k (ok1 (fun _ _ _ _ _ h=>JAL k h) ok0) (by kernel_rfl) (by kernel_rfl) fun R=>by kernel_rfl
def Jek:Sh:=⟨[.s (.int .u8),.k (.int .u8)],some ([],[.a kI]),none⟩
def Jqb(k:Nat)(J7e:JhI): Cxt:=⟨[Ji4.e 221 J7e],[],[],[]⟩
def Jqc(k:Nat)(J7e:JhI){R:Type}(x0:J6)(x1:Int)(K:(Int->Option R)): Option R:=J7e R x0 (([x1]).getD (Int.toNat 0) (Kd.zero (@Kd.int Go.IntKind.u8))) K
theorem JCw(k:Nat)(J7e:JhI)(R:Type): Jek.at (Jqb k J7e) k Tryz.f184 R=@Jqc k J7e R:=by kernel_rfl
def J9Q(k:Nat){R:Type}:= @Jqc k (@Jdo k) R
theorem JCx(k:Nat): DOK Tryz.prog 184 (Jek.run (@J9Q k)):=dok Jek (Jqb k (@Jdo k)) Tryz.f184 k (ok1 (JAm k) ok0) (by kernel_rfl) (by kernel_rfl) fun R=>JCw k (@Jdo k) R
def JCy(k:Nat): Ent:=Jek.e 184 (@J9Q k)
def J7h:Sh:=⟨[.s (.int .u8),.k (.int .u8),.a kI,.a kI],some ([],[.s (.sl (.int .u8))]),none⟩
def Jce:Cu:=⟨0,[0,1,2,3,9,10],[.s (.int .u8),.k (.int .u8),.a kI,.a kI,.w 100009 22 (.sl (.int .u8)),.a kI]⟩
def JoP(k:Nat): Cxt:=⟨[JCv k,JCy k],[],[(1011,Jce.spec)],[]⟩
def Jh0(k:Nat){R:Type}(E1011:(J6->Int->Int->Int->(List J6)->Int->Option R))(s0:J6)(s1 s2 s3:Int)(s4:(List J6))(s5:Int)(K:((List J6)->Option R)): Option R:=cond (decide (s5<s3)) (J9Q k s0 s1 (fun y10=>cond (decide (y10<0)) (cond (inb s5 (s4.length:Int)) (cond (bnd 0 (IntKind.i64.wrap (s5+1)) ((List.set s4 s5.toNat s0).length:Int)) (K (cut (List.set s4 s5.toNat s0) 0 (IntKind.i64.wrap (s5+1)))) none) none) (cond ((bnd 0 (IntKind.i64.wrap (y10+s2)) (IntKind.i64.wrap (y10+s2)))&&(decide ((IntKind.i64.wrap (y10+s2))≤(s0.length:Int)))) (cond (inb s5 (s4.length:Int)) (cond (bnd (IntKind.i64.wrap (y10+(@List.length (@Kd.T (@Kd.int Go.IntKind.u8)) [s1]:Int))) (s0.length:Int) (s0.length:Int)) (E1011 (cut s0 (IntKind.i64.wrap (y10+(@List.length (@Kd.T (@Kd.int Go.IntKind.u8)) [s1]:Int))) (s0.length:Int)) s1 s2 s3 (List.set s4 s5.toNat (cut s0 0 (IntKind.i64.wrap (y10+s2)))) (IntKind.i64.wrap (s5+1))) none) none) none))) (cond (inb s5 (s4.length:Int)) (cond (bnd 0 (IntKind.i64.wrap (s5+1)) ((List.set s4 s5.toNat s0).length:Int)) (K (cut (List.set s4 s5.toNat s0) 0 (IntKind.i64.wrap (s5+1)))) none) none)
def Jie(k:Nat){R:Type}(E1011:(J6->Int->Int->Int->(List J6)->Int->Option R))(x0:J6)(x1 x2 x3:Int)(K:((List J6)->Option R)): Option R:=cond (x3 == 0) (K []) (cond (decide (x3<0)) (J9P k x0 x1 (fun y8=>cond (mkB (cond false (@ite (@Kd.T kI) ((IntKind.i64.wrap ((x0.length:Int)+1))>(IntKind.i64.wrap (y8+1))) (@Int.decLt (IntKind.i64.wrap (y8+1)) (IntKind.i64.wrap ((x0.length:Int)+1))) (IntKind.i64.wrap ((x0.length:Int)+1)) (IntKind.i64.wrap (y8+1))) (@ite (@Kd.T kI) ((IntKind.i64.wrap ((x0.length:Int)+1))<(IntKind.i64.wrap (y8+1))) (@Int.decLt (IntKind.i64.wrap ((x0.length:Int)+1)) (IntKind.i64.wrap (y8+1))) (IntKind.i64.wrap ((x0.length:Int)+1)) (IntKind.i64.wrap (y8+1)))) (cond false (@ite (@Kd.T kI) ((IntKind.i64.wrap ((x0.length:Int)+1))>(IntKind.i64.wrap (y8+1))) (@Int.decLt (IntKind.i64.wrap (y8+1)) (IntKind.i64.wrap ((x0.length:Int)+1))) (IntKind.i64.wrap ((x0.length:Int)+1)) (IntKind.i64.wrap (y8+1))) (@ite (@Kd.T kI) ((IntKind.i64.wrap ((x0.length:Int)+1))<(IntKind.i64.wrap (y8+1))) (@Int.decLt (IntKind.i64.wrap ((x0.length:Int)+1)) (IntKind.i64.wrap (y8+1))) (IntKind.i64.wrap ((x0.length:Int)+1)) (IntKind.i64.wrap (y8+1)))) 24) (E1011 x0 x1 x2 (IntKind.i64.wrap ((cond false (@ite (@Kd.T kI) ((IntKind.i64.wrap ((x0.length:Int)+1))>(IntKind.i64.wrap (y8+1))) (@Int.decLt (IntKind.i64.wrap (y8+1)) (IntKind.i64.wrap ((x0.length:Int)+1))) (IntKind.i64.wrap ((x0.length:Int)+1)) (IntKind.i64.wrap (y8+1))) (@ite (@Kd.T kI) ((IntKind.i64.wrap ((x0.length:Int)+1))<(IntKind.i64.wrap (y8+1))) (@Int.decLt (IntKind.i64.wrap ((x0.length:Int)+1)) (IntKind.i64.wrap (y8+1))) (IntKind.i64.wrap ((x0.length:Int)+1)) (IntKind.i64.wrap (y8+1))))-1)) (zeros (@Kd.sl (@Kd.int Go.IntKind.u8)) (cond false (@ite (@Kd.T kI) ((IntKind.i64.wrap ((x0.length:Int)+1))>(IntKind.i64.wrap (y8+1))) (@Int.decLt (IntKind.i64.wrap (y8+1)) (IntKind.i64.wrap ((x0.length:Int)+1))) (IntKind.i64.wrap ((x0.length:Int)+1)) (IntKind.i64.wrap (y8+1))) (@ite (@Kd.T kI) ((IntKind.i64.wrap ((x0.length:Int)+1))<(IntKind.i64.wrap (y8+1))) (@Int.decLt (IntKind.i64.wrap ((x0.length:Int)+1)) (IntKind.i64.wrap (y8+1))) (IntKind.i64.wrap ((x0.length:Int)+1)) (IntKind.i64.wrap (y8+1))))) 0) none)) (cond (mkB (cond false (@ite (@Kd.T kI) ((IntKind.i64.wrap ((x0.length:Int)+1))>x3) (@Int.decLt x3 (IntKind.i64.wrap ((x0.length:Int)+1))) (IntKind.i64.wrap ((x0.length:Int)+1)) x3) (@ite (@Kd.T kI) ((IntKind.i64.wrap ((x0.length:Int)+1))<x3) (@Int.decLt (IntKind.i64.wrap ((x0.length:Int)+1)) x3) (IntKind.i64.wrap ((x0.length:Int)+1)) x3)) (cond false (@ite (@Kd.T kI) ((IntKind.i64.wrap ((x0.length:Int)+1))>x3) (@Int.decLt x3 (IntKind.i64.wrap ((x0.length:Int)+1))) (IntKind.i64.wrap ((x0.length:Int)+1)) x3) (@ite (@Kd.T kI) ((IntKind.i64.wrap ((x0.length:Int)+1))<x3) (@Int.decLt (IntKind.i64.wrap ((x0.length:Int)+1)) x3) (IntKind.i64.wrap ((x0.length:Int)+1)) x3)) 24) (E1011 x0 x1 x2 (IntKind.i64.wrap ((cond false (@ite (@Kd.T kI) ((IntKind.i64.wrap ((x0.length:Int)+1))>x3) (@Int.decLt x3 (IntKind.i64.wrap ((x0.length:Int)+1))) (IntKind.i64.wrap ((x0.length:Int)+1)) x3) (@ite (@Kd.T kI) ((IntKind.i64.wrap ((x0.length:Int)+1))<x3) (@Int.decLt (IntKind.i64.wrap ((x0.length:Int)+1)) x3) (IntKind.i64.wrap ((x0.length:Int)+1)) x3))-1)) (zeros (@Kd.sl (@Kd.int Go.IntKind.u8)) (cond false (@ite (@Kd.T kI) ((IntKind.i64.wrap ((x0.length:Int)+1))>x3) (@Int.decLt x3 (IntKind.i64.wrap ((x0.length:Int)+1))) (IntKind.i64.wrap ((x0.length:Int)+1)) x3) (@ite (@Kd.T kI) ((IntKind.i64.wrap ((x0.length:Int)+1))<x3) (@Int.decLt (IntKind.i64.wrap ((x0.length:Int)+1)) x3) (IntKind.i64.wrap ((x0.length:Int)+1)) x3))) 0) none))
def J6x(k:Nat){R:Type}: Nat->J6->Int->Int->Int->(List J6)->Int->((List J6)->Option R)->Option R
 |0,_,_,_,_,_,_,_=>none
 |n+1,s0,s1,s2,s3,s4,s5,K=>Jh0 k (fun s0 s1 s2 s3 s4 s5=>J6x k n s0 s1 s2 s3 s4 s5 K) s0 s1 s2 s3 s4 s5 K
theorem Jxs(k:Nat){R:Type}: ∀(I:Nat->St->Option R) (n:Nat),J7h.lp Jce (JoP k).cx k Tryz.f141 1011 [1,1,1,1,1,1,1,1,0,0] I n=J6x k n:=J7h.lok Jce (B:=Jh0 k) (L:=J6x k) (fun I=>by kernel_rfl) (fun I=>by kernel_rfl) (fun n=>by kernel_rfl) (fun _ _ _ _=>rfl)
def JdI(k:Nat){R:Type}(x0:J6)(x1 x2 x3:Int)(K:((List J6)->Option R)): Option R:=Jie k (fun s0 s1 s2 s3 s4 s5=>J6x k k s0 s1 s2 s3 s4 s5 K) x0 x1 x2 x3 K
theorem JAM(k:Nat): DOK Tryz.prog 141 (J7h.run (@JdI k)):=dok J7h (JoP k) Tryz.f141 k (ok1 (JCu k) (ok1 (JCx k) ok0)) (by kernel_rfl) (by kernel_rfl) fun R=>J7h.f1 Jce (Jie k) (by kernel_rfl) (Jxs k (fun _ _=>none) k) (by kernel_rfl)
def JAN(k:Nat): Ent:=J7h.e 141 (@JdI k)
def Jjf:Sh:=⟨[.s (.int .u8),.k (.int .u8)],some ([],[.s (.sl (.int .u8))]),none⟩
def JCz(k:Nat): Cxt:=⟨[JAN k],[],[],[]⟩
def Jqd(k:Nat){R:Type}(x0:J6)(x1:Int)(K:((List J6)->Option R)): Option R:=JdI k x0 x1 0 (-(1:Int)) K
def J9R:=@Jqd
theorem JCA(k:Nat): DOK Tryz.prog 95 (Jjf.run (@J9R k)):=dok Jjf (JCz k) Tryz.f95 k (ok1 (JAM k) ok0) (by kernel_rfl) (by kernel_rfl) fun R=>by kernel_rfl
def JCB(k:Nat): Ent:=Jjf.e 95 (@J9R k)
def JkM:Sh:=⟨[.a (.int .i32)],some ([],[.a .bool]),none⟩
def JFY(k:Nat): Cxt:=⟨[],[],[],[]⟩
def JFZ(k:Nat){R:Type}(x0:Int)(K:(Bool->Option R)): Option R:=K (cond (cond (decide (x0≥0)) (decide (x0<32)) false) true (x0 == 127))
def Jsw:=@JFZ
theorem Jsx(k:Nat): DOK Tryz.prog 97 (JkM.run (@Jsw k)):=dok JkM (JFY k) Tryz.f97 k ok0 (by kernel_rfl) (by kernel_rfl) fun R=>by kernel_rfl
def JG0(k:Nat): Ent:=JkM.e 97 (@Jsw k)
end Go.Proofs.YtabkhphoacmcdaaGreatDoor.Pvm
namespace Go.Proofs
open Go.Shelf
def Tryz.laysLaysGwn15_ren:Go.Shelf.Ren:=⟨fun|15=>96|20=>142|n=>n,fun|9=>9|23=>146|3=>3|4=>4|0=>0|21=>21|n=>n,fun|n=>n⟩
theorem Tryz.laysLaysGwn15:Go.Proofs.LaysGw.n15 Tryz.prog Tryz.laysLaysGwn15_ren:={
 mixed:=by kernel_rfl
 f15:=Tryz.func96.trans (congrArg some (by kernel_rfl))
 f20:=Tryz.func142.trans (congrArg some (by kernel_rfl))
 t0:=Tryz.underlying0
 a0:=Tryz.isAgg0
 z0:=Tryz.sizeOf0
 v0:=Tryz.zeroValue0
 i0:=by kernel_rfl
 t3:=Tryz.underlying3
 a3:=Tryz.isAgg3
 z3:=Tryz.sizeOf3
 v3:=Tryz.zeroValue3
 i3:=by kernel_rfl
 t4:=Tryz.underlying4
 a4:=Tryz.isAgg4
 z4:=Tryz.sizeOf4
 v4:=Tryz.zeroValue4
 i4:=by kernel_rfl
 t9:=Tryz.underlying9
 a9:=Tryz.isAgg9
 z9:=Tryz.sizeOf9
 v9:=Tryz.zeroValue9
 i9:=by kernel_rfl
 t21:=Tryz.underlying21
 a21:=Tryz.isAgg21
 z21:=Tryz.sizeOf21
 v21:=Tryz.zeroValue21
 i21:=by kernel_rfl
 t23:=Tryz.underlying146
 a23:=Tryz.isAgg146
 z23:=Tryz.sizeOf146
 v23:=Tryz.zeroValue146
 i23:=by kernel_rfl }
end Go.Proofs
namespace Go.Proofs.YtabkhphoacmcdaaGreatDoor.Pvm
open Go Go.Proofs Go.RowKit Go.Shelf
def J1h(n:Nat): Bool:=cond (cond (decide ((n:Int)≥0)) (decide ((n:Int)<32)) false) true ((n:Int) == 127)
def JfO(s:List UInt8): Int:=Lib.idxFunc J1h true ⟨s.toArray⟩
def Jy2:List LS:=[.any,.clo []]
def Jhj(k:Nat){R:Type}(x0:List UInt8)(K:Int->Option R): Option R:=K (JfO x0)
noncomputable def Jh1(k:Nat){R:Type}: List PV->List (Nm×HObj)->(Out->Option R)->Option R
 |[.v .str x0,.clo 97 []],[],K=>Jhj k x0 (fun y0=>K (.ret [.v (.int .i64) y0] []))
 |_,_,_=>none
theorem JGU(w:World): PredGrows Tryz.prog 97 #[] J1h w:=by
 intro W x hx hb
 exact Jtc (P:=Tryz.prog) (f:=97) (fn:=Tryz.f97) (c:=Tryz.f97.body.getD .skip) (by kernel_rfl) (by kernel_rfl) (by kernel_rfl) (ps:=[.v (.int .i32) (x:Int)]) (b:=J1h x)
  (Jsx 0 _ _ _ Jgn (J1h x) rfl) (vals:=[.int .i32 (x:Int)]) ⟨_,[],rfl,rfl,rfl⟩
theorem Jz7(k:Nat){ps:List PV}{hp:List (Nm×HObj)}{R:Type}{K:Out->Option R}{r:R}(h:Jh1 k ps hp K=some r): DoesTo Tryz.prog 96 ps hp fun out=>K out=some r:=by
 unfold Jh1 at h
 split at h
 ·next x0 =>
  intro G w vals hr obj dis
  obtain⟨v0,l0,rfl,h0,v1,l1,rfl,h1,rfl⟩:=hr
  have e0:v0 = .string ⟨x0.toArray⟩:=by simpa [RV,RD]using h0
  obtain⟨vs,e1,hvs⟩:=h1
  obtain rfl:vs=[]:=hvs
  subst e0 e1
  have c:=Any.strings_IndexFunc_grows Tryz.laysLaysGwn15 97 #[] (JfN (P:=Tryz.prog) (fn:=Tryz.f97) (c:=Tryz.f97.body.getD .skip) (by kernel_rfl) (by kernel_rfl) (by kernel_rfl)) J1h ⟨x0.toArray⟩ w (JGU w)
  show Does _ _ #[_,_] _ _
  unfold Does
  rw[JfN (P:=Tryz.prog) (fn:=Tryz.f96) (c:=Tryz.f96.body.getD .skip) (by kernel_rfl) (by kernel_rfl) (by kernel_rfl)]
  refine Calls.mono c fun e w' hh => ?_
  obtain⟨rfl,b⟩:=hh
  exact⟨.ret [.v (.int .i64) (JfO x0)] [],h,G,⟨_,rfl,rfl⟩,Jtd b⟩
 ·cases h
end Go.Proofs.YtabkhphoacmcdaaGreatDoor.Pvm
namespace Go.Proofs.YtabkhphoacmcdaaGreatDoor.Pvm
open Go Go.Proofs
def J6v:Sh:=⟨[.a .str,.a (.int .u8)],some ([],[.a .str]),none⟩
def JbL:Cu:=⟨0,[0,1],[.a .str,.a (.int .u8)]⟩
def JnS(k:Nat): Cxt:=⟨[],[],[(1001,JbL.spec)],[]⟩
def JgM(k:Nat){R:Type}(E1001:(J0->Int->Option R))(s0:J0)(s1:Int)(K:(J0->Option R)): Option R:=cond ((!((decide ((s0.length:Int)>0)) == true)) || (inb 0 (s0.length:Int))) (cond (cond (decide ((s0.length:Int)>0)) (((s0.getD (Int.toNat 0) 0).toNat:Int) == s1) false) (cond (bnd 1 (s0.length:Int) (s0.length:Int)) (E1001 (cut s0 1 (s0.length:Int)) s1) none) (K s0)) none
def JgX(k:Nat){R:Type}(E1001:(J0->Int->Option R))(x0:J0)(x1:Int)(K:(J0->Option R)): Option R:=E1001 x0 x1
def J6d(k:Nat){R:Type}: Nat->J0->Int->(J0->Option R)->Option R
 |0,_,_,_=>none
 |n+1,s0,s1,K=>JgM k (fun s0 s1=>J6d k n s0 s1 K) s0 s1 K
theorem JwZ(k:Nat){R:Type}: ∀(I:Nat->St->Option R) (n:Nat),J6v.lp JbL (JnS k).cx k Tryz.f143 1001 [1,0,0] I n=J6d k n:=J6v.lok JbL (B:=JgM k) (L:=J6d k) (fun I=>by kernel_rfl) (fun I=>by kernel_rfl) (fun n=>by kernel_rfl) (fun _ _ _ _=>rfl)
def Jc7(k:Nat){R:Type}(x0:J0)(x1:Int)(K:(J0->Option R)): Option R:=JgX k (fun s0 s1=>J6d k k s0 s1 K) x0 x1 K
theorem JxI(k:Nat): DOK Tryz.prog 143 (J6v.run (@Jc7 k)):=dok J6v (JnS k) Tryz.f143 k ok0 (by kernel_rfl) (by kernel_rfl) fun R=>J6v.f1 JbL (JgX k) (by kernel_rfl) (JwZ k (fun _ _=>none) k) (by kernel_rfl)
def JxJ(k:Nat): Ent:=J6v.e 143 (@Jc7 k)
def JhJ:Sh:=⟨[.a .str,.j],some ([],[.a .str]),none⟩
def JzK(k:Nat): Cxt:=⟨[JxJ k],[],[],[]⟩
def Jok(k:Nat){R:Type}(x0:J0)(x1:UInt8)(K:(J0->Option R)): Option R:=cond (cond (x0 == []) true ([x1] == [])) (K x0) (cond (cond ((@List.length UInt8 [x1]:Int) == 1) (decide (((([x1]).getD (Int.toNat 0) 0).toNat:Int)<128)) false) (Jc7 k x0 ((([x1]).getD (Int.toNat 0) 0).toNat:Int) K) none)
def J9u:=@Jok
theorem JzL(k:Nat): DOK Tryz.prog 98 (JhJ.run (@J9u k)):=dok JhJ (JzK k) Tryz.f98 k (ok1 (JxI k) ok0) (by kernel_rfl) (by kernel_rfl) fun R=>by kernel_rfl
def JzM(k:Nat): Ent:=JhJ.e 98 (@J9u k)
def J7T:Sh:=⟨[.s (.int .u8)],some ([],[.s US,.g [.a kI,.a kI]]),none⟩
def Jdp:Cu:=⟨0,[3,4,17,18,19],[.o 13 29 0 [.a kI,.a kI],.w 100004 151 US,.s (.sl (.int .u8)),.a kI,.a kI]⟩
def Jr2(k:Nat): Cxt:=⟨[JCB k,⟨96,Jy2,Jh1 k⟩,JG0 k,JzM k,JqS k],[],[(1005,Jdp.spec)],[]⟩
def Ji5(k:Nat){R:Type}(E1005:(Int->Int->Q8->(List J6)->Int->Int->Option R))(s0 s1:Int)(s2:Q8)(s3:(List J6))(s4 s5:Int)(K:(Q8->Int->Int->Option R)): Option R:=cond (decide (s5<s4)) (cond (inb s5 (s3.length:Int)) (Jhj k (Q5 (s3.getD s5.toNat (Kd.zero (@Kd.sl (@Kd.int Go.IntKind.u8))))) (fun y10=>cond (decide (y10≥0)) (K [] 2 (IntKind.i64.wrap (s5+1))) (J9u k (Q5 (s3.getD s5.toNat (Kd.zero (@Kd.sl (@Kd.int Go.IntKind.u8))))) 32 (fun y11=>J7R k y11 (fun y12 y13=>cond (!y13) (K [] 3 (IntKind.i64.wrap (s5+1))) (cond (!(y12 == [])) (cond (Ju s2.length (@List.length (@Kd.T US) [((IntKind.i64.wrap (s5+1)),((IntKind.i64.wrap (((Q5 (s3.getD s5.toNat (Kd.zero (@Kd.sl (@Kd.int Go.IntKind.u8))))).length:Int)-(y11.length:Int))),y12))]) 32) (E1005 s0 s1 (s2++[((IntKind.i64.wrap (s5+1)),((IntKind.i64.wrap (((Q5 (s3.getD s5.toNat (Kd.zero (@Kd.sl (@Kd.int Go.IntKind.u8))))).length:Int)-(y11.length:Int))),y12))]) s3 s4 (IntKind.i64.wrap (s5+1))) none) (E1005 s0 s1 s2 s3 s4 (IntKind.i64.wrap (s5+1))))))))) none) (K s2 0 0)
def JjK(k:Nat){R:Type}(E1005:(Int->Int->Q8->(List J6)->Int->Int->Option R))(x0:J6)(K:(Q8->Int->Int->Option R)): Option R:=cond (decide ((x0.length:Int)>16384)) (K [] 1 1) (J9R k x0 10 (fun y5=>E1005 0 0 [] y5 (y5.length:Int) 0))
def J76(k:Nat){R:Type}: Nat->Int->Int->Q8->(List J6)->Int->Int->(Q8->Int->Int->Option R)->Option R
 |0,_,_,_,_,_,_,_=>none
 |n+1,s0,s1,s2,s3,s4,s5,K=>Ji5 k (fun s0 s1 s2 s3 s4 s5=>J76 k n s0 s1 s2 s3 s4 s5 K) s0 s1 s2 s3 s4 s5 K
theorem Jyw(k:Nat){R:Type}: ∀(I:Nat->St->Option R) (n:Nat),J7T.lp Jdp (Jr2 k).cx k Tryz.f57 1005 [1,1,1,0,1,0] I n=J76 k n:=J7T.lok Jdp (B:=Ji5 k) (L:=J76 k) (fun I=>by kernel_rfl) (fun I=>by kernel_rfl) (fun n=>by kernel_rfl) (fun _ _ _ _=>rfl)
def Ja7(k:Nat){R:Type}(x0:J6)(K:(Q8->Int->Int->Option R)): Option R:=JjK k (fun s0 s1 s2 s3 s4 s5=>J76 k k s0 s1 s2 s3 s4 s5 K) x0 K
theorem JDR(k:Nat): DOK Tryz.prog 57 (J7T.run (@Ja7 k)):=dok J7T (Jr2 k) Tryz.f57 k (ok1 (JCA k) (ok1 (fun _ _ _ _ _ h=>Jz7 k h) (ok1 (Jsx k) (ok1 (JzL k) (ok1 (JqR k) ok0))))) (by kernel_rfl) (by kernel_rfl) fun R=>J7T.f1 Jdp (JjK k) (by kernel_rfl) (Jyw k (fun _ _=>none) k) (by kernel_rfl)
def JDS(k:Nat): Ent:=J7T.e 57 (@Ja7 k)
def Jki:Sh:=⟨[.s (.int .u8)],some ([],[.g [.s J4],.g [.a kI,.a kI]]),none⟩
def JF1(k:Nat): Cxt:=⟨[JDS k,JGT k,⟨59,JFX,JkL k⟩],[],[],[(3,(.of [(0,1),(1,2),(2,0),(3,0)] .done)),(6,(.of [(0,1),(1,2),(2,0),(3,0)] .done))]⟩
def JrN(k:Nat){R:Type}(x0:J6)(K:(J3->Int->Int->Option R)): Option R:=Ja7 k x0 (fun y4 y5 y6=>cond (y5 != 0) (K [] y5 y6) (Jau k y4 (fun y7 y8 y9=>cond (y8 != 0) (K [] y8 y9) (JaB k y7 K))))
def Jag:=@JrN
theorem JF2(k:Nat): DOK Tryz.prog 29 (Jki.run (@Jag k)):=dok Jki (JF1 k) Tryz.f29 k (ok1 (JDR k) (ok1 (JGS k) (ok1 (fun _ _ _ _ _ h=>JHr k h) ok0))) (by kernel_rfl) (by kernel_rfl) fun R=>by kernel_rfl
def JF3(k:Nat): Ent:=Jki.e 29 (@Jag k)
def Jeb:Sh:=⟨[.s (.int .u8)],some ([],[.g [.s (.pr .str (.sl kI)),.s J5],.g [.a kI,.a kI]]),none⟩
abbrev J7n:Type 1:=(R:Type)->J6->(J7->J9->Int->Int->Option R)->Option R
def JBJ(k:Nat): Cxt:=⟨[⟨16,Jq8,Jej k⟩,JF3 k],[],[],[(3,(.of [(0,1),(1,2),(2,0),(3,0)] .done))]⟩
def Jpq(k:Nat){R:Type}(x0:J6)(K:(J7->J9->Int->Int->Option R)): Option R:=Jag k x0 (fun y4 y5 y6=>cond (y5 != 0) (K [] [] y5 y6) (J3k k y4 K))
def J2c:=@Jpq
theorem Jpr(k:Nat): DOK Tryz.prog 11 (Jeb.run (@J2c k)):=dok Jeb (JBJ k) Tryz.f11 k (ok1 (fun _ _ _ _ _ h=>JrM k h) (ok1 (JF2 k) ok0)) (by kernel_rfl) (by kernel_rfl) fun R=>by kernel_rfl
noncomputable def Jps(J3m:(R:Type)->(List QL)->((List ((List UInt8)×(List Int)))->(List Uc)->Int->Int->Option R)->Option R){R:Type}: List PV->List (Nm×HObj)->(Out->Option R)->Option R
 |[.agg [.v (.sl (.pr (.int .i64) (.pr (.int .i64) (.pr .str (.pr .bool (.pr (.sl .str) (.sl (.int .i64)))))))) x0]],[],K=>J3m R x0 (fun y0 y1 y2 y3=>K (.ret [.agg [.v (.sl (.pr .str (.sl (.int .i64)))) y0,.v (.sl (.pr .str (.pr .str (.pr .bool (.pr (.int .i64) (.pr (.int .i64) (.pr .bool (.pr (.pr .str (.pr (.int .i64) (.pr (.int .i64) (.pr .flt (.pr .bool .bool))))) (.sl (.int .i64)))))))))) y1],.agg [.v (.int .i64) y2,.v (.int .i64) y3]] []))
 |_,_,_=>none
def J6m:Sh:=⟨[.s kI,.s kI],some ([],[.a .bool]),none⟩
def JbI:Cu:=⟨0,[0,1,12,13],[.s kI,.s kI,.a kI,.a kI]⟩
def JnL(k:Nat): Cxt:=⟨[],[],[(1004,JbI.spec)],[(6,(.of [(0,1),(1,1),(2,1),(4,1),(5,1),(6,1),(3,1),(7,1),(8,1)] .done))]⟩
def JnC(k:Nat){R:Type}(E1004:(J6->J6->Int->Int->Option R))(s0 s1:J6)(s2 s3:Int)(K:(Bool->Option R)): Option R:=cond (decide (s3<s2)) (cond (inb s3 (s0.length:Int)) (cond (inb s3 (s1.length:Int)) (cond ((s0.getD s3.toNat kI.zero) != (s1.getD s3.toNat kI.zero)) (K false) (E1004 s0 s1 s2 (IntKind.i64.wrap (s3+1)))) none) none) (K true)
def JnM(k:Nat){R:Type}(E1004:(J6->J6->Int->Int->Option R))(x0 x1:J6)(K:(Bool->Option R)): Option R:=cond ((x0.length:Int) != (x1.length:Int)) (K false) (E1004 x0 x1 (x0.length:Int) 0)
def JbJ(k:Nat){R:Type}: Nat->J6->J6->Int->Int->(Bool->Option R)->Option R
 |0,_,_,_,_,_=>none
 |n+1,s0,s1,s2,s3,K=>JnC k (fun s0 s1 s2 s3=>JbJ k n s0 s1 s2 s3 K) s0 s1 s2 s3 K
theorem JwV(k:Nat){R:Type}: ∀(I:Nat->St->Option R) (n:Nat),J6m.lp JbI (JnL k).cx k Tryz.f50 1004 [1,1,0,1,0] I n=JbJ k n:=J6m.lok JbI (B:=JnC k) (L:=JbJ k) (fun I=>by kernel_rfl) (fun I=>by kernel_rfl) (fun n=>by kernel_rfl) (fun _ _ _ _=>rfl)
def JbU(k:Nat){R:Type}(x0 x1:J6)(K:(Bool->Option R)): Option R:=JnM k (fun s0 s1 s2 s3=>JbJ k k s0 s1 s2 s3 K) x0 x1 K
theorem JnN(k:Nat): DOK Tryz.prog 50 (J6m.run (@JbU k)):=dok J6m (JnL k) Tryz.f50 k ok0 (by kernel_rfl) (by kernel_rfl) fun R=>J6m.f1 JbI (JnM k) (by kernel_rfl) (JwV k (fun _ _=>none) k) (by kernel_rfl)
def JnO(k:Nat): Ent:=J6m.e 50 (@JbU k)
def JdZ:Sh:=⟨[.g [.a .str,.s kI],.g [.a .str,.s kI]],some ([],[.a .bool]),none⟩
abbrev Jif:Type 1:=(R:Type)->J0->J6->J0->J6->(Bool->Option R)->Option R
def JBi(k:Nat): Cxt:=⟨[JnO k],[],[],[]⟩
def JBj(k:Nat){R:Type}(x0:J0)(x1:J6)(x2:J0)(x3:J6)(K:(Bool->Option R)): Option R:=cond ((x0 == x2) == true) (JbU k x1 x3 K) (K false)
def J7o:=@JBj
theorem Jp5(k:Nat): DOK Tryz.prog 49 (JdZ.run (@J7o k)):=dok JdZ (JBi k) Tryz.f49 k (ok1 (JnN k) ok0) (by kernel_rfl) (by kernel_rfl) fun R=>by kernel_rfl
def JBk(k:Nat): Ent:=JdZ.e 49 (@J7o k)
def Jdq:Sh:=⟨[.g [.a .str,.a .str,.a .bool,.a kI,.a kI,.a .bool,.a .str,.a kI,.a kI,.a .flt,.a .bool,.a .bool,.s kI],.g [.a .str,.a .str,.a .bool,.a kI,.a kI,.a .bool,.a .str,.a kI,.a kI,.a .flt,.a .bool,.a .bool,.s kI]],some ([],[.a .bool]),none⟩
abbrev JhK:Type 1:=(R:Type)->J0->J0->Bool->Int->Int->Bool->J0->Int->Int->Nat->Bool->Bool->J6->J0->J0->Bool->Int->Int->Bool->J0->Int->Int->Nat->Bool->Bool->J6->(Bool->Option R)->Option R
def JAn(k:Nat): Cxt:=⟨[JnO k,Jj8 k,JrF k],[],[],[]⟩
def JAo(k:Nat){R:Type}(x0 x1:J0)(x2:Bool)(x3 x4:Int)(x5:Bool)(x6:J0)(x7 x8:Int)(x9:Nat)(x10 x11:Bool)(x12:J6)(x13 x14:J0)(x15:Bool)(x16 x17:Int)(x18:Bool)(x19:J0)(x20 x21:Int)(x22:Nat)(x23 x24:Bool)(x25:J6)(K:(Bool->Option R)): Option R:=J7C k x0 x1 x2 x3 x4 x5 x6 x7 x8 x9 x10 x11 x12 x13 x14 x15 x16 x17 x18 x19 x20 x21 x22 x23 x24 x25 (fun y29=>cond ((cond (cond (cond y29 (x3 == x16) false) (x4 == x17) false) (x5 == x18) false) == true) (J5d k x6 x7 x8 x9 x10 x11 x19 x20 x21 x22 x23 x24 (fun y30=>cond (y30 == true) (JbU k x12 x25 K) (K false))) (K false))
def J77:=@JAo
theorem JoH(k:Nat): DOK Tryz.prog 53 (Jdq.run (@J77 k)):=dok Jdq (JAn k) Tryz.f53 k (ok1 (JnN k) (ok1 (Jj7 k) (ok1 (JrE k) ok0))) (by kernel_rfl) (by kernel_rfl) fun R=>by kernel_rfl
def JAp(k:Nat): Ent:=Jdq.e 53 (@J77 k)
def J61:Sh:=⟨[.s J5,.s J5,.c 53 []],some ([],[.a .bool]),none⟩
abbrev Jgt:Type 1:=(R:Type)->J9->J9->(Bool->Option R)->Option R
def Jbr:Cu:=⟨0,[1,2,15,16,17],[.s J5,.c 53 [],.s J5,.a kI,.a kI]⟩
def Jnp(k:Nat): Cxt:=⟨[JAp k],[],[(1004,Jbr.spec)],[]⟩
def Jnn(k:Nat){R:Type}(E1004:(J9->J9->Int->Int->Option R))(s0 s1:J9)(s2 s3:Int)(K:(Bool->Option R)): Option R:=cond (decide (s3<s2)) (cond (inb s3 (s1.length:Int)) (cond (inb s3 (s0.length:Int)) (J77 k (s1.getD s3.toNat J5.zero).1 (s1.getD s3.toNat J5.zero).2.1 (s1.getD s3.toNat J5.zero).2.2.1 (s1.getD s3.toNat J5.zero).2.2.2.1 (s1.getD s3.toNat J5.zero).2.2.2.2.1 (s1.getD s3.toNat J5.zero).2.2.2.2.2.1 (s1.getD s3.toNat J5.zero).2.2.2.2.2.2.1.1 (s1.getD s3.toNat J5.zero).2.2.2.2.2.2.1.2.1 (s1.getD s3.toNat J5.zero).2.2.2.2.2.2.1.2.2.1 (s1.getD s3.toNat J5.zero).2.2.2.2.2.2.1.2.2.2.1 (s1.getD s3.toNat J5.zero).2.2.2.2.2.2.1.2.2.2.2.1 (s1.getD s3.toNat J5.zero).2.2.2.2.2.2.1.2.2.2.2.2 (s1.getD s3.toNat J5.zero).2.2.2.2.2.2.2 (s0.getD s3.toNat J5.zero).1 (s0.getD s3.toNat J5.zero).2.1 (s0.getD s3.toNat J5.zero).2.2.1 (s0.getD s3.toNat J5.zero).2.2.2.1 (s0.getD s3.toNat J5.zero).2.2.2.2.1 (s0.getD s3.toNat J5.zero).2.2.2.2.2.1 (s0.getD s3.toNat J5.zero).2.2.2.2.2.2.1.1 (s0.getD s3.toNat J5.zero).2.2.2.2.2.2.1.2.1 (s0.getD s3.toNat J5.zero).2.2.2.2.2.2.1.2.2.1 (s0.getD s3.toNat J5.zero).2.2.2.2.2.2.1.2.2.2.1 (s0.getD s3.toNat J5.zero).2.2.2.2.2.2.1.2.2.2.2.1 (s0.getD s3.toNat J5.zero).2.2.2.2.2.2.1.2.2.2.2.2 (s0.getD s3.toNat J5.zero).2.2.2.2.2.2.2 (fun y8=>cond (!y8) (K false) (E1004 s0 s1 s2 (IntKind.i64.wrap (s3+1))))) none) none) (K true)
def Jnq(k:Nat){R:Type}(E1004:(J9->J9->Int->Int->Option R))(x0 x1:J9)(K:(Bool->Option R)): Option R:=cond ((x0.length:Int) != (x1.length:Int)) (K false) (E1004 x1 x0 (x0.length:Int) 0)
def Jbs(k:Nat){R:Type}: Nat->J9->J9->Int->Int->(Bool->Option R)->Option R
 |0,_,_,_,_,_=>none
 |n+1,s0,s1,s2,s3,K=>Jnn k (fun s0 s1 s2 s3=>Jbs k n s0 s1 s2 s3 K) s0 s1 s2 s3 K
theorem Jwy(k:Nat){R:Type}: ∀(I:Nat->St->Option R) (n:Nat),J61.lp Jbr (Jnp k).cx k Tryz.f52 1004 [1,1,0,1,0] I n=Jbs k n:=J61.lok Jbr (B:=Jnn k) (L:=Jbs k) (fun I=>by kernel_rfl) (fun I=>by kernel_rfl) (fun n=>by kernel_rfl) (fun _ _ _ _=>rfl)
def Jbv(k:Nat){R:Type}(x0 x1:J9)(K:(Bool->Option R)): Option R:=Jnq k (fun s0 s1 s2 s3=>Jbs k k s0 s1 s2 s3 K) x0 x1 K
theorem JwA(k:Nat): DOK Tryz.prog 52 (J61.run (@Jbv k)):=dok J61 (Jnp k) Tryz.f52 k (ok1 (JoH k) ok0) (by kernel_rfl) (by kernel_rfl) fun R=>J61.f1 Jbr (Jnq k) (by kernel_rfl) (Jwy k (fun _ _=>none) k) (by kernel_rfl)
def J62:Sh:=⟨[.s (.pr .str (.sl kI)),.s (.pr .str (.sl kI)),.c 49 []],some ([],[.a .bool]),none⟩
abbrev Jgu:Type 1:=(R:Type)->J7->J7->(Bool->Option R)->Option R
def Jbt:Cu:=⟨0,[1,2,15,16,17],[.s (.pr .str (.sl kI)),.c 49 [],.s (.pr .str (.sl kI)),.a kI,.a kI]⟩
def Jnr(k:Nat): Cxt:=⟨[JBk k],[],[(1004,Jbt.spec)],[]⟩
def Jno(k:Nat){R:Type}(E1004:(J7->J7->Int->Int->Option R))(s0 s1:J7)(s2 s3:Int)(K:(Bool->Option R)): Option R:=cond (decide (s3<s2)) (cond (inb s3 (s1.length:Int)) (cond (inb s3 (s0.length:Int)) (J7o k (s1.getD s3.toNat (Kd.zero (@Kd.pr Kd.str (@Kd.sl kI)))).1 (s1.getD s3.toNat (Kd.zero (@Kd.pr Kd.str (@Kd.sl kI)))).2 (s0.getD s3.toNat (Kd.zero (@Kd.pr Kd.str (@Kd.sl kI)))).1 (s0.getD s3.toNat (Kd.zero (@Kd.pr Kd.str (@Kd.sl kI)))).2 (fun y8=>cond (!y8) (K false) (E1004 s0 s1 s2 (IntKind.i64.wrap (s3+1))))) none) none) (K true)
def Jns(k:Nat){R:Type}(E1004:(J7->J7->Int->Int->Option R))(x0 x1:J7)(K:(Bool->Option R)): Option R:=cond ((x0.length:Int) != (x1.length:Int)) (K false) (E1004 x1 x0 (x0.length:Int) 0)
def Jbu(k:Nat){R:Type}: Nat->J7->J7->Int->Int->(Bool->Option R)->Option R
 |0,_,_,_,_,_=>none
 |n+1,s0,s1,s2,s3,K=>Jno k (fun s0 s1 s2 s3=>Jbu k n s0 s1 s2 s3 K) s0 s1 s2 s3 K
theorem Jwz(k:Nat){R:Type}: ∀(I:Nat->St->Option R) (n:Nat),J62.lp Jbt (Jnr k).cx k Tryz.f51 1004 [1,1,0,1,0] I n=Jbu k n:=J62.lok Jbt (B:=Jno k) (L:=Jbu k) (fun I=>by kernel_rfl) (fun I=>by kernel_rfl) (fun n=>by kernel_rfl) (fun _ _ _ _=>rfl)
def Jbw(k:Nat){R:Type}(x0 x1:J7)(K:(Bool->Option R)): Option R:=Jns k (fun s0 s1 s2 s3=>Jbu k k s0 s1 s2 s3 K) x0 x1 K
theorem JwB(k:Nat): DOK Tryz.prog 51 (J62.run (@Jbw k)):=dok J62 (Jnr k) Tryz.f51 k (ok1 (Jp5 k) ok0) (by kernel_rfl) (by kernel_rfl) fun R=>J62.f1 Jbt (Jns k) (by kernel_rfl) (Jwz k (fun _ _=>none) k) (by kernel_rfl)
def Jel:Sh:=⟨[.g [.s (.pr .str (.sl kI)),.s J5],.g [.s (.pr .str (.sl kI)),.s J5]],some ([],[.a .bool]),none⟩
abbrev JiK:Type 1:=(R:Type)->J7->J9->J7->J9->(Bool->Option R)->Option R
def Jqe(k:Nat)(J9G:Jif)(J63:Jgu)(J64:Jgt)(J9D:JhK): Cxt:=⟨[JdZ.e 49 J9G,J62.e 51 J63,J61.e 52 J64,Jdq.e 53 J9D],[],[],[]⟩
def Jqf(k:Nat)(J9G:Jif)(J63:Jgu)(J64:Jgt)(J9D:JhK){R:Type}(x0:J7)(x1:J9)(x2:J7)(x3:J9)(K:(Bool->Option R)): Option R:=J63 R x0 x2 (fun y7=>cond (y7 == true) (J64 R x1 x3 K) (K false))
theorem JCC(k:Nat)(J9G:Jif)(J63:Jgu)(J64:Jgt)(J9D:JhK)(R:Type): Jel.at (Jqe k J9G J63 J64 J9D) k Tryz.f23 R=@Jqf k J9G J63 J64 J9D R:=by kernel_rfl
def Jem(k:Nat){R:Type}:= @Jqf k (@J7o k) (@Jbw k) (@Jbv k) (@J77 k) R
theorem JCD(k:Nat): DOK Tryz.prog 23 (Jel.run (@Jem k)):=dok Jel (Jqe k (@J7o k) (@Jbw k) (@Jbv k) (@J77 k)) Tryz.f23 k (ok1 (Jp5 k) (ok1 (JwB k) (ok1 (JwA k) (ok1 (JoH k) ok0)))) (by kernel_rfl) (by kernel_rfl) fun R=>JCC k (@J7o k) (@Jbw k) (@Jbv k) (@J77 k) R
def JjL:Sh:=⟨[.a .flt,.a .flt],some ([],[.a kI]),none⟩
def JDT(k:Nat): Cxt:=⟨[Jjv k,JBw k],[],[],[]⟩
def Jr3(k:Nat){R:Type}(x0 x1:Nat)(K:(Int->Option R)): Option R:=QO k x0 (fun y5=>cond (y5 == false) (QO k x1 (fun y6=>cond y6 (QO k x0 (fun y7=>cond (y7 == true) (QO k x1 (fun y8=>cond y8 (K 0) (QO k x0 (fun y9=>cond y9 (K 1) (K (-(1:Int))))))) (QO k x0 (fun y8=>cond y8 (K 1) (K (-(1:Int))))))) (cond (@Jr @Go.BinOp.lss x0 x1) (K (-(1:Int))) (cond (@Jr @Go.BinOp.gtr x0 x1) (K 1) (U9 k x0 (fun y7=>U9 k x1 (fun y8=>cond (y7 == y8) (K 0) (U9 k x0 (fun y9=>cond y9 (K (-(1:Int))) (K 1)))))))))) (QO k x0 (fun y6=>cond (y6 == true) (QO k x1 (fun y7=>cond y7 (K 0) (QO k x0 (fun y8=>cond y8 (K 1) (K (-(1:Int))))))) (QO k x0 (fun y7=>cond y7 (K 1) (K (-(1:Int))))))))
def Jey:=@Jr3
theorem JDU(k:Nat): DOK Tryz.prog 108 (JjL.run (@Jey k)):=dok JjL (JDT k) Tryz.f108 k (ok1 (J9Y k) (ok1 (Je7 k) ok0)) (by kernel_rfl) (by kernel_rfl) fun R=>by kernel_rfl
def JDV(k:Nat): Ent:=JjL.e 108 (@Jey k)
def JjM:Sh:=⟨[.a .flt,.a .flt],some ([],[.a .bool]),none⟩
def JDW(k:Nat): Cxt:=⟨[JDV k],[],[],[]⟩
def Jr4(k:Nat){R:Type}(x0 x1:Nat)(K:(Bool->Option R)): Option R:=Jey k x0 x1 (fun y5=>K (y5 == 0))
def Ja8:=@Jr4
theorem JDX(k:Nat): DOK Tryz.prog 63 (JjM.run (@Ja8 k)):=dok JjM (JDW k) Tryz.f63 k (ok1 (JDU k) ok0) (by kernel_rfl) (by kernel_rfl) fun R=>by kernel_rfl
def JDY(k:Nat): Ent:=JjM.e 63 (@Ja8 k)
def Jig:Sh:=⟨[.g [.a .str,.a kI,.a kI,.a .flt,.a .bool,.a .bool],.g [.a .str,.a kI,.a kI,.a .flt,.a .bool,.a .bool]],some ([],[.a .bool]),none⟩
def JAO(k:Nat): Cxt:=⟨[JDY k],[],[],[]⟩
def JoQ(k:Nat){R:Type}(x0:J0)(x1 x2:Int)(x3:Nat)(x4 x5:Bool)(x6:J0)(x7 x8:Int)(x9:Nat)(x10 x11:Bool)(K:(Bool->Option R)): Option R:=cond ((cond (cond (cond (cond (x0 == x6) (x1 == x7) false) (x2 == x8) false) (x4 == x10) false) (x5 == x11) false) == true) (Ja8 k x3 x9 K) (K false)
def J7i:=@JoQ
theorem JAP(k:Nat): DOK Tryz.prog 32 (Jig.run (@J7i k)):=dok Jig (JAO k) Tryz.f32 k (ok1 (JDX k) ok0) (by kernel_rfl) (by kernel_rfl) fun R=>by kernel_rfl
def JAQ(k:Nat): Ent:=Jig.e 32 (@J7i k)
def J86:Sh:=⟨[.s kI,.s kI],some ([],[.a .bool]),none⟩
def JdJ:Cu:=⟨0,[0,1,5],[.s kI,.s kI,.a kI]⟩
def JrO(k:Nat): Cxt:=⟨[],[],[(1004,JdJ.spec)],[(6,(.of [(0,1),(1,1),(2,1),(4,1),(5,1),(6,1),(3,1),(7,1),(8,1)] .done))]⟩
def JdK(k:Nat){R:Type}(E1004:(J6->J6->Int->Option R))(s0 s1:J6)(s2:Int)(K:(Bool->Option R)): Option R:=cond (decide (s2<(s0.length:Int))) (cond (inb s2 (s0.length:Int)) (cond (inb s2 (s1.length:Int)) (cond ((s0.getD s2.toNat kI.zero) != (s1.getD s2.toNat kI.zero)) (K false) (E1004 s0 s1 (IntKind.i64.wrap (s2+1)))) none) none) (K true)
def Jkj(k:Nat){R:Type}(E1004:(J6->J6->Int->Option R))(x0 x1:J6)(K:(Bool->Option R)): Option R:=cond ((x0.length:Int) != (x1.length:Int)) (K false) (E1004 x0 x1 0)
def J4H(k:Nat){R:Type}: Nat->J6->J6->Int->(Bool->Option R)->Option R
 |0,_,_,_,_=>none
 |n+1,s0,s1,s2,K=>JdK k (fun s0 s1 s2=>J4H k n s0 s1 s2 K) s0 s1 s2 K
theorem Jz8(k:Nat){R:Type}: ∀(I:Nat->St->Option R) (n:Nat),J86.lp JdJ (JrO k).cx k Tryz.f31 1004 [1,1,0,1,0] I n=J4H k n:=J86.lok JdJ (B:=JdK k) (L:=J4H k) (fun I=>by kernel_rfl) (fun I=>by kernel_rfl) (fun n=>by kernel_rfl) (fun _ _ _ _=>rfl)
def J5e(k:Nat){R:Type}(x0 x1:J6)(K:(Bool->Option R)): Option R:=Jkj k (fun s0 s1 s2=>J4H k k s0 s1 s2 K) x0 x1 K
theorem JF4(k:Nat): DOK Tryz.prog 31 (J86.run (@J5e k)):=dok J86 (JrO k) Tryz.f31 k ok0 (by kernel_rfl) (by kernel_rfl) fun R=>J86.f1 JdJ (Jkj k) (by kernel_rfl) (Jz8 k (fun _ _=>none) k) (by kernel_rfl)
def JF5(k:Nat): Ent:=J86.e 31 (@J5e k)
def J0p:Sh:=⟨[.g [.s (.pr .str (.sl kI)),.s J5],.g [.s (.pr .str (.sl kI)),.s J5]],some ([],[.a .bool]),none⟩
abbrev J7F:Type 1:=(R:Type)->J7->J9->J7->J9->(Bool->Option R)->Option R
def J4w:Cu:=⟨0,[2,3,5],[.o 12 27 0 [.s (.pr .str (.sl kI)),.s J5],.o 13 27 0 [.s (.pr .str (.sl kI)),.s J5],.a kI]⟩
def J4x:Cu:=⟨0,[2,3,6],[.o 12 27 0 [.s (.pr .str (.sl kI)),.s J5],.o 13 27 0 [.s (.pr .str (.sl kI)),.s J5],.a kI]⟩
def Jez(k:Nat): Cxt:=⟨[JF5 k,JAQ k],[],[(1004,J4w.spec),(1009,J4x.spec)],[(6,(.of [(0,1),(2,1),(6,1),(8,1),(1,1),(3,1),(4,1),(5,1),(7,1),(9,1),(10,1),(11,1),(12,1),(13,1),(14,1),(16,1),(20,1),(22,1),(15,1),(17,1),(18,1),(19,1),(21,1),(23,1),(24,1),(25,1),(26,0),(27,1),(28,1)] .done)),(11,(.of [(0,1),(2,1),(5,1),(7,1),(1,1),(3,1),(4,1),(6,2),(8,1),(9,2)] (.alt 10 (.of [(11,0),(12,0),(13,0)] .done) (.op 11 0 (.of [(10,0),(12,0),(13,0)] .done)))))]⟩
def J9B(k:Nat){R:Type}(E1004 E1009:(J7->J9->J7->J9->Int->Option R))(s0:J7)(s1:J9)(s2:J7)(s3:J9)(s4:Int)(K:(Bool->Option R)): Option R:=cond (decide (s4<(s0.length:Int))) (cond (inb s4 (s0.length:Int)) (cond (inb s4 (s2.length:Int)) (cond ((!((!((s0.getD s4.toNat (Kd.zero (@Kd.pr Kd.str (@Kd.sl kI)))).1 == (s2.getD s4.toNat (Kd.zero (@Kd.pr Kd.str (@Kd.sl kI)))).1)) == false)) || (inb s4 (s0.length:Int))) (cond ((!((!((s0.getD s4.toNat (Kd.zero (@Kd.pr Kd.str (@Kd.sl kI)))).1 == (s2.getD s4.toNat (Kd.zero (@Kd.pr Kd.str (@Kd.sl kI)))).1)) == false)) || (inb s4 (s2.length:Int))) (cond ((!((s0.getD s4.toNat (Kd.zero (@Kd.pr Kd.str (@Kd.sl kI)))).1 == (s2.getD s4.toNat (Kd.zero (@Kd.pr Kd.str (@Kd.sl kI)))).1)) == false) (J5e k (s0.getD s4.toNat (Kd.zero (@Kd.pr Kd.str (@Kd.sl kI)))).2 (s2.getD s4.toNat (Kd.zero (@Kd.pr Kd.str (@Kd.sl kI)))).2 (fun y10=>cond (!y10) (K false) (E1004 s0 s1 s2 s3 (IntKind.i64.wrap (s4+1))))) (K false)) none) none) none) none) (E1009 s0 s1 s2 s3 0)
def JhL(k:Nat){R:Type}(E1009:(J7->J9->J7->J9->Int->Option R))(s0:J7)(s1:J9)(s2:J7)(s3:J9)(s4:Int)(K:(Bool->Option R)): Option R:=cond (decide (s4<(s1.length:Int))) (cond (inb s4 (s1.length:Int)) (cond (inb s4 (s3.length:Int)) (J90 (@Shp.b @Shp.o @Shp.o) (cond ((cond (cond (cond (cond (cond (!((s1.getD s4.toNat J5.zero).1 == (s3.getD s4.toNat J5.zero).1)) true (!((s1.getD s4.toNat J5.zero).2.1 == (s3.getD s4.toNat J5.zero).2.1))) true (!((s1.getD s4.toNat J5.zero).2.2.1 == (s3.getD s4.toNat J5.zero).2.2.1))) true ((s1.getD s4.toNat J5.zero).2.2.2.1 != (s3.getD s4.toNat J5.zero).2.2.2.1)) true ((s1.getD s4.toNat J5.zero).2.2.2.2.1 != (s3.getD s4.toNat J5.zero).2.2.2.2.1)) true (!((s1.getD s4.toNat J5.zero).2.2.2.2.2.1 == (s3.getD s4.toNat J5.zero).2.2.2.2.2.1))) == false) (J7i k (s1.getD s4.toNat J5.zero).2.2.2.2.2.2.1.1 (s1.getD s4.toNat J5.zero).2.2.2.2.2.2.1.2.1 (s1.getD s4.toNat J5.zero).2.2.2.2.2.2.1.2.2.1 (s1.getD s4.toNat J5.zero).2.2.2.2.2.2.1.2.2.2.1 (s1.getD s4.toNat J5.zero).2.2.2.2.2.2.1.2.2.2.2.1 (s1.getD s4.toNat J5.zero).2.2.2.2.2.2.1.2.2.2.2.2 (s3.getD s4.toNat J5.zero).2.2.2.2.2.2.1.1 (s3.getD s4.toNat J5.zero).2.2.2.2.2.2.1.2.1 (s3.getD s4.toNat J5.zero).2.2.2.2.2.2.1.2.2.1 (s3.getD s4.toNat J5.zero).2.2.2.2.2.2.1.2.2.2.1 (s3.getD s4.toNat J5.zero).2.2.2.2.2.2.1.2.2.2.2.1 (s3.getD s4.toNat J5.zero).2.2.2.2.2.2.1.2.2.2.2.2 (fun y10=>cond ((!y10) == false) (J5e k (s1.getD s4.toNat J5.zero).2.2.2.2.2.2.2 (s3.getD s4.toNat J5.zero).2.2.2.2.2.2.2 (fun y11=>cond (!y11) (K false) (E1009 s0 s1 s2 s3 (IntKind.i64.wrap (s4+1))))) (K false))) (K false))) none) none) (K true)
def J78(k:Nat){R:Type}(E1009:(J7->J9->J7->J9->Int->Option R))(s0:J7)(s1:J9)(s2:J7)(s3:J9)(s4:Int)(K:(Bool->Option R)): Option R:=cond (decide (s4<(s1.length:Int))) (cond (inb s4 (s1.length:Int)) (cond (inb s4 (s3.length:Int)) (cond ((cond (cond (cond (cond (cond (!((s1.getD s4.toNat J5.zero).1 == (s3.getD s4.toNat J5.zero).1)) true (!((s1.getD s4.toNat J5.zero).2.1 == (s3.getD s4.toNat J5.zero).2.1))) true (!((s1.getD s4.toNat J5.zero).2.2.1 == (s3.getD s4.toNat J5.zero).2.2.1))) true ((s1.getD s4.toNat J5.zero).2.2.2.1 != (s3.getD s4.toNat J5.zero).2.2.2.1)) true ((s1.getD s4.toNat J5.zero).2.2.2.2.1 != (s3.getD s4.toNat J5.zero).2.2.2.2.1)) true (!((s1.getD s4.toNat J5.zero).2.2.2.2.2.1 == (s3.getD s4.toNat J5.zero).2.2.2.2.2.1))) == false) (J7i k (s1.getD s4.toNat J5.zero).2.2.2.2.2.2.1.1 (s1.getD s4.toNat J5.zero).2.2.2.2.2.2.1.2.1 (s1.getD s4.toNat J5.zero).2.2.2.2.2.2.1.2.2.1 (s1.getD s4.toNat J5.zero).2.2.2.2.2.2.1.2.2.2.1 (s1.getD s4.toNat J5.zero).2.2.2.2.2.2.1.2.2.2.2.1 (s1.getD s4.toNat J5.zero).2.2.2.2.2.2.1.2.2.2.2.2 (s3.getD s4.toNat J5.zero).2.2.2.2.2.2.1.1 (s3.getD s4.toNat J5.zero).2.2.2.2.2.2.1.2.1 (s3.getD s4.toNat J5.zero).2.2.2.2.2.2.1.2.2.1 (s3.getD s4.toNat J5.zero).2.2.2.2.2.2.1.2.2.2.1 (s3.getD s4.toNat J5.zero).2.2.2.2.2.2.1.2.2.2.2.1 (s3.getD s4.toNat J5.zero).2.2.2.2.2.2.1.2.2.2.2.2 (fun y10=>cond ((!y10) == false) (J5e k (s1.getD s4.toNat J5.zero).2.2.2.2.2.2.2 (s3.getD s4.toNat J5.zero).2.2.2.2.2.2.2 (fun y11=>cond (!y11) (K false) (E1009 s0 s1 s2 s3 (IntKind.i64.wrap (s4+1))))) (K false))) (K false)) none) none) (K true)
theorem Jy3(k:Nat){R:Type}: @JhL k R=@J78 k R:=by funext E1009 s0 s1 s2 s3 s4 K;unfold JhL J78;simp only[Jfv,show ∀(R:Type) (a:Option R),J1L a a=a from fun R a=>by unfold J1L;exact if_pos rfl]
def JjN(k:Nat){R:Type}(E1004:(J7->J9->J7->J9->Int->Option R))(x0:J7)(x1:J9)(x2:J7)(x3:J9)(K:(Bool->Option R)): Option R:=cond (cond ((x0.length:Int) != (x2.length:Int)) true ((x1.length:Int) != (x3.length:Int))) (K false) (E1004 x0 x1 x2 x3 0)
def J37(k:Nat){R:Type}: Nat->J7->J9->J7->J9->Int->(Bool->Option R)->Option R
 |0,_,_,_,_,_,_=>none
 |n+1,s0,s1,s2,s3,s4,K=>J78 k (fun s0 s1 s2 s3 s4=>J37 k n s0 s1 s2 s3 s4 K) s0 s1 s2 s3 s4 K
theorem Jyx(k:Nat){R:Type}: ∀(I:Nat->St->Option R) (n:Nat),J0p.lp J4x (Jez k).cx k Tryz.f13 1009 [1,1,1,0,1,0] I n=J37 k n:=J0p.lok J4x (B:=J78 k) (L:=J37 k) (fun I=>(show _=JhL k (J4x.cur (I 1009)) by kernel_rfl).trans (by simp only[Jy3])) (fun I=>by kernel_rfl) (fun n=>by kernel_rfl) (fun _ _ _ _=>rfl)
def J4y(k:Nat){R:Type}: Nat->J7->J9->J7->J9->Int->(Bool->Option R)->Option R
 |0,_,_,_,_,_,_=>none
 |n+1,s0,s1,s2,s3,s4,K=>J9B k (fun s0 s1 s2 s3 s4=>J4y k n s0 s1 s2 s3 s4 K) (fun s0 s1 s2 s3 s4=>J37 k k s0 s1 s2 s3 s4 K) s0 s1 s2 s3 s4 K
theorem Jyy(k:Nat){R:Type}: ∀(I:Nat->St->Option R) (n:Nat),J0p.lp J4w (Jez k).cx k Tryz.f13 1004 [1,1,0,1,0] I n=J4y k n:=J0p.lokA J4w (fun I J=>J0p.glue (l:=J4w.fs) (u:=J4x.fs) (fun E1009=>J9B k J E1009) (J37 k k)) (fun I=>J4y k ) (fun I f=>by kernel_rfl) (fun I=>(show _=J0p.glue (l:=J4w.fs) (u:=J4x.fs) (fun E1009=>J9B k (J4w.cur (I 1004)) E1009) (J0p.lp J4x (Jez k).cx k Tryz.f13 1009 [1,1,1,0,1,0] I k) by kernel_rfl).trans (by rw[Jyx])) (fun I=>by kernel_rfl) (fun I n=>by kernel_rfl) (fun _ _ _ _=>rfl)
def J2i(k:Nat){R:Type}(x0:J7)(x1:J9)(x2:J7)(x3:J9)(K:(Bool->Option R)): Option R:=JjN k (fun s0 s1 s2 s3 s4=>J4y k k s0 s1 s2 s3 s4 K) x0 x1 x2 x3 K
theorem Jr5(k:Nat): DOK Tryz.prog 13 (J0p.run (@J2i k)):=dok J0p (Jez k) Tryz.f13 k (ok1 (JF4 k) (ok1 (JAP k) ok0)) (by kernel_rfl) (by kernel_rfl) fun R=>J0p.f1 J4w (JjN k) (by kernel_rfl) (Jyy k (fun _ _=>none) k) (by kernel_rfl)
def Jen:Sh:=⟨[],some ([],[.a .bool]),none⟩
abbrev JiL:Type 1:=(R:Type)->(Bool->Option R)->Option R
def Jqg(k:Nat)(ZV:J7n)(ZZ:J7F)(Zy:J7m)(J3m:(R:Type)->J3->(J7->J9->Int->Int->Option R)->Option R)(J55:JiK): Cxt:=⟨[Jeb.e 11 ZV,J0p.e 13 ZZ,J4T.e 14 Zy,⟨16,Jq8,Jps J3m⟩,Jel.e 23 J55],[],[],[]⟩
def Jqh(k:Nat)(ZV:J7n)(ZZ:J7F)(Zy:J7m)(J3m:(R:Type)->J3->(J7->J9->Int->Int->Option R)->Option R)(J55:JiK){R:Type}(K:(Bool->Option R)): Option R:=ZV R [100,111,109,97,105,110,115,58,10,32,32,45,32,100,111,109,97,105,110,58,32,115,104,111,112,10,32,32,32,32,100,101,115,99,114,105,112,116,111,114,115,58,10,32,32,32,32,32,32,45,32,107,101,121,58,32,117,115,101,114,10,32,32,32,32,32,32,32,32,114,97,116,101,95,108,105,109,105,116,58,10,32,32,32,32,32,32,32,32,32,32,117,110,105,116,58,32,109,105,110,117,116,101,10,32,32,32,32,32,32,32,32,32,32,114,101,113,117,101,115,116,115,95,112,101,114,95,117,110,105,116,58,32,49,48,10] (fun y3 y4 y5 y6=>J3m R [] (fun y7 y8 y9 y10=>cond (((y5 == 0)&&(y6 == 0)) == true) (ZZ R y3 y4 [([115,104,111,112],[0])] [([117,115,101,114],([],(true,(0,((-(1:Int)),(true,(([],(2,(10,(4605380978949069210,(false,false))))),[])))))))] (fun y11=>cond (y11 == true) (Zy R y3 y4 (fun y12=>cond ((y12 == 0) == true) (Zy R [] [] (fun y13=>cond ((cond (y13 == 1) ((y9 == 11)&&(y10 == 0)) false) == true) (J55 R y3 y4 [([115,104,111,112],[0])] [([117,115,101,114],([],(true,(0,((-(1:Int)),(true,(([],(2,(10,(4605380978949069210,(false,false))))),[])))))))] (fun y14=>cond (y14 == true) (J55 R y3 y4 [] [] (fun y15=>K (!y15))) (K false))) (K false))) (K false))) (K false))) (K false)))
theorem JCE(k:Nat)(ZV:J7n)(ZZ:J7F)(Zy:J7m)(J3m:(R:Type)->J3->(J7->J9->Int->Int->Option R)->Option R)(J55:JiK)(R:Type): Jen.at (Jqg k ZV ZZ Zy J3m J55) k Tryz.f10 R=@Jqh k ZV ZZ Zy J3m J55 R:=by kernel_rfl
def J7G(k:Nat){R:Type}:= @Jqh k (@J2c k) (@J2i k) (@J2a k) (@J3k k) (@Jem k) R
theorem JCF(k:Nat): DOK Tryz.prog 10 (Jen.run (@J7G k)):=dok Jen (Jqg k (@J2c k) (@J2i k) (@J2a k) (@J3k k) (@Jem k)) Tryz.f10 k (ok1 (Jpr k) (ok1 (Jr5 k) (ok1 (Jpl k) (ok1 (fun _ _ _ _ _ h=>JrM k (by unfold Jps at h;unfold Jej;exact h)) (ok1 (JCD k) ok0))))) (by kernel_rfl) (by kernel_rfl) fun R=>JCE k (@J2c k) (@J2i k) (@J2a k) (@J3k k) (@Jem k) R
def J7s:Sh:=⟨[.a .str,.a kI],some ([],[.a kI,.a .bool]),none⟩
def JcC:Cu:=⟨0,[0,6,7],[.a .str,.a (.int .u8),.a kI]⟩
def Jpt(k:Nat): Cxt:=⟨[],[],[(1003,JcC.spec)],[]⟩
def Jhk(k:Nat){R:Type}(E1003:(J0->Int->Int->Option R))(s0:J0)(s1 s2:Int)(K:(Int->Bool->Option R)): Option R:=cond (decide (s2<(s0.length:Int))) (cond ((!((s1 == 34) == true)) || (inb s2 (s0.length:Int))) (cond (cond (s1 == 34) (((s0.getD s2.toNat 0).toNat:Int) == 92) false) (E1003 s0 s1 (IntKind.i64.wrap ((IntKind.i64.wrap (s2+1))+1))) (cond (inb s2 (s0.length:Int)) (cond (((s0.getD s2.toNat 0).toNat:Int) != s1) (E1003 s0 s1 (IntKind.i64.wrap (s2+1))) (cond ((!((cond (s1 == 39) (decide ((IntKind.i64.wrap (s2+1))<(s0.length:Int))) false) == true)) || (inb (IntKind.i64.wrap (s2+1)) (s0.length:Int))) (cond (cond (cond (s1 == 39) (decide ((IntKind.i64.wrap (s2+1))<(s0.length:Int))) false) (((s0.getD (IntKind.i64.wrap (s2+1)).toNat 0).toNat:Int) == 39) false) (E1003 s0 s1 (IntKind.i64.wrap ((IntKind.i64.wrap (s2+1))+1))) (K (IntKind.i64.wrap (s2+1)) true)) none)) none)) none) (K 0 false)
def JiM(k:Nat){R:Type}(E1003:(J0->Int->Int->Option R))(x0:J0)(x1:Int)(K:(Int->Bool->Option R)): Option R:=cond (inb x1 (x0.length:Int)) (E1003 x0 ((x0.getD x1.toNat 0).toNat:Int) (IntKind.i64.wrap (x1+1))) none
def J6G(k:Nat){R:Type}: Nat->J0->Int->Int->(Int->Bool->Option R)->Option R
 |0,_,_,_,_=>none
 |n+1,s0,s1,s2,K=>Jhk k (fun s0 s1 s2=>J6G k n s0 s1 s2 K) s0 s1 s2 K
theorem JxK(k:Nat){R:Type}: ∀(I:Nat->St->Option R) (n:Nat),J7s.lp JcC (Jpt k).cx k Tryz.f154 1003 [1,1,0,1,0] I n=J6G k n:=J7s.lok JcC (B:=Jhk k) (L:=J6G k) (fun I=>by kernel_rfl) (fun I=>by kernel_rfl) (fun n=>by kernel_rfl) (fun _ _ _ _=>rfl)
def J9I(k:Nat){R:Type}(x0:J0)(x1:Int)(K:(Int->Bool->Option R)): Option R:=JiM k (fun s0 s1 s2=>J6G k k s0 s1 s2 K) x0 x1 K
theorem JBK(k:Nat): DOK Tryz.prog 154 (J7s.run (@J9I k)):=dok J7s (Jpt k) Tryz.f154 k ok0 (by kernel_rfl) (by kernel_rfl) fun R=>J7s.f1 JcC (JiM k) (by kernel_rfl) (JxK k (fun _ _=>none) k) (by kernel_rfl)
def JBL(k:Nat): Ent:=J7s.e 154 (@J9I k)
def J0U:Sh:=⟨[.a .str],some ([],[.a .str,.a .bool]),none⟩
def J4k:Cu:=⟨0,[0,4,5],[.a .str,.a kI,.a kI]⟩
def J6V:Cu:=⟨0,[0,4],[.a .str,.a kI]⟩
def Jeo(k:Nat): Cxt:=⟨[JBL k],[],[(1003,J4k.spec),(1013,J6V.spec)],[]⟩
def J9v(k:Nat){R:Type}(E1003:(J0->Int->Int->Option R))(E1013:(J0->Int->Option R))(s0:J0)(s1 s2:Int)(K:(J0->Bool->Option R)): Option R:=cond (decide (s2<s1)) (cond ((!((s2 == 0) == false)) || (inb (IntKind.i64.wrap (s2-1)) (s0.length:Int))) (cond ((!((cond (s2 == 0) true (((s0.getD (IntKind.i64.wrap (s2-1)).toNat 0).toNat:Int) == 32)) == true)) || (inb s2 (s0.length:Int))) (cond (cond (cond (s2 == 0) true (((s0.getD (IntKind.i64.wrap (s2-1)).toNat 0).toNat:Int) == 32)) (((s0.getD s2.toNat 0).toNat:Int) == 35) false) (E1003 s0 s2 s2) (cond ((!((cond (s2 == 0) true (((s0.getD (IntKind.i64.wrap (s2-1)).toNat 0).toNat:Int) == 32)) == true)) || (inb s2 (s0.length:Int))) (cond ((!(((cond (s2 == 0) true (((s0.getD (IntKind.i64.wrap (s2-1)).toNat 0).toNat:Int) == 32)) == true)&&((((s0.getD s2.toNat 0).toNat:Int) == 39) == false))) || (inb s2 (s0.length:Int))) (cond (cond (cond (s2 == 0) true (((s0.getD (IntKind.i64.wrap (s2-1)).toNat 0).toNat:Int) == 32)) (cond (((s0.getD s2.toNat 0).toNat:Int) == 39) true (((s0.getD s2.toNat 0).toNat:Int) == 34)) false) (J9I k s0 s2 (fun y8 y9=>cond (!y9) (K [] false) (E1003 s0 s1 y8))) (E1003 s0 s1 (IntKind.i64.wrap (s2+1)))) none) none)) none) none) (E1013 s0 s1)
def JhM(k:Nat){R:Type}(E1013:(J0->Int->Option R))(s0:J0)(s1:Int)(K:(J0->Bool->Option R)): Option R:=cond ((!((decide (s1>0)) == true)) || (inb (IntKind.i64.wrap (s1-1)) (s0.length:Int))) (cond (cond (decide (s1>0)) (((s0.getD (IntKind.i64.wrap (s1-1)).toNat 0).toNat:Int) == 32) false) (E1013 s0 (IntKind.i64.wrap (s1-1))) (cond (bnd 0 s1 (s0.length:Int)) (K (cut s0 0 s1) true) none)) none
def Jjg(k:Nat){R:Type}(E1003:(J0->Int->Int->Option R))(x0:J0)(K:(J0->Bool->Option R)): Option R:=E1003 x0 (x0.length:Int) 0
def J4l(k:Nat){R:Type}: Nat->J0->Int->(J0->Bool->Option R)->Option R
 |0,_,_,_=>none
 |n+1,s0,s1,K=>JhM k (fun s0 s1=>J4l k n s0 s1 K) s0 s1 K
theorem Jy4(k:Nat){R:Type}: ∀(I:Nat->St->Option R) (n:Nat),J0U.lp J6V (Jeo k).cx k Tryz.f104 1013 [1,1,1,0,0] I n=J4l k n:=J0U.lok J6V (B:=JhM k) (L:=J4l k) (fun I=>by kernel_rfl) (fun I=>by kernel_rfl) (fun n=>by kernel_rfl) (fun _ _ _ _=>rfl)
def J1Z(k:Nat){R:Type}: Nat->J0->Int->Int->(J0->Bool->Option R)->Option R
 |0,_,_,_,_=>none
 |n+1,s0,s1,s2,K=>J9v k (fun s0 s1 s2=>J1Z k n s0 s1 s2 K) (fun s0 s1=>J4l k k s0 s1 K) s0 s1 s2 K
theorem Jy5(k:Nat){R:Type}: ∀(I:Nat->St->Option R) (n:Nat),J0U.lp J4k (Jeo k).cx k Tryz.f104 1003 [1,1,0,1,0] I n=J1Z k n:=J0U.lokA J4k (fun I J=>J0U.glue (l:=J4k.fs) (u:=J6V.fs) (fun E1013=>J9v k J E1013) (J4l k k)) (fun I=>J1Z k ) (fun I f=>by kernel_rfl) (fun I=>(show _=J0U.glue (l:=J4k.fs) (u:=J6V.fs) (fun E1013=>J9v k (J4k.cur (I 1003)) E1013) (J0U.lp J6V (Jeo k).cx k Tryz.f104 1013 [1,1,1,0,0] I k) by kernel_rfl).trans (by rw[Jy4])) (fun I=>by kernel_rfl) (fun I n=>by kernel_rfl) (fun _ _ _ _=>rfl)
def J51(k:Nat){R:Type}(x0:J0)(K:(J0->Bool->Option R)): Option R:=Jjg k (fun s0 s1 s2=>J1Z k k s0 s1 s2 K) x0 K
theorem Jqi(k:Nat): DOK Tryz.prog 104 (J0U.run (@J51 k)):=dok J0U (Jeo k) Tryz.f104 k (ok1 (JBK k) ok0) (by kernel_rfl) (by kernel_rfl) fun R=>J0U.f1 J4k (Jjg k) (by kernel_rfl) (Jy5 k (fun _ _=>none) k) (by kernel_rfl)
def Jqj(k:Nat): Ent:=J0U.e 104 (@J51 k)
def YP:Sh:=⟨[.s (.int .u8)],some ([],[.s US,.g [.a kI,.a kI]]),none⟩
def J0i:Cu:=⟨0,[0,3,4,5,6],[.s (.int .u8),.o 13 29 0 [.a kI,.a kI],.w 100004 151 US,.a kI,.a kI]⟩
def J20:Cu:=⟨0,[0,3,4,5,6,7,8],[.s (.int .u8),.o 13 29 0 [.a kI,.a kI],.w 100004 151 US,.a kI,.a kI,.a kI,.a .bool]⟩
def J6W:Cu:=⟨0,[0,3,4,5,6,7,9],[.s (.int .u8),.o 13 29 0 [.a kI,.a kI],.w 100004 151 US,.a kI,.a kI,.a kI,.a kI]⟩
def J7H(k:Nat): Cxt:=⟨[Jqj k],[],[(1006,J0i.spec),(1010,J20.spec),(1016,J6W.spec)],[]⟩
def JcZ(k:Nat){R:Type}(E1010:(J6->Int->Int->Q8->Int->Int->Int->Bool->Option R))(s0:J6)(s1 s2:Int)(s3:Q8)(s4 s5:Int)(K:(Q8->Int->Int->Option R)): Option R:=cond (decide (s4<(s0.length:Int))) (E1010 s0 s1 s2 s3 s4 s5 s4 false) (K s3 0 0)
def Jd0(k:Nat){R:Type}(E1010:(J6->Int->Int->Q8->Int->Int->Int->Bool->Option R))(E1016:(J6->Int->Int->Q8->Int->Int->Int->Int->Option R))(s0:J6)(s1 s2:Int)(s3:Q8)(s4 s5 s6:Int)(s7:Bool)(K:(Q8->Int->Int->Option R)): Option R:=cond ((!((decide (s6<(s0.length:Int))) == true)) || (inb s6 (s0.length:Int))) (cond (cond (decide (s6<(s0.length:Int))) ((s0.getD s6.toNat (Kd.zero (@Kd.int Go.IntKind.u8))) != 10) false) (cond ((!(s7 == false)) || (inb s6 (s0.length:Int))) (cond ((!((cond s7 true (decide ((s0.getD s6.toNat (Kd.zero (@Kd.int Go.IntKind.u8)))<32))) == false)) || (inb s6 (s0.length:Int))) (E1010 s0 s1 s2 s3 s4 s5 (IntKind.i64.wrap (s6+1)) (cond (cond s7 true (decide ((s0.getD s6.toNat (Kd.zero (@Kd.int Go.IntKind.u8)))<32))) true ((s0.getD s6.toNat (Kd.zero (@Kd.int Go.IntKind.u8))) == 127))) none) none) (cond s7 (K [] 2 s5) (E1016 s0 s1 s2 s3 s4 s5 s6 0))) none
def JhN(k:Nat){R:Type}(E1006:(J6->Int->Int->Q8->Int->Int->Option R))(E1016:(J6->Int->Int->Q8->Int->Int->Int->Int->Option R))(s0:J6)(s1 s2:Int)(s3:Q8)(s4 s5 s6 s7:Int)(K:(Q8->Int->Int->Option R)): Option R:=cond ((!((decide ((IntKind.i64.wrap (s4+s7))<s6)) == true)) || (inb (IntKind.i64.wrap (s4+s7)) (s0.length:Int))) (cond (cond (decide ((IntKind.i64.wrap (s4+s7))<s6)) ((s0.getD (IntKind.i64.wrap (s4+s7)).toNat (Kd.zero (@Kd.int Go.IntKind.u8))) == 32) false) (E1016 s0 s1 s2 s3 s4 s5 s6 (IntKind.i64.wrap (s7+1))) (cond (bnd (IntKind.i64.wrap (s4+s7)) s6 (s0.length:Int)) (J51 k (Q5 (cut s0 (IntKind.i64.wrap (s4+s7)) s6)) (fun y14 y15=>cond (!y15) (K [] 3 s5) (cond (!(y14 == [])) (cond (Ju s3.length (@List.length (@Kd.T US) [(s5,(s7,y14))]) 32) (E1006 s0 s1 s2 (s3++[(s5,(s7,y14))]) (IntKind.i64.wrap (s6+1)) (IntKind.i64.wrap (s5+1))) none) (E1006 s0 s1 s2 s3 (IntKind.i64.wrap (s6+1)) (IntKind.i64.wrap (s5+1)))))) none)) none
def Jjh(k:Nat){R:Type}(E1006:(J6->Int->Int->Q8->Int->Int->Option R))(x0:J6)(K:(Q8->Int->Int->Option R)): Option R:=cond (decide ((x0.length:Int)>16384)) (K [] 1 1) (E1006 x0 0 0 [] 0 1)
def J34(k:Nat){R:Type}(J1006:(J6->Int->Int->Q8->Int->Int->Option R)): Nat->J6->Int->Int->Q8->Int->Int->Int->Int->(Q8->Int->Int->Option R)->Option R
 |0,_,_,_,_,_,_,_,_,_=>none
 |n+1,s0,s1,s2,s3,s4,s5,s6,s7,K=>JhN k J1006 (fun s0 s1 s2 s3 s4 s5 s6 s7=>J34 k J1006 n s0 s1 s2 s3 s4 s5 s6 s7 K) s0 s1 s2 s3 s4 s5 s6 s7 K
theorem Jy6(k:Nat){R:Type}: ∀(I:Nat->St->Option R) (n:Nat),YP.lp J6W (J7H k).cx k Tryz.f60 1016 [1,1,1,1,0,1,0,0,1,0,0,1,1,1,1,1,0,0] I n=J34 k (J0i.cur (I 1006)) n:=YP.lokA J6W (fun I J=>JhN k (J0i.cur (I 1006)) J) (fun I=>J34 k (J0i.cur (I 1006))) (fun I f=>by kernel_rfl) (fun I=>by kernel_rfl) (fun I=>by kernel_rfl) (fun I n=>by kernel_rfl) (fun _ _ _ _=>rfl)
def J4m(k:Nat){R:Type}(J1006:(J6->Int->Int->Q8->Int->Int->Option R)): Nat->J6->Int->Int->Q8->Int->Int->Int->Bool->(Q8->Int->Int->Option R)->Option R
 |0,_,_,_,_,_,_,_,_,_=>none
 |n+1,s0,s1,s2,s3,s4,s5,s6,s7,K=>Jd0 k (fun s0 s1 s2 s3 s4 s5 s6 s7=>J4m k J1006 n s0 s1 s2 s3 s4 s5 s6 s7 K) (fun s0 s1 s2 s3 s4 s5 s6 s7=>J34 k J1006 k s0 s1 s2 s3 s4 s5 s6 s7 K) s0 s1 s2 s3 s4 s5 s6 s7 K
theorem Jy7(k:Nat){R:Type}: ∀(I:Nat->St->Option R) (n:Nat),YP.lp J20 (J7H k).cx k Tryz.f60 1010 [1,1,1,1,0,1,0,0,1,0,0,1,1,0,0] I n=J4m k (J0i.cur (I 1006)) n:=YP.lokA J20 (fun I J=>YP.glue (l:=J20.fs) (u:=J6W.fs) (fun E1016=>Jd0 k J E1016) (J34 k (J0i.cur (I 1006)) k)) (fun I=>J4m k (J0i.cur (I 1006))) (fun I f=>by kernel_rfl) (fun I=>(show _=YP.glue (l:=J20.fs) (u:=J6W.fs) (fun E1016=>Jd0 k (J20.cur (I 1010)) E1016) (YP.lp J6W (J7H k).cx k Tryz.f60 1016 [1,1,1,1,0,1,0,0,1,0,0,1,1,1,1,1,0,0] I k) by kernel_rfl).trans (by rw[Jy6])) (fun I=>by kernel_rfl) (fun I n=>by kernel_rfl) (fun _ _ _ _=>rfl)
def J4n(k:Nat){R:Type}: Nat->J6->Int->Int->Q8->Int->Int->(Q8->Int->Int->Option R)->Option R
 |0,_,_,_,_,_,_,_=>none
 |n+1,s0,s1,s2,s3,s4,s5,K=>JcZ k (fun s0 s1 s2 s3 s4 s5 s6 s7=>J4m k (fun s0 s1 s2 s3 s4 s5=>J4n k n s0 s1 s2 s3 s4 s5 K) k s0 s1 s2 s3 s4 s5 s6 s7 K) s0 s1 s2 s3 s4 s5 K
theorem Jy8(k:Nat){R:Type}: ∀(I:Nat->St->Option R) (n:Nat),YP.lp J0i (J7H k).cx k Tryz.f60 1006 [1,1,1,1,0,1,0] I n=J4n k n:=YP.lokA J0i (fun I J=>YP.glue (l:=J0i.fs) (u:=J20.fs) (fun E1010=>JcZ k E1010) (J4m k J k)) (fun I=>J4n k ) (fun I f=>by kernel_rfl) (fun I=>(show _=YP.glue (l:=J0i.fs) (u:=J20.fs) (fun E1010=>JcZ k E1010) (YP.lp J20 (J7H k).cx k Tryz.f60 1010 [1,1,1,1,0,1,0,0,1,0,0,1,1,0,0] I k) by kernel_rfl).trans (by rw[Jy7])) (fun I=>by kernel_rfl) (fun I n=>by kernel_rfl) (fun _ _ _ _=>rfl)
def J9S(k:Nat){R:Type}(x0:J6)(K:(Q8->Int->Int->Option R)): Option R:=Jjh k (fun s0 s1 s2 s3 s4 s5=>J4n k k s0 s1 s2 s3 s4 s5 K) x0 K
theorem JCG(k:Nat): DOK Tryz.prog 60 (YP.run (@J9S k)):=dok YP (J7H k) Tryz.f60 k (ok1 (Jqi k) ok0) (by kernel_rfl) (by kernel_rfl) fun R=>YP.f1 J0i (Jjh k) (by kernel_rfl) (Jy8 k (fun _ _=>none) k) (by kernel_rfl)
def JCH(k:Nat): Ent:=YP.e 60 (@J9S k)
def Jhl:Sh:=⟨[.o 1 160 0 [.s Jf,.a kI,.w 21 73 J4,.a kI,.a kI],.a kI,.a kI],some ([.o 1 160 0 [.s Jf,.a kI,.w 21 73 J4,.a kI,.a kI]],[]),none⟩
def Jz9(k:Nat): Cxt:=⟨[],[1],[],[]⟩
def Jza(k:Nat){R:Type}(x0:Jc)(x1:Int)(x2:J3)(x3 x4 x5 x6:Int)(K:(Jc->Int->J3->Int->Int->Option R)): Option R:=cond (x3 == 0) (K x0 x1 x2 x5 x6) (K x0 x1 x2 x3 x4)
def J1o:=@Jza
theorem Jhm(k:Nat): DOK Tryz.prog 107 (Jhl.run (@J1o k)):=dok Jhl (Jz9 k) Tryz.f107 k ok0 (by kernel_rfl) (by kernel_rfl) fun R=>by kernel_rfl
def Jhn(k:Nat): Ent:=Jhl.e 107 (@J1o k)
section
def Yk:Sh:=⟨[.o 1 160 0 [.s Jf,.a kI,.w 21 73 J4,.a kI,.a kI],.a kI],some ([.o 1 160 0 [.s Jf,.a kI,.w 21 73 J4,.a kI,.a kI]],[.a kI]),none⟩
abbrev ZR:Type 1:=(R:Type)->Jc->Int->J3->Int->Int->Int->(Jc->Int->J3->Int->Int->Int->Option R)->Option R
def J9p:Sh:=⟨[.o 1 160 0 [.s Jf,.a kI,.w 21 73 J4,.a kI,.a kI],.g [.a kI,.a kI,.a kI,.a .str,.a .bool],.a kI],some ([.o 1 160 0 [.s Jf,.a kI,.w 21 73 J4,.a kI,.a kI]],[.a kI]),none⟩
abbrev ZS:Type 1:=(R:Type)->Jc->Int->J3->Int->Int->Int->Int->Int->J0->Bool->Int->(Jc->Int->J3->Int->Int->Int->Option R)->Option R
def J0e:Cu:=⟨1,[0,1,5,6,7,8],[.o 1 160 0 [.s Jf,.a kI,.w 21 73 J4,.a kI,.a kI],.r 1 0,.a kI,.o 15 157 0 [.a kI,.a kI,.a kI,.a .str,.a .bool],.a kI,.w 100007 9 .str,.w 100008 3 kI]⟩
def J6j:Cu:=⟨1,[0,1,5,6,7,8,9,10],[.o 1 160 0 [.s Jf,.a kI,.w 21 73 J4,.a kI,.a kI],.r 1 0,.a kI,.o 15 157 0 [.a kI,.a kI,.a kI,.a .str,.a .bool],.a kI,.w 100007 9 .str,.w 100008 3 kI,.o 19 157 0 [.a kI,.a kI,.a kI,.a .str,.a .bool],.a kI]⟩
def J6A(k:Nat)(Qu:ZR)(Qr:ZS): Cxt:=⟨[Jhn k,J9p.e 160 Qr],[1],[(1019,J0e.spec),(1024,J6j.spec)],[(1,(.of [(0,1),(1,1),(2,1),(4,1),(5,1),(6,1),(3,1),(7,1),(8,1),(9,1),(10,0),(11,0)] .done)),(12,(.of [(0,1),(1,1),(2,1),(3,1),(5,1),(4,1),(6,1),(7,1),(8,0),(9,0),(10,1),(11,1),(12,0)] .done)),(15,(.of [(0,1),(1,1),(2,1),(4,1),(5,1),(6,1),(7,1),(9,1),(10,1),(11,1),(12,1),(14,1),(15,1),(17,1),(3,1),(8,1),(13,1),(19,1),(20,1),(16,2),(18,2),(21,0),(22,1),(23,1),(24,0),(25,1),(26,1),(27,0)] .done)),(19,(.of [(0,1),(1,1),(2,1),(4,1),(5,1),(6,1),(3,1),(7,1),(8,1),(9,1),(10,1),(11,1),(12,1),(13,1),(15,1),(16,1),(17,1),(22,1),(14,1),(18,1),(19,1),(20,1),(21,1),(23,1),(24,1),(25,1),(26,1),(27,1),(28,1),(29,1),(31,1),(32,1),(33,1),(38,1),(30,1),(34,1),(35,1),(36,1),(37,1),(39,1),(40,1),(41,1),(42,1),(43,1),(44,1),(45,1),(46,1),(47,1),(48,1),(49,1)] .done)),(20,(.of [(0,1),(1,1),(2,1),(4,1),(5,1),(6,1),(3,1),(7,1),(8,1),(9,1),(10,0),(11,0)] .done)),(26,(.of [(0,1),(1,1),(2,1),(4,1),(3,1),(5,1),(6,1)] .done)),(35,(.of [(0,1),(1,1),(2,1),(4,1),(5,1),(6,1),(7,1),(9,1),(10,1),(11,1),(3,1),(8,1),(12,1),(13,1),(14,0),(15,1),(16,1),(17,0)] .done))]⟩
def J9f(k:Nat)(Qu:ZR)(Qr:ZS){R:Type}(E1019:(Jc->Int->J3->Int->Int->Int->Int->Int->Int->J0->Bool->Int->Jt->J6->Option R))(E1024:(Jc->Int->J3->Int->Int->Int->Int->Int->Int->J0->Bool->Int->Jt->J6->Int->Int->Int->J0->Bool->Int->Option R))(s0:Jc)(s1:Int)(s2:J3)(s3 s4 s5 s6 s7 s8:Int)(s9:J0)(s10:Bool)(s11:Int)(s12:Jt)(s13:J6)(K:(Jc->Int->J3->Int->Int->Int->Option R)): Option R:=cond ((!((decide (s1<(s0.length:Int))) == true)) || (inb s1 (s0.length:Int))) (cond ((!((cond (decide (s1<(s0.length:Int))) ((s0.getD s1.toNat Jf.zero).1 == s6) false) == true)) || (inb s1 (s0.length:Int))) (cond (cond (cond (cond (decide (s1<(s0.length:Int))) ((s0.getD s1.toNat Jf.zero).1 == s6) false) ((s0.getD s1.toNat Jf.zero).2.2.1 == s8) false) (s3 == 0) false) (cond (inb s1 (s0.length:Int)) (cond (s6 == 2) (E1024 s0 (IntKind.i64.wrap (s1+1)) s2 s3 s4 s5 s6 s7 s8 s9 s10 s11 s12 s13 (s0.getD s1.toNat Jf.zero).1 (s0.getD s1.toNat Jf.zero).2.1 (s0.getD s1.toNat Jf.zero).2.2.1 (s0.getD s1.toNat Jf.zero).2.2.2.1 (s0.getD s1.toNat Jf.zero).2.2.2.2 0) (Qr R s0 (IntKind.i64.wrap (s1+1)) s2 s3 s4 (s0.getD s1.toNat Jf.zero).1 (s0.getD s1.toNat Jf.zero).2.1 (s0.getD s1.toNat Jf.zero).2.2.1 (s0.getD s1.toNat Jf.zero).2.2.2.1 (s0.getD s1.toNat Jf.zero).2.2.2.2 s5 (fun y19 y20 y21 y22 y23 y24=>cond (Ju s13.length (@List.length (@Kd.T kI) [y24]) 8) (E1019 y19 y20 y21 y22 y23 s5 s6 s7 s8 s9 s10 s11 s12 (s13++[y24])) none))) none) (cond (inb s11 (s2.length:Int)) (@SH (@List (@Kd.T J4)) R (List.set s2 s11.toNat (2,((s2.getD s11.toNat J4.zero).2.1,((s2.getD s11.toNat J4.zero).2.2.1,((s2.getD s11.toNat J4.zero).2.2.2.1,((s2.getD s11.toNat J4.zero).2.2.2.2.1,(s2.getD s11.toNat J4.zero).2.2.2.2.2)))))) (fun y19=>cond (s6 == 2) (cond (inb s11 (y19.length:Int)) (@SH (@List (@Kd.T J4)) R (List.set y19 s11.toNat (3,((y19.getD s11.toNat J4.zero).2.1,((y19.getD s11.toNat J4.zero).2.2.1,((y19.getD s11.toNat J4.zero).2.2.2.1,((y19.getD s11.toNat J4.zero).2.2.2.2.1,(y19.getD s11.toNat J4.zero).2.2.2.2.2)))))) (fun y20=>cond (inb s11 (y20.length:Int)) (@SH (@List (@Kd.T J4)) R (List.set y20 s11.toNat ((y20.getD s11.toNat J4.zero).1,((y20.getD s11.toNat J4.zero).2.1,((y20.getD s11.toNat J4.zero).2.2.1,((y20.getD s11.toNat J4.zero).2.2.2.1,(s12,(y20.getD s11.toNat J4.zero).2.2.2.2.2)))))) (fun y21=>cond (inb s11 (y21.length:Int)) (@SH (@List (@Kd.T J4)) R (List.set y21 s11.toNat ((y21.getD s11.toNat J4.zero).1,((y21.getD s11.toNat J4.zero).2.1,((y21.getD s11.toNat J4.zero).2.2.1,((y21.getD s11.toNat J4.zero).2.2.2.1,((y21.getD s11.toNat J4.zero).2.2.2.2.1,s13)))))) (fun y22=>K s0 s1 y22 s3 s4 s11)) none)) none)) none) (cond (inb s11 (y19.length:Int)) (@SH (@List (@Kd.T J4)) R (List.set y19 s11.toNat ((y19.getD s11.toNat J4.zero).1,((y19.getD s11.toNat J4.zero).2.1,((y19.getD s11.toNat J4.zero).2.2.1,((y19.getD s11.toNat J4.zero).2.2.2.1,(s12,(y19.getD s11.toNat J4.zero).2.2.2.2.2)))))) (fun y20=>cond (inb s11 (y20.length:Int)) (@SH (@List (@Kd.T J4)) R (List.set y20 s11.toNat ((y20.getD s11.toNat J4.zero).1,((y20.getD s11.toNat J4.zero).2.1,((y20.getD s11.toNat J4.zero).2.2.1,((y20.getD s11.toNat J4.zero).2.2.2.1,((y20.getD s11.toNat J4.zero).2.2.2.2.1,s13)))))) (fun y21=>K s0 s1 y21 s3 s4 s11)) none)) none))) none)) none) none
def JgN(k:Nat)(Qu:ZR)(Qr:ZS){R:Type}(E1019:(Jc->Int->J3->Int->Int->Int->Int->Int->Int->J0->Bool->Int->Jt->J6->Option R))(E1024:(Jc->Int->J3->Int->Int->Int->Int->Int->Int->J0->Bool->Int->Jt->J6->Int->Int->Int->J0->Bool->Int->Option R))(s0:Jc)(s1:Int)(s2:J3)(s3 s4 s5 s6 s7 s8:Int)(s9:J0)(s10:Bool)(s11:Int)(s12:Jt)(s13:J6)(s14 s15 s16:Int)(s17:J0)(s18:Bool)(s19:Int)(K:(Jc->Int->J3->Int->Int->Int->Option R)): Option R:=cond (decide (s19<(s12.length:Int))) (cond (inb s19 (s12.length:Int)) (cond ((s12.getD s19.toNat Kd.str.zero) == s17) (J1o k s0 s1 s2 s3 s4 7 s15 (fun y25 y26 y27 y28 y29=>K y25 y26 y27 y28 y29 0)) (E1024 s0 s1 s2 s3 s4 s5 s6 s7 s8 s9 s10 s11 s12 s13 s14 s15 s16 s17 s18 (IntKind.i64.wrap (s19+1)))) none) (cond (Ju s12.length (@List.length (@Kd.T Kd.str) [s17]) 16) (Qr R s0 s1 s2 s3 s4 s14 s15 s16 s17 s18 s5 (fun y25 y26 y27 y28 y29 y30=>cond (Ju s13.length (@List.length (@Kd.T kI) [y30]) 8) (E1019 y25 y26 y27 y28 y29 s5 s6 s7 s8 s9 s10 s11 (s12++[s17]) (s13++[y30])) none)) none)
def Jcs(k:Nat)(Qu:ZR)(Qr:ZS){R:Type}(E1019:(Jc->Int->J3->Int->Int->Int->Int->Int->Int->J0->Bool->Int->Jt->J6->Option R))(x0:Jc)(x1:Int)(x2:J3)(x3 x4 x5:Int)(K:(Jc->Int->J3->Int->Int->Int->Option R)): Option R:=cond (inb x1 (x0.length:Int)) (cond (cond (cond ((x0.getD x1.toNat Jf.zero).1 != 3) ((x0.getD x1.toNat Jf.zero).1 != 1) false) ((x0.getD x1.toNat Jf.zero).1 != 2) false) (J1o k x0 x1 x2 x3 x4 6 (x0.getD x1.toNat Jf.zero).2.1 (fun y11 y12 y13 y14 y15=>K y11 y12 y13 y14 y15 0)) (cond (decide (x5>24)) (J1o k x0 x1 x2 x3 x4 8 (x0.getD x1.toNat Jf.zero).2.1 (fun y11 y12 y13 y14 y15=>K y11 y12 y13 y14 y15 0)) (cond (decide ((x2.length:Int)≥2000)) (J1o k x0 x1 x2 x3 x4 9 (x0.getD x1.toNat Jf.zero).2.1 (fun y11 y12 y13 y14 y15=>K y11 y12 y13 y14 y15 0)) (cond (Ju x2.length (@List.length (@Kd.T J4) [((0:(@Kd.T kI)),((x0.getD x1.toNat Jf.zero).2.1,([],(false,([],[])))))]) 88) (cond ((x0.getD x1.toNat Jf.zero).1 == 3) (cond (inb (x2.length:Int) ((x2++[((0:(@Kd.T kI)),((x0.getD x1.toNat Jf.zero).2.1,([],(false,([],[])))))]).length:Int)) (@SH (@List (@Kd.T J4)) R (List.set (x2++[(0,((x0.getD x1.toNat Jf.zero).2.1,([],(false,([],[])))))]) (x2.length:Int).toNat (1,((((x2++[((0:(@Kd.T kI)),((x0.getD x1.toNat Jf.zero).2.1,([],(false,([],[])))))]).getD (x2.length:Int).toNat J4.zero).2).1,(((((x2++[((0:(@Kd.T kI)),((x0.getD x1.toNat Jf.zero).2.1,([],(false,([],[])))))]).getD (x2.length:Int).toNat J4.zero).2).2).1,((((((x2++[((0:(@Kd.T kI)),((x0.getD x1.toNat Jf.zero).2.1,([],(false,([],[])))))]).getD (x2.length:Int).toNat J4.zero).2).2).2).1,(((((((x2++[((0:(@Kd.T kI)),((x0.getD x1.toNat Jf.zero).2.1,([],(false,([],[])))))]).getD (x2.length:Int).toNat J4.zero).2).2).2).2).1,((((((x2++[((0:(@Kd.T kI)),((x0.getD x1.toNat Jf.zero).2.1,([],(false,([],[])))))]).getD (x2.length:Int).toNat J4.zero).2).2).2).2).2)))))) (fun y11=>cond (inb (x2.length:Int) (y11.length:Int)) (@SH (@List (@Kd.T J4)) R (List.set y11 (x2.length:Int).toNat ((y11.getD (x2.length:Int).toNat J4.zero).1,(((y11.getD (x2.length:Int).toNat J4.zero).2).1,((x0.getD x1.toNat Jf.zero).2.2.2.1,(((((y11.getD (x2.length:Int).toNat J4.zero).2).2).2).1,((((((y11.getD (x2.length:Int).toNat J4.zero).2).2).2).2).1,(((((y11.getD (x2.length:Int).toNat J4.zero).2).2).2).2).2)))))) (fun y12=>cond (inb (x2.length:Int) (y12.length:Int)) (@SH (@List (@Kd.T J4)) R (List.set y12 (x2.length:Int).toNat ((y12.getD (x2.length:Int).toNat J4.zero).1,(((y12.getD (x2.length:Int).toNat J4.zero).2).1,((((y12.getD (x2.length:Int).toNat J4.zero).2).2).1,((x0.getD x1.toNat Jf.zero).2.2.2.2,((((((y12.getD (x2.length:Int).toNat J4.zero).2).2).2).2).1,(((((y12.getD (x2.length:Int).toNat J4.zero).2).2).2).2).2)))))) (fun y13=>K x0 (IntKind.i64.wrap (x1+1)) y13 x3 x4 (x2.length:Int))) none)) none)) none) (E1019 x0 x1 (x2++[(0,((x0.getD x1.toNat Jf.zero).2.1,([],(false,([],[])))))]) x3 x4 x5 (x0.getD x1.toNat Jf.zero).1 (x0.getD x1.toNat Jf.zero).2.1 (x0.getD x1.toNat Jf.zero).2.2.1 (x0.getD x1.toNat Jf.zero).2.2.2.1 (x0.getD x1.toNat Jf.zero).2.2.2.2 (x2.length:Int) [] [])) none)))) none
def J41(k:Nat)(Qu:ZR)(Qr:ZS){R:Type}(J1019:(Jc->Int->J3->Int->Int->Int->Int->Int->Int->J0->Bool->Int->Jt->J6->Option R)): Nat->Jc->Int->J3->Int->Int->Int->Int->Int->Int->J0->Bool->Int->Jt->J6->Int->Int->Int->J0->Bool->Int->(Jc->Int->J3->Int->Int->Int->Option R)->Option R
 |0,_,_,_,_,_,_,_,_,_,_,_,_,_,_,_,_,_,_,_,_,_=>none
 |n+1,s0,s1,s2,s3,s4,s5,s6,s7,s8,s9,s10,s11,s12,s13,s14,s15,s16,s17,s18,s19,K=>JgN k Qu Qr J1019 (fun s0 s1 s2 s3 s4 s5 s6 s7 s8 s9 s10 s11 s12 s13 s14 s15 s16 s17 s18 s19=>J41 k Qu Qr J1019 n s0 s1 s2 s3 s4 s5 s6 s7 s8 s9 s10 s11 s12 s13 s14 s15 s16 s17 s18 s19 K) s0 s1 s2 s3 s4 s5 s6 s7 s8 s9 s10 s11 s12 s13 s14 s15 s16 s17 s18 s19 K
theorem Jx7(k:Nat)(Qu:ZR)(Qr:ZS){R:Type}: ∀(I:Nat->St->Option R) (n:Nat),Yk.lp J6j (J6A k Qu Qr).cx k Tryz.f106 1024 [1,1,1,1,1,1,1,1,1,1,0,0,0,1,0,1,1,0,1,0,0,1,0] I n=J41 k Qu Qr (J0e.cur (I 1019)) n:=Yk.lokA J6j (fun I J=>JgN k Qu Qr (J0e.cur (I 1019)) J) (fun I=>J41 k Qu Qr (J0e.cur (I 1019))) (fun I f=>by kernel_rfl) (fun I=>by kernel_rfl) (fun I=>by kernel_rfl) (fun I n=>by kernel_rfl) (fun _ _ _ _=>rfl)
def J0f(k:Nat)(Qu:ZR)(Qr:ZS){R:Type}: Nat->Jc->Int->J3->Int->Int->Int->Int->Int->Int->J0->Bool->Int->Jt->J6->(Jc->Int->J3->Int->Int->Int->Option R)->Option R
 |0,_,_,_,_,_,_,_,_,_,_,_,_,_,_,_=>none
 |n+1,s0,s1,s2,s3,s4,s5,s6,s7,s8,s9,s10,s11,s12,s13,K=>J9f k Qu Qr (fun s0 s1 s2 s3 s4 s5 s6 s7 s8 s9 s10 s11 s12 s13=>J0f k Qu Qr n s0 s1 s2 s3 s4 s5 s6 s7 s8 s9 s10 s11 s12 s13 K) (fun s0 s1 s2 s3 s4 s5 s6 s7 s8 s9 s10 s11 s12 s13 s14 s15 s16 s17 s18 s19=>J41 k Qu Qr (fun s0 s1 s2 s3 s4 s5 s6 s7 s8 s9 s10 s11 s12 s13=>J0f k Qu Qr n s0 s1 s2 s3 s4 s5 s6 s7 s8 s9 s10 s11 s12 s13 K) k s0 s1 s2 s3 s4 s5 s6 s7 s8 s9 s10 s11 s12 s13 s14 s15 s16 s17 s18 s19 K) s0 s1 s2 s3 s4 s5 s6 s7 s8 s9 s10 s11 s12 s13 K
theorem Jx8(k:Nat)(Qu:ZR)(Qr:ZS){R:Type}: ∀(I:Nat->St->Option R) (n:Nat),Yk.lp J0e (J6A k Qu Qr).cx k Tryz.f106 1019 [1,1,1,1,1,1,1,1,1,1,0,0] I n=J0f k Qu Qr n:=Yk.lokA J0e (fun I J=>Yk.glue (l:=J0e.fs) (u:=J6j.fs) (fun E1024=>J9f k Qu Qr J E1024) (J41 k Qu Qr J k)) (fun I=>J0f k Qu Qr ) (fun I f=>by kernel_rfl) (fun I=>(show _=Yk.glue (l:=J0e.fs) (u:=J6j.fs) (fun E1024=>J9f k Qu Qr (J0e.cur (I 1019)) E1024) (Yk.lp J6j (J6A k Qu Qr).cx k Tryz.f106 1024 [1,1,1,1,1,1,1,1,1,1,0,0,0,1,0,1,1,0,1,0,0,1,0] I k) by kernel_rfl).trans (by rw[Jx7])) (fun I=>by kernel_rfl) (fun I n=>by kernel_rfl) (fun _ _ _ _=>rfl)
theorem Jyz(k:Nat)(Qu:ZR)(Qr:ZS)(R:Type): Yk.at (J6A k Qu Qr) k Tryz.f106 R=Yk.glue (l:=Yk.ps) (u:=J0e.fs) (fun E1019=>@Jcs k Qu Qr R E1019) (Yk.lp J0e (J6A k Qu Qr).cx k Tryz.f106 1019 [1,1,1,1,1,1,1,1,1,1,0,0] (fun _ _=>none) k):=by kernel_rfl
def Jo4(k:Nat)(Qu:ZR)(Qr:ZS): Cxt:=⟨[Yk.e 106 Qu,Jhn k],[1],[],[(1,(.of [(0,1),(1,1),(2,1),(4,1),(5,1),(6,1),(3,1),(7,1),(8,1),(9,1),(10,1),(11,1),(12,1),(13,1),(15,1),(16,1),(17,1),(22,1),(14,1),(18,1),(19,1),(20,1),(21,1),(23,1),(24,1),(25,1)] .done))]⟩
def Jh8(k:Nat)(Qu:ZR)(Qr:ZS){R:Type}(x0:Jc)(x1:Int)(x2:J3)(x3 x4 x5 x6 x7:Int)(x8:J0)(x9:Bool)(x10:Int)(K:(Jc->Int->J3->Int->Int->Int->Option R)): Option R:=cond ((!((decide (x1≥(x0.length:Int))) == false)) || (inb x1 (x0.length:Int))) (cond (cond (decide (x1≥(x0.length:Int))) true (decide ((x0.getD x1.toNat Jf.zero).2.2.1≤x7))) (J1o k x0 x1 x2 x3 x4 10 x6 (fun y14 y15 y16 y17 y18=>K y14 y15 y16 y17 y18 0)) (Qu R x0 x1 x2 x3 x4 (IntKind.i64.wrap (x10+1)) K)) none
theorem JyA(k:Nat)(Qu:ZR)(Qr:ZS)(R:Type): J9p.at (Jo4 k Qu Qr) k Tryz.f160 R=@Jh8 k Qu Qr R:=by kernel_rfl
mutual
def Ut:Nat->ZR
 |0,_,_,_,_,_,_,_,_=>none
 |k+1,R,x0,x1,x2,x3,x4,x5,K=>Jcs k (Ut k) (FR_ref10_reader_under k) (fun s0 s1 s2 s3 s4 s5 s6 s7 s8 s9 s10 s11 s12 s13=>J0f k (Ut k) (FR_ref10_reader_under k) k s0 s1 s2 s3 s4 s5 s6 s7 s8 s9 s10 s11 s12 s13 K) x0 x1 x2 x3 x4 x5 K
def FR_ref10_reader_under:Nat->ZS
 |0,_,_,_,_,_,_,_,_,_,_,_,_,_=>none
 |k+1,R,x0,x1,x2,x3,x4,x5,x6,x7,x8,x9,x10,K=>Jh8 k (Ut k) (FR_ref10_reader_under k) x0 x1 x2 x3 x4 x5 x6 x7 x8 x9 x10 K
end
def Jh9(k:Nat){R:Type}(x0:Jc)(x1:Int)(x2:J3)(x3 x4 x5:Int)(K:(Jc->Int->J3->Int->Int->Int->Option R)): Option R:=Ut k R x0 x1 x2 x3 x4 x5 K
theorem Jy9(k:Nat): DOK Tryz.prog 106 (Yk.run (Ut k))∧DOK Tryz.prog 160 (J9p.run (FR_ref10_reader_under k)):=by
 induction k with
 |zero=>exact⟨Yk.ok0 fun R=>by kernel_rfl,J9p.ok0 fun R=>by kernel_rfl⟩
 |succ k ih =>
  obtain⟨ih_ref10_reader_block,ih_ref10_reader_under⟩:=ih
  exact⟨dok Yk (J6A k (Ut k) (FR_ref10_reader_under k)) Tryz.f106 k (ok1 (Jhm k) (ok1 ih_ref10_reader_under ok0)) (by kernel_rfl) (by kernel_rfl) fun R=>Yk.f1 J0e (Jcs k (Ut k) (FR_ref10_reader_under k)) (Jyz k (Ut k) (FR_ref10_reader_under k) R) (Jx8 k (Ut k) (FR_ref10_reader_under k) (fun _ _=>none) k) (by kernel_rfl),dok J9p (Jo4 k (Ut k) (FR_ref10_reader_under k)) Tryz.f160 k (ok1 ih_ref10_reader_block (ok1 (Jhm k) ok0)) (by kernel_rfl) (by kernel_rfl) fun R=>JyA k (Ut k) (FR_ref10_reader_under k) R⟩
theorem JyB(k:Nat): DOK Tryz.prog 106 (Yk.run (@Jh9 k)):=(Jy9 k).1
def JyC(k:Nat): Ent:=Yk.e 106 (@Jh9 k)
end
def JkN:Sh:=⟨[.s Jf],some ([],[.g [.s J4],.g [.a kI,.a kI]]),none⟩
def JG1(k:Nat): Cxt:=⟨[JyC k,Jhn k],[],[],[(8,(.of [(0,1),(1,1),(2,1),(3,1),(4,2),(5,0),(6,0)] .done))]⟩
def Jsy(k:Nat){R:Type}(x0:Jc)(K:(J3->Int->Int->Option R)): Option R:=cond ((x0.length:Int) == 0) (K [] 10 1) (Jh9 k x0 0 [] 0 0 1 (fun y4 y5 y6 y7 y8 y9=>cond (cond (y7 == 0) (decide (y5<(x0.length:Int))) false) (cond (inb y5 (x0.length:Int)) (J1o k y4 y5 y6 y7 y8 6 (x0.getD y5.toNat Jf.zero).2.1 (fun y10 y11 y12 y13 y14=>cond (y13 != 0) (K [] y13 y14) (K y12 0 0))) none) (cond (y7 != 0) (K [] y7 y8) (K y6 0 0))))
def Jan:=@Jsy
theorem JG2(k:Nat): DOK Tryz.prog 62 (JkN.run (@Jan k)):=dok JkN (JG1 k) Tryz.f62 k (ok1 (JyB k) (ok1 (Jhm k) ok0)) (by kernel_rfl) (by kernel_rfl) fun R=>by kernel_rfl
def JG3(k:Nat): Ent:=JkN.e 62 (@Jan k)
def J7t:Sh:=⟨[.a .str,.a kI],some ([],[.a kI]),none⟩
def JcD:Cu:=⟨0,[0,1,5],[.a .str,.a kI,.a kI]⟩
def Jpu(k:Nat): Cxt:=⟨[],[],[(1002,JcD.spec)],[]⟩
def JcE(k:Nat){R:Type}(E1002:(J0->Int->Int->Option R))(s0:J0)(s1 s2:Int)(K:(Int->Option R)): Option R:=cond ((!((decide ((IntKind.i64.wrap (s1+s2))<(s0.length:Int))) == true)) || (inb (IntKind.i64.wrap (s1+s2)) (s0.length:Int))) (cond (cond (decide ((IntKind.i64.wrap (s1+s2))<(s0.length:Int))) (((s0.getD (IntKind.i64.wrap (s1+s2)).toNat 0).toNat:Int) == 32) false) (E1002 s0 s1 (IntKind.i64.wrap (s2+1))) (K s2)) none
def JiN(k:Nat){R:Type}(E1002:(J0->Int->Int->Option R))(x0:J0)(x1:Int)(K:(Int->Option R)): Option R:=E1002 x0 x1 0
def J4d(k:Nat){R:Type}: Nat->J0->Int->Int->(Int->Option R)->Option R
 |0,_,_,_,_=>none
 |n+1,s0,s1,s2,K=>JcE k (fun s0 s1 s2=>J4d k n s0 s1 s2 K) s0 s1 s2 K
theorem JxL(k:Nat){R:Type}: ∀(I:Nat->St->Option R) (n:Nat),J7t.lp JcD (Jpu k).cx k Tryz.f155 1002 [1,1,0,0] I n=J4d k n:=J7t.lok JcD (B:=JcE k) (L:=J4d k) (fun I=>by kernel_rfl) (fun I=>by kernel_rfl) (fun n=>by kernel_rfl) (fun _ _ _ _=>rfl)
def J4W(k:Nat){R:Type}(x0:J0)(x1:Int)(K:(Int->Option R)): Option R:=JiN k (fun s0 s1 s2=>J4d k k s0 s1 s2 K) x0 x1 K
theorem JBM(k:Nat): DOK Tryz.prog 155 (J7t.run (@J4W k)):=dok J7t (Jpu k) Tryz.f155 k ok0 (by kernel_rfl) (by kernel_rfl) fun R=>J7t.f1 JcD (JiN k) (by kernel_rfl) (JxL k (fun _ _=>none) k) (by kernel_rfl)
def JBN(k:Nat): Ent:=J7t.e 155 (@J4W k)
def JiO:Sh:=⟨[.a .str],some ([],[.a .bool]),none⟩
def JBO(k:Nat): Cxt:=⟨[],[],[],[]⟩
def Jpv(k:Nat){R:Type}(x0:J0)(K:(Bool->Option R)): Option R:=cond ((!((decide ((x0.length:Int)>0)) == true)) || (inb 0 (x0.length:Int))) (cond ((!(((cond (decide ((x0.length:Int)>0)) (((x0.getD (Int.toNat 0) 0).toNat:Int) == 45) false) == true)&&(((x0.length:Int) == 1) == false))) || (inb 1 (x0.length:Int))) (K (cond (cond (decide ((x0.length:Int)>0)) (((x0.getD (Int.toNat 0) 0).toNat:Int) == 45) false) (cond ((x0.length:Int) == 1) true (((x0.getD (Int.toNat 1) 0).toNat:Int) == 32)) false)) none) none
def J4X:=@Jpv
theorem JBP(k:Nat): DOK Tryz.prog 156 (JiO.run (@J4X k)):=dok JiO (JBO k) Tryz.f156 k ok0 (by kernel_rfl) (by kernel_rfl) fun R=>by kernel_rfl
def JBQ(k:Nat): Ent:=JiO.e 156 (@J4X k)
def JjO:Sh:=⟨[.a (.int .u8)],some ([],[.a .bool]),none⟩
def JDZ(k:Nat): Cxt:=⟨[],[],[],[]⟩
def Jr6(k:Nat){R:Type}(x0:Int)(K:(Bool->Option R)): Option R:=K (cond (cond (cond (cond (cond (cond (decide (x0≥97)) (decide (x0≤122)) false) true (cond (decide (x0≥65)) (decide (x0≤90)) false)) true (cond (decide (x0≥48)) (decide (x0≤57)) false)) true (x0 == 95)) true (x0 == 45)) true (x0 == 46))
def J7U:=@Jr6
theorem Jr7(k:Nat): DOK Tryz.prog 199 (JjO.run (@J7U k)):=dok JjO (JDZ k) Tryz.f199 k ok0 (by kernel_rfl) (by kernel_rfl) fun R=>by kernel_rfl
def Jr8(k:Nat): Ent:=JjO.e 199 (@J7U k)
def J7I:Sh:=⟨[.a .str],some ([],[.a kI]),none⟩
def Jd1:Cu:=⟨0,[0,3],[.a .str,.a kI]⟩
def Jqk(k:Nat): Cxt:=⟨[Jr8 k],[],[(1002,Jd1.spec)],[]⟩
def Jd2(k:Nat){R:Type}(E1002:(J0->Int->Option R))(s0:J0)(s1:Int)(K:(Int->Option R)): Option R:=cond ((!((decide (s1<(s0.length:Int))) == true)) || (inb s1 (s0.length:Int))) (cond ((decide (s1<(s0.length:Int))) == true) (J7U k ((s0.getD s1.toNat 0).toNat:Int) (fun y6=>cond y6 (E1002 s0 (IntKind.i64.wrap (s1+1))) (cond ((!((cond (s1 == 0) true (decide (s1≥(s0.length:Int)))) == false)) || (inb s1 (s0.length:Int))) (cond ((!(((cond (cond (s1 == 0) true (decide (s1≥(s0.length:Int)))) true (((s0.getD s1.toNat 0).toNat:Int) != 58)) == false)&&((decide ((IntKind.i64.wrap (s1+1))<(s0.length:Int))) == true))) || (inb (IntKind.i64.wrap (s1+1)) (s0.length:Int))) (cond (cond (cond (cond (s1 == 0) true (decide (s1≥(s0.length:Int)))) true (((s0.getD s1.toNat 0).toNat:Int) != 58)) true (cond (decide ((IntKind.i64.wrap (s1+1))<(s0.length:Int))) (((s0.getD (IntKind.i64.wrap (s1+1)).toNat 0).toNat:Int) != 32) false)) (K 0) (K s1)) none) none))) (cond ((!((cond (s1 == 0) true (decide (s1≥(s0.length:Int)))) == false)) || (inb s1 (s0.length:Int))) (cond ((!(((cond (cond (s1 == 0) true (decide (s1≥(s0.length:Int)))) true (((s0.getD s1.toNat 0).toNat:Int) != 58)) == false)&&((decide ((IntKind.i64.wrap (s1+1))<(s0.length:Int))) == true))) || (inb (IntKind.i64.wrap (s1+1)) (s0.length:Int))) (cond (cond (cond (cond (s1 == 0) true (decide (s1≥(s0.length:Int)))) true (((s0.getD s1.toNat 0).toNat:Int) != 58)) true (cond (decide ((IntKind.i64.wrap (s1+1))<(s0.length:Int))) (((s0.getD (IntKind.i64.wrap (s1+1)).toNat 0).toNat:Int) != 32) false)) (K 0) (K s1)) none) none)) none
def Jji(k:Nat){R:Type}(E1002:(J0->Int->Option R))(x0:J0)(K:(Int->Option R)): Option R:=E1002 x0 0
def J4o(k:Nat){R:Type}: Nat->J0->Int->(Int->Option R)->Option R
 |0,_,_,_=>none
 |n+1,s0,s1,K=>Jd2 k (fun s0 s1=>J4o k n s0 s1 K) s0 s1 K
theorem Jya(k:Nat){R:Type}: ∀(I:Nat->St->Option R) (n:Nat),J7I.lp Jd1 (Jqk k).cx k Tryz.f157 1002 [1,1,0,0] I n=J4o k n:=J7I.lok Jd1 (B:=Jd2 k) (L:=J4o k) (fun I=>by kernel_rfl) (fun I=>by kernel_rfl) (fun n=>by kernel_rfl) (fun _ _ _ _=>rfl)
def J3f(k:Nat){R:Type}(x0:J0)(K:(Int->Option R)): Option R:=Jji k (fun s0 s1=>J4o k k s0 s1 K) x0 K
theorem JCI(k:Nat): DOK Tryz.prog 157 (J7I.run (@J3f k)):=dok J7I (Jqk k) Tryz.f157 k (ok1 (Jr7 k) ok0) (by kernel_rfl) (by kernel_rfl) fun R=>J7I.f1 Jd1 (Jji k) (by kernel_rfl) (Jya k (fun _ _=>none) k) (by kernel_rfl)
def JCJ(k:Nat): Ent:=J7I.e 157 (@J3f k)
def Jjj:Sh:=⟨[.a (.int .u8)],some ([],[.a kI]),none⟩
def JCK(k:Nat): Cxt:=⟨[],[],[],[]⟩
def Jql(k:Nat){R:Type}(x0:Int)(K:(Int->Option R)): Option R:=cond (cond (decide (x0≥48)) (decide (x0≤57)) false) (K (IntKind.i64.wrap (IntKind.u8.wrap (x0-48)))) (cond (cond (decide (x0≥97)) (decide (x0≤102)) false) (K (IntKind.i64.wrap ((IntKind.i64.wrap (IntKind.u8.wrap (x0-97)))+10))) (K (-(1:Int))))
def J3g:=@Jql
theorem JCL(k:Nat): DOK Tryz.prog 200 (Jjj.run (@J3g k)):=dok Jjj (JCK k) Tryz.f200 k ok0 (by kernel_rfl) (by kernel_rfl) fun R=>by kernel_rfl
def JCM(k:Nat): Ent:=Jjj.e 200 (@J3g k)
def J7J:Sh:=⟨[.a .str],some ([],[.a .str,.a .bool]),none⟩
def Jd3:Cu:=⟨0,[0,4,5,6],[.a .str,.w 100004 5 (.int .u8),.a (.int .u8),.a kI]⟩
def Jqm(k:Nat): Cxt:=⟨[JCM k],[],[(1004,Jd3.spec)],[(28,(.of [(0,1),(1,1),(2,1),(3,1),(4,1),(7,1),(8,1),(9,1),(10,1),(5,0),(6,1),(11,0),(12,1),(13,0),(14,0),(15,0),(16,1)] .done))]⟩
def J6X(k:Nat){R:Type}(E1004:(J0->J6->Int->Int->Option R))(s0:J0)(s1:J6)(s2 s3:Int)(K:(J0->Bool->Option R)): Option R:=cond (decide (s3<(s0.length:Int))) (cond (inb s3 (s0.length:Int)) (cond (((s0.getD s3.toNat 0).toNat:Int) == s2) (cond ((!((cond (s2 == 39) (decide ((IntKind.i64.wrap (s3+1))<(s0.length:Int))) false) == true)) || (inb (IntKind.i64.wrap (s3+1)) (s0.length:Int))) (cond (cond (cond (s2 == 39) (decide ((IntKind.i64.wrap (s3+1))<(s0.length:Int))) false) (((s0.getD (IntKind.i64.wrap (s3+1)).toNat 0).toNat:Int) == 39) false) (cond (Ju s1.length (@List.length (@Kd.T (@Kd.int Go.IntKind.u8)) [s2]) 1) (E1004 s0 (s1++[s2]) s2 (IntKind.i64.wrap ((IntKind.i64.wrap (s3+1))+1))) none) (K (Q5 s1) (s3 == (IntKind.i64.wrap ((s0.length:Int)-1))))) none) (cond ((!((s2 == 39) == false)) || (inb s3 (s0.length:Int))) (cond (cond (s2 == 39) true (((s0.getD s3.toNat 0).toNat:Int) != 92)) (cond (inb s3 (s0.length:Int)) (cond (Ju s1.length (@List.length (@Kd.T (@Kd.int Go.IntKind.u8)) [((s0.getD s3.toNat 0).toNat:Int)]) 1) (E1004 s0 (s1++[((s0.getD s3.toNat 0).toNat:Int)]) s2 (IntKind.i64.wrap (s3+1))) none) none) (cond (decide ((IntKind.i64.wrap (s3+1))≥(s0.length:Int))) (K [] false) (cond (inb (IntKind.i64.wrap (s3+1)) (s0.length:Int)) (cond (((s0.getD (IntKind.i64.wrap (s3+1)).toNat 0).toNat:Int) == 92) (cond (inb (IntKind.i64.wrap (s3+1)) (s0.length:Int)) (cond (Ju s1.length (@List.length (@Kd.T (@Kd.int Go.IntKind.u8)) [((s0.getD (IntKind.i64.wrap (s3+1)).toNat 0).toNat:Int)]) 1) (E1004 s0 (s1++[((s0.getD (IntKind.i64.wrap (s3+1)).toNat 0).toNat:Int)]) s2 (IntKind.i64.wrap ((IntKind.i64.wrap (s3+1))+1))) none) none) (cond (((s0.getD (IntKind.i64.wrap (s3+1)).toNat 0).toNat:Int) == 34) (cond (inb (IntKind.i64.wrap (s3+1)) (s0.length:Int)) (cond (Ju s1.length (@List.length (@Kd.T (@Kd.int Go.IntKind.u8)) [((s0.getD (IntKind.i64.wrap (s3+1)).toNat 0).toNat:Int)]) 1) (E1004 s0 (s1++[((s0.getD (IntKind.i64.wrap (s3+1)).toNat 0).toNat:Int)]) s2 (IntKind.i64.wrap ((IntKind.i64.wrap (s3+1))+1))) none) none) (cond (((s0.getD (IntKind.i64.wrap (s3+1)).toNat 0).toNat:Int) == 110) (cond (Ju s1.length ([(10:Int)]).length 1) (E1004 s0 (s1++[10]) s2 (IntKind.i64.wrap ((IntKind.i64.wrap (s3+1))+1))) none) (cond (((s0.getD (IntKind.i64.wrap (s3+1)).toNat 0).toNat:Int) == 116) (cond (Ju s1.length ([(9:Int)]).length 1) (E1004 s0 (s1++[9]) s2 (IntKind.i64.wrap ((IntKind.i64.wrap (s3+1))+1))) none) (cond (((s0.getD (IntKind.i64.wrap (s3+1)).toNat 0).toNat:Int) == 120) (cond ((!((decide ((IntKind.i64.wrap ((IntKind.i64.wrap (s3+1))+2))≥(s0.length:Int))) == false)) || (inb (IntKind.i64.wrap ((IntKind.i64.wrap (s3+1))+1)) (s0.length:Int))) (cond ((decide ((IntKind.i64.wrap ((IntKind.i64.wrap (s3+1))+2))≥(s0.length:Int))) == false) (J3g k ((s0.getD (IntKind.i64.wrap ((IntKind.i64.wrap (s3+1))+1)).toNat 0).toNat:Int) (fun y8=>cond ((!((decide (y8<0)) == false)) || (inb (IntKind.i64.wrap ((IntKind.i64.wrap (s3+1))+2)) (s0.length:Int))) (cond ((decide (y8<0)) == false) (J3g k ((s0.getD (IntKind.i64.wrap ((IntKind.i64.wrap (s3+1))+2)).toNat 0).toNat:Int) (fun y9=>cond (decide (y9<0)) (K [] false) (cond (inb (IntKind.i64.wrap ((IntKind.i64.wrap (s3+1))+1)) (s0.length:Int)) (cond (inb (IntKind.i64.wrap ((IntKind.i64.wrap (s3+1))+2)) (s0.length:Int)) (J3g k ((s0.getD (IntKind.i64.wrap ((IntKind.i64.wrap (s3+1))+1)).toNat 0).toNat:Int) (fun y10=>J3g k ((s0.getD (IntKind.i64.wrap ((IntKind.i64.wrap (s3+1))+2)).toNat 0).toNat:Int) (fun y11=>cond (Ju s1.length (@List.length (@Kd.T (@Kd.int Go.IntKind.u8)) [(IntKind.u8.wrap (IntKind.i64.wrap ((IntKind.i64.wrap ((16:Int)*y10))+y11)))]) 1) (E1004 s0 (s1++[(IntKind.u8.wrap (IntKind.i64.wrap ((IntKind.i64.wrap ((16:Int)*y10))+y11)))]) s2 (IntKind.i64.wrap ((IntKind.i64.wrap ((IntKind.i64.wrap (s3+1))+2))+1))) none))) none) none))) (K [] false)) none)) (K [] false)) none) (K [] false)))))) none))) none)) none) (K [] false)
def Jep(k:Nat){R:Type}(E1004:(J0->J6->Int->Int->Option R))(x0:J0)(K:(J0->Bool->Option R)): Option R:=cond (inb 0 (x0.length:Int)) (E1004 x0 [] ((x0.getD (Int.toNat 0) 0).toNat:Int) 1) none
def J1s(k:Nat){R:Type}: Nat->J0->J6->Int->Int->(J0->Bool->Option R)->Option R
 |0,_,_,_,_,_=>none
 |n+1,s0,s1,s2,s3,K=>J6X k (fun s0 s1 s2 s3=>J1s k n s0 s1 s2 s3 K) s0 s1 s2 s3 K
theorem Jyb(k:Nat){R:Type}: ∀(I:Nat->St->Option R) (n:Nat),J7J.lp Jd3 (Jqm k).cx k Tryz.f158 1004 [1,1,1,0,1,0] I n=J1s k n:=J7J.lok Jd3 (B:=J6X k) (L:=J1s k) (fun I=>by kernel_rfl) (fun I=>by kernel_rfl) (fun n=>by kernel_rfl) (fun _ _ _ _=>rfl)
def J2f(k:Nat){R:Type}(x0:J0)(K:(J0->Bool->Option R)): Option R:=Jep k (fun s0 s1 s2 s3=>J1s k k s0 s1 s2 s3 K) x0 K
theorem JCN(k:Nat): DOK Tryz.prog 158 (J7J.run (@J2f k)):=dok J7J (Jqm k) Tryz.f158 k (ok1 (JCL k) ok0) (by kernel_rfl) (by kernel_rfl) fun R=>J7J.f1 Jd3 (Jep k) (by kernel_rfl) (Jyb k (fun _ _=>none) k) (by kernel_rfl)
def JCO(k:Nat): Ent:=J7J.e 158 (@J2f k)
def J87:Sh:=⟨[.a (.int .u8)],some ([],[.a .bool]),none⟩
def JdL:Cu:=⟨0,[0,3],[.a (.int .u8),.a kI]⟩
def JrP(k:Nat): Cxt:=⟨[],[],[(1002,JdL.spec)],[]⟩
def JdM(k:Nat){R:Type}(E1002:(Int->Int->Option R))(s0 s1:Int)(K:(Bool->Option R)): Option R:=cond (decide (s1<14)) (cond (inb s1 (([(91:UInt8),93,123,125,38,42,33,124,62,37,64,44,63,96]).length:Int)) (cond (((([(91:UInt8),93,123,125,38,42,33,124,62,37,64,44,63,96]).getD s1.toNat 0).toNat:Int) == s0) (K true) (E1002 s0 (IntKind.i64.wrap (s1+1)))) none) (K false)
def Jkk(k:Nat){R:Type}(E1002:(Int->Int->Option R))(x0:Int)(K:(Bool->Option R)): Option R:=E1002 x0 0
def J4I(k:Nat){R:Type}: Nat->Int->Int->(Bool->Option R)->Option R
 |0,_,_,_=>none
 |n+1,s0,s1,K=>JdM k (fun s0 s1=>J4I k n s0 s1 K) s0 s1 K
theorem Jzb(k:Nat){R:Type}: ∀(I:Nat->St->Option R) (n:Nat),J87.lp JdL (JrP k).cx k Tryz.f159 1002 [1,0,1,0] I n=J4I k n:=J87.lok JdL (B:=JdM k) (L:=J4I k) (fun I=>by kernel_rfl) (fun I=>by kernel_rfl) (fun n=>by kernel_rfl) (fun _ _ _ _=>rfl)
def J5f(k:Nat){R:Type}(x0:Int)(K:(Bool->Option R)): Option R:=Jkk k (fun s0 s1=>J4I k k s0 s1 K) x0 K
theorem JF6(k:Nat): DOK Tryz.prog 159 (J87.run (@J5f k)):=dok J87 (JrP k) Tryz.f159 k ok0 (by kernel_rfl) (by kernel_rfl) fun R=>J87.f1 JdL (Jkk k) (by kernel_rfl) (Jzb k (fun _ _=>none) k) (by kernel_rfl)
def JF7(k:Nat): Ent:=J87.e 159 (@J5f k)
end Go.Proofs.YtabkhphoacmcdaaGreatDoor.Pvm
end
