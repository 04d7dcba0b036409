/- For every text, quoted or not, least and most the Go function FieldTexts of turncocklaw14 returns true. -/
import Derived.Test.YtbjkpddloieekaaGreatDoorCards
import Derived.Test.YtbjkpddloieekaaGreatDoorTie
import Derived.LaidMore
import Derived.Lay
import Derived.SevenTiedAt
import Derived.Stop.Joined
import Derived.Test.YtbjkpddloieekaaGreatDoorRows
import Derived.Test.YtbjkpddloieekaaGreatDoorFieldTextsM0
import Derived.Test.YtbjkpddloieekaaGreatDoorFieldTextsM1
import Derived.Test.YtbjkpddloieekaaGreatDoorFieldTextsM2
import Derived.Test.YtbjkpddloieekaaGreatDoorFieldTextsM3
import Derived.Test.YtbjkpddloieekaaGreatDoorFieldTextsM4
set_option linter.unusedVariables false
set_option linter.unusedSimpArgs false
set_option linter.unusedSectionVars false
noncomputable section
namespace Go.Proofs.YtbjkpddloieekaaGreatDoor.fieldTexts
open Go Go.Proofs Go.ChangeShapes Go.WideShapes Go.ChangeAt Go.RowKit Go.Proofs.YtbjkpddloieekaaGreatDoor.Pvm
theorem own:ownKnob Tryz.prog.godebug=none:=by kernel_rfl
theorem laidOut:laidOutB Tryz.prog=true:=by kernel_rfl
set_option maxRecDepth 100000 in
theorem lifted(os:Os)(started:os.Started)(H:Type)(enc:TypeId×Value→H):
 ReturnsInHanded {} Tryz.checked os 3 .any (fun w args=>(Rows.fieldTextsSpec.pre enc Tryz.prog Tryz.f3 Rows.fieldTextsRow.domain false w args∧laidMetH Tryz.prog Rows.fieldTextsRow.laid w)∧sizedMet enc Tryz.prog Tryz.f3 (OpenSpec.ofChange Rows.fieldTextsSpec) false w args) (Rows.fieldTextsSpec.post enc Tryz.prog Tryz.f3 false true false false):=by
 refine returnsInHanded_of_change_and (C:=Tryz.checked) (X:=fun w _=>laidMetH Tryz.prog Rows.fieldTextsRow.laid w) (fun _ _ _ hh h=>h.of_heap hh) own started (by kernel_rfl) Tryz.func3
  (ChangeSpec.witness_shaped (enc:=enc) (C:=Tryz.checked) (os:=os) (X:=fun w _=>laidMetH Tryz.prog Rows.fieldTextsRow.laid w) false (World.laidAll Tryz.prog os Rows.fieldTextsRow.laid) #[.string ByteArray.empty,.bool false,.int .i64 0,.int .i64 0] 8 (World.laidAll_os _ _ _)
   (World.shaped_of_ZipB (by kernel_rfl) (by kernel_rfl)) (by kernel_rfl) (by kernel_rfl) (by kernel_rfl)
   (by rw[MakeChecks.laidMetH_plain _ _ _ (by kernel_rfl)];exact laidMet_laidAll _ (by kernel_rfl) (by kernel_rfl))) ?_
 intro W base args ds gs before hval0 hW hcnd hsz0 hL _
 have hsz:(DataW.weightsEach Tryz.prog (Tryz.f3.params.toList++Rows.fieldTextsSpec.plain.varTypes Tryz.prog) (ds++gs)).all (· ≤ reachBytes)=true:=hsz0
 have hval:∀(j:Nat) t v,Tryz.f3.params[j]? = some t→args[j]? = some v→Value.okWide Tryz.prog W .any base t v:=hval0
 have hW':=hW
 obtain⟨p,q,hA0,hV,rfl,hfz,hnd⟩:=hW
 have hA:DataW.TrodAll enc Tryz.prog W 0 (fun _=>true) true Tryz.f3.params.toList args.toList ds p:=hA0
 rw[Tryz.params3]at hA hval hsz
 obtain⟨v0,vs0,d0,ds0,p0,q0,hargs,rfl,rfl,h0,r0⟩:=trodAll_cons hA
 obtain⟨v1,vs1,d1,ds1,p1,q1,rfl,rfl,rfl,h1,r1⟩:=trodAll_cons r0
 obtain⟨v2,vs2,d2,ds2,p2,q2,rfl,rfl,rfl,h2,r2⟩:=trodAll_cons r1
 obtain⟨v3,vs3,d3,ds3,p3,q3,rfl,rfl,rfl,h3,r3⟩:=trodAll_cons r2
 obtain⟨rfl,rfl,rfl⟩:=trodAll_nil r3
 obtain rfl:args = #[v0,v1,v2,v3]:=by cases args;simp_all
 obtain⟨rfl,rfl⟩:=trodVars_none hV
 have hws:=wq1dj (P:=Tryz.prog) hsz
 have k0:=h0
 have lt0:∀ x∈p0,x.block<W.heap.size:=by obtain⟨m,hm⟩:=k0;exact DataW.trod_lt m _ _ _ hm
 obtain⟨x0,wf0,rv0⟩:=wq127 tyT_ok (n:=9) (K := .str) (by kernel_rfl) (by kernel_rfl) (hval 0 9 v0 rfl rfl) h0 (hws 0 9 d0 rfl rfl) (h:=mkH []) (G:=G0) (fun _=>rfl) (fun _ h=>h)
 have k1:=h1
 have lt1:∀ x∈p1,x.block<W.heap.size:=by obtain⟨m,hm⟩:=k1;exact DataW.trod_lt m _ _ _ hm
 obtain⟨x1,wf1,rv1⟩:=wq127 tyT_ok (n:=9) (K := .bool) (by kernel_rfl) (by kernel_rfl) (hval 1 4 v1 rfl rfl) h1 (hws 1 4 d1 rfl rfl) (h:=mkH []) (G:=G0) (fun _=>rfl) (fun _ h=>h)
 have k2:=h2
 have lt2:∀ x∈p2,x.block<W.heap.size:=by obtain⟨m,hm⟩:=k2;exact DataW.trod_lt m _ _ _ hm
 obtain⟨x2,wf2,rv2⟩:=wq127 tyT_ok (n:=9) (K:=(.int .i64)) (by kernel_rfl) (by kernel_rfl) (hval 2 3 v2 rfl rfl) h2 (hws 2 3 d2 rfl rfl) (h:=mkH []) (G:=G0) (fun _=>rfl) (fun _ h=>h)
 have k3:=h3
 have lt3:∀ x∈p3,x.block<W.heap.size:=by obtain⟨m,hm⟩:=k3;exact DataW.trod_lt m _ _ _ hm
 obtain⟨x3,wf3,rv3⟩:=wq127 tyT_ok (n:=9) (K:=(.int .i64)) (by kernel_rfl) (by kernel_rfl) (hval 3 3 v3 rfl rfl) h3 (hws 3 3 d3 rfl rfl) (h:=mkH []) (G:=G0) (fun _=>rfl) (fun _ h=>h)
 obtain⟨k,hk⟩:=wq110 x0 x1 x2 x3 wf0 wf1 wf2 wf3
 have hrun:wq58 k [.v .str x0,.v .bool x1,.v (.int .i64) x2,.v (.int .i64) x3] [] lawK=some true:=hk
 refine(wq1f5 (fn:=Tryz.f3) (c:=Tryz.f3.body.getD .skip) (by kernel_rfl) (by kernel_rfl) (by kernel_rfl) (wqts k _ _ _ _ _ hrun) (vals:=[v0,v1,v2,v3]) ⟨v0,_,rfl,rv0,⟨v1,_,rfl,rv1,⟨v2,_,rfl,rv2,⟨v3,_,rfl,rv3,rfl⟩⟩⟩⟩).mono fun e W' ⟨he,bel⟩ => ?_
 subst he
 exact⟨_,rfl,_,_,_,[],_,[],hW',trodAll_mk1 (shut_bool Tryz.underlying4 _),(trodAll_cons_mk (Below.trod laidOut (by kernel_rfl) (of_decide_eq_true (by kernel_rfl)) k0 bel lt0) (trodAll_cons_mk (Below.trod laidOut (by kernel_rfl) (of_decide_eq_true (by kernel_rfl)) k1 bel lt1) (trodAll_cons_mk (Below.trod laidOut (by kernel_rfl) (of_decide_eq_true (by kernel_rfl)) k2 bel lt2) (trodAll_cons_mk (Below.trod laidOut (by kernel_rfl) (of_decide_eq_true (by kernel_rfl)) k3 bel lt3) trodAll_mk0)))),rfl,bel.frame _,fun h=>by cases h⟩
theorem over:Rows.fieldTextsRow.holds Tryz.pinned (OpenSpec.ofChange Rows.fieldTextsSpec) :=
 OpenClaim.holds_of_wide 3 Tryz.f3 rfl rfl rfl rfl rfl rfl rfl ⟨rfl,rfl,rfl,rfl,rfl⟩ rfl rfl rfl rfl rfl (by kernel_rfl) Tryz.func3 (by kernel_rfl)
  (of_decide_eq_true (by kernel_rfl)) (by unfold Func.isWrapper;first|(rw[if_pos (by decide +kernel)];kernel_rfl)|(rw[if_neg (by decide +kernel)];exact⟨rfl,rfl⟩))
  (fun os started H enc _=>lifted os started H enc)
theorem tied:Rows.FieldTextsCardSaid :=
 Claim7.holds_tied_plain_at .later [] [.data,.pinned] true (true,"57e1b310a9993359337233ef9f02a799619dcd07e943fbb5f52db27e705a0fa9") true over (fun _ h=>by cases h) (by kernel_rfl) (fun _ h=>by cases h) fieldTexts_row_tie rfl ⟨rfl,rfl⟩ (by kernel_rfl) rfl
  (fun f fn hf hfn=>by
   obtain rfl:f=3:=Option.some.inj ((show Tryz.prog.funcNamed Rows.fieldTextsRow.func=some 3 by kernel_rfl).symm.trans hf) |>.symm
   obtain rfl:fn=Tryz.f3:=(Option.some.inj (Tryz.func3.symm.trans hfn)).symm
   exact⟨by kernel_rfl,fun j t ht=>by
    rw[Tryz.params3]at ht
    have hm:t∈[9,4,3,3]:=by simpa using Array.mem_of_getElem? ht
    have hall:([9,4,3,3].all fun u => !Tryz.prog.wantsStandIn u)=true:=by kernel_rfl
    exact(show Tryz.prog.wantsStandIn t=false by simpa using List.all_eq_true.1 hall t hm)⟩)
  (by kernel_rfl)
#print axioms tied
end Go.Proofs.YtbjkpddloieekaaGreatDoor.fieldTexts
namespace Go.Proofs.YtbjkpddloieekaaGreatDoor
theorem fieldTexts_holds:Rows.FieldTextsCardSaid:=fieldTexts.tied
end Go.Proofs.YtbjkpddloieekaaGreatDoor
end
