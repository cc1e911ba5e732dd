/- LinePrints returns true for every input, whatever the world, and leaves its arguments as they were; the variables of the package hold what the program's text lays; no other condition. -/
import Derived.Test.YtbmlgmblfboigaaGreatDoorM8
import Derived.Lay
import Derived.Test.YtbmlgmblfboigaaGreatDoorHX
import Derived.Test.YtbmlgmblfboigaaGreatDoorKRY
import Derived.Test.YtbmlgmblfboigaaGreatDoorM13
set_option maxRecDepth 100000
namespace Go.Proofs.YtbmlgmblfboigaaGreatDoor.linePrints
open Go Go.ChangeShapes Go.WideShapes Go.ChangeAt Go.RowKit
set_option linter.unusedVariables false
theorem own:ownKnob Tryz.prog.godebug=none:=by kernel_rfl
set_option maxHeartbeats 1000000 in
theorem OB(H:Type)(enc:TypeId×Value->H)(W:World)(base:Nat)(args:Array Value)(ds gs:List (DataW H))(before:List MemPlace)
 (hval:∀ (j:Nat) t v,Tryz.f4.params[j]? =some t->args[j]? =some v->Value.okWide Tryz.prog W .any base t v)
 (hW:DataW.Whole enc Tryz.prog Tryz.f4.params.toList Rows.linePrintsSpec.vars false W args.toList ds gs before)(hL:laidMetH Tryz.prog Rows.linePrintsRow.laid W):
 Calls Tryz.prog 4 args W λe W'=>∃ v,e= .returned v/\Rows.linePrintsSpec.post enc Tryz.prog Tryz.f4 false true false false W args v W':=by
 have hW':=hW;obtain⟨p,q,hA0,hV,rfl,hfz,hnd⟩:=hW;have hA:DataW.TrodAll enc Tryz.prog W 0 (λ_=>true) true Tryz.f4.params.toList args.toList ds p:=hA0;have hAk:=hA;rw [Tryz.params4]at hA hval;obtain⟨v0,vs0,d0,ds0,pl0,q0,hargs,rfl,rfl,h0,r0⟩:=trodAll_cons hA;obtain⟨rfl,rfl,rfl⟩:=trodAll_nil r0;obtain rfl:args= [v0].toArray :=by cases args;simp_all
 obtain⟨rfl,rfl⟩:=trodVars_none hV;obtain⟨n0,R0⟩:=Jk (hval 0 _ v0 rfl rfl) h0;obtain⟨es,er,he1,he2,hGX⟩:=LP hL;refine(Hr (HE es er he1 he2 n0) rfl hGX λi a x ha hx=>?_).mono λe W' ⟨he,hx⟩=>?_
 ·match i,ha,hx with
  | 0,ha,hx=>cases ha;cases hx;exact R0
 subst he;exact⟨_,rfl,HJ (by kernel_rfl) (by kernel_rfl) hx rfl (by simpa using hW') (by simpa using hAk) rfl rfl (λ_ _ _=>trodAll_cons_mk (shut_bool Tryz.underlying4 _) trodAll_mk0) (ok_one (by kernel_rfl) rfl (okWide_bool_mk Tryz.underlying4 _))⟩
noncomputable def laidWorld(os:Os):World:=
 World.laidAll Tryz.prog os Rows.linePrintsRow.laid
theorem laid_met(os:Os):laidMet Tryz.prog Rows.linePrintsRow.laid ((laidWorld os).forCall (λ_ _=>0) ⟨#[],#[.agg #[.string ⟨#[]⟩,.slice none 0 0,.slice none 0 0,.slice none 0 0]],[]⟩).memory :=
 laidMet_laidAll _ (by kernel_rfl) (by kernel_rfl)
theorem reads(os:Os){H:Type}(enc:TypeId×Value->H):∃ places,DataW.whole enc Tryz.prog ((laidWorld os).forCall (λ_ _=>0) ⟨#[],#[.agg #[.string ⟨#[]⟩,.slice none 0 0,.slice none 0 0,.slice none 0 0]],[]⟩).memory Tryz.f4.params.toList Rows.linePrintsSpec.vars false (show Array Value from #[.agg #[.string ⟨#[]⟩,.slice none 0 0,.slice none 0 0,.slice none 0 0]]).toList 8=some ([.agg [.lit (.string []),.nil,.nil,.nil]],[],places):=
 ⟨[],by kernel_rfl⟩
theorem lifted(os:Os)(started:os.Started)(H:Type)(enc:TypeId×Value->H)(F:Stop.Interp):
 ReturnsInHanded {} Tryz.checked os 4 .any ((OpenSpec.ofChange Rows.linePrintsSpec).preRow enc Tryz.prog Tryz.f4 Rows.linePrintsRow.domain false Rows.linePrintsRow.laid) (((OpenSpec.ofChange Rows.linePrintsSpec).at F).post enc Tryz.prog Tryz.f4 false true false false):=by
 obtain⟨places,hx⟩:=reads os enc;refine returnsInHanded_of_row (C:=Tryz.checked) (s:=OpenSpec.ofChange Rows.linePrintsSpec) own started (by kernel_rfl) Tryz.func4
  (witness_row_at (enc:=enc) (C:=Tryz.checked) false (laidWorld os) #[.agg #[.string ⟨#[]⟩,.slice none 0 0,.slice none 0 0,.slice none 0 0]] (World.laidAll_os _ _ _) (by kernel_rfl) (by kernel_rfl) (by kernel_rfl)
   (OpenSpec.preRow_of_cond 8 hx (by kernel_rfl) (λk hk=>by cases hk) (by kernel_rfl) (laid_met os))) ?_
 intro W base args ds gs before hval hW _ _ _ hL _ _;exact OB H enc W base args ds gs before hval hW hL
theorem said:Rows.LinePrintsSaid:=
 OpenClaim.holds_of_cond 4 Tryz.f4 rfl rfl rfl rfl rfl rfl rfl ⟨rfl,rfl,rfl,rfl,rfl⟩ rfl rfl rfl rfl rfl (by kernel_rfl) Tryz.func4 (by kernel_rfl)
  (of_decide_eq_true (by kernel_rfl)) (by unfold Func.isWrapper;first|(rw [if_pos (by decide+kernel)];kernel_rfl)|(rw [if_neg (by decide+kernel)];exact⟨rfl,rfl⟩))
  (λos started H enc _ F=>by rw [OpenClaim.pre_eq_preRow];exact lifted os started H enc F)
theorem plain(f:FuncId)(fn:Func)(hf:Tryz.pinned.checked.prog.funcNamed "guideway/guidewaylaw01.LinePrints" =some f)(hfn:Tryz.pinned.checked.prog.funcs[f]? =some fn):
 true=Tryz.pinned.checked.prog.looks []/\ ∀ (j:Nat) t,fn.params[j]? =some t->Tryz.pinned.checked.prog.wantsStandIn t=false:=by
 obtain rfl:f=4:=Option.some.inj ((show Tryz.prog.funcNamed "guideway/guidewaylaw01.LinePrints" =some 4 by kernel_rfl).symm.trans hf) |>.symm
 obtain rfl:fn=Tryz.f4:=(Option.some.inj (Tryz.func4.symm.trans hfn)).symm;refine⟨by kernel_rfl,λj t ht=>?_⟩;have all:(Tryz.f4.params.toList.all λt=> !Tryz.pinned.checked.prog.wantsStandIn t)=true:=by kernel_rfl
 have:=TJ.1 all t (by have:=Array.mem_of_getElem? ht;simpa using this)
 simpa using this
end Go.Proofs.YtbmlgmblfboigaaGreatDoor.linePrints
namespace Go.Proofs.YtbmlgmblfboigaaGreatDoor
open Go
theorem linePrints_card:Rows.LinePrintsCardSaid:=
 Claim7.holds_tied_plain_at .later [] _ _ _ _ linePrints.said (λ_ h=>by cases h) (by kernel_rfl) (λ_ h=>by cases h) linePrints_row_tie rfl ⟨rfl,rfl⟩ (by kernel_rfl) rfl linePrints.plain (by kernel_rfl)
end Go.Proofs.YtbmlgmblfboigaaGreatDoor
