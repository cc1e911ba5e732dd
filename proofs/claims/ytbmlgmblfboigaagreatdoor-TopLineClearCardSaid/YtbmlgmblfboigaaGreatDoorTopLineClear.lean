/- TopLineClear returns true for every input, whatever the world, and leaves its arguments as they were; the variables of the package hold what the program's text lays; no other condition. -/
import Derived.Test.YtbmlgmblfboigaaGreatDoorM9
import Derived.Lay
import Derived.Test.YtbmlgmblfboigaaGreatDoorHX
import Derived.Test.YtbmlgmblfboigaaGreatDoorKRY
import Derived.Test.YtbmlgmblfboigaaGreatDoorKRU
set_option linter.unusedSimpArgs false
set_option maxRecDepth 100000
namespace Go.Proofs.YtbmlgmblfboigaaGreatDoor.topLineClear
open Go Go.ChangeShapes Go.WideShapes Go.ChangeAt Go.RowKit
set_option linter.unusedVariables false
theorem own:ownKnob Tryz.prog.godebug=none:=by kernel_rfl
set_option maxHeartbeats 1000000 in
theorem SU(H:Type)(enc:TypeId×Value->H)(W:World)(base:Nat)(args:Array Value)(ds gs:List (DataW H))(before:List MemPlace)
 (hval:∀ (j:Nat) t v,Tryz.f5.params[j]? =some t->args[j]? =some v->Value.okWide Tryz.prog W .any base t v)
 (hW:DataW.Whole enc Tryz.prog Tryz.f5.params.toList Rows.topLineClearSpec.vars false W args.toList ds gs before)(hL:laidMetH Tryz.prog Rows.topLineClearRow.laid W):
 Calls Tryz.prog 5 args W λe W'=>∃ v,e= .returned v/\Rows.topLineClearSpec.post enc Tryz.prog Tryz.f5 false true false false W args v W':=by
 have hW':=hW;obtain⟨p,q,hA0,hV,rfl,hfz,hnd⟩:=hW;have hA:DataW.TrodAll enc Tryz.prog W 0 (λ_=>true) true Tryz.f5.params.toList args.toList ds p:=hA0;have hAk:=hA;rw [Tryz.params5]at hA hval;obtain⟨v0,vs0,d0,ds0,pl0,q0,hargs,rfl,rfl,h0,r0⟩:=trodAll_cons hA;obtain⟨v1,vs1,d1,ds1,pl1,q1,rfl,rfl,rfl,h1,r1⟩:=trodAll_cons r0;obtain⟨v2,vs2,d2,ds2,pl2,q2,rfl,rfl,rfl,h2,r2⟩:=trodAll_cons r1;obtain⟨rfl,rfl,rfl⟩:=trodAll_nil r2;obtain rfl:args= [v0,v1,v2].toArray :=by cases args;simp_all
 obtain⟨rfl,rfl⟩:=trodVars_none hV;obtain⟨n0,R0⟩:=Nx (hval 0 _ v0 rfl rfl) h0;obtain⟨b1,d1,e1,R1⟩:=K7 (hval 1 _ v1 rfl rfl) h1;obtain⟨xs2,R2⟩:=Lm (hval 2 _ v2 rfl rfl) h2;obtain⟨es,er,he1,he2,hGX⟩:=Qa hL;refine(K5 (KN es er he1 he2 n0 b1 d1 e1 xs2) rfl hGX λi a x ha hx=>?_).mono λe W' ⟨he,hx⟩=>?_
 ·match i,ha,hx with
  | 0,ha,hx=>cases ha;cases hx;exact R0
  | 1,ha,hx=>cases ha;cases hx;exact R1
  | 2,ha,hx=>cases ha;cases hx;exact R2
 subst he;exact⟨_,rfl,Ls ai ai hx rfl (by simpa using hW') (by simpa using hAk) rfl rfl (λ_ _ _=>trodAll_cons_mk (shut_bool Tryz.underlying4 _) trodAll_mk0) (ok_one ai rfl (okWide_bool_mk Tryz.underlying4 _))⟩
noncomputable def laidWorld(os:Os):World:=
 World.laidAll Tryz.prog os Rows.topLineClearRow.laid
theorem laid_met(os:Os):laidMet Tryz.prog Rows.topLineClearRow.laid ((laidWorld os).forCall (λ_ _=>0) ⟨#[],#[.agg #[.string ⟨#[]⟩,.slice none 0 0,.slice none 0 0,.slice none 0 0],.agg #[.int .i64 0,.int .i64 0,.int .i64 0],.slice none 0 0],[]⟩).memory :=
 laidMet_laidAll _ ai ai
theorem reads(os:Os){H:Type}(enc:TypeId×Value->H):∃ places,DataW.whole enc Tryz.prog ((laidWorld os).forCall (λ_ _=>0) ⟨#[],#[.agg #[.string ⟨#[]⟩,.slice none 0 0,.slice none 0 0,.slice none 0 0],.agg #[.int .i64 0,.int .i64 0,.int .i64 0],.slice none 0 0],[]⟩).memory Tryz.f5.params.toList Rows.topLineClearSpec.vars false (show Array Value from #[.agg #[.string ⟨#[]⟩,.slice none 0 0,.slice none 0 0,.slice none 0 0],.agg #[.int .i64 0,.int .i64 0,.int .i64 0],.slice none 0 0]).toList 8=some ([.agg [.lit (.string []),.nil,.nil,.nil],.agg [.lit (.int .i64 0),.lit (.int .i64 0),.lit (.int .i64 0)],.nil],[],places):=
 ⟨[],ai⟩
theorem lifted(os:Os)(started:os.Started)(H:Type)(enc:TypeId×Value->H)(F:Stop.Interp):
 ReturnsInHanded {} Tryz.checked os 5 .any ((OpenSpec.ofChange Rows.topLineClearSpec).preRow enc Tryz.prog Tryz.f5 Rows.topLineClearRow.domain false Rows.topLineClearRow.laid) (((OpenSpec.ofChange Rows.topLineClearSpec).at F).post enc Tryz.prog Tryz.f5 false true false false):=by
 obtain⟨places,hx⟩:=reads os enc;refine returnsInHanded_of_row (C:=Tryz.checked) (s:=OpenSpec.ofChange Rows.topLineClearSpec) own started ai Tryz.func5
  (witness_row_at (enc:=enc) (C:=Tryz.checked) false (laidWorld os) #[.agg #[.string ⟨#[]⟩,.slice none 0 0,.slice none 0 0,.slice none 0 0],.agg #[.int .i64 0,.int .i64 0,.int .i64 0],.slice none 0 0] (World.laidAll_os _ _ _) ai ai ai
   (OpenSpec.preRow_of_cond 8 hx ai (λk hk=>by cases hk) ai (laid_met os))) ?_
 intro W base args ds gs before hval hW _ _ _ hL _ _;exact SU H enc W base args ds gs before hval hW hL
theorem said:Rows.TopLineClearSaid:=
 OpenClaim.holds_of_cond 5 Tryz.f5 rfl rfl rfl rfl rfl rfl rfl ⟨rfl,rfl,rfl,rfl,rfl⟩ rfl rfl rfl rfl rfl ai Tryz.func5 ai
  (of_decide_eq_true ai) (by unfold Func.isWrapper;first|(rw [if_pos (by decide+kernel)];kernel_rfl)|(rw [if_neg (by decide+kernel)];exact⟨rfl,rfl⟩))
  (λos started H enc _ F=>by rw [OpenClaim.pre_eq_preRow];exact lifted os started H enc F)
theorem plain(f:FuncId)(fn:Func)(hf:Tryz.pinned.checked.prog.funcNamed "guideway/guidewaytop.TopLineClear" =some f)(hfn:Tryz.pinned.checked.prog.funcs[f]? =some fn):
 true=Tryz.pinned.checked.prog.looks []/\ ∀ (j:Nat) t,fn.params[j]? =some t->Tryz.pinned.checked.prog.wantsStandIn t=false:=by
 obtain rfl:f=5:=Option.some.inj ((show Tryz.prog.funcNamed "guideway/guidewaytop.TopLineClear" =some 5 by kernel_rfl).symm.trans hf) |>.symm
 obtain rfl:fn=Tryz.f5:=(Option.some.inj (Tryz.func5.symm.trans hfn)).symm;refine⟨ai,λj t ht=>?_⟩;have all:(Tryz.f5.params.toList.all λt=> !Tryz.pinned.checked.prog.wantsStandIn t)=true:=by kernel_rfl
 have:=Xv.1 all t (by have:=Array.mem_of_getElem? ht;simpa using this)
 simpa using this
end Go.Proofs.YtbmlgmblfboigaaGreatDoor.topLineClear
namespace Go.Proofs.YtbmlgmblfboigaaGreatDoor
open Go
theorem topLineClear_card:Rows.TopLineClearCardSaid:=
 Claim7.holds_tied_plain_at .later [] _ _ _ _ topLineClear.said (λ_ h=>by cases h) ai (λ_ h=>by cases h) topLineClear_row_tie rfl ⟨rfl,rfl⟩ ai rfl topLineClear.plain ai
end Go.Proofs.YtbmlgmblfboigaaGreatDoor
