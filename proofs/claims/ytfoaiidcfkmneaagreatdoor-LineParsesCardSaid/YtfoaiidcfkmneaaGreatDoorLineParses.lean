/- LineParses returns true for every input, whatever the world, and leaves its arguments as they were; the variables of the package hold what the program's text lays; no other condition. -/
import Derived.Test.YtfoaiidcfkmneaaGreatDoorM10
import Derived.Lay
import Derived.Test.YtfoaiidcfkmneaaGreatDoorHX
import Derived.Test.YtfoaiidcfkmneaaGreatDoorM16
set_option linter.unusedSimpArgs false
set_option maxRecDepth 100000
namespace Go.Proofs.YtfoaiidcfkmneaaGreatDoor.lineParses
open Go Go.ChangeShapes Go.WideShapes Go.ChangeAt Go.RowKit
set_option linter.unusedVariables false
theorem own:ownKnob Tryz.prog.godebug=none:=by kernel_rfl
set_option maxHeartbeats 1000000 in
theorem Oq(H:Type)(enc:TypeId×Value->H)(W:World)(base:Nat)(args:Array Value)(ds gs:List (DataW H))(before:List MemPlace)
 (hval:∀ (j:Nat) t v,Tryz.f3.params[j]? =some t->args[j]? =some v->Value.okWide Tryz.prog W .any base t v)
 (hW:DataW.Whole enc Tryz.prog Tryz.f3.params.toList Rows.lineParsesSpec.vars false W args.toList ds gs before)(hL:laidMetH Tryz.prog Rows.lineParsesRow.laid W):
 Calls Tryz.prog 3 args W λe W'=>∃ v,e= .returned v/\Rows.lineParsesSpec.post enc Tryz.prog Tryz.f3 false true false false W args v W':=by
 have hW':=hW;obtain⟨p,q,hA0,hV,rfl,hfz,hnd⟩:=hW;have hA:DataW.TrodAll enc Tryz.prog W 0 (λ_=>true) true Tryz.f3.params.toList args.toList ds p:=hA0;have hAk:=hA;rw [Tryz.params3]at hA hval;obtain⟨v0,vs0,d0,ds0,pl0,q0,hargs,rfl,rfl,h0,r0⟩:=trodAll_cons hA;obtain⟨rfl,rfl,rfl⟩:=trodAll_nil r0;obtain rfl:args= [v0].toArray :=by cases args;simp_all
 obtain⟨rfl,rfl⟩:=trodVars_none hV;obtain⟨s0,R0⟩:=L2 (hval 0 _ v0 rfl rfl) h0;obtain⟨es,er,he1,he2,hGX⟩:=LZ hL;refine(HZ (HT es er he1 he2 s0) rfl hGX λi a x ha hx=>?_).mono λe W' ⟨he,hx⟩=>?_
 ·match i,ha,hx with
  | 0,ha,hx=>cases ha;cases hx;exact R0
 subst he;exact⟨_,rfl,Il aj aj hx rfl (by simpa using hW') (by simpa using hAk) rfl rfl (λ_ _ _=>trodAll_cons_mk (shut_bool Tryz.underlying4 _) trodAll_mk0) (ok_one aj rfl (okWide_bool_mk Tryz.underlying4 _))⟩
noncomputable def laidWorld(os:Os):World:=
 World.laidAll Tryz.prog os Rows.lineParsesRow.laid
theorem laid_met(os:Os):laidMet Tryz.prog Rows.lineParsesRow.laid ((laidWorld os).forCall (λ_ _=>0) ⟨#[],#[.string ⟨#[]⟩],[]⟩).memory :=
 laidMet_laidAll _ aj aj
theorem reads(os:Os){H:Type}(enc:TypeId×Value->H):∃ places,DataW.whole enc Tryz.prog ((laidWorld os).forCall (λ_ _=>0) ⟨#[],#[.string ⟨#[]⟩],[]⟩).memory Tryz.f3.params.toList Rows.lineParsesSpec.vars false (show Array Value from #[.string ⟨#[]⟩]).toList 8=some ([.lit (.string [])],[],places):=
 ⟨[],aj⟩
theorem lifted(os:Os)(started:os.Started)(H:Type)(enc:TypeId×Value->H)(F:Stop.Interp):
 ReturnsInHanded {} Tryz.checked os 3 .any ((OpenSpec.ofChange Rows.lineParsesSpec).preRow enc Tryz.prog Tryz.f3 Rows.lineParsesRow.domain false Rows.lineParsesRow.laid) (((OpenSpec.ofChange Rows.lineParsesSpec).at F).post enc Tryz.prog Tryz.f3 false true false false):=by
 obtain⟨places,hx⟩:=reads os enc;refine returnsInHanded_of_row (C:=Tryz.checked) (s:=OpenSpec.ofChange Rows.lineParsesSpec) own started aj Tryz.func3
  (witness_row_at (enc:=enc) (C:=Tryz.checked) false (laidWorld os) #[.string ⟨#[]⟩] (World.laidAll_os _ _ _) aj aj aj
   (OpenSpec.preRow_of_cond 8 hx aj (λk hk=>by cases hk) aj (laid_met os))) ?_
 intro W base args ds gs before hval hW _ _ _ hL _ _;exact Oq H enc W base args ds gs before hval hW hL
theorem said:Rows.LineParsesSaid:=
 OpenClaim.holds_of_cond 3 Tryz.f3 rfl rfl rfl rfl rfl rfl rfl ⟨rfl,rfl,rfl,rfl,rfl⟩ rfl rfl rfl rfl rfl aj Tryz.func3 aj
  (of_decide_eq_true aj) (by unfold Func.isWrapper;first|(rw [if_pos hU];kernel_rfl)|(rw [if_neg hU];exact⟨rfl,rfl⟩))
  (λos started H enc _ F=>by rw [OpenClaim.pre_eq_preRow];exact lifted os started H enc F)
theorem plain(f:FuncId)(fn:Func)(hf:Tryz.pinned.checked.prog.funcNamed "guideway/guidewaylaw01.LineParses" =some f)(hfn:Tryz.pinned.checked.prog.funcs[f]? =some fn):
 true=Tryz.pinned.checked.prog.looks []/\ ∀ (j:Nat) t,fn.params[j]? =some t->Tryz.pinned.checked.prog.wantsStandIn t=false:=by
 obtain rfl:f=3:=Option.some.inj ((show Tryz.prog.funcNamed "guideway/guidewaylaw01.LineParses" =some 3 by kernel_rfl).symm.trans hf) |>.symm
 obtain rfl:fn=Tryz.f3:=(Option.some.inj (Tryz.func3.symm.trans hfn)).symm;refine⟨aj,λj t ht=>?_⟩;have all:(Tryz.f3.params.toList.all λt=> !Tryz.pinned.checked.prog.wantsStandIn t)=true:=by kernel_rfl
 have:=Td.1 all t (by have:=Array.mem_of_getElem? ht;simpa using this)
 simpa using this
end Go.Proofs.YtfoaiidcfkmneaaGreatDoor.lineParses
namespace Go.Proofs.YtfoaiidcfkmneaaGreatDoor
open Go
theorem lineParses_card:Rows.LineParsesCardSaid:=
 Claim7.holds_tied_plain_at .later [] _ _ _ _ lineParses.said (λ_ h=>by cases h) aj (λ_ h=>by cases h) lineParses_row_tie rfl ⟨rfl,rfl⟩ aj rfl lineParses.plain aj
end Go.Proofs.YtfoaiidcfkmneaaGreatDoor
