/- BrakeTexts returns true for every input, whatever the world, and leaves its arguments as they were; the variables of the package hold what the program's text lays; no other condition. -/
import Derived.Test.YtjhcfpdgldpicaaGreatDoorM7
import Derived.Lay
import Derived.Test.YtjhcfpdgldpicaaGreatDoorHX
import Derived.Test.YtjhcfpdgldpicaaGreatDoorM13
namespace Go.Proofs.YtjhcfpdgldpicaaGreatDoor.brakeTexts
open Go Go.ChangeShapes Go.WideShapes Go.ChangeAt Go.RowKit
set_option linter.unusedVariables false
theorem own : ownKnob Tryz.prog.godebug = none := by kernel_rfl
set_option maxRecDepth 100000 in
set_option maxHeartbeats 1000000 in
theorem contract (H : Type) (enc : TypeId × Value → H) (W : World) (base : Nat) (args : Array Value) (ds gs : List (DataW H)) (before : List MemPlace)
 (hval : ∀ (j : Nat) t v, Tryz.f3.params[j]? = some t → args[j]? = some v → Value.okWide Tryz.prog W .any base t v)
 (hW : DataW.Whole enc Tryz.prog Tryz.f3.params.toList Rows.brakeTextsSpec.vars false W args.toList ds gs before) (hL : laidMetH Tryz.prog Rows.brakeTextsRow.laid W) :
 Calls Tryz.prog 3 args W fun e W' => ∃ v, e = .returned v ∧ Rows.brakeTextsSpec.post enc Tryz.prog Tryz.f3 false true false false W args v W' := by
 have hW' := hW
 obtain ⟨p, q, hA0, hV, rfl, hfz, hnd⟩ := hW
 have hA : DataW.TrodAll enc Tryz.prog W 0 (fun _ => true) true Tryz.f3.params.toList args.toList ds p := hA0
 have hAk := hA
 rw [Tryz.params3] at hA hval
 obtain ⟨v0, vs0, d0, ds0, pl0, q0, hargs, rfl, rfl, h0, r0⟩ := trodAll_cons hA
 obtain ⟨v1, vs1, d1, ds1, pl1, q1, rfl, rfl, rfl, h1, r1⟩ := trodAll_cons r0
 obtain ⟨rfl, rfl, rfl⟩ := trodAll_nil r1
 obtain rfl : args = [v0, v1].toArray := by cases args; simp_all
 obtain ⟨rfl, rfl⟩ := trodVars_none hV
 obtain ⟨n0, p0, R0⟩ := open_track (hval 0 _ v0 rfl rfl) h0
 obtain ⟨s1, R1⟩ := open_txt (hval 1 _ v1 rfl rfl) h1
 obtain ⟨es, er, he1, he2, hGX⟩ := globX_of hL
 refine (callsG_of_ok (brakeTexts_ok es er he1 he2 n0 p0 s1) rfl hGX fun i a x ha hx => ?_).mono fun e W' ⟨he, hx⟩ => ?_
 ·match i, ha, hx with
  | 0, ha, hx => cases ha; cases hx; exact R0
  | 1, ha, hx => cases ha; cases hx; exact R1
 subst he
 exact ⟨_, rfl, post_of_ext (by kernel_rfl) (by kernel_rfl) hx rfl (by simpa using hW') (by simpa using hAk) rfl rfl (fun _ _ _ => trodAll_cons_mk (shut_bool Tryz.underlying4 _) trodAll_mk0) (ok_one (by kernel_rfl) rfl (okWide_bool_mk Tryz.underlying4 _))⟩
noncomputable def laidWorld (os : Os) : World :=
 World.laidAll Tryz.prog os Rows.brakeTextsRow.laid
theorem laid_met (os : Os) : laidMet Tryz.prog Rows.brakeTextsRow.laid ((laidWorld os).forCall (fun _ _ => 0) ⟨#[], #[.agg #[.string ⟨#[]⟩, .slice none 0 0], .string ⟨#[]⟩], []⟩).memory :=
 laidMet_laidAll _ (by kernel_rfl) (by kernel_rfl)
theorem reads (os : Os) {H : Type} (enc : TypeId × Value → H) : ∃ places, DataW.whole enc Tryz.prog ((laidWorld os).forCall (fun _ _ => 0) ⟨#[], #[.agg #[.string ⟨#[]⟩, .slice none 0 0], .string ⟨#[]⟩], []⟩).memory Tryz.f3.params.toList Rows.brakeTextsSpec.vars false (show Array Value from #[.agg #[.string ⟨#[]⟩, .slice none 0 0], .string ⟨#[]⟩]).toList 8 = some ([.agg [.lit (.string []), .nil], .lit (.string [])], [], places) :=
 ⟨[], by kernel_rfl⟩
set_option maxRecDepth 100000 in
theorem lifted (os : Os) (started : os.Started) (H : Type) (enc : TypeId × Value → H) (F : Stop.Interp) :
 ReturnsInHanded {} Tryz.checked os 3 .any ((OpenSpec.ofChange Rows.brakeTextsSpec).preRow enc Tryz.prog Tryz.f3 Rows.brakeTextsRow.domain false Rows.brakeTextsRow.laid) (((OpenSpec.ofChange Rows.brakeTextsSpec).at F).post enc Tryz.prog Tryz.f3 false true false false) := by
 obtain ⟨places, hx⟩ := reads os enc
 refine returnsInHanded_of_row (C := Tryz.checked) (s := OpenSpec.ofChange Rows.brakeTextsSpec) own started (by kernel_rfl) Tryz.func3
  (witness_row_at (enc := enc) (C := Tryz.checked) false (laidWorld os) #[.agg #[.string ⟨#[]⟩, .slice none 0 0], .string ⟨#[]⟩] (World.laidAll_os _ _ _) (by kernel_rfl) (by kernel_rfl) (by kernel_rfl)
   (OpenSpec.preRow_of_cond 8 hx (by kernel_rfl) (fun k hk => by cases hk) (by kernel_rfl) (laid_met os))) ?_
 intro W base args ds gs before hval hW _ _ _ hL _ _
 exact contract H enc W base args ds gs before hval hW hL
theorem said : Rows.BrakeTextsSaid :=
 OpenClaim.holds_of_cond 3 Tryz.f3 rfl rfl rfl rfl rfl rfl rfl ⟨rfl, rfl, rfl, rfl, rfl⟩ rfl rfl rfl rfl rfl (by kernel_rfl) Tryz.func3 (by kernel_rfl)
  (of_decide_eq_true (by kernel_rfl)) (by unfold Func.isWrapper; first | (rw [if_pos (by decide +kernel)]; kernel_rfl) | (rw [if_neg (by decide +kernel)]; exact ⟨rfl, rfl⟩))
  (fun os started H enc _ F => by rw [OpenClaim.pre_eq_preRow]; exact lifted os started H enc F)
theorem plain (f : FuncId) (fn : Func) (hf : Tryz.pinned.checked.prog.funcNamed "guideway/guidewaylaw05.BrakeTexts" = some f) (hfn : Tryz.pinned.checked.prog.funcs[f]? = some fn) :
 true = Tryz.pinned.checked.prog.looks [] ∧ ∀ (j : Nat) t, fn.params[j]? = some t → Tryz.pinned.checked.prog.wantsStandIn t = false := by
 obtain rfl : f = 3 := Option.some.inj ((show Tryz.prog.funcNamed "guideway/guidewaylaw05.BrakeTexts" = some 3 by kernel_rfl).symm.trans hf) |>.symm
 obtain rfl : fn = Tryz.f3 := (Option.some.inj (Tryz.func3.symm.trans hfn)).symm
 refine ⟨by kernel_rfl, fun j t ht => ?_⟩
 have all : (Tryz.f3.params.toList.all fun t => !Tryz.pinned.checked.prog.wantsStandIn t) = true := by kernel_rfl
 have := List.all_eq_true.1 all t (by have := Array.mem_of_getElem? ht; simpa using this)
 simpa using this
end Go.Proofs.YtjhcfpdgldpicaaGreatDoor.brakeTexts
namespace Go.Proofs.YtjhcfpdgldpicaaGreatDoor
open Go
theorem brakeTexts_card : Rows.BrakeTextsCardSaid :=
 Claim7.holds_tied_plain_at .later [] _ _ _ _ brakeTexts.said (fun _ h => by cases h) (by kernel_rfl) (fun _ h => by cases h) brakeTexts_row_tie rfl ⟨rfl, rfl⟩ (by kernel_rfl) rfl brakeTexts.plain (by kernel_rfl)
end Go.Proofs.YtjhcfpdgldpicaaGreatDoor
