/- TopLineBranches returns true for every input, whatever the world, and leaves its arguments as they were; no condition. -/
import Derived.Test.YtjhcfpdgldpicaaM4
import Derived.Test.YtjhcfpdgldpicaaKRY
import Derived.Test.YtjhcfpdgldpicaaM13
namespace Go.Proofs.Ytjhcfpdgldpicaa.topLineBranches
open Go Go.ChangeShapes Go.WideShapes Go.ChangeAt Go.RowKit
set_option linter.unusedVariables false
theorem own : ownKnob Try.prog.godebug = none := by kernel_rfl
set_option maxRecDepth 100000 in
set_option maxHeartbeats 1000000 in
theorem contract (H : Type) (enc : TypeId × Value → H) (W : World) (base : Nat) (args : Array Value) (ds gs : List (DataW H)) (before : List MemPlace)
 (hval : ∀ (j : Nat) t v, Try.f4.params[j]? = some t → args[j]? = some v → Value.okWide Try.prog W .any base t v)
 (hW : DataW.Whole enc Try.prog Try.f4.params.toList Rows.topLineBranchesSpec.vars false W args.toList ds gs before) :
 Calls Try.prog 4 args W fun e W' => ∃ v, e = .returned v ∧ Rows.topLineBranchesSpec.post enc Try.prog Try.f4 false true false false W args v W' := by
 have hW' := hW
 obtain ⟨p, q, hA0, hV, rfl, hfz, hnd⟩ := hW
 have hA : DataW.TrodAll enc Try.prog W 0 (fun _ => true) true Try.f4.params.toList args.toList ds p := hA0
 have hAk := hA
 rw [Try.params4] at hA hval
 obtain ⟨v0, vs0, d0, ds0, pl0, q0, hargs, rfl, rfl, h0, r0⟩ := trodAll_cons hA
 obtain ⟨v1, vs1, d1, ds1, pl1, q1, rfl, rfl, rfl, h1, r1⟩ := trodAll_cons r0
 obtain ⟨v2, vs2, d2, ds2, pl2, q2, rfl, rfl, rfl, h2, r2⟩ := trodAll_cons r1
 obtain ⟨rfl, rfl, rfl⟩ := trodAll_nil r2
 obtain rfl : args = [v0, v1, v2].toArray := by cases args; simp_all
 obtain ⟨rfl, rfl⟩ := trodVars_none hV
 obtain ⟨n0, R0⟩ := open_line (hval 0 _ v0 rfl rfl) h0
 obtain ⟨z1, R1⟩ := open_num (hval 1 _ v1 rfl rfl) h1
 obtain ⟨z2, R2⟩ := open_num (hval 2 _ v2 rfl rfl) h2
 refine (calls_of_ok (topLineBranches_ok n0 z1 z2) rfl fun i a x ha hx => ?_).mono fun e W' ⟨he, hx⟩ => ?_
 ·match i, ha, hx with
  | 0, ha, hx => cases ha; cases hx; exact R0
  | 1, ha, hx => cases ha; cases hx; exact R1
  | 2, ha, hx => cases ha; cases hx; exact R2
 subst he
 exact ⟨_, rfl, post_of_ext (by kernel_rfl) (by kernel_rfl) hx rfl (by simpa using hW') (by simpa using hAk) rfl rfl (fun _ _ _ => trodAll_cons_mk (shut_bool Try.underlying4 _) trodAll_mk0) (ok_one (by kernel_rfl) rfl (okWide_bool_mk Try.underlying4 _))⟩
noncomputable def laidWorld (os : Os) : World := World.holding Try.prog os ⟨#[], #[], []⟩
theorem laid_met (os : Os) : laidMet Try.prog Rows.topLineBranchesRow.laid ((laidWorld os).forCall (fun _ _ => 0) ⟨#[], #[.agg #[.string ⟨#[]⟩, .slice none 0 0, .slice none 0 0, .slice none 0 0], .int .i64 0, .int .i64 0], []⟩).memory :=
 laidMet_of_run' 8 (by kernel_rfl) (by kernel_rfl)
theorem reads (os : Os) {H : Type} (enc : TypeId × Value → H) : ∃ places, DataW.whole enc Try.prog ((laidWorld os).forCall (fun _ _ => 0) ⟨#[], #[.agg #[.string ⟨#[]⟩, .slice none 0 0, .slice none 0 0, .slice none 0 0], .int .i64 0, .int .i64 0], []⟩).memory Try.f4.params.toList Rows.topLineBranchesSpec.vars false (show Array Value from #[.agg #[.string ⟨#[]⟩, .slice none 0 0, .slice none 0 0, .slice none 0 0], .int .i64 0, .int .i64 0]).toList 8 = some ([.agg [.lit (.string []), .nil, .nil, .nil], .lit (.int .i64 0), .lit (.int .i64 0)], [], places) :=
 ⟨[], by kernel_rfl⟩
set_option maxRecDepth 100000 in
theorem lifted (os : Os) (started : os.Started) (H : Type) (enc : TypeId × Value → H) (F : Stop.Interp) :
 ReturnsInHanded {} Try.checked os 4 .any ((OpenSpec.ofChange Rows.topLineBranchesSpec).preRow enc Try.prog Try.f4 Rows.topLineBranchesRow.domain false Rows.topLineBranchesRow.laid) (((OpenSpec.ofChange Rows.topLineBranchesSpec).at F).post enc Try.prog Try.f4 false true false false) := by
 obtain ⟨places, hx⟩ := reads os enc
 refine returnsInHanded_of_row (C := Try.checked) (s := OpenSpec.ofChange Rows.topLineBranchesSpec) own started (by kernel_rfl) Try.func4
  (witness_row_at (enc := enc) (C := Try.checked) false (laidWorld os) #[.agg #[.string ⟨#[]⟩, .slice none 0 0, .slice none 0 0, .slice none 0 0], .int .i64 0, .int .i64 0] rfl (by kernel_rfl) (by kernel_rfl) (by kernel_rfl)
   (OpenSpec.preRow_of_cond 8 hx (by kernel_rfl) (fun k hk => by cases hk) (by kernel_rfl) (laid_met os))) ?_
 intro W base args ds gs before hval hW _ _ _ hL _ _
 exact contract H enc W base args ds gs before hval hW
end Go.Proofs.Ytjhcfpdgldpicaa.topLineBranches
namespace Go.Proofs.Ytjhcfpdgldpicaa
open Go
theorem topLineBranches_said : Rows.TopLineBranchesSaid :=
 OpenClaim.holds_of_cond 4 Try.f4 rfl rfl rfl rfl rfl rfl rfl ⟨rfl, rfl, rfl, rfl, rfl⟩ rfl rfl rfl rfl rfl (by kernel_rfl) Try.func4 (by kernel_rfl)
  (of_decide_eq_true (by kernel_rfl)) (by unfold Func.isWrapper; first | (rw [if_pos (by decide +kernel)]; kernel_rfl) | (rw [if_neg (by decide +kernel)]; exact ⟨rfl, rfl⟩))
  (fun os started H enc _ F => by rw [OpenClaim.pre_eq_preRow]; exact topLineBranches.lifted os started H enc F)
end Go.Proofs.Ytjhcfpdgldpicaa
