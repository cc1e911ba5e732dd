/- LineTurned returns true for every input, whatever the world, and leaves its arguments as they were; no condition. -/
import Derived.Test.YtjhcfpdgldpicaaM4
import Derived.Test.YtjhcfpdgldpicaaKRY
import Derived.Test.YtjhcfpdgldpicaaY87
namespace Go.Proofs.Ytjhcfpdgldpicaa.lineTurned
open Go Go.ChangeShapes Go.WideShapes Go.ChangeAt Go.RowKit
set_option linter.unusedVariables false
theorem own : ownKnob Try.prog.godebug = none := by kernel_rfl
set_option maxRecDepth 100000 in
set_option maxHeartbeats 1000000 in
theorem contract (H : Type) (enc : TypeId × Value → H) (W : World) (base : Nat) (args : Array Value) (ds gs : List (DataW H)) (before : List MemPlace)
 (hval : ∀ (j : Nat) t v, Try.f3.params[j]? = some t → args[j]? = some v → Value.okWide Try.prog W .any base t v)
 (hW : DataW.Whole enc Try.prog Try.f3.params.toList Rows.lineTurnedSpec.vars false W args.toList ds gs before) :
 Calls Try.prog 3 args W fun e W' => ∃ v, e = .returned v ∧ Rows.lineTurnedSpec.post enc Try.prog Try.f3 false true false false W args v W' := by
 have hW' := hW
 obtain ⟨p, q, hA0, hV, rfl, hfz, hnd⟩ := hW
 have hA : DataW.TrodAll enc Try.prog W 0 (fun _ => true) true Try.f3.params.toList args.toList ds p := hA0
 have hAk := hA
 rw [Try.params3] at hA hval
 obtain ⟨v0, vs0, d0, ds0, pl0, q0, hargs, rfl, rfl, h0, r0⟩ := trodAll_cons hA
 obtain ⟨v1, vs1, d1, ds1, pl1, q1, rfl, rfl, rfl, h1, r1⟩ := trodAll_cons r0
 obtain ⟨rfl, rfl, rfl⟩ := trodAll_nil r1
 obtain rfl : args = [v0, v1].toArray := by cases args; simp_all
 obtain ⟨rfl, rfl⟩ := trodVars_none hV
 obtain ⟨n0, R0⟩ := open_line (hval 0 _ v0 rfl rfl) h0
 obtain ⟨z1, R1⟩ := open_num (hval 1 _ v1 rfl rfl) h1
 refine (calls_of_ok (lineTurned_ok n0 z1) rfl fun i a x ha hx => ?_).mono fun e W' ⟨he, hx⟩ => ?_
 ·match i, ha, hx with
  | 0, ha, hx => cases ha; cases hx; exact R0
  | 1, ha, hx => cases ha; cases hx; exact R1
 subst he
 exact ⟨_, rfl, post_of_ext (by kernel_rfl) (by kernel_rfl) hx rfl (by simpa using hW') (by simpa using hAk) rfl rfl (fun _ _ _ => trodAll_cons_mk (shut_bool Try.underlying4 _) trodAll_mk0) (ok_one (by kernel_rfl) rfl (okWide_bool_mk Try.underlying4 _))⟩
noncomputable def laidWorld (os : Os) : World := World.holding Try.prog os ⟨#[], #[], []⟩
theorem laid_met (os : Os) : laidMet Try.prog Rows.lineTurnedRow.laid ((laidWorld os).forCall (fun _ _ => 0) ⟨#[], #[.agg #[.string ⟨#[]⟩, .slice none 0 0, .slice none 0 0, .slice none 0 0], .int .i64 0], []⟩).memory :=
 laidMet_of_run' 8 (by kernel_rfl) (by kernel_rfl)
theorem reads (os : Os) {H : Type} (enc : TypeId × Value → H) : ∃ places, DataW.whole enc Try.prog ((laidWorld os).forCall (fun _ _ => 0) ⟨#[], #[.agg #[.string ⟨#[]⟩, .slice none 0 0, .slice none 0 0, .slice none 0 0], .int .i64 0], []⟩).memory Try.f3.params.toList Rows.lineTurnedSpec.vars false (show Array Value from #[.agg #[.string ⟨#[]⟩, .slice none 0 0, .slice none 0 0, .slice none 0 0], .int .i64 0]).toList 8 = some ([.agg [.lit (.string []), .nil, .nil, .nil], .lit (.int .i64 0)], [], places) :=
 ⟨[], by kernel_rfl⟩
set_option maxRecDepth 100000 in
theorem lifted (os : Os) (started : os.Started) (H : Type) (enc : TypeId × Value → H) (F : Stop.Interp) :
 ReturnsInHanded {} Try.checked os 3 .any ((OpenSpec.ofChange Rows.lineTurnedSpec).preRow enc Try.prog Try.f3 Rows.lineTurnedRow.domain false Rows.lineTurnedRow.laid) (((OpenSpec.ofChange Rows.lineTurnedSpec).at F).post enc Try.prog Try.f3 false true false false) := by
 obtain ⟨places, hx⟩ := reads os enc
 refine returnsInHanded_of_row (C := Try.checked) (s := OpenSpec.ofChange Rows.lineTurnedSpec) own started (by kernel_rfl) Try.func3
  (witness_row_at (enc := enc) (C := Try.checked) false (laidWorld os) #[.agg #[.string ⟨#[]⟩, .slice none 0 0, .slice none 0 0, .slice none 0 0], .int .i64 0] rfl (by kernel_rfl) (by kernel_rfl) (by kernel_rfl)
   (OpenSpec.preRow_of_cond 8 hx (by kernel_rfl) (fun k hk => by cases hk) (by kernel_rfl) (laid_met os))) ?_
 intro W base args ds gs before hval hW _ _ _ hL _ _
 exact contract H enc W base args ds gs before hval hW
end Go.Proofs.Ytjhcfpdgldpicaa.lineTurned
namespace Go.Proofs.Ytjhcfpdgldpicaa
open Go
theorem lineTurned_said : Rows.LineTurnedSaid :=
 OpenClaim.holds_of_cond 3 Try.f3 rfl rfl rfl rfl rfl rfl rfl ⟨rfl, rfl, rfl, rfl, rfl⟩ rfl rfl rfl rfl rfl (by kernel_rfl) Try.func3 (by kernel_rfl)
  (of_decide_eq_true (by kernel_rfl)) (by unfold Func.isWrapper; first | (rw [if_pos (by decide +kernel)]; kernel_rfl) | (rw [if_neg (by decide +kernel)]; exact ⟨rfl, rfl⟩))
  (fun os started H enc _ F => by rw [OpenClaim.pre_eq_preRow]; exact lineTurned.lifted os started H enc F)
end Go.Proofs.Ytjhcfpdgldpicaa
