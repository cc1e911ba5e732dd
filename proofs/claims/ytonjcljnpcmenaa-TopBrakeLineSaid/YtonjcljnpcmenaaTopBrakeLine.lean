/- TopBrakeLine returns true for every input, whatever the world, and leaves its arguments as they were; no condition. -/
import Derived.Test.YtonjcljnpcmenaaM1
import Derived.Test.YtonjcljnpcmenaaKRY
import Derived.Test.YtonjcljnpcmenaaKRT
import Derived.Test.YtonjcljnpcmenaaY72
namespace Go.Proofs.Ytonjcljnpcmenaa.topBrakeLine
open Go Go.ChangeShapes Go.WideShapes Go.ChangeAt Go.RowKit
set_option linter.unusedVariables false

theorem own : ownKnob Try.prog.godebug = none := by kernel_rfl

set_option maxRecDepth 100000 in
set_option maxHeartbeats 1000000 in
theorem contract (H : Type) (enc : TypeId × Value → H) (W : World) (base : Nat) (args : Array Value) (ds gs : List (DataW H)) (before : List MemPlace)
    (hval : ∀ (j : Nat) t v, Try.f11.params[j]? = some t → args[j]? = some v → Value.okWide Try.prog W .any base t v)
    (hW : DataW.Whole enc Try.prog Try.f11.params.toList Rows.topBrakeLineSpec.vars false W args.toList ds gs before) :
    Calls Try.prog 11 args W fun e W' => ∃ v, e = .returned v ∧ Rows.topBrakeLineSpec.post enc Try.prog Try.f11 false true false false W args v W' := by
  have hW' := hW
  obtain ⟨p, q, hA0, hV, rfl, hfz, hnd⟩ := hW
  have hA : DataW.TrodAll enc Try.prog W 0 (fun _ => true) true Try.f11.params.toList args.toList ds p := hA0
  have hAk := hA
  rw [Try.params11] at hA hval
  obtain ⟨v0, vs0, d0, ds0, pl0, q0, hargs, rfl, rfl, h0, r0⟩ := trodAll_cons hA
  obtain ⟨v1, vs1, d1, ds1, pl1, q1, rfl, rfl, rfl, h1, r1⟩ := trodAll_cons r0
  obtain ⟨rfl, rfl, rfl⟩ := trodAll_nil r1
  obtain rfl : args = [v0, v1].toArray := by cases args; simp_all
  obtain ⟨rfl, rfl⟩ := trodVars_none hV
  obtain ⟨n0, R0⟩ := open_line (hval 0 _ v0 rfl rfl) h0
  obtain ⟨a1, b1, c1, y1, q1, R1⟩ := open_trip (hval 1 _ v1 rfl rfl) h1
  refine (calls_of_ok (topBrakeLine_ok n0 a1 b1 c1 y1 q1) rfl fun i a x ha hx => ?_).mono fun e W' ⟨he, hx⟩ => ?_
  · match i, ha, hx with
    | 0, ha, hx => cases ha; cases hx; exact R0
    | 1, ha, hx => cases ha; cases hx; exact R1
  subst he
  exact ⟨_, rfl, post_of_ext (by kernel_rfl) (by kernel_rfl) hx rfl (by simpa using hW') (by simpa using hAk) rfl rfl (fun _ _ _ => trodAll_cons_mk (shut_bool Try.underlying4 _) trodAll_mk0) (ok_one (by kernel_rfl) rfl (okWide_bool_mk Try.underlying4 _))⟩

/-- A world for the witness. -/
noncomputable def laidWorld (os : Os) : World := World.holding Try.prog os ⟨#[], #[], []⟩
theorem laid_met (os : Os) : laidMet Try.prog Rows.topBrakeLineRow.laid ((laidWorld os).forCall (fun _ _ => 0) ⟨#[], #[.agg #[.string ⟨#[]⟩, .slice none 0 0, .slice none 0 0, .slice none 0 0], .agg #[.int .i64 0, .int .i64 0, .int .i64 0, .int .i64 0, .slice none 0 0]], []⟩).memory :=
  laidMet_of_run' 8 (by kernel_rfl) (by kernel_rfl)
theorem reads (os : Os) {H : Type} (enc : TypeId × Value → H) : ∃ places, DataW.whole enc Try.prog ((laidWorld os).forCall (fun _ _ => 0) ⟨#[], #[.agg #[.string ⟨#[]⟩, .slice none 0 0, .slice none 0 0, .slice none 0 0], .agg #[.int .i64 0, .int .i64 0, .int .i64 0, .int .i64 0, .slice none 0 0]], []⟩).memory Try.f11.params.toList Rows.topBrakeLineSpec.vars false (show Array Value from #[.agg #[.string ⟨#[]⟩, .slice none 0 0, .slice none 0 0, .slice none 0 0], .agg #[.int .i64 0, .int .i64 0, .int .i64 0, .int .i64 0, .slice none 0 0]]).toList 8 = some ([.agg [.lit (.string []), .nil, .nil, .nil], .agg [.agg [.lit (.int .i64 0), .lit (.int .i64 0), .lit (.int .i64 0)], .lit (.int .i64 0), .nil]], [], places) :=
  ⟨[], by kernel_rfl⟩

set_option maxRecDepth 100000 in
theorem lifted (os : Os) (started : os.Started) (H : Type) (enc : TypeId × Value → H) (F : Stop.Interp) :
    ReturnsInHanded {} Try.checked os 11 .any ((OpenSpec.ofChange Rows.topBrakeLineSpec).preRow enc Try.prog Try.f11 Rows.topBrakeLineRow.domain false Rows.topBrakeLineRow.laid) (((OpenSpec.ofChange Rows.topBrakeLineSpec).at F).post enc Try.prog Try.f11 false true false false) := by
  obtain ⟨places, hx⟩ := reads os enc
  refine returnsInHanded_of_row (C := Try.checked) (s := OpenSpec.ofChange Rows.topBrakeLineSpec) own started (by kernel_rfl) Try.func11
    (witness_row_at (enc := enc) (C := Try.checked) false (laidWorld os) #[.agg #[.string ⟨#[]⟩, .slice none 0 0, .slice none 0 0, .slice none 0 0], .agg #[.int .i64 0, .int .i64 0, .int .i64 0, .int .i64 0, .slice none 0 0]] rfl (by kernel_rfl) (by kernel_rfl) (by kernel_rfl)
      (OpenSpec.preRow_of_cond 8 hx (by kernel_rfl) (fun k hk => by cases hk) (by kernel_rfl) (laid_met os))) ?_
  intro W base args ds gs before hval hW _ _ _ hL _ _
  exact contract H enc W base args ds gs before hval hW

end Go.Proofs.Ytonjcljnpcmenaa.topBrakeLine
namespace Go.Proofs.Ytonjcljnpcmenaa
open Go
/-- The given statement on 'TopBrakeLine'. -/
theorem topBrakeLine_said : Rows.TopBrakeLineSaid :=
  OpenClaim.holds_of_cond 11 Try.f11 rfl rfl rfl rfl rfl rfl rfl ⟨rfl, rfl, rfl, rfl, rfl⟩ rfl rfl rfl rfl rfl (by kernel_rfl) Try.func11 (by kernel_rfl)
    (of_decide_eq_true (by kernel_rfl)) (by unfold Func.isWrapper; first | (rw [if_pos (by decide +kernel)]; kernel_rfl) | (rw [if_neg (by decide +kernel)]; exact ⟨rfl, rfl⟩))
    (fun os started H enc _ F => by rw [OpenClaim.pre_eq_preRow]; exact topBrakeLine.lifted os started H enc F)
end Go.Proofs.Ytonjcljnpcmenaa
