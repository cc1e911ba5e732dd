/- StatorStates returns true for every input, whatever the world, and leaves its arguments as they were; the table 'guideway/stator.states' holds what the program's text lays; no other condition. -/
import Derived.Test.YtdbglpaejmhbjaaDoorRow3
import Derived.Test.YtdbglpaejmhbjaaDoorU2
namespace Go.Proofs.YtdbglpaejmhbjaaDoor.statorStates
open Go Go.ChangeShapes Go.WideShapes Go.ChangeAt Go.RowKit
set_option linter.unusedVariables false

theorem own : ownKnob Tryd.prog.godebug = none := by kernel_rfl

set_option maxRecDepth 100000 in
set_option maxHeartbeats 1000000 in
theorem contract (H : Type) (enc : TypeId × Value → H) (W : World) (base : Nat) (args : Array Value) (ds gs : List (DataW H)) (before : List MemPlace)
    (hval : ∀ (j : Nat) t v, Tryd.f11.params[j]? = some t → args[j]? = some v → Value.okWide Tryd.prog W .any base t v)
    (hW : DataW.Whole enc Tryd.prog Tryd.f11.params.toList Rows.statorStatesSpec.vars false W args.toList ds gs before) (hL : laidMetH Tryd.prog Rows.statorStatesRow.laid W) :
    Calls Tryd.prog 11 args W fun e W' => ∃ v, e = .returned v ∧ Rows.statorStatesSpec.post enc Tryd.prog Tryd.f11 false true false false W args v W' := by
  have hW' := hW
  obtain ⟨p, q, hA0, hV, rfl, hfz, hnd⟩ := hW
  have hA : DataW.TrodAll enc Tryd.prog W 0 (fun _ => true) true Tryd.f11.params.toList args.toList ds p := hA0
  have hAk := hA
  rw [Tryd.params11] at hA hval
  obtain ⟨v0, vs0, d0, ds0, p0, q0, hargs, rfl, rfl, h0, r0⟩ := trodAll_cons hA
  obtain ⟨v1, vs1, d1, ds1, p1, q1, rfl, rfl, rfl, h1, r1⟩ := trodAll_cons r0
  obtain ⟨v2, vs2, d2, ds2, p2, q2, rfl, rfl, rfl, h2, r2⟩ := trodAll_cons r1
  obtain ⟨rfl, rfl, rfl⟩ := trodAll_nil r2
  obtain rfl : args = #[v0, v1, v2] := by cases args; simp_all
  obtain ⟨rfl, rfl⟩ := trodVars_none hV
  obtain ⟨z0, rfl, _, _, _⟩ := open_int Tryd.underlying3 (hval 0 _ v0 rfl rfl) h0
  obtain ⟨z1, rfl, _, _, _⟩ := open_int Tryd.underlying3 (hval 1 _ v1 rfl rfl) h1
  obtain ⟨a2, n2, c2, cs2, rfl, hl2, hr2⟩ := open_vectors (hval 2 _ v2 rfl rfl) h2
  have hs := sts_of_laid hL
  refine (statorStates_any z0 z1 cs2 a2 n2 c2 W hs hl2 hr2).mono fun e W' ⟨he, hx⟩ => ?_
  subst he
  exact ⟨_, rfl, post_of_ext (by kernel_rfl) (by kernel_rfl) hx rfl (by simpa using hW') (by simpa using hAk) rfl rfl (fun _ _ _ => trodAll_cons_mk (shut_bool Tryd.underlying4 _) trodAll_mk0) (ok_one (by kernel_rfl) rfl (okWide_bool_mk Tryd.underlying4 _))⟩

/-- A world for the witness: the settled one, the table (block 0) holding what its initialiser lays. -/
noncomputable def laidWorld (os : Os) : World :=
  { World.holding Tryd.prog os ⟨#[], #[], []⟩ with heap := (World.holding Tryd.prog os ⟨#[], #[], []⟩).heap.modify 0 fun
      | .cells _ t frozen => .cells #[.int .i64 0, .int .i64 0, .int .i64 (-1), .int .i64 (-1), .int .i64 0, .int .i64 1, .int .i64 (-1), .int .i64 0, .int .i64 1, .int .i64 0, .int .i64 0, .int .i64 (-1), .int .i64 1, .int .i64 1, .int .i64 0, .int .i64 0] t frozen
      | o => o }
theorem laid_met (os : Os) : laidMet Tryd.prog Rows.statorStatesRow.laid ((laidWorld os).forCall (fun _ _ => 0) ⟨#[], #[.int .i64 0, .int .i64 0, .slice none 0 0], []⟩).memory :=
  laidMet_of_run' 8 (by kernel_rfl) (by kernel_rfl)
theorem reads (os : Os) {H : Type} (enc : TypeId × Value → H) : ∃ places, DataW.whole enc Tryd.prog ((laidWorld os).forCall (fun _ _ => 0) ⟨#[], #[.int .i64 0, .int .i64 0, .slice none 0 0], []⟩).memory Tryd.f11.params.toList Rows.statorStatesSpec.vars false (show Array Value from #[.int .i64 0, .int .i64 0, .slice none 0 0]).toList 8 = some ([.lit (.int .i64 0), .lit (.int .i64 0), .nil], [], places) :=
  ⟨[], by kernel_rfl⟩

set_option maxRecDepth 100000 in
theorem lifted (os : Os) (started : os.Started) (H : Type) (enc : TypeId × Value → H) (F : Stop.Interp) :
    ReturnsInHanded {} Tryd.checked os 11 .any ((OpenSpec.ofChange Rows.statorStatesSpec).preRow enc Tryd.prog Tryd.f11 Rows.statorStatesRow.domain false Rows.statorStatesRow.laid) (((OpenSpec.ofChange Rows.statorStatesSpec).at F).post enc Tryd.prog Tryd.f11 false true false false) := by
  obtain ⟨places, hx⟩ := reads os enc
  refine returnsInHanded_of_row (C := Tryd.checked) (s := OpenSpec.ofChange Rows.statorStatesSpec) own started (by kernel_rfl) Tryd.func11
    (witness_row_at (enc := enc) (C := Tryd.checked) false (laidWorld os) #[.int .i64 0, .int .i64 0, .slice none 0 0] rfl (by kernel_rfl) (by kernel_rfl) (by kernel_rfl)
      (OpenSpec.preRow_of_cond 8 hx (by kernel_rfl) (fun k hk => by cases hk) (by kernel_rfl) (laid_met os))) ?_
  intro W base args ds gs before hval hW _ _ _ hL _ _
  exact contract H enc W base args ds gs before hval hW hL

theorem said : Rows.StatorStatesSaid :=
  OpenClaim.holds_of_cond 11 Tryd.f11 rfl rfl rfl rfl rfl rfl rfl ⟨rfl, rfl, rfl, rfl, rfl⟩ rfl rfl rfl rfl rfl (by kernel_rfl) Tryd.func11 (by kernel_rfl)
    (of_decide_eq_true (by kernel_rfl)) (by unfold Func.isWrapper; first | (rw [if_pos (by decide +kernel)]; kernel_rfl) | (rw [if_neg (by decide +kernel)]; exact ⟨rfl, rfl⟩))
    (fun os started H enc _ F => by rw [OpenClaim.pre_eq_preRow]; exact lifted os started H enc F)

theorem plain (f : FuncId) (fn : Func) (hf : Tryd.pinned.checked.prog.funcNamed "guideway/guidewaylaw03.StatorStates" = some f) (hfn : Tryd.pinned.checked.prog.funcs[f]? = some fn) :
    false = Tryd.pinned.checked.prog.looks [] ∧ ∀ (j : Nat) t, fn.params[j]? = some t → Tryd.pinned.checked.prog.wantsStandIn t = false := by
  obtain rfl : f = 11 := Option.some.inj ((show Tryd.prog.funcNamed "guideway/guidewaylaw03.StatorStates" = some 11 by kernel_rfl).symm.trans hf) |>.symm
  obtain rfl : fn = Tryd.f11 := (Option.some.inj (Tryd.func11.symm.trans hfn)).symm
  refine ⟨by kernel_rfl, fun j t ht => ?_⟩
  have all : (Tryd.f11.params.toList.all fun t => !Tryd.pinned.checked.prog.wantsStandIn t) = true := by kernel_rfl
  have := List.all_eq_true.1 all t (by have := Array.mem_of_getElem? ht; simpa using this)
  simpa using this
end Go.Proofs.YtdbglpaejmhbjaaDoor.statorStates
namespace Go.Proofs.YtdbglpaejmhbjaaDoor
open Go
/-- The given statement on 'StatorStates', tied to the program's text. -/
theorem statorStates_card : Rows.StatorStatesCardSaid :=
  Claim7.holds_tied_plain_at .later [] _ _ _ _ statorStates.said (fun _ h => by cases h) (by kernel_rfl) (fun _ h => by cases h) statorStates_row_tie rfl ⟨rfl, rfl⟩ (by kernel_rfl) rfl statorStates.plain (by kernel_rfl)
end Go.Proofs.YtdbglpaejmhbjaaDoor
