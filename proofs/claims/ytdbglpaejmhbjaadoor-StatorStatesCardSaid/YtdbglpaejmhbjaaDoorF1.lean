/- Walks: forces and margins. -/
import Derived.Test.YtdbglpaejmhbjaaDoorW11
namespace Go.Proofs.YtdbglpaejmhbjaaDoor
open Go Go.RowKit Go.Proofs
set_option linter.unusedSimpArgs false
set_option linter.unusedVariables false

/-- The value where there is no error, otherwise 0. -/
def okI (E v : Int) : Int := if E = 0 then v else 0
def okB (E : Int) (v : Bool) : Bool := if E = 0 then v else false
def okV (E : Int) (v : T2) : T2 := if E = 0 then v else (0, 0)
def twoE (c f : T2) : Int := unlessE (rightB c && rightB f) 2
/-- How far the first part is away from half of the second one, twice. -/
def awayW (x : T2) : Int := sizeW (wrap64 (wrap64 (2 * x.1) - x.2))
def marS (x : T2) : Int := if x.2 ≤ 0 then 0 else if wrap64 (3 * x.2) < awayW x then 0 else if awayW x ≤ x.2 then 2 else 1
def marR (x : T2) : Int := if x.2 ≤ 0 then 0 else if awayW x ≤ x.2 then 2 else if awayW x ≤ wrap64 (3 * x.2) then 1 else 0

set_option maxRecDepth 100000 in
set_option maxHeartbeats 1000000 in
theorem forceOf_any (c f : T2) (w : World) : Calls Tryd.prog 53 #[tV c, tV f] w fun e w' => e = .returned (.tuple #[.int .i64 (okI (twoE c f) (productW c f).2), .int .i64 (twoE c f)]) ∧ Ext w w' := by
  go_enter Tryd.func53, Tryd.ntmps53
  go_wp2_with (first | (go_at_call 82; (with_reducible refine (rightOf2 c f _ _ _ (by simp)).mono ?_); rintro e w3 ⟨rfl, hx3⟩; obtain ⟨hc3, hf3⟩ := bcell hx3; have hzw3_0 : w.heap.size < w3.heap.size := (by have := hx3.size; (try simp at this); omega); have hzw3_1 : w.heap.size + 1 < w3.heap.size := (by have := hx3.size; (try simp at this); omega); have hzw3_2 : w.heap.size + 1 + 1 < w3.heap.size := (by have := hx3.size; (try simp at this); omega)) | first | (go_at_call 83; refine (product_any _ _ _).mono ?_; rintro e wz ⟨rfl, hxz⟩; obtain ⟨hcz, hfz⟩ := bcell hxz))
  all_goals
    go_ret2
    (refine ⟨?_, by ((repeat' (first | with_reducible exact Ext.refl _ | with_reducible assumption | with_reducible exact Ext.one _ | with_reducible refine Ext.alloc ?_ _ | with_reducible refine Ext.setCell ?_ ?_ _ | with_reducible refine Ext.drew ?_ | ((with_reducible apply Ext.after'); (with_reducible assumption)))) <;> (try simp) <;> omega)⟩; ((try simp_all [twoE, okI]) <;> (try ((repeat' split) <;> omega))))
set_option maxRecDepth 100000 in
set_option maxHeartbeats 1000000 in
theorem marginOf_any (c f : T2) (w : World) : Calls Tryd.prog 54 #[tV c, tV f] w fun e w' => e = .returned (.tuple #[.int .i64 (okI (twoE c f) (marS (productW c f))), .int .i64 (twoE c f)]) ∧ Ext w w' := by
  have HP := Lib.hid (product_any c f)
  generalize productW c f = X at *
  have HS := Lib.hid (show ∀ w1, Calls Tryd.prog 108 #[.int .i64 (wrap64 (wrap64 (2 * X.1) - X.2))] w1 fun e w' => e = .returned (.int .i64 (awayW X)) ∧ Ext w1 w' from fun w1 => size_any _ w1)
  generalize hA : awayW X = A at *
  have HA := Lib.hid hA
  clear hA
  by_cases h1 : X.2 ≤ 0
  · go_enter Tryd.func54, Tryd.ntmps54
    go_wp2_with (first | (go_at_call 82; (with_reducible refine (rightOf2 c f _ _ _ (by simp)).mono ?_); rintro e w3 ⟨rfl, hx3⟩; obtain ⟨hc3, hf3⟩ := bcell hx3; have hzw3_0 : w.heap.size < w3.heap.size := (by have := hx3.size; (try simp at this); omega); have hzw3_1 : w.heap.size + 1 < w3.heap.size := (by have := hx3.size; (try simp at this); omega)) | (go_at_call 83; (with_reducible refine (HP.out _).mono ?_); rintro e w4 ⟨rfl, hx4⟩; obtain ⟨hc4, hf4⟩ := bcell hx4; have hzw4_0 : w.heap.size < w4.heap.size := (by have := hx4.size; (try simp at this); omega); have hzw4_1 : w.heap.size + 1 < w4.heap.size := (by have := hx4.size; (try simp at this); omega)) | (go_at_call 108; (with_reducible refine (HS.out _).mono ?_); rintro e w5 ⟨rfl, hx5⟩; obtain ⟨hc5, hf5⟩ := bcell hx5; have hzw5_0 : w.heap.size < w5.heap.size := (by have := hx5.size; (try simp at this); omega); have hzw5_1 : w.heap.size + 1 < w5.heap.size := (by have := hx5.size; (try simp at this); omega); have hy5_w4_0 : w4.heap.size < w5.heap.size := (by have := hx5.size; (try simp at this); omega)))
    all_goals
      go_ret2
      (refine ⟨?_, by ((repeat' (first | with_reducible exact Ext.refl _ | with_reducible assumption | with_reducible exact Ext.one _ | with_reducible refine Ext.alloc ?_ _ | with_reducible refine Ext.setCell ?_ ?_ _ | with_reducible refine Ext.drew ?_ | ((with_reducible apply Ext.after'); (with_reducible assumption)))) <;> (try simp) <;> omega)⟩; ((try simp_all [twoE, okI, marS, HA.out]) <;> (try ((repeat' split) <;> omega))))
  · by_cases h2 : wrap64 (3 * X.2) < A
    all_goals
      go_enter Tryd.func54, Tryd.ntmps54
      go_wp2_with (first | (go_at_call 82; (with_reducible refine (rightOf2 c f _ _ _ (by simp)).mono ?_); rintro e w3 ⟨rfl, hx3⟩; obtain ⟨hc3, hf3⟩ := bcell hx3; have hzw3_0 : w.heap.size < w3.heap.size := (by have := hx3.size; (try simp at this); omega); have hzw3_1 : w.heap.size + 1 < w3.heap.size := (by have := hx3.size; (try simp at this); omega)) | (go_at_call 83; (with_reducible refine (HP.out _).mono ?_); rintro e w4 ⟨rfl, hx4⟩; obtain ⟨hc4, hf4⟩ := bcell hx4; have hzw4_0 : w.heap.size < w4.heap.size := (by have := hx4.size; (try simp at this); omega); have hzw4_1 : w.heap.size + 1 < w4.heap.size := (by have := hx4.size; (try simp at this); omega)) | (go_at_call 108; (with_reducible refine (HS.out _).mono ?_); rintro e w5 ⟨rfl, hx5⟩; obtain ⟨hc5, hf5⟩ := bcell hx5; have hzw5_0 : w.heap.size < w5.heap.size := (by have := hx5.size; (try simp at this); omega); have hzw5_1 : w.heap.size + 1 < w5.heap.size := (by have := hx5.size; (try simp at this); omega); have hy5_w4_0 : w4.heap.size < w5.heap.size := (by have := hx5.size; (try simp at this); omega)))
      all_goals
        go_ret2
        (refine ⟨?_, by ((repeat' (first | with_reducible exact Ext.refl _ | with_reducible assumption | with_reducible exact Ext.one _ | with_reducible refine Ext.alloc ?_ _ | with_reducible refine Ext.setCell ?_ ?_ _ | with_reducible refine Ext.drew ?_ | ((with_reducible apply Ext.after'); (with_reducible assumption)))) <;> (try simp) <;> omega)⟩; ((try simp_all [twoE, okI, marS, HA.out]) <;> (try ((repeat' split) <;> omega))))
set_option maxRecDepth 100000 in
set_option maxHeartbeats 1000000 in
theorem rMarginOf_any (c f : T2) (w : World) : Calls Tryd.prog 56 #[tV c, tV f] w fun e w' => e = .returned (.int .i64 (marR (productW c f))) ∧ Ext w w' := by
  have HP := Lib.hid (rproduct_any c f)
  generalize productW c f = X at *
  have HS := Lib.hid (show ∀ w1, Calls Tryd.prog 52 #[.int .i64 (wrap64 (wrap64 (2 * X.1) - X.2))] w1 fun e w' => e = .returned (.int .i64 (awayW X)) ∧ Ext w1 w' from fun w1 => bSize_any _ w1)
  generalize hA : awayW X = A at *
  have HA := Lib.hid hA
  clear hA
  by_cases h1 : 0 < X.2
  · by_cases h2 : A ≤ X.2
    all_goals
      go_enter Tryd.func56, Tryd.ntmps56
      go_wp2_with (first | (go_at_call 113; (with_reducible refine (HP.out _).mono ?_); rintro e w4 ⟨rfl, hx4⟩; obtain ⟨hc4, hf4⟩ := bcell hx4; have hzw4_0 : w.heap.size < w4.heap.size := (by have := hx4.size; (try simp at this); omega); have hzw4_1 : w.heap.size + 1 < w4.heap.size := (by have := hx4.size; (try simp at this); omega)) | (go_at_call 52; (with_reducible refine (HS.out _).mono ?_); rintro e w5 ⟨rfl, hx5⟩; obtain ⟨hc5, hf5⟩ := bcell hx5; have hzw5_0 : w.heap.size < w5.heap.size := (by have := hx5.size; (try simp at this); omega); have hzw5_1 : w.heap.size + 1 < w5.heap.size := (by have := hx5.size; (try simp at this); omega); have hy5_w4_0 : w4.heap.size < w5.heap.size := (by have := hx5.size; (try simp at this); omega)))
      all_goals
        go_ret
        (refine ⟨?_, by ((repeat' (first | with_reducible exact Ext.refl _ | with_reducible assumption | with_reducible exact Ext.one _ | with_reducible refine Ext.alloc ?_ _ | with_reducible refine Ext.setCell ?_ ?_ _ | with_reducible refine Ext.drew ?_ | ((with_reducible apply Ext.after'); (with_reducible assumption)))) <;> (try simp) <;> omega)⟩; ((try simp_all [marR, HA.out]) <;> (try ((repeat' split) <;> omega))))
  · go_enter Tryd.func56, Tryd.ntmps56
    go_wp2_with (first | (go_at_call 113; (with_reducible refine (HP.out _).mono ?_); rintro e w4 ⟨rfl, hx4⟩; obtain ⟨hc4, hf4⟩ := bcell hx4; have hzw4_0 : w.heap.size < w4.heap.size := (by have := hx4.size; (try simp at this); omega); have hzw4_1 : w.heap.size + 1 < w4.heap.size := (by have := hx4.size; (try simp at this); omega)) | (go_at_call 52; (with_reducible refine (HS.out _).mono ?_); rintro e w5 ⟨rfl, hx5⟩; obtain ⟨hc5, hf5⟩ := bcell hx5; have hzw5_0 : w.heap.size < w5.heap.size := (by have := hx5.size; (try simp at this); omega); have hzw5_1 : w.heap.size + 1 < w5.heap.size := (by have := hx5.size; (try simp at this); omega); have hy5_w4_0 : w4.heap.size < w5.heap.size := (by have := hx5.size; (try simp at this); omega)))
    all_goals
      go_ret
      (refine ⟨?_, by ((repeat' (first | with_reducible exact Ext.refl _ | with_reducible assumption | with_reducible exact Ext.one _ | with_reducible refine Ext.alloc ?_ _ | with_reducible refine Ext.setCell ?_ ?_ _ | with_reducible refine Ext.drew ?_ | ((with_reducible apply Ext.after'); (with_reducible assumption)))) <;> (try simp) <;> omega)⟩; ((try simp_all [marR, HA.out]) <;> (try ((repeat' split) <;> omega))))
end Go.Proofs.YtdbglpaejmhbjaaDoor
