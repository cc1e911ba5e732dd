/- Walks: the arithmetic of vectors and the small functions of errors; each for all arguments, with Go's wrapped sums. -/
import Derived.Test.YtdbglpaejmhbjaaDoorW1
namespace Go.Proofs.YtdbglpaejmhbjaaDoor
open Go Go.RowKit Go.Proofs
set_option linter.unusedSimpArgs false
set_option linter.unusedVariables false

/-! ### what they compute, with Go's wrapped sums -/
def conjW (v : T2) : T2 := (wrap64 (v.1 - v.2), wrap64 (-v.2))
def timesW (v o : T2) : T2 := (wrap64 (wrap64 (v.1 * o.1) - wrap64 (v.2 * o.2)), wrap64 (wrap64 (wrap64 (v.1 * o.2) + wrap64 (v.2 * o.1)) - wrap64 (v.2 * o.2)))
def productW (c f : T2) : T2 := timesW c (conjW f)
def addW (v o : T2) : T2 := (wrap64 (v.1 + o.1), wrap64 (v.2 + o.2))
def subW (v o : T2) : T2 := (wrap64 (v.1 - o.1), wrap64 (v.2 - o.2))
def byW (v : T2) (n : Int) : T2 := (wrap64 (n * v.1), wrap64 (n * v.2))
def normW (v : T2) : Int := wrap64 (wrap64 (wrap64 (v.1 * v.1) - wrap64 (v.1 * v.2)) + wrap64 (v.2 * v.2))
def sizeW (n : Int) : Int := max n (wrap64 (-n))
def smallB (n most : Int) : Bool := withinB n (wrap64 (-most)) most
abbrev T3 := Int × Int × Int
/-- Three numbers as a value. -/
abbrev pV (x : T3) : Value := .agg #[.int .i64 x.1, .int .i64 x.2.1, .int .i64 x.2.2]
def ofW (x : T3) : T2 := (wrap64 (x.1 - x.2.2), wrap64 (x.2.1 - x.2.2))
def splitW (v : T2) : T3 := (wrap64 (wrap64 (2 * v.1) - v.2), wrap64 (wrap64 (2 * v.2) - v.1), wrap64 (wrap64 (-v.1) - v.2))
def powerW (a b : T3) : Int := wrap64 (wrap64 (wrap64 (a.1 * b.1) + wrap64 (a.2.1 * b.2.1)) + wrap64 (a.2.2 * b.2.2))
def floorW (n b : Int) : Int := if n.tmod b < 0 then wrap64 (wrap64 (n.tdiv b) - 1) else wrap64 (n.tdiv b)
def modW (n b : Int) : Int := if n.tmod b < 0 then wrap64 (n.tmod b + b) else n.tmod b
def ceilW (n b : Int) : Int := wrap64 (-floorW (wrap64 (-n)) b)
def rightB (v : T2) : Bool := smallB v.1 100000 && smallB v.2 100000

set_option maxRecDepth 100000 in
set_option maxHeartbeats 1000000 in
theorem conj_any (v : T2) (w : World) : Calls Tryd.prog 124 #[tV v] w fun e w' => e = .returned (tV (conjW v)) ∧ Ext w w' := by
  go_enter Tryd.func124, Tryd.ntmps124
  go_wp2
  exact bodyPost_ret (v := tV (conjW v)) (by simp [results, Tryd.results124, go_sem, conjW]) rfl ⟨rfl, by ((repeat' (first | with_reducible exact Ext.refl _ | with_reducible assumption | with_reducible exact Ext.one _ | with_reducible refine Ext.alloc ?_ _ | with_reducible refine Ext.setCell ?_ ?_ _ | with_reducible refine Ext.drew ?_ | ((with_reducible apply Ext.after'); (with_reducible assumption)))) <;> (try simp) <;> omega)⟩

set_option maxRecDepth 100000 in
set_option maxHeartbeats 1000000 in
theorem times_any (v o : T2) (w : World) : Calls Tryd.prog 123 #[tV v, tV o] w fun e w' => e = .returned (tV (timesW v o)) ∧ Ext w w' := by
  go_enter Tryd.func123, Tryd.ntmps123
  go_wp2
  exact bodyPost_ret (v := tV (timesW v o)) (by simp [results, Tryd.results123, go_sem, timesW]) rfl ⟨rfl, by ((repeat' (first | with_reducible exact Ext.refl _ | with_reducible assumption | with_reducible exact Ext.one _ | with_reducible refine Ext.alloc ?_ _ | with_reducible refine Ext.setCell ?_ ?_ _ | with_reducible refine Ext.drew ?_ | ((with_reducible apply Ext.after'); (with_reducible assumption)))) <;> (try simp) <;> omega)⟩

set_option maxRecDepth 100000 in
set_option maxHeartbeats 1000000 in
theorem plus_any (v o : T2) (w : World) : Calls Tryd.prog 102 #[tV v, tV o] w fun e w' => e = .returned (tV (addW v o)) ∧ Ext w w' := by
  go_enter Tryd.func102, Tryd.ntmps102
  go_wp2
  exact bodyPost_ret (v := tV (addW v o)) (by simp [results, Tryd.results102, go_sem, addW]) rfl ⟨rfl, by ((repeat' (first | with_reducible exact Ext.refl _ | with_reducible assumption | with_reducible exact Ext.one _ | with_reducible refine Ext.alloc ?_ _ | with_reducible refine Ext.setCell ?_ ?_ _ | with_reducible refine Ext.drew ?_ | ((with_reducible apply Ext.after'); (with_reducible assumption)))) <;> (try simp) <;> omega)⟩

set_option maxRecDepth 100000 in
set_option maxHeartbeats 1000000 in
theorem less_any (v o : T2) (w : World) : Calls Tryd.prog 109 #[tV v, tV o] w fun e w' => e = .returned (tV (subW v o)) ∧ Ext w w' := by
  go_enter Tryd.func109, Tryd.ntmps109
  go_wp2
  exact bodyPost_ret (v := tV (subW v o)) (by simp [results, Tryd.results109, go_sem, subW]) rfl ⟨rfl, by ((repeat' (first | with_reducible exact Ext.refl _ | with_reducible assumption | with_reducible exact Ext.one _ | with_reducible refine Ext.alloc ?_ _ | with_reducible refine Ext.setCell ?_ ?_ _ | with_reducible refine Ext.drew ?_ | ((with_reducible apply Ext.after'); (with_reducible assumption)))) <;> (try simp) <;> omega)⟩

set_option maxRecDepth 100000 in
set_option maxHeartbeats 1000000 in
theorem by_any (v : T2) (n : Int) (w : World) : Calls Tryd.prog 110 #[tV v, .int .i64 n] w fun e w' => e = .returned (tV (byW v n)) ∧ Ext w w' := by
  go_enter Tryd.func110, Tryd.ntmps110
  go_wp2
  exact bodyPost_ret (v := tV (byW v n)) (by simp [results, Tryd.results110, go_sem, byW]) rfl ⟨rfl, by ((repeat' (first | with_reducible exact Ext.refl _ | with_reducible assumption | with_reducible exact Ext.one _ | with_reducible refine Ext.alloc ?_ _ | with_reducible refine Ext.setCell ?_ ?_ _ | with_reducible refine Ext.drew ?_ | ((with_reducible apply Ext.after'); (with_reducible assumption)))) <;> (try simp) <;> omega)⟩

set_option maxRecDepth 100000 in
set_option maxHeartbeats 1000000 in
theorem square_any (v : T2) (w : World) : Calls Tryd.prog 119 #[tV v] w fun e w' => e = .returned (.int .i64 (normW v)) ∧ Ext w w' := by
  go_enter Tryd.func119, Tryd.ntmps119
  go_wp2
  go_ret
  exact ⟨rfl, by ((repeat' (first | with_reducible exact Ext.refl _ | with_reducible assumption | with_reducible exact Ext.one _ | with_reducible refine Ext.alloc ?_ _ | with_reducible refine Ext.setCell ?_ ?_ _ | with_reducible refine Ext.drew ?_ | ((with_reducible apply Ext.after'); (with_reducible assumption)))) <;> (try simp) <;> omega)⟩

set_option maxRecDepth 100000 in
set_option maxHeartbeats 1000000 in
theorem split_any (v : T2) (w : World) : Calls Tryd.prog 99 #[tV v] w fun e w' => e = .returned (pV (splitW v)) ∧ Ext w w' := by
  go_enter Tryd.func99, Tryd.ntmps99
  go_wp2
  exact bodyPost_ret (v := pV (splitW v)) (by simp [results, Tryd.results99, go_sem, splitW]) rfl ⟨rfl, by ((repeat' (first | with_reducible exact Ext.refl _ | with_reducible assumption | with_reducible exact Ext.one _ | with_reducible refine Ext.alloc ?_ _ | with_reducible refine Ext.setCell ?_ ?_ _ | with_reducible refine Ext.drew ?_ | ((with_reducible apply Ext.after'); (with_reducible assumption)))) <;> (try simp) <;> omega)⟩

set_option maxRecDepth 100000 in
set_option maxHeartbeats 1000000 in
theorem of_any (x : T3) (w : World) : Calls Tryd.prog 118 #[pV x] w fun e w' => e = .returned (tV (ofW x)) ∧ Ext w w' := by
  go_enter Tryd.func118, Tryd.ntmps118
  go_wp2
  exact bodyPost_ret (v := tV (ofW x)) (by simp [results, Tryd.results118, go_sem, ofW]) rfl ⟨rfl, by ((repeat' (first | with_reducible exact Ext.refl _ | with_reducible assumption | with_reducible exact Ext.one _ | with_reducible refine Ext.alloc ?_ _ | with_reducible refine Ext.setCell ?_ ?_ _ | with_reducible refine Ext.drew ?_ | ((with_reducible apply Ext.after'); (with_reducible assumption)))) <;> (try simp) <;> omega)⟩

set_option maxRecDepth 100000 in
set_option maxHeartbeats 1000000 in
theorem size_any (n : Int) (w : World) : Calls Tryd.prog 108 #[.int .i64 n] w fun e w' => e = .returned (.int .i64 (sizeW n)) ∧ Ext w w' := by
  go_enter Tryd.func108, Tryd.ntmps108
  go_wp2
  all_goals (go_ret; exact ⟨ret_int rfl, by ((repeat' (first | with_reducible exact Ext.refl _ | with_reducible assumption | with_reducible exact Ext.one _ | with_reducible refine Ext.alloc ?_ _ | with_reducible refine Ext.setCell ?_ ?_ _ | with_reducible refine Ext.drew ?_ | ((with_reducible apply Ext.after'); (with_reducible assumption)))) <;> (try simp) <;> omega)⟩)

set_option maxRecDepth 100000 in
set_option maxHeartbeats 1000000 in
theorem bTNorm_any (v : T2) (w : World) : Calls Tryd.prog 24 #[tV v] w fun e w' => e = .returned (.int .i64 (normW v)) ∧ Ext w w' := by
  go_enter Tryd.func24, Tryd.ntmps24
  go_wp2
  go_ret
  exact ⟨rfl, by ((repeat' (first | with_reducible exact Ext.refl _ | with_reducible assumption | with_reducible exact Ext.one _ | with_reducible refine Ext.alloc ?_ _ | with_reducible refine Ext.setCell ?_ ?_ _ | with_reducible refine Ext.drew ?_ | ((with_reducible apply Ext.after'); (with_reducible assumption)))) <;> (try simp) <;> omega)⟩

set_option maxRecDepth 100000 in
set_option maxHeartbeats 1000000 in
theorem bTAdd_any (v o : T2) (w : World) : Calls Tryd.prog 38 #[tV v, tV o] w fun e w' => e = .returned (tV (addW v o)) ∧ Ext w w' := by
  go_enter Tryd.func38, Tryd.ntmps38
  go_wp2
  exact bodyPost_ret (v := tV (addW v o)) (by simp [results, Tryd.results38, go_sem, addW]) rfl ⟨rfl, by ((repeat' (first | with_reducible exact Ext.refl _ | with_reducible assumption | with_reducible exact Ext.one _ | with_reducible refine Ext.alloc ?_ _ | with_reducible refine Ext.setCell ?_ ?_ _ | with_reducible refine Ext.drew ?_ | ((with_reducible apply Ext.after'); (with_reducible assumption)))) <;> (try simp) <;> omega)⟩

set_option maxRecDepth 100000 in
set_option maxHeartbeats 1000000 in
theorem bTSub_any (v o : T2) (w : World) : Calls Tryd.prog 39 #[tV v, tV o] w fun e w' => e = .returned (tV (subW v o)) ∧ Ext w w' := by
  go_enter Tryd.func39, Tryd.ntmps39
  go_wp2
  exact bodyPost_ret (v := tV (subW v o)) (by simp [results, Tryd.results39, go_sem, subW]) rfl ⟨rfl, by ((repeat' (first | with_reducible exact Ext.refl _ | with_reducible assumption | with_reducible exact Ext.one _ | with_reducible refine Ext.alloc ?_ _ | with_reducible refine Ext.setCell ?_ ?_ _ | with_reducible refine Ext.drew ?_ | ((with_reducible apply Ext.after'); (with_reducible assumption)))) <;> (try simp) <;> omega)⟩

set_option maxRecDepth 100000 in
set_option maxHeartbeats 1000000 in
theorem bTMul_any (v o : T2) (w : World) : Calls Tryd.prog 72 #[tV v, tV o] w fun e w' => e = .returned (tV (timesW v o)) ∧ Ext w w' := by
  go_enter Tryd.func72, Tryd.ntmps72
  go_wp2
  exact bodyPost_ret (v := tV (timesW v o)) (by simp [results, Tryd.results72, go_sem, timesW]) rfl ⟨rfl, by ((repeat' (first | with_reducible exact Ext.refl _ | with_reducible assumption | with_reducible exact Ext.one _ | with_reducible refine Ext.alloc ?_ _ | with_reducible refine Ext.setCell ?_ ?_ _ | with_reducible refine Ext.drew ?_ | ((with_reducible apply Ext.after'); (with_reducible assumption)))) <;> (try simp) <;> omega)⟩

set_option maxRecDepth 100000 in
set_option maxHeartbeats 1000000 in
theorem bTConj_any (v : T2) (w : World) : Calls Tryd.prog 73 #[tV v] w fun e w' => e = .returned (tV (conjW v)) ∧ Ext w w' := by
  go_enter Tryd.func73, Tryd.ntmps73
  go_wp2
  exact bodyPost_ret (v := tV (conjW v)) (by simp [results, Tryd.results73, go_sem, conjW]) rfl ⟨rfl, by ((repeat' (first | with_reducible exact Ext.refl _ | with_reducible assumption | with_reducible exact Ext.one _ | with_reducible refine Ext.alloc ?_ _ | with_reducible refine Ext.setCell ?_ ?_ _ | with_reducible refine Ext.drew ?_ | ((with_reducible apply Ext.after'); (with_reducible assumption)))) <;> (try simp) <;> omega)⟩

set_option maxRecDepth 100000 in
set_option maxHeartbeats 1000000 in
theorem bSize_any (n : Int) (w : World) : Calls Tryd.prog 52 #[.int .i64 n] w fun e w' => e = .returned (.int .i64 (sizeW n)) ∧ Ext w w' := by
  go_enter Tryd.func52, Tryd.ntmps52
  go_wp2
  all_goals (go_ret; exact ⟨ret_int rfl, by ((repeat' (first | with_reducible exact Ext.refl _ | with_reducible assumption | with_reducible exact Ext.one _ | with_reducible refine Ext.alloc ?_ _ | with_reducible refine Ext.setCell ?_ ?_ _ | with_reducible refine Ext.drew ?_ | ((with_reducible apply Ext.after'); (with_reducible assumption)))) <;> (try simp) <;> omega)⟩)

set_option maxRecDepth 100000 in
set_option maxHeartbeats 1000000 in
theorem rVectorOf_any (x : T3) (w : World) : Calls Tryd.prog 76 #[pV x] w fun e w' => e = .returned (tV (ofW x)) ∧ Ext w w' := by
  go_enter Tryd.func76, Tryd.ntmps76
  go_wp2
  exact bodyPost_ret (v := tV (ofW x)) (by simp [results, Tryd.results76, go_sem, ofW]) rfl ⟨rfl, by ((repeat' (first | with_reducible exact Ext.refl _ | with_reducible assumption | with_reducible exact Ext.one _ | with_reducible refine Ext.alloc ?_ _ | with_reducible refine Ext.setCell ?_ ?_ _ | with_reducible refine Ext.drew ?_ | ((with_reducible apply Ext.after'); (with_reducible assumption)))) <;> (try simp) <;> omega)⟩

set_option maxRecDepth 100000 in
set_option maxHeartbeats 1000000 in
theorem rPhasesOf_any (v : T2) (w : World) : Calls Tryd.prog 77 #[tV v] w fun e w' => e = .returned (pV (splitW v)) ∧ Ext w w' := by
  go_enter Tryd.func77, Tryd.ntmps77
  go_wp2
  exact bodyPost_ret (v := pV (splitW v)) (by simp [results, Tryd.results77, go_sem, splitW]) rfl ⟨rfl, by ((repeat' (first | with_reducible exact Ext.refl _ | with_reducible assumption | with_reducible exact Ext.one _ | with_reducible refine Ext.alloc ?_ _ | with_reducible refine Ext.setCell ?_ ?_ _ | with_reducible refine Ext.drew ?_ | ((with_reducible apply Ext.after'); (with_reducible assumption)))) <;> (try simp) <;> omega)⟩

set_option maxRecDepth 100000 in
set_option maxHeartbeats 1000000 in
theorem rPowerOf_any (x y : T3) (w : World) : Calls Tryd.prog 70 #[pV x, pV y] w fun e w' => e = .returned (.int .i64 (powerW x y)) ∧ Ext w w' := by
  go_enter Tryd.func70, Tryd.ntmps70
  go_wp2
  go_ret
  exact ⟨rfl, by ((repeat' (first | with_reducible exact Ext.refl _ | with_reducible assumption | with_reducible exact Ext.one _ | with_reducible refine Ext.alloc ?_ _ | with_reducible refine Ext.setCell ?_ ?_ _ | with_reducible refine Ext.drew ?_ | ((with_reducible apply Ext.after'); (with_reducible assumption)))) <;> (try simp) <;> omega)⟩

theorem bWithin_any (n lo hi : Int) (w : World) :
    Calls Tryd.prog 22 #[.int .i64 n, .int .i64 lo, .int .i64 hi] w fun e w' => e = .returned (.bool (withinB n lo hi)) ∧ w = w' := by
  by_cases h1 : lo ≤ n <;> by_cases h2 : n ≤ hi <;>
  · go_enter Tryd.func22, Tryd.ntmps22
    go_wp2
    go_ret
    simp [withinB, h1, h2]

set_option maxRecDepth 100000 in
set_option maxHeartbeats 1000000 in
theorem floor_any (n b : Int) (hb : 1 ≤ b) (w : World) : Calls Tryd.prog 111 #[.int .i64 n, .int .i64 b] w fun e w' => e = .returned (.int .i64 (floorW n b)) ∧ w = w' := by
  have hb0 : (b == 0) = false := by simp; omega
  by_cases h : n.tmod b < 0
  · go_enter Tryd.func111, Tryd.ntmps111
    go_wp2
    go_ret
    exact ⟨ret_int (by unfold floorW; rw [if_pos h]), rfl⟩
  · go_enter Tryd.func111, Tryd.ntmps111
    go_wp2
    go_ret
    exact ⟨ret_int (by unfold floorW; rw [if_neg (by omega)]), rfl⟩

set_option maxRecDepth 100000 in
set_option maxHeartbeats 1000000 in
theorem bFloor_any (n b : Int) (hb : 1 ≤ b) (w : World) : Calls Tryd.prog 112 #[.int .i64 n, .int .i64 b] w fun e w' => e = .returned (.int .i64 (floorW n b)) ∧ w = w' := by
  have hb0 : (b == 0) = false := by simp; omega
  by_cases h : n.tmod b < 0
  · go_enter Tryd.func112, Tryd.ntmps112
    go_wp2
    go_ret
    exact ⟨ret_int (by unfold floorW; rw [if_pos h]), rfl⟩
  · go_enter Tryd.func112, Tryd.ntmps112
    go_wp2
    go_ret
    exact ⟨ret_int (by unfold floorW; rw [if_neg (by omega)]), rfl⟩

set_option maxRecDepth 100000 in
set_option maxHeartbeats 1000000 in
theorem bMod_any (n b : Int) (hb : 1 ≤ b) (w : World) : Calls Tryd.prog 90 #[.int .i64 n, .int .i64 b] w fun e w' => e = .returned (.int .i64 (modW n b)) ∧ w = w' := by
  have hb0 : (b == 0) = false := by simp; omega
  by_cases h : n.tmod b < 0
  · go_enter Tryd.func90, Tryd.ntmps90
    go_wp2
    go_ret
    exact ⟨ret_int (by unfold modW; rw [if_pos h]), rfl⟩
  · go_enter Tryd.func90, Tryd.ntmps90
    go_wp2
    go_ret
    exact ⟨ret_int (by unfold modW; rw [if_neg (by omega)]), rfl⟩

set_option maxRecDepth 100000 in
set_option maxHeartbeats 1000000 in
theorem product_any (c f : T2) (w : World) : Calls Tryd.prog 83 #[tV c, tV f] w fun e w' => e = .returned (tV (productW c f)) ∧ Ext w w' := by
  go_enter Tryd.func83, Tryd.ntmps83
  go_wp2
  refine wp_region_ext 4 [.is (tV c), .is (tV f), .is (tV (conjW f)), .is (tV (productW c f))] (by kernel_rfl) (by kernel_rfl) (by kernel_rfl) (fun V => ?steps) (fun V w1 hx_w1 hf_w1 => ?tail)
  case steps =>
    simp only [List.take, Region.binds, mode_text, mode_gc, if_true, true_and, Bool.false_eq_true, if_false, List.drop, StepsU, StepsG, putsAll, FactsAt, Fs, val, List.getD_cons_zero, List.getD_cons_succ, List.getD_nil, SF.is, SF.rd, SF.any, SF.box, Option.getD_some, Option.getD_none, Act.put, List.setIfInBounds_toArray, List.set_cons_zero, List.set_cons_succ]
    refine ⟨?_, ?_, ?_, ?_, trivial⟩ <;> intro w2 hx hf <;> obtain ⟨hc, hfz⟩ := bcell hx <;> go_simp <;> (try simp only [wrap_eq])
    all_goals first
      | exact Post.mk rfl (Ext.refl _)
      | rfl
      | (refine Post.mk ?_ (Ext.refl _); (simp <;> omega); done)
      | exact Post.mk ⟨_, _, rfl, Nat.le_refl _, Rd.new _ _ _ _ _ rfl⟩ ((Ext.refl _).alloc _)
      | (refine Post.mk ⟨_, rfl, ?_, Bx.new _ _ _⟩ ((Ext.refl _).alloc _); have := hx.size; (try simp at this); (try simp); omega)
      | exact CallTo.of (conj_any _ _) (fun _ _ => rfl)
      | exact CallTo.of (times_any _ _ _) (fun _ _ => rfl)
  case tail =>
  simp only [FactsTo, List.take, Region.binds, mode_text, mode_gc, if_true, true_and, Bool.false_eq_true, if_false, List.drop, StepsU, StepsG, putsAll, FactsAt, Fs, val, List.getD_cons_zero, List.getD_cons_succ, List.getD_nil, SF.is, SF.rd, SF.any, SF.box, Option.getD_some, Option.getD_none, Act.put, List.setIfInBounds_toArray, List.set_cons_zero, List.set_cons_succ] at hf_w1 ⊢
  obtain ⟨hc_w1, hfz_w1⟩ := bcell hx_w1
  go_wp2
  exact bodyPost_ret (v := tV (productW c f)) (by simp [results, Tryd.results83, go_sem, hc_w1]) rfl ⟨rfl, by ((repeat' (first | with_reducible exact Ext.refl _ | with_reducible assumption | with_reducible exact Ext.one _ | with_reducible refine Ext.alloc ?_ _ | with_reducible refine Ext.setCell ?_ ?_ _ | with_reducible refine Ext.drew ?_ | ((with_reducible apply Ext.after'); (with_reducible assumption)))) <;> (try simp) <;> omega)⟩
end Go.Proofs.YtdbglpaejmhbjaaDoor
