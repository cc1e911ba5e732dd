/- Walks: the errors of trains, feeds, moves, wants; opening. -/
import Derived.Test.YtdbglpaejmhbjaaDoorW5
namespace Go.Proofs.YtdbglpaejmhbjaaDoor
open Go Go.RowKit Go.Proofs
set_option linter.unusedSimpArgs false
set_option linter.unusedVariables false

def trainE (ls : List Int) (p q : Int) : Int := if withinB q 1 1000000 && decide (0 ≤ p) then (if wrap64 (sumW 0 ls - q) < p then 23 else 0) else 2
theorem trainE_in {ls : List Int} {p q : Int} (h1 : withinB q 1 1000000 = true) (h2 : ¬ p < 0) : trainE ls p q = if wrap64 (sumW 0 ls - q) < p then 23 else 0 := by
  have h : decide (0 ≤ p) = true := decide_eq_true (by omega)
  unfold trainE
  rw [h1, h]; rfl
set_option maxRecDepth 100000 in
set_option maxHeartbeats 1000000 in
theorem rTrainErr_any (ls : List Int) (a : Option Addr) (n c : Nat) (p q : Int) (w : World) (hl : ls.length = n) (hn : n ≤ 1000) (hr : Rd w 1 a n (ints ls)) :
    Calls Tryd.prog 31 #[.agg #[.slice a n c], .agg #[.int .i64 p, .int .i64 q]] w fun e w' => e = .returned (.int .i64 (trainE ls p q)) ∧ Ext w w' := by
  have HA := Lib.hid (fun w1 (h : Ext w w1) => rAll_any ls a n c w1 hl hn (hr.ext h))
  clear hl
  by_cases h1 : withinB q 1 1000000 = true
  · by_cases h2 : p < 0
    · go_enter Tryd.func31, Tryd.ntmps31
      go_wp2_with (first | (go_at_call 22; refine (bWithin_any _ _ _ _).mono ?_; rintro e wz ⟨rfl, rfl⟩))
      go_ret
      exact ⟨ret_int (by simp [trainE, h1]; omega), by ((repeat' (first | with_reducible exact Ext.refl _ | with_reducible assumption | with_reducible exact Ext.one _ | with_reducible refine Ext.alloc ?_ _ | with_reducible refine Ext.setCell ?_ ?_ _ | with_reducible refine Ext.drew ?_ | ((with_reducible apply Ext.after'); (with_reducible assumption)))) <;> (try simp) <;> omega)⟩
    · generalize hS : sumW 0 ls = S at *
      have HS := Lib.hid hS
      clear hS
      by_cases h3 : wrap64 (S - q) < p
      all_goals
        go_enter Tryd.func31, Tryd.ntmps31
        go_wp2_with (first | (go_at_call 22; refine (bWithin_any _ _ _ _).mono ?_; rintro e wz ⟨rfl, rfl⟩))
        refine wp_region_ext 8 [.is (.pointer (some ⟨w.heap.size + 1, 0, none⟩)), .is (.int .i64 p), .is (.agg #[.slice a n c]), .is (.int .i64 S), .is (.pointer (some ⟨w.heap.size + 1, 1, none⟩)), .is (.int .i64 q), .is (.int .i64 (wrap64 (S - q))), .is (.bool (decide (wrap64 (S - q) < p)))] (by kernel_rfl) (by kernel_rfl) (by kernel_rfl) (fun V => ?steps) (fun V w1 hx_w1 hf_w1 => ?tail)
        case steps =>
          simp only [List.take, Region.binds, mode_text, mode_gc, if_true, true_and, Bool.false_eq_true, if_false, List.drop, StepsU, StepsG, putsAll, FactsAt, Fs, val, List.getD_cons_zero, List.getD_cons_succ, List.getD_nil, SF.is, SF.rd, SF.any, SF.box, Option.getD_some, Option.getD_none, Act.put, List.setIfInBounds_toArray, List.set_cons_zero, List.set_cons_succ]
          refine ⟨?_, ?_, ?_, ?_, ?_, ?_, ?_, ?_, trivial⟩ <;> intro w2 hx hf <;> obtain ⟨hc, hfz⟩ := bcell hx <;> go_simp <;> (try simp only [wrap_eq])
          all_goals first
            | exact Post.mk rfl (Ext.refl _)
            | rfl
            | (refine Post.mk ?_ (Ext.refl _); (simp <;> omega); done)
            | exact Post.mk ⟨_, _, rfl, Nat.le_refl _, Rd.new _ _ _ _ _ rfl⟩ ((Ext.refl _).alloc _)
            | (refine Post.mk ⟨_, rfl, ?_, Bx.new _ _ _⟩ ((Ext.refl _).alloc _); have := hx.size; (try simp at this); (try simp); omega)
            | ((with_reducible refine CallTo.of (HA.out _ (by ((repeat' (first | with_reducible exact Ext.refl _ | with_reducible assumption | with_reducible exact Ext.one _ | with_reducible refine Ext.alloc ?_ _ | with_reducible refine Ext.setCell ?_ ?_ _ | with_reducible refine Ext.drew ?_ | ((with_reducible apply Ext.after'); (with_reducible assumption)))) <;> (try simp) <;> omega))) ?_); exact fun _ _ => rfl)
        case tail =>
        simp only [FactsTo, List.take, Region.binds, mode_text, mode_gc, if_true, true_and, Bool.false_eq_true, if_false, List.drop, StepsU, StepsG, putsAll, FactsAt, Fs, val, List.getD_cons_zero, List.getD_cons_succ, List.getD_nil, SF.is, SF.rd, SF.any, SF.box, Option.getD_some, Option.getD_none, Act.put, List.setIfInBounds_toArray, List.set_cons_zero, List.set_cons_succ] at hf_w1 ⊢
        obtain ⟨hc_w1, hfz_w1⟩ := bcell hx_w1
        clear hf_w1
        go_wp2
        go_ret
        exact ⟨ret_int (by rw [trainE_in h1 (by omega), HS.out]; first | rw [if_pos h3] | rw [if_neg (by omega)]), by ((repeat' (first | with_reducible exact Ext.refl _ | with_reducible assumption | with_reducible exact Ext.one _ | with_reducible refine Ext.alloc ?_ _ | with_reducible refine Ext.setCell ?_ ?_ _ | with_reducible refine Ext.drew ?_ | ((with_reducible apply Ext.after'); (with_reducible assumption)))) <;> (try simp) <;> omega)⟩
  · replace h1 := Bool.eq_false_iff.2 h1
    go_enter Tryd.func31, Tryd.ntmps31
    go_wp2_with (first | (go_at_call 22; refine (bWithin_any _ _ _ _).mono ?_; rintro e wz ⟨rfl, rfl⟩))
    go_ret
    exact ⟨ret_int (by simp [trainE, h1]), by ((repeat' (first | with_reducible exact Ext.refl _ | with_reducible assumption | with_reducible exact Ext.one _ | with_reducible refine Ext.alloc ?_ _ | with_reducible refine Ext.setCell ?_ ?_ _ | with_reducible refine Ext.drew ?_ | ((with_reducible apply Ext.after'); (with_reducible assumption)))) <;> (try simp) <;> omega)⟩
set_option maxRecDepth 100000 in
set_option maxHeartbeats 1000000 in
theorem rTrackErr_any (ls : List Int) (a : Option Addr) (n c : Nat) (w : World) (hl : ls.length = n) (hn : n ≤ 1000) (hr : Rd w 1 a n (ints ls)) :
    Calls Tryd.prog 43 #[.agg #[.slice a n c]] w fun e w' => e = .returned (.int .i64 (trackC n ls).2) ∧ Ext w w' := by
  have HA := Lib.hid (fun w1 (h : Ext w w1) => rCheckTrack_any ls a n c w1 hl hn (hr.ext h))
  clear hl
  go_enter Tryd.func43, Tryd.ntmps43
  go_wp2_with (first | (go_at_call 30; refine (HA.out _ (by ((repeat' (first | with_reducible exact Ext.refl _ | with_reducible assumption | with_reducible exact Ext.one _ | with_reducible refine Ext.alloc ?_ _ | with_reducible refine Ext.setCell ?_ ?_ _ | with_reducible refine Ext.drew ?_ | ((with_reducible apply Ext.after'); (with_reducible assumption)))) <;> (try simp) <;> omega))).mono ?_; rintro e w3 ⟨rfl, hx3⟩))
  go_ret
  exact ⟨rfl, by ((repeat' (first | with_reducible exact Ext.refl _ | with_reducible assumption | with_reducible exact Ext.one _ | with_reducible refine Ext.alloc ?_ _ | with_reducible refine Ext.setCell ?_ ?_ _ | with_reducible refine Ext.drew ?_ | ((with_reducible apply Ext.after'); (with_reducible assumption)))) <;> (try simp) <;> omega)⟩
set_option maxRecDepth 100000 in
set_option maxHeartbeats 1000000 in
theorem rFeedErr_any (m n : Nat) (a a2 : Option Addr) (c c2 : Nat) (cs : List T2) (f : T2) (mv : Int) (w : World) (hl : cs.length = m) (hn : m ≤ 1000) (hr : Rd w 2 a2 m (cells2 cs)) :
    Calls Tryd.prog 44 #[.agg #[.slice a n c], .agg #[.slice a2 m c2, .int .i64 f.1, .int .i64 f.2, .int .i64 mv]] w fun e w' =>
      e = .returned (.int .i64 (if m ≠ n then 10 else if unlessE (cs.all rightB) 2 ≠ 0 then unlessE (cs.all rightB) 2 else unlessE (rightB f) 2)) ∧ Ext w w' := by
  have HA := Lib.hid (fun w1 (h : Ext w w1) => rVectorsErr_any cs a2 m c2 w1 hl hn (hr.ext h))
  clear hl
  by_cases h1 : m = n
  · have h1' : ((m : Int) != (n : Int)) = false := by simp [h1]
    have H1 := Lib.hid h1
    clear h1
    cases hc : cs.all rightB with
    | true =>
      have HC := Lib.hid hc
      clear hc
      go_enter Tryd.func44, Tryd.ntmps44
      go_wp2_with (first | (go_at_call 86; refine (HA.out _ (by ((repeat' (first | with_reducible exact Ext.refl _ | with_reducible assumption | with_reducible exact Ext.one _ | with_reducible refine Ext.alloc ?_ _ | with_reducible refine Ext.setCell ?_ ?_ _ | with_reducible refine Ext.drew ?_ | ((with_reducible apply Ext.after'); (with_reducible assumption)))) <;> (try simp) <;> omega))).mono ?_; rintro e w3 ⟨rfl, hx3⟩; obtain ⟨hc3, hf3⟩ := bcell hx3; rw [HC.out]; simp only [unlessE, if_true]) | (first | (go_at_call 19; refine (rVectorErr_any _ _).mono ?_; rintro e wz ⟨rfl, hxz⟩; obtain ⟨hcz, hfz⟩ := bcell hxz)))
      go_ret
      exact ⟨ret_int (by simp [H1.out, unlessE]), by ((repeat' (first | with_reducible exact Ext.refl _ | with_reducible assumption | with_reducible exact Ext.one _ | with_reducible refine Ext.alloc ?_ _ | with_reducible refine Ext.setCell ?_ ?_ _ | with_reducible refine Ext.drew ?_ | ((with_reducible apply Ext.after'); (with_reducible assumption)))) <;> (try simp) <;> omega)⟩
    | false =>
      have HC := Lib.hid hc
      clear hc
      go_enter Tryd.func44, Tryd.ntmps44
      go_wp2_with (first | (go_at_call 86; refine (HA.out _ (by ((repeat' (first | with_reducible exact Ext.refl _ | with_reducible assumption | with_reducible exact Ext.one _ | with_reducible refine Ext.alloc ?_ _ | with_reducible refine Ext.setCell ?_ ?_ _ | with_reducible refine Ext.drew ?_ | ((with_reducible apply Ext.after'); (with_reducible assumption)))) <;> (try simp) <;> omega))).mono ?_; rintro e w3 ⟨rfl, hx3⟩; obtain ⟨hc3, hf3⟩ := bcell hx3; rw [HC.out]; simp only [unlessE, if_false, Bool.false_eq_true]) | (first | (go_at_call 19; refine (rVectorErr_any _ _).mono ?_; rintro e wz ⟨rfl, hxz⟩; obtain ⟨hcz, hfz⟩ := bcell hxz)))
      go_ret
      exact ⟨ret_int (by simp [H1.out, unlessE]), by ((repeat' (first | with_reducible exact Ext.refl _ | with_reducible assumption | with_reducible exact Ext.one _ | with_reducible refine Ext.alloc ?_ _ | with_reducible refine Ext.setCell ?_ ?_ _ | with_reducible refine Ext.drew ?_ | ((with_reducible apply Ext.after'); (with_reducible assumption)))) <;> (try simp) <;> omega)⟩
  · have h1' : ((m : Int) != (n : Int)) = true := by simp; omega
    go_enter Tryd.func44, Tryd.ntmps44
    go_wp2
    go_ret
    exact ⟨ret_int (by simp [h1]), by ((repeat' (first | with_reducible exact Ext.refl _ | with_reducible assumption | with_reducible exact Ext.one _ | with_reducible refine Ext.alloc ?_ _ | with_reducible refine Ext.setCell ?_ ?_ _ | with_reducible refine Ext.drew ?_ | ((with_reducible apply Ext.after'); (with_reducible assumption)))) <;> (try simp) <;> omega)⟩
def moveE (ls : List Int) (p q mv : Int) : Int := if withinB mv 1 2000 then (if sumW 0 ls < wrap64 (wrap64 (p + q) + mv) then 23 else 0) else 2
set_option maxRecDepth 100000 in
set_option maxHeartbeats 1000000 in
theorem rMoveErr_any (ls : List Int) (a a2 : Option Addr) (n c m c2 : Nat) (p q f1 f2 mv : Int) (w : World) (hl : ls.length = n) (hn : n ≤ 1000) (hr : Rd w 1 a n (ints ls)) :
    Calls Tryd.prog 46 #[.agg #[.slice a n c], .agg #[.int .i64 p, .int .i64 q], .agg #[.slice a2 m c2, .int .i64 f1, .int .i64 f2, .int .i64 mv]] w fun e w' => e = .returned (.int .i64 (moveE ls p q mv)) ∧ Ext w w' := by
  have HA := Lib.hid (fun w1 (h : Ext w w1) => rAll_any ls a n c w1 hl hn (hr.ext h))
  clear hl
  by_cases h1 : withinB mv 1 2000 = true
  · generalize hS : sumW 0 ls = S at *
    have HS := Lib.hid hS
    clear hS
    by_cases h3 : S < wrap64 (wrap64 (p + q) + mv)
    all_goals
      go_enter Tryd.func46, Tryd.ntmps46
      go_wp2_with (first | (go_at_call 22; refine (bWithin_any _ _ _ _).mono ?_; rintro e wz ⟨rfl, rfl⟩))
      refine wp_region_ext 11 [.is (.pointer (some ⟨w.heap.size + 1, 0, none⟩)), .is (.int .i64 p), .is (.pointer (some ⟨w.heap.size + 1, 1, none⟩)), .is (.int .i64 q), .is (.int .i64 (wrap64 (p + q))), .is (.pointer (some ⟨w.heap.size + 1 + 1, 3, none⟩)), .is (.int .i64 mv), .is (.int .i64 (wrap64 (wrap64 (p + q) + mv))), .is (.agg #[.slice a n c]), .is (.int .i64 S), .is (.bool (decide (S < wrap64 (wrap64 (p + q) + mv))))] (by kernel_rfl) (by kernel_rfl) (by kernel_rfl) (fun V => ?steps) (fun V w1 hx_w1 hf_w1 => ?tail)
      case steps =>
        simp only [List.take, Region.binds, mode_text, mode_gc, if_true, true_and, Bool.false_eq_true, if_false, List.drop, StepsU, StepsG, putsAll, FactsAt, Fs, val, List.getD_cons_zero, List.getD_cons_succ, List.getD_nil, SF.is, SF.rd, SF.any, SF.box, Option.getD_some, Option.getD_none, Act.put, List.setIfInBounds_toArray, List.set_cons_zero, List.set_cons_succ]
        refine ⟨?_, ?_, ?_, ?_, ?_, ?_, ?_, ?_, ?_, ?_, ?_, trivial⟩ <;> intro w2 hx hf <;> obtain ⟨hc, hfz⟩ := bcell hx <;> go_simp <;> (try simp only [wrap_eq])
        all_goals first
          | exact Post.mk rfl (Ext.refl _)
          | rfl
          | (refine Post.mk ?_ (Ext.refl _); (simp <;> omega); done)
          | exact Post.mk ⟨_, _, rfl, Nat.le_refl _, Rd.new _ _ _ _ _ rfl⟩ ((Ext.refl _).alloc _)
          | (refine Post.mk ⟨_, rfl, ?_, Bx.new _ _ _⟩ ((Ext.refl _).alloc _); have := hx.size; (try simp at this); (try simp); omega)
          | ((with_reducible refine CallTo.of (HA.out _ (by ((repeat' (first | with_reducible exact Ext.refl _ | with_reducible assumption | with_reducible exact Ext.one _ | with_reducible refine Ext.alloc ?_ _ | with_reducible refine Ext.setCell ?_ ?_ _ | with_reducible refine Ext.drew ?_ | ((with_reducible apply Ext.after'); (with_reducible assumption)))) <;> (try simp) <;> omega))) ?_); exact fun _ _ => rfl)
      case tail =>
      simp only [FactsTo, List.take, Region.binds, mode_text, mode_gc, if_true, true_and, Bool.false_eq_true, if_false, List.drop, StepsU, StepsG, putsAll, FactsAt, Fs, val, List.getD_cons_zero, List.getD_cons_succ, List.getD_nil, SF.is, SF.rd, SF.any, SF.box, Option.getD_some, Option.getD_none, Act.put, List.setIfInBounds_toArray, List.set_cons_zero, List.set_cons_succ] at hf_w1 ⊢
      obtain ⟨hc_w1, hfz_w1⟩ := bcell hx_w1
      clear hf_w1
      go_wp2
      go_ret
      exact ⟨ret_int (by unfold moveE; rw [if_pos h1, HS.out]; first | rw [if_pos h3] | rw [if_neg (by omega)]), by ((repeat' (first | with_reducible exact Ext.refl _ | with_reducible assumption | with_reducible exact Ext.one _ | with_reducible refine Ext.alloc ?_ _ | with_reducible refine Ext.setCell ?_ ?_ _ | with_reducible refine Ext.drew ?_ | ((with_reducible apply Ext.after'); (with_reducible assumption)))) <;> (try simp) <;> omega)⟩
  · replace h1 := Bool.eq_false_iff.2 h1
    go_enter Tryd.func46, Tryd.ntmps46
    go_wp2_with (first | (go_at_call 22; refine (bWithin_any _ _ _ _).mono ?_; rintro e wz ⟨rfl, rfl⟩))
    go_ret
    exact ⟨ret_int (by simp [moveE, h1]), by ((repeat' (first | with_reducible exact Ext.refl _ | with_reducible assumption | with_reducible exact Ext.one _ | with_reducible refine Ext.alloc ?_ _ | with_reducible refine Ext.setCell ?_ ?_ _ | with_reducible refine Ext.drew ?_ | ((with_reducible apply Ext.after'); (with_reducible assumption)))) <;> (try simp) <;> omega)⟩
def currentsE (n : Nat) (cs : List T2) : Int := if n = 0 then 10 else if 12 < n then 8 else unlessE (cs.all rightB) 2
set_option maxRecDepth 100000 in
set_option maxHeartbeats 1000000 in
theorem rCurrentsErr_any (cs : List T2) (a : Option Addr) (n c : Nat) (w : World) (hl : cs.length = n) (hn : n ≤ 1000) (hr : Rd w 2 a n (cells2 cs)) :
    Calls Tryd.prog 18 #[.slice a n c] w fun e w' => e = .returned (.int .i64 (currentsE n cs)) ∧ Ext w w' := by
  have HA := Lib.hid (rVectorsErr_any cs a n c w hl hn hr)
  clear hl
  by_cases h0 : n = 0
  · have h0' : ((n : Int) == 0) = true := by simp [h0]
    have H0 := Lib.hid h0
    clear h0
    go_enter Tryd.func18, Tryd.ntmps18
    go_wp2
    go_ret
    exact ⟨ret_int (by simp [currentsE, H0.out]), by ((repeat' (first | with_reducible exact Ext.refl _ | with_reducible assumption | with_reducible exact Ext.one _ | with_reducible refine Ext.alloc ?_ _ | with_reducible refine Ext.setCell ?_ ?_ _ | with_reducible refine Ext.drew ?_ | ((with_reducible apply Ext.after'); (with_reducible assumption)))) <;> (try simp) <;> omega)⟩
  have h0' : ((n : Int) == 0) = false := by simp [h0]
  by_cases h12 : 12 < n
  · go_enter Tryd.func18, Tryd.ntmps18
    go_wp2
    go_ret
    exact ⟨ret_int (by simp [currentsE, h0, h12]), by ((repeat' (first | with_reducible exact Ext.refl _ | with_reducible assumption | with_reducible exact Ext.one _ | with_reducible refine Ext.alloc ?_ _ | with_reducible refine Ext.setCell ?_ ?_ _ | with_reducible refine Ext.drew ?_ | ((with_reducible apply Ext.after'); (with_reducible assumption)))) <;> (try simp) <;> omega)⟩
  · go_enter Tryd.func18, Tryd.ntmps18
    go_wp2_with (first | (go_at_call 86; refine HA.out.mono ?_; rintro e w3 ⟨rfl, hx3⟩))
    go_ret
    exact ⟨ret_int (by simp [currentsE, h0, h12]), by ((repeat' (first | with_reducible exact Ext.refl _ | with_reducible assumption | with_reducible exact Ext.one _ | with_reducible refine Ext.alloc ?_ _ | with_reducible refine Ext.setCell ?_ ?_ _ | with_reducible refine Ext.drew ?_ | ((with_reducible apply Ext.after'); (with_reducible assumption)))) <;> (try simp) <;> omega)⟩
def wantsE (s : Int) (n : Nat) (cs : List T2) : Int := if withinB s 1 100000 then (if 60 < n then 8 else unlessE (cs.all rightB) 2) else 2
set_option maxRecDepth 100000 in
set_option maxHeartbeats 1000000 in
theorem rWantsErr_any (s : Int) (cs : List T2) (a : Option Addr) (n c : Nat) (w : World) (hl : cs.length = n) (hn : n ≤ 1000) (hr : Rd w 2 a n (cells2 cs)) :
    Calls Tryd.prog 34 #[.int .i64 s, .slice a n c] w fun e w' => e = .returned (.int .i64 (wantsE s n cs)) ∧ Ext w w' := by
  have HA := Lib.hid (rVectorsErr_any cs a n c w hl hn hr)
  have HS := Lib.hid (rScaleErr_any s w)
  clear hl
  cases h1 : withinB s 1 100000 with
  | false =>
    have H1 := Lib.hid h1
    clear h1
    go_enter Tryd.func34, Tryd.ntmps34
    go_wp2_with (first | (go_at_call 60; refine HS.out.mono ?_; rintro e w3 ⟨rfl, rfl⟩; rw [H1.out]; simp only [unlessE, if_false, Bool.false_eq_true]))
    go_ret
    exact ⟨ret_int (by simp [wantsE, H1.out]), by ((repeat' (first | with_reducible exact Ext.refl _ | with_reducible assumption | with_reducible exact Ext.one _ | with_reducible refine Ext.alloc ?_ _ | with_reducible refine Ext.setCell ?_ ?_ _ | with_reducible refine Ext.drew ?_ | ((with_reducible apply Ext.after'); (with_reducible assumption)))) <;> (try simp) <;> omega)⟩
  | true =>
    have H1 := Lib.hid h1
    clear h1
    by_cases h60 : 60 < n
    · go_enter Tryd.func34, Tryd.ntmps34
      go_wp2_with (first | (go_at_call 60; refine HS.out.mono ?_; rintro e w3 ⟨rfl, rfl⟩; rw [H1.out]; simp only [unlessE, if_true]))
      go_ret
      exact ⟨ret_int (by simp [wantsE, H1.out, h60]), by ((repeat' (first | with_reducible exact Ext.refl _ | with_reducible assumption | with_reducible exact Ext.one _ | with_reducible refine Ext.alloc ?_ _ | with_reducible refine Ext.setCell ?_ ?_ _ | with_reducible refine Ext.drew ?_ | ((with_reducible apply Ext.after'); (with_reducible assumption)))) <;> (try simp) <;> omega)⟩
    · go_enter Tryd.func34, Tryd.ntmps34
      go_wp2_with (first | (go_at_call 60; refine HS.out.mono ?_; rintro e w3 ⟨rfl, rfl⟩; rw [H1.out]; simp only [unlessE, if_true]) | (go_at_call 86; refine HA.out.mono ?_; rintro e w3 ⟨rfl, hx3⟩))
      go_ret
      exact ⟨ret_int (by simp [wantsE, H1.out, h60]), by ((repeat' (first | with_reducible exact Ext.refl _ | with_reducible assumption | with_reducible exact Ext.one _ | with_reducible refine Ext.alloc ?_ _ | with_reducible refine Ext.setCell ?_ ?_ _ | with_reducible refine Ext.drew ?_ | ((with_reducible apply Ext.after'); (with_reducible assumption)))) <;> (try simp) <;> omega)⟩
set_option maxRecDepth 100000 in
set_option maxHeartbeats 1000000 in
theorem sections_any (a : Option Addr) (n c : Nat) (w : World) : Calls Tryd.prog 26 #[.agg #[.slice a n c]] w fun e w' => e = .returned (.bool (decide (n ≤ 14))) ∧ Ext w w' := by
  go_enter Tryd.func26, Tryd.ntmps26
  go_wp2
  go_ret
  exact ⟨ret_bool (by simp <;> omega), by ((repeat' (first | with_reducible exact Ext.refl _ | with_reducible assumption | with_reducible exact Ext.one _ | with_reducible refine Ext.alloc ?_ _ | with_reducible refine Ext.setCell ?_ ?_ _ | with_reducible refine Ext.drew ?_ | ((with_reducible apply Ext.after'); (with_reducible assumption)))) <;> (try simp) <;> omega)⟩
set_option maxRecDepth 100000 in
set_option maxHeartbeats 1000000 in
theorem scaled_any (s : Int) (cs : List T2) (a : Option Addr) (n c : Nat) (w : World) (hl : cs.length = n) (hn : n ≤ 1000) (hr : Rd w 2 a n (cells2 cs)) :
    Calls Tryd.prog 98 #[.int .i64 s, .slice a n c] w fun e w' => e = .returned (.int .i64 (firstE [unlessE (withinB s 1 100000) 2, unlessE (cs.all rightB) 2])) ∧ Ext w w' := by
  have HA := Lib.hid (right_any cs a n c w hl hn hr)
  clear hl
  go_enter Tryd.func98, Tryd.ntmps98
  go_wp2_with (first | (go_at_call 82; refine HA.out.mono ?_; rintro e w3 ⟨rfl, hx3⟩) | (go_at_call 80; refine (first_any [unlessE (withinB s 1 100000) 2, unlessE (cs.all rightB) 2] (some ⟨w3.heap.size, 0, none⟩) 2 2 _ rfl (by omega) (Rd.new w3 1 2 _ _ rfl)).mono ?_; rintro e w4 ⟨rfl, rfl⟩) | (first | (go_at_call 104; refine (within_any _ _ _ _).mono ?_; rintro e wz ⟨rfl, rfl⟩) | (go_at_call 81; refine (unless_any _ _ _).mono ?_; rintro e wz ⟨rfl, rfl⟩)))
  go_ret
  exact ⟨rfl, by ((repeat' (first | with_reducible exact Ext.refl _ | with_reducible assumption | with_reducible exact Ext.one _ | with_reducible refine Ext.alloc ?_ _ | with_reducible refine Ext.setCell ?_ ?_ _ | with_reducible refine Ext.drew ?_ | ((with_reducible apply Ext.after'); (with_reducible assumption)))) <;> (try simp) <;> omega)⟩
end Go.Proofs.YtdbglpaejmhbjaaDoor
