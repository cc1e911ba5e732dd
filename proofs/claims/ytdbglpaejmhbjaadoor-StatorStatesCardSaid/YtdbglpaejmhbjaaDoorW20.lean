/- Walks: sectors, as specified and in the program. -/
import Derived.Test.YtdbglpaejmhbjaaDoorW19
namespace Go.Proofs.YtdbglpaejmhbjaaDoor
open Go Go.RowKit Go.Proofs
set_option linter.unusedSimpArgs false
set_option linter.unusedVariables false

theorem rot_small (v : T2) (M : Int) (h : Sm M v) (k : Nat) (hk : k < 6) : Sm (2 * M) (rot k v) := by
  obtain ⟨a, b⟩ := v
  unfold Sm at *
  obtain rfl | rfl | rfl | rfl | rfl | rfl : k = 0 ∨ k = 1 ∨ k = 2 ∨ k = 3 ∨ k = 4 ∨ k = 5 := by omega
  all_goals (simp only [rot, back] at *; omega)
theorem secN_succ (n : Nat) (x : T2) : secN (n + 1) x = if inB x then 0 else secN n (back x) + 1 := rfl

set_option maxRecDepth 100000 in
set_option maxHeartbeats 1000000 in
theorem rSectorOf_any (v : T2) (w : World) (hv : Sm 1000000 v) (h0 : v ≠ (0, 0)) : Calls Tryd.prog 79 #[tV v] w fun e w' => e = .returned (.int .i64 (secN 6 v)) ∧ Ext w w' := by
  have HT := Lib.hid (show ∀ (k : Nat), k < 6 → ∀ w1, Calls Tryd.prog 23 #[tV v, .int .i64 (-(k : Int))] w1 fun e w' => e = .returned (tV (rot k v)) ∧ Ext w1 w' from fun k hk w1 => by
    have h := rTurned_any v (-(k : Int)) w1
    rwa [turn_back v 1000000 hv (by omega) k hk] at h)
  have HS := Lib.hid (secN_in v h0)
  clear h0
  go_enter Tryd.func79, Tryd.ntmps79
  go_wp2
  go_loopw [3] (fun i wr => ∃ k : Nat, k ≤ 6 ∧ i = .int .i64 k ∧ Hid (secN 6 v = k + secN (6 - k) (rot k v)) ∧ Bx wr w.heap.size 24 #[.int .i64 v.1, .int .i64 v.2] ∧ Ext w wr) (fun i _ => 6 - (intOf i).toNat)
  case atStart => exact ⟨0, by omega, rfl, by show _ = _; simp [rot], Bx.new w _ _, by ((repeat' (first | with_reducible exact Ext.refl _ | with_reducible assumption | with_reducible exact Ext.one _ | with_reducible refine Ext.alloc ?_ _ | with_reducible refine Ext.setCell ?_ ?_ _ | with_reducible refine Ext.drew ?_ | ((with_reducible apply Ext.after'); (with_reducible assumption)))) <;> (try simp) <;> omega)⟩
  case round =>
    obtain ⟨k, hk, rfl, hd, hA, hx⟩ := hrel
    obtain ⟨a0, a1, a2, a3, a4⟩ := hA.at2
    by_cases hlt : k < 6
    · have hs : Hid (secN (6 - k) (rot k v) = if inB (rot k v) then 0 else secN (6 - (k + 1)) (rot (k + 1) v) + 1) := by
        show _ = _
        rw [rot_succ, show 6 - k = 6 - (k + 1) + 1 by omega]; rfl
      generalize hr : rot k v = r at *
      have HR := Lib.hid hr
      clear hr
      by_cases h1 : 0 ≤ r.2
      · by_cases h2 : r.2 < r.1
        · go_wp2_with (first | (go_at_call 23; refine (HT.out k hlt _).mono ?_; rintro e w3 ⟨rfl, hx3⟩; rw [HR.out]))
          go_ret
          have hi : inB r = true := inB_mk _ h1 h2
          exact ⟨ret_int (by rw [hd.out, hs.out, if_pos hi]; simp), by ((repeat' (first | with_reducible exact Ext.refl _ | with_reducible assumption | with_reducible exact Ext.one _ | with_reducible refine Ext.alloc ?_ _ | with_reducible refine Ext.setCell ?_ ?_ _ | with_reducible refine Ext.drew ?_ | ((with_reducible apply Ext.after'); (with_reducible assumption)))) <;> (try simp) <;> omega)⟩
        · have hi : ¬ inB r = true := by unfold inB; simp only [Bool.and_eq_true, decide_eq_true_eq]; omega
          go_wp2_with (first | (go_at_call 23; refine (HT.out k hlt _).mono ?_; rintro e w3 ⟨rfl, hx3⟩; rw [HR.out]; have hA3 : Bx w3 w.heap.size 24 #[.int .i64 v.1, .int .i64 v.2] := (by (repeat' (first | with_reducible assumption | ((with_reducible refine Bx.other ?_ (by simp <;> omega) _)) | (with_reducible refine Bx.alloc ?_ _) | (with_reducible refine Bx.drew ?_) | ((with_reducible apply Bx.ext'); (with_reducible assumption)))))))
          go_roundw
          case rel => exact ⟨k + 1, by omega, by go_num, by show _ = _; rw [hd.out, hs.out, if_neg hi]; omega, hA3.alloc _, by ((repeat' (first | with_reducible exact Ext.refl _ | with_reducible assumption | with_reducible exact Ext.one _ | with_reducible refine Ext.alloc ?_ _ | with_reducible refine Ext.setCell ?_ ?_ _ | with_reducible refine Ext.drew ?_ | ((with_reducible apply Ext.after'); (with_reducible assumption)))) <;> (try simp) <;> omega)⟩
          case measure => simp [intOf]; omega
      · have hi : ¬ inB r = true := by unfold inB; simp only [Bool.and_eq_true, decide_eq_true_eq]; omega
        go_wp2_with (first | (go_at_call 23; refine (HT.out k hlt _).mono ?_; rintro e w3 ⟨rfl, hx3⟩; rw [HR.out]; have hA3 : Bx w3 w.heap.size 24 #[.int .i64 v.1, .int .i64 v.2] := (by (repeat' (first | with_reducible assumption | ((with_reducible refine Bx.other ?_ (by simp <;> omega) _)) | (with_reducible refine Bx.alloc ?_ _) | (with_reducible refine Bx.drew ?_) | ((with_reducible apply Bx.ext'); (with_reducible assumption)))))))
        go_roundw
        case rel => exact ⟨k + 1, by omega, by go_num, by show _ = _; rw [hd.out, hs.out, if_neg hi]; omega, hA3.alloc _, by ((repeat' (first | with_reducible exact Ext.refl _ | with_reducible assumption | with_reducible exact Ext.one _ | with_reducible refine Ext.alloc ?_ _ | with_reducible refine Ext.setCell ?_ ?_ _ | with_reducible refine Ext.drew ?_ | ((with_reducible apply Ext.after'); (with_reducible assumption)))) <;> (try simp) <;> omega)⟩
        case measure => simp [intOf]; omega
    · exfalso
      obtain rfl : k = 6 := by omega
      have h1 := hd.out
      have h2 := HS.out.1
      rw [show secN (6 - 6) (rot 6 v) = 0 from rfl] at h1
      omega
end Go.Proofs.YtdbglpaejmhbjaaDoor
