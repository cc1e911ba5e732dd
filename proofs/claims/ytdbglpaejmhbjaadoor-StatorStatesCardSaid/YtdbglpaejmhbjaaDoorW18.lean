/- Walks: a vector turned, as specified; sectors. -/
import Derived.Test.YtdbglpaejmhbjaaDoorW11
namespace Go.Proofs.YtdbglpaejmhbjaaDoor
open Go Go.RowKit Go.Proofs
set_option linter.unusedSimpArgs false
set_option linter.unusedVariables false

theorem modW_six (s : Int) : modW s 6 = (sixN s : Int) := by
  have h1 : s.tmod 6 = if 0 ≤ s ∨ s % 6 = 0 then s % 6 else s % 6 - 6 := by
    rw [Int.tmod_eq_emod]; simp only [show (6 : Int) ∣ s ↔ s % 6 = 0 from Int.dvd_iff_emod_eq_zero]; split <;> simp
  unfold modW sixN
  have h2 : wrap64 (s.tmod 6 + 6) = s.tmod 6 + 6 := by unfold wrap64; split at h1 <;> omega
  rw [h2]
  split at h1 <;> split <;> omega

set_option maxRecDepth 100000 in
set_option maxHeartbeats 1000000 in
theorem rTurned_any (v : T2) (s : Int) (w : World) : Calls Tryd.prog 23 #[tV v, .int .i64 s] w fun e w' => e = .returned (tV (turnW (sixN s) v)) ∧ Ext w w' := by
  have hK := Lib.hid (modW_six s)
  have hK5 := sixN_lt s
  generalize sixN s = K at hK hK5 ⊢
  go_enter Tryd.func23, Tryd.ntmps23
  go_wp2
  go_loopw [5] (fun i wr => ∃ k : Nat, k ≤ K ∧ i = .int .i64 k ∧ Bx wr w.heap.size 24 #[.int .i64 (turnW k v).1, .int .i64 (turnW k v).2] ∧ Bx wr (w.heap.size + 1) 24 #[.int .i64 0, .int .i64 0] ∧ Ext w wr) (fun i _ => K - (intOf i).toNat)
  case atStart => exact ⟨0, Nat.zero_le _, rfl, (Bx.new w _ _).alloc _, Bx.new_at _ _ (by simp), by ((repeat' (first | with_reducible exact Ext.refl _ | with_reducible assumption | with_reducible exact Ext.one _ | with_reducible refine Ext.alloc ?_ _ | with_reducible refine Ext.setCell ?_ ?_ _ | with_reducible refine Ext.drew ?_ | ((with_reducible apply Ext.after'); (with_reducible assumption)))) <;> (try simp) <;> omega)⟩
  case round =>
    obtain ⟨k, hk, rfl, hA, hB, hx⟩ := hrel
    obtain ⟨a0, a1, a2, a3, a4⟩ := hA.at2
    obtain ⟨b0, b1, b2, b3, b4⟩ := hB.at2
    by_cases hlt : k < K
    · go_wp2_with (first | (go_at_call 90; refine (bMod_any _ _ (by omega) _).mono ?_; rintro e wz ⟨rfl, rfl⟩; rw [hK.out]))
      go_roundw
      case rel => exact ⟨k + 1, by omega, by go_num, hA.set2 _ _, (hB.other (by simp) _).other (by simp) _, by ((repeat' (first | with_reducible exact Ext.refl _ | with_reducible assumption | with_reducible exact Ext.one _ | with_reducible refine Ext.alloc ?_ _ | with_reducible refine Ext.setCell ?_ ?_ _ | with_reducible refine Ext.drew ?_ | ((with_reducible apply Ext.after'); (with_reducible assumption)))) <;> (try simp) <;> omega)⟩
      case measure => simp [intOf]; omega
    · go_wp2_with (first | (go_at_call 90; refine (bMod_any _ _ (by omega) _).mono ?_; rintro e wz ⟨rfl, rfl⟩; rw [hK.out]))
      obtain rfl : k = K := by omega
      exact bodyPost_ret (v := tV (turnW k v)) (by simp [results, Tryd.results23, go_sem, a0, a1, b0, b1]) rfl ⟨rfl, by ((repeat' (first | with_reducible exact Ext.refl _ | with_reducible assumption | with_reducible exact Ext.one _ | with_reducible refine Ext.alloc ?_ _ | with_reducible refine Ext.setCell ?_ ?_ _ | with_reducible refine Ext.drew ?_ | ((with_reducible apply Ext.after'); (with_reducible assumption)))) <;> (try simp) <;> omega)⟩
end Go.Proofs.YtdbglpaejmhbjaaDoor
