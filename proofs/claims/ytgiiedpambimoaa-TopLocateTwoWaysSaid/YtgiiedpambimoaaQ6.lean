/- Contracts of chapter 4: remainders joined; the only place. No conditions on a program. -/
import Derived.Test.YtgiiedpambimoaaQ5
namespace Go.Proofs.Ytgiiedpambimoaa
open Go Go.RowKit Go.Proofs
set_option linter.unusedSimpArgs false
set_option linter.unusedVariables false


set_option maxRecDepth 100000 in
set_option maxHeartbeats 4000000 in
theorem divisor_ok (a b : Nat) (ha : a ≤ 1000000000) (hb : b ≤ 1000000000) : FnOk Try.prog 43 [zA a, zA b] (fun q => q = zA (Nat.gcd a b)) := by
  refine fnOk_of (fn := Try.f43) 12 (by kernel_rfl) rfl (by kernel_rfl) (Nat.le_of_ble_eq_true rfl) ?_
  intro e_0 m_0 hA hm_0
  have s0_0 : evA e_0 (.tmp 0) = _ := hA 0 _ rfl
  have s1_0 : evA e_0 (.tmp 1) = _ := hA 1 _ rfl
  have ml_0 : m_0.length = 0 := by rw [hm_0]; rfl
  clear hA hm_0
  refine aw_seq ?_
  refine aw_text (by kernel_rfl) ?_
  refine al_ro' (ro_assign ev_c) trivial rfl ?_
  refine al_end (fun e_1 he_1 => ?_)
  have s0_1 := ef 0 he_1 (up_m rfl s0_0)
  have s1_1 := ef 1 he_1 (up_m rfl s1_0)
  clear he_1 s0_0 s1_0
  refine then_n ?_
  refine aw_seq ?_
  refine aw_block ?_
  refine aw_loop (S := (Nat × Nat)) (fun s e mem => match s with | ⟨x, y⟩ => (evA e (.tmp 0) = .v (.int .i64 x)) ∧ (evA e (.tmp 1) = .v (.int .i64 y)) ∧ (mem.length = 0) ∧ ((x ≤ 1000000000 ∧ y ≤ 1000000000 ∧ Nat.gcd x y = Nat.gcd a b))) (fun s => match s with | ⟨x, y⟩ => y) ⟨_, _⟩ ⟨s0_1, s1_1, ml_0, ?_⟩ ?_
  · (exact ⟨ha, hb, rfl⟩)
  · rintro ⟨x, y⟩ e_2 m_2 ⟨s0_2, s1_2, ml_2, hinv⟩
    (obtain ⟨p1, p2, p3⟩ := hinv)
    refine aw_seq ?_
    refine aw_seq ?_
    refine aw_text (by kernel_rfl) ?_
    refine al_ro' (ro_move s1_2) trivial rfl ?_
    refine al_ro' (ro_neq up_h ev_c) trivial rfl ?_
    refine al_end (fun e_3 he_3 => ?_)
    have s0_3 := ef 0 he_3 (u2 rfl s0_2)
    have s1_3 := ef 1 he_3 (u2 rfl s1_2)
    have s6_3 := ef 6 he_3 up_h
    clear he_3 s0_2 s1_2
    refine then_n ?_
    refine aw_case s6_3 (fun hq_4 => ?_) (fun hq_4 => ?_)
    · (first | replace hq_4 := bnt hq_4 | replace hq_4 := bnf hq_4 | replace hq_4 := bt hq_4 | replace hq_4 := bf hq_4 | replace hq_4 := bt' hq_4 | replace hq_4 := bf' hq_4 | skip)
      first
      | (cases hq_4; done) | (exfalso; omega)
      | (
         refine aw_skip ?_
         refine then_n ?_
         refine aw_block ?_
         refine aw_draw 6 (by kernel_rfl) (by kernel_rfl) (by kernel_rfl) (by kernel_rfl) ?_
         refine ds_ro' (ro_move s1_3) trivial rfl ?_
         refine ds_ro' (ro_move (up_m rfl s0_3)) trivial rfl ?_
         refine ds_ro' (ro_move (u2 rfl s1_3)) trivial rfl ?_
         refine ds_ro' (ro_rem (up_m rfl up_h) up_h (by first | decide | omega)) trivial rfl ?_
         refine ds_ro' (ro_assign (up_m rfl (u2 rfl up_h))) trivial rfl ?_
         refine ds_ro' (ro_assign (up_m rfl up_h)) trivial rfl ?_
         refine ds_nil ?_
         refine al_end (fun e_5 he_5 => ?_)
         have s0_5 := ef 0 he_5 (up_m rfl up_h)
         have s1_5 := ef 1 he_5 up_h
         clear he_5 s0_3 s1_3 s6_3
         refine block_n ?_
         refine then_n ?_
         refine ⟨⟨y, x % y⟩, ⟨s0_5, s1_5, ml_2, ?_⟩, ?_⟩
         · (have hy : 0 < y := (by omega); have := Nat.mod_lt x hy; refine ⟨p2, by omega, ?_⟩; rw [← p3, Nat.gcd_comm y, ← Nat.gcd_rec, Nat.gcd_comm])
         · ((try dsimp only); (exact Nat.mod_lt x (by omega))))
    · (first | replace hq_4 := bnt hq_4 | replace hq_4 := bnf hq_4 | replace hq_4 := bt hq_4 | replace hq_4 := bf hq_4 | replace hq_4 := bt' hq_4 | replace hq_4 := bf' hq_4 | skip)
      first
      | (cases hq_4; done) | (exfalso; omega)
      | (
         refine aw_exit ?_
         refine then_x ?_
         refine then_x ?_
         refine block_hit ?_
         refine then_n ?_
         refine aw_seq ?_
         refine aw_text (by kernel_rfl) ?_
         refine al_ro' (ro_move s0_3) trivial rfl ?_
         refine al_ro' (ro_assign up_h) trivial rfl ?_
         refine al_end (fun e_6 he_6 => ?_)
         have s4_6 := ef 4 he_6 up_h
         clear he_6 s0_3 s1_3 s6_3
         refine then_n ?_
         refine aw_ret ?_
         refine ret1 (.inr rfl) (by kernel_rfl) (resV_tmp s4_6) (.ro _ rfl) ?_
         clear s4_6  ml_2
         (have hy : y = 0 := (by omega); subst hy; rw [← p3, Nat.gcd_zero_right]))
/-- The least number that is a multiple of both. -/
def lcmS (M m : Int) : Int := M * m.tdiv (Nat.gcd M.toNat m.toNat : Nat)
theorem lcmS_eq {M m : Int} (hM : 0 < M) (hm : 0 < m) : lcmS M m = (Nat.lcm M.toNat m.toNat : Nat) := by
  obtain ⟨a, rfl⟩ : ∃ a : Nat, M = a := ⟨M.toNat, by omega⟩
  obtain ⟨b, rfl⟩ : ∃ b : Nat, m = b := ⟨m.toNat, by omega⟩
  unfold lcmS
  rw [Int.toNat_natCast, Int.toNat_natCast, Int.tdiv_eq_ediv_of_nonneg (by omega), ← Int.natCast_ediv, ← Int.natCast_mul, ← Nat.mul_div_assoc _ (Nat.gcd_dvd_right a b)]
  rfl
theorem lcmS_facts {M m : Int} (hM : 0 < M) (hm : 0 < m) : M ∣ lcmS M m ∧ m ∣ lcmS M m ∧ 0 < lcmS M m ∧ lcmS M m ≤ M * m ∧ ∀ k : Int, M ∣ k → m ∣ k → lcmS M m ∣ k := by
  rw [lcmS_eq hM hm]
  obtain ⟨a, rfl⟩ : ∃ a : Nat, M = a := ⟨M.toNat, by omega⟩
  obtain ⟨b, rfl⟩ : ∃ b : Nat, m = b := ⟨m.toNat, by omega⟩
  rw [Int.toNat_natCast, Int.toNat_natCast]
  have hp : 0 < Nat.lcm a b := Nat.lcm_pos (by omega) (by omega)
  refine ⟨Int.natCast_dvd_natCast.2 (Nat.dvd_lcm_left a b), Int.natCast_dvd_natCast.2 (Nat.dvd_lcm_right a b), by omega, ?_, fun k h1 h2 => ?_⟩
  · rw [← Int.natCast_mul]
    exact Int.ofNat_le.2 (Nat.le_of_dvd (Nat.mul_pos (by omega) (by omega)) (Nat.lcm_dvd (Nat.dvd_mul_right a b) (Nat.dvd_mul_left b a)))
  · exact Int.ofNat_dvd_left.2 (Nat.lcm_dvd (Int.ofNat_dvd_left.1 h1) (Int.ofNat_dvd_left.1 h2))
def lcmP (ws : List Int) : Nat → Int
  | 0 => 1
  | n + 1 => lcmS (lcmP ws n) (ws.getD n default)
theorem lcmP_pos {ws : List Int} (h : ∀ j : Nat, j < ws.length → 1 ≤ ws.getD j default ∧ ws.getD j default ≤ 1000) : ∀ {n : Nat}, n ≤ ws.length → 0 < lcmP ws n
  | 0, _ => by simp [lcmP]
  | n + 1, hn => by
    have h1 := lcmP_pos h (n := n) (by omega)
    have h2 := h n (by omega)
    exact (lcmS_facts h1 (by omega)).2.2.1
/-- The next number with a remainder. -/
theorem next_rest {M m T re : Int} (hM : 0 < M) (hm : 0 < m) (hT : 0 ≤ T) (h1 : M ∣ T - re) (h0 : 0 ≤ re) (h2 : re ≤ T % lcmS M m) : (re % m = T % m → re = T % lcmS M m) ∧ (¬ re % m = T % m → re + M ≤ T % lcmS M m) := by
  obtain ⟨f1, f2, f3, f4, f5⟩ := lcmS_facts hM hm
  have hlt := Int.emod_lt_of_pos T f3
  have hq : lcmS M m ∣ T - T % lcmS M m := Int.dvd_self_sub_emod
  refine ⟨fun h => ?_, fun h => ?_⟩
  · have d1 : m ∣ T - re := Int.dvd_of_emod_eq_zero (Int.emod_eq_emod_iff_emod_sub_eq_zero.1 h.symm)
    have d2 := f5 _ h1 d1
    have d3 : lcmS M m ∣ T % lcmS M m - re := by
      have := Int.dvd_sub d2 hq
      rwa [show T - re - (T - T % lcmS M m) = T % lcmS M m - re by omega] at this
    by_cases hx : 0 < T % lcmS M m - re
    · have := Int.le_of_dvd hx d3; omega
    · omega
  · have d3 : M ∣ T % lcmS M m - re := by
      have := Int.dvd_sub h1 (Int.dvd_trans f1 hq)
      rwa [show T - re - (T - T % lcmS M m) = T % lcmS M m - re by omega] at this
    have hne : re ≠ T % lcmS M m := fun e => h (by rw [e, Int.emod_emod_of_dvd _ f2])
    have := Int.le_of_dvd (by omega) d3
    omega
end Go.Proofs.Ytgiiedpambimoaa
