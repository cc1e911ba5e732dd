/- The law of chapter 5 on better brakes: the plain law. No conditions on a program. -/
import Derived.Test.YtgiiedpambimoaaK32
namespace Go.Proofs.Ytgiiedpambimoaa
open Go Go.RowKit Go.Proofs
set_option linter.unusedSimpArgs false
set_option linter.unusedVariables false

theorem los_mono {x y : Int} {p : Piece} (h : x ≤ y) (hl : 0 ≤ p.len) : losW x p ≤ losW y p := by
  unfold losW
  exact Int.mul_le_mul_of_nonneg_right (by omega) hl
theorem bw_mono {ps : List Piece} (h : Ok ps) {b b' sq : Int} (hb : b ≤ b') (hs : -1 ≤ sq ∧ sq ≤ 20000000000) (post : Nat) : ∀ k, bwD ps b sq post k ≤ bwD ps b' sq post k
  | 0 => Int.le_refl _
  | k + 1 => by
    have ih := bw_mono h hb hs post k
    have h1 := bwD_bound h (b := b) (post := post) hs k
    have h2 := bwD_bound h (b := b') (post := post) hs (k + 1)
    have h3 := los_mono (p := ps.getD (post - k - 1) default) hb (h.at _).1.1
    by_cases hc : bwD ps b sq post k = -1
    · have : bwD ps b sq post (k + 1) = -1 := by simp only [bwD]; rw [if_pos hc]
      omega
    · simp only [bwD]
      rw [if_neg hc, if_neg (by omega)]
      omega
theorem cu_mono {ps : List Piece} (h : Ok ps) {b b' stop : Int} (hb : b ≤ b') {j : Nat} (hj : j ≤ (stop + 1).toNat) : cuA ps b stop j ≤ cuA ps b' stop j := by
  unfold cuA
  rw [bwL_at ps b 0 hj, bwL_at ps b' 0 hj]
  exact bw_mono h hb (by omega) _ _
theorem le_mono {ps : List Piece} (h : Ok ps) {d d' : Int} (hd : d ≤ d') (stop : Nat) : ∀ k, leD ps d stop k ≤ leD ps d' stop k
  | 0 => Int.le_refl _
  | k + 1 => by
    have ih := le_mono h hd stop k
    have h3 := los_mono (p := ps.getD (stop - k - 1) default) hd (h.at _).1.1
    simp only [leD]
    omega
theorem lea_mono {ps : List Piece} (h : Ok ps) {d d' stop : Int} (hd : d ≤ d') {j : Nat} (hj : j ≤ stop.toNat) : leA ps d stop j ≤ leA ps d' stop j := by
  unfold leA
  rw [leL_at ps d hj, leL_at ps d' hj]
  exact le_mono h hd _ _
theorem better_reaches {ps : List Piece} (h : Ok ps) {b b' d stop post sq : Int} (hb : b ≤ b') (h0 : 0 ≤ post) (h1 : post ≤ stop) (hsq : 0 ≤ sq) (hr : (runW ps b d stop post sq).2 = 0) : (runW ps b' d stop post sq).2 = 0 := by
  rw [two_ways h0 h1 hsq] at hr ⊢
  obtain ⟨⟨h2, h3⟩, h4⟩ := hr
  refine ⟨⟨h2, Int.le_trans h3 (cu_mono h hb (by omega))⟩, fun j j1 j2 => ?_⟩
  have h5 := h4 j j1 j2
  have h6 := cu_mono h hb (stop := stop) (j := j) (by omega)
  have h7 : -1 ≤ cuA ps b stop j := (bwL_bound h (b := b) (sq := 0) (by omega) (stop + 1).toNat j).1
  omega
theorem sysE_zero {b d v : Int} (h : sysR b d v) : sysE b d v = 0 := by
  obtain ⟨h1, h2, h3, h4⟩ := h
  have e1 : sysRight b d v = true := by simp only [sysRight, withinB, Bool.and_eq_true, decide_eq_true_eq]; omega
  have e2 : decide (d ≤ b) = true := by simpa using h4
  unfold sysE
  rw [e1, e2]; rfl
theorem curE_other {nm : ByteArray} {ps : List Piece} {b d v b' d' v' stop : Int} (h : curE nm ps b d v stop = 0) (h' : sysR b' d' v') : curE nm ps b' d' v' stop = 0 := by
  have e : ∀ b d v, curE nm ps b d v stop = firstE [firstE [(chk nm ps).2, sysE b d v], stopE ps stop] := fun _ _ _ => rfl
  rw [e] at h ⊢
  obtain ⟨h1, h2⟩ := firstE_cons h
  obtain ⟨h3, h4⟩ := firstE_cons h1
  rw [h3, sysE_zero h', show firstE [(0 : Int), 0] = 0 from rfl]
  have := (firstE_cons h2).1
  rw [this]; rfl
theorem runE_other {nm : ByteArray} {ps : List Piece} {b d v b' d' v' post sq stop : Int} (h : runE nm ps b d v post sq stop = 0) (h' : sysR b' d' v') : runE nm ps b' d' v' post sq stop = 0 := by
  have e : ∀ b d v, runE nm ps b d v post sq stop = firstE [firstE [(chk nm ps).2, sysE b d v], stateE ps post sq, stopE ps stop, unlessE (decide (post ≤ stop)) 9] := fun _ _ _ => rfl
  rw [e] at h ⊢
  obtain ⟨h1, h2⟩ := firstE_cons h
  obtain ⟨h3, h4⟩ := firstE_cons h1
  obtain ⟨h5, h6⟩ := firstE_cons h2
  obtain ⟨h7, h8⟩ := firstE_cons h6
  rw [h3, sysE_zero h', show firstE [(0 : Int), 0] = 0 from rfl, h5, h7, (firstE_cons h8).1]; rfl
end Go.Proofs.Ytgiiedpambimoaa
