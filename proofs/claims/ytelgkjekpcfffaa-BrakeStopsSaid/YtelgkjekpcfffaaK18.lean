/- The law of chapter 5 on forward and backward. No conditions on a program. -/
import Derived.Test.YtelgkjekpcfffaaK31
namespace Go.Proofs.Ytelgkjekpcfffaa
open Go Go.RowKit Go.Proofs
set_option linter.unusedSimpArgs false
set_option linter.unusedVariables false

def cuA (ps : List Piece) (b stop : Int) (j : Nat) : Int := (bwL ps b 0 (stop + 1).toNat).getD j default
def leA (ps : List Piece) (d stop : Int) (j : Nat) : Int := (leL ps d stop.toNat).getD j default
theorem leL_at (ps : List Piece) (d : Int) {n j : Nat} (h : j ≤ n) : (leL ps d n).getD j default = leD ps d n (n - j) := by simp [leL, List.getD_eq_getElem?_getD, show j < n + 1 by omega]
theorem leA_last (ps : List Piece) (d stop : Int) : leA ps d stop stop.toNat = 0 := by
  unfold leA; rw [leL_at ps d (Nat.le_refl _), Nat.sub_self]; rfl
theorem leA_step (ps : List Piece) (d stop : Int) {j : Nat} (h : j < stop.toNat) : leA ps d stop j = max 0 (leA ps d stop (j + 1) + losW d (ps.getD j default)) := by
  unfold leA
  rw [leL_at ps d (by omega), leL_at ps d (by omega), show stop.toNat - j = (stop.toNat - (j + 1)) + 1 by omega]
  simp only [leD]
  rw [show stop.toNat - (stop.toNat - (j + 1)) - 1 = j by omega]
theorem leA_nonneg {ps : List Piece} {d stop : Int} {j : Nat} (h : j ≤ stop.toNat) : 0 ≤ leA ps d stop j := by
  rcases Nat.lt_or_ge j stop.toNat with h1 | h1
  · rw [leA_step ps d stop h1]; omega
  · rw [show j = stop.toNat by omega, leA_last]; omega
/-- What is run: the squares, one by one. -/
theorem goL_pre {f : Nat → Int → Int} {sq : Int} : ∀ {k : Nat} {l : List Int}, goL f sq k = some l → ∀ m, m ≤ k → ∃ l', goL f sq m = some l' ∧ l'.getD m default = l.getD m default
  | 0, l, h, m, hm => by
    obtain rfl : m = 0 := by omega
    exact ⟨l, h, rfl⟩
  | k + 1, l, h, m, hm => by
    rcases Nat.lt_or_ge m (k + 1) with h1 | h1
    · simp only [goL] at h
      split at h
      · cases h
      · rename_i q hq
        split at h
        · cases h
        · cases h
          obtain ⟨l', e1, e2⟩ := goL_pre hq m (by omega)
          refine ⟨l', e1, e2.trans ?_⟩
          have := goL_len hq
          rw [List.getD_eq_getElem?_getD, List.getD_eq_getElem?_getD, List.getElem?_append_left (by omega)]
    · obtain rfl : m = k + 1 := by omega
      exact ⟨l, h, rfl⟩
theorem goL_next {f : Nat → Int → Int} {sq : Int} {k : Nat} {l : List Int} (h : goL f sq (k + 1) = some l) : l.getD (k + 1) default = f k (l.getD k default) ∧ 0 ≤ l.getD (k + 1) default := by
  simp only [goL] at h
  split at h
  · cases h
  · rename_i q hq
    split at h
    · cases h
    · rename_i hn
      cases h
      have hl := goL_len hq
      have e : (q ++ [f k (q.getD k default)]).getD k default = q.getD k default := by
        rw [List.getD_eq_getElem?_getD, List.getD_eq_getElem?_getD, List.getElem?_append_left (by omega)]
      rw [e, getD_snoc hl]
      exact ⟨rfl, by omega⟩
theorem run_up {ps : List Piece} {b d stop post sq : Int} (h0 : 0 ≤ post) (h1 : post ≤ stop) (hl : leA ps d stop post.toNat ≤ sq) (hc : ∀ j : Nat, post ≤ j → j ≤ stop → leA ps d stop j ≤ cuA ps b stop j) :
    ∀ k : Nat, (k : Int) ≤ stop - post → ∃ l, goL (runF ps b d stop post.toNat) sq k = some l ∧ leA ps d stop (post.toNat + k) ≤ l.getD k default
  | 0, _ => ⟨[sq], rfl, hl⟩
  | k + 1, hk => by
    obtain ⟨l, e1, e2⟩ := run_up h0 h1 hl hc k (by omega)
    have hs := leA_step ps d stop (j := post.toNat + k) (by omega)
    have hn := leA_nonneg (ps := ps) (d := d) (stop := stop) (j := post.toNat + k + 1) (by omega)
    have hcj := hc (post.toNat + k + 1) (by omega) (by omega)
    have hf : runF ps b d stop post.toNat k (l.getD k default) = min (cuA ps b stop (post.toNat + k + 1)) (l.getD k default - losW d (ps.getD (post.toNat + k) default)) := rfl
    have hge : leA ps d stop (post.toNat + k + 1) ≤ runF ps b d stop post.toNat k (l.getD k default) := by rw [hf]; omega
    refine ⟨_, goL_step e1 (by omega), ?_⟩
    rw [getD_snoc (goL_len e1)]
    exact hge
theorem run_down {ps : List Piece} {b d stop post sq : Int} (h0 : 0 ≤ post) (h1 : post ≤ stop) {l : List Int} (h : goL (runF ps b d stop post.toNat) sq (stop - post).toNat = some l) (hsq : 0 ≤ sq) :
    ∀ m k : Nat, k + m = (stop - post).toNat → leA ps d stop (post.toNat + k) ≤ l.getD k default := by
  have each : ∀ k, k < (stop - post).toNat → l.getD (k + 1) default = runF ps b d stop post.toNat k (l.getD k default) ∧ 0 ≤ l.getD (k + 1) default := fun k hk => by
    obtain ⟨l1, e1, e2⟩ := goL_pre h (k + 1) (by omega)
    obtain ⟨l0, f1, f2⟩ := goL_pre h k (by omega)
    obtain ⟨l2, g1, g2⟩ := goL_pre e1 k (by omega)
    rw [f1] at g1
    cases g1
    have := goL_next e1
    rw [e2, ← g2, f2] at this
    exact this
  have first : l.getD 0 default = sq := by
    obtain ⟨l0, f1, f2⟩ := goL_pre h 0 (by omega)
    cases f1
    exact f2.symm
  have pos : ∀ k, k ≤ (stop - post).toNat → 0 ≤ l.getD k default := fun k hk => by
    cases k with
    | zero => rw [first]; exact hsq
    | succ k => exact (each k (by omega)).2
  intro m
  induction m with
  | zero =>
    intro k hk
    rw [show post.toNat + k = stop.toNat by omega, leA_last]
    exact pos k (by omega)
  | succ m ih =>
    intro k hk
    have h2 := ih (k + 1) (by omega)
    obtain ⟨e1, e2⟩ := each k (by omega)
    have hf : runF ps b d stop post.toNat k (l.getD k default) = min (cuA ps b stop (post.toNat + k + 1)) (l.getD k default - losW d (ps.getD (post.toNat + k) default)) := rfl
    rw [leA_step ps d stop (by omega)]
    have hp := pos k (by omega)
    rw [show post.toNat + (k + 1) = post.toNat + k + 1 by omega] at h2
    omega
theorem run_cu {ps : List Piece} {b d stop post sq : Int} (h0 : 0 ≤ post) {l : List Int} (h : goL (runF ps b d stop post.toNat) sq (stop - post).toNat = some l) (hsq : sq ≤ cuA ps b stop post.toNat) (k : Nat) (hk : k ≤ (stop - post).toNat) : l.getD k default ≤ cuA ps b stop (post.toNat + k) := by
  cases k with
  | zero =>
    obtain ⟨l0, f1, f2⟩ := goL_pre h 0 (by omega)
    cases f1
    rw [← f2]; exact hsq
  | succ k =>
    obtain ⟨l1, e1, e2⟩ := goL_pre h (k + 1) (by omega)
    have := (goL_next e1).1
    rw [← e2, this]
    have hf : ∀ x, runF ps b d stop post.toNat k x = min (cuA ps b stop (post.toNat + k + 1)) (x - losW d (ps.getD (post.toNat + k) default)) := fun _ => rfl
    rw [hf]
    have : post.toNat + (k + 1) = post.toNat + k + 1 := by omega
    rw [this]
    omega
theorem two_ways {ps : List Piece} {b d stop post sq : Int} (h0 : 0 ≤ post) (h1 : post ≤ stop) (hsq : 0 ≤ sq) :
    (runW ps b d stop post sq).2 = 0 ↔ ((leA ps d stop post.toNat ≤ sq ∧ sq ≤ cuA ps b stop post.toNat) ∧ ∀ j : Nat, post ≤ j → j < stop + 1 → cuA ps b stop j ≠ -1 ∧ leA ps d stop j ≤ cuA ps b stop j) := by
  have hw : runW ps b d stop post sq = if cuA ps b stop post.toNat = -1 ∨ cuA ps b stop post.toNat < sq then (([], 24) : List Int × Int) else match goL (runF ps b d stop post.toNat) sq (stop - post).toNat with | none => ([], 12) | some l => (l, 0) := rfl
  rw [hw]
  constructor
  · intro h
    split at h
    · cases h
    · rename_i hc
      split at h
      · cases h
      · rename_i l hl
        have hd := run_down h0 h1 hl hsq
        have hcu := run_cu h0 hl (by omega)
        have f0 : l.getD 0 default = sq := by
          obtain ⟨l0, f1, f2⟩ := goL_pre hl 0 (by omega)
          cases f1
          exact f2.symm
        refine ⟨⟨?_, by omega⟩, fun j hj1 hj2 => ?_⟩
        · have := hd (stop - post).toNat 0 (by omega)
          rw [f0] at this
          exact this
        · have a1 := hd ((stop - post).toNat - (j - post.toNat)) (j - post.toNat) (by omega)
          have a2 := hcu (j - post.toNat) (by omega)
          rw [show post.toNat + (j - post.toNat) = j by omega] at a1 a2
          have a3 := leA_nonneg (ps := ps) (d := d) (stop := stop) (j := j) (by omega)
          exact ⟨by omega, by omega⟩
  · rintro ⟨⟨a1, a2⟩, a3⟩
    have c1 := (a3 post.toNat (by omega) (by omega)).1
    rw [if_neg (by omega)]
    obtain ⟨l, e, _⟩ := run_up (b := b) h0 h1 a1 (fun j j1 j2 => (a3 j j1 (by omega)).2) (stop - post).toNat (by omega)
    rw [e]
end Go.Proofs.Ytelgkjekpcfffaa
