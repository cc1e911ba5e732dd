/- The law of chapter 5 that nothing is faster: the plain law. No conditions on a program. -/
import Derived.Test.YtgiiedpambimoaaK26
import Derived.Test.YtgiiedpambimoaaK33
namespace Go.Proofs.Ytgiiedpambimoaa
open Go Go.RowKit Go.Proofs
set_option linter.unusedSimpArgs false
set_option linter.unusedVariables false

def faM (ps : List Piece) (b e1 : Int) (j : Nat) : Int := (fasM ps b e1).getD j default
theorem faM_at (ps : List Piece) (b e1 : Int) {j : Nat} (h : j ≤ ps.length) : faM ps b e1 j = bwD ps b (min e1 (limW ps ps.length)) ps.length (ps.length - j) := by
  unfold faM fasM
  rw [bwL_at _ _ _ h, liW_at ps (by omega)]
theorem faM_end (ps : List Piece) (b e1 : Int) : faM ps b e1 ps.length = min e1 (limW ps ps.length) := by
  rw [faM_at ps b e1 (Nat.le_refl _), Nat.sub_self]; rfl
theorem faM_step (ps : List Piece) (b e1 : Int) {j : Nat} (h : j < ps.length) : faM ps b e1 j = if faM ps b e1 (j + 1) = -1 then -1 else max (-1) (min (limW ps j) (faM ps b e1 (j + 1) + losW b (ps.getD j default))) := by
  rw [faM_at ps b e1 (by omega), faM_at ps b e1 (by omega)]
  obtain ⟨k, hk⟩ : ∃ k, ps.length - j = k + 1 := ⟨ps.length - j - 1, by omega⟩
  rw [hk, show ps.length - (j + 1) = k by omega]
  simp only [bwD]
  rw [show ps.length - k - 1 = j by omega]
theorem faM_lim {ps : List Piece} (hok : Ok ps) (b e1 : Int) {j : Nat} (h : j ≤ ps.length) : faM ps b e1 j ≤ limW ps j := by
  have hl := limW_bound hok j
  by_cases hj : j = ps.length
  · subst hj; rw [faM_end]; omega
  · rw [faM_step ps b e1 (by omega)]; split <;> omega
/-- Squares that can be run between two ends. -/
def rivalP (ps : List Piece) (b v e0 e1 : Int) (xs : List Int) : Prop := xs.length = ps.length + 1 ∧ (∀ j : Nat, 0 ≤ xs.getD j default ∧ xs.getD j default ≤ 20000000000) ∧ (∀ j : Nat, j < xs.length → ¬ cskB ps b v xs j) ∧ xs.getD 0 default = e0 ∧ xs.getD ps.length default ≤ e1
theorem rival_lim {ps : List Piece} {b v e0 e1 : Int} {xs : List Int} (h : rivalP ps b v e0 e1 xs) {j : Nat} (hj : j ≤ ps.length) : xs.getD j default ≤ limW ps j := by
  have := h.2.2.1 j (by rw [h.1]; omega)
  unfold cskB at this
  omega
theorem rival_step {ps : List Piece} {b v e0 e1 : Int} {xs : List Int} (h : rivalP ps b v e0 e1 xs) {j : Nat} (hj : j < ps.length) : xs.getD j default - losW b (ps.getD j default) ≤ xs.getD (j + 1) default ∧ xs.getD (j + 1) default ≤ xs.getD j default - losW (-v) (ps.getD j default) := by
  have := h.2.2.1 (j + 1) (by rw [h.1]; omega)
  unfold cskB at this
  rw [show j + 1 - 1 = j by omega] at this
  omega
theorem rival_below {ps : List Piece} {b v e0 e1 : Int} {xs : List Int} (h : rivalP ps b v e0 e1 xs) : ∀ k j : Nat, j + k = ps.length → xs.getD j default ≤ faM ps b e1 j
  | 0, j, hj => by
    have hj' : j = ps.length := by omega
    subst hj'
    have h1 := h.2.2.2.2
    have h2 := rival_lim h (Nat.le_refl ps.length)
    rw [faM_end]; omega
  | k + 1, j, hj => by
    have ih := rival_below h k (j + 1) (by omega)
    have h1 := h.2.1 (j + 1)
    have h2 := rival_step h (j := j) (by omega)
    have h3 := rival_lim h (j := j) (by omega)
    rw [faM_step ps b e1 (by omega), if_neg (by omega)]
    omega
/-- Who has a rival is not slower. -/
theorem fast_of_rival {ps : List Piece} {b v e0 e1 : Int} {xs : List Int} (h : rivalP ps b v e0 e1 xs) : (fasW ps b v e0 e1).2 = 0 ∧ ∀ j : Nat, j ≤ ps.length → xs.getD j default ≤ (fasW ps b v e0 e1).1.getD j default := by
  have hbel := fun j (hj : j ≤ ps.length) => rival_below h (ps.length - j) j (by omega)
  have hf : ∀ k x, fasF ps b v e1 k x = min (faM ps b e1 (k + 1)) (x + -losW (-v) (ps.getD k default)) := fun _ _ => rfl
  have key : ∀ k : Nat, k ≤ ps.length → ∃ l, goL (fasF ps b v e1) e0 k = some l ∧ xs.getD k default ≤ l.getD k default := by
    intro k
    induction k with
    | zero => exact fun _ => ⟨[e0], rfl, by rw [h.2.2.2.1]; exact Int.le_refl _⟩
    | succ k ih =>
      intro hk
      obtain ⟨l, h1, h2⟩ := ih (by omega)
      have h3 := hbel (k + 1) hk
      have h4 := rival_step h (j := k) (by omega)
      have h5 := h.2.1 (k + 1)
      have h6 : ¬ fasF ps b v e1 k (l.getD k default) < 0 := by rw [hf]; omega
      refine ⟨_, goL_step h1 h6, ?_⟩
      rw [getD_snoc (goL_len h1), hf]
      omega
  obtain ⟨l, h1, _⟩ := key ps.length (Nat.le_refl _)
  have hc : ¬ (fasM ps b e1).getD 0 default < e0 := by
    have := hbel 0 (by omega)
    rw [h.2.2.2.1] at this
    have e : faM ps b e1 0 = (fasM ps b e1).getD 0 default := rfl
    omega
  have hw : fasW ps b v e0 e1 = (l, 0) := by unfold fasW; rw [if_neg hc, h1]
  rw [hw]
  refine ⟨rfl, fun j hj => ?_⟩
  obtain ⟨l1, e1', e2⟩ := key j hj
  obtain ⟨l2, e3, e4⟩ := goL_pre h1 j hj
  rw [e1'] at e3; cases e3
  rw [← e4]; exact e2
/-- The fastest squares can be run. -/
theorem fast_runs {ps : List Piece} {b d v e0 e1 : Int} (hok : Ok ps) (hs : sysR b d v) (h0 : 0 ≤ e0 ∧ e0 ≤ 20000000000) (h : (fasW ps b v e0 e1).2 = 0) : rivalP ps b v e0 e1 (fasW ps b v e0 e1).1 := by
  obtain ⟨s1, s2, s3, s4⟩ := hs
  have hf : ∀ k x, fasF ps b v e1 k x = min (faM ps b e1 (k + 1)) (x + -losW (-v) (ps.getD k default)) := fun _ _ => rfl
  obtain ⟨l, hw, hgo, hc⟩ : ∃ l, fasW ps b v e0 e1 = (l, 0) ∧ goL (fasF ps b v e1) e0 ps.length = some l ∧ ¬ (fasM ps b e1).getD 0 default < e0 := by
    unfold fasW at h ⊢
    split at h
    · cases h
    · rename_i hc
      rw [if_neg hc]
      cases hg : goL (fasF ps b v e1) e0 ps.length with
      | none => rw [hg] at h; cases h
      | some l => exact ⟨l, rfl, rfl, hc⟩
  rw [hw]
  show rivalP ps b v e0 e1 l
  have hlen := goL_len hgo
  have hfirst : l.getD 0 default = e0 := by
    obtain ⟨l0, f1, f2⟩ := goL_pre hgo 0 (by omega)
    cases f1; rw [← f2]; rfl
  have each : ∀ k, k < ps.length → l.getD (k + 1) default = min (faM ps b e1 (k + 1)) (l.getD k default + -losW (-v) (ps.getD k default)) ∧ 0 ≤ l.getD (k + 1) default := fun k hk => by
    obtain ⟨l1, e1', e2⟩ := goL_pre hgo (k + 1) (by omega)
    obtain ⟨l2, e3, e4⟩ := goL_pre e1' k (by omega)
    have h5 := goL_next e1'
    have h6 : l2.getD k default = l.getD k default := by
      obtain ⟨l3, e5, e6⟩ := goL_pre hgo k (by omega)
      rw [e3] at e5; cases e5; exact e6
    rw [hf] at h5
    rw [← e2, ← h6, e4]; exact h5
  have below : ∀ j, j ≤ ps.length → l.getD j default ≤ faM ps b e1 j := fun j hj => by
    cases j with
    | zero =>
      rw [hfirst]
      have e : faM ps b e1 0 = (fasM ps b e1).getD 0 default := rfl
      omega
    | succ k => have := (each k (by omega)).1; omega
  have low : ∀ j, j ≤ ps.length → 0 ≤ l.getD j default := fun j hj => by
    cases j with
    | zero => rw [hfirst]; exact h0.1
    | succ k => exact (each k (by omega)).2
  refine ⟨hlen, fun j => ?_, fun j hj => ?_, hfirst, ?_⟩
  · by_cases hj : j ≤ ps.length
    · have := below j hj; have := faM_lim hok b e1 hj; have := limW_bound hok j; have := low j hj
      omega
    · rw [List.getD_eq_getElem?_getD, List.getElem?_eq_none (by omega)]
      exact ⟨by decide, by decide⟩
  · have h1 := below j (by omega)
    have h2 := faM_lim hok b e1 (j := j) (by omega)
    unfold cskB
    intro hq
    rcases hq with hq | ⟨hj0, hq⟩
    · omega
    · obtain ⟨k, rfl⟩ : ∃ k, j = k + 1 := ⟨j - 1, by omega⟩
      rw [show k + 1 - 1 = k by omega] at hq
      have h3 := (each k (by omega)).1
      have h4 := below k (by omega)
      have h5 := low k (by omega)
      have h6 := faM_step ps b e1 (j := k) (by omega)
      have h7 : losW (-v) (ps.getD k default) ≤ losW b (ps.getD k default) := los_mono (by omega) (hok.at k).1.1
      apply hq
      by_cases hm : faM ps b e1 (k + 1) = -1
      · rw [if_pos hm] at h6; omega
      · rw [if_neg hm] at h6; omega
  · have := below ps.length (Nat.le_refl _)
    rw [faM_end] at this
    omega
theorem csk_zero {ps : List Piece} {b v : Int} {xs : List Int} (h : (cskW ps b v xs).2 = 0) : (cskW ps b v xs).1 = 0 ∧ ∀ j : Nat, j < xs.length → ¬ cskB ps b v xs j := by
  unfold cskW at h ⊢
  cases hf : (List.range xs.length).find? fun i => decide (cskB ps b v xs i) with
  | some i => rw [hf] at h; cases h
  | none =>
    refine ⟨rfl, fun j hj => ?_⟩
    have := List.find?_eq_none.1 hf j (by simpa using hj)
    simpa using this
/-! ### Faster squares take no longer -/
theorem rt_mono {x y : Int} (h0 : 0 ≤ x) (h : x ≤ y) (h1 : y ≤ 20000000000) : rt x ≤ rt y := by
  obtain ⟨a, b, c⟩ := rt_spec (n := x) h0 (by omega)
  obtain ⟨d, e, f⟩ := rt_spec (n := y) (by omega) (by omega)
  by_cases hc : rt x ≤ rt y
  · exact hc
  · have := sq_mono (a := rt y + 1) (b := rt x) (by omega) (by omega); omega
theorem ru_mono {x y : Int} (h0 : 0 ≤ x) (h : x ≤ y) (h1 : y ≤ 20000000000) : ru x ≤ ru y := by
  have hm := rt_mono h0 h h1
  obtain ⟨a, b, c⟩ := rt_spec (n := x) h0 (by omega)
  obtain ⟨d, e, f⟩ := rt_spec (n := y) (by omega) (by omega)
  unfold ru
  split <;> split
  · omega
  · rename_i h3 h4
    by_cases hc : rt x + 1 ≤ rt y
    · exact hc
    · have : rt x = rt y := by omega
      rw [this] at h3; omega
  · omega
  · exact hm
theorem div_anti {n k k' : Int} (hn : 0 ≤ n) (hk : 1 ≤ k) (h : k ≤ k') : n.tdiv k' ≤ n.tdiv k := by
  rw [Int.tdiv_eq_ediv_of_nonneg hn, Int.tdiv_eq_ediv_of_nonneg hn]
  have h1 : 0 ≤ n / k' := Int.ediv_nonneg hn (by omega)
  rw [Int.le_ediv_iff_mul_le (by omega)]
  have h2 : n / k' * k ≤ n / k' * k' := Int.mul_le_mul_of_nonneg_left h h1
  have h3 : n / k' * k' ≤ n := Int.ediv_mul_le n (by omega)
  omega
theorem up_anti {n k k' : Int} (hn : 0 ≤ n) (hk : 1 ≤ k) (h : k ≤ k') : (n + k' - 1).tdiv k' ≤ (n + k - 1).tdiv k := by
  rw [ceil_eq hn (by omega), ceil_eq hn hk]
  have h1 : (-n) / k ≤ (-n) / k' := by
    rw [Int.le_ediv_iff_mul_le (by omega)]
    have h3 : (-n) / k * k ≤ -n := Int.ediv_mul_le _ (by omega)
    have h4 : (-n) / k ≤ 0 := by
      have : (-n) / k < 1 := by rw [Int.ediv_lt_iff_lt_mul (by omega)]; omega
      omega
    have h2 : (-n) / k * k' ≤ (-n) / k * k := Int.mul_le_mul_of_nonpos_left h4 h
    omega
  omega
theorem tim_mono {ps : List Piece} (hok : Ok ps) {xs ys : List Int} (hx : ∀ j : Nat, 0 ≤ xs.getD j default ∧ xs.getD j default ≤ 20000000000) (hy : ∀ j : Nat, 0 ≤ ys.getD j default ∧ ys.getD j default ≤ 20000000000) {n : Nat} (h : ∀ j : Nat, j ≤ n → xs.getD j default ≤ ys.getD j default) :
    ∀ (k i : Nat) (lo hi lo' hi' : Int) (r : Int × Int), i + k = n → lo' ≤ lo → hi' ≤ hi → timG ps xs k i lo hi = some r → ∃ r', timG ps ys k i lo' hi' = some r' ∧ r'.1 ≤ r.1 ∧ r'.2 ≤ r.2
  | 0, i, lo, hi, lo', hi', r, _, h1, h2, hr => by
    cases hr
    exact ⟨(lo', hi'), rfl, h1, h2⟩
  | k + 1, i, lo, hi, lo', hi', r, hk, h1, h2, hr => by
    simp only [timG] at hr ⊢
    split at hr
    · cases hr
    · rename_i hz
      have a := h i (by omega); have b := h (i + 1) (by omega)
      have xa := hx i; have xb := hx (i + 1); have ya := hy i; have yb := hy (i + 1)
      have hz' : ¬ (ys.getD i default = 0 ∧ ys.getD (i + 1) default = 0) := fun q => hz ⟨by omega, by omega⟩
      rw [if_neg hz']
      obtain ⟨t1, t2, t3⟩ := tim_facts hok hx i hz
      have m1 := ru_mono xa.1 a ya.2; have m2 := ru_mono xb.1 b yb.2
      have m3 := rt_mono xa.1 a ya.2; have m4 := rt_mono xb.1 b yb.2
      have d1 := div_anti (n := 2000 * (ps.getD i default).len) (k := ru (xs.getD i default) + ru (xs.getD (i + 1) default)) (k' := ru (ys.getD i default) + ru (ys.getD (i + 1) default)) t3.1 t1.1 (by omega)
      have d2 := up_anti (n := 2000 * (ps.getD i default).len) (k := rt (xs.getD i default) + rt (xs.getD (i + 1) default)) (k' := rt (ys.getD i default) + rt (ys.getD (i + 1) default)) t3.1 t2.1 (by omega)
      exact tim_mono hok hx hy h k (i + 1) _ _ _ _ r (by omega) (by omega) (by omega) hr
theorem times_mono {ps : List Piece} (hok : Ok ps) {xs ys : List Int} (hx : ∀ j : Nat, 0 ≤ xs.getD j default ∧ xs.getD j default ≤ 20000000000) (hy : ∀ j : Nat, 0 ≤ ys.getD j default ∧ ys.getD j default ≤ 20000000000) (h : ∀ j : Nat, j ≤ ps.length → xs.getD j default ≤ ys.getD j default) (h0 : (timW ps xs).2 = 0) :
    (timW ps ys).2 = 0 ∧ (timW ps ys).1.1 ≤ (timW ps xs).1.1 ∧ (timW ps ys).1.2 ≤ (timW ps xs).1.2 := by
  unfold timW at h0
  cases hr : timG ps xs ps.length 0 0 0 with
  | none => rw [hr] at h0; cases h0
  | some r =>
    obtain ⟨r', h1, h2, h3⟩ := tim_mono hok hx hy h ps.length 0 0 0 0 0 r (by omega) (Int.le_refl _) (Int.le_refl _) hr
    unfold timW
    rw [hr, h1]
    exact ⟨rfl, h2, h3⟩
end Go.Proofs.Ytgiiedpambimoaa
