/- Plain facts of chapter 5 on tracks one behind the other. -/
import Derived.Test.YtgiiedpambimoaaK39
import Derived.Test.YtgiiedpambimoaaM3
import Derived.Test.YtgiiedpambimoaaA18
namespace Go.Proofs.Ytgiiedpambimoaa
open Go Go.RowKit Go.Proofs
set_option linter.unusedSimpArgs false
set_option linter.unusedVariables false

theorem getD_app2 {ps qs : List Piece} (i : Nat) : (ps ++ qs).getD (ps.length + i) default = qs.getD i default := by
  rw [List.getD_eq_getElem?_getD, List.getElem?_append_right (by omega), show ps.length + i - ps.length = i by omega, ← List.getD_eq_getElem?_getD]
theorem limW_app {ps qs : List Piece} {i : Nat} (h : 1 ≤ i) : limW (ps ++ qs) (ps.length + i) = limW qs i := by
  unfold limW
  rw [if_neg (by omega), if_neg (show ¬ i = 0 by omega), show ps.length + i - 1 = ps.length + (i - 1) by omega, getD_app2, getD_app2, List.length_append]
  by_cases hi : i < qs.length
  · rw [if_pos (by omega), if_pos hi]
  · rw [if_neg (by omega), if_neg hi]
theorem bwD_app {ps qs : List Piece} {b sq : Int} {p : Nat} : ∀ {k : Nat}, k + 1 ≤ p → bwD (ps ++ qs) b sq (ps.length + p) k = bwD qs b sq p k
  | 0, _ => rfl
  | k + 1, h => by
    simp only [bwD]
    rw [bwD_app (show k + 1 ≤ p by omega), show ps.length + p - k - 1 = ps.length + (p - k - 1) by omega, limW_app (by omega), getD_app2]
theorem bwL_on (ps : List Piece) (b sq : Int) {p j : Nat} (h : j ≤ p) : (bwL ps b sq p).getD j default = bwD ps b sq p (p - j) := by
  simp [bwL, List.getD_eq_getElem?_getD, List.getElem?_range (show j < p + 1 by omega)]
theorem bwL_app {ps qs : List Piece} {b sq : Int} {p j : Nat} (h1 : 1 ≤ j) (h : j ≤ p) : (bwL (ps ++ qs) b sq (ps.length + p)).getD (ps.length + j) default = (bwL qs b sq p).getD j default := by
  rw [bwL_on _ _ _ (by omega), bwL_on _ _ _ h, show ps.length + p - (ps.length + j) = p - j by omega, bwD_app (by omega)]
theorem list_getD_ext {l m : List Int} (hl : l.length = m.length) (h : ∀ i : Nat, i < l.length → l.getD i default = m.getD i default) : l = m := by
  refine List.ext_getElem hl fun i h1 h2 => ?_
  have := h i h1
  simpa [List.getD_eq_getElem?_getD, h1, h2] using this
theorem getD_drop (l : List Int) (n i : Nat) : (l.drop n).getD i default = l.getD (n + i) default := by
  simp [List.getD_eq_getElem?_getD]
theorem getD_take {l : List Int} {n i : Nat} (h : i < n) : (l.take n).getD i default = l.getD i default := by
  simp [List.getD_eq_getElem?_getD, h]
/-- Behind the joint the curves are the same. -/
theorem bwL_drop {ps qs : List Piece} {b sq : Int} {p : Nat} (hp : 1 ≤ p) : (bwL qs b sq p).drop 1 = (bwL (ps ++ qs) b sq (ps.length + p)).drop (ps.length + 1) := by
  have l1 := bwL_len qs b sq p
  have l2 := bwL_len (ps ++ qs) b sq (ps.length + p)
  refine list_getD_ext (by rw [List.length_drop, List.length_drop]; omega) fun i hi => ?_
  rw [List.length_drop] at hi
  rw [getD_drop, getD_drop, show ps.length + 1 + i = ps.length + (1 + i) by omega, bwL_app (by omega) (by omega)]
theorem goL_congr {f g : Nat → Int → Int} {sq : Int} : ∀ {k : Nat}, (∀ i x, i < k → f i x = g i x) → goL f sq k = goL g sq k
  | 0, _ => rfl
  | k + 1, h => by
    have ih := goL_congr (f := f) (g := g) (sq := sq) (k := k) fun i x hi => h i x (by omega)
    simp only [goL, ih]
    split
    · rfl
    · rw [h k _ (by omega)]
/-- Behind the joint the runs are the same. -/
theorem runW_app {ps qs : List Piece} {b d stop post sq : Int} (h1 : 1 ≤ post) (h2 : post ≤ stop) (h3 : stop < qs.length) : runW (ps ++ qs) b d (ps.length + stop) (ps.length + post) sq = runW qs b d stop post sq := by
  have e1 : ((ps.length : Int) + stop + 1).toNat = ps.length + (stop + 1).toNat := by omega
  have e2 : ((ps.length : Int) + post).toNat = ps.length + post.toNat := by omega
  have e3 : ((ps.length : Int) + stop - (ps.length + post)).toNat = (stop - post).toNat := by omega
  unfold runW
  rw [e1, e2, e3, bwL_app (by omega) (by omega), goL_congr (g := runF qs b d stop post.toNat) fun i x hi => ?_]
  unfold runF
  rw [e1, show ps.length + post.toNat + i + 1 = ps.length + (post.toNat + i + 1) by omega, show ps.length + post.toNat + i = ps.length + (post.toNat + i) by omega, bwL_app (by omega) (by omega), getD_app2]
/-! ### Times -/
theorem timG_add (ps : List Piece) (xs : List Int) : ∀ (k i : Nat) (lo hi : Int), timG ps xs k i lo hi = (timG ps xs k i 0 0).map fun x => (lo + x.1, hi + x.2)
  | 0, i, lo, hi => by simp [timG]
  | k + 1, i, lo, hi => by
    simp only [timG]
    split
    · rfl
    · rw [timG_add ps xs k (i + 1) (lo + _) (hi + _), timG_add ps xs k (i + 1) (0 + _) (0 + _)]
      cases timG ps xs k (i + 1) 0 0 with
      | none => rfl
      | some x => simp [Int.add_assoc]
theorem timG_two (ps : List Piece) (xs : List Int) (m : Nat) : ∀ (k i : Nat) (lo hi : Int), timG ps xs (k + m) i lo hi = (timG ps xs k i lo hi).bind fun x => timG ps xs m (i + k) x.1 x.2
  | 0, i, lo, hi => by simp [timG]
  | k + 1, i, lo, hi => by
    rw [show k + 1 + m = (k + m) + 1 by omega]
    simp only [timG]
    split
    · rfl
    · rw [timG_two ps xs m k (i + 1), show i + 1 + k = i + (k + 1) by omega]
theorem timG_first {ps qs : List Piece} {xs : List Int} : ∀ (k i : Nat) (lo hi : Int), i + k ≤ ps.length → timG (ps ++ qs) xs k i lo hi = timG ps (xs.take (ps.length + 1)) k i lo hi
  | 0, i, lo, hi, _ => rfl
  | k + 1, i, lo, hi, h => by
    simp only [timG]
    rw [getD_app (by omega), getD_take (by omega), getD_take (by omega)]
    split
    · rfl
    · exact timG_first k (i + 1) _ _ (by omega)
theorem timG_second {ps qs : List Piece} {xs : List Int} : ∀ (k i : Nat) (lo hi : Int), timG (ps ++ qs) xs k (ps.length + i) lo hi = timG qs (xs.drop ps.length) k i lo hi
  | 0, i, lo, hi => rfl
  | k + 1, i, lo, hi => by
    simp only [timG]
    rw [getD_app2, getD_drop, getD_drop, show ps.length + i + 1 = ps.length + (i + 1) by omega]
    split
    · rfl
    · exact timG_second k (i + 1) _ _
theorem timG_join (ps qs : List Piece) (xs : List Int) : timG (ps ++ qs) xs (ps ++ qs).length 0 0 0 = (timG ps (xs.take (ps.length + 1)) ps.length 0 0 0).bind fun x => (timG qs (xs.drop ps.length) qs.length 0 0 0).map fun y => (x.1 + y.1, x.2 + y.2) := by
  rw [List.length_append, timG_two, timG_first _ _ _ _ (by omega)]
  congr 1
  funext x
  rw [show 0 + ps.length = ps.length + 0 by omega, timG_second, timG_add]
/-- The time of both. -/
theorem timW_join (ps qs : List Piece) (xs : List Int) : ((timW ps (xs.take (ps.length + 1))).2 = 0 ∧ (timW qs (xs.drop ps.length)).2 = 0 → timW (ps ++ qs) xs = (((timW ps (xs.take (ps.length + 1))).1.1 + (timW qs (xs.drop ps.length)).1.1, (timW ps (xs.take (ps.length + 1))).1.2 + (timW qs (xs.drop ps.length)).1.2), 0)) ∧
    (¬ ((timW ps (xs.take (ps.length + 1))).2 = 0 ∧ (timW qs (xs.drop ps.length)).2 = 0) → timW (ps ++ qs) xs = ((0, 0), 11)) := by
  unfold timW
  rw [timG_join]
  cases timG ps (xs.take (ps.length + 1)) ps.length 0 0 0 with
  | none => exact ⟨fun h => absurd h.1 (by decide), fun _ => rfl⟩
  | some x =>
    cases timG qs (xs.drop ps.length) qs.length 0 0 0 with
    | none => exact ⟨fun h => absurd h.2 (by decide), fun _ => rfl⟩
    | some y => exact ⟨fun _ => rfl, fun h => absurd ⟨rfl, rfl⟩ h⟩
theorem sqs_join {ps qs : List Piece} {xs : List Int} (h : sqsE (ps ++ qs) xs = 0) (hl : xs.length = (ps ++ qs).length + 1) : sqsE ps (xs.take (ps.length + 1)) = 0 ∧ sqsE qs (xs.drop ps.length) = 0 := by
  unfold sqsE at h
  rw [if_pos hl] at h
  rw [List.length_append] at hl
  have ha : ∀ x ∈ xs, withinB x 0 20000000000 = true := by
    by_cases hq : ∀ x ∈ xs, withinB x 0 20000000000 = true
    · exact hq
    · rw [if_neg hq] at h; exact absurd h (by decide)
  unfold sqsE
  exact ⟨by rw [if_pos (by rw [List.length_take]; omega), if_pos fun x hx => ha x (List.mem_of_mem_take hx)], by rw [if_pos (by rw [List.length_drop]; omega), if_pos fun x hx => ha x (List.mem_of_mem_drop hx)]⟩
end Go.Proofs.Ytgiiedpambimoaa
