/- Chapter 5: the errors of a run, one by one. No conditions on a program. -/
import Derived.Test.YtgiiedpambimoaaK30
namespace Go.Proofs.Ytgiiedpambimoaa
open Go Go.RowKit Go.Proofs
set_option linter.unusedSimpArgs false
set_option linter.unusedVariables false

theorem firstE_four (a b c e : Int) : firstE [a, b, c, e] = if a = 0 then (if b = 0 then (if c = 0 then e else c) else b) else a := by
  simp only [firstE]
  by_cases h1 : a = 0
  · rw [if_pos h1, if_pos h1]
    by_cases h2 : b = 0
    · rw [if_pos h2, if_pos h2]
      by_cases h3 : c = 0
      · rw [if_pos h3, if_pos h3]; split <;> simp_all
      · rw [if_neg h3, if_neg h3]
    · rw [if_neg h2, if_neg h2]
  · rw [if_neg h1, if_neg h1]
def d1R (nm : ByteArray) (ps : List Piece) (b d v post sq : Int) : Int := if firstE [(chk nm ps).2, sysE b d v] = 0 then stateE ps post sq else firstE [(chk nm ps).2, sysE b d v]
def d2R (nm : ByteArray) (ps : List Piece) (b d v post sq stop : Int) : Int := if d1R nm ps b d v post sq = 0 then stopE ps stop else d1R nm ps b d v post sq
theorem runE_d (nm : ByteArray) (ps : List Piece) (b d v post sq stop : Int) : runE nm ps b d v post sq stop = if d2R nm ps b d v post sq stop = 0 ∧ stop < post then 9 else d2R nm ps b d v post sq stop := by
  have h : runE nm ps b d v post sq stop = firstE [firstE [(chk nm ps).2, sysE b d v], stateE ps post sq, stopE ps stop, unlessE (decide (post ≤ stop)) 9] := rfl
  rw [h, firstE_four, d2R, d1R]
  by_cases h1 : firstE [(chk nm ps).2, sysE b d v] = 0
  · simp only [if_pos h1]
    by_cases h2 : stateE ps post sq = 0
    · simp only [if_pos h2]
      by_cases h3 : stopE ps stop = 0
      · simp only [if_pos h3, h3, true_and]
        by_cases h4 : stop < post
        · rw [if_pos h4, decide_eq_false (by omega)]; rfl
        · rw [if_neg h4, decide_eq_true (by omega)]; rfl
      · rw [if_neg h3, if_neg (fun q => h3 q.1)]
    · simp only [if_neg h2]; rw [if_neg (fun q => h2 q.1)]
  · simp only [if_neg h1]; rw [if_neg (fun q => h1 q.1)]
theorem runW_len {ps : List Piece} {b d stop post sq : Int} (h1 : ps.length ≤ 14) (h2 : stop < ps.length) (h0 : 0 ≤ post) : (runW ps b d stop post sq).1.length ≤ 1000 := by
  unfold runW
  split
  · simp
  · split
    · simp
    · rename_i l hl; have := goL_len hl; simp only; omega
end Go.Proofs.Ytgiiedpambimoaa
