/- Texts of this claim, one behind the other: lemmas for the statement. -/
import Derived.Test.YtgiiedpambimoaaK30
import Derived.Test.YtgiiedpambimoaaK26
/- Chapter 5: the errors of a run, one by one. No conditions on a program. -/
namespace Go.Proofs.Ytgiiedpambimoaa
open Go Go.RowKit Go.Proofs
set_option linter.unusedSimpArgs false
set_option linter.unusedVariables false

theorem firstE_four (a b c e : Int) : firstE [a, b, c, e] = if a = 0 then (if b = 0 then (if c = 0 then e else c) else b) else a := by
  simp only [firstE]
  by_cases h1 : a = 0
  · rw [if_pos h1, if_pos h1]
    by_cases h2 : b = 0
    · rw [if_pos h2, if_pos h2]
      by_cases h3 : c = 0
      · rw [if_pos h3, if_pos h3]; split <;> simp_all
      · rw [if_neg h3, if_neg h3]
    · rw [if_neg h2, if_neg h2]
  · rw [if_neg h1, if_neg h1]
def d1R (nm : ByteArray) (ps : List Piece) (b d v post sq : Int) : Int := if firstE [(chk nm ps).2, sysE b d v] = 0 then stateE ps post sq else firstE [(chk nm ps).2, sysE b d v]
def d2R (nm : ByteArray) (ps : List Piece) (b d v post sq stop : Int) : Int := if d1R nm ps b d v post sq = 0 then stopE ps stop else d1R nm ps b d v post sq
theorem runE_d (nm : ByteArray) (ps : List Piece) (b d v post sq stop : Int) : runE nm ps b d v post sq stop = if d2R nm ps b d v post sq stop = 0 ∧ stop < post then 9 else d2R nm ps b d v post sq stop := by
  have h : runE nm ps b d v post sq stop = firstE [firstE [(chk nm ps).2, sysE b d v], stateE ps post sq, stopE ps stop, unlessE (decide (post ≤ stop)) 9] := rfl
  rw [h, firstE_four, d2R, d1R]
  by_cases h1 : firstE [(chk nm ps).2, sysE b d v] = 0
  · simp only [if_pos h1]
    by_cases h2 : stateE ps post sq = 0
    · simp only [if_pos h2]
      by_cases h3 : stopE ps stop = 0
      · simp only [if_pos h3, h3, true_and]
        by_cases h4 : stop < post
        · rw [if_pos h4, decide_eq_false (by omega)]; rfl
        · rw [if_neg h4, decide_eq_true (by omega)]; rfl
      · rw [if_neg h3, if_neg (fun q => h3 q.1)]
    · simp only [if_neg h2]; rw [if_neg (fun q => h2 q.1)]
  · simp only [if_neg h1]; rw [if_neg (fun q => h1 q.1)]
end Go.Proofs.Ytgiiedpambimoaa

/- The law of chapter 5 on forward and backward. No conditions on a program. -/
namespace Go.Proofs.Ytgiiedpambimoaa
open Go Go.RowKit Go.Proofs
set_option linter.unusedSimpArgs false
set_option linter.unusedVariables false

end Go.Proofs.Ytgiiedpambimoaa

/- Contracts of chapter 5, asked rightly. No conditions on a program. -/
namespace Go.Proofs.Ytgiiedpambimoaa
open Go Go.RowKit Go.Proofs
set_option linter.unusedSimpArgs false
set_option linter.unusedVariables false

section
variable {nm : ByteArray} {ps : List Piece} (hs : nm.size ≤ 1000000000) (hp : ps.length ≤ 1000000000) {b d v post sq stop : Int} (hq : runE nm ps b d v post sq stop = 0) (hc : curE nm ps b d v stop = 0)
include hs hp
theorem curveOf2_ok (hc : curE nm ps b d v stop = 0) : FnOk Try.prog 34 [trA nm ps, syA b d v, iA stop] (fun q => q = .tuple [.row 1 ((bwL ps b 0 (stop + 1).toNat).map iE), iA 0]) :=
  (curveOf_ok nm ps hs hp b d v stop).mono fun q h => h.trans (by rw [hc, if_pos rfl])
theorem runTo3_ok (hq : runE nm ps b d v post sq stop = 0) : FnOk Try.prog 36 [trA nm ps, syA b d v, .agg [iA post, iA sq], iA stop] (fun q => q = .tuple [.row 1 ((runW ps b d stop post sq).1.map iE), iA (runW ps b d stop post sq).2]) :=
  (runTo_ok nm ps hs hp b d v post sq stop).mono fun q h => h.trans (by rw [hq, if_pos rfl, if_pos rfl])
end
theorem runE_zero {nm : ByteArray} {ps : List Piece} {b d v post sq stop : Int} (hB : firstE [(chk nm ps).2, sysE b d v] = 0) (hS : stateE ps post sq = 0) (hT : stopE ps stop = 0) (hle : post ≤ stop) : runE nm ps b d v post sq stop = 0 ∧ curE nm ps b d v stop = 0 := by
  constructor
  · rw [runE_d, d2R, d1R, if_pos hB, if_pos hS, if_neg (by omega)]; exact hT
  · have h : curE nm ps b d v stop = firstE [firstE [(chk nm ps).2, sysE b d v], stopE ps stop] := rfl
    rw [h, firstE_two, if_pos hB]; exact hT
end Go.Proofs.Ytgiiedpambimoaa

/- The law of chapter 5 on better brakes: the plain law. No conditions on a program. -/
namespace Go.Proofs.Ytgiiedpambimoaa
open Go Go.RowKit Go.Proofs
set_option linter.unusedSimpArgs false
set_option linter.unusedVariables false

end Go.Proofs.Ytgiiedpambimoaa

/- The law of chapter 5 that nothing is faster: the plain law. No conditions on a program. -/
namespace Go.Proofs.Ytgiiedpambimoaa
open Go Go.RowKit Go.Proofs
set_option linter.unusedSimpArgs false
set_option linter.unusedVariables false

/-! ### Faster squares take no longer -/
end Go.Proofs.Ytgiiedpambimoaa

/- The law of chapter 5 on curves. No conditions on a program. -/
namespace Go.Proofs.Ytgiiedpambimoaa
open Go Go.RowKit Go.Proofs
set_option linter.unusedSimpArgs false
set_option linter.unusedVariables false

end Go.Proofs.Ytgiiedpambimoaa

/- The law of chapter 5 on the fastest squares. No conditions on a program. -/
namespace Go.Proofs.Ytgiiedpambimoaa
open Go Go.RowKit Go.Proofs
set_option linter.unusedSimpArgs false
set_option linter.unusedVariables false

end Go.Proofs.Ytgiiedpambimoaa

/- The law of chapter 5 that nothing is faster: the walk. No conditions on a program. -/
namespace Go.Proofs.Ytgiiedpambimoaa
open Go Go.RowKit Go.Proofs
set_option linter.unusedSimpArgs false
set_option linter.unusedVariables false
def ckf (nm : ByteArray) (ps : List Piece) (b d v : Int) (xs : List Int) : Int := if cskE nm ps b d v xs = 0 then (cskW ps b v xs).2 else cskE nm ps b d v xs
def rivB (nm : ByteArray) (ps : List Piece) (b d v e0 e1 : Int) (xs : List Int) : Prop := ckf nm ps b d v xs = 0 ∧ xs.length = ps.length + 1 ∧ xs.getD 0 default = e0 ∧ xs.getD ps.length default ≤ e1
instance (nm : ByteArray) (ps : List Piece) (b d v e0 e1 : Int) (xs : List Int) : Decidable (rivB nm ps b d v e0 e1 xs) := by unfold rivB; exact inferInstance
section
variable {nm : ByteArray} {ps : List Piece} (hs : nm.size ≤ 1000000000) (hp : ps.length ≤ 1000000000) {b d v : Int}
include hs hp
theorem timeOf0_ok {xs : List Int} (hx : xs.length ≤ 1000000000) (h : (chk nm ps).2 = 0) (h1 : sqsE ps xs = 0) : FnOk Try.prog 25 [trA nm ps, .row 1 (xs.map iE)] (fun q => q = .tuple [.agg [iA (timW ps xs).1.1, iA (timW ps xs).1.2], iA (timW ps xs).2]) := by
  have hf : timE nm ps xs = 0 := by unfold timE; rw [h, h1]; rfl
  refine (timeOf_ok nm ps hs hp xs hx).mono fun q hq => ?_
  rw [hq, if_pos hf, if_pos hf]
end

end Go.Proofs.Ytgiiedpambimoaa

