/- Plain facts: the program's nearest states are the reference's. -/
import Derived.Test.YtdbglpaejmhbjaaDoorM1
import Derived.Test.YtdbglpaejmhbjaaDoorR1
namespace Go.Proofs.YtdbglpaejmhbjaaDoor
open Go Go.RowKit Go.Proofs
set_option linter.unusedSimpArgs false
set_option linter.unusedVariables false

def InW (v : T2) : Prop := wrap64 v.1 = v.1 ∧ wrap64 v.2 = v.2
theorem restW_zero {s : Int} {v : T2} (h : InW v) : restW s v 0 = v := by
  have e : byW (stV 0) s = (0, 0) := by
    have : stV 0 = (0, 0) := by decide +kernel
    rw [this]; simp only [byW, Int.mul_zero]; decide +kernel
  unfold restW subW
  rw [e]
  simp only [Int.sub_zero, h.1, h.2]
/-- One state more. -/
theorem near_step (s : Int) (v : T2) (k : Nat) (x : T2) (r : List (Int × T2)) (hx : stV ((k : Int) + 1) = x) :
    nearL s v (((k : Int) + 1, x) :: r) (nearG s v k) (restW s v (nearG s v k)) = nearL s v r (nearG s v (k + 1)) (restW s v (nearG s v (k + 1))) := by
  subst hx
  simp only [nearL, nearG]
  show (if normW (restW s v ((k : Int) + 1)) < normW (restW s v (nearG s v k)) then nearL s v r ((k : Int) + 1) (restW s v ((k : Int) + 1)) else nearL s v r (nearG s v k) (restW s v (nearG s v k))) = _
  split <;> rfl
theorem nearW_eq {s : Int} {v : T2} (h : InW v) : nearW s v = (nearG s v 7, restW s v (nearG s v 7)) := by
  have h0 := restW_zero (s := s) h
  have e0 : nearW s v = nearL s v [(1, -1, -1), (2, 0, 1), (3, -1, 0), (4, 1, 0), (5, 0, -1), (6, 1, 1), (7, 0, 0)] (nearG s v 0) (restW s v (nearG s v 0)) := by
    have e1 : nearG s v 0 = 0 := rfl
    rw [e1, h0]
    unfold nearW stT
    show nearL s v ((0, ((0, 0) : T2)) :: _) 0 v = _
    simp only [nearL]
    have e2 : subW v (byW ((0, 0) : T2) s) = v := by
      have : ((0, 0) : T2) = stV 0 := by decide +kernel
      rw [this]; exact h0
    rw [e2, if_neg (by omega)]
  rw [e0]
  rw [show ((1 : Int), ((-1, -1) : T2)) = (((0 : Nat) : Int) + 1, ((-1, -1) : T2)) from rfl, near_step s v 0 _ _ (by decide +kernel)]
  rw [show ((2 : Int), ((0, 1) : T2)) = (((1 : Nat) : Int) + 1, ((0, 1) : T2)) from rfl, near_step s v 1 _ _ (by decide +kernel)]
  rw [show ((3 : Int), ((-1, 0) : T2)) = (((2 : Nat) : Int) + 1, ((-1, 0) : T2)) from rfl, near_step s v 2 _ _ (by decide +kernel)]
  rw [show ((4 : Int), ((1, 0) : T2)) = (((3 : Nat) : Int) + 1, ((1, 0) : T2)) from rfl, near_step s v 3 _ _ (by decide +kernel)]
  rw [show ((5 : Int), ((0, -1) : T2)) = (((4 : Nat) : Int) + 1, ((0, -1) : T2)) from rfl, near_step s v 4 _ _ (by decide +kernel)]
  rw [show ((6 : Int), ((1, 1) : T2)) = (((5 : Nat) : Int) + 1, ((1, 1) : T2)) from rfl, near_step s v 5 _ _ (by decide +kernel)]
  rw [show ((7 : Int), ((0, 0) : T2)) = (((6 : Nat) : Int) + 1, ((0, 0) : T2)) from rfl, near_step s v 6 _ _ (by decide +kernel)]
  rfl
theorem inW_add (l c : T2) : InW (addW l c) := ⟨wrap_wrap _, wrap_wrap _⟩
theorem modGo_eq (s : Int) : ∀ (cs : List T2) (l : T2), modGo s l cs = rmodGo s l cs
  | [], _ => rfl
  | c :: cs, l => by
    simp only [modGo, rmodGo]
    rw [nearW_eq (inW_add l c), modGo_eq s cs]
theorem inW_right {v : T2} (h : rightB v = true) : InW v := by
  have := right_sm h
  unfold Sm at this
  exact ⟨wrap64_small (by omega) (by omega), wrap64_small (by omega) (by omega)⟩
theorem nearB_eq {s : Int} {v : T2} (hs : 1 ≤ s ∧ s ≤ 100000) (h : rightB v = true) : nearB s v = nearR s v := by
  have hm := right_sm h
  unfold Sm at hm
  have h1 : wrap64 (v.1 + v.2) = v.1 + v.2 := wrap64_small (by omega) (by omega)
  have h2 : (splitW v).2.2 = -v.1 - v.2 := by
    simp only [splitW]
    rw [wrap64_small (n := -v.1) (by omega) (by omega), wrap64_small (by omega) (by omega)]
  have h3 : smallB (splitW v).2.2 s = smallB (wrap64 (v.1 + v.2)) s := by
    rw [h1, h2]
    unfold smallB
    rw [wrap64_small (n := -s) (by omega) (by omega)]
    simp only [withinB]
    rw [Bool.eq_iff_iff]
    simp only [Bool.and_eq_true, decide_eq_true_eq]
    omega
  simp only [nearB, nearR, p3L, List.all_cons, List.all_nil, Bool.and_true, h3]
theorem scaled_cases (s : Int) (v : T2) : (scaledE s v = 2 ∧ (withinB s 1 100000 = false ∨ rightB v = false)) ∨ (scaledE s v = 0 ∧ withinB s 1 100000 = true ∧ rightB v = true) := by
  unfold scaledE
  cases withinB s 1 100000 <;> cases rightB v <;> simp [firstE, unlessE]
end Go.Proofs.YtdbglpaejmhbjaaDoor
