/- Walks: a vector turned; forces at a place. -/
import Derived.Test.YtdbglpaejmhbjaaDoorW10
import Derived.Test.YtdbglpaejmhbjaaDoorBox
namespace Go.Proofs.YtdbglpaejmhbjaaDoor
open Go Go.RowKit Go.Proofs
set_option linter.unusedSimpArgs false
set_option linter.unusedVariables false

/-- How many sixths are left. -/
def sixN (s : Int) : Nat := (s % 6).toNat
theorem sixN_lt (s : Int) : sixN s < 6 := by unfold sixN; omega
theorem sixN_eq (s : Int) : (wrap64 (s.tmod 6 + 6)).tmod 6 = (sixN s : Int) := by
  have h1 : s.tmod 6 = if 0 ≤ s ∨ s % 6 = 0 then s % 6 else s % 6 - 6 := by
    rw [Int.tmod_eq_emod]; simp only [show (6 : Int) ∣ s ↔ s % 6 = 0 from Int.dvd_iff_emod_eq_zero]; split <;> simp
  have h2 : wrap64 (s.tmod 6 + 6) = s.tmod 6 + 6 := by unfold wrap64; split at h1 <;> omega
  rw [h2]
  rw [Int.tmod_eq_emod]
  simp only [sixN]
  split at h1 <;> split <;> simp_all <;> omega
def turnStep (v : T2) : T2 := (wrap64 (v.1 - v.2), v.1)
def turnW : Nat → T2 → T2
  | 0, v => v
  | k + 1, v => turnStep (turnW k v)

set_option maxRecDepth 100000 in
set_option maxHeartbeats 1000000 in
theorem turned_any (v : T2) (s : Int) (w : World) : Calls Tryd.prog 89 #[tV v, .int .i64 s] w fun e w' => e = .returned (tV (turnW (sixN s) v)) ∧ Ext w w' := by
  have hK := sixN_eq s
  have hK5 := sixN_lt s
  generalize sixN s = K at hK hK5 ⊢
  go_enter Tryd.func89, Tryd.ntmps89
  go_wp2
  go_loopw [9] (fun i wr => ∃ k : Nat, k ≤ K ∧ i = .int .i64 k ∧ Bx wr w.heap.size 120 #[.int .i64 (turnW k v).1, .int .i64 (turnW k v).2] ∧ Bx wr (w.heap.size + 1) 120 #[.int .i64 0, .int .i64 0] ∧ Ext w wr) (fun i _ => K - (intOf i).toNat)
  case atStart => exact ⟨0, Nat.zero_le _, rfl, (Bx.new w _ _).alloc _, by have := Bx.new (w.alloc (.cells #[.int .i64 v.1, .int .i64 v.2] 120)) #[.int .i64 0, .int .i64 0] 120; rwa [World.size_alloc] at this, by ((repeat' (first | with_reducible exact Ext.refl _ | with_reducible assumption | with_reducible exact Ext.one _ | with_reducible refine Ext.alloc ?_ _ | with_reducible refine Ext.setCell ?_ ?_ _ | with_reducible refine Ext.drew ?_ | ((with_reducible apply Ext.after'); (with_reducible assumption)))) <;> (try simp) <;> omega)⟩
  case round =>
    obtain ⟨k, hk, rfl, hA, hB, hx⟩ := hrel
    obtain ⟨a0, a1, a2, a3, a4⟩ := hA.at2
    obtain ⟨b0, b1, b2, b3, b4⟩ := hB.at2
    by_cases hlt : k < K
    · go_wp2
      go_roundw
      case rel => exact ⟨k + 1, by omega, by go_num, hA.set2 _ _, (hB.other (by simp) _).other (by simp) _, by ((repeat' (first | with_reducible exact Ext.refl _ | with_reducible assumption | with_reducible exact Ext.one _ | with_reducible refine Ext.alloc ?_ _ | with_reducible refine Ext.setCell ?_ ?_ _ | with_reducible refine Ext.drew ?_ | ((with_reducible apply Ext.after'); (with_reducible assumption)))) <;> (try simp) <;> omega)⟩
      case measure => simp [intOf]; omega
    · go_wp2
      obtain rfl : k = K := by omega
      exact bodyPost_ret (v := tV (turnW k v)) (by simp [results, Tryd.results89, go_sem, a0, a1, b0, b1]) rfl ⟨rfl, by ((repeat' (first | with_reducible exact Ext.refl _ | with_reducible assumption | with_reducible exact Ext.one _ | with_reducible refine Ext.alloc ?_ _ | with_reducible refine Ext.setCell ?_ ?_ _ | with_reducible refine Ext.drew ?_ | ((with_reducible apply Ext.after'); (with_reducible assumption)))) <;> (try simp) <;> omega)⟩

/-! the checks over a list that has just been written -/
theorem rightOf1 (v : T2) (t : TypeId) (w : World) (A : Nat) (hA : A = w.heap.size) : Calls Tryd.prog 82 #[.slice (some ⟨A, 0, none⟩) 1 1] (w.alloc (.cells #[.int .i64 v.1, .int .i64 v.2] t)) fun e w' => e = .returned (.int .i64 (unlessE (rightB v) 2)) ∧ Ext (w.alloc (.cells #[.int .i64 v.1, .int .i64 v.2] t)) w' := by
  subst hA
  have h := right_any [v] (some ⟨w.heap.size, 0, none⟩) 1 1 _ rfl (by omega) (Rd.new w 2 1 #[.int .i64 v.1, .int .i64 v.2] t rfl)
  rwa [show [v].all rightB = rightB v by simp] at h
theorem rightOf2 (v u : T2) (t : TypeId) (w : World) (A : Nat) (hA : A = w.heap.size) : Calls Tryd.prog 82 #[.slice (some ⟨A, 0, none⟩) 2 2] (w.alloc (.cells #[.int .i64 v.1, .int .i64 v.2, .int .i64 u.1, .int .i64 u.2] t)) fun e w' => e = .returned (.int .i64 (unlessE (rightB v && rightB u) 2)) ∧ Ext (w.alloc (.cells #[.int .i64 v.1, .int .i64 v.2, .int .i64 u.1, .int .i64 u.2] t)) w' := by
  subst hA
  have h := right_any [v, u] (some ⟨w.heap.size, 0, none⟩) 2 2 _ rfl (by omega) (Rd.new w 2 2 #[.int .i64 v.1, .int .i64 v.2, .int .i64 u.1, .int .i64 u.2] t rfl)
  rwa [show [v, u].all rightB = (rightB v && rightB u) by simp] at h
theorem firstOf2 (a b : Int) (t : TypeId) (w : World) (A : Nat) (hA : A = w.heap.size) : Calls Tryd.prog 80 #[.slice (some ⟨A, 0, none⟩) 2 2] (w.alloc (.cells #[.int .i64 a, .int .i64 b] t)) fun e w' => e = .returned (.int .i64 (firstE [a, b])) ∧ w.alloc (.cells #[.int .i64 a, .int .i64 b] t) = w' := by
  subst hA
  exact first_any [a, b] _ 2 2 _ rfl (by omega) (Rd.new w 1 2 #[.int .i64 a, .int .i64 b] t rfl)
theorem firstOf3 (a b c : Int) (t : TypeId) (w : World) (A : Nat) (hA : A = w.heap.size) : Calls Tryd.prog 80 #[.slice (some ⟨A, 0, none⟩) 3 3] (w.alloc (.cells #[.int .i64 a, .int .i64 b, .int .i64 c] t)) fun e w' => e = .returned (.int .i64 (firstE [a, b, c])) ∧ w.alloc (.cells #[.int .i64 a, .int .i64 b, .int .i64 c] t) = w' := by
  subst hA
  exact first_any [a, b, c] _ 3 3 _ rfl (by omega) (Rd.new w 1 3 #[.int .i64 a, .int .i64 b, .int .i64 c] t rfl)
theorem firstOf4 (a b c d : Int) (t : TypeId) (w : World) (A : Nat) (hA : A = w.heap.size) : Calls Tryd.prog 80 #[.slice (some ⟨A, 0, none⟩) 4 4] (w.alloc (.cells #[.int .i64 a, .int .i64 b, .int .i64 c, .int .i64 d] t)) fun e w' => e = .returned (.int .i64 (firstE [a, b, c, d])) ∧ w.alloc (.cells #[.int .i64 a, .int .i64 b, .int .i64 c, .int .i64 d] t) = w' := by
  subst hA
  exact first_any [a, b, c, d] _ 4 4 _ rfl (by omega) (Rd.new w 1 4 #[.int .i64 a, .int .i64 b, .int .i64 c, .int .i64 d] t rfl)

def turnedE (v : T2) (s : Int) : Int := firstE [unlessE (rightB v) 2, unlessE (smallB s 1000000) 2]
def turnedR (v : T2) (s : Int) : T2 := if turnedE v s = 0 then turnW (sixN s) v else (0, 0)
set_option maxRecDepth 100000 in
set_option maxHeartbeats 1000000 in
theorem sTurned_any (v : T2) (s : Int) (w : World) : Calls Tryd.prog 21 #[tV v, .int .i64 s] w fun e w' => e = .returned (.tuple #[tV (turnedR v s), .int .i64 (turnedE v s)]) ∧ Ext w w' := by
  by_cases hE : turnedE v s = 0
  · have HE := Lib.hid hE
    clear hE
    go_enter Tryd.func21, Tryd.ntmps21
    go_wp2_with (first | (go_at_call 82; refine (rightOf1 v _ _ _ (by simp)).mono ?_; rintro e w3 ⟨rfl, hx3⟩; obtain ⟨hc3, hf3⟩ := bcell hx3; have hzw3_0 : w.heap.size < w3.heap.size := (by have := hx3.size; (try simp at this); omega); have hzw3_1 : w.heap.size + 1 < w3.heap.size := (by have := hx3.size; (try simp at this); omega); have hzw3_2 : w.heap.size + 1 + 1 < w3.heap.size := (by have := hx3.size; (try simp at this); omega)) | (go_at_call 80; refine (firstOf2 _ _ _ _ _ (by simp)).mono ?_; rintro e w4 ⟨rfl, rfl⟩; rw [show firstE [unlessE (rightB v) 2, unlessE (smallB s 1000000) 2] = 0 from HE.out]) | (go_at_call 89; refine (turned_any v s _).mono ?_; rintro e w5 ⟨rfl, hx5⟩; obtain ⟨hc5, hf5⟩ := bcell hx5; have hzw5_0 : w.heap.size < w5.heap.size := (by have := hx5.size; (try simp at this); omega); have hzw5_1 : w.heap.size + 1 < w5.heap.size := (by have := hx5.size; (try simp at this); omega); have hzw5_2 : w.heap.size + 1 + 1 < w5.heap.size := (by have := hx5.size; (try simp at this); omega)) | (first | (go_at_call 88; refine (small_any _ _ _).mono ?_; rintro e wz ⟨rfl, rfl⟩) | (go_at_call 81; refine (unless_any _ _ _).mono ?_; rintro e wz ⟨rfl, rfl⟩)))
    rw [show turnedR v s = turnW (sixN s) v by unfold turnedR; rw [if_pos HE.out], HE.out]
    exact bodyPost_ret (v := .tuple #[tV (turnW (sixN s) v), .int .i64 0]) (by simp [results, Tryd.results21, go_sem, hc5, hc3, hzw3_0, hzw3_1, hzw3_2, hzw5_0, hzw5_1, hzw5_2]) rfl ⟨rfl, by ((repeat' (first | with_reducible exact Ext.refl _ | with_reducible assumption | with_reducible exact Ext.one _ | with_reducible refine Ext.alloc ?_ _ | with_reducible refine Ext.setCell ?_ ?_ _ | with_reducible refine Ext.drew ?_ | ((with_reducible apply Ext.after'); (with_reducible assumption)))) <;> (try simp) <;> omega)⟩
  · have hE' : (turnedE v s != 0) = true := by simp [hE]
    rw [show turnedR v s = (0, 0) by unfold turnedR; rw [if_neg hE]]
    unfold turnedE at hE' ⊢
    clear hE
    generalize hF : firstE [unlessE (rightB v) 2, unlessE (smallB s 1000000) 2] = F at hE' ⊢
    have HF := Lib.hid hF
    clear hF
    go_enter Tryd.func21, Tryd.ntmps21
    go_wp2_with (first | (go_at_call 82; refine (rightOf1 v _ _ _ (by simp)).mono ?_; rintro e w3 ⟨rfl, hx3⟩; obtain ⟨hc3, hf3⟩ := bcell hx3; have hzw3_0 : w.heap.size < w3.heap.size := (by have := hx3.size; (try simp at this); omega); have hzw3_1 : w.heap.size + 1 < w3.heap.size := (by have := hx3.size; (try simp at this); omega); have hzw3_2 : w.heap.size + 1 + 1 < w3.heap.size := (by have := hx3.size; (try simp at this); omega)) | (go_at_call 80; refine (firstOf2 _ _ _ _ _ (by simp)).mono ?_; rintro e w4 ⟨rfl, rfl⟩; rw [HF.out]) | (first | (go_at_call 88; refine (small_any _ _ _).mono ?_; rintro e wz ⟨rfl, rfl⟩) | (go_at_call 81; refine (unless_any _ _ _).mono ?_; rintro e wz ⟨rfl, rfl⟩)))
    exact bodyPost_ret (v := .tuple #[tV (0, 0), .int .i64 F]) (by simp [results, Tryd.results21, go_sem, hc3, hzw3_1]) rfl ⟨rfl, by ((repeat' (first | with_reducible exact Ext.refl _ | with_reducible assumption | with_reducible exact Ext.one _ | with_reducible refine Ext.alloc ?_ _ | with_reducible refine Ext.setCell ?_ ?_ _ | with_reducible refine Ext.drew ?_ | ((with_reducible apply Ext.after'); (with_reducible assumption)))) <;> (try simp) <;> omega)⟩

set_option maxRecDepth 100000 in
set_option maxHeartbeats 1000000 in
theorem forceAt_any (ls : List Int) (a : Option Addr) (n c : Nat) (p q : Int) (cs : List T2) (b : Option Addr) (m c2 : Nat) (f : T2) (mv : Int) (w : World) (hl : ls.length = n) (hl2 : cs.length = m) (hn : n ≤ 1000) (hm : m ≤ 1000) (hr : Rd w 1 a n (ints ls)) (hr2 : Rd w 2 b m (cells2 cs)) :
    Calls Tryd.prog 40 #[.agg #[.slice a n c], .agg #[.int .i64 p, .int .i64 q], fV b m c2 f mv] w fun e w' =>
      e = .returned (.tuple #[.int .i64 (if openFeedE n ls p q m cs f = 0 then forceL f (overL p q 0 ls) cs 0 else 0), .int .i64 (openFeedE n ls p q m cs f)]) ∧ Ext w w' := by
  have HO := Lib.hid (fun w1 (h : Ext w w1) => openFeed_any ls a n c p q cs b m c2 f mv w1 hl hn (hr.ext h) hl2 hm (hr2.ext h))
  by_cases hE : openFeedE n ls p q m cs f = 0
  · have hmn : m = n := by
      by_cases h : m = n
      · exact h
      · exfalso
        revert hE
        unfold openFeedE
        simp only [firstE, unlessE, show (m == n) = false by simp [h]]
        split <;> simp_all
    subst hmn
    have HF := Lib.hid (fun w1 (h : Ext w w1) => force_any ls a m c p q cs b c2 f mv w1 hl hl2 hn (hr.ext h) (hr2.ext h))
    rw [if_pos hE]
    generalize hV : forceL f (overL p q 0 ls) cs 0 = V at *
    have HE := Lib.hid hE
    clear hE hV hl hl2
    go_enter Tryd.func40, Tryd.ntmps40
    go_wp2_with (first | (go_at_call 105; refine (HO.out _ (by ((repeat' (first | with_reducible exact Ext.refl _ | with_reducible assumption | with_reducible exact Ext.one _ | with_reducible refine Ext.alloc ?_ _ | with_reducible refine Ext.setCell ?_ ?_ _ | with_reducible refine Ext.drew ?_ | ((with_reducible apply Ext.after'); (with_reducible assumption)))) <;> (try simp) <;> omega))).mono ?_; rintro e w3 ⟨rfl, hx3⟩; obtain ⟨hc3, hf3⟩ := bcell hx3; have hzw3_0 : w.heap.size < w3.heap.size := (by have := hx3.size; (try simp at this); omega); have hzw3_1 : w.heap.size + 1 < w3.heap.size := (by have := hx3.size; (try simp at this); omega); have hzw3_2 : w.heap.size + 1 + 1 < w3.heap.size := (by have := hx3.size; (try simp at this); omega); rw [HE.out]) | (go_at_call 106; refine (HF.out _ (by ((repeat' (first | with_reducible exact Ext.refl _ | with_reducible assumption | with_reducible exact Ext.one _ | with_reducible refine Ext.alloc ?_ _ | with_reducible refine Ext.setCell ?_ ?_ _ | with_reducible refine Ext.drew ?_ | ((with_reducible apply Ext.after'); (with_reducible assumption)))) <;> (try simp) <;> omega))).mono ?_; rintro e w4 ⟨rfl, hx4⟩))
    go_ret2
    exact ⟨ret_pair rfl HE.out.symm, by ((repeat' (first | with_reducible exact Ext.refl _ | with_reducible assumption | with_reducible exact Ext.one _ | with_reducible refine Ext.alloc ?_ _ | with_reducible refine Ext.setCell ?_ ?_ _ | with_reducible refine Ext.drew ?_ | ((with_reducible apply Ext.after'); (with_reducible assumption)))) <;> (try simp) <;> omega)⟩
  · have hE' : (openFeedE n ls p q m cs f != 0) = true := by simp [hE]
    rw [if_neg hE]
    clear hl hl2 hE
    generalize openFeedE n ls p q m cs f = E at *
    go_enter Tryd.func40, Tryd.ntmps40
    go_wp2_with (first | (go_at_call 105; refine (HO.out _ (by ((repeat' (first | with_reducible exact Ext.refl _ | with_reducible assumption | with_reducible exact Ext.one _ | with_reducible refine Ext.alloc ?_ _ | with_reducible refine Ext.setCell ?_ ?_ _ | with_reducible refine Ext.drew ?_ | ((with_reducible apply Ext.after'); (with_reducible assumption)))) <;> (try simp) <;> omega))).mono ?_; rintro e w3 ⟨rfl, hx3⟩; obtain ⟨hc3, hf3⟩ := bcell hx3; have hzw3_0 : w.heap.size < w3.heap.size := (by have := hx3.size; (try simp at this); omega); have hzw3_1 : w.heap.size + 1 < w3.heap.size := (by have := hx3.size; (try simp at this); omega); have hzw3_2 : w.heap.size + 1 + 1 < w3.heap.size := (by have := hx3.size; (try simp at this); omega)))
    go_ret2
    exact ⟨rfl, by ((repeat' (first | with_reducible exact Ext.refl _ | with_reducible assumption | with_reducible exact Ext.one _ | with_reducible refine Ext.alloc ?_ _ | with_reducible refine Ext.setCell ?_ ?_ _ | with_reducible refine Ext.drew ?_ | ((with_reducible apply Ext.after'); (with_reducible assumption)))) <;> (try simp) <;> omega)⟩
end Go.Proofs.YtdbglpaejmhbjaaDoor
