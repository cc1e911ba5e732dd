/- Walks: the greatest step of a move, as specified and in the program. -/
import Derived.Test.YtdbglpaejmhbjaaDoorG1
namespace Go.Proofs.YtdbglpaejmhbjaaDoor
open Go Go.RowKit Go.Proofs
set_option linter.unusedSimpArgs false
set_option linter.unusedVariables false

/-- The greatest step of so many. -/
def gsN (F : Int → Int) (p : Int) : Nat → Int
  | 0 => 0
  | k + 1 => max (gsN F p k) (sizeW (wrap64 (F (p + k + 1) - F (p + k))))

set_option maxRecDepth 100000 in
set_option maxHeartbeats 1000000 in
theorem rGreatestStep_any (ls : List Int) (a : Option Addr) (n c : Nat) (p q : Int) (cs : List T2) (b : Option Addr) (c2 : Nat) (f : T2) (m : Nat) (w : World) (hl : ls.length = n) (hl2 : cs.length = n) (hn : n ≤ 1000) (hr : Rd w 1 a n (ints ls)) (hr2 : Rd w 2 b n (cells2 cs)) (hp : 0 ≤ p ∧ p ≤ 1000000000000) (hm : m ≤ 2000) :
    Calls Tryd.prog 47 #[.agg #[.slice a n c], .agg #[.int .i64 p, .int .i64 q], fV b n c2 f m] w fun e w' => e = .returned (.int .i64 (gsN (fun x => forceL f (overL x q 0 ls) cs 0) p m)) ∧ Ext w w' := by
  have HF := Lib.hid (fun (x : Int) w1 (h : Ext w w1) => rForceAt_any ls a n c x q cs b c2 f m w1 hl hl2 hn (hr.ext h) (hr2.ext h))
  clear hl hl2
  generalize hF : (fun x => forceL f (overL x q 0 ls) cs 0) = F
  have HFF := Lib.hid (show ∀ x, forceL f (overL x q 0 ls) cs 0 = F x from fun x => by rw [← hF])
  clear hF
  obtain ⟨hp0, hp1⟩ := hp
  go_enter Tryd.func47, Tryd.ntmps47
  go_wp2
  obtain ⟨W0, hW0⟩ : ∃ W0, ((w.alloc (.cells #[.slice a n c] 42)).alloc (.cells #[.int .i64 p, .int .i64 q] 44)).alloc (.cells #[.slice b n c2, .int .i64 f.1, .int .i64 f.2, .int .i64 m] 66) = W0 := ⟨_, rfl⟩
  rw [hW0]
  have hx0 : Ext w W0 := by rw [← hW0]; ((repeat' (first | with_reducible exact Ext.refl _ | assumption | with_reducible exact Ext.one _ | with_reducible refine Ext.alloc ?_ _ | with_reducible refine Ext.setCell ?_ ?_ _ | with_reducible refine Ext.drew ?_ | refine Ext.trans ?_ (by assumption))) <;> (try simp) <;> omega)
  have hb1 : Bx W0 w.heap.size 42 #[.slice a n c] := by rw [← hW0]; exact ((Bx.new w _ _).alloc _).alloc _
  have hb2 : Bx W0 (w.heap.size + 1) 44 #[.int .i64 p, .int .i64 q] := by rw [← hW0]; exact (Bx.new_at _ _ (by simp)).alloc _
  have hb3 : Bx W0 (w.heap.size + 1 + 1) 66 #[.slice b n c2, .int .i64 f.1, .int .i64 f.2, .int .i64 m] := by rw [← hW0]; exact Bx.new_at _ _ (by simp)
  clear hW0
  go_loopw [7, 8] (fun s i wr => ∃ k : Nat, k ≤ m ∧ i = .int .i64 k ∧ s = .int .i64 (gsN F p k) ∧ Ext W0 wr) (fun _ i _ => m - (intOf i).toNat)
  case atStart => exact ⟨0, Nat.zero_le _, rfl, rfl, Ext.refl _⟩
  case round =>
    obtain ⟨k, hk, rfl, rfl, hx⟩ := hrel
    obtain ⟨a0, a1, a2⟩ := (hb1.ext hx).at1
    obtain ⟨b0, b1, b2, b3, b4⟩ := (hb2.ext hx).at2
    have y0 : wr.cell? ⟨w.heap.size + 1 + 1, 0, none⟩ = some (.slice b n c2) := (hb3.ext hx).cell 0
    have y1 : wr.cell? ⟨w.heap.size + 1 + 1, 1, none⟩ = some (.int .i64 f.1) := (hb3.ext hx).cell 1
    have y2 : wr.cell? ⟨w.heap.size + 1 + 1, 2, none⟩ = some (.int .i64 f.2) := (hb3.ext hx).cell 2
    have y3 : wr.cell? ⟨w.heap.size + 1 + 1, 3, none⟩ = some (.int .i64 m) := (hb3.ext hx).cell 3
    have y4 := (hb3.ext hx).lt
    have hxw : Ext w wr := hx0.trans hx
    by_cases hlt : k < m
    · have H1 := Lib.hid (show ∀ w1, Ext w w1 → Calls Tryd.prog 45 #[.agg #[.slice a n c], .agg #[.int .i64 (p + k), .int .i64 q], fV b n c2 f m] w1 fun e w' => e = .returned (.int .i64 (F (p + k))) ∧ Ext w1 w' from fun w1 h => by
        have h1 := HF.out (p + k) w1 h
        rwa [HFF.out] at h1)
      have H2 := Lib.hid (show ∀ w1, Ext w w1 → Calls Tryd.prog 45 #[.agg #[.slice a n c], .agg #[.int .i64 (p + k + 1), .int .i64 q], fV b n c2 f m] w1 fun e w' => e = .returned (.int .i64 (F (p + k + 1))) ∧ Ext w1 w' from fun w1 h => by
        have h1 := HF.out (p + k + 1) w1 h
        rwa [HFF.out] at h1)
      have HZ := Lib.hid (bSize_any (wrap64 (F (p + k + 1) - F (p + k))))
      have hg : Hid (gsN F p (k + 1) = max (gsN F p k) (sizeW (wrap64 (F (p + k + 1) - F (p + k))))) := by show _ = _; rfl
      generalize sizeW (wrap64 (F (p + k + 1) - F (p + k))) = z at *
      generalize gsN F p k = g at *
      generalize F (p + k + 1) = u at *
      generalize F (p + k) = v at *
      have hkm : (k : Int) < 2000 := by omega
      have hkm0 : (0 : Int) ≤ k := by omega
      go_wp2_with (first | (go_at_call 45; (with_reducible refine (H1.out _ (by ((repeat' (first | with_reducible exact Ext.refl _ | assumption | with_reducible exact Ext.one _ | with_reducible refine Ext.alloc ?_ _ | with_reducible refine Ext.setCell ?_ ?_ _ | with_reducible refine Ext.drew ?_ | refine Ext.trans ?_ (by assumption))) <;> (try simp) <;> omega))).mono ?_); rintro e w3 ⟨rfl, hx3⟩; obtain ⟨hc3, hf3⟩ := bcell hx3; have hzw3_0 : w.heap.size < w3.heap.size := (by have := hx3.size; (try simp at this); omega); have hzw3_1 : w.heap.size + 1 < w3.heap.size := (by have := hx3.size; (try simp at this); omega); have hzw3_2 : w.heap.size + 1 + 1 < w3.heap.size := (by have := hx3.size; (try simp at this); omega)) | (go_at_call 45; (with_reducible refine (H2.out _ (by ((repeat' (first | with_reducible exact Ext.refl _ | assumption | with_reducible exact Ext.one _ | with_reducible refine Ext.alloc ?_ _ | with_reducible refine Ext.setCell ?_ ?_ _ | with_reducible refine Ext.drew ?_ | refine Ext.trans ?_ (by assumption))) <;> (try simp) <;> omega))).mono ?_); rintro e w4 ⟨rfl, hx4⟩; obtain ⟨hc4, hf4⟩ := bcell hx4; have hzw4_0 : w.heap.size < w4.heap.size := (by have := hx4.size; (try simp at this); omega); have hzw4_1 : w.heap.size + 1 < w4.heap.size := (by have := hx4.size; (try simp at this); omega); have hzw4_2 : w.heap.size + 1 + 1 < w4.heap.size := (by have := hx4.size; (try simp at this); omega)) | (go_at_call 52; (with_reducible refine (HZ.out _).mono ?_); rintro e w5 ⟨rfl, hx5⟩; obtain ⟨hc5, hf5⟩ := bcell hx5; have hzw5_0 : w.heap.size < w5.heap.size := (by have := hx5.size; (try simp at this); omega); have hzw5_1 : w.heap.size + 1 < w5.heap.size := (by have := hx5.size; (try simp at this); omega); have hzw5_2 : w.heap.size + 1 + 1 < w5.heap.size := (by have := hx5.size; (try simp at this); omega)))
      go_roundw
      case rel => exact ⟨k + 1, by omega, by go_num, by rw [hg.out], by ((repeat' (first | with_reducible exact Ext.refl _ | assumption | with_reducible exact Ext.one _ | with_reducible refine Ext.alloc ?_ _ | with_reducible refine Ext.setCell ?_ ?_ _ | with_reducible refine Ext.drew ?_ | refine Ext.trans ?_ (by assumption))) <;> (try simp) <;> omega)⟩
      case measure => simp [intOf]; omega
    · obtain rfl : k = m := by omega
      go_wp2
      go_ret
      exact ⟨rfl, hxw⟩
end Go.Proofs.YtdbglpaejmhbjaaDoor
