/- Walks: copies in memory of their own. -/
import Derived.Test.YtdbglpaejmhbjaaDoorW7
import Derived.Test.YtdbglpaejmhbjaaDoorApp
namespace Go.Proofs.YtdbglpaejmhbjaaDoor
open Go Go.RowKit Go.Proofs
set_option linter.unusedSimpArgs false
set_option linter.unusedVariables false

/-- The end: a slice of n elements in a row of its own, which reads as this list; new blocks alone. -/
def RetOwn (w : World) (t : TypeId) (k n : Nat) (xs : List Value) (e : Ending) (w' : World) : Prop := ∃ a c, e = .returned (.slice a n c) ∧ n ≤ c ∧ w'.ownsRow w.heap.size t k (.slice a n c) n xs ∧ Ext w w'
theorem one_cells2 (l : List T2) : ∀ u ∈ cells2 l, u.oneCell' = true := by
  induction l with
  | nil => intro u hu; cases hu
  | cons x l ih =>
    intro u hu
    simp only [cells2, List.mem_cons] at hu
    rcases hu with rfl | rfl | hu
    · rfl
    · rfl
    · exact ih u hu

theorem info2 : (Tryd.prog.info? 24).map (fun i => (i.zero, i.size, i.bytes)) = some (some (.agg #[.int .i64 0, .int .i64 0]), 2, 16) := by kernel_rfl
theorem info1 : (Tryd.prog.info? 3).map (fun i => (i.zero, i.size, i.bytes)) = some (some (.int .i64 0), 1, 8) := by kernel_rfl

set_option maxRecDepth 100000 in
set_option maxHeartbeats 1000000 in
theorem rCopyVectors_any (xs : List Value) (a : Option Addr) (n c : Nat) (w : World) (hn : n ≤ 1000) (hr : Rd w 2 a n xs) (h1 : ∀ u ∈ xs, u.oneCell' = true) :
    Calls Tryd.prog 17 #[.slice a n c] w (RetOwn w 24 2 n xs) := by
  obtain ⟨i0, hi, hz0, hz1, hz2⟩ := info_parts info2
  have H1 := Lib.hid h1
  clear h1
  go_enter Tryd.func17, Tryd.ntmps17
  go_wp2_with (at_builtin; refine wpList_app rfl (.tmp 3) (.tmp 4) _ rfl i0 (.agg #[.int .i64 0, .int .i64 0]) 16 Tryd.underlying22 hi hz0 hz1 hz2 rfl (by omega) rfl (World.ownsRow_lit (base := w.heap.size) (e := 24) (size := 2) w #[] 0 (Nat.le_refl _) (by simp [maxLen]) rfl) a n c xs rfl (hr.ext ((Ext.refl w).alloc _)) H1.out (by simp only [maxLen]; omega) (by omega) (by simp) ?_; intro A' c' w1 hc1 hown hb1 _ _)
  go_ret
  exact ⟨A', c', by simp, by omega, by simpa using hown, ((Ext.refl w).alloc _).below hb1 (Nat.le_refl _)⟩
set_option maxRecDepth 100000 in
set_option maxHeartbeats 1000000 in
theorem bCopyInts_any (xs : List Value) (a : Option Addr) (n c : Nat) (w : World) (hn : n ≤ 1000) (hr : Rd w 1 a n xs) (h1 : ∀ u ∈ xs, u.oneCell' = true) :
    Calls Tryd.prog 94 #[.slice a n c] w (RetOwn w 3 1 n xs) := by
  obtain ⟨i0, hi, hz0, hz1, hz2⟩ := info_parts info1
  have H1 := Lib.hid h1
  clear h1
  go_enter Tryd.func94, Tryd.ntmps94
  go_wp2_with (at_builtin; refine wpList_app rfl (.tmp 3) (.tmp 4) _ rfl i0 (.int .i64 0) 8 Tryd.underlying40 hi hz0 hz1 hz2 rfl (by omega) rfl (World.ownsRow_lit (base := w.heap.size) (e := 3) (size := 1) w #[] 0 (Nat.le_refl _) (by simp [maxLen]) rfl) a n c xs rfl (hr.ext ((Ext.refl w).alloc _)) H1.out (by simp only [maxLen]; omega) (by omega) (by simp) ?_; intro A' c' w1 hc1 hown hb1 _ _)
  go_ret
  exact ⟨A', c', by simp, by omega, by simpa using hown, ((Ext.refl w).alloc _).below hb1 (Nat.le_refl _)⟩
set_option maxRecDepth 100000 in
set_option maxHeartbeats 1000000 in
theorem rCopyTrack_any (xs : List Value) (a : Option Addr) (n c : Nat) (w : World) (hn : n ≤ 1000) (hr : Rd w 1 a n xs) (h1 : ∀ u ∈ xs, u.oneCell' = true) :
    Calls Tryd.prog 28 #[.agg #[.slice a n c]] w fun e w' => ∃ a' c', e = .returned (.agg #[.slice a' n c']) ∧ n ≤ c' ∧ w'.ownsRow w.heap.size 3 1 (.slice a' n c') n xs ∧ Ext w w' := by
  have HC := Lib.hid (fun w1 (h : Ext w w1) => bCopyInts_any xs a n c w1 hn (hr.ext h) h1)
  clear h1
  go_enter Tryd.func28, Tryd.ntmps28
  go_wp2_with (first | (go_at_call 94; refine (HC.out _ (by ((repeat' (first | with_reducible exact Ext.refl _ | with_reducible assumption | with_reducible exact Ext.one _ | with_reducible refine Ext.alloc ?_ _ | with_reducible refine Ext.setCell ?_ ?_ _ | with_reducible refine Ext.drew ?_ | ((with_reducible apply Ext.after'); (with_reducible assumption)))) <;> (try simp) <;> omega))).mono ?_; rintro e w3 ⟨a3, c3, rfl, hc3, hr3, hx3⟩; obtain ⟨hb3, hf3⟩ := bcell hx3; have hzw3_0 : w.heap.size < w3.heap.size := (by have := hx3.size; (try simp at this); omega); have hzw3_1 : w.heap.size + 1 < w3.heap.size := (by have := hx3.size; (try simp at this); omega)))
  refine bodyPost_ret (v := .agg #[.slice a3 n c3]) (by simp [results, Tryd.results28, go_sem, hb3]) rfl ⟨a3, c3, rfl, hc3, (ownsRow_setCell_below hr3 (by simp) _).mono_base (by simp; omega), by ((repeat' (first | with_reducible exact Ext.refl _ | with_reducible assumption | with_reducible exact Ext.one _ | with_reducible refine Ext.alloc ?_ _ | with_reducible refine Ext.setCell ?_ ?_ _ | with_reducible refine Ext.drew ?_ | ((with_reducible apply Ext.after'); (with_reducible assumption)))) <;> (try simp) <;> omega)⟩
set_option maxRecDepth 100000 in
set_option maxHeartbeats 1000000 in
theorem rCopyFeed_any (xs : List Value) (a : Option Addr) (n c : Nat) (f : T2) (mv : Int) (w : World) (hn : n ≤ 1000) (hr : Rd w 2 a n xs) (h1 : ∀ u ∈ xs, u.oneCell' = true) :
    Calls Tryd.prog 41 #[fV a n c f mv] w fun e w' => ∃ a' c', e = .returned (fV a' n c' f mv) ∧ n ≤ c' ∧ w'.ownsRow w.heap.size 24 2 (.slice a' n c') n xs ∧ Ext w w' := by
  have HC := Lib.hid (fun w1 (h : Ext w w1) => rCopyVectors_any xs a n c w1 hn (hr.ext h) h1)
  clear h1
  go_enter Tryd.func41, Tryd.ntmps41
  go_wp2_with fail
  refine (HC.out _ (by ((repeat' (first | with_reducible exact Ext.refl _ | with_reducible assumption | with_reducible exact Ext.one _ | with_reducible refine Ext.alloc ?_ _ | with_reducible refine Ext.setCell ?_ ?_ _ | with_reducible refine Ext.drew ?_ | ((with_reducible apply Ext.after'); (with_reducible assumption)))) <;> (try simp) <;> omega))).mono ?_
  rintro e w3 ⟨a3, c3, rfl, hc3, hr3, hx3⟩
  obtain ⟨hb3, hf3⟩ := bcell hx3
  have hzw3_0 : w.heap.size < w3.heap.size := (by have := hx3.size; (try simp at this); omega); have hzw3_1 : w.heap.size + 1 < w3.heap.size := (by have := hx3.size; (try simp at this); omega)
  have hb0 := hb3 w.heap.size 0 (by simp; omega)
  have hsame := fun v => World.cell?_setCell_same' w3 ⟨w.heap.size, 0, none⟩ v (by rw [hb0]; simp)
  go_wp2
  refine bodyPost_ret (v := fV a3 n c3 f mv) (by simp [results, Tryd.results41, go_sem, hb3]) rfl ⟨a3, c3, rfl, hc3, ?_, by ((repeat' (first | with_reducible exact Ext.refl _ | with_reducible assumption | with_reducible exact Ext.one _ | with_reducible refine Ext.alloc ?_ _ | with_reducible refine Ext.setCell ?_ ?_ _ | with_reducible refine Ext.drew ?_ | ((with_reducible apply Ext.after'); (with_reducible assumption)))) <;> (try simp) <;> omega)⟩
  refine World.ownsRow.mono_base (base := w.heap.size + 2) ?_ (by omega)
  repeat' (refine ownsRow_setCell_below ?_ (by simp <;> omega) _)
  exact hr3.mono_base (by simp)
end Go.Proofs.YtdbglpaejmhbjaaDoor
