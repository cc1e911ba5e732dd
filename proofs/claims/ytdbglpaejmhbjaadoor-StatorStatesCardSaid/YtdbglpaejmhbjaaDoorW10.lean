/- Walks: the force on a train. -/
import Derived.Test.YtdbglpaejmhbjaaDoorW9
import Derived.Test.YtdbglpaejmhbjaaDoorRound
namespace Go.Proofs.YtdbglpaejmhbjaaDoor
open Go Go.RowKit Go.Proofs
set_option linter.unusedSimpArgs false
set_option linter.unusedVariables false
attribute [local go_sem] Oper.semAt_some

/-- The sum of the overlaps times the currents' forces. -/
def forceL (f : T2) : List Int → List T2 → Int → Int
  | v :: vs, c :: cs, s => forceL f vs cs (wrap64 (s + wrap64 (v * (productW c f).2)))
  | _, _, s => s

def tInt : TypeId → Bool := fun t => t == 3

set_option maxRecDepth 100000 in
set_option maxHeartbeats 1000000 in
theorem force_any (ls : List Int) (a : Option Addr) (n c : Nat) (p q : Int) (cs : List T2) (b : Option Addr) (c2 : Nat) (f : T2) (mv : Int) (w : World) (hl : ls.length = n) (hl2 : cs.length = n) (hn : n ≤ 1000) (hr : Rd w 1 a n (ints ls)) (hr2 : Rd w 2 b n (cells2 cs)) :
    Calls Tryd.prog 106 #[dV a n c p q, fV b n c2 f mv] w fun e w' => e = .returned (.int .i64 (forceL f (overL p q 0 ls) cs 0)) ∧ Ext w w' := by
  have HL := Lib.hid hl
  have HL2 := Lib.hid hl2
  clear hl hl2
  refine (callsIn_wide (n := 9)).1 ?_
  refine callsIn_of_wp_marks Tryd.func106 rfl trivial ?_ rfl
  simp only [Tryd.ntmps106, List.size_toArray, List.length_cons, List.length_nil, Nat.reduceAdd, Nat.reduceSub, Array.replicate_succ, Array.replicate_zero, List.push_toArray, List.append_toArray, List.nil_append, List.cons_append]
  gi_wp2
  obtain ⟨W0, hW0⟩ : ∃ W0, ((w.alloc (.cells #[.slice a n c, .int .i64 p, .int .i64 q] 129)).alloc (.cells #[.slice b n c2, .int .i64 f.1, .int .i64 f.2, .int .i64 mv] 66)).alloc (.cells #[.int .i64 0] 3) = W0 := ⟨_, rfl⟩
  rw [hW0]
  have hx0 : Ext w W0 := by rw [← hW0]; ((repeat' (first | with_reducible exact Ext.refl _ | with_reducible assumption | with_reducible exact Ext.one _ | with_reducible refine Ext.alloc ?_ _ | with_reducible refine Ext.setCell ?_ ?_ _ | with_reducible refine Ext.drew ?_ | ((with_reducible apply Ext.after'); (with_reducible assumption)))) <;> (try simp) <;> omega)
  have hs0 : W0.heap.size = w.heap.size + 3 := by rw [← hW0]; simp
  have hB1 : W0.heap[w.heap.size + 1]? = some (.cells #[.slice b n c2, .int .i64 f.1, .int .i64 f.2, .int .i64 mv] 66) := by
    rw [← hW0]; refine (Below.heap_alloc _ _ _ (by simp)).trans ?_
    have := World.alloc_heap_new (w.alloc (.cells #[.slice a n c, .int .i64 p, .int .i64 q] 129)) (.cells #[.slice b n c2, .int .i64 f.1, .int .i64 f.2, .int .i64 mv] 66)
    rwa [World.size_alloc] at this
  have hB2 : W0.heap[w.heap.size + 2]? = some (.cells #[.int .i64 0] 3) := by
    rw [← hW0]
    have := World.alloc_heap_new ((w.alloc (.cells #[.slice a n c, .int .i64 p, .int .i64 q] 129)).alloc (.cells #[.slice b n c2, .int .i64 f.1, .int .i64 f.2, .int .i64 mv] 66)) (.cells #[.int .i64 0] 3)
    simpa using this
  clear hW0
  refine wpIn_range (gf := 96) (first := #[dV a n c p q]) (lb := #[]) (T := tInt) (n0 := w.heap.size) rfl (fun _ _ => by kernel_rfl) (overlaps_gives ls a n c p q tInt w.heap.size w W0 rfl HL.out hn hr rfl hx0) hx0.size
    (fun y hy => by obtain ⟨i, hi⟩ := List.getElem?_of_mem hy; obtain ⟨v, _, rfl⟩ := overY_at hi; rfl)
    (fun i W => ∃ s, Hid (forceL f (overL p q 0 ls) cs 0 = forceL f ((overL p q 0 ls).drop i) (cs.drop i) s) ∧ W.heap[w.heap.size + 2]? = some (.cells #[.int .i64 s] 3) ∧ W.heap[w.heap.size + 1]? = some (.cells #[.slice b n c2, .int .i64 f.1, .int .i64 f.2, .int .i64 mv] 66) ∧ Ext w W ∧ W0.heap.size ≤ W.heap.size)
    (fun _ _ _ => False)
    (fun i A B ⟨s, h1, h2, h3, h4, h5⟩ hc => ⟨s, h1, hc.same _ _ _ _ h2, hc.same _ _ _ _ h3, h4.below hc.below hx0.size, Nat.le_trans h5 hc.below.size⟩)
    (fun _ _ _ _ h _ => h) (fun _ _ ⟨_, _, _, _, _, h⟩ => h) (fun _ _ _ h => h.elim)
    ⟨0, rfl, hB2, hB1, hx0, Nat.le_refl _⟩
    (fun i => { tmps := #[dV a n c p q, fV b n c2 f mv, .pointer (some ⟨w.heap.size, 0, none⟩), .pointer (some ⟨w.heap.size + 1, 0, none⟩), .int .i64 0, .pointer (some ⟨w.heap.size + 1 + 1, 0, none⟩), .int .i64 i, .int .i64 ((overL p q 0 ls).getD i 0),
      .agg #[.slice a n c, .int .i64 p, .int .i64 q], .func (.func 96) #[.agg #[.slice a n c, .int .i64 p, .int .i64 q]] #[], .int .i64 i, .int .i64 ((overL p q 0 ls).getD i 0), undef, undef, undef, undef, undef, undef, undef, undef, undef, undef, undef, undef, undef, undef], defers := [] }) ?assign ?body ?done ?stop
  case assign =>
    intro l i y W K hy hK
    obtain ⟨v, hv, rfl⟩ := overY_at hy
    have hv' : (overL p q 0 ls).getD i 0 = v := by simp [hv]
    rw [hv'] at hK
    gi_wp2
    exact hK
  case body =>
    intro l i y W hy ⟨s, hs, h2, h1, hxW, hsz⟩
    obtain ⟨v, hv, rfl⟩ := overY_at hy
    have hv' : (overL p q 0 ls).getD i 0 = v := by simp [hv]
    have hil : i < (overL p q 0 ls).length := (List.getElem?_eq_some_iff.1 hv).1
    have hin : i < n := by rw [overL_length, HL.out] at hil; exact hil
    rw [hv']
    obtain ⟨b', o, rfl, hrow⟩ := (hr2.ext hxW).2 (by omega)
    have hkl : i < cs.length := by rw [HL2.out]; exact hin
    have he0 := hrow.at (cells2_get0 hkl)
    have he1 := hrow.at' (cells2_get1 hkl)
    have hbb : b' < W.heap.size := hrow.1
    have hz0 : w.heap.size + 1 < W.heap.size := by omega
    have hz1 : w.heap.size + 1 + 1 < W.heap.size := by omega
    have hs0 : W.cell? ⟨w.heap.size + 1 + 1, 0, none⟩ = some (.int .i64 s) := by rw [cell_of_row _ _ _ _ _ _ h2]; rfl
    have hf0 : W.frozen? ⟨w.heap.size + 1 + 1, 0, none⟩ = false := frozen_of_row _ _ _ _ _ h2
    have hq0 : W.cell? ⟨w.heap.size + 1, 0, none⟩ = some (.slice (some ⟨b', o, none⟩) n c2) := by rw [cell_of_row _ _ _ _ _ _ h1]; rfl
    have hq1 : W.cell? ⟨w.heap.size + 1, 1, none⟩ = some (.int .i64 f.1) := by rw [cell_of_row _ _ _ _ _ _ h1]; rfl
    have hq2 : W.cell? ⟨w.heap.size + 1, 2, none⟩ = some (.int .i64 f.2) := by rw [cell_of_row _ _ _ _ _ _ h1]; rfl
    have hst : Hid (forceL f (overL p q 0 ls) cs 0 = forceL f ((overL p q 0 ls).drop (i + 1)) (cs.drop (i + 1)) (wrap64 (s + wrap64 (v * (productW cs[i] f).2)))) := by
      show _ = _
      rw [hs.out, List.drop_eq_getElem_cons hil, List.drop_eq_getElem_cons hkl, (List.getElem?_eq_some_iff.1 hv).2]; rfl
    clear hv hy hv'
    gi_wp2
    refine wpIn_region_ext 13 [.is (.int .i64 s), .is (.int .i64 v), .is (.pointer (some ⟨w.heap.size + 1, 0, none⟩)), .is (.slice (some ⟨b', o, none⟩) n c2), .is (.int .i64 i), .is (.pointer (some ⟨b', o + i * 2, none⟩)), .is (tV cs[i]), .is (.pointer (some ⟨w.heap.size + 1, 1, none⟩)), .is (tV f), .is (tV (productW cs[i] f)), .is (.int .i64 (productW cs[i] f).2), .is (.int .i64 (wrap64 (v * (productW cs[i] f).2))), .is (.int .i64 (wrap64 (s + wrap64 (v * (productW cs[i] f).2))))] (by kernel_rfl) (by kernel_rfl) (by kernel_rfl) (by kernel_rfl) (fun V => ?steps) (fun V w1 hx_w1 hf_w1 => ?tail)
    case steps =>
      simp only [List.take, Region.binds, mode_text, mode_gc, if_true, true_and, Bool.false_eq_true, if_false, List.drop, StepsU, StepsG, putsAll, FactsAt, Fs, val, List.getD_cons_zero, List.getD_cons_succ, List.getD_nil, SF.is, SF.rd, SF.any, SF.box, Option.getD_some, Option.getD_none, Act.put, List.setIfInBounds_toArray, List.set_cons_zero, List.set_cons_succ]
      refine ⟨?_, ?_, ?_, ?_, ?_, ?_, ?_, ?_, ?_, ?_, ?_, ?_, ?_, trivial⟩ <;> intro w2 hx hf <;> obtain ⟨hc, hfz⟩ := bcell hx <;> go_simp <;> (try simp only [wrap_eq])
      all_goals first
        | exact Post.mk rfl (Ext.refl _)
        | rfl
        | (refine Post.mk ?_ (Ext.refl _); (simp <;> omega); done)
        | exact Post.mk ⟨_, _, rfl, Nat.le_refl _, Rd.new _ _ _ _ _ rfl⟩ ((Ext.refl _).alloc _)
        | (refine Post.mk ⟨_, rfl, ?_, Bx.new _ _ _⟩ ((Ext.refl _).alloc _); have := hx.size; (try simp at this); (try simp); omega)
        | ((with_reducible refine CallTo.of (product_any _ _ _) ?_); exact fun _ _ => rfl)
    case tail =>
    simp only [FactsTo, List.take, Region.binds, mode_text, mode_gc, if_true, true_and, Bool.false_eq_true, if_false, List.drop, StepsU, StepsG, putsAll, FactsAt, Fs, val, List.getD_cons_zero, List.getD_cons_succ, List.getD_nil, SF.is, SF.rd, SF.any, SF.box, Option.getD_some, Option.getD_none, Act.put, List.setIfInBounds_toArray, List.set_cons_zero, List.set_cons_succ] at hf_w1 ⊢
    obtain ⟨hc_w1, hfz_w1⟩ := bcell hx_w1
    go_wp2
    have hb1 := ext_block hx_w1 h2
    refine ⟨((Keeps.refl tInt w.heap.size W).ext hx_w1 hxW.size).setCell (by simp; omega) hb1 rfl _, _, hst, heap_setCell_same w1 _ 0 _ _ _ hb1, ?_, by ((repeat' (first | with_reducible exact Ext.refl _ | with_reducible assumption | with_reducible exact Ext.one _ | with_reducible refine Ext.alloc ?_ _ | with_reducible refine Ext.setCell ?_ ?_ _ | with_reducible refine Ext.drew ?_ | ((with_reducible apply Ext.after'); (with_reducible assumption)))) <;> (try simp) <;> omega), by simp; exact Nat.le_trans hsz hx_w1.size⟩
    exact (heap_setCell_other _ _ _ _ (by simp)).trans (ext_block hx_w1 h1)
  case stop =>
    intro D c i W _ h
    exact h.elim
  case done =>
    rintro D W hD ⟨s, hs, h2, h1, hxW, hsz⟩ hK
    have hs0 : W.cell? ⟨w.heap.size + 1 + 1, 0, none⟩ = some (.int .i64 s) := by rw [cell_of_row _ _ _ _ _ _ h2]; rfl
    gi_wp2
    refine ⟨by simp, .inl ⟨_, _, rfl, run_takeDeferred hK, ?_⟩⟩
    refine ⟨_, results_tmp rfl _ _ _, ?_, hxW.below (Calm.putObj (B := W0.heap.size) _ hD hK rfl).below hx0.size⟩
    have e1 : (overL p q 0 ls).drop (overY p q ls).length = [] := List.drop_eq_nil_of_le (by rw [overL_length, overY_length]; exact Nat.le_refl _)
    rw [hs.out, e1]; simp [forceL]
end Go.Proofs.YtdbglpaejmhbjaaDoor
