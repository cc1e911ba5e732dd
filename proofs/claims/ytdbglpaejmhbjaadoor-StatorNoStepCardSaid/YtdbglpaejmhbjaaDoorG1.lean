/- Walks: forces on a train, as specified; the greatest step of a move. -/
import Derived.Test.YtdbglpaejmhbjaaDoorP3
import Derived.Test.YtdbglpaejmhbjaaDoorReg
namespace Go.Proofs.YtdbglpaejmhbjaaDoor
open Go Go.RowKit Go.Proofs
set_option linter.unusedSimpArgs false
set_option linter.unusedVariables false

set_option maxRecDepth 100000 in
set_option maxHeartbeats 1000000 in
theorem rForceAt_any (ls : List Int) (a : Option Addr) (n c : Nat) (p q : Int) (cs : List T2) (b : Option Addr) (c2 : Nat) (f : T2) (mv : Int) (w : World) (hl : ls.length = n) (hl2 : cs.length = n) (hn : n ≤ 1000) (hr : Rd w 1 a n (ints ls)) (hr2 : Rd w 2 b n (cells2 cs)) :
    Calls Tryd.prog 45 #[.agg #[.slice a n c], .agg #[.int .i64 p, .int .i64 q], fV b n c2 f mv] w fun e w' => e = .returned (.int .i64 (forceL f (overL p q 0 ls) cs 0)) ∧ Ext w w' := by
  have HO := Lib.hid (show ∀ w1, Ext w w1 → Calls Tryd.prog 33 #[.agg #[.slice a n c], .agg #[.int .i64 p, .int .i64 q]] w1 (RetRd (fun s => s) 1 n (ints (overL p q 0 ls)) w1) from fun w1 h =>
    (rOverlaps_any ls a n c p q w1 hl hn (hr.ext h)).mono fun _ _ ⟨a', c', he, hc, ho, hx⟩ => ⟨a', c', he, hc, Rd.of_own ho, hx⟩)
  have hlo : (overL p q 0 ls).length = n := by rw [overL_length, hl]
  have HL := Lib.hid hlo
  have HL2 := Lib.hid hl2
  clear hl hlo hl2
  generalize overL p q 0 ls = O at *
  go_enter Tryd.func45, Tryd.ntmps45
  go_wp2_with (first | (go_at_call 33; (with_reducible refine (HO.out _ (by ((repeat' (first | with_reducible exact Ext.refl _ | assumption | with_reducible exact Ext.one _ | with_reducible refine Ext.alloc ?_ _ | with_reducible refine Ext.setCell ?_ ?_ _ | with_reducible refine Ext.drew ?_ | refine Ext.trans ?_ (by assumption))) <;> (try simp) <;> omega))).mono ?_); rintro e w3 ⟨a3, c3, rfl, hcc3, hrd3, hx3⟩; obtain ⟨hc3, hf3⟩ := bcell hx3; have hzw3_0 : w.heap.size < w3.heap.size := (by have := hx3.size; (try simp at this); omega); have hzw3_1 : w.heap.size + 1 < w3.heap.size := (by have := hx3.size; (try simp at this); omega); have hzw3_2 : w.heap.size + 1 + 1 < w3.heap.size := (by have := hx3.size; (try simp at this); omega)))
  have hbf : Bx w3 (w.heap.size + 1 + 1) 66 #[.slice b n c2, .int .i64 f.1, .int .i64 f.2, .int .i64 mv] := by (repeat' (first | exact Bx.new _ _ _ | exact Bx.new_at _ _ (by simp; done) | refine Bx.alloc ?_ _ | refine Bx.ext ?_ (by assumption)))
  have hx3w : Ext w w3 := by ((repeat' (first | with_reducible exact Ext.refl _ | assumption | with_reducible exact Ext.one _ | with_reducible refine Ext.alloc ?_ _ | with_reducible refine Ext.setCell ?_ ?_ _ | with_reducible refine Ext.drew ?_ | refine Ext.trans ?_ (by assumption))) <;> (try simp) <;> omega)
  go_loopw [7, 9] (fun s i wr => ∃ (k : Nat) (t : Int), k ≤ n ∧ i = .int .i64 k ∧ s = .int .i64 t ∧ Hid (forceL f O cs 0 = forceL f (O.drop k) (cs.drop k) t) ∧ Ext w3 wr) (fun _ i _ => n - (intOf i).toNat)
  case atStart => exact ⟨0, 0, Nat.zero_le _, rfl, rfl, rfl, Ext.refl _⟩
  case round =>
    obtain ⟨k, t, hk, rfl, rfl, hd, hx⟩ := hrel
    have hbf' := hbf.ext hx
    have y0 : wr.cell? ⟨w.heap.size + 1 + 1, 0, none⟩ = some (.slice b n c2) := hbf'.cell 0
    have y1 : wr.cell? ⟨w.heap.size + 1 + 1, 1, none⟩ = some (.int .i64 f.1) := hbf'.cell 1
    have y2 : wr.cell? ⟨w.heap.size + 1 + 1, 2, none⟩ = some (.int .i64 f.2) := hbf'.cell 2
    have y4 := hbf'.lt
    by_cases hlt : k < n
    · obtain ⟨g1, o1, rfl, hrow1⟩ := (hrd3.ext hx).2 (by omega)
      obtain ⟨g2, o2, rfl, hrow2⟩ := (hr2.ext (hx3w.trans hx)).2 (by omega)
      have y0 : wr.cell? ⟨w.heap.size + 1 + 1, 0, none⟩ = some (.slice (some ⟨g2, o2, none⟩) n c2) := hbf'.cell 0
      have hg1 := hrow1.1
      have hg2 := hrow2.1
      have hk1 : k < O.length := by rw [HL.out]; exact hlt
      have hk2 : k < cs.length := by rw [HL2.out]; exact hlt
      have c0 := hrow1.at (ints_get hk1)
      have d0 := hrow2.at (cells2_get0 hk2)
      have d1 := hrow2.at' (cells2_get1 hk2)
      have hs : Hid (forceL f (O.drop k) (cs.drop k) t = forceL f (O.drop (k + 1)) (cs.drop (k + 1)) (wrap64 (t + wrap64 (O[k] * (productW cs[k] f).2)))) := by
        show _ = _
        rw [List.drop_eq_getElem_cons hk1, List.drop_eq_getElem_cons hk2]; rfl
      have HF := Lib.hid (rForceOf_any cs[k] f)
      generalize (productW cs[k] f).2 = Q at *
      go_wp2
      apply wp_region_ext 15 [.is _, .is _, .is _, .is _, .is _, .is _, .is _, .is _, .is _, .is _, .is _, .is _, .is _, .is _, .is _] (by kernel_rfl) (by kernel_rfl) (by kernel_rfl) (fun V => ?steps) (fun V w4 hx_w4 hf_w4 => ?tail)
      case steps =>
        simp only [List.take, Region.binds, mode_text, mode_gc, if_true, true_and, Bool.false_eq_true, if_false, List.drop, StepsU, StepsG, putsAll, FactsAt, Fs, val, List.getD_cons_zero, List.getD_cons_succ, List.getD_nil, SF.is, SF.rd, SF.any, SF.box, Option.getD_some, Option.getD_none, Act.put, List.setIfInBounds_toArray, List.set_cons_zero, List.set_cons_succ]
        refine ⟨?_, ?_, ?_, ?_, ?_, ?_, ?_, ?_, ?_, ?_, ?_, ?_, ?_, ?_, ?_, trivial⟩ <;> (intro w2 hx hf; obtain ⟨hc, hfz⟩ := bcell hx; go_simp; (try simp only [wrap_eq]); first
          | exact Post.mk rfl (Ext.refl _)
          | rfl
          | (refine Post.mk ?_ (Ext.refl _); (simp <;> omega); done)
          | exact Post.mk ⟨_, _, rfl, Nat.le_refl _, Rd.new _ _ _ _ _ rfl⟩ ((Ext.refl _).alloc _)
          | (refine Post.mk ⟨_, rfl, ?_, Bx.new _ _ _⟩ ((Ext.refl _).alloc _); have := hx.size; (try simp at this); (try simp); omega)
          | ((with_reducible refine CallTo.of (HF.out _) ?_); exact fun _ _ => rfl))
      case tail =>
      simp only [FactsTo, List.take, Region.binds, mode_text, mode_gc, if_true, true_and, Bool.false_eq_true, if_false, List.drop, StepsU, StepsG, putsAll, FactsAt, Fs, val, List.getD_cons_zero, List.getD_cons_succ, List.getD_nil, SF.is, SF.rd, SF.any, SF.box, Option.getD_some, Option.getD_none, Act.put, List.setIfInBounds_toArray, List.set_cons_zero, List.set_cons_succ] at hf_w4 ⊢
      obtain ⟨hc_w4, hfz_w4⟩ := bcell hx_w4
      clear hf_w4
      go_wp2
      go_roundw
      case rel => exact ⟨k + 1, _, by omega, by go_num, rfl, by show _ = _; rw [hd.out, hs.out], hx.trans hx_w4⟩
      case measure => simp [intOf]; omega
    · go_wp2
      go_ret
      have e1 : O.drop k = [] := List.drop_eq_nil_of_le (by rw [HL.out]; omega)
      exact ⟨ret_int (by rw [hd.out, e1]; simp [forceL]), hx3w.trans hx⟩
end Go.Proofs.YtdbglpaejmhbjaaDoor
