/- Walks: whether currents have the same force. -/
import Derived.Test.YtdbglpaejmhbjaaDoorW15
namespace Go.Proofs.YtdbglpaejmhbjaaDoor
open Go Go.RowKit Go.Proofs
set_option linter.unusedSimpArgs false
set_option linter.unusedVariables false

def evenE (n : Nat) (cs : List T2) (f : T2) : Int := firstE [unlessE (decide (0 < n)) 10, unlessE (decide (n ≤ 12)) 8, unlessE (cs.all rightB) 2, unlessE (rightB f) 2]
def forceOf (f c : T2) : Int := (productW c f).2
def evenB (cs : List T2) (f : T2) : Bool := match cs with | [] => true | c :: _ => !(cs.any fun x => forceOf f x != forceOf f c)

set_option maxRecDepth 100000 in
set_option maxHeartbeats 1000000 in
theorem even_any (cs : List T2) (a : Option Addr) (n c : Nat) (f : T2) (w : World) (hl : cs.length = n) (hn : n ≤ 1000) (hr : Rd w 2 a n (cells2 cs)) :
    Calls Tryd.prog 16 #[.slice a n c, tV f] w fun e w' => e = .returned (.tuple #[.bool (if evenE n cs f = 0 then evenB cs f else false), .int .i64 (evenE n cs f)]) ∧ Ext w w' := by
  have HR := Lib.hid (fun w1 (h : Ext w w1) => right_any cs a n c w1 hl hn (hr.ext h))
  have HL := Lib.hid hl
  by_cases hE : evenE n cs f = 0
  · have hn0 : 0 < n := by
      rcases Nat.eq_zero_or_pos n with h | h
      · subst h; revert hE; unfold evenE; simp [firstE, unlessE]
      · exact h
    rw [if_pos hE]
    have HE := Lib.hid hE
    clear hE hl
    obtain ⟨b, o, rfl, hrow⟩ := hr.2 hn0
    have hk0 : 0 < cs.length := by rw [HL.out]; exact hn0
    have he0 := hrow.at (cells2_get0 hk0)
    have he1 := hrow.at' (cells2_get1 hk0)
    have hbb := hrow.1
    have hbb' := Nat.le_of_lt hbb
    simp only [Nat.zero_mul, Nat.add_zero] at he0 he1
    have hev : Hid (evenB cs f = !(cs.any fun x => (productW x f).2 != (productW cs[0] f).2)) := by
      show _ = _
      cases cs with
      | nil => simp at hk0
      | cons x l => rfl
    generalize hq : (productW cs[0] f).2 = q at *
    have HQ := Lib.hid hq
    clear hq
    generalize hA : unlessE (cs.all rightB) 2 = A at *
    have HA := Lib.hid hA
    clear hA
    have hE2 : firstE [unlessE (decide (0 < n)) 10, unlessE (decide (n ≤ 12)) 8, A, unlessE (rightB f) 2] = 0 := by have := HE.out; unfold evenE at this; rw [HA.out] at this; exact this
    have HE2 := Lib.hid hE2
    clear hE2
    go_enter Tryd.func16, Tryd.ntmps16
    go_wp2
    refine wp_region_ext 15 [.is (.slice (some ⟨b, o, none⟩) n c), .is (.int .i64 n), .is (.bool (decide (0 < n))), .is (.int .i64 (unlessE (decide (0 < n)) 10)), .is (.slice (some ⟨b, o, none⟩) n c), .is (.int .i64 n), .is (.bool (decide (n ≤ 12))), .is (.int .i64 (unlessE (decide (n ≤ 12)) 8)), .is (.slice (some ⟨b, o, none⟩) n c), .is (.int .i64 A), .is (tV f), .rd 2 1 (cells2 [f]), .is (.int .i64 (unlessE (rightB f) 2)), .rd 1 4 (ints [unlessE (decide (0 < n)) 10, unlessE (decide (n ≤ 12)) 8, A, unlessE (rightB f) 2]), .is (.int .i64 0)] (by kernel_rfl) (by kernel_rfl) (by kernel_rfl) (fun V => ?steps) (fun V w1 hx_w1 hf_w1 => ?tail)
    case steps =>
      simp only [List.take, Region.binds, mode_text, mode_gc, if_true, true_and, Bool.false_eq_true, if_false, List.drop, StepsU, StepsG, putsAll, FactsAt, Fs, val, List.getD_cons_zero, List.getD_cons_succ, List.getD_nil, SF.is, SF.rd, SF.any, SF.box, Option.getD_some, Option.getD_none, Act.put, List.setIfInBounds_toArray, List.set_cons_zero, List.set_cons_succ]
      refine ⟨?_, ?_, ?_, ?_, ?_, ?_, ?_, ?_, ?_, ?_, ?_, ?_, ?_, ?_, ?_, trivial⟩ <;> intro w2 hx hf <;> obtain ⟨hc, hfz⟩ := bcell hx <;> go_simp <;> (try simp only [wrap_eq])
      all_goals first
        | exact Post.mk rfl (Ext.refl _)
        | rfl
        | (refine Post.mk ?_ (Ext.refl _); (simp <;> omega); done)
        | exact Post.mk ⟨_, _, rfl, Nat.le_refl _, Rd.new _ _ _ _ _ rfl⟩ ((Ext.refl _).alloc _)
        | (refine Post.mk ⟨_, rfl, ?_, Bx.new _ _ _⟩ ((Ext.refl _).alloc _); have := hx.size; (try simp at this); (try simp); omega)
        | ((with_reducible refine CallTo.same (unless_any _ _ _) ?_); rfl)
        | ((with_reducible refine CallTo.of (HR.out _ (by ((repeat' (first | with_reducible exact Ext.refl _ | assumption | with_reducible exact Ext.one _ | with_reducible refine Ext.alloc ?_ _ | with_reducible refine Ext.setCell ?_ ?_ _ | with_reducible refine Ext.drew ?_ | refine Ext.trans ?_ (by assumption))) <;> (try simp) <;> omega))) ?_); exact fun _ _ => rfl)
        | (obtain ⟨ha, -⟩ := hf; obtain ⟨a2, c2, e2, h2, h3⟩ := ha; rw [e2]; (with_reducible refine CallTo.of (right_any [f] _ _ _ _ rfl (Nat.le_of_ble_eq_true rfl) h3) ?_); intro _ _; simp; done)
        | (obtain ⟨ha, -⟩ := hf; obtain ⟨a2, c2, e2, h2, h3⟩ := ha; rw [e2]; (with_reducible refine CallTo.same (first_any _ _ _ _ _ rfl (Nat.le_of_ble_eq_true rfl) h3) ?_); rw [HE2.out])
    case tail =>
    simp only [FactsTo, List.take, Region.binds, mode_text, mode_gc, if_true, true_and, Bool.false_eq_true, if_false, List.drop, StepsU, StepsG, putsAll, FactsAt, Fs, val, List.getD_cons_zero, List.getD_cons_succ, List.getD_nil, SF.is, SF.rd, SF.any, SF.box, Option.getD_some, Option.getD_none, Act.put, List.setIfInBounds_toArray, List.set_cons_zero, List.set_cons_succ] at hf_w1 ⊢
    obtain ⟨hc_w1, hfz_w1⟩ := bcell hx_w1
    clear hf_w1
    have hzw1_0 : w.heap.size < w1.heap.size := (by have := hx_w1.size; (try simp at this); omega)
    have hb1 : b < w1.heap.size := by have := hx_w1.size; simp at this; omega
    go_wp2
    refine wp_region_ext 7 [.is (.slice (some ⟨b, o, none⟩) n c), .is (.pointer (some ⟨b, o, none⟩)), .is (tV cs[0]), .is (tV f), .is (tV (productW cs[0] f)), .is (.int .i64 q), .box w1.heap.size 3 #[.int .i64 0]] (by kernel_rfl) (by kernel_rfl) (by kernel_rfl) (fun V => ?steps) (fun V w2 hx_w2 hf_w2 => ?tail)
    case steps =>
      simp only [List.take, Region.binds, mode_text, mode_gc, if_true, true_and, Bool.false_eq_true, if_false, List.drop, StepsU, StepsG, putsAll, FactsAt, Fs, val, List.getD_cons_zero, List.getD_cons_succ, List.getD_nil, SF.is, SF.rd, SF.any, SF.box, Option.getD_some, Option.getD_none, Act.put, List.setIfInBounds_toArray, List.set_cons_zero, List.set_cons_succ]
      refine ⟨?_, ?_, ?_, ?_, ?_, ?_, ?_, trivial⟩ <;> intro w2 hx hf <;> obtain ⟨hc, hfz⟩ := bcell hx <;> go_simp <;> (try simp only [wrap_eq])
      all_goals first
        | exact Post.mk rfl (Ext.refl _)
        | rfl
        | (refine Post.mk ?_ (Ext.refl _); (simp <;> omega); done)
        | exact Post.mk ⟨_, _, rfl, Nat.le_refl _, Rd.new _ _ _ _ _ rfl⟩ ((Ext.refl _).alloc _)
        | (refine Post.mk ⟨_, rfl, ?_, Bx.new _ _ _⟩ ((Ext.refl _).alloc _); have := hx.size; (try simp at this); (try simp); omega)
        | ((with_reducible refine CallTo.of (product_any _ _ _) ?_); exact fun _ _ => rfl)
        | (rw [HQ.out]; exact Post.mk rfl (Ext.refl _))
    case tail =>
    simp only [FactsTo, List.take, Region.binds, mode_text, mode_gc, if_true, true_and, Bool.false_eq_true, if_false, List.drop, StepsU, StepsG, putsAll, FactsAt, Fs, val, List.getD_cons_zero, List.getD_cons_succ, List.getD_nil, SF.is, SF.rd, SF.any, SF.box, Option.getD_some, Option.getD_none, Act.put, List.setIfInBounds_toArray, List.set_cons_zero, List.set_cons_succ] at hf_w2 ⊢
    obtain ⟨hc_w2, hfz_w2⟩ := bcell hx_w2
    obtain ⟨B7, e7, hl7, hb7⟩ := hf_w2
    rw [e7]
    have hbf : Bx w2 w.heap.size 24 #[.int .i64 f.1, .int .i64 f.2] := ((Bx.new w _ _).ext hx_w1).ext hx_w2
    obtain ⟨y0, y1, y2⟩ := hb7.at1
    have hbq := hb7.set1 (.int .i64 q)
    have hbf' := hbf.other (p := ⟨B7, 0, none⟩) (by simp; omega) (.int .i64 q)
    have hx3 : Ext w (w2.setCell ⟨B7, 0, none⟩ (.int .i64 q)) := by ((repeat' (first | with_reducible exact Ext.refl _ | assumption | with_reducible exact Ext.one _ | with_reducible refine Ext.alloc ?_ _ | with_reducible refine Ext.setCell ?_ ?_ _ | with_reducible refine Ext.drew ?_ | refine Ext.trans ?_ (by assumption))) <;> (try simp) <;> omega)
    have HC := Lib.hid (contains2_any 85 #[.pointer (some ⟨w.heap.size, 0, none⟩), .pointer (some ⟨B7, 0, none⟩)] (fun _ _ => by kernel_rfl) (fun x => (productW x f).2 != q) cs (some ⟨b, o, none⟩) n c (w2.setCell ⟨B7, 0, none⟩ (.int .i64 q)) HL.out hn (hr.ext hx3)
      (fun w' hw x _ => even1_any x f q _ _ w' ((hbf'.ext hw).cell 0) ((hbf'.ext hw).cell 1) ((hbq.ext hw).cell 0)))
    clear hc_w2 hfz_w2 hc_w1 hfz_w1
    go_wp2_with (first | (go_at_call 84; refine HC.out.mono ?_; rintro e w4 ⟨rfl, hx4⟩; rw [← Bool.not_not (cs.any _), ← hev.out]))
    go_ret2
    exact ⟨by rw [HE.out]; simp, by ((repeat' (first | with_reducible exact Ext.refl _ | assumption | with_reducible exact Ext.one _ | with_reducible refine Ext.alloc ?_ _ | with_reducible refine Ext.setCell ?_ ?_ _ | with_reducible refine Ext.drew ?_ | refine Ext.trans ?_ (by assumption))) <;> (try simp) <;> omega)⟩
  · have hE' : (evenE n cs f != 0) = true := by simp [hE]
    rw [if_neg hE]
    clear hE hl
    unfold evenE at hE' ⊢
    generalize hA : unlessE (cs.all rightB) 2 = A at *
    have HA := Lib.hid hA
    clear hA
    go_enter Tryd.func16, Tryd.ntmps16
    go_wp2
    refine wp_region_ext 15 [.is (.slice a n c), .is (.int .i64 n), .is (.bool (decide (0 < n))), .is (.int .i64 (unlessE (decide (0 < n)) 10)), .is (.slice a n c), .is (.int .i64 n), .is (.bool (decide (n ≤ 12))), .is (.int .i64 (unlessE (decide (n ≤ 12)) 8)), .is (.slice a n c), .is (.int .i64 A), .is (tV f), .rd 2 1 (cells2 [f]), .is (.int .i64 (unlessE (rightB f) 2)), .rd 1 4 (ints [unlessE (decide (0 < n)) 10, unlessE (decide (n ≤ 12)) 8, A, unlessE (rightB f) 2]), .is (.int .i64 (firstE [unlessE (decide (0 < n)) 10, unlessE (decide (n ≤ 12)) 8, A, unlessE (rightB f) 2]))] (by kernel_rfl) (by kernel_rfl) (by kernel_rfl) (fun V => ?steps) (fun V w1 hx_w1 hf_w1 => ?tail)
    case steps =>
      simp only [List.take, Region.binds, mode_text, mode_gc, if_true, true_and, Bool.false_eq_true, if_false, List.drop, StepsU, StepsG, putsAll, FactsAt, Fs, val, List.getD_cons_zero, List.getD_cons_succ, List.getD_nil, SF.is, SF.rd, SF.any, SF.box, Option.getD_some, Option.getD_none, Act.put, List.setIfInBounds_toArray, List.set_cons_zero, List.set_cons_succ]
      refine ⟨?_, ?_, ?_, ?_, ?_, ?_, ?_, ?_, ?_, ?_, ?_, ?_, ?_, ?_, ?_, trivial⟩ <;> intro w2 hx hf <;> obtain ⟨hc, hfz⟩ := bcell hx <;> go_simp <;> (try simp only [wrap_eq])
      all_goals first
        | exact Post.mk rfl (Ext.refl _)
        | rfl
        | (refine Post.mk ?_ (Ext.refl _); (simp <;> omega); done)
        | exact Post.mk ⟨_, _, rfl, Nat.le_refl _, Rd.new _ _ _ _ _ rfl⟩ ((Ext.refl _).alloc _)
        | (refine Post.mk ⟨_, rfl, ?_, Bx.new _ _ _⟩ ((Ext.refl _).alloc _); have := hx.size; (try simp at this); (try simp); omega)
        | ((with_reducible refine CallTo.same (unless_any _ _ _) ?_); rfl)
        | ((with_reducible refine CallTo.of (HR.out _ (by ((repeat' (first | with_reducible exact Ext.refl _ | assumption | with_reducible exact Ext.one _ | with_reducible refine Ext.alloc ?_ _ | with_reducible refine Ext.setCell ?_ ?_ _ | with_reducible refine Ext.drew ?_ | refine Ext.trans ?_ (by assumption))) <;> (try simp) <;> omega))) ?_); exact fun _ _ => rfl)
        | (obtain ⟨ha, -⟩ := hf; obtain ⟨a2, c2, e2, h2, h3⟩ := ha; rw [e2]; (with_reducible refine CallTo.of (right_any [f] _ _ _ _ rfl (Nat.le_of_ble_eq_true rfl) h3) ?_); intro _ _; simp; done)
        | (obtain ⟨ha, -⟩ := hf; obtain ⟨a2, c2, e2, h2, h3⟩ := ha; rw [e2]; (with_reducible refine CallTo.same (first_any _ _ _ _ _ rfl (Nat.le_of_ble_eq_true rfl) h3) ?_); rfl)
    case tail =>
    simp only [FactsTo, List.take, Region.binds, mode_text, mode_gc, if_true, true_and, Bool.false_eq_true, if_false, List.drop, StepsU, StepsG, putsAll, FactsAt, Fs, val, List.getD_cons_zero, List.getD_cons_succ, List.getD_nil, SF.is, SF.rd, SF.any, SF.box, Option.getD_some, Option.getD_none, Act.put, List.setIfInBounds_toArray, List.set_cons_zero, List.set_cons_succ] at hf_w1 ⊢
    obtain ⟨hc_w1, hfz_w1⟩ := bcell hx_w1
    clear hf_w1
    go_wp2
    go_ret2
    exact ⟨rfl, by ((repeat' (first | with_reducible exact Ext.refl _ | assumption | with_reducible exact Ext.one _ | with_reducible refine Ext.alloc ?_ _ | with_reducible refine Ext.setCell ?_ ?_ _ | with_reducible refine Ext.drew ?_ | refine Ext.trans ?_ (by assumption))) <;> (try simp) <;> omega)⟩
end Go.Proofs.YtdbglpaejmhbjaaDoor
