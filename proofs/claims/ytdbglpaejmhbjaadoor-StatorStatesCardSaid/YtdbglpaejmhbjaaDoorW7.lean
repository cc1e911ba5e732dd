/- Walks: opening a track with a train, and with a feed. -/
import Derived.Test.YtdbglpaejmhbjaaDoorW6
namespace Go.Proofs.YtdbglpaejmhbjaaDoor
open Go Go.RowKit Go.Proofs
set_option linter.unusedSimpArgs false
set_option linter.unusedVariables false

def openE (n : Nat) (ls : List Int) (p q : Int) : Int :=
  if (trackC n ls).2 = 0 then firstE [unlessE (withinB q 1 1000000 && decide (0 ≤ p)) 2, unlessE (decide (p ≤ wrap64 (sumW 0 ls - q))) 23] else (trackC n ls).2

abbrev dV (a : Option Addr) (n c : Nat) (p q : Int) : Value := .agg #[.slice a n c, .int .i64 p, .int .i64 q]
set_option maxRecDepth 100000 in
set_option maxHeartbeats 1000000 in
theorem open_any (ls : List Int) (a : Option Addr) (n c : Nat) (p q : Int) (w : World) (hl : ls.length = n) (hn : n ≤ 1000) (hr : Rd w 1 a n (ints ls)) :
    Calls Tryd.prog 95 #[.agg #[.slice a n c], .agg #[.int .i64 p, .int .i64 q]] w fun e w' => e = .returned (.tuple #[dV a n c p q, .int .i64 (openE n ls p q)]) ∧ Ext w w' := by
  have HC := Lib.hid (fun w1 (h : Ext w w1) => checkTrack_any ls a n c w1 hl hn (hr.ext h))
  have HA := Lib.hid (fun w1 (h : Ext w w1) => length_any ls a n c p q w1 hl hn (hr.ext h))
  clear hl
  by_cases hE : (trackC n ls).2 = 0
  · generalize hS : sumW 0 ls = S at *
    have HS := Lib.hid hS
    clear hS
    have HE := Lib.hid hE
    clear hE
    cases hq : withinB q 1 1000000 with
    | true =>
      go_enter Tryd.func95, Tryd.ntmps95
      go_wp2_with (first | (go_at_call 27; refine (HC.out _ (by ((repeat' (first | with_reducible exact Ext.refl _ | with_reducible assumption | with_reducible exact Ext.one _ | with_reducible refine Ext.alloc ?_ _ | with_reducible refine Ext.setCell ?_ ?_ _ | with_reducible refine Ext.drew ?_ | ((with_reducible apply Ext.after'); (with_reducible assumption)))) <;> (try simp) <;> omega))).mono ?_; rintro e w3 ⟨rfl, hx3⟩; obtain ⟨hc3, hf3⟩ := bcell hx3; have hzw3_0 : w.heap.size < w3.heap.size := (by have := hx3.size; (try simp at this); omega); have hzw3_1 : w.heap.size + 1 < w3.heap.size := (by have := hx3.size; (try simp at this); omega); have hzw3_2 : w.heap.size + 1 + 1 < w3.heap.size := (by have := hx3.size; (try simp at this); omega); have hzw3_3 : w.heap.size + 1 + 1 + 1 < w3.heap.size := (by have := hx3.size; (try simp at this); omega); rw [HE.out]))
      refine wp_region_guard 21 [.is (dV a n c p q), .is (.pointer (some ⟨w.heap.size + 1, 1, none⟩)), .is (.int .i64 q), .is (.bool (withinB q 1 1000000)), .is (.bool (withinB q 1 1000000)), .is (.pointer (some ⟨w.heap.size + 1, 0, none⟩)), .is (.int .i64 p), .is (.bool (decide (0 ≤ p))), .is (.bool (decide (0 ≤ p))), .is (.int .i64 (unlessE (decide (0 ≤ p)) 2)), .is (.pointer (some ⟨w.heap.size + 1, 0, none⟩)), .is (.int .i64 p), .is (dV a n c p q), .is (.int .i64 S), .is (.pointer (some ⟨w.heap.size + 1, 1, none⟩)), .is (.int .i64 q), .is (.int .i64 (wrap64 (S - q))), .is (.bool (decide (p ≤ wrap64 (S - q)))), .is (.int .i64 (unlessE (decide (p ≤ wrap64 (S - q))) 23)), .rd 1 2 (ints [unlessE (decide (0 ≤ p)) 2, unlessE (decide (p ≤ wrap64 (S - q))) 23]), .is (.int .i64 (firstE [unlessE (decide (0 ≤ p)) 2, unlessE (decide (p ≤ wrap64 (S - q))) 23]))] (by kernel_rfl) (by kernel_rfl) (fun V => ?steps) (fun V w1 hx_w1 hf_w1 => ?tail)
      case steps =>
        simp only [List.take, Region.binds, mode_text, mode_gc, if_true, true_and, Bool.false_eq_true, if_false, List.drop, StepsU, StepsG, putsAll, FactsAt, Fs, val, List.getD_cons_zero, List.getD_cons_succ, List.getD_nil, SF.is, SF.rd, SF.any, SF.box, Option.getD_some, Option.getD_none, Act.put, List.setIfInBounds_toArray, List.set_cons_zero, List.set_cons_succ]
        refine ⟨?_, ?_, ?_, ?_, ?_, ?_, ?_, ?_, ?_, ?_, ?_, ?_, ?_, ?_, ?_, ?_, ?_, ?_, ?_, ?_, ?_, trivial⟩ <;> intro w2 hx hf <;> obtain ⟨hc, hfz⟩ := bcell hx <;> go_simp <;> (try simp only [wrap_eq])
        all_goals first
          | exact Post.mk rfl (Ext.refl _)
          | rfl
          | (refine Post.mk ?_ (Ext.refl _); (simp <;> omega); done)
          | exact Post.mk ⟨_, _, rfl, Nat.le_refl _, Rd.new _ _ _ _ _ rfl⟩ ((Ext.refl _).alloc _)
          | (refine Post.mk ⟨_, rfl, ?_, Bx.new _ _ _⟩ ((Ext.refl _).alloc _); have := hx.size; (try simp at this); (try simp); omega)
          | ((with_reducible refine CallTo.same (unless_any _ _ _) ?_); rfl)
          | ((with_reducible refine CallTo.same (isLength_any _ _) ?_); simp [hq]; done)
          | ((with_reducible refine CallTo.of (HA.out _ (by ((repeat' (first | with_reducible exact Ext.refl _ | with_reducible assumption | with_reducible exact Ext.one _ | with_reducible refine Ext.alloc ?_ _ | with_reducible refine Ext.setCell ?_ ?_ _ | with_reducible refine Ext.drew ?_ | ((with_reducible apply Ext.after'); (with_reducible assumption)))) <;> (try simp) <;> omega))) ?_); exact fun _ _ => rfl)
          | (obtain ⟨ha, -⟩ := hf; obtain ⟨a2, c2, e2, h2, h3⟩ := ha; rw [e2]; (with_reducible refine CallTo.same (first_any _ _ _ _ _ rfl (Nat.le_of_ble_eq_true rfl) h3) ?_); rfl)
      case tail =>
      simp only [FactsTo, List.take, Region.binds, mode_text, mode_gc, if_true, true_and, Bool.false_eq_true, if_false, List.drop, StepsU, StepsG, putsAll, FactsAt, Fs, val, List.getD_cons_zero, List.getD_cons_succ, List.getD_nil, SF.is, SF.rd, SF.any, SF.box, Option.getD_some, Option.getD_none, Act.put, List.setIfInBounds_toArray, List.set_cons_zero, List.set_cons_succ] at hf_w1 ⊢
      obtain ⟨hc_w1, hfz_w1⟩ := bcell hx_w1
      clear hf_w1
      have hzw1_0 : w.heap.size < w1.heap.size := (by have := hx_w1.size; (try simp at this); omega); have hzw1_1 : w.heap.size + 1 < w1.heap.size := (by have := hx_w1.size; (try simp at this); omega); have hzw1_2 : w.heap.size + 1 + 1 < w1.heap.size := (by have := hx_w1.size; (try simp at this); omega); have hzw1_3 : w.heap.size + 1 + 1 + 1 < w1.heap.size := (by have := hx_w1.size; (try simp at this); omega)
      go_wp2
      have ho : openE n ls p q = firstE [unlessE (decide (0 ≤ p)) 2, unlessE (decide (p ≤ wrap64 (S - q))) 23] := by unfold openE; rw [if_pos HE.out, hq, HS.out]; rfl
      rw [ho]
      exact bodyPost_ret (v := .tuple #[dV a n c p q, .int .i64 (firstE [unlessE (decide (0 ≤ p)) 2, unlessE (decide (p ≤ wrap64 (S - q))) 23])]) (by simp [results, Tryd.results95, go_sem, hc_w1, hc3, hzw3_0, hzw3_1, hzw3_2, hzw3_3]) rfl ⟨rfl, by ((repeat' (first | with_reducible exact Ext.refl _ | with_reducible assumption | with_reducible exact Ext.one _ | with_reducible refine Ext.alloc ?_ _ | with_reducible refine Ext.setCell ?_ ?_ _ | with_reducible refine Ext.drew ?_ | ((with_reducible apply Ext.after'); (with_reducible assumption)))) <;> (try simp) <;> omega)⟩
    | false =>
      go_enter Tryd.func95, Tryd.ntmps95
      go_wp2_with (first | (go_at_call 27; refine (HC.out _ (by ((repeat' (first | with_reducible exact Ext.refl _ | with_reducible assumption | with_reducible exact Ext.one _ | with_reducible refine Ext.alloc ?_ _ | with_reducible refine Ext.setCell ?_ ?_ _ | with_reducible refine Ext.drew ?_ | ((with_reducible apply Ext.after'); (with_reducible assumption)))) <;> (try simp) <;> omega))).mono ?_; rintro e w3 ⟨rfl, hx3⟩; obtain ⟨hc3, hf3⟩ := bcell hx3; have hzw3_0 : w.heap.size < w3.heap.size := (by have := hx3.size; (try simp at this); omega); have hzw3_1 : w.heap.size + 1 < w3.heap.size := (by have := hx3.size; (try simp at this); omega); have hzw3_2 : w.heap.size + 1 + 1 < w3.heap.size := (by have := hx3.size; (try simp at this); omega); have hzw3_3 : w.heap.size + 1 + 1 + 1 < w3.heap.size := (by have := hx3.size; (try simp at this); omega); rw [HE.out]))
      refine wp_region_guard 21 [.is (dV a n c p q), .is (.pointer (some ⟨w.heap.size + 1, 1, none⟩)), .is (.int .i64 q), .is (.bool (withinB q 1 1000000)), .is (.bool (withinB q 1 1000000)), .is undef, .is undef, .is undef, .is (.bool false), .is (.int .i64 (unlessE false 2)), .is (.pointer (some ⟨w.heap.size + 1, 0, none⟩)), .is (.int .i64 p), .is (dV a n c p q), .is (.int .i64 S), .is (.pointer (some ⟨w.heap.size + 1, 1, none⟩)), .is (.int .i64 q), .is (.int .i64 (wrap64 (S - q))), .is (.bool (decide (p ≤ wrap64 (S - q)))), .is (.int .i64 (unlessE (decide (p ≤ wrap64 (S - q))) 23)), .rd 1 2 (ints [unlessE false 2, unlessE (decide (p ≤ wrap64 (S - q))) 23]), .is (.int .i64 (firstE [unlessE false 2, unlessE (decide (p ≤ wrap64 (S - q))) 23]))] (by kernel_rfl) (by kernel_rfl) (fun V => ?steps) (fun V w1 hx_w1 hf_w1 => ?tail)
      case steps =>
        simp only [List.take, Region.binds, mode_text, mode_gc, if_true, true_and, Bool.false_eq_true, if_false, List.drop, StepsU, StepsG, putsAll, FactsAt, Fs, val, List.getD_cons_zero, List.getD_cons_succ, List.getD_nil, SF.is, SF.rd, SF.any, SF.box, Option.getD_some, Option.getD_none, Act.put, List.setIfInBounds_toArray, List.set_cons_zero, List.set_cons_succ]
        refine ⟨?_, ?_, ?_, ?_, ?_, ?_, ?_, ?_, ?_, ?_, ?_, ?_, ?_, ?_, ?_, ?_, ?_, ?_, ?_, ?_, ?_, trivial⟩ <;> intro w2 hx hf <;> obtain ⟨hc, hfz⟩ := bcell hx <;> go_simp <;> (try simp only [wrap_eq])
        all_goals first
          | exact Post.mk rfl (Ext.refl _)
          | rfl
          | (refine Post.mk ?_ (Ext.refl _); (simp <;> omega); done)
          | exact Post.mk ⟨_, _, rfl, Nat.le_refl _, Rd.new _ _ _ _ _ rfl⟩ ((Ext.refl _).alloc _)
          | (refine Post.mk ⟨_, rfl, ?_, Bx.new _ _ _⟩ ((Ext.refl _).alloc _); have := hx.size; (try simp at this); (try simp); omega)
          | ((with_reducible refine CallTo.same (unless_any _ _ _) ?_); rfl)
          | ((with_reducible refine CallTo.same (isLength_any _ _) ?_); simp [hq]; done)
          | ((with_reducible refine CallTo.of (HA.out _ (by ((repeat' (first | with_reducible exact Ext.refl _ | with_reducible assumption | with_reducible exact Ext.one _ | with_reducible refine Ext.alloc ?_ _ | with_reducible refine Ext.setCell ?_ ?_ _ | with_reducible refine Ext.drew ?_ | ((with_reducible apply Ext.after'); (with_reducible assumption)))) <;> (try simp) <;> omega))) ?_); exact fun _ _ => rfl)
          | (obtain ⟨ha, -⟩ := hf; obtain ⟨a2, c2, e2, h2, h3⟩ := ha; rw [e2]; (with_reducible refine CallTo.same (first_any _ _ _ _ _ rfl (Nat.le_of_ble_eq_true rfl) h3) ?_); rfl)
      case tail =>
      simp only [FactsTo, List.take, Region.binds, mode_text, mode_gc, if_true, true_and, Bool.false_eq_true, if_false, List.drop, StepsU, StepsG, putsAll, FactsAt, Fs, val, List.getD_cons_zero, List.getD_cons_succ, List.getD_nil, SF.is, SF.rd, SF.any, SF.box, Option.getD_some, Option.getD_none, Act.put, List.setIfInBounds_toArray, List.set_cons_zero, List.set_cons_succ] at hf_w1 ⊢
      obtain ⟨hc_w1, hfz_w1⟩ := bcell hx_w1
      clear hf_w1
      have hzw1_0 : w.heap.size < w1.heap.size := (by have := hx_w1.size; (try simp at this); omega); have hzw1_1 : w.heap.size + 1 < w1.heap.size := (by have := hx_w1.size; (try simp at this); omega); have hzw1_2 : w.heap.size + 1 + 1 < w1.heap.size := (by have := hx_w1.size; (try simp at this); omega); have hzw1_3 : w.heap.size + 1 + 1 + 1 < w1.heap.size := (by have := hx_w1.size; (try simp at this); omega)
      go_wp2
      have ho : openE n ls p q = firstE [unlessE false 2, unlessE (decide (p ≤ wrap64 (S - q))) 23] := by unfold openE; rw [if_pos HE.out, hq, HS.out]; rfl
      rw [ho]
      exact bodyPost_ret (v := .tuple #[dV a n c p q, .int .i64 (firstE [unlessE false 2, unlessE (decide (p ≤ wrap64 (S - q))) 23])]) (by simp [results, Tryd.results95, go_sem, hc_w1, hc3, hzw3_0, hzw3_1, hzw3_2, hzw3_3]) rfl ⟨rfl, by ((repeat' (first | with_reducible exact Ext.refl _ | with_reducible assumption | with_reducible exact Ext.one _ | with_reducible refine Ext.alloc ?_ _ | with_reducible refine Ext.setCell ?_ ?_ _ | with_reducible refine Ext.drew ?_ | ((with_reducible apply Ext.after'); (with_reducible assumption)))) <;> (try simp) <;> omega)⟩
  · have hE' : ((trackC n ls).2 != 0) = true := by simp [hE]
    go_enter Tryd.func95, Tryd.ntmps95
    go_wp2_with (first | (go_at_call 27; refine (HC.out _ (by ((repeat' (first | with_reducible exact Ext.refl _ | with_reducible assumption | with_reducible exact Ext.one _ | with_reducible refine Ext.alloc ?_ _ | with_reducible refine Ext.setCell ?_ ?_ _ | with_reducible refine Ext.drew ?_ | ((with_reducible apply Ext.after'); (with_reducible assumption)))) <;> (try simp) <;> omega))).mono ?_; rintro e w3 ⟨rfl, hx3⟩; obtain ⟨hc3, hf3⟩ := bcell hx3; have hzw3_0 : w.heap.size < w3.heap.size := (by have := hx3.size; (try simp at this); omega); have hzw3_1 : w.heap.size + 1 < w3.heap.size := (by have := hx3.size; (try simp at this); omega); have hzw3_2 : w.heap.size + 1 + 1 < w3.heap.size := (by have := hx3.size; (try simp at this); omega); have hzw3_3 : w.heap.size + 1 + 1 + 1 < w3.heap.size := (by have := hx3.size; (try simp at this); omega)))
    have ho : openE n ls p q = (trackC n ls).2 := by unfold openE; rw [if_neg hE]
    rw [ho]
    exact bodyPost_ret (v := .tuple #[dV a n c p q, .int .i64 (trackC n ls).2]) (by simp [results, Tryd.results95, go_sem, hc3]) rfl ⟨rfl, by ((repeat' (first | with_reducible exact Ext.refl _ | with_reducible assumption | with_reducible exact Ext.one _ | with_reducible refine Ext.alloc ?_ _ | with_reducible refine Ext.setCell ?_ ?_ _ | with_reducible refine Ext.drew ?_ | ((with_reducible apply Ext.after'); (with_reducible assumption)))) <;> (try simp) <;> omega)⟩

def openFeedE (n : Nat) (ls : List Int) (p q : Int) (m : Nat) (cs : List T2) (f : T2) : Int :=
  firstE [openE n ls p q, unlessE (m == n) 10, unlessE (cs.all rightB) 2, unlessE (rightB f) 2]
abbrev fV (a : Option Addr) (m c : Nat) (f : T2) (mv : Int) : Value := .agg #[.slice a m c, .int .i64 f.1, .int .i64 f.2, .int .i64 mv]
set_option maxRecDepth 100000 in
set_option maxHeartbeats 1000000 in
theorem openFeed_any (ls : List Int) (a : Option Addr) (n c : Nat) (p q : Int) (cs : List T2) (a2 : Option Addr) (m c2 : Nat) (f : T2) (mv : Int) (w : World) (hl : ls.length = n) (hn : n ≤ 1000) (hr : Rd w 1 a n (ints ls))
    (hl2 : cs.length = m) (hm : m ≤ 1000) (hr2 : Rd w 2 a2 m (cells2 cs)) :
    Calls Tryd.prog 105 #[.agg #[.slice a n c], .agg #[.int .i64 p, .int .i64 q], fV a2 m c2 f mv] w fun e w' => e = .returned (.tuple #[dV a n c p q, .int .i64 (openFeedE n ls p q m cs f)]) ∧ Ext w w' := by
  have HO := Lib.hid (fun w1 (h : Ext w w1) => open_any ls a n c p q w1 hl hn (hr.ext h))
  have HR := Lib.hid (fun w1 (h : Ext w w1) => right_any cs a2 m c2 w1 hl2 hm (hr2.ext h))
  clear hl hl2
  generalize hE : openE n ls p q = E at *
  have HE := Lib.hid hE
  clear hE
  generalize hA : unlessE (cs.all rightB) 2 = A at *
  have HA := Lib.hid hA
  clear hA
  go_enter Tryd.func105, Tryd.ntmps105
  go_wp2_with (first | (go_at_call 95; refine (HO.out _ (by ((repeat' (first | with_reducible exact Ext.refl _ | with_reducible assumption | with_reducible exact Ext.one _ | with_reducible refine Ext.alloc ?_ _ | with_reducible refine Ext.setCell ?_ ?_ _ | with_reducible refine Ext.drew ?_ | ((with_reducible apply Ext.after'); (with_reducible assumption)))) <;> (try simp) <;> omega))).mono ?_; rintro e w3 ⟨rfl, hx3⟩; obtain ⟨hc3, hf3⟩ := bcell hx3; have hzw3_0 : w.heap.size < w3.heap.size := (by have := hx3.size; (try simp at this); omega); have hzw3_1 : w.heap.size + 1 < w3.heap.size := (by have := hx3.size; (try simp at this); omega); have hzw3_2 : w.heap.size + 1 + 1 < w3.heap.size := (by have := hx3.size; (try simp at this); omega); have hzw3_3 : w.heap.size + 1 + 1 + 1 < w3.heap.size := (by have := hx3.size; (try simp at this); omega)))
  have hz4 : w.heap.size + 1 + 1 + 1 < w3.heap.size + 1 := Nat.lt_succ_of_lt hzw3_3
  have hz5 : w.heap.size + 1 + 1 < w3.heap.size + 1 := Nat.lt_succ_of_lt hzw3_2
  have hz6 : w.heap.size + 1 < w3.heap.size + 1 := Nat.lt_succ_of_lt hzw3_1
  have hz7 : w.heap.size < w3.heap.size + 1 := Nat.lt_succ_of_lt hzw3_0
  refine wp_region_ext 19 [.is (dV a n c p q), .is (.int .i64 E), .is (.pointer (some ⟨w.heap.size + 1 + 1, 0, none⟩)), .is (.slice a2 m c2), .is (.int .i64 m), .is (.pointer (some ⟨w.heap.size, 0, none⟩)), .is (.slice a n c), .is (.int .i64 n), .is (.bool (m == n)), .is (.int .i64 (unlessE (m == n) 10)), .is (.pointer (some ⟨w.heap.size + 1 + 1, 0, none⟩)), .is (.slice a2 m c2), .is (.int .i64 A), .is (.pointer (some ⟨w.heap.size + 1 + 1, 1, none⟩)), .is (tV f), .rd 2 1 (cells2 [f]), .is (.int .i64 (unlessE (rightB f) 2)), .rd 1 4 (ints [E, unlessE (m == n) 10, A, unlessE (rightB f) 2]), .is (.int .i64 (firstE [E, unlessE (m == n) 10, A, unlessE (rightB f) 2]))] (by kernel_rfl) (by kernel_rfl) (by kernel_rfl) (fun V => ?steps) (fun V w1 hx_w1 hf_w1 => ?tail)
  case steps =>
    simp only [List.take, Region.binds, mode_text, mode_gc, if_true, true_and, Bool.false_eq_true, if_false, List.drop, StepsU, StepsG, putsAll, FactsAt, Fs, val, List.getD_cons_zero, List.getD_cons_succ, List.getD_nil, SF.is, SF.rd, SF.any, SF.box, Option.getD_some, Option.getD_none, Act.put, List.setIfInBounds_toArray, List.set_cons_zero, List.set_cons_succ]
    refine ⟨?_, ?_, ?_, ?_, ?_, ?_, ?_, ?_, ?_, ?_, ?_, ?_, ?_, ?_, ?_, ?_, ?_, ?_, ?_, trivial⟩ <;> intro w2 hx hf <;> obtain ⟨hc, hfz⟩ := bcell hx <;> go_simp <;> (try simp only [wrap_eq])
    all_goals first
      | exact Post.mk rfl (Ext.refl _)
      | rfl
      | (refine Post.mk ?_ (Ext.refl _); (simp <;> omega); done)
      | exact Post.mk ⟨_, _, rfl, Nat.le_refl _, Rd.new _ _ _ _ _ rfl⟩ ((Ext.refl _).alloc _)
      | (refine Post.mk ⟨_, rfl, ?_, Bx.new _ _ _⟩ ((Ext.refl _).alloc _); have := hx.size; (try simp at this); (try simp); omega)
      | ((with_reducible refine CallTo.same (unless_any _ _ _) ?_); rfl)
      | ((with_reducible refine CallTo.of (HR.out _ (by ((repeat' (first | with_reducible exact Ext.refl _ | with_reducible assumption | with_reducible exact Ext.one _ | with_reducible refine Ext.alloc ?_ _ | with_reducible refine Ext.setCell ?_ ?_ _ | with_reducible refine Ext.drew ?_ | ((with_reducible apply Ext.after'); (with_reducible assumption)))) <;> (try simp) <;> omega))) ?_); exact fun _ _ => rfl)
      | (obtain ⟨ha, -⟩ := hf; obtain ⟨a2, c2, e2, h2, h3⟩ := ha; rw [e2]; (with_reducible refine CallTo.of (right_any [f] _ _ _ _ rfl (Nat.le_of_ble_eq_true rfl) h3) ?_); intro _ _; simp; done)
      | (obtain ⟨ha, -⟩ := hf; obtain ⟨a2, c2, e2, h2, h3⟩ := ha; rw [e2]; (with_reducible refine CallTo.same (first_any _ _ _ _ _ rfl (Nat.le_of_ble_eq_true rfl) h3) ?_); rfl)
  case tail =>
  simp only [FactsTo, List.take, Region.binds, mode_text, mode_gc, if_true, true_and, Bool.false_eq_true, if_false, List.drop, StepsU, StepsG, putsAll, FactsAt, Fs, val, List.getD_cons_zero, List.getD_cons_succ, List.getD_nil, SF.is, SF.rd, SF.any, SF.box, Option.getD_some, Option.getD_none, Act.put, List.setIfInBounds_toArray, List.set_cons_zero, List.set_cons_succ] at hf_w1 ⊢
  obtain ⟨hc_w1, hfz_w1⟩ := bcell hx_w1
  clear hf_w1
  have hs1 := hx_w1.size
  simp only [World.size_alloc] at hs1
  have hy0 : w.heap.size < w1.heap.size := by omega
  have hy1 : w.heap.size + 1 < w1.heap.size := by omega
  have hy2 : w.heap.size + 1 + 1 < w1.heap.size := by omega
  have hy3 : w.heap.size + 1 + 1 + 1 < w1.heap.size := by omega
  have hz8 : w.heap.size + 1 + 1 + 1 ≠ w3.heap.size := by omega
  go_wp2
  have ho : openFeedE n ls p q m cs f = firstE [E, unlessE (m == n) 10, A, unlessE (rightB f) 2] := by unfold openFeedE; rw [HE.out, HA.out]
  rw [ho]
  exact bodyPost_ret (v := .tuple #[dV a n c p q, .int .i64 (firstE [E, unlessE (m == n) 10, A, unlessE (rightB f) 2])]) (by simp [results, Tryd.results105, go_sem, hc_w1, hc3, hzw3_0, hzw3_1, hzw3_2, hzw3_3, hz4, hz8]) rfl ⟨rfl, by ((repeat' (first | with_reducible exact Ext.refl _ | with_reducible assumption | with_reducible exact Ext.one _ | with_reducible refine Ext.alloc ?_ _ | with_reducible refine Ext.setCell ?_ ?_ _ | with_reducible refine Ext.drew ?_ | ((with_reducible apply Ext.after'); (with_reducible assumption)))) <;> (try simp) <;> omega)⟩
end Go.Proofs.YtdbglpaejmhbjaaDoor
