/- Walks: pulses refused; lists that are the same. -/
import Derived.Test.YtdbglpaejmhbjaaDoorW13
namespace Go.Proofs.YtdbglpaejmhbjaaDoor
open Go Go.RowKit Go.Proofs
set_option linter.unusedSimpArgs false
set_option linter.unusedVariables false

set_option maxRecDepth 100000 in
set_option maxHeartbeats 1000000 in
theorem modulated_err (s : Int) (cs : List T2) (a : Option Addr) (n c : Nat) (w : World) (hl : cs.length = n) (hn : n ≤ 1000) (hr : Rd w 2 a n (cells2 cs)) (hE : modE s n cs ≠ 0) :
    Calls Tryd.prog 36 #[.int .i64 s, .slice a n c] w fun e w' => e = .returned (.tuple #[.agg #[.slice none 0 0, .slice none 0 0], .int .i64 (modE s n cs)]) ∧ Ext w w' := by
  have HS := Lib.hid (fun w1 (h : Ext w w1) => scaled_any s [] none 0 0 w1 rfl (by omega) (Rd.nil w1 2 none))
  have HR := Lib.hid (fun w1 (h : Ext w w1) => right_any cs a n c w1 hl hn (hr.ext h))
  have hE' : (modE s n cs != 0) = true := by simp [hE]
  clear hl hE
  unfold modE at hE' ⊢
  generalize hF : firstE [unlessE (withinB s 1 100000) 2, unlessE (decide ((n : Int) ≤ 60)) 8, unlessE (cs.all rightB) 2] = F at hE' ⊢
  have HF := Lib.hid hF
  clear hF
  go_enter Tryd.func36, Tryd.ntmps36
  go_wp2_with (first | (go_at_call 98; refine (HS.out _ (by ((repeat' (first | with_reducible exact Ext.refl _ | with_reducible assumption | with_reducible exact Ext.one _ | with_reducible refine Ext.alloc ?_ _ | with_reducible refine Ext.setCell ?_ ?_ _ | with_reducible refine Ext.drew ?_ | ((with_reducible apply Ext.after'); (with_reducible assumption)))) <;> (try simp) <;> omega))).mono ?_; rintro e w3 ⟨rfl, hx3⟩; obtain ⟨hc3, hf3⟩ := bcell hx3; have hzw3_0 : w.heap.size < w3.heap.size := (by have := hx3.size; (try simp at this); omega); rw [show firstE [unlessE (withinB s 1 100000) 2, unlessE (([] : List T2).all rightB) 2] = unlessE (withinB s 1 100000) 2 by simp [firstE, unlessE]]) | (go_at_call 82; refine (HR.out _ (by ((repeat' (first | with_reducible exact Ext.refl _ | with_reducible assumption | with_reducible exact Ext.one _ | with_reducible refine Ext.alloc ?_ _ | with_reducible refine Ext.setCell ?_ ?_ _ | with_reducible refine Ext.drew ?_ | ((with_reducible apply Ext.after'); (with_reducible assumption)))) <;> (try simp) <;> omega))).mono ?_; rintro e w4 ⟨rfl, hx4⟩; obtain ⟨hc4, hf4⟩ := bcell hx4; have hzw4_0 : w.heap.size < w4.heap.size := (by have := hx4.size; (try simp at this); omega)) | (go_at_call 80; refine (firstOf3 _ _ _ _ _ _ (by simp)).mono ?_; rintro e w5 ⟨rfl, rfl⟩; rw [HF.out]) | (first | (go_at_call 81; refine (unless_any _ _ _).mono ?_; rintro e wz ⟨rfl, rfl⟩)))
  exact bodyPost_ret (v := .tuple #[.agg #[.slice none 0 0, .slice none 0 0], .int .i64 F]) (by simp [results, Tryd.results36, go_sem, hc3, hc4, hzw3_0, hzw4_0]) rfl ⟨rfl, by ((repeat' (first | with_reducible exact Ext.refl _ | with_reducible assumption | with_reducible exact Ext.one _ | with_reducible refine Ext.alloc ?_ _ | with_reducible refine Ext.setCell ?_ ?_ _ | with_reducible refine Ext.drew ?_ | ((with_reducible apply Ext.after'); (with_reducible assumption)))) <;> (try simp) <;> omega)⟩

theorem drop_beq {α : Type} [BEq α] (l m : List α) (k : Nat) (h1 : k < l.length) (h2 : k < m.length) : (l.drop k == m.drop k) = (l[k] == m[k] && (l.drop (k + 1) == m.drop (k + 1))) := by
  rw [List.drop_eq_getElem_cons h1, List.drop_eq_getElem_cons h2]; rfl

set_option maxRecDepth 100000 in
set_option maxHeartbeats 1000000 in
theorem bInts_any (l m : List Int) (a1 a2 : Option Addr) (n1 c1 n2 c2 : Nat) (w : World) (hl : l.length = n1) (hm : m.length = n2) (hn1 : n1 ≤ 1000) (hn2 : n2 ≤ 1000) (hr1 : Rd w 1 a1 n1 (ints l)) (hr2 : Rd w 1 a2 n2 (ints m)) :
    Calls Tryd.prog 32 #[.slice a1 n1 c1, .slice a2 n2 c2] w fun e w' => e = .returned (.bool (l == m)) ∧ Ext w w' := by
  have HL := Lib.hid hl
  have HM := Lib.hid hm
  clear hl hm
  by_cases hnn : n1 = n2
  · subst hnn
    go_enter Tryd.func32, Tryd.ntmps32
    go_wp2
    go_loopw [5] (fun i wr => ∃ k : Nat, k ≤ n1 ∧ i = .int .i64 k ∧ Hid ((l == m) = (l.drop k == m.drop k)) ∧ Ext w wr) (fun i _ => n1 - (intOf i).toNat)
    case atStart => exact ⟨0, Nat.zero_le _, rfl, rfl, Ext.refl w⟩
    case round =>
      obtain ⟨k, hk, rfl, hd, hx⟩ := hrel
      by_cases hlt : k < n1
      · obtain ⟨b, o, rfl, hrow⟩ := (hr1.ext hx).2 (by omega)
        obtain ⟨b2, o2, rfl, hrow2⟩ := (hr2.ext hx).2 (by omega)
        have hkl : k < l.length := by rw [HL.out]; exact hlt
        have hkm : k < m.length := by rw [HM.out]; exact hlt
        have hc0 := hrow.at (ints_get hkl)
        have hc1 := hrow2.at (ints_get hkm)
        have hb1 := hrow.1
        have hb2 := hrow2.1
        have hs := Lib.hid (drop_beq l m k hkl hkm)
        by_cases he : l[k] = m[k]
        · have he' : (l[k] != m[k]) = false := by simp [he]
          have HE := Lib.hid he
          clear he
          go_wp2
          refine wp_region_ext 9 [.is (.slice (some ⟨b, o, none⟩) n1 c1), .is (.int .i64 k), .is (.pointer (some ⟨b, o + k, none⟩)), .is (.int .i64 l[k]), .is (.slice (some ⟨b2, o2, none⟩) n1 c2), .is (.int .i64 k), .is (.pointer (some ⟨b2, o2 + k, none⟩)), .is (.int .i64 m[k]), .is (.bool (l[k] != m[k]))] (by kernel_rfl) (by kernel_rfl) (by kernel_rfl) (fun V => ?steps) (fun V w1 hx_w1 hf_w1 => ?tail)
          case steps =>
            simp only [List.take, Region.binds, mode_text, mode_gc, if_true, true_and, Bool.false_eq_true, if_false, List.drop, StepsU, StepsG, putsAll, FactsAt, Fs, val, List.getD_cons_zero, List.getD_cons_succ, List.getD_nil, SF.is, SF.rd, SF.any, SF.box, Option.getD_some, Option.getD_none, Act.put, List.setIfInBounds_toArray, List.set_cons_zero, List.set_cons_succ]
            refine ⟨?_, ?_, ?_, ?_, ?_, ?_, ?_, ?_, ?_, trivial⟩ <;> intro w2 hx hf <;> obtain ⟨hc, hfz⟩ := bcell hx <;> go_simp <;> (try simp only [wrap_eq])
            all_goals first
              | exact Post.mk rfl (Ext.refl _)
              | rfl
              | (refine Post.mk ?_ (Ext.refl _); (simp <;> omega); done)
              | exact Post.mk ⟨_, _, rfl, Nat.le_refl _, Rd.new _ _ _ _ _ rfl⟩ ((Ext.refl _).alloc _)
              | (refine Post.mk ⟨_, rfl, ?_, Bx.new _ _ _⟩ ((Ext.refl _).alloc _); have := hx.size; (try simp at this); (try simp); omega)
          case tail =>
          simp only [FactsTo, List.take, Region.binds, mode_text, mode_gc, if_true, true_and, Bool.false_eq_true, if_false, List.drop, StepsU, StepsG, putsAll, FactsAt, Fs, val, List.getD_cons_zero, List.getD_cons_succ, List.getD_nil, SF.is, SF.rd, SF.any, SF.box, Option.getD_some, Option.getD_none, Act.put, List.setIfInBounds_toArray, List.set_cons_zero, List.set_cons_succ] at hf_w1 ⊢
          obtain ⟨hc_w1, hfz_w1⟩ := bcell hx_w1
          go_wp2
          go_roundw
          case rel => exact ⟨k + 1, by omega, by go_num, by show _ = _; rw [hd.out, hs.out, HE.out]; simp, hx.trans hx_w1⟩
          case measure => simp [intOf]; omega
        · have he' : (l[k] != m[k]) = true := by simp [he]
          have HE := Lib.hid he
          clear he
          go_wp2
          refine wp_region_ext 9 [.is (.slice (some ⟨b, o, none⟩) n1 c1), .is (.int .i64 k), .is (.pointer (some ⟨b, o + k, none⟩)), .is (.int .i64 l[k]), .is (.slice (some ⟨b2, o2, none⟩) n1 c2), .is (.int .i64 k), .is (.pointer (some ⟨b2, o2 + k, none⟩)), .is (.int .i64 m[k]), .is (.bool (l[k] != m[k]))] (by kernel_rfl) (by kernel_rfl) (by kernel_rfl) (fun V => ?steps) (fun V w1 hx_w1 hf_w1 => ?tail)
          case steps =>
            simp only [List.take, Region.binds, mode_text, mode_gc, if_true, true_and, Bool.false_eq_true, if_false, List.drop, StepsU, StepsG, putsAll, FactsAt, Fs, val, List.getD_cons_zero, List.getD_cons_succ, List.getD_nil, SF.is, SF.rd, SF.any, SF.box, Option.getD_some, Option.getD_none, Act.put, List.setIfInBounds_toArray, List.set_cons_zero, List.set_cons_succ]
            refine ⟨?_, ?_, ?_, ?_, ?_, ?_, ?_, ?_, ?_, trivial⟩ <;> intro w2 hx hf <;> obtain ⟨hc, hfz⟩ := bcell hx <;> go_simp <;> (try simp only [wrap_eq])
            all_goals first
              | exact Post.mk rfl (Ext.refl _)
              | rfl
              | (refine Post.mk ?_ (Ext.refl _); (simp <;> omega); done)
              | exact Post.mk ⟨_, _, rfl, Nat.le_refl _, Rd.new _ _ _ _ _ rfl⟩ ((Ext.refl _).alloc _)
              | (refine Post.mk ⟨_, rfl, ?_, Bx.new _ _ _⟩ ((Ext.refl _).alloc _); have := hx.size; (try simp at this); (try simp); omega)
          case tail =>
          simp only [FactsTo, List.take, Region.binds, mode_text, mode_gc, if_true, true_and, Bool.false_eq_true, if_false, List.drop, StepsU, StepsG, putsAll, FactsAt, Fs, val, List.getD_cons_zero, List.getD_cons_succ, List.getD_nil, SF.is, SF.rd, SF.any, SF.box, Option.getD_some, Option.getD_none, Act.put, List.setIfInBounds_toArray, List.set_cons_zero, List.set_cons_succ] at hf_w1 ⊢
          obtain ⟨hc_w1, hfz_w1⟩ := bcell hx_w1
          go_wp2
          go_ret
          exact ⟨ret_bool (by rw [hd.out, hs.out]; simp [HE.out]), hx.trans hx_w1⟩
      · go_wp2
        go_ret
        exact ⟨ret_bool (by rw [hd.out, List.drop_eq_nil_of_le (by rw [HL.out]; omega), List.drop_eq_nil_of_le (by rw [HM.out]; omega)]; rfl), hx⟩
  · have hE : (n1 != n2) = true := by simp [hnn]
    have hf : (l == m) = false := by
      rw [Bool.eq_false_iff]; intro h
      have := eq_of_beq h
      exact hnn (by rw [← HL.out, ← HM.out, this])
    have HF := Lib.hid hf
    clear hf hnn
    go_enter Tryd.func32, Tryd.ntmps32
    go_wp2
    go_ret
    exact ⟨ret_bool HF.out.symm, Ext.refl w⟩
set_option maxRecDepth 100000 in
set_option maxHeartbeats 1000000 in
theorem rSame_any (l m : List T2) (a1 a2 : Option Addr) (n1 c1 n2 c2 : Nat) (w : World) (hl : l.length = n1) (hm : m.length = n2) (hn1 : n1 ≤ 1000) (hn2 : n2 ≤ 1000) (hr1 : Rd w 2 a1 n1 (cells2 l)) (hr2 : Rd w 2 a2 n2 (cells2 m)) :
    Calls Tryd.prog 49 #[.slice a1 n1 c1, .slice a2 n2 c2] w fun e w' => e = .returned (.bool (l == m)) ∧ Ext w w' := by
  have HL := Lib.hid hl
  have HM := Lib.hid hm
  clear hl hm
  by_cases hnn : n1 = n2
  · subst hnn
    go_enter Tryd.func49, Tryd.ntmps49
    go_wp2
    go_loopw [5] (fun i wr => ∃ k : Nat, k ≤ n1 ∧ i = .int .i64 k ∧ Hid ((l == m) = (l.drop k == m.drop k)) ∧ Ext w wr) (fun i _ => n1 - (intOf i).toNat)
    case atStart => exact ⟨0, Nat.zero_le _, rfl, rfl, Ext.refl w⟩
    case round =>
      obtain ⟨k, hk, rfl, hd, hx⟩ := hrel
      by_cases hlt : k < n1
      · obtain ⟨b, o, rfl, hrow⟩ := (hr1.ext hx).2 (by omega)
        obtain ⟨b2, o2, rfl, hrow2⟩ := (hr2.ext hx).2 (by omega)
        have hkl : k < l.length := by rw [HL.out]; exact hlt
        have hkm : k < m.length := by rw [HM.out]; exact hlt
        have hc0 := hrow.at (cells2_get0 hkl)
        have hc0' := hrow.at' (cells2_get1 hkl)
        have hc1 := hrow2.at (cells2_get0 hkm)
        have hc1' := hrow2.at' (cells2_get1 hkm)
        have hb1 := hrow.1
        have hb2 := hrow2.1
        have hs := Lib.hid (drop_beq l m k hkl hkm)
        by_cases e1 : l[k].1 = m[k].1
        · by_cases e2 : l[k].2 = m[k].2
          · have HE := Lib.hid (show l[k] = m[k] from Prod.ext e1 e2)
            go_wp2
            refine wp_region_ext 9 [.is (.slice (some ⟨b, o, none⟩) n1 c1), .is (.int .i64 k), .is (.pointer (some ⟨b, o + k * 2, none⟩)), .is (tV l[k]), .is (.slice (some ⟨b2, o2, none⟩) n1 c2), .is (.int .i64 k), .is (.pointer (some ⟨b2, o2 + k * 2, none⟩)), .is (tV m[k]), .is (.bool false)] (by kernel_rfl) (by kernel_rfl) (by kernel_rfl) (fun V => ?steps) (fun V w1 hx_w1 hf_w1 => ?tail)
            case steps =>
              simp only [List.take, Region.binds, mode_text, mode_gc, if_true, true_and, Bool.false_eq_true, if_false, List.drop, StepsU, StepsG, putsAll, FactsAt, Fs, val, List.getD_cons_zero, List.getD_cons_succ, List.getD_nil, SF.is, SF.rd, SF.any, SF.box, Option.getD_some, Option.getD_none, Act.put, List.setIfInBounds_toArray, List.set_cons_zero, List.set_cons_succ]
              refine ⟨?_, ?_, ?_, ?_, ?_, ?_, ?_, ?_, ?_, trivial⟩ <;> intro w2 hx hf <;> obtain ⟨hc, hfz⟩ := bcell hx <;> go_simp <;> (try simp only [wrap_eq])
              all_goals first
                | exact Post.mk rfl (Ext.refl _)
                | rfl
                | (refine Post.mk ?_ (Ext.refl _); (simp <;> omega); done)
                | exact Post.mk ⟨_, _, rfl, Nat.le_refl _, Rd.new _ _ _ _ _ rfl⟩ ((Ext.refl _).alloc _)
                | (refine Post.mk ⟨_, rfl, ?_, Bx.new _ _ _⟩ ((Ext.refl _).alloc _); have := hx.size; (try simp at this); (try simp); omega)
                | (rw [if_pos e1, if_pos e2]; exact Post.mk rfl (Ext.refl _))
            case tail =>
            simp only [FactsTo, List.take, Region.binds, mode_text, mode_gc, if_true, true_and, Bool.false_eq_true, if_false, List.drop, StepsU, StepsG, putsAll, FactsAt, Fs, val, List.getD_cons_zero, List.getD_cons_succ, List.getD_nil, SF.is, SF.rd, SF.any, SF.box, Option.getD_some, Option.getD_none, Act.put, List.setIfInBounds_toArray, List.set_cons_zero, List.set_cons_succ] at hf_w1 ⊢
            obtain ⟨hc_w1, hfz_w1⟩ := bcell hx_w1
            go_wp2
            go_roundw
            case rel => exact ⟨k + 1, by omega, by go_num, by show _ = _; rw [hd.out, hs.out, HE.out]; simp, hx.trans hx_w1⟩
            case measure => simp [intOf]; omega
          · have HE := Lib.hid (show l[k] ≠ m[k] from fun h => e2 (by rw [h]))
            go_wp2
            refine wp_region_ext 9 [.is (.slice (some ⟨b, o, none⟩) n1 c1), .is (.int .i64 k), .is (.pointer (some ⟨b, o + k * 2, none⟩)), .is (tV l[k]), .is (.slice (some ⟨b2, o2, none⟩) n1 c2), .is (.int .i64 k), .is (.pointer (some ⟨b2, o2 + k * 2, none⟩)), .is (tV m[k]), .is (.bool true)] (by kernel_rfl) (by kernel_rfl) (by kernel_rfl) (fun V => ?steps) (fun V w1 hx_w1 hf_w1 => ?tail)
            case steps =>
              simp only [List.take, Region.binds, mode_text, mode_gc, if_true, true_and, Bool.false_eq_true, if_false, List.drop, StepsU, StepsG, putsAll, FactsAt, Fs, val, List.getD_cons_zero, List.getD_cons_succ, List.getD_nil, SF.is, SF.rd, SF.any, SF.box, Option.getD_some, Option.getD_none, Act.put, List.setIfInBounds_toArray, List.set_cons_zero, List.set_cons_succ]
              refine ⟨?_, ?_, ?_, ?_, ?_, ?_, ?_, ?_, ?_, trivial⟩ <;> intro w2 hx hf <;> obtain ⟨hc, hfz⟩ := bcell hx <;> go_simp <;> (try simp only [wrap_eq])
              all_goals first
                | exact Post.mk rfl (Ext.refl _)
                | rfl
                | (refine Post.mk ?_ (Ext.refl _); (simp <;> omega); done)
                | exact Post.mk ⟨_, _, rfl, Nat.le_refl _, Rd.new _ _ _ _ _ rfl⟩ ((Ext.refl _).alloc _)
                | (refine Post.mk ⟨_, rfl, ?_, Bx.new _ _ _⟩ ((Ext.refl _).alloc _); have := hx.size; (try simp at this); (try simp); omega)
                | (rw [if_pos e1, if_neg e2]; exact Post.mk rfl (Ext.refl _))
            case tail =>
            simp only [FactsTo, List.take, Region.binds, mode_text, mode_gc, if_true, true_and, Bool.false_eq_true, if_false, List.drop, StepsU, StepsG, putsAll, FactsAt, Fs, val, List.getD_cons_zero, List.getD_cons_succ, List.getD_nil, SF.is, SF.rd, SF.any, SF.box, Option.getD_some, Option.getD_none, Act.put, List.setIfInBounds_toArray, List.set_cons_zero, List.set_cons_succ] at hf_w1 ⊢
            obtain ⟨hc_w1, hfz_w1⟩ := bcell hx_w1
            go_wp2
            go_ret
            exact ⟨ret_bool (by rw [hd.out, hs.out, beq_eq_false_iff_ne.2 HE.out]; rfl), hx.trans hx_w1⟩
        · have HE := Lib.hid (show l[k] ≠ m[k] from fun h => e1 (by rw [h]))
          go_wp2
          refine wp_region_ext 9 [.is (.slice (some ⟨b, o, none⟩) n1 c1), .is (.int .i64 k), .is (.pointer (some ⟨b, o + k * 2, none⟩)), .is (tV l[k]), .is (.slice (some ⟨b2, o2, none⟩) n1 c2), .is (.int .i64 k), .is (.pointer (some ⟨b2, o2 + k * 2, none⟩)), .is (tV m[k]), .is (.bool true)] (by kernel_rfl) (by kernel_rfl) (by kernel_rfl) (fun V => ?steps) (fun V w1 hx_w1 hf_w1 => ?tail)
          case steps =>
            simp only [List.take, Region.binds, mode_text, mode_gc, if_true, true_and, Bool.false_eq_true, if_false, List.drop, StepsU, StepsG, putsAll, FactsAt, Fs, val, List.getD_cons_zero, List.getD_cons_succ, List.getD_nil, SF.is, SF.rd, SF.any, SF.box, Option.getD_some, Option.getD_none, Act.put, List.setIfInBounds_toArray, List.set_cons_zero, List.set_cons_succ]
            refine ⟨?_, ?_, ?_, ?_, ?_, ?_, ?_, ?_, ?_, trivial⟩ <;> intro w2 hx hf <;> obtain ⟨hc, hfz⟩ := bcell hx <;> go_simp <;> (try simp only [wrap_eq])
            all_goals first
              | exact Post.mk rfl (Ext.refl _)
              | rfl
              | (refine Post.mk ?_ (Ext.refl _); (simp <;> omega); done)
              | exact Post.mk ⟨_, _, rfl, Nat.le_refl _, Rd.new _ _ _ _ _ rfl⟩ ((Ext.refl _).alloc _)
              | (refine Post.mk ⟨_, rfl, ?_, Bx.new _ _ _⟩ ((Ext.refl _).alloc _); have := hx.size; (try simp at this); (try simp); omega)
              | (rw [if_neg e1]; exact Post.mk rfl (Ext.refl _))
          case tail =>
          simp only [FactsTo, List.take, Region.binds, mode_text, mode_gc, if_true, true_and, Bool.false_eq_true, if_false, List.drop, StepsU, StepsG, putsAll, FactsAt, Fs, val, List.getD_cons_zero, List.getD_cons_succ, List.getD_nil, SF.is, SF.rd, SF.any, SF.box, Option.getD_some, Option.getD_none, Act.put, List.setIfInBounds_toArray, List.set_cons_zero, List.set_cons_succ] at hf_w1 ⊢
          obtain ⟨hc_w1, hfz_w1⟩ := bcell hx_w1
          go_wp2
          go_ret
          exact ⟨ret_bool (by rw [hd.out, hs.out, beq_eq_false_iff_ne.2 HE.out]; rfl), hx.trans hx_w1⟩
      · go_wp2
        go_ret
        exact ⟨ret_bool (by rw [hd.out, List.drop_eq_nil_of_le (by rw [HL.out]; omega), List.drop_eq_nil_of_le (by rw [HM.out]; omega)]; rfl), hx⟩
  · have hE : (n1 != n2) = true := by simp [hnn]
    have hf : (l == m) = false := by
      rw [Bool.eq_false_iff]; intro h
      have := eq_of_beq h
      exact hnn (by rw [← HL.out, ← HM.out, this])
    have HF := Lib.hid hf
    clear hf hnn
    go_enter Tryd.func49, Tryd.ntmps49
    go_wp2
    go_ret
    exact ⟨ret_bool HF.out.symm, Ext.refl w⟩
end Go.Proofs.YtdbglpaejmhbjaaDoor
