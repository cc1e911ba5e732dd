/- Walks: whether currents have the same force, as specified; the statement of these. -/
import Derived.Test.YtdbglpaejmhbjaaDoorW16
namespace Go.Proofs.YtdbglpaejmhbjaaDoor
open Go Go.RowKit Go.Proofs
set_option linter.unusedSimpArgs false
set_option linter.unusedVariables false

set_option maxRecDepth 100000 in
set_option maxHeartbeats 1000000 in
theorem rEven_any (cs : List T2) (a : Option Addr) (n c : Nat) (f : T2) (w : World) (hl : cs.length = n) (hn : n ≤ 1000) (hr : Rd w 2 a n (cells2 cs)) :
    Calls Tryd.prog 20 #[.slice a n c, tV f] w fun e w' => e = .returned (.bool (evenB cs f)) ∧ Ext w w' := by
  have HL := Lib.hid hl
  obtain ⟨q, hq⟩ : ∃ q, ∀ h : 0 < cs.length, (productW cs[0] f).2 = q := by
    by_cases h : 0 < cs.length
    · exact ⟨(productW cs[0] f).2, fun _ => rfl⟩
    · exact ⟨0, fun h' => absurd h' h⟩
  have hev : Hid (evenB cs f = !(cs.any fun x => (productW x f).2 != q)) := by
    show _ = _
    cases cs with
    | nil => rfl
    | cons x l => have := hq (by simp); simp only [List.getElem_cons_zero] at this; subst this; rfl
  have HQ := Lib.hid hq
  clear hl hq
  go_enter Tryd.func20, Tryd.ntmps20
  go_wp2
  go_loopw [5] (fun i wr => ∃ k : Nat, k ≤ n ∧ i = .int .i64 k ∧ Hid ((cs.any fun x => (productW x f).2 != q) = ((cs.drop k).any fun x => (productW x f).2 != q)) ∧ Bx wr w.heap.size 24 #[.int .i64 f.1, .int .i64 f.2] ∧ Ext w wr) (fun i _ => n - (intOf i).toNat)
  case atStart => exact ⟨0, Nat.zero_le _, rfl, rfl, Bx.new w _ _, by ((repeat' (first | with_reducible exact Ext.refl _ | assumption | with_reducible exact Ext.one _ | with_reducible refine Ext.alloc ?_ _ | with_reducible refine Ext.setCell ?_ ?_ _ | with_reducible refine Ext.drew ?_ | refine Ext.trans ?_ (by assumption))) <;> (try simp) <;> omega)⟩
  case round =>
    obtain ⟨k, hk, rfl, hd, hbf, hx⟩ := hrel
    obtain ⟨y0, y1, y2, y3, y4⟩ := hbf.at2
    by_cases hlt : k < n
    · obtain ⟨b, o, rfl, hrow⟩ := (hr.ext hx).2 (by omega)
      have hbb := hrow.1
      have hkl : k < cs.length := by rw [HL.out]; exact hlt
      have hk0 : 0 < cs.length := by omega
      have hn0 : 0 < n := by omega
      have hc0 := hrow.at (cells2_get0 hkl)
      have hc1 := hrow.at' (cells2_get1 hkl)
      have hd0 := hrow.at (cells2_get0 hk0)
      have hd1 := hrow.at' (cells2_get1 hk0)
      simp only [Nat.zero_mul, Nat.add_zero] at hd0 hd1
      have hs : Hid (((cs.drop k).any fun x => (productW x f).2 != q) = (((productW cs[k] f).2 != q) || (cs.drop (k + 1)).any fun x => (productW x f).2 != q)) := by
        show _ = _
        rw [List.drop_eq_getElem_cons hkl]; rfl
      have HQ0 := Lib.hid (HQ.out hk0)
      generalize hp : (productW cs[k] f).2 = p at *
      have HP := Lib.hid hp
      clear hp
      by_cases he : p = q
      · have he' : (p != q) = false := by simp [he]
        have HE := Lib.hid he
        clear he
        go_wp2
        refine wp_region_ext 12 [.is (.slice (some ⟨b, o, none⟩) n c), .is (.int .i64 k), .is (.pointer (some ⟨b, o + k * 2, none⟩)), .is (tV cs[k]), .is (tV f), .is (.int .i64 p), .is (.slice (some ⟨b, o, none⟩) n c), .is (.pointer (some ⟨b, o, none⟩)), .is (tV cs[0]), .is (tV f), .is (.int .i64 q), .is (.bool (p != q))] (by kernel_rfl) (by kernel_rfl) (by kernel_rfl) (fun V => ?steps) (fun V w1 hx_w1 hf_w1 => ?tail)
        case steps =>
          simp only [List.take, Region.binds, mode_text, mode_gc, if_true, true_and, Bool.false_eq_true, if_false, List.drop, StepsU, StepsG, putsAll, FactsAt, Fs, val, List.getD_cons_zero, List.getD_cons_succ, List.getD_nil, SF.is, SF.rd, SF.any, SF.box, Option.getD_some, Option.getD_none, Act.put, List.setIfInBounds_toArray, List.set_cons_zero, List.set_cons_succ]
          refine ⟨?_, ?_, ?_, ?_, ?_, ?_, ?_, ?_, ?_, ?_, ?_, ?_, trivial⟩ <;> intro w2 hx hf <;> obtain ⟨hc, hfz⟩ := bcell hx <;> go_simp <;> (try simp only [wrap_eq])
          all_goals first
            | exact Post.mk rfl (Ext.refl _)
            | rfl
            | (refine Post.mk ?_ (Ext.refl _); (simp <;> omega); done)
            | exact Post.mk ⟨_, _, rfl, Nat.le_refl _, Rd.new _ _ _ _ _ rfl⟩ ((Ext.refl _).alloc _)
            | (refine Post.mk ⟨_, rfl, ?_, Bx.new _ _ _⟩ ((Ext.refl _).alloc _); have := hx.size; (try simp at this); (try simp); omega)
            | ((with_reducible refine CallTo.of (rForceOf_any _ _ _) ?_); (intro _ _; (first | rw [HP.out] | rw [HQ0.out])); done)
        case tail =>
        simp only [FactsTo, List.take, Region.binds, mode_text, mode_gc, if_true, true_and, Bool.false_eq_true, if_false, List.drop, StepsU, StepsG, putsAll, FactsAt, Fs, val, List.getD_cons_zero, List.getD_cons_succ, List.getD_nil, SF.is, SF.rd, SF.any, SF.box, Option.getD_some, Option.getD_none, Act.put, List.setIfInBounds_toArray, List.set_cons_zero, List.set_cons_succ] at hf_w1 ⊢
        obtain ⟨hc_w1, hfz_w1⟩ := bcell hx_w1
        have hb2 := hbf.ext hx_w1
        have hx2 := hx.trans hx_w1
        clear hf_w1
        go_wp2
        go_roundw
        case rel => exact ⟨k + 1, by omega, by go_num, by show _ = _; rw [hd.out, hs.out, HE.out]; simp, hb2, hx2⟩
        case measure => simp [intOf]; omega
      · have he' : (p != q) = true := by simp [he]
        have HE := Lib.hid he
        clear he
        go_wp2
        refine wp_region_ext 12 [.is (.slice (some ⟨b, o, none⟩) n c), .is (.int .i64 k), .is (.pointer (some ⟨b, o + k * 2, none⟩)), .is (tV cs[k]), .is (tV f), .is (.int .i64 p), .is (.slice (some ⟨b, o, none⟩) n c), .is (.pointer (some ⟨b, o, none⟩)), .is (tV cs[0]), .is (tV f), .is (.int .i64 q), .is (.bool (p != q))] (by kernel_rfl) (by kernel_rfl) (by kernel_rfl) (fun V => ?steps) (fun V w1 hx_w1 hf_w1 => ?tail)
        case steps =>
          simp only [List.take, Region.binds, mode_text, mode_gc, if_true, true_and, Bool.false_eq_true, if_false, List.drop, StepsU, StepsG, putsAll, FactsAt, Fs, val, List.getD_cons_zero, List.getD_cons_succ, List.getD_nil, SF.is, SF.rd, SF.any, SF.box, Option.getD_some, Option.getD_none, Act.put, List.setIfInBounds_toArray, List.set_cons_zero, List.set_cons_succ]
          refine ⟨?_, ?_, ?_, ?_, ?_, ?_, ?_, ?_, ?_, ?_, ?_, ?_, trivial⟩ <;> intro w2 hx hf <;> obtain ⟨hc, hfz⟩ := bcell hx <;> go_simp <;> (try simp only [wrap_eq])
          all_goals first
            | exact Post.mk rfl (Ext.refl _)
            | rfl
            | (refine Post.mk ?_ (Ext.refl _); (simp <;> omega); done)
            | exact Post.mk ⟨_, _, rfl, Nat.le_refl _, Rd.new _ _ _ _ _ rfl⟩ ((Ext.refl _).alloc _)
            | (refine Post.mk ⟨_, rfl, ?_, Bx.new _ _ _⟩ ((Ext.refl _).alloc _); have := hx.size; (try simp at this); (try simp); omega)
            | ((with_reducible refine CallTo.of (rForceOf_any _ _ _) ?_); (intro _ _; (first | rw [HP.out] | rw [HQ0.out])); done)
        case tail =>
        simp only [FactsTo, List.take, Region.binds, mode_text, mode_gc, if_true, true_and, Bool.false_eq_true, if_false, List.drop, StepsU, StepsG, putsAll, FactsAt, Fs, val, List.getD_cons_zero, List.getD_cons_succ, List.getD_nil, SF.is, SF.rd, SF.any, SF.box, Option.getD_some, Option.getD_none, Act.put, List.setIfInBounds_toArray, List.set_cons_zero, List.set_cons_succ] at hf_w1 ⊢
        obtain ⟨hc_w1, hfz_w1⟩ := bcell hx_w1
        have hx2 := hx.trans hx_w1
        clear hf_w1
        go_wp2
        go_ret
        exact ⟨ret_bool (by rw [hev.out, hd.out, hs.out, he']; rfl), hx2⟩
    · go_wp2
      go_ret
      exact ⟨ret_bool (by rw [hev.out, hd.out, List.drop_eq_nil_of_le (by rw [HL.out]; omega)]; rfl), hx⟩

theorem evenE_eq (n : Nat) (cs : List T2) (f : T2) : evenE n cs f = if currentsE n cs = 0 then unlessE (rightB f) 2 else currentsE n cs := by
  unfold evenE currentsE
  by_cases h0 : n = 0
  · simp [h0, firstE, unlessE]
  · have h1 : 0 < n := by omega
    by_cases h12 : 12 < n
    · have h2 : ¬ n ≤ 12 := by omega
      simp [h0, h12, h1, h2, firstE, unlessE]
    · have h2 : n ≤ 12 := by omega
      simp [h0, h12, h1, h2, firstE, unlessE]
      cases cs.all rightB <;> cases rightB f <;> simp [h0, h12]

set_option maxRecDepth 100000 in
set_option maxHeartbeats 1000000 in
theorem statorEven_any (cs : List T2) (a : Option Addr) (n c : Nat) (f : T2) (w : World) (hs : Sts w) (hl : cs.length = n) (hr : Rd w 2 a n (cells2 cs)) :
    Calls Tryd.prog 3 #[.slice a n c, tV f] w fun e w' => e = .returned (.bool true) ∧ Ext w w' := by
  have HW := Lib.hid (fun w1 (h : Ext w w1) => awake_any w1 (hs.ext h))
  by_cases h14 : 14 < n
  · go_enter Tryd.func3, Tryd.ntmps3
    go_wp2_with (first | (go_at_call 15; refine (HW.out _ (by ((repeat' (first | with_reducible exact Ext.refl _ | assumption | with_reducible exact Ext.one _ | with_reducible refine Ext.alloc ?_ _ | with_reducible refine Ext.setCell ?_ ?_ _ | with_reducible refine Ext.drew ?_ | refine Ext.trans ?_ (by assumption))) <;> (try simp) <;> omega))).mono ?_; rintro e w3 ⟨rfl, hx3⟩))
    go_ret
    exact ⟨rfl, by ((repeat' (first | with_reducible exact Ext.refl _ | assumption | with_reducible exact Ext.one _ | with_reducible refine Ext.alloc ?_ _ | with_reducible refine Ext.setCell ?_ ?_ _ | with_reducible refine Ext.drew ?_ | refine Ext.trans ?_ (by assumption))) <;> (try simp) <;> omega)⟩
  · have hn : n ≤ 1000 := by omega
    have HC := Lib.hid (fun w1 (h : Ext w w1) => rCopyVectors_any (cells2 cs) a n c w1 hn (hr.ext h) (one_cells2 cs))
    have HE := Lib.hid (fun a' c' w1 (hr' : Rd w1 2 a' n (cells2 cs)) => even_any cs a' n c' f w1 hl hn hr')
    have HR := Lib.hid (fun w1 (h : Ext w w1) => rEven_any cs a n c f w1 hl hn (hr.ext h))
    have HQ := Lib.hid (fun w1 (h : Ext w w1) => rCurrentsErr_any cs a n c w1 hl hn (hr.ext h))
    have HV := Lib.hid (fun w1 => rVectorErr_any f w1)
    have hd := Lib.hid (evenE_eq n cs f)
    clear hl
    generalize hE : evenE n cs f = E at *
    generalize hC : currentsE n cs = C at *
    generalize hB : evenB cs f = B at *
    generalize hU : unlessE (rightB f) 2 = U at *
    generalize hI : (if E = 0 then B else false) = is at *
    have HI := Lib.hid hI
    clear hE hC hB hU hI
    go_enter Tryd.func3, Tryd.ntmps3
    go_wp2_with (first | (go_at_call 15; refine (HW.out _ (by ((repeat' (first | with_reducible exact Ext.refl _ | assumption | with_reducible exact Ext.one _ | with_reducible refine Ext.alloc ?_ _ | with_reducible refine Ext.setCell ?_ ?_ _ | with_reducible refine Ext.drew ?_ | refine Ext.trans ?_ (by assumption))) <;> (try simp) <;> omega))).mono ?_; rintro e w3 ⟨rfl, hx3⟩; obtain ⟨hc3, hf3⟩ := bcell hx3; have hzw3_0 : w.heap.size < w3.heap.size := (by have := hx3.size; (try simp at this); omega)))
    refine wp_region_ext 8 [.is (.slice a n c), .rd 2 n (cells2 cs), .is (tV f), .is (.tuple #[.bool is, .int .i64 E]), .is (.tuple #[.bool is, .int .i64 E]), .is (.bool is), .is (.int .i64 E), .is (.bool is)] (by kernel_rfl) (by kernel_rfl) (by kernel_rfl) (fun V => ?steps) (fun V w4 hx_w4 hf_w4 => ?tail)
    case steps =>
      simp only [List.take, Region.binds, mode_text, mode_gc, if_true, true_and, Bool.false_eq_true, if_false, List.drop, StepsU, StepsG, putsAll, FactsAt, Fs, val, List.getD_cons_zero, List.getD_cons_succ, List.getD_nil, SF.is, SF.rd, SF.any, SF.box, Option.getD_some, Option.getD_none, Act.put, List.setIfInBounds_toArray, List.set_cons_zero, List.set_cons_succ]
      refine ⟨?_, ?_, ?_, ?_, ?_, ?_, ?_, ?_, trivial⟩ <;> intro w2 hx hf <;> obtain ⟨hc, hfz⟩ := bcell hx <;> go_simp <;> (try simp only [wrap_eq])
      all_goals first
        | exact Post.mk rfl (Ext.refl _)
        | rfl
        | (refine Post.mk ?_ (Ext.refl _); (simp <;> omega); done)
        | exact Post.mk ⟨_, _, rfl, Nat.le_refl _, Rd.new _ _ _ _ _ rfl⟩ ((Ext.refl _).alloc _)
        | (refine Post.mk ⟨_, rfl, ?_, Bx.new _ _ _⟩ ((Ext.refl _).alloc _); have := hx.size; (try simp at this); (try simp); omega)
        | (unfold CallTo; refine (HC.out _ (by ((repeat' (first | with_reducible exact Ext.refl _ | assumption | with_reducible exact Ext.one _ | with_reducible refine Ext.alloc ?_ _ | with_reducible refine Ext.setCell ?_ ?_ _ | with_reducible refine Ext.drew ?_ | refine Ext.trans ?_ (by assumption))) <;> (try simp) <;> omega))).mono ?_; rintro e w' ⟨a', c', rfl, h1, h2, h3⟩; exact ⟨_, rfl, ⟨a', c', rfl, h1, Rd.of_own h2⟩, h3⟩)
        | (obtain ⟨ha, -⟩ := hf; obtain ⟨a2, c2, e2, h2, h3⟩ := ha; rw [e2]; (with_reducible refine CallTo.of (HE.out _ _ _ h3) ?_); exact fun _ _ => rfl)
    case tail =>
    simp only [FactsTo, List.take, Region.binds, mode_text, mode_gc, if_true, true_and, Bool.false_eq_true, if_false, List.drop, StepsU, StepsG, putsAll, FactsAt, Fs, val, List.getD_cons_zero, List.getD_cons_succ, List.getD_nil, SF.is, SF.rd, SF.any, SF.box, Option.getD_some, Option.getD_none, Act.put, List.setIfInBounds_toArray, List.set_cons_zero, List.set_cons_succ] at hf_w4 ⊢
    obtain ⟨hc_w4, hfz_w4⟩ := bcell hx_w4
    clear hf_w4
    have hzw4_0 : w.heap.size < w4.heap.size := (by have := hx_w4.size; (try simp at this); omega)
    by_cases hc0 : C = 0
    · subst hc0
      by_cases hu0 : U = 0
      · subst hu0
        obtain rfl : E = 0 := by rw [hd.out]; simp
        obtain rfl : is = B := by rw [← HI.out]; simp
        go_wp2_with (first | (go_at_call 18; refine (HQ.out _ (by ((repeat' (first | with_reducible exact Ext.refl _ | assumption | with_reducible exact Ext.one _ | with_reducible refine Ext.alloc ?_ _ | with_reducible refine Ext.setCell ?_ ?_ _ | with_reducible refine Ext.drew ?_ | refine Ext.trans ?_ (by assumption))) <;> (try simp) <;> omega))).mono ?_; rintro e w5 ⟨rfl, hx5⟩; obtain ⟨hc5, hf5⟩ := bcell hx5; have hzw5_0 : w.heap.size < w5.heap.size := (by have := hx5.size; (try simp at this); omega)) | (go_at_call 19; refine (HV.out _).mono ?_; rintro e w6 ⟨rfl, hx6⟩; obtain ⟨hc6, hf6⟩ := bcell hx6; have hzw6_0 : w.heap.size < w6.heap.size := (by have := hx6.size; (try simp at this); omega)) | (go_at_call 20; refine (HR.out _ (by ((repeat' (first | with_reducible exact Ext.refl _ | assumption | with_reducible exact Ext.one _ | with_reducible refine Ext.alloc ?_ _ | with_reducible refine Ext.setCell ?_ ?_ _ | with_reducible refine Ext.drew ?_ | refine Ext.trans ?_ (by assumption))) <;> (try simp) <;> omega))).mono ?_; rintro e w7 ⟨rfl, hx7⟩))
        go_ret
        exact ⟨rfl, by ((repeat' (first | with_reducible exact Ext.refl _ | assumption | with_reducible exact Ext.one _ | with_reducible refine Ext.alloc ?_ _ | with_reducible refine Ext.setCell ?_ ?_ _ | with_reducible refine Ext.drew ?_ | refine Ext.trans ?_ (by assumption))) <;> (try simp) <;> omega)⟩
      · obtain rfl : E = U := by rw [hd.out]; simp
        obtain rfl : false = is := by rw [← HI.out, if_neg hu0]
        have hu1 : (E == 0) = false := by simp [hu0]
        have hu2 : (E != 0) = true := by simp [hu0]
        clear hu0 HI hd
        go_wp2_with (first | (go_at_call 18; refine (HQ.out _ (by ((repeat' (first | with_reducible exact Ext.refl _ | assumption | with_reducible exact Ext.one _ | with_reducible refine Ext.alloc ?_ _ | with_reducible refine Ext.setCell ?_ ?_ _ | with_reducible refine Ext.drew ?_ | refine Ext.trans ?_ (by assumption))) <;> (try simp) <;> omega))).mono ?_; rintro e w5 ⟨rfl, hx5⟩; obtain ⟨hc5, hf5⟩ := bcell hx5; have hzw5_0 : w.heap.size < w5.heap.size := (by have := hx5.size; (try simp at this); omega)) | (go_at_call 19; refine (HV.out _).mono ?_; rintro e w6 ⟨rfl, hx6⟩; obtain ⟨hc6, hf6⟩ := bcell hx6; have hzw6_0 : w.heap.size < w6.heap.size := (by have := hx6.size; (try simp at this); omega)))
        go_ret
        exact ⟨rfl, by ((repeat' (first | with_reducible exact Ext.refl _ | assumption | with_reducible exact Ext.one _ | with_reducible refine Ext.alloc ?_ _ | with_reducible refine Ext.setCell ?_ ?_ _ | with_reducible refine Ext.drew ?_ | refine Ext.trans ?_ (by assumption))) <;> (try simp) <;> omega)⟩
    · obtain rfl : E = C := by rw [hd.out, if_neg hc0]
      obtain rfl : false = is := by rw [← HI.out, if_neg hc0]
      have hu1 : (E == 0) = false := by simp [hc0]
      have hu2 : (E != 0) = true := by simp [hc0]
      clear hc0 HI hd
      go_wp2_with (first | (go_at_call 18; refine (HQ.out _ (by ((repeat' (first | with_reducible exact Ext.refl _ | assumption | with_reducible exact Ext.one _ | with_reducible refine Ext.alloc ?_ _ | with_reducible refine Ext.setCell ?_ ?_ _ | with_reducible refine Ext.drew ?_ | refine Ext.trans ?_ (by assumption))) <;> (try simp) <;> omega))).mono ?_; rintro e w5 ⟨rfl, hx5⟩; obtain ⟨hc5, hf5⟩ := bcell hx5; have hzw5_0 : w.heap.size < w5.heap.size := (by have := hx5.size; (try simp at this); omega)) | (go_at_call 19; refine (HV.out _).mono ?_; rintro e w6 ⟨rfl, hx6⟩; obtain ⟨hc6, hf6⟩ := bcell hx6; have hzw6_0 : w.heap.size < w6.heap.size := (by have := hx6.size; (try simp at this); omega)))
      go_ret
      exact ⟨rfl, by ((repeat' (first | with_reducible exact Ext.refl _ | assumption | with_reducible exact Ext.one _ | with_reducible refine Ext.alloc ?_ _ | with_reducible refine Ext.setCell ?_ ?_ _ | with_reducible refine Ext.drew ?_ | refine Ext.trans ?_ (by assumption))) <;> (try simp) <;> omega)⟩
end Go.Proofs.YtdbglpaejmhbjaaDoor
