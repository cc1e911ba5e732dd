/- StatorChanges' walk: right changes. -/
import Derived.Test.YtdbglpaejmhbjaaDoorC2
import Derived.Test.YtdbglpaejmhbjaaDoorEnv
import Derived.Deep.Cut
namespace Go.Proofs.YtdbglpaejmhbjaaDoor
open Go Go.RowKit Go.Proofs
set_option linter.unusedSimpArgs false
set_option linter.unusedVariables false

set_option maxRecDepth 100000 in
set_option maxHeartbeats 4000000 in
theorem statorChanges_yes (f t : T2) (m : Nat) (w : World) (hs : Sts w) (h1 : m ≤ 29) (h2 : rightB f = true) (h3 : rightB t = true) : Calls Tryd.prog 8 #[tV f, tV t, .int .i64 ((m : Int) + 1)] w fun e w' => e = .returned (.bool true) ∧ Ext w w' := by
  have HW := Lib.hid (fun w1 (h : Ext w w1) => awake_any w1 (hs.ext h))
  have hwn : withinB ((m : Int) + 1) 1 100 = true := by simp [withinB]; omega
  have hE := handE_yes h2 h3 hwn
  have sf := right_sm h2
  have st := right_sm h3
  have hm1 : (((m + 1 : Nat) : Int)) = (m : Int) + 1 := by omega
  have HH := Lib.hid (show ∀ w1, Calls Tryd.prog 48 #[tV f, tV t, .int .i64 ((m : Int) + 1)] w1 (RetRd (fun x => .tuple #[x, .int .i64 0]) 2 (m + 1) (cells2 (handL f t ((m : Int) + 1) (m + 1))) w1) from fun w1 =>
    (handed_any f t ((m : Int) + 1) (m + 1) w1 (.inl hm1)).mono fun _ _ ⟨A, m', c, he, hm', hc, hr, hx⟩ => by
      rw [hE, if_pos rfl] at hr hm'
      rw [hE] at he
      subst hm'
      exact ⟨A, c, he, hc, hr, hx⟩)
  have HRH := Lib.hid (show ∀ w1, Calls Tryd.prog 50 #[tV f, tV t, .int .i64 ((m : Int) + 1)] w1 (RetRd (fun x => x) 2 (m + 1) (cells2 (handL f t ((m : Int) + 1) (m + 1))) w1) from fun w1 =>
    (rHanded_any f t ((m : Int) + 1) (m + 1) w1 hm1 (by omega)).mono fun _ _ ⟨A, c, he, hc, hr, hx⟩ => ⟨A, c, he, hc, Rd.of_own hr, hx⟩)
  have hll : (handL f t ((m : Int) + 1) (m + 1)).length = m + 1 := handL_length _ _ _ _
  have hget : ∀ k, k < m + 1 → (handL f t ((m : Int) + 1) (m + 1))[k]? = some (handAt f t ((m : Int) + 1) ((k : Int) + 1)) := fun k hk => handL_get f t _ _ k hk
  have HS := Lib.hid (fun w1 a1 c1 (a2 : Option Addr) (c2 : Nat) (hr1 : Rd w1 2 a1 (m + 1) (cells2 (handL f t ((m : Int) + 1) (m + 1)))) (hr2 : Rd w1 2 a2 (m + 1) (cells2 (handL f t ((m : Int) + 1) (m + 1)))) =>
    rSame_any _ _ a1 a2 (m + 1) c1 (m + 1) c2 w1 hll hll (by omega) (by omega) hr1 hr2)
  simp only [beq_self_eq_true] at HS
  have hz := hand_zero f t ((m : Int) + 1) sf st (by omega)
  have hla := hand_last f t ((m : Int) + 1) sf st (by omega) (by omega)
  have hst := fun (k : Nat) (hk : k ≤ m) => hand_step f t ((m : Int) + 1) (k : Int) sf st (by omega) (by omega)
  have HF := Lib.hid (rVectorErr_any f)
  have HT := Lib.hid (rVectorErr_any t)
  rw [h2] at HF
  rw [h3] at HT
  have HZ1 := Lib.hid (bSize_any (wrap64 (t.1 - f.1)))
  have HZ2 := Lib.hid (bSize_any (wrap64 (t.2 - f.2)))
  have HC1 := Lib.hid (fun w1 => bCeil_any (sizeW (wrap64 (t.1 - f.1))) ((m : Int) + 1) (by omega) w1)
  have HC2 := Lib.hid (fun w1 => bCeil_any (sizeW (wrap64 (t.2 - f.2))) ((m : Int) + 1) (by omega) w1)
  generalize handL f t ((m : Int) + 1) (m + 1) = L at *
  generalize hA1 : ceilW (sizeW (wrap64 (t.1 - f.1))) ((m : Int) + 1) = A1 at *
  generalize hA2 : ceilW (sizeW (wrap64 (t.2 - f.2))) ((m : Int) + 1) = A2 at *
  have HL := Lib.hid hll
  have HG := Lib.hid hget
  have HX := Lib.hid hst
  have HY := Lib.hid hz
  have hlast : L[m]? = some t := by rw [hget m (by omega), hla]
  have HLA := Lib.hid hlast
  clear hll hget hst hz hla hlast hA1 hA2 hE sf st h2 h3 hm1
  have hmm : (m : Int) ≤ 29 := by omega
  have hmi : (m : Int) < (m : Int) + 1 := by omega
  have hwm : wrap64 (m : Int) = m := by unfold wrap64; omega
  have hwm1 : wrap64 ((m : Int) + 1) = (m : Int) + 1 := by unfold wrap64; omega
  go_enter Tryd.func8, Tryd.ntmps8
  go_wp2_with (first | (go_at_call 15; (with_reducible refine (HW.out _ (by ((repeat' (first | with_reducible exact Ext.refl _ | assumption | with_reducible exact Ext.one _ | with_reducible refine Ext.alloc ?_ _ | with_reducible refine Ext.setCell ?_ ?_ _ | with_reducible refine Ext.drew ?_ | refine Ext.trans ?_ (by assumption))) <;> (try simp) <;> omega))).mono ?_); rintro e w3 ⟨rfl, hx3⟩; obtain ⟨hc3, hf3⟩ := bcell hx3; have hzw3_0 : w.heap.size < w3.heap.size := (by have := hx3.size; (try simp at this); omega); have hzw3_1 : w.heap.size + 1 < w3.heap.size := (by have := hx3.size; (try simp at this); omega)) | (go_at_call 48; (with_reducible refine (HH.out _).mono ?_); rintro e w5 ⟨a5, c5, rfl, hcc5, hrd5, hx5⟩; obtain ⟨hc5, hf5⟩ := bcell hx5; have hzw5_0 : w.heap.size < w5.heap.size := (by have := hx5.size; (try simp at this); omega); have hzw5_1 : w.heap.size + 1 < w5.heap.size := (by have := hx5.size; (try simp at this); omega)) | ((go_at_call 19; (with_reducible refine (HF.out _).mono ?_); rintro e w6 ⟨rfl, hx6⟩; obtain ⟨hc6, hf6⟩ := bcell hx6; have hzw6_0 : w.heap.size < w6.heap.size := (by have := hx6.size; (try simp at this); omega); have hzw6_1 : w.heap.size + 1 < w6.heap.size := (by have := hx6.size; (try simp at this); omega)); simp only [unlessE, if_true, if_false, Bool.false_eq_true]) | ((go_at_call 19; (with_reducible refine (HT.out _).mono ?_); rintro e w7 ⟨rfl, hx7⟩; obtain ⟨hc7, hf7⟩ := bcell hx7; have hzw7_0 : w.heap.size < w7.heap.size := (by have := hx7.size; (try simp at this); omega); have hzw7_1 : w.heap.size + 1 < w7.heap.size := (by have := hx7.size; (try simp at this); omega)); simp only [unlessE, if_true, if_false, Bool.false_eq_true]) | first | (go_at_call 22; refine (bWithin_any _ _ _ _).mono ?_; rintro e wz ⟨rfl, rfl⟩))
  have hx57 : Ext w5 w7 := hx6.trans hx7
  have hrd7 := hrd5.ext hx57
  obtain ⟨b, o, rfl, hrow⟩ := hrd7.2 (by omega)
  have hbb := hrow.1
  have hlm : m < L.length := by rw [HL.out]; omega
  have hLm : L[m] = t := by
    have := HLA.out
    rw [List.getElem?_eq_getElem hlm] at this
    exact Option.some.inj this
  have hc0 := hrow.at (cells2_get0 hlm)
  have hc1 := hrow.at' (cells2_get1 hlm)
  rw [hLm] at hc0 hc1
  clear hLm
  apply wp_region_guard 26 [.is _, .is _, .is _, .is _, .is _, .is _, .is _, .rdW (fun x => x) 2 (m + 1) (cells2 L), .is _, .is _, .is _, .is _, .is _, .is _, .is _, .is _, .is _, .is _, .is _, .is _, .is _, .is _, .is _, .is _, .is _, .is _] (by kernel_rfl) (by kernel_rfl) (fun V => ?steps) (fun V w8 hx_w8 hf_w8 => ?tail)
  case steps =>
    simp only [List.take, Region.binds, mode_text, mode_gc, if_true, true_and, Bool.false_eq_true, if_false, List.drop, StepsU, StepsG, putsAll, FactsAt, Fs, val, List.getD_cons_zero, List.getD_cons_succ, List.getD_nil, SF.is, SF.rd, SF.any, SF.box, Option.getD_some, Option.getD_none, Act.put, List.setIfInBounds_toArray, List.set_cons_zero, List.set_cons_succ, SF.rdW]
    refine ⟨?_, ?_, ?_, ?_, ?_, ?_, ?_, ?_, ?_, ?_, ?_, ?_, ?_, ?_, ?_, ?_, ?_, ?_, ?_, ?_, ?_, ?_, ?_, ?_, ?_, ?_, trivial⟩ <;> (intro w2 hx hf; obtain ⟨hc, hfz⟩ := bcell hx; go_simp; (try simp only [wrap_eq]); first
      | exact Post.mk rfl (Ext.refl _)
      | rfl
      | (refine Post.mk ?_ (Ext.refl _); (simp <;> omega); done)
      | exact Post.mk ⟨_, _, rfl, Nat.le_refl _, Rd.new _ _ _ _ _ rfl⟩ ((Ext.refl _).alloc _)
      | (refine Post.mk ⟨_, rfl, ?_, Bx.new _ _ _⟩ ((Ext.refl _).alloc _); have := hx.size; (try simp at this); (try simp); omega)
      | (with_reducible exact CallTo.rd (HRH.out _))
      | (obtain ⟨a2, c2, e2, h2, h3⟩ : ∃ a2 c2, V 7 = .slice a2 (m + 1) c2 ∧ m + 1 ≤ c2 ∧ Rd w2 2 a2 (m + 1) (cells2 L) := (by first | exact hf | exact hf.1 | exact hf.2 | exact hf.2.1 | exact hf.1.1 | exact hf.2.2.1 | exact hf.2.2); rw [e2]; (with_reducible refine CallTo.of (HS.out _ _ _ _ _ (hrd7.ext hx) h3) ?_); exact fun _ _ => rfl))
  case tail =>
  simp only [FactsTo, List.take, Region.binds, mode_text, mode_gc, if_true, true_and, Bool.false_eq_true, if_false, List.drop, StepsU, StepsG, putsAll, FactsAt, Fs, val, List.getD_cons_zero, List.getD_cons_succ, List.getD_nil, SF.is, SF.rd, SF.any, SF.box, Option.getD_some, Option.getD_none, Act.put, List.setIfInBounds_toArray, List.set_cons_zero, List.set_cons_succ, SF.rdW] at hf_w8 ⊢
  obtain ⟨hc_w8, hfz_w8⟩ := bcell hx_w8
  clear hf_w8
  have hzw8_0 : w.heap.size < w8.heap.size := (by have := hx_w8.size; (try simp at this); omega); have hzw8_1 : w.heap.size + 1 < w8.heap.size := (by have := hx_w8.size; (try simp at this); omega)
  go_wp2
  apply wp_region_ext 16 [.is _, .is _, .is _, .is _, .is _, .is _, .is _, .is _, .is _, .is _, .is _, .is _, .is _, .is _, .is _, .is _] (by kernel_rfl) (by kernel_rfl) (by kernel_rfl) (fun V => ?steps) (fun V w9 hx_w9 hf_w9 => ?tail)
  case steps =>
    simp only [List.take, Region.binds, mode_text, mode_gc, if_true, true_and, Bool.false_eq_true, if_false, List.drop, StepsU, StepsG, putsAll, FactsAt, Fs, val, List.getD_cons_zero, List.getD_cons_succ, List.getD_nil, SF.is, SF.rd, SF.any, SF.box, Option.getD_some, Option.getD_none, Act.put, List.setIfInBounds_toArray, List.set_cons_zero, List.set_cons_succ]
    refine ⟨?_, ?_, ?_, ?_, ?_, ?_, ?_, ?_, ?_, ?_, ?_, ?_, ?_, ?_, ?_, ?_, trivial⟩ <;> (intro w2 hx hf; obtain ⟨hc, hfz⟩ := bcell hx; go_simp; (try simp only [wrap_eq]); first
      | exact Post.mk rfl (Ext.refl _)
      | rfl
      | (refine Post.mk ?_ (Ext.refl _); (simp <;> omega); done)
      | exact Post.mk ⟨_, _, rfl, Nat.le_refl _, Rd.new _ _ _ _ _ rfl⟩ ((Ext.refl _).alloc _)
      | (refine Post.mk ⟨_, rfl, ?_, Bx.new _ _ _⟩ ((Ext.refl _).alloc _); have := hx.size; (try simp at this); (try simp); omega)
      | ((with_reducible refine CallTo.of (HZ1.out _) ?_); exact fun _ _ => rfl)
      | ((with_reducible refine CallTo.of (HZ2.out _) ?_); exact fun _ _ => rfl)
      | ((with_reducible refine CallTo.same (HC1.out _) ?_); rfl)
      | ((with_reducible refine CallTo.same (HC2.out _) ?_); rfl))
  case tail =>
  simp only [FactsTo, List.take, Region.binds, mode_text, mode_gc, if_true, true_and, Bool.false_eq_true, if_false, List.drop, StepsU, StepsG, putsAll, FactsAt, Fs, val, List.getD_cons_zero, List.getD_cons_succ, List.getD_nil, SF.is, SF.rd, SF.any, SF.box, Option.getD_some, Option.getD_none, Act.put, List.setIfInBounds_toArray, List.set_cons_zero, List.set_cons_succ] at hf_w9 ⊢
  obtain ⟨hc_w9, hfz_w9⟩ := bcell hx_w9
  clear hf_w9
  have hzw9_0 : w.heap.size < w9.heap.size := (by have := hx_w9.size; (try simp at this); omega); have hzw9_1 : w.heap.size + 1 < w9.heap.size := (by have := hx_w9.size; (try simp at this); omega)
  have hx79 : Ext w7 w9 := hx_w8.trans hx_w9
  have hxw9 : Ext w w9 := by have := hx3.size; ((repeat' (first | with_reducible exact Ext.refl _ | assumption | with_reducible exact Ext.one _ | with_reducible refine Ext.alloc ?_ _ | with_reducible refine Ext.setCell ?_ ?_ _ | with_reducible refine Ext.drew ?_ | refine Ext.trans ?_ (by assumption))) <;> (try simp) <;> omega)
  have hrow9 := hrow.ext hx79
  clear hc0 hc1
  go_wp2
  go_loopw [12] (fun i wr => ∃ k : Nat, k ≤ m + 1 ∧ i = .int .i64 k ∧ Bx wr w9.heap.size 24 #[.int .i64 (handAt f t ((m : Int) + 1) k).1, .int .i64 (handAt f t ((m : Int) + 1) k).2] ∧ Ext w9 wr) (fun i _ => m + 1 - (intOf i).toNat)
  case atStart => exact ⟨0, Nat.zero_le _, rfl, by rw [show handAt f t ((m : Int) + 1) ((0 : Nat) : Int) = f from HY.out]; exact Bx.new w9 _ _, (Ext.refl w9).alloc _⟩
  case round =>
    obtain ⟨k, hk, rfl, hb, hx⟩ := hrel
    obtain ⟨a0, a1, a2, a3, a4⟩ := hb.at2
    by_cases hlt : k < m + 1
    · have hroww := hrow9.ext hx
      have hbw := hroww.1
      have hkl : k < L.length := by rw [HL.out]; exact hlt
      have hLk : L[k] = handAt f t ((m : Int) + 1) ((k : Int) + 1) := by
        have := HG.out k hlt
        rw [List.getElem?_eq_getElem hkl] at this
        exact Option.some.inj this
      have l0 := hroww.at (cells2_get0 hkl)
      have l1 := hroww.at' (cells2_get1 hkl)
      rw [hLk] at l0 l1
      obtain ⟨g1, g2⟩ := HX.out k (by omega)
      have HS1 := Lib.hid (bSize_any (wrap64 ((handAt f t ((m : Int) + 1) ((k : Int) + 1)).1 - (handAt f t ((m : Int) + 1) k).1)))
      have HS2 := Lib.hid (bSize_any (wrap64 ((handAt f t ((m : Int) + 1) ((k : Int) + 1)).2 - (handAt f t ((m : Int) + 1) k).2)))
      have hnx : Hid (((k + 1 : Nat) : Int) = (k : Int) + 1) := Lib.hid (by omega)
      clear hLk
      generalize sizeW (wrap64 ((handAt f t ((m : Int) + 1) ((k : Int) + 1)).1 - (handAt f t ((m : Int) + 1) k).1)) = z1 at *
      generalize sizeW (wrap64 ((handAt f t ((m : Int) + 1) ((k : Int) + 1)).2 - (handAt f t ((m : Int) + 1) k).2)) = z2 at *
      generalize hX : handAt f t ((m : Int) + 1) ((k : Int) + 1) = X at *
      have HXX := Lib.hid hX
      clear hX
      generalize handAt f t ((m : Int) + 1) (k : Int) = Y at *
      have k1 : decide (A1 < z1) = false := by simp; omega
      have k2 : decide (A2 < z2) = false := by simp; omega
      clear g1 g2
      go_wp2
      apply wp_region_guard 24 [.is _, .is _, .is _, .is _, .is _, .is _, .is _, .is _, .is _, .is _, .is _, .is _, .is _, .is _, .is _, .is _, .is _, .is _, .is _, .is _, .is _, .is _, .is _, .is _] (by kernel_rfl) (by kernel_rfl) (fun V => ?steps) (fun V w10 hx_w10 hf_w10 => ?tail)
      case steps =>
        simp only [List.take, Region.binds, mode_text, mode_gc, if_true, true_and, Bool.false_eq_true, if_false, List.drop, StepsU, StepsG, putsAll, FactsAt, Fs, val, List.getD_cons_zero, List.getD_cons_succ, List.getD_nil, SF.is, SF.rd, SF.any, SF.box, Option.getD_some, Option.getD_none, Act.put, List.setIfInBounds_toArray, List.set_cons_zero, List.set_cons_succ]
        refine ⟨?_, ?_, ?_, ?_, ?_, ?_, ?_, ?_, ?_, ?_, ?_, ?_, ?_, ?_, ?_, ?_, ?_, ?_, ?_, ?_, ?_, ?_, ?_, ?_, trivial⟩ <;> (intro w2 hx hf; obtain ⟨hc, hfz⟩ := bcell hx; go_simp; (try simp only [wrap_eq]); first
          | exact Post.mk rfl (Ext.refl _)
          | rfl
          | (refine Post.mk ?_ (Ext.refl _); (simp <;> omega); done)
          | exact Post.mk ⟨_, _, rfl, Nat.le_refl _, Rd.new _ _ _ _ _ rfl⟩ ((Ext.refl _).alloc _)
          | (refine Post.mk ⟨_, rfl, ?_, Bx.new _ _ _⟩ ((Ext.refl _).alloc _); have := hx.size; (try simp at this); (try simp); omega)
          | ((with_reducible refine CallTo.of (HS1.out _) ?_); exact fun _ _ => rfl)
          | ((with_reducible refine CallTo.of (HS2.out _) ?_); exact fun _ _ => rfl))
      case tail =>
      simp only [FactsTo, List.take, Region.binds, mode_text, mode_gc, if_true, true_and, Bool.false_eq_true, if_false, List.drop, StepsU, StepsG, putsAll, FactsAt, Fs, val, List.getD_cons_zero, List.getD_cons_succ, List.getD_nil, SF.is, SF.rd, SF.any, SF.box, Option.getD_some, Option.getD_none, Act.put, List.setIfInBounds_toArray, List.set_cons_zero, List.set_cons_succ] at hf_w10 ⊢
      obtain ⟨hc_w10, hfz_w10⟩ := bcell hx_w10
      clear hf_w10
      have hb10 := hb.ext hx_w10
      obtain ⟨e0, e1, e2, e3, e4⟩ := hb10.at2
      go_wp2
      go_roundw
      case rel => exact ⟨k + 1, by omega, by go_num, by rw [hnx.out, HXX.out]; exact hb10.set2 _ _, (hx.trans hx_w10).setCell (by simp) _ |>.setCell (by simp) _⟩
      case measure => simp [intOf]; omega
    · go_wp2
      go_ret
      exact ⟨rfl, hxw9.trans hx⟩
theorem statorChanges_any (f t : T2) (s : Int) (w : World) (hs : Sts w) : Calls Tryd.prog 8 #[tV f, tV t, .int .i64 s] w fun e w' => e = .returned (.bool true) ∧ Ext w w' := by
  by_cases h : 30 < s ∧ s ≤ 100
  · exact statorChanges_far f t s w hs h.1 h.2
  · have step : ∀ p : Bool, p = false ∨ p = true := by decide
    rcases step (rightB f) with h2 | h2
    · exact statorChanges_no f t s w hs (by omega) (.inl h2)
    rcases step (rightB t) with h3 | h3
    · exact statorChanges_no f t s w hs (by omega) (.inr (.inl h3))
    rcases step (withinB s 1 100) with h4 | h4
    · exact statorChanges_no f t s w hs (by omega) (.inr (.inr h4))
    have h5 : 1 ≤ s ∧ s ≤ 100 := by simpa [withinB] using h4
    obtain ⟨m, rfl⟩ : ∃ m : Nat, s = (m : Int) + 1 := ⟨(s - 1).toNat, by omega⟩
    exact statorChanges_yes f t m w hs (by omega) h2 h3
end Go.Proofs.YtdbglpaejmhbjaaDoor
