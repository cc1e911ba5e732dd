/- StatorTracks' walk. -/
import Derived.Test.YtdbglpaejmhbjaaDoorP3
import Derived.Test.YtdbglpaejmhbjaaDoorW15
import Derived.Test.YtdbglpaejmhbjaaDoorReg
namespace Go.Proofs.YtdbglpaejmhbjaaDoor
open Go Go.RowKit Go.Proofs
set_option linter.unusedSimpArgs false
set_option linter.unusedVariables false

set_option maxRecDepth 100000 in
set_option maxHeartbeats 1000000 in
theorem statorTracks_far (ls : List Int) (a : Option Addr) (n c : Nat) (p q : Int) (w : World) (hs : Sts w) (h : 14 < n) :
    Calls Tryd.prog 5 #[.agg #[.slice a n c], .agg #[.int .i64 p, .int .i64 q]] w fun e w' => e = .returned (.bool true) ∧ Ext w w' := by
  have HW := Lib.hid (fun w1 (h : Ext w w1) => awake_any w1 (hs.ext h))
  have HS := Lib.hid (sections_any a n c)
  rw [show decide (n ≤ 14) = false by simp; omega] at HS
  go_enter Tryd.func5, Tryd.ntmps5
  go_wp2_with (first | (go_at_call 15; (with_reducible refine (HW.out _ (by ((repeat' (first | with_reducible exact Ext.refl _ | assumption | with_reducible exact Ext.one _ | with_reducible refine Ext.alloc ?_ _ | with_reducible refine Ext.setCell ?_ ?_ _ | with_reducible refine Ext.drew ?_ | refine Ext.trans ?_ (by assumption))) <;> (try simp) <;> omega))).mono ?_); rintro e w3 ⟨rfl, hx3⟩; obtain ⟨hc3, hf3⟩ := bcell hx3; have hzw3_0 : w.heap.size < w3.heap.size := (by have := hx3.size; (try simp at this); omega); have hzw3_1 : w.heap.size + 1 < w3.heap.size := (by have := hx3.size; (try simp at this); omega)) | (go_at_call 26; (with_reducible refine (HS.out _).mono ?_); rintro e w4 ⟨rfl, hx4⟩; obtain ⟨hc4, hf4⟩ := bcell hx4; have hzw4_0 : w.heap.size < w4.heap.size := (by have := hx4.size; (try simp at this); omega); have hzw4_1 : w.heap.size + 1 < w4.heap.size := (by have := hx4.size; (try simp at this); omega)))
  go_ret
  exact ⟨rfl, by ((repeat' (first | with_reducible exact Ext.refl _ | assumption | with_reducible exact Ext.one _ | with_reducible refine Ext.alloc ?_ _ | with_reducible refine Ext.setCell ?_ ?_ _ | with_reducible refine Ext.drew ?_ | refine Ext.trans ?_ (by assumption))) <;> (try simp) <;> omega)⟩

set_option maxRecDepth 100000 in
set_option maxHeartbeats 1000000 in
theorem statorTracks_near (ls : List Int) (a : Option Addr) (n c : Nat) (p q : Int) (w : World) (hs : Sts w) (hl : ls.length = n) (hr : Rd w 1 a n (ints ls)) (h14 : n ≤ 14) :
    Calls Tryd.prog 5 #[.agg #[.slice a n c], .agg #[.int .i64 p, .int .i64 q]] w fun e w' => e = .returned (.bool true) ∧ Ext w w' := by
  have hn : n ≤ 1000 := by omega
  have HW := Lib.hid (fun w1 (h : Ext w w1) => awake_any w1 (hs.ext h))
  have HS := Lib.hid (sections_any a n c)
  rw [show decide (n ≤ 14) = true by simp; omega] at HS
  have HC := Lib.hid (show ∀ w1, Ext w w1 → Calls Tryd.prog 28 #[.agg #[.slice a n c]] w1 (RetRd (fun s => .agg #[s]) 1 n (ints ls) w1) from fun w1 h =>
    (rCopyTrack_any (ints ls) a n c w1 hn (hr.ext h) (one_ints ls)).mono fun _ _ ⟨a', c', he, hc, ho, hx⟩ => ⟨a', c', he, hc, Rd.of_own ho, hx⟩)
  have HT := Lib.hid (fun w1 a' c' (hr' : Rd w1 1 a' n (ints ls)) => checkTrack_any ls a' n c' w1 hl hn hr')
  have HO := Lib.hid (fun w1 a' c' (hr' : Rd w1 1 a' n (ints ls)) => overlaps_any ls a' n c' p q w1 hl hn hr')
  have HRT := Lib.hid (fun w1 (h : Ext w w1) => rCheckTrack_any ls a n c w1 hl hn (hr.ext h))
  have HRE := Lib.hid (fun w1 (h : Ext w w1) => rTrainErr_any ls a n c p q w1 hl hn (hr.ext h))
  have HRO := Lib.hid (show ∀ w1, Ext w w1 → Calls Tryd.prog 33 #[.agg #[.slice a n c], .agg #[.int .i64 p, .int .i64 q]] w1 (RetRd (fun s => s) 1 n (ints (overL p q 0 ls)) w1) from fun w1 h =>
    (rOverlaps_any ls a n c p q w1 hl hn (hr.ext h)).mono fun _ _ ⟨a', c', he, hc, ho, hx⟩ => ⟨a', c', he, hc, Rd.of_own ho, hx⟩)
  have hlo : (overL p q 0 ls).length = n := by rw [overL_length, hl]
  have HI := Lib.hid (fun (w1 : World) (a1 a2 : Option Addr) (c1 c2 : Nat) (h1 : Rd w1 1 a1 n (ints (overL p q 0 ls))) (h2 : Rd w1 1 a2 n (ints (overL p q 0 ls))) => bInts_any _ _ a1 a2 n c1 n c2 w1 hlo hlo hn hn h1 h2)
  simp only [beq_self_eq_true] at HI
  have HL := Lib.hid hlo
  have hop : (trackC n ls).2 = 0 → openE n ls p q = trainE ls p q := fun h => openE_eq h
  have hop2 : (trackC n ls).2 ≠ 0 → openE n ls p q = (trackC n ls).2 := fun h => by unfold openE; rw [if_neg h]
  have hsum : (trackC n ls).2 = 0 → trainE ls p q = 0 → sumW 0 (overL p q 0 ls) = q := fun h h' => over_all hl h h'
  clear hl hlo
  generalize overL p q 0 ls = O at *
  generalize (trackC n ls).1 = K at *
  generalize hE : (trackC n ls).2 = E at *
  generalize openE n ls p q = F at *
  generalize trainE ls p q = G at *
  clear hE
  by_cases hE0 : E = 0
  · subst hE0
    obtain rfl : F = G := hop rfl
    have hsum2 := hsum rfl
    clear hop hop2 hsum
    by_cases hF0 : F = 0
    · subst hF0
      have HQ := Lib.hid (hsum2 rfl)
      clear hsum2
      have HOa := Lib.hid (show ∀ w1 a' c' (_ : Rd w1 1 a' n (ints ls)), Calls Tryd.prog 29 #[.agg #[.slice a' n c'], .agg #[.int .i64 p, .int .i64 q]] w1 (RetRd (fun s => .tuple #[s, .int .i64 0]) 1 n (ints O) w1) from fun w1 a' c' h =>
        (HO.out w1 a' c' h).mono fun _ _ ⟨A, m, c', he, hm, hc, hq, hx⟩ => by subst hm; exact ⟨A, c', he, hc, hq, hx⟩)
      clear HO
      go_enter Tryd.func5, Tryd.ntmps5
      go_wp2_with (first | (go_at_call 15; (with_reducible refine (HW.out _ (by ((repeat' (first | with_reducible exact Ext.refl _ | assumption | with_reducible exact Ext.one _ | with_reducible refine Ext.alloc ?_ _ | with_reducible refine Ext.setCell ?_ ?_ _ | with_reducible refine Ext.drew ?_ | refine Ext.trans ?_ (by assumption))) <;> (try simp) <;> omega))).mono ?_); rintro e w3 ⟨rfl, hx3⟩; obtain ⟨hc3, hf3⟩ := bcell hx3; have hzw3_0 : w.heap.size < w3.heap.size := (by have := hx3.size; (try simp at this); omega); have hzw3_1 : w.heap.size + 1 < w3.heap.size := (by have := hx3.size; (try simp at this); omega)) | (go_at_call 26; (with_reducible refine (HS.out _).mono ?_); rintro e w4 ⟨rfl, hx4⟩; obtain ⟨hc4, hf4⟩ := bcell hx4; have hzw4_0 : w.heap.size < w4.heap.size := (by have := hx4.size; (try simp at this); omega); have hzw4_1 : w.heap.size + 1 < w4.heap.size := (by have := hx4.size; (try simp at this); omega)) | (go_at_call 28; (with_reducible refine (HC.out _ (by ((repeat' (first | with_reducible exact Ext.refl _ | assumption | with_reducible exact Ext.one _ | with_reducible refine Ext.alloc ?_ _ | with_reducible refine Ext.setCell ?_ ?_ _ | with_reducible refine Ext.drew ?_ | refine Ext.trans ?_ (by assumption))) <;> (try simp) <;> omega))).mono ?_); rintro e w5 ⟨a5, c5, rfl, hcc5, hrd5, hx5⟩; obtain ⟨hc5, hf5⟩ := bcell hx5; have hzw5_0 : w.heap.size < w5.heap.size := (by have := hx5.size; (try simp at this); omega); have hzw5_1 : w.heap.size + 1 < w5.heap.size := (by have := hx5.size; (try simp at this); omega)) | (go_at_call 27; (with_reducible refine (HT.out _ _ _ hrd5).mono ?_); rintro e w6 ⟨rfl, hx6⟩; obtain ⟨hc6, hf6⟩ := bcell hx6; have hzw6_0 : w.heap.size < w6.heap.size := (by have := hx6.size; (try simp at this); omega); have hzw6_1 : w.heap.size + 1 < w6.heap.size := (by have := hx6.size; (try simp at this); omega)))
      apply wp_region_ext 9 [.is _, .rdW (fun s => .agg #[s]) 1 n (ints ls), .is _, .rdW (fun s => .tuple #[s, .int .i64 0]) 1 n (ints O), .rdW (fun s => .tuple #[s, .int .i64 0]) 1 n (ints O), .rd 1 n (ints O), .is _, .rd 1 n (ints O), .is _] (by kernel_rfl) (by kernel_rfl) (by kernel_rfl) (fun V => ?steps) (fun V w7 hx_w7 hf_w7 => ?tail)
      case steps =>
        simp only [List.take, Region.binds, mode_text, mode_gc, if_true, true_and, Bool.false_eq_true, if_false, List.drop, StepsU, StepsG, putsAll, FactsAt, Fs, val, List.getD_cons_zero, List.getD_cons_succ, List.getD_nil, SF.is, SF.rd, SF.any, SF.box, Option.getD_some, Option.getD_none, Act.put, List.setIfInBounds_toArray, List.set_cons_zero, List.set_cons_succ, SF.rdW]
        refine ⟨?_, ?_, ?_, ?_, ?_, ?_, ?_, ?_, ?_, trivial⟩ <;> (intro w2 hx hf; obtain ⟨hc, hfz⟩ := bcell hx; go_simp; (try simp only [wrap_eq]); first
          | exact Post.mk rfl (Ext.refl _)
          | rfl
          | (refine Post.mk ?_ (Ext.refl _); (simp <;> omega); done)
          | exact Post.mk ⟨_, _, rfl, Nat.le_refl _, Rd.new _ _ _ _ _ rfl⟩ ((Ext.refl _).alloc _)
          | (refine Post.mk ⟨_, rfl, ?_, Bx.new _ _ _⟩ ((Ext.refl _).alloc _); have := hx.size; (try simp at this); (try simp); omega)
          | (with_reducible exact CallTo.rd (HC.out _ (by ((repeat' (first | with_reducible exact Ext.refl _ | assumption | with_reducible exact Ext.one _ | with_reducible refine Ext.alloc ?_ _ | with_reducible refine Ext.setCell ?_ ?_ _ | with_reducible refine Ext.drew ?_ | refine Ext.trans ?_ (by assumption))) <;> (try simp) <;> omega))))
          | ((first | obtain ⟨⟨a2, c2, e2, h2, h3⟩, -⟩ := hf | obtain ⟨-, ⟨a2, c2, e2, h2, h3⟩, -⟩ := hf | obtain ⟨a2, c2, e2, h2, h3⟩ := hf); rw [e2]; with_reducible exact CallTo.rd (HOa.out _ _ _ h3))
          | ((first | obtain ⟨⟨a2, c2, e2, h2, h3⟩, -⟩ := hf | obtain ⟨-, ⟨a2, c2, e2, h2, h3⟩, -⟩ := hf | obtain ⟨a2, c2, e2, h2, h3⟩ := hf); rw [e2]; (try go_simp); first | exact Post.mk rfl (Ext.refl _) | exact Post.mk ⟨_, _, rfl, h2, h3⟩ (Ext.refl _)))
      case tail =>
      simp only [FactsTo, List.take, Region.binds, mode_text, mode_gc, if_true, true_and, Bool.false_eq_true, if_false, List.drop, StepsU, StepsG, putsAll, FactsAt, Fs, val, List.getD_cons_zero, List.getD_cons_succ, List.getD_nil, SF.is, SF.rd, SF.any, SF.box, Option.getD_some, Option.getD_none, Act.put, List.setIfInBounds_toArray, List.set_cons_zero, List.set_cons_succ, SF.rdW] at hf_w7 ⊢
      obtain ⟨hc_w7, hfz_w7⟩ := bcell hx_w7
      obtain ⟨⟨-, A7, c7, e7, hcc7, hrd7⟩, -⟩ := hf_w7
      rw [e7]
      clear e7
      have hzw7_0 : w.heap.size < w7.heap.size := (by have := hx_w7.size; (try simp at this); omega); have hzw7_1 : w.heap.size + 1 < w7.heap.size := (by have := hx_w7.size; (try simp at this); omega)
      go_wp2_with (first | (go_at_call 30; (with_reducible refine (HRT.out _ (by ((repeat' (first | with_reducible exact Ext.refl _ | assumption | with_reducible exact Ext.one _ | with_reducible refine Ext.alloc ?_ _ | with_reducible refine Ext.setCell ?_ ?_ _ | with_reducible refine Ext.drew ?_ | refine Ext.trans ?_ (by assumption))) <;> (try simp) <;> omega))).mono ?_); rintro e w8 ⟨rfl, hx8⟩; obtain ⟨hc8, hf8⟩ := bcell hx8; have hzw8_0 : w.heap.size < w8.heap.size := (by have := hx8.size; (try simp at this); omega); have hzw8_1 : w.heap.size + 1 < w8.heap.size := (by have := hx8.size; (try simp at this); omega)) | (go_at_call 31; (with_reducible refine (HRE.out _ (by ((repeat' (first | with_reducible exact Ext.refl _ | assumption | with_reducible exact Ext.one _ | with_reducible refine Ext.alloc ?_ _ | with_reducible refine Ext.setCell ?_ ?_ _ | with_reducible refine Ext.drew ?_ | refine Ext.trans ?_ (by assumption))) <;> (try simp) <;> omega))).mono ?_); rintro e w9 ⟨rfl, hx9⟩; obtain ⟨hc9, hf9⟩ := bcell hx9; have hzw9_0 : w.heap.size < w9.heap.size := (by have := hx9.size; (try simp at this); omega); have hzw9_1 : w.heap.size + 1 < w9.heap.size := (by have := hx9.size; (try simp at this); omega)) | (go_at_call 33; (with_reducible refine (HRO.out _ (by ((repeat' (first | with_reducible exact Ext.refl _ | assumption | with_reducible exact Ext.one _ | with_reducible refine Ext.alloc ?_ _ | with_reducible refine Ext.setCell ?_ ?_ _ | with_reducible refine Ext.drew ?_ | refine Ext.trans ?_ (by assumption))) <;> (try simp) <;> omega))).mono ?_); rintro e w10 ⟨a10, c10, rfl, hcc10, hrd10, hx10⟩; obtain ⟨hc10, hf10⟩ := bcell hx10; have hzw10_0 : w.heap.size < w10.heap.size := (by have := hx10.size; (try simp at this); omega); have hzw10_1 : w.heap.size + 1 < w10.heap.size := (by have := hx10.size; (try simp at this); omega)) | (go_at_call 32; (with_reducible refine (HI.out _ _ _ _ _ (hrd7.ext (by ((repeat' (first | with_reducible exact Ext.refl _ | assumption | with_reducible exact Ext.one _ | with_reducible refine Ext.alloc ?_ _ | with_reducible refine Ext.setCell ?_ ?_ _ | with_reducible refine Ext.drew ?_ | refine Ext.trans ?_ (by assumption))) <;> (try simp) <;> omega))) hrd10).mono ?_); rintro e w11 ⟨rfl, hx11⟩; obtain ⟨hc11, hf11⟩ := bcell hx11; have hzw11_0 : w.heap.size < w11.heap.size := (by have := hx11.size; (try simp at this); omega); have hzw11_1 : w.heap.size + 1 < w11.heap.size := (by have := hx11.size; (try simp at this); omega)))
      have hxl : Ext w7 w11 := by ((repeat' (first | with_reducible exact Ext.refl _ | assumption | with_reducible exact Ext.one _ | with_reducible refine Ext.alloc ?_ _ | with_reducible refine Ext.setCell ?_ ?_ _ | with_reducible refine Ext.drew ?_ | refine Ext.trans ?_ (by assumption))) <;> (try simp) <;> omega)
      have hrl := hrd7.ext hxl
      go_loop [11, 12] (fun s i => ∃ (k : Nat) (t : Int), k ≤ n ∧ i = .int .i64 k ∧ s = .int .i64 t ∧ Hid (sumW 0 O = sumW t (O.drop k))) (fun _ i => n - (intOf i).toNat)
      case atStart => exact ⟨0, 0, Nat.zero_le _, rfl, rfl, rfl⟩
      case round =>
        obtain ⟨k, t, hk, rfl, rfl, hd⟩ := hrel
        by_cases hlt : k < n
        · obtain ⟨b, o, rfl, hrow⟩ := hrl.2 (by omega)
          have hkl : k < O.length := by rw [HL.out]; exact hlt
          have hc0 := hrow.at (ints_get hkl)
          have hs : Hid (sumW t (O.drop k) = sumW (wrap64 (t + O[k])) (O.drop (k + 1))) := by
            show _ = _
            rw [List.drop_eq_getElem_cons hkl]; rfl
          go_wp2
          go_round
          case rel => exact ⟨k + 1, _, by omega, by go_num, rfl, by show _ = _; rw [hd.out, hs.out]⟩
          case measure => simp [intOf]; omega
        · have hq : Hid (t = q) := by
            have h1 := hd.out
            rw [List.drop_eq_nil_of_le (by rw [HL.out]; omega), HQ.out] at h1
            exact h1.symm
          go_wp2
          go_ret
          exact ⟨ret_bool (by rw [hq.out]; simp), by ((repeat' (first | with_reducible exact Ext.refl _ | assumption | with_reducible exact Ext.one _ | with_reducible refine Ext.alloc ?_ _ | with_reducible refine Ext.setCell ?_ ?_ _ | with_reducible refine Ext.drew ?_ | refine Ext.trans ?_ (by assumption))) <;> (try simp) <;> omega)⟩
    · obtain ⟨z, hz⟩ : ∃ z : Nat, z = 0 := ⟨0, rfl⟩
      have hz0 : ((z : Int) == 0) = true := by simp [hz]
      have HZ := Lib.hid hz
      clear hz
      have hFe : (F != 0) = true := by simp [hF0]
      have hF2 : (F == 0) = false := by simp [hF0]
      have HOa := Lib.hid (show ∀ w1 a' c' (_ : Rd w1 1 a' n (ints ls)), Calls Tryd.prog 29 #[.agg #[.slice a' n c'], .agg #[.int .i64 p, .int .i64 q]] w1 (RetRd (fun s => .tuple #[s, .int .i64 F]) 1 z (ints []) w1) from fun w1 a' c' h =>
        (HO.out w1 a' c' h).mono fun _ _ ⟨A, m, c', he, hm, hc, hq, hx⟩ => by rw [if_neg hF0] at hm hq; rw [hm] at he hc hq; rw [← HZ.out] at he hc hq; exact ⟨A, c', he, hc, hq, hx⟩)
      clear HO hsum2 hF0
      go_enter Tryd.func5, Tryd.ntmps5
      go_wp2_with (first | (go_at_call 15; (with_reducible refine (HW.out _ (by ((repeat' (first | with_reducible exact Ext.refl _ | assumption | with_reducible exact Ext.one _ | with_reducible refine Ext.alloc ?_ _ | with_reducible refine Ext.setCell ?_ ?_ _ | with_reducible refine Ext.drew ?_ | refine Ext.trans ?_ (by assumption))) <;> (try simp) <;> omega))).mono ?_); rintro e w3 ⟨rfl, hx3⟩; obtain ⟨hc3, hf3⟩ := bcell hx3; have hzw3_0 : w.heap.size < w3.heap.size := (by have := hx3.size; (try simp at this); omega); have hzw3_1 : w.heap.size + 1 < w3.heap.size := (by have := hx3.size; (try simp at this); omega)) | (go_at_call 26; (with_reducible refine (HS.out _).mono ?_); rintro e w4 ⟨rfl, hx4⟩; obtain ⟨hc4, hf4⟩ := bcell hx4; have hzw4_0 : w.heap.size < w4.heap.size := (by have := hx4.size; (try simp at this); omega); have hzw4_1 : w.heap.size + 1 < w4.heap.size := (by have := hx4.size; (try simp at this); omega)) | (go_at_call 28; (with_reducible refine (HC.out _ (by ((repeat' (first | with_reducible exact Ext.refl _ | assumption | with_reducible exact Ext.one _ | with_reducible refine Ext.alloc ?_ _ | with_reducible refine Ext.setCell ?_ ?_ _ | with_reducible refine Ext.drew ?_ | refine Ext.trans ?_ (by assumption))) <;> (try simp) <;> omega))).mono ?_); rintro e w5 ⟨a5, c5, rfl, hcc5, hrd5, hx5⟩; obtain ⟨hc5, hf5⟩ := bcell hx5; have hzw5_0 : w.heap.size < w5.heap.size := (by have := hx5.size; (try simp at this); omega); have hzw5_1 : w.heap.size + 1 < w5.heap.size := (by have := hx5.size; (try simp at this); omega)) | (go_at_call 27; (with_reducible refine (HT.out _ _ _ hrd5).mono ?_); rintro e w6 ⟨rfl, hx6⟩; obtain ⟨hc6, hf6⟩ := bcell hx6; have hzw6_0 : w.heap.size < w6.heap.size := (by have := hx6.size; (try simp at this); omega); have hzw6_1 : w.heap.size + 1 < w6.heap.size := (by have := hx6.size; (try simp at this); omega)))
      apply wp_region_ext 9 [.is _, .rdW (fun s => .agg #[s]) 1 n (ints ls), .is _, .rdW (fun s => .tuple #[s, .int .i64 F]) 1 z (ints []), .rdW (fun s => .tuple #[s, .int .i64 F]) 1 z (ints []), .rd 1 z (ints []), .is _, .rd 1 z (ints []), .is _] (by kernel_rfl) (by kernel_rfl) (by kernel_rfl) (fun V => ?steps) (fun V w7 hx_w7 hf_w7 => ?tail)
      case steps =>
        simp only [List.take, Region.binds, mode_text, mode_gc, if_true, true_and, Bool.false_eq_true, if_false, List.drop, StepsU, StepsG, putsAll, FactsAt, Fs, val, List.getD_cons_zero, List.getD_cons_succ, List.getD_nil, SF.is, SF.rd, SF.any, SF.box, Option.getD_some, Option.getD_none, Act.put, List.setIfInBounds_toArray, List.set_cons_zero, List.set_cons_succ, SF.rdW]
        refine ⟨?_, ?_, ?_, ?_, ?_, ?_, ?_, ?_, ?_, trivial⟩ <;> (intro w2 hx hf; obtain ⟨hc, hfz⟩ := bcell hx; go_simp; (try simp only [wrap_eq]); first
          | exact Post.mk rfl (Ext.refl _)
          | rfl
          | (refine Post.mk ?_ (Ext.refl _); (simp <;> omega); done)
          | exact Post.mk ⟨_, _, rfl, Nat.le_refl _, Rd.new _ _ _ _ _ rfl⟩ ((Ext.refl _).alloc _)
          | (refine Post.mk ⟨_, rfl, ?_, Bx.new _ _ _⟩ ((Ext.refl _).alloc _); have := hx.size; (try simp at this); (try simp); omega)
          | (with_reducible exact CallTo.rd (HC.out _ (by ((repeat' (first | with_reducible exact Ext.refl _ | assumption | with_reducible exact Ext.one _ | with_reducible refine Ext.alloc ?_ _ | with_reducible refine Ext.setCell ?_ ?_ _ | with_reducible refine Ext.drew ?_ | refine Ext.trans ?_ (by assumption))) <;> (try simp) <;> omega))))
          | ((first | obtain ⟨⟨a2, c2, e2, h2, h3⟩, -⟩ := hf | obtain ⟨-, ⟨a2, c2, e2, h2, h3⟩, -⟩ := hf | obtain ⟨a2, c2, e2, h2, h3⟩ := hf); rw [e2]; with_reducible exact CallTo.rd (HOa.out _ _ _ h3))
          | ((first | obtain ⟨⟨a2, c2, e2, h2, h3⟩, -⟩ := hf | obtain ⟨-, ⟨a2, c2, e2, h2, h3⟩, -⟩ := hf | obtain ⟨a2, c2, e2, h2, h3⟩ := hf); rw [e2]; (try go_simp); first | exact Post.mk rfl (Ext.refl _) | exact Post.mk ⟨_, _, rfl, h2, h3⟩ (Ext.refl _)))
      case tail =>
      simp only [FactsTo, List.take, Region.binds, mode_text, mode_gc, if_true, true_and, Bool.false_eq_true, if_false, List.drop, StepsU, StepsG, putsAll, FactsAt, Fs, val, List.getD_cons_zero, List.getD_cons_succ, List.getD_nil, SF.is, SF.rd, SF.any, SF.box, Option.getD_some, Option.getD_none, Act.put, List.setIfInBounds_toArray, List.set_cons_zero, List.set_cons_succ, SF.rdW] at hf_w7 ⊢
      obtain ⟨hc_w7, hfz_w7⟩ := bcell hx_w7
      obtain ⟨⟨-, A7, c7, e7, hcc7, hrd7⟩, -⟩ := hf_w7
      rw [e7]
      clear e7
      have hzw7_0 : w.heap.size < w7.heap.size := (by have := hx_w7.size; (try simp at this); omega); have hzw7_1 : w.heap.size + 1 < w7.heap.size := (by have := hx_w7.size; (try simp at this); omega)
      go_wp2_with (first | (go_at_call 30; (with_reducible refine (HRT.out _ (by ((repeat' (first | with_reducible exact Ext.refl _ | assumption | with_reducible exact Ext.one _ | with_reducible refine Ext.alloc ?_ _ | with_reducible refine Ext.setCell ?_ ?_ _ | with_reducible refine Ext.drew ?_ | refine Ext.trans ?_ (by assumption))) <;> (try simp) <;> omega))).mono ?_); rintro e w8 ⟨rfl, hx8⟩; obtain ⟨hc8, hf8⟩ := bcell hx8; have hzw8_0 : w.heap.size < w8.heap.size := (by have := hx8.size; (try simp at this); omega); have hzw8_1 : w.heap.size + 1 < w8.heap.size := (by have := hx8.size; (try simp at this); omega)) | (go_at_call 31; (with_reducible refine (HRE.out _ (by ((repeat' (first | with_reducible exact Ext.refl _ | assumption | with_reducible exact Ext.one _ | with_reducible refine Ext.alloc ?_ _ | with_reducible refine Ext.setCell ?_ ?_ _ | with_reducible refine Ext.drew ?_ | refine Ext.trans ?_ (by assumption))) <;> (try simp) <;> omega))).mono ?_); rintro e w9 ⟨rfl, hx9⟩; obtain ⟨hc9, hf9⟩ := bcell hx9; have hzw9_0 : w.heap.size < w9.heap.size := (by have := hx9.size; (try simp at this); omega); have hzw9_1 : w.heap.size + 1 < w9.heap.size := (by have := hx9.size; (try simp at this); omega)))
      go_ret
      exact ⟨rfl, by ((repeat' (first | with_reducible exact Ext.refl _ | assumption | with_reducible exact Ext.one _ | with_reducible refine Ext.alloc ?_ _ | with_reducible refine Ext.setCell ?_ ?_ _ | with_reducible refine Ext.drew ?_ | refine Ext.trans ?_ (by assumption))) <;> (try simp) <;> omega)⟩
  · obtain rfl : F = E := hop2 hE0
    obtain ⟨z, hz⟩ : ∃ z : Nat, z = 0 := ⟨0, rfl⟩
    have hz0 : ((z : Int) == 0) = true := by simp [hz]
    have HZ := Lib.hid hz
    clear hz
    have hFe : (F != 0) = true := by simp [hE0]
    have hF2 : (F == 0) = false := by simp [hE0]
    have HOa := Lib.hid (show ∀ w1 a' c' (_ : Rd w1 1 a' n (ints ls)), Calls Tryd.prog 29 #[.agg #[.slice a' n c'], .agg #[.int .i64 p, .int .i64 q]] w1 (RetRd (fun s => .tuple #[s, .int .i64 F]) 1 z (ints []) w1) from fun w1 a' c' h =>
      (HO.out w1 a' c' h).mono fun _ _ ⟨A, m, c', he, hm, hc, hq, hx⟩ => by rw [if_neg hE0] at hm hq; rw [hm] at he hc hq; rw [← HZ.out] at he hc hq; exact ⟨A, c', he, hc, hq, hx⟩)
    clear HO hsum hop hop2 hE0
    go_enter Tryd.func5, Tryd.ntmps5
    go_wp2_with (first | (go_at_call 15; (with_reducible refine (HW.out _ (by ((repeat' (first | with_reducible exact Ext.refl _ | assumption | with_reducible exact Ext.one _ | with_reducible refine Ext.alloc ?_ _ | with_reducible refine Ext.setCell ?_ ?_ _ | with_reducible refine Ext.drew ?_ | refine Ext.trans ?_ (by assumption))) <;> (try simp) <;> omega))).mono ?_); rintro e w3 ⟨rfl, hx3⟩; obtain ⟨hc3, hf3⟩ := bcell hx3; have hzw3_0 : w.heap.size < w3.heap.size := (by have := hx3.size; (try simp at this); omega); have hzw3_1 : w.heap.size + 1 < w3.heap.size := (by have := hx3.size; (try simp at this); omega)) | (go_at_call 26; (with_reducible refine (HS.out _).mono ?_); rintro e w4 ⟨rfl, hx4⟩; obtain ⟨hc4, hf4⟩ := bcell hx4; have hzw4_0 : w.heap.size < w4.heap.size := (by have := hx4.size; (try simp at this); omega); have hzw4_1 : w.heap.size + 1 < w4.heap.size := (by have := hx4.size; (try simp at this); omega)) | (go_at_call 28; (with_reducible refine (HC.out _ (by ((repeat' (first | with_reducible exact Ext.refl _ | assumption | with_reducible exact Ext.one _ | with_reducible refine Ext.alloc ?_ _ | with_reducible refine Ext.setCell ?_ ?_ _ | with_reducible refine Ext.drew ?_ | refine Ext.trans ?_ (by assumption))) <;> (try simp) <;> omega))).mono ?_); rintro e w5 ⟨a5, c5, rfl, hcc5, hrd5, hx5⟩; obtain ⟨hc5, hf5⟩ := bcell hx5; have hzw5_0 : w.heap.size < w5.heap.size := (by have := hx5.size; (try simp at this); omega); have hzw5_1 : w.heap.size + 1 < w5.heap.size := (by have := hx5.size; (try simp at this); omega)) | (go_at_call 27; (with_reducible refine (HT.out _ _ _ hrd5).mono ?_); rintro e w6 ⟨rfl, hx6⟩; obtain ⟨hc6, hf6⟩ := bcell hx6; have hzw6_0 : w.heap.size < w6.heap.size := (by have := hx6.size; (try simp at this); omega); have hzw6_1 : w.heap.size + 1 < w6.heap.size := (by have := hx6.size; (try simp at this); omega)))
    apply wp_region_ext 9 [.is _, .rdW (fun s => .agg #[s]) 1 n (ints ls), .is _, .rdW (fun s => .tuple #[s, .int .i64 F]) 1 z (ints []), .rdW (fun s => .tuple #[s, .int .i64 F]) 1 z (ints []), .rd 1 z (ints []), .is _, .rd 1 z (ints []), .is _] (by kernel_rfl) (by kernel_rfl) (by kernel_rfl) (fun V => ?steps) (fun V w7 hx_w7 hf_w7 => ?tail)
    case steps =>
      simp only [List.take, Region.binds, mode_text, mode_gc, if_true, true_and, Bool.false_eq_true, if_false, List.drop, StepsU, StepsG, putsAll, FactsAt, Fs, val, List.getD_cons_zero, List.getD_cons_succ, List.getD_nil, SF.is, SF.rd, SF.any, SF.box, Option.getD_some, Option.getD_none, Act.put, List.setIfInBounds_toArray, List.set_cons_zero, List.set_cons_succ, SF.rdW]
      refine ⟨?_, ?_, ?_, ?_, ?_, ?_, ?_, ?_, ?_, trivial⟩ <;> (intro w2 hx hf; obtain ⟨hc, hfz⟩ := bcell hx; go_simp; (try simp only [wrap_eq]); first
        | exact Post.mk rfl (Ext.refl _)
        | rfl
        | (refine Post.mk ?_ (Ext.refl _); (simp <;> omega); done)
        | exact Post.mk ⟨_, _, rfl, Nat.le_refl _, Rd.new _ _ _ _ _ rfl⟩ ((Ext.refl _).alloc _)
        | (refine Post.mk ⟨_, rfl, ?_, Bx.new _ _ _⟩ ((Ext.refl _).alloc _); have := hx.size; (try simp at this); (try simp); omega)
        | (with_reducible exact CallTo.rd (HC.out _ (by ((repeat' (first | with_reducible exact Ext.refl _ | assumption | with_reducible exact Ext.one _ | with_reducible refine Ext.alloc ?_ _ | with_reducible refine Ext.setCell ?_ ?_ _ | with_reducible refine Ext.drew ?_ | refine Ext.trans ?_ (by assumption))) <;> (try simp) <;> omega))))
        | ((first | obtain ⟨⟨a2, c2, e2, h2, h3⟩, -⟩ := hf | obtain ⟨-, ⟨a2, c2, e2, h2, h3⟩, -⟩ := hf | obtain ⟨a2, c2, e2, h2, h3⟩ := hf); rw [e2]; with_reducible exact CallTo.rd (HOa.out _ _ _ h3))
        | ((first | obtain ⟨⟨a2, c2, e2, h2, h3⟩, -⟩ := hf | obtain ⟨-, ⟨a2, c2, e2, h2, h3⟩, -⟩ := hf | obtain ⟨a2, c2, e2, h2, h3⟩ := hf); rw [e2]; (try go_simp); first | exact Post.mk rfl (Ext.refl _) | exact Post.mk ⟨_, _, rfl, h2, h3⟩ (Ext.refl _)))
    case tail =>
    simp only [FactsTo, List.take, Region.binds, mode_text, mode_gc, if_true, true_and, Bool.false_eq_true, if_false, List.drop, StepsU, StepsG, putsAll, FactsAt, Fs, val, List.getD_cons_zero, List.getD_cons_succ, List.getD_nil, SF.is, SF.rd, SF.any, SF.box, Option.getD_some, Option.getD_none, Act.put, List.setIfInBounds_toArray, List.set_cons_zero, List.set_cons_succ, SF.rdW] at hf_w7 ⊢
    obtain ⟨hc_w7, hfz_w7⟩ := bcell hx_w7
    obtain ⟨⟨-, A7, c7, e7, hcc7, hrd7⟩, -⟩ := hf_w7
    rw [e7]
    clear e7
    have hzw7_0 : w.heap.size < w7.heap.size := (by have := hx_w7.size; (try simp at this); omega); have hzw7_1 : w.heap.size + 1 < w7.heap.size := (by have := hx_w7.size; (try simp at this); omega)
    go_wp2_with (first | (go_at_call 30; (with_reducible refine (HRT.out _ (by ((repeat' (first | with_reducible exact Ext.refl _ | assumption | with_reducible exact Ext.one _ | with_reducible refine Ext.alloc ?_ _ | with_reducible refine Ext.setCell ?_ ?_ _ | with_reducible refine Ext.drew ?_ | refine Ext.trans ?_ (by assumption))) <;> (try simp) <;> omega))).mono ?_); rintro e w8 ⟨rfl, hx8⟩; obtain ⟨hc8, hf8⟩ := bcell hx8; have hzw8_0 : w.heap.size < w8.heap.size := (by have := hx8.size; (try simp at this); omega); have hzw8_1 : w.heap.size + 1 < w8.heap.size := (by have := hx8.size; (try simp at this); omega)))
    go_ret
    exact ⟨rfl, by ((repeat' (first | with_reducible exact Ext.refl _ | assumption | with_reducible exact Ext.one _ | with_reducible refine Ext.alloc ?_ _ | with_reducible refine Ext.setCell ?_ ?_ _ | with_reducible refine Ext.drew ?_ | refine Ext.trans ?_ (by assumption))) <;> (try simp) <;> omega)⟩
theorem statorTracks_any (ls : List Int) (a : Option Addr) (n c : Nat) (p q : Int) (w : World) (hs : Sts w) (hl : ls.length = n) (hr : Rd w 1 a n (ints ls)) :
    Calls Tryd.prog 5 #[.agg #[.slice a n c], .agg #[.int .i64 p, .int .i64 q]] w fun e w' => e = .returned (.bool true) ∧ Ext w w' := by
  by_cases h : 14 < n
  · exact statorTracks_far ls a n c p q w hs h
  · exact statorTracks_near ls a n c p q w hs hl hr (by omega)
end Go.Proofs.YtdbglpaejmhbjaaDoor
