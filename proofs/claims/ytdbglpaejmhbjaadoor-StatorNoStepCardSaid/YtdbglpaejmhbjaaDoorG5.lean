/- StatorOnTrack's walk: right feeds. -/
import Derived.Test.YtdbglpaejmhbjaaDoorG4
namespace Go.Proofs.YtdbglpaejmhbjaaDoor
open Go Go.RowKit Go.Proofs
set_option linter.unusedSimpArgs false
set_option linter.unusedVariables false

theorem openFeed_ok {n : Nat} {ls : List Int} {p q : Int} {m : Nat} {cs : List T2} {f : T2} (h : openFeedE n ls p q m cs f = 0) : (trackC n ls).2 = 0 ∧ trainE ls p q = 0 ∧ feedE n m cs f = 0 ∧ m = n := by
  have heq := openFeed_eq (n := n) (ls := ls) (p := p) (q := q) (m := m) (cs := cs) (f := f)
  rw [h] at heq
  by_cases h1 : (trackC n ls).2 = 0
  · rw [if_neg (by omega)] at heq
    by_cases h2 : trainE ls p q = 0
    · rw [if_neg (by omega)] at heq
      refine ⟨h1, h2, heq.symm, ?_⟩
      unfold feedE at heq
      by_cases hm : m = n
      · exact hm
      · rw [if_pos hm] at heq; omega
    · rw [if_pos h2] at heq; exact absurd heq.symm h2
  · rw [if_pos h1] at heq; exact absurd heq.symm h1
theorem stepE_zero {n : Nat} {ls : List Int} {p q : Int} {m : Nat} {cs : List T2} {f : T2} {mv : Int} (h : openFeedE n ls p q m cs f = 0) : stepE n ls p q m cs f mv = unlessE (withinB mv 1 2000) 2 := by
  unfold stepE
  rw [h]
  cases withinB mv 1 2000 <;> simp [firstE, unlessE]
set_option maxRecDepth 100000 in
set_option maxHeartbeats 4000000 in
theorem statorOnTrack_ok (ls : List Int) (a : Option Addr) (n c : Nat) (p q : Int) (cs : List T2) (b : Option Addr) (m c2 : Nat) (f : T2) (mv : Int) (w : World) (hs : Sts w) (hl : ls.length = n) (hl2 : cs.length = m) (hn : n ≤ 14) (hm : m ≤ 14) (hmv : mv ≤ 40 ∨ 2000 < mv) (hr : Rd w 1 a n (ints ls)) (hr2 : Rd w 2 b m (cells2 cs)) (hE : openFeedE n ls p q m cs f = 0) :
    Calls Tryd.prog 7 #[.agg #[.slice a n c], .agg #[.int .i64 p, .int .i64 q], fV b m c2 f mv] w fun e w' => e = .returned (.bool true) ∧ Ext w w' := by
  obtain ⟨e1, e2, e3, hmn⟩ := openFeed_ok hE
  obtain ⟨hp0, hq1, hq2, hpq⟩ := train_ok hl e1 e2
  obtain ⟨hlens, h12, _⟩ := track_ok hl e1
  have hsb := sumP_bd hlens
  subst hmn
  have HFo := Lib.hid (show ∀ (w1 : World) (a' : Option Addr) (c' : Nat) (b' : Option Addr) (c2' : Nat), Rd w1 1 a' m (ints ls) → Rd w1 2 b' m (cells2 cs) → Calls Tryd.prog 40 #[.agg #[.slice a' m c'], .agg #[.int .i64 p, .int .i64 q], fV b' m c2' f mv] w1 fun e w' => e = .returned (.tuple #[.int .i64 (forceL f (overL p q 0 ls) cs 0), .int .i64 0]) ∧ Ext w1 w' from fun w1 a' c' b' c2' h1 h2 => by
    have h := forceAt_any ls a' m c' p q cs b' m c2' f mv w1 hl hl2 (by omega) (by omega) h1 h2
    rwa [hE, if_pos rfl] at h)
  have HGs := Lib.hid (show ∀ (w1 : World) (a' : Option Addr) (c' : Nat) (b' : Option Addr) (c2' : Nat), Rd w1 1 a' m (ints ls) → Rd w1 2 b' m (cells2 cs) → Calls Tryd.prog 42 #[.agg #[.slice a' m c'], .agg #[.int .i64 p, .int .i64 q], fV b' m c2' f mv] w1 fun e w' => e = .returned (.tuple #[.int .i64 (okI (moveE ls p q mv) (gsN (fun x => forceL f (overL x q 0 ls) cs 0) p mv.toNat)), .int .i64 (moveE ls p q mv)]) ∧ Ext w1 w' from fun w1 a' c' b' c2' h1 h2 => by
    cases hw : withinB mv 1 2000 with
    | true =>
      have hk : 1 ≤ mv ∧ mv ≤ 2000 := by simpa [withinB] using hw
      obtain ⟨k, rfl⟩ : ∃ k : Nat, mv = k := ⟨mv.toNat, by omega⟩
      have hst : stepE m ls p q m cs f k = 0 := by rw [stepE_zero hE, hw]; rfl
      have h := greatestStep_any ls a' m c' p q cs b' c2' f k w1 hl hl2 (by omega) h1 h2 hst
      have hF : stepF m ls p q m cs f k = moveE ls p q k := by unfold stepF moveE; rw [if_pos hst, hw, if_pos rfl]
      rw [hF] at h
      simpa using h
    | false =>
      have hst : stepE m ls p q m cs f mv = 2 := by rw [stepE_zero hE, hw]; rfl
      have h := greatestStep_err ls a' m c' p q cs b' m c2' f mv w1 hl hl2 (by omega) (by omega) h1 h2 (by rw [hst]; omega)
      have hM : moveE ls p q mv = 2 := by unfold moveE; rw [hw]; rfl
      rw [hst] at h
      rw [hM]
      simpa [okI] using h)
  have HRf := Lib.hid (fun w1 (h : Ext w w1) => rForceAt_any ls a m c p q cs b c2 f mv w1 hl hl2 (by omega) (hr.ext h) (hr2.ext h))
  have HRg := Lib.hid (show moveE ls p q mv = 0 → ∀ w1, Ext w w1 → Calls Tryd.prog 47 #[.agg #[.slice a m c], .agg #[.int .i64 p, .int .i64 q], fV b m c2 f mv] w1 fun e w' => e = .returned (.int .i64 (gsN (fun x => forceL f (overL x q 0 ls) cs 0) p mv.toNat)) ∧ Ext w1 w' from fun h0 w1 h => by
    have hw : withinB mv 1 2000 = true := by
      cases hw : withinB mv 1 2000 with
      | true => rfl
      | false => unfold moveE at h0; rw [hw] at h0; simp at h0
    have hk : 1 ≤ mv ∧ mv ≤ 2000 := by simpa [withinB] using hw
    obtain ⟨k, rfl⟩ : ∃ k : Nat, mv = k := ⟨mv.toNat, by omega⟩
    have h1 := rGreatestStep_any ls a m c p q cs b c2 f k w1 hl hl2 (by omega) (hr.ext h) (hr2.ext h) (by omega) (by omega)
    simpa using h1)
  have HMv := Lib.hid (fun w1 (h : Ext w w1) => rMoveErr_any ls a b m c m c2 p q f.1 f.2 mv w1 hl (by omega) (hr.ext h))
  have HW := Lib.hid (fun w1 (h : Ext w w1) => awake_any w1 (hs.ext h))
  have HS := Lib.hid (sections_any a m c)
  rw [show decide (m ≤ 14) = true by simp; omega] at HS
  have HC := Lib.hid (show ∀ w1, Ext w w1 → Calls Tryd.prog 28 #[.agg #[.slice a m c]] w1 (RetRd (fun s => .agg #[s]) 1 m (ints ls) w1) from fun w1 h =>
    (rCopyTrack_any (ints ls) a m c w1 (by omega) (hr.ext h) (one_ints ls)).mono fun _ _ ⟨a', c', he, hc, ho, hx⟩ => ⟨a', c', he, hc, Rd.of_own ho, hx⟩)
  have HCf := Lib.hid (show ∀ w1, Ext w w1 → Calls Tryd.prog 41 #[fV b m c2 f mv] w1 (RetRd (fun s => .agg #[s, .int .i64 f.1, .int .i64 f.2, .int .i64 mv]) 2 m (cells2 cs) w1) from fun w1 h =>
    (rCopyFeed_any (cells2 cs) b m c2 f mv w1 (by omega) (hr2.ext h) (one_cells2 cs)).mono fun _ _ ⟨a', c', he, hc, ho, hx⟩ => ⟨a', c', he, hc, Rd.of_own ho, hx⟩)
  have HT := Lib.hid (fun w1 (h : Ext w w1) => rTrackErr_any ls a m c w1 hl (by omega) (hr.ext h))
  have HR := Lib.hid (fun w1 (h : Ext w w1) => rTrainErr_any ls a m c p q w1 hl (by omega) (hr.ext h))
  have HD := Lib.hid (show ∀ w1, Ext w w1 → Calls Tryd.prog 44 #[.agg #[.slice a m c], fV b m c2 f mv] w1 fun e w' => e = .returned (.int .i64 (feedE m m cs f)) ∧ Ext w1 w' from fun w1 h => rFeedErr_any m m a b c c2 cs f mv w1 hl2 (by omega) (hr2.ext h))
  rw [e1] at HT
  rw [e2] at HR
  rw [e3] at HD
  have hg : (40 < mv ∧ ¬ mv ≤ 2000) ∨ mv ≤ 40 := by omega
  have hm' : ¬ 14 < m := by omega
  clear hl hl2 hmv e1 e2 e3 hE hp0 hq1 hq2 hpq hlens h12 hsb
  generalize forceL f (overL p q 0 ls) cs 0 = Fo at *
  generalize gsN (fun x => forceL f (overL x q 0 ls) cs 0) p mv.toNat = Gs at *
  generalize moveE ls p q mv = M at *
  by_cases hM : M = 0
  · subst hM
    have HRg2 := Lib.hid (HRg.out rfl)
    simp only [okI, if_true] at HGs
    clear HRg
    rcases hg with ⟨g1, g2⟩ | g1
    all_goals
      go_enter Tryd.func7, Tryd.ntmps7
      go_wp2_with (first | (go_at_call 15; (with_reducible refine (HW.out _ (by ((repeat' (first | with_reducible exact Ext.refl _ | assumption | with_reducible exact Ext.one _ | with_reducible refine Ext.alloc ?_ _ | with_reducible refine Ext.setCell ?_ ?_ _ | with_reducible refine Ext.drew ?_ | refine Ext.trans ?_ (by assumption))) <;> (try simp) <;> omega))).mono ?_); rintro e w3 ⟨rfl, hx3⟩; obtain ⟨hc3, hf3⟩ := bcell hx3; have hzw3_0 : w.heap.size < w3.heap.size := (by have := hx3.size; (try simp at this); omega); have hzw3_1 : w.heap.size + 1 < w3.heap.size := (by have := hx3.size; (try simp at this); omega); have hzw3_2 : w.heap.size + 1 + 1 < w3.heap.size := (by have := hx3.size; (try simp at this); omega)) | (go_at_call 26; (with_reducible refine (HS.out _).mono ?_); rintro e w4 ⟨rfl, hx4⟩; obtain ⟨hc4, hf4⟩ := bcell hx4; have hzw4_0 : w.heap.size < w4.heap.size := (by have := hx4.size; (try simp at this); omega); have hzw4_1 : w.heap.size + 1 < w4.heap.size := (by have := hx4.size; (try simp at this); omega); have hzw4_2 : w.heap.size + 1 + 1 < w4.heap.size := (by have := hx4.size; (try simp at this); omega)))
      apply wp_region_ext 11 [.is _, .rdW (fun s => .agg #[s]) 1 m (ints ls), .is _, .is _, .rdW (fun s => .agg #[s, .int .i64 f.1, .int .i64 f.2, .int .i64 mv]) 2 m (cells2 cs), .is _, .is _, .is _, .is _, .is _, .is _] (by kernel_rfl) (by kernel_rfl) (by kernel_rfl) (fun V => ?steps) (fun V w5 hx_w5 hf_w5 => ?tail)
      case steps =>
        simp only [List.take, Region.binds, mode_text, mode_gc, if_true, true_and, Bool.false_eq_true, if_false, List.drop, StepsU, StepsG, putsAll, FactsAt, Fs, val, List.getD_cons_zero, List.getD_cons_succ, List.getD_nil, SF.is, SF.rd, SF.any, SF.box, Option.getD_some, Option.getD_none, Act.put, List.setIfInBounds_toArray, List.set_cons_zero, List.set_cons_succ, SF.rdW]
        refine ⟨?_, ?_, ?_, ?_, ?_, ?_, ?_, ?_, ?_, ?_, ?_, trivial⟩ <;> (intro w2 hx hf; obtain ⟨hc, hfz⟩ := bcell hx; go_simp; (try simp only [wrap_eq]); first
          | exact Post.mk rfl (Ext.refl _)
          | rfl
          | (refine Post.mk ?_ (Ext.refl _); (simp <;> omega); done)
          | exact Post.mk ⟨_, _, rfl, Nat.le_refl _, Rd.new _ _ _ _ _ rfl⟩ ((Ext.refl _).alloc _)
          | (refine Post.mk ⟨_, rfl, ?_, Bx.new _ _ _⟩ ((Ext.refl _).alloc _); have := hx.size; (try simp at this); (try simp); omega)
          | (with_reducible exact CallTo.rd (HC.out _ (by ((repeat' (first | with_reducible exact Ext.refl _ | assumption | with_reducible exact Ext.one _ | with_reducible refine Ext.alloc ?_ _ | with_reducible refine Ext.setCell ?_ ?_ _ | with_reducible refine Ext.drew ?_ | refine Ext.trans ?_ (by assumption))) <;> (try simp) <;> omega))))
          | (with_reducible exact CallTo.rd (HCf.out _ (by ((repeat' (first | with_reducible exact Ext.refl _ | assumption | with_reducible exact Ext.one _ | with_reducible refine Ext.alloc ?_ _ | with_reducible refine Ext.setCell ?_ ?_ _ | with_reducible refine Ext.drew ?_ | refine Ext.trans ?_ (by assumption))) <;> (try simp) <;> omega))))
          | (obtain ⟨a2, c3, e2, h2, h3⟩ : ∃ a2 c3, V 1 = .agg #[.slice a2 m c3] ∧ m ≤ c3 ∧ Rd w2 1 a2 m (ints ls) := (by first | exact hf.1 | exact hf.2.1 | exact hf.2.2.1 | exact hf.2.2.2.1); obtain ⟨a4, c4, e4, h4, h5⟩ : ∃ a4 c4, V 4 = .agg #[.slice a4 m c4, .int .i64 f.1, .int .i64 f.2, .int .i64 mv] ∧ m ≤ c4 ∧ Rd w2 2 a4 m (cells2 cs) := (by first | exact hf.2.1 | exact hf.1 | exact hf.2.2.1 | exact hf.2.2.2.1); rw [e2, e4]; (with_reducible refine CallTo.of (HFo.out _ _ _ _ _ h3 h5) ?_); exact fun _ _ => rfl))
      case tail =>
      simp only [FactsTo, List.take, Region.binds, mode_text, mode_gc, if_true, true_and, Bool.false_eq_true, if_false, List.drop, StepsU, StepsG, putsAll, FactsAt, Fs, val, List.getD_cons_zero, List.getD_cons_succ, List.getD_nil, SF.is, SF.rd, SF.any, SF.box, Option.getD_some, Option.getD_none, Act.put, List.setIfInBounds_toArray, List.set_cons_zero, List.set_cons_succ, SF.rdW] at hf_w5 ⊢
      obtain ⟨hc_w5, hfz_w5⟩ := bcell hx_w5
      clear hf_w5
      have hzw5_0 : w.heap.size < w5.heap.size := (by have := hx_w5.size; (try simp at this); omega); have hzw5_1 : w.heap.size + 1 < w5.heap.size := (by have := hx_w5.size; (try simp at this); omega); have hzw5_2 : w.heap.size + 1 + 1 < w5.heap.size := (by have := hx_w5.size; (try simp at this); omega)
      go_wp2
      apply wp_region_ext 11 [.is _, .rdW (fun s => .agg #[s]) 1 m (ints ls), .is _, .is _, .rdW (fun s => .agg #[s, .int .i64 f.1, .int .i64 f.2, .int .i64 mv]) 2 m (cells2 cs), .is _, .is _, .is _, .is _, .is _, .is _] (by kernel_rfl) (by kernel_rfl) (by kernel_rfl) (fun V => ?steps) (fun V w6 hx_w6 hf_w6 => ?tail)
      case steps =>
        simp only [List.take, Region.binds, mode_text, mode_gc, if_true, true_and, Bool.false_eq_true, if_false, List.drop, StepsU, StepsG, putsAll, FactsAt, Fs, val, List.getD_cons_zero, List.getD_cons_succ, List.getD_nil, SF.is, SF.rd, SF.any, SF.box, Option.getD_some, Option.getD_none, Act.put, List.setIfInBounds_toArray, List.set_cons_zero, List.set_cons_succ, SF.rdW]
        refine ⟨?_, ?_, ?_, ?_, ?_, ?_, ?_, ?_, ?_, ?_, ?_, trivial⟩ <;> (intro w2 hx hf; obtain ⟨hc, hfz⟩ := bcell hx; go_simp; (try simp only [wrap_eq]); first
          | exact Post.mk rfl (Ext.refl _)
          | rfl
          | (refine Post.mk ?_ (Ext.refl _); (simp <;> omega); done)
          | exact Post.mk ⟨_, _, rfl, Nat.le_refl _, Rd.new _ _ _ _ _ rfl⟩ ((Ext.refl _).alloc _)
          | (refine Post.mk ⟨_, rfl, ?_, Bx.new _ _ _⟩ ((Ext.refl _).alloc _); have := hx.size; (try simp at this); (try simp); omega)
          | (with_reducible exact CallTo.rd (HC.out _ (by ((repeat' (first | with_reducible exact Ext.refl _ | assumption | with_reducible exact Ext.one _ | with_reducible refine Ext.alloc ?_ _ | with_reducible refine Ext.setCell ?_ ?_ _ | with_reducible refine Ext.drew ?_ | refine Ext.trans ?_ (by assumption))) <;> (try simp) <;> omega))))
          | (with_reducible exact CallTo.rd (HCf.out _ (by ((repeat' (first | with_reducible exact Ext.refl _ | assumption | with_reducible exact Ext.one _ | with_reducible refine Ext.alloc ?_ _ | with_reducible refine Ext.setCell ?_ ?_ _ | with_reducible refine Ext.drew ?_ | refine Ext.trans ?_ (by assumption))) <;> (try simp) <;> omega))))
          | (obtain ⟨a2, c3, e2, h2, h3⟩ : ∃ a2 c3, V 1 = .agg #[.slice a2 m c3] ∧ m ≤ c3 ∧ Rd w2 1 a2 m (ints ls) := (by first | exact hf.1 | exact hf.2.1 | exact hf.2.2.1 | exact hf.2.2.2.1); obtain ⟨a4, c4, e4, h4, h5⟩ : ∃ a4 c4, V 4 = .agg #[.slice a4 m c4, .int .i64 f.1, .int .i64 f.2, .int .i64 mv] ∧ m ≤ c4 ∧ Rd w2 2 a4 m (cells2 cs) := (by first | exact hf.2.1 | exact hf.1 | exact hf.2.2.1 | exact hf.2.2.2.1); rw [e2, e4]; (with_reducible refine CallTo.of (HGs.out _ _ _ _ _ h3 h5) ?_); exact fun _ _ => rfl))
      case tail =>
      simp only [FactsTo, List.take, Region.binds, mode_text, mode_gc, if_true, true_and, Bool.false_eq_true, if_false, List.drop, StepsU, StepsG, putsAll, FactsAt, Fs, val, List.getD_cons_zero, List.getD_cons_succ, List.getD_nil, SF.is, SF.rd, SF.any, SF.box, Option.getD_some, Option.getD_none, Act.put, List.setIfInBounds_toArray, List.set_cons_zero, List.set_cons_succ, SF.rdW] at hf_w6 ⊢
      obtain ⟨hc_w6, hfz_w6⟩ := bcell hx_w6
      clear hf_w6
      have hzw6_0 : w.heap.size < w6.heap.size := (by have := hx_w6.size; (try simp at this); omega); have hzw6_1 : w.heap.size + 1 < w6.heap.size := (by have := hx_w6.size; (try simp at this); omega); have hzw6_2 : w.heap.size + 1 + 1 < w6.heap.size := (by have := hx_w6.size; (try simp at this); omega)
      go_wp2_with (first | (go_at_call 43; (with_reducible refine (HT.out _ (by ((repeat' (first | with_reducible exact Ext.refl _ | assumption | with_reducible exact Ext.one _ | with_reducible refine Ext.alloc ?_ _ | with_reducible refine Ext.setCell ?_ ?_ _ | with_reducible refine Ext.drew ?_ | refine Ext.trans ?_ (by assumption))) <;> (try simp) <;> omega))).mono ?_); rintro e w7 ⟨rfl, hx7⟩; obtain ⟨hc7, hf7⟩ := bcell hx7; have hzw7_0 : w.heap.size < w7.heap.size := (by have := hx7.size; (try simp at this); omega); have hzw7_1 : w.heap.size + 1 < w7.heap.size := (by have := hx7.size; (try simp at this); omega); have hzw7_2 : w.heap.size + 1 + 1 < w7.heap.size := (by have := hx7.size; (try simp at this); omega)) | (go_at_call 31; (with_reducible refine (HR.out _ (by ((repeat' (first | with_reducible exact Ext.refl _ | assumption | with_reducible exact Ext.one _ | with_reducible refine Ext.alloc ?_ _ | with_reducible refine Ext.setCell ?_ ?_ _ | with_reducible refine Ext.drew ?_ | refine Ext.trans ?_ (by assumption))) <;> (try simp) <;> omega))).mono ?_); rintro e w8 ⟨rfl, hx8⟩; obtain ⟨hc8, hf8⟩ := bcell hx8; have hzw8_0 : w.heap.size < w8.heap.size := (by have := hx8.size; (try simp at this); omega); have hzw8_1 : w.heap.size + 1 < w8.heap.size := (by have := hx8.size; (try simp at this); omega); have hzw8_2 : w.heap.size + 1 + 1 < w8.heap.size := (by have := hx8.size; (try simp at this); omega)) | (go_at_call 44; (with_reducible refine (HD.out _ (by ((repeat' (first | with_reducible exact Ext.refl _ | assumption | with_reducible exact Ext.one _ | with_reducible refine Ext.alloc ?_ _ | with_reducible refine Ext.setCell ?_ ?_ _ | with_reducible refine Ext.drew ?_ | refine Ext.trans ?_ (by assumption))) <;> (try simp) <;> omega))).mono ?_); rintro e w9 ⟨rfl, hx9⟩; obtain ⟨hc9, hf9⟩ := bcell hx9; have hzw9_0 : w.heap.size < w9.heap.size := (by have := hx9.size; (try simp at this); omega); have hzw9_1 : w.heap.size + 1 < w9.heap.size := (by have := hx9.size; (try simp at this); omega); have hzw9_2 : w.heap.size + 1 + 1 < w9.heap.size := (by have := hx9.size; (try simp at this); omega)) | (go_at_call 45; (with_reducible refine (HRf.out _ (by ((repeat' (first | with_reducible exact Ext.refl _ | assumption | with_reducible exact Ext.one _ | with_reducible refine Ext.alloc ?_ _ | with_reducible refine Ext.setCell ?_ ?_ _ | with_reducible refine Ext.drew ?_ | refine Ext.trans ?_ (by assumption))) <;> (try simp) <;> omega))).mono ?_); rintro e w10 ⟨rfl, hx10⟩; obtain ⟨hc10, hf10⟩ := bcell hx10; have hzw10_0 : w.heap.size < w10.heap.size := (by have := hx10.size; (try simp at this); omega); have hzw10_1 : w.heap.size + 1 < w10.heap.size := (by have := hx10.size; (try simp at this); omega); have hzw10_2 : w.heap.size + 1 + 1 < w10.heap.size := (by have := hx10.size; (try simp at this); omega)) | (go_at_call 46; (with_reducible refine (HMv.out _ (by ((repeat' (first | with_reducible exact Ext.refl _ | assumption | with_reducible exact Ext.one _ | with_reducible refine Ext.alloc ?_ _ | with_reducible refine Ext.setCell ?_ ?_ _ | with_reducible refine Ext.drew ?_ | refine Ext.trans ?_ (by assumption))) <;> (try simp) <;> omega))).mono ?_); rintro e w11 ⟨rfl, hx11⟩; obtain ⟨hc11, hf11⟩ := bcell hx11; have hzw11_0 : w.heap.size < w11.heap.size := (by have := hx11.size; (try simp at this); omega); have hzw11_1 : w.heap.size + 1 < w11.heap.size := (by have := hx11.size; (try simp at this); omega); have hzw11_2 : w.heap.size + 1 + 1 < w11.heap.size := (by have := hx11.size; (try simp at this); omega)) | (go_at_call 47; (with_reducible refine (HRg2.out _ (by ((repeat' (first | with_reducible exact Ext.refl _ | assumption | with_reducible exact Ext.one _ | with_reducible refine Ext.alloc ?_ _ | with_reducible refine Ext.setCell ?_ ?_ _ | with_reducible refine Ext.drew ?_ | refine Ext.trans ?_ (by assumption))) <;> (try simp) <;> omega))).mono ?_); rintro e w12 ⟨rfl, hx12⟩; obtain ⟨hc12, hf12⟩ := bcell hx12; have hzw12_0 : w.heap.size < w12.heap.size := (by have := hx12.size; (try simp at this); omega); have hzw12_1 : w.heap.size + 1 < w12.heap.size := (by have := hx12.size; (try simp at this); omega); have hzw12_2 : w.heap.size + 1 + 1 < w12.heap.size := (by have := hx12.size; (try simp at this); omega)))
      go_ret
      exact ⟨rfl, by ((repeat' (first | with_reducible exact Ext.refl _ | assumption | with_reducible exact Ext.one _ | with_reducible refine Ext.alloc ?_ _ | with_reducible refine Ext.setCell ?_ ?_ _ | with_reducible refine Ext.drew ?_ | refine Ext.trans ?_ (by assumption))) <;> (try simp) <;> omega)⟩
  · have hM1 : (M != 0) = true := by simp [hM]
    have hM2 : (M == 0) = false := by simp [hM]
    simp only [okI, if_neg hM] at HGs
    clear HRg hM
    rcases hg with ⟨g1, g2⟩ | g1
    all_goals
      go_enter Tryd.func7, Tryd.ntmps7
      go_wp2_with (first | (go_at_call 15; (with_reducible refine (HW.out _ (by ((repeat' (first | with_reducible exact Ext.refl _ | assumption | with_reducible exact Ext.one _ | with_reducible refine Ext.alloc ?_ _ | with_reducible refine Ext.setCell ?_ ?_ _ | with_reducible refine Ext.drew ?_ | refine Ext.trans ?_ (by assumption))) <;> (try simp) <;> omega))).mono ?_); rintro e w3 ⟨rfl, hx3⟩; obtain ⟨hc3, hf3⟩ := bcell hx3; have hzw3_0 : w.heap.size < w3.heap.size := (by have := hx3.size; (try simp at this); omega); have hzw3_1 : w.heap.size + 1 < w3.heap.size := (by have := hx3.size; (try simp at this); omega); have hzw3_2 : w.heap.size + 1 + 1 < w3.heap.size := (by have := hx3.size; (try simp at this); omega)) | (go_at_call 26; (with_reducible refine (HS.out _).mono ?_); rintro e w4 ⟨rfl, hx4⟩; obtain ⟨hc4, hf4⟩ := bcell hx4; have hzw4_0 : w.heap.size < w4.heap.size := (by have := hx4.size; (try simp at this); omega); have hzw4_1 : w.heap.size + 1 < w4.heap.size := (by have := hx4.size; (try simp at this); omega); have hzw4_2 : w.heap.size + 1 + 1 < w4.heap.size := (by have := hx4.size; (try simp at this); omega)))
      apply wp_region_ext 11 [.is _, .rdW (fun s => .agg #[s]) 1 m (ints ls), .is _, .is _, .rdW (fun s => .agg #[s, .int .i64 f.1, .int .i64 f.2, .int .i64 mv]) 2 m (cells2 cs), .is _, .is _, .is _, .is _, .is _, .is _] (by kernel_rfl) (by kernel_rfl) (by kernel_rfl) (fun V => ?steps) (fun V w5 hx_w5 hf_w5 => ?tail)
      case steps =>
        simp only [List.take, Region.binds, mode_text, mode_gc, if_true, true_and, Bool.false_eq_true, if_false, List.drop, StepsU, StepsG, putsAll, FactsAt, Fs, val, List.getD_cons_zero, List.getD_cons_succ, List.getD_nil, SF.is, SF.rd, SF.any, SF.box, Option.getD_some, Option.getD_none, Act.put, List.setIfInBounds_toArray, List.set_cons_zero, List.set_cons_succ, SF.rdW]
        refine ⟨?_, ?_, ?_, ?_, ?_, ?_, ?_, ?_, ?_, ?_, ?_, trivial⟩ <;> (intro w2 hx hf; obtain ⟨hc, hfz⟩ := bcell hx; go_simp; (try simp only [wrap_eq]); first
          | exact Post.mk rfl (Ext.refl _)
          | rfl
          | (refine Post.mk ?_ (Ext.refl _); (simp <;> omega); done)
          | exact Post.mk ⟨_, _, rfl, Nat.le_refl _, Rd.new _ _ _ _ _ rfl⟩ ((Ext.refl _).alloc _)
          | (refine Post.mk ⟨_, rfl, ?_, Bx.new _ _ _⟩ ((Ext.refl _).alloc _); have := hx.size; (try simp at this); (try simp); omega)
          | (with_reducible exact CallTo.rd (HC.out _ (by ((repeat' (first | with_reducible exact Ext.refl _ | assumption | with_reducible exact Ext.one _ | with_reducible refine Ext.alloc ?_ _ | with_reducible refine Ext.setCell ?_ ?_ _ | with_reducible refine Ext.drew ?_ | refine Ext.trans ?_ (by assumption))) <;> (try simp) <;> omega))))
          | (with_reducible exact CallTo.rd (HCf.out _ (by ((repeat' (first | with_reducible exact Ext.refl _ | assumption | with_reducible exact Ext.one _ | with_reducible refine Ext.alloc ?_ _ | with_reducible refine Ext.setCell ?_ ?_ _ | with_reducible refine Ext.drew ?_ | refine Ext.trans ?_ (by assumption))) <;> (try simp) <;> omega))))
          | (obtain ⟨a2, c3, e2, h2, h3⟩ : ∃ a2 c3, V 1 = .agg #[.slice a2 m c3] ∧ m ≤ c3 ∧ Rd w2 1 a2 m (ints ls) := (by first | exact hf.1 | exact hf.2.1 | exact hf.2.2.1 | exact hf.2.2.2.1); obtain ⟨a4, c4, e4, h4, h5⟩ : ∃ a4 c4, V 4 = .agg #[.slice a4 m c4, .int .i64 f.1, .int .i64 f.2, .int .i64 mv] ∧ m ≤ c4 ∧ Rd w2 2 a4 m (cells2 cs) := (by first | exact hf.2.1 | exact hf.1 | exact hf.2.2.1 | exact hf.2.2.2.1); rw [e2, e4]; (with_reducible refine CallTo.of (HFo.out _ _ _ _ _ h3 h5) ?_); exact fun _ _ => rfl))
      case tail =>
      simp only [FactsTo, List.take, Region.binds, mode_text, mode_gc, if_true, true_and, Bool.false_eq_true, if_false, List.drop, StepsU, StepsG, putsAll, FactsAt, Fs, val, List.getD_cons_zero, List.getD_cons_succ, List.getD_nil, SF.is, SF.rd, SF.any, SF.box, Option.getD_some, Option.getD_none, Act.put, List.setIfInBounds_toArray, List.set_cons_zero, List.set_cons_succ, SF.rdW] at hf_w5 ⊢
      obtain ⟨hc_w5, hfz_w5⟩ := bcell hx_w5
      clear hf_w5
      have hzw5_0 : w.heap.size < w5.heap.size := (by have := hx_w5.size; (try simp at this); omega); have hzw5_1 : w.heap.size + 1 < w5.heap.size := (by have := hx_w5.size; (try simp at this); omega); have hzw5_2 : w.heap.size + 1 + 1 < w5.heap.size := (by have := hx_w5.size; (try simp at this); omega)
      go_wp2
      apply wp_region_ext 11 [.is _, .rdW (fun s => .agg #[s]) 1 m (ints ls), .is _, .is _, .rdW (fun s => .agg #[s, .int .i64 f.1, .int .i64 f.2, .int .i64 mv]) 2 m (cells2 cs), .is _, .is _, .is _, .is _, .is _, .is _] (by kernel_rfl) (by kernel_rfl) (by kernel_rfl) (fun V => ?steps) (fun V w6 hx_w6 hf_w6 => ?tail)
      case steps =>
        simp only [List.take, Region.binds, mode_text, mode_gc, if_true, true_and, Bool.false_eq_true, if_false, List.drop, StepsU, StepsG, putsAll, FactsAt, Fs, val, List.getD_cons_zero, List.getD_cons_succ, List.getD_nil, SF.is, SF.rd, SF.any, SF.box, Option.getD_some, Option.getD_none, Act.put, List.setIfInBounds_toArray, List.set_cons_zero, List.set_cons_succ, SF.rdW]
        refine ⟨?_, ?_, ?_, ?_, ?_, ?_, ?_, ?_, ?_, ?_, ?_, trivial⟩ <;> (intro w2 hx hf; obtain ⟨hc, hfz⟩ := bcell hx; go_simp; (try simp only [wrap_eq]); first
          | exact Post.mk rfl (Ext.refl _)
          | rfl
          | (refine Post.mk ?_ (Ext.refl _); (simp <;> omega); done)
          | exact Post.mk ⟨_, _, rfl, Nat.le_refl _, Rd.new _ _ _ _ _ rfl⟩ ((Ext.refl _).alloc _)
          | (refine Post.mk ⟨_, rfl, ?_, Bx.new _ _ _⟩ ((Ext.refl _).alloc _); have := hx.size; (try simp at this); (try simp); omega)
          | (with_reducible exact CallTo.rd (HC.out _ (by ((repeat' (first | with_reducible exact Ext.refl _ | assumption | with_reducible exact Ext.one _ | with_reducible refine Ext.alloc ?_ _ | with_reducible refine Ext.setCell ?_ ?_ _ | with_reducible refine Ext.drew ?_ | refine Ext.trans ?_ (by assumption))) <;> (try simp) <;> omega))))
          | (with_reducible exact CallTo.rd (HCf.out _ (by ((repeat' (first | with_reducible exact Ext.refl _ | assumption | with_reducible exact Ext.one _ | with_reducible refine Ext.alloc ?_ _ | with_reducible refine Ext.setCell ?_ ?_ _ | with_reducible refine Ext.drew ?_ | refine Ext.trans ?_ (by assumption))) <;> (try simp) <;> omega))))
          | (obtain ⟨a2, c3, e2, h2, h3⟩ : ∃ a2 c3, V 1 = .agg #[.slice a2 m c3] ∧ m ≤ c3 ∧ Rd w2 1 a2 m (ints ls) := (by first | exact hf.1 | exact hf.2.1 | exact hf.2.2.1 | exact hf.2.2.2.1); obtain ⟨a4, c4, e4, h4, h5⟩ : ∃ a4 c4, V 4 = .agg #[.slice a4 m c4, .int .i64 f.1, .int .i64 f.2, .int .i64 mv] ∧ m ≤ c4 ∧ Rd w2 2 a4 m (cells2 cs) := (by first | exact hf.2.1 | exact hf.1 | exact hf.2.2.1 | exact hf.2.2.2.1); rw [e2, e4]; (with_reducible refine CallTo.of (HGs.out _ _ _ _ _ h3 h5) ?_); exact fun _ _ => rfl))
      case tail =>
      simp only [FactsTo, List.take, Region.binds, mode_text, mode_gc, if_true, true_and, Bool.false_eq_true, if_false, List.drop, StepsU, StepsG, putsAll, FactsAt, Fs, val, List.getD_cons_zero, List.getD_cons_succ, List.getD_nil, SF.is, SF.rd, SF.any, SF.box, Option.getD_some, Option.getD_none, Act.put, List.setIfInBounds_toArray, List.set_cons_zero, List.set_cons_succ, SF.rdW] at hf_w6 ⊢
      obtain ⟨hc_w6, hfz_w6⟩ := bcell hx_w6
      clear hf_w6
      have hzw6_0 : w.heap.size < w6.heap.size := (by have := hx_w6.size; (try simp at this); omega); have hzw6_1 : w.heap.size + 1 < w6.heap.size := (by have := hx_w6.size; (try simp at this); omega); have hzw6_2 : w.heap.size + 1 + 1 < w6.heap.size := (by have := hx_w6.size; (try simp at this); omega)
      go_wp2_with (first | (go_at_call 43; (with_reducible refine (HT.out _ (by ((repeat' (first | with_reducible exact Ext.refl _ | assumption | with_reducible exact Ext.one _ | with_reducible refine Ext.alloc ?_ _ | with_reducible refine Ext.setCell ?_ ?_ _ | with_reducible refine Ext.drew ?_ | refine Ext.trans ?_ (by assumption))) <;> (try simp) <;> omega))).mono ?_); rintro e w7 ⟨rfl, hx7⟩; obtain ⟨hc7, hf7⟩ := bcell hx7; have hzw7_0 : w.heap.size < w7.heap.size := (by have := hx7.size; (try simp at this); omega); have hzw7_1 : w.heap.size + 1 < w7.heap.size := (by have := hx7.size; (try simp at this); omega); have hzw7_2 : w.heap.size + 1 + 1 < w7.heap.size := (by have := hx7.size; (try simp at this); omega)) | (go_at_call 31; (with_reducible refine (HR.out _ (by ((repeat' (first | with_reducible exact Ext.refl _ | assumption | with_reducible exact Ext.one _ | with_reducible refine Ext.alloc ?_ _ | with_reducible refine Ext.setCell ?_ ?_ _ | with_reducible refine Ext.drew ?_ | refine Ext.trans ?_ (by assumption))) <;> (try simp) <;> omega))).mono ?_); rintro e w8 ⟨rfl, hx8⟩; obtain ⟨hc8, hf8⟩ := bcell hx8; have hzw8_0 : w.heap.size < w8.heap.size := (by have := hx8.size; (try simp at this); omega); have hzw8_1 : w.heap.size + 1 < w8.heap.size := (by have := hx8.size; (try simp at this); omega); have hzw8_2 : w.heap.size + 1 + 1 < w8.heap.size := (by have := hx8.size; (try simp at this); omega)) | (go_at_call 44; (with_reducible refine (HD.out _ (by ((repeat' (first | with_reducible exact Ext.refl _ | assumption | with_reducible exact Ext.one _ | with_reducible refine Ext.alloc ?_ _ | with_reducible refine Ext.setCell ?_ ?_ _ | with_reducible refine Ext.drew ?_ | refine Ext.trans ?_ (by assumption))) <;> (try simp) <;> omega))).mono ?_); rintro e w9 ⟨rfl, hx9⟩; obtain ⟨hc9, hf9⟩ := bcell hx9; have hzw9_0 : w.heap.size < w9.heap.size := (by have := hx9.size; (try simp at this); omega); have hzw9_1 : w.heap.size + 1 < w9.heap.size := (by have := hx9.size; (try simp at this); omega); have hzw9_2 : w.heap.size + 1 + 1 < w9.heap.size := (by have := hx9.size; (try simp at this); omega)) | (go_at_call 45; (with_reducible refine (HRf.out _ (by ((repeat' (first | with_reducible exact Ext.refl _ | assumption | with_reducible exact Ext.one _ | with_reducible refine Ext.alloc ?_ _ | with_reducible refine Ext.setCell ?_ ?_ _ | with_reducible refine Ext.drew ?_ | refine Ext.trans ?_ (by assumption))) <;> (try simp) <;> omega))).mono ?_); rintro e w10 ⟨rfl, hx10⟩; obtain ⟨hc10, hf10⟩ := bcell hx10; have hzw10_0 : w.heap.size < w10.heap.size := (by have := hx10.size; (try simp at this); omega); have hzw10_1 : w.heap.size + 1 < w10.heap.size := (by have := hx10.size; (try simp at this); omega); have hzw10_2 : w.heap.size + 1 + 1 < w10.heap.size := (by have := hx10.size; (try simp at this); omega)) | (go_at_call 46; (with_reducible refine (HMv.out _ (by ((repeat' (first | with_reducible exact Ext.refl _ | assumption | with_reducible exact Ext.one _ | with_reducible refine Ext.alloc ?_ _ | with_reducible refine Ext.setCell ?_ ?_ _ | with_reducible refine Ext.drew ?_ | refine Ext.trans ?_ (by assumption))) <;> (try simp) <;> omega))).mono ?_); rintro e w11 ⟨rfl, hx11⟩; obtain ⟨hc11, hf11⟩ := bcell hx11; have hzw11_0 : w.heap.size < w11.heap.size := (by have := hx11.size; (try simp at this); omega); have hzw11_1 : w.heap.size + 1 < w11.heap.size := (by have := hx11.size; (try simp at this); omega); have hzw11_2 : w.heap.size + 1 + 1 < w11.heap.size := (by have := hx11.size; (try simp at this); omega)))
      go_ret
      exact ⟨rfl, by ((repeat' (first | with_reducible exact Ext.refl _ | assumption | with_reducible exact Ext.one _ | with_reducible refine Ext.alloc ?_ _ | with_reducible refine Ext.setCell ?_ ?_ _ | with_reducible refine Ext.drew ?_ | refine Ext.trans ?_ (by assumption))) <;> (try simp) <;> omega)⟩
theorem statorOnTrack_any (ls : List Int) (a : Option Addr) (n c : Nat) (p q : Int) (cs : List T2) (b : Option Addr) (m c2 : Nat) (f : T2) (mv : Int) (w : World) (hs : Sts w) (hl : ls.length = n) (hl2 : cs.length = m) (hr : Rd w 1 a n (ints ls)) (hr2 : Rd w 2 b m (cells2 cs)) :
    Calls Tryd.prog 7 #[.agg #[.slice a n c], .agg #[.int .i64 p, .int .i64 q], fV b m c2 f mv] w fun e w' => e = .returned (.bool true) ∧ Ext w w' := by
  by_cases h : 14 < n ∨ 14 < m ∨ (40 < mv ∧ mv ≤ 2000)
  · exact statorOnTrack_far a n c p q b m c2 f mv w hs h
  · by_cases hE : openFeedE n ls p q m cs f = 0
    · exact statorOnTrack_ok ls a n c p q cs b m c2 f mv w hs hl hl2 (by omega) (by omega) (by omega) hr hr2 hE
    · exact statorOnTrack_err ls a n c p q cs b m c2 f mv w hs hl hl2 (by omega) (by omega) (by omega) hr hr2 hE
end Go.Proofs.YtdbglpaejmhbjaaDoor
