/- StatorNoStep's walk: right feeds. -/
import Derived.Test.YtdbglpaejmhbjaaDoorS1
import Derived.Test.YtdbglpaejmhbjaaDoorS3
import Derived.Test.YtdbglpaejmhbjaaDoorReg
import Derived.Deep.Cut
namespace Go.Proofs.YtdbglpaejmhbjaaDoor
open Go Go.RowKit Go.Proofs
set_option linter.unusedSimpArgs false
set_option linter.unusedVariables false

theorem move_ok {n : Nat} {ls : List Int} {p q mv : Int} (hl : ls.length = n) (h : (trackC n ls).2 = 0) (h2 : trainE ls p q = 0) (h3 : moveE ls p q mv = 0) : 1 ≤ mv ∧ mv ≤ 2000 ∧ p + q + mv ≤ sumP ls := by
  obtain ⟨hL, h12, _⟩ := track_ok hl h
  obtain ⟨hp, hq, hq2, hpq⟩ := train_ok hl h h2
  have hb := sumP_bd hL
  have hs := sumW_eq ls 0 hL (by omega) (by omega)
  unfold moveE at h3
  cases hw : withinB mv 1 2000 with
  | false => rw [hw] at h3; simp at h3
  | true =>
    have hk : 1 ≤ mv ∧ mv ≤ 2000 := by simpa [withinB] using hw
    rw [hw, if_pos rfl, hs, wrap64_small (n := p + q) (by omega) (by omega), wrap64_small (by omega) (by omega)] at h3
    refine ⟨hk.1, hk.2, ?_⟩
    by_cases hc : 0 + sumP ls < p + q + mv
    · rw [if_pos hc] at h3; omega
    · omega
theorem feed_ok {n m : Nat} {cs : List T2} {f : T2} (h : feedE n m cs f = 0) : m = n ∧ cs.all rightB = true ∧ rightB f = true := by
  unfold feedE at h
  by_cases hm : m = n
  · rw [if_neg (by omega)] at h
    cases h1 : cs.all rightB <;> cases h2 : rightB f <;> simp [h1, h2, unlessE] at h ⊢
    exact hm
  · rw [if_pos hm] at h; omega
set_option maxRecDepth 100000 in
set_option maxHeartbeats 4000000 in
theorem statorNoStep_ok (ls : List Int) (a : Option Addr) (m c : Nat) (p q : Int) (cs : List T2) (b : Option Addr) (c2 : Nat) (f : T2) (k : Nat) (w : World) (hs : Sts w) (hl : ls.length = m) (hl2 : cs.length = m) (hr : Rd w 1 a m (ints ls)) (hr2 : Rd w 2 b m (cells2 cs))
    (e1 : (trackC m ls).2 = 0) (e2 : trainE ls p q = 0) (e3 : feedE m m cs f = 0) (hv : k ≤ 40) (e4 : moveE ls p q k = 0) :
    Calls Tryd.prog 12 #[.agg #[.slice a m c], .agg #[.int .i64 p, .int .i64 q], fV b m c2 f k] w fun e w' => e = .returned (.bool true) ∧ Ext w w' := by
  obtain ⟨hp0, hq1, hq2, hpq⟩ := train_ok hl e1 e2
  obtain ⟨hlens, h12, h0⟩ := track_ok hl e1
  obtain ⟨hk1, hk2, hpk⟩ := move_ok hl e1 e2 e4
  obtain ⟨_, hall, hf⟩ := feed_ok e3
  have hE : openFeedE m ls p q m cs f = 0 := by rw [openFeed_eq, e1, e2, e3]; rfl
  have hNo := noStep f hf ls cs p q k hp0 hq1 hq2 hpk (by omega) (by omega) (by omega) hlens hall
  rw [hl2] at hNo
  have hst : stepE m ls p q m cs f k = 0 := by rw [stepE_zero hE]; simp [withinB, unlessE]; omega
  have hF : stepF m ls p q m cs f k = 0 := by
    have hw : withinB (k : Int) 1 2000 = true := by simp [withinB]; omega
    unfold stepF; rw [if_pos hst]; unfold moveE at e4; rw [hw, if_pos rfl] at e4; exact e4
  have hEv : evenE m cs f = 0 := by
    have : (m : Int) ≤ 12 := by omega
    simp [evenE, firstE, unlessE, hall, hf, h0, h12]
  have HFo := Lib.hid (show ∀ (w1 : World) (a' : Option Addr) (c' : Nat) (b' : Option Addr) (c2' : Nat), Rd w1 1 a' m (ints ls) → Rd w1 2 b' m (cells2 cs) → Calls Tryd.prog 40 #[.agg #[.slice a' m c'], .agg #[.int .i64 p, .int .i64 q], fV b' m c2' f k] w1 fun e w' => e = .returned (.tuple #[.int .i64 (forceL f (overL p q 0 ls) cs 0), .int .i64 0]) ∧ Ext w1 w' from fun w1 a' c' b' c2' h1 h2 => by
    have h := forceAt_any ls a' m c' p q cs b' m c2' f k w1 hl hl2 (by omega) (by omega) h1 h2
    rwa [hE, if_pos rfl] at h)
  have HGs := Lib.hid (show ∀ (w1 : World) (a' : Option Addr) (c' : Nat) (b' : Option Addr) (c2' : Nat), Rd w1 1 a' m (ints ls) → Rd w1 2 b' m (cells2 cs) → Calls Tryd.prog 42 #[.agg #[.slice a' m c'], .agg #[.int .i64 p, .int .i64 q], fV b' m c2' f k] w1 fun e w' => e = .returned (.tuple #[.int .i64 (gsN (fun x => forceL f (overL x q 0 ls) cs 0) p k), .int .i64 0]) ∧ Ext w1 w' from fun w1 a' c' b' c2' h1 h2 => by
    have h := greatestStep_any ls a' m c' p q cs b' c2' f k w1 hl hl2 (by omega) h1 h2 hst
    rw [hF] at h
    simpa [okI] using h)
  have HEv := Lib.hid (show ∀ (w1 : World) (b' : Option Addr) (c2' : Nat), Rd w1 2 b' m (cells2 cs) → Calls Tryd.prog 16 #[.slice b' m c2', tV f] w1 fun e w' => e = .returned (.tuple #[.bool (evenB cs f), .int .i64 0]) ∧ Ext w1 w' from fun w1 b' c2' h1 => by
    have h := even_any cs b' m c2' f w1 hl2 (by omega) h1
    rwa [hEv, if_pos rfl] at h)
  have HFk := Lib.hid (show ∀ (j : Nat) (hj : j < cs.length) w1, Calls Tryd.prog 53 #[tV cs[j], tV f] w1 fun e w' => e = .returned (.tuple #[.int .i64 (gAt f cs j), .int .i64 0]) ∧ Ext w1 w' from fun j hj w1 => by
    have h := forceOf_any cs[j] f w1
    have h2 : twoE cs[j] f = 0 := by simp [twoE, List.all_eq_true.1 hall _ (List.getElem_mem hj), hf, unlessE]
    rw [h2, okI, if_pos rfl] at h
    rw [gAt_eq hj]; exact h)
  have HBk := Lib.hid (show ∀ (j : Nat) (hj : j < cs.length) w1, Calls Tryd.prog 22 #[.int .i64 (gAt f cs j), .int .i64 (-1000000000000000), .int .i64 1000000000000000] w1 fun e w' => e = .returned (.bool true) ∧ w1 = w' from fun j hj w1 => by
    have h := bWithin_any (gAt f cs j) (-1000000000000000) 1000000000000000 w1
    have h2 := forceOf_sz hf hall (gAt f cs j) (by rw [gAt_eq hj]; exact List.mem_map_of_mem (List.getElem_mem hj))
    have h3 : withinB (gAt f cs j) (-1000000000000000) 1000000000000000 = true := by simp [withinB]; omega
    rwa [h3] at h)
  have HW := Lib.hid (fun w1 (h : Ext w w1) => awake_any w1 (hs.ext h))
  have HS := Lib.hid (sections_any a m c)
  rw [show decide (m ≤ 14) = true by simp; omega] at HS
  have HC := Lib.hid (show ∀ w1, Ext w w1 → Calls Tryd.prog 28 #[.agg #[.slice a m c]] w1 (RetRd (fun s => .agg #[s]) 1 m (ints ls) w1) from fun w1 h =>
    (rCopyTrack_any (ints ls) a m c w1 (by omega) (hr.ext h) (one_ints ls)).mono fun _ _ ⟨a', c', he, hc, ho, hx⟩ => ⟨a', c', he, hc, Rd.of_own ho, hx⟩)
  have HCf := Lib.hid (show ∀ w1, Ext w w1 → Calls Tryd.prog 41 #[fV b m c2 f k] w1 (RetRd (fun s => .agg #[s, .int .i64 f.1, .int .i64 f.2, .int .i64 k]) 2 m (cells2 cs) w1) from fun w1 h =>
    (rCopyFeed_any (cells2 cs) b m c2 f k w1 (by omega) (hr2.ext h) (one_cells2 cs)).mono fun _ _ ⟨a', c', he, hc, ho, hx⟩ => ⟨a', c', he, hc, Rd.of_own ho, hx⟩)
  have HCv := Lib.hid (show ∀ w1, Ext w w1 → Calls Tryd.prog 17 #[.slice b m c2] w1 (RetRd (fun x => x) 2 m (cells2 cs) w1) from fun w1 h1 =>
    (rCopyVectors_any (cells2 cs) b m c2 w1 (by omega) (hr2.ext h1) (one_cells2 cs)).mono fun _ _ ⟨a', c', he, hc, ho, hx⟩ => ⟨a', c', he, hc, Rd.of_own ho, hx⟩)
  have HT := Lib.hid (fun w1 (h : Ext w w1) => rTrackErr_any ls a m c w1 hl (by omega) (hr.ext h))
  have HR := Lib.hid (fun w1 (h : Ext w w1) => rTrainErr_any ls a m c p q w1 hl (by omega) (hr.ext h))
  have HD := Lib.hid (show ∀ w1, Ext w w1 → Calls Tryd.prog 44 #[.agg #[.slice a m c], fV b m c2 f k] w1 fun e w' => e = .returned (.int .i64 (feedE m m cs f)) ∧ Ext w1 w' from fun w1 h => rFeedErr_any m m a b c c2 cs f k w1 hl2 (by omega) (hr2.ext h))
  have HMv := Lib.hid (fun w1 (h : Ext w w1) => rMoveErr_any ls a b m c m c2 p q f.1 f.2 k w1 hl (by omega) (hr.ext h))
  rw [e1] at HT
  rw [e2] at HR
  rw [e3] at HD
  rw [e4] at HMv
  have hm' : ¬ 14 < m := by omega
  have hv' : ¬ 40 < (k : Int) := by omega
  have HL := Lib.hid hl2
  have hgs := hNo.nn
  clear hl hl2 e1 e2 e3 e4 hE hp0 hq1 hq2 hpq hlens hpk hst hF hEv hall hf
  generalize forceL f (overL p q 0 ls) cs 0 = Fo at *
  generalize gsN (fun x => forceL f (overL x q 0 ls) cs 0) p k = Gs at *
  generalize evenB cs f = Ev at *
  have HNo := Lib.hid hNo
  clear hNo
  have hgs' : ¬ Gs < 0 := by omega
  go_enter Tryd.func12, Tryd.ntmps12
  go_wp2_with (first | (go_at_call 15; (with_reducible refine (HW.out _ (by ((repeat' (first | with_reducible exact Ext.refl _ | assumption | with_reducible exact Ext.one _ | with_reducible refine Ext.alloc ?_ _ | with_reducible refine Ext.setCell ?_ ?_ _ | with_reducible refine Ext.drew ?_ | refine Ext.trans ?_ (by assumption))) <;> (try simp) <;> omega))).mono ?_); rintro e w3 ⟨rfl, hx3⟩; obtain ⟨hc3, hf3⟩ := bcell hx3; have hzw3_0 : w.heap.size < w3.heap.size := (by have := hx3.size; (try simp at this); omega); have hzw3_1 : w.heap.size + 1 < w3.heap.size := (by have := hx3.size; (try simp at this); omega); have hzw3_2 : w.heap.size + 1 + 1 < w3.heap.size := (by have := hx3.size; (try simp at this); omega)) | (go_at_call 26; (with_reducible refine (HS.out _).mono ?_); rintro e w4 ⟨rfl, hx4⟩; obtain ⟨hc4, hf4⟩ := bcell hx4; have hzw4_0 : w.heap.size < w4.heap.size := (by have := hx4.size; (try simp at this); omega); have hzw4_1 : w.heap.size + 1 < w4.heap.size := (by have := hx4.size; (try simp at this); omega); have hzw4_2 : w.heap.size + 1 + 1 < w4.heap.size := (by have := hx4.size; (try simp at this); omega)) | (go_at_call 43; (with_reducible refine (HT.out _ (by ((repeat' (first | with_reducible exact Ext.refl _ | assumption | with_reducible exact Ext.one _ | with_reducible refine Ext.alloc ?_ _ | with_reducible refine Ext.setCell ?_ ?_ _ | with_reducible refine Ext.drew ?_ | refine Ext.trans ?_ (by assumption))) <;> (try simp) <;> omega))).mono ?_); rintro e w7 ⟨rfl, hx7⟩; obtain ⟨hc7, hf7⟩ := bcell hx7; have hzw7_0 : w.heap.size < w7.heap.size := (by have := hx7.size; (try simp at this); omega); have hzw7_1 : w.heap.size + 1 < w7.heap.size := (by have := hx7.size; (try simp at this); omega); have hzw7_2 : w.heap.size + 1 + 1 < w7.heap.size := (by have := hx7.size; (try simp at this); omega)) | (go_at_call 31; (with_reducible refine (HR.out _ (by ((repeat' (first | with_reducible exact Ext.refl _ | assumption | with_reducible exact Ext.one _ | with_reducible refine Ext.alloc ?_ _ | with_reducible refine Ext.setCell ?_ ?_ _ | with_reducible refine Ext.drew ?_ | refine Ext.trans ?_ (by assumption))) <;> (try simp) <;> omega))).mono ?_); rintro e w8 ⟨rfl, hx8⟩; obtain ⟨hc8, hf8⟩ := bcell hx8; have hzw8_0 : w.heap.size < w8.heap.size := (by have := hx8.size; (try simp at this); omega); have hzw8_1 : w.heap.size + 1 < w8.heap.size := (by have := hx8.size; (try simp at this); omega); have hzw8_2 : w.heap.size + 1 + 1 < w8.heap.size := (by have := hx8.size; (try simp at this); omega)) | (go_at_call 44; (with_reducible refine (HD.out _ (by ((repeat' (first | with_reducible exact Ext.refl _ | assumption | with_reducible exact Ext.one _ | with_reducible refine Ext.alloc ?_ _ | with_reducible refine Ext.setCell ?_ ?_ _ | with_reducible refine Ext.drew ?_ | refine Ext.trans ?_ (by assumption))) <;> (try simp) <;> omega))).mono ?_); rintro e w9 ⟨rfl, hx9⟩; obtain ⟨hc9, hf9⟩ := bcell hx9; have hzw9_0 : w.heap.size < w9.heap.size := (by have := hx9.size; (try simp at this); omega); have hzw9_1 : w.heap.size + 1 < w9.heap.size := (by have := hx9.size; (try simp at this); omega); have hzw9_2 : w.heap.size + 1 + 1 < w9.heap.size := (by have := hx9.size; (try simp at this); omega)) | (go_at_call 46; (with_reducible refine (HMv.out _ (by ((repeat' (first | with_reducible exact Ext.refl _ | assumption | with_reducible exact Ext.one _ | with_reducible refine Ext.alloc ?_ _ | with_reducible refine Ext.setCell ?_ ?_ _ | with_reducible refine Ext.drew ?_ | refine Ext.trans ?_ (by assumption))) <;> (try simp) <;> omega))).mono ?_); rintro e w10 ⟨rfl, hx10⟩; obtain ⟨hc10, hf10⟩ := bcell hx10; have hzw10_0 : w.heap.size < w10.heap.size := (by have := hx10.size; (try simp at this); omega); have hzw10_1 : w.heap.size + 1 < w10.heap.size := (by have := hx10.size; (try simp at this); omega); have hzw10_2 : w.heap.size + 1 + 1 < w10.heap.size := (by have := hx10.size; (try simp at this); omega)))
  apply wp_region_ext 11 [.is _, .rdW (fun s => .agg #[s]) 1 m (ints ls), .is _, .is _, .rdW (fun s => .agg #[s, .int .i64 f.1, .int .i64 f.2, .int .i64 k]) 2 m (cells2 cs), .is _, .is _, .is _, .is _, .is _, .is _] (by kernel_rfl) (by kernel_rfl) (by kernel_rfl) (fun V => ?steps) (fun V w11 hx_w11 hf_w11 => ?tail)
  case steps =>
    simp only [List.take, Region.binds, mode_text, mode_gc, if_true, true_and, Bool.false_eq_true, if_false, List.drop, StepsU, StepsG, putsAll, FactsAt, Fs, val, List.getD_cons_zero, List.getD_cons_succ, List.getD_nil, SF.is, SF.rd, SF.any, SF.box, Option.getD_some, Option.getD_none, Act.put, List.setIfInBounds_toArray, List.set_cons_zero, List.set_cons_succ, SF.rdW]
    refine ⟨?_, ?_, ?_, ?_, ?_, ?_, ?_, ?_, ?_, ?_, ?_, trivial⟩ <;> (intro w2 hx hf; obtain ⟨hc, hfz⟩ := bcell hx; go_simp; (try simp only [wrap_eq]); first
      | exact Post.mk rfl (Ext.refl _)
      | rfl
      | (refine Post.mk ?_ (Ext.refl _); (simp <;> omega); done)
      | exact Post.mk ⟨_, _, rfl, Nat.le_refl _, Rd.new _ _ _ _ _ rfl⟩ ((Ext.refl _).alloc _)
      | (refine Post.mk ⟨_, rfl, ?_, Bx.new _ _ _⟩ ((Ext.refl _).alloc _); have := hx.size; (try simp at this); (try simp); omega)
      | (with_reducible exact CallTo.rd (HC.out _ (by ((repeat' (first | with_reducible exact Ext.refl _ | assumption | with_reducible exact Ext.one _ | with_reducible refine Ext.alloc ?_ _ | with_reducible refine Ext.setCell ?_ ?_ _ | with_reducible refine Ext.drew ?_ | refine Ext.trans ?_ (by assumption))) <;> (try simp) <;> omega))))
      | (with_reducible exact CallTo.rd (HCf.out _ (by ((repeat' (first | with_reducible exact Ext.refl _ | assumption | with_reducible exact Ext.one _ | with_reducible refine Ext.alloc ?_ _ | with_reducible refine Ext.setCell ?_ ?_ _ | with_reducible refine Ext.drew ?_ | refine Ext.trans ?_ (by assumption))) <;> (try simp) <;> omega))))
      | (obtain ⟨a2, c3, e2, h2, h3⟩ : ∃ a2 c3, V 1 = .agg #[.slice a2 m c3] ∧ m ≤ c3 ∧ Rd w2 1 a2 m (ints ls) := (by first | exact hf.1 | exact hf.2.1 | exact hf.2.2.1 | exact hf.2.2.2.1); obtain ⟨a4, c4, e4, h4, h5⟩ : ∃ a4 c4, V 4 = .agg #[.slice a4 m c4, .int .i64 f.1, .int .i64 f.2, .int .i64 k] ∧ m ≤ c4 ∧ Rd w2 2 a4 m (cells2 cs) := (by first | exact hf.2.1 | exact hf.1 | exact hf.2.2.1 | exact hf.2.2.2.1); rw [e2, e4]; (with_reducible refine CallTo.of (HGs.out _ _ _ _ _ h3 h5) ?_); exact fun _ _ => rfl))
  case tail =>
  simp only [FactsTo, List.take, Region.binds, mode_text, mode_gc, if_true, true_and, Bool.false_eq_true, if_false, List.drop, StepsU, StepsG, putsAll, FactsAt, Fs, val, List.getD_cons_zero, List.getD_cons_succ, List.getD_nil, SF.is, SF.rd, SF.any, SF.box, Option.getD_some, Option.getD_none, Act.put, List.setIfInBounds_toArray, List.set_cons_zero, List.set_cons_succ, SF.rdW] at hf_w11 ⊢
  obtain ⟨hc_w11, hfz_w11⟩ := bcell hx_w11
  clear hf_w11
  have hzw11_0 : w.heap.size < w11.heap.size := (by have := hx_w11.size; (try simp at this); omega); have hzw11_1 : w.heap.size + 1 < w11.heap.size := (by have := hx_w11.size; (try simp at this); omega); have hzw11_2 : w.heap.size + 1 + 1 < w11.heap.size := (by have := hx_w11.size; (try simp at this); omega)
  go_wp2
  apply wp_region_ext 11 [.is _, .rdW (fun s => .agg #[s]) 1 m (ints ls), .is _, .is _, .rdW (fun s => .agg #[s, .int .i64 f.1, .int .i64 f.2, .int .i64 k]) 2 m (cells2 cs), .is _, .is _, .is _, .is _, .is _, .is _] (by kernel_rfl) (by kernel_rfl) (by kernel_rfl) (fun V => ?steps) (fun V w12 hx_w12 hf_w12 => ?tail)
  case steps =>
    simp only [List.take, Region.binds, mode_text, mode_gc, if_true, true_and, Bool.false_eq_true, if_false, List.drop, StepsU, StepsG, putsAll, FactsAt, Fs, val, List.getD_cons_zero, List.getD_cons_succ, List.getD_nil, SF.is, SF.rd, SF.any, SF.box, Option.getD_some, Option.getD_none, Act.put, List.setIfInBounds_toArray, List.set_cons_zero, List.set_cons_succ, SF.rdW]
    refine ⟨?_, ?_, ?_, ?_, ?_, ?_, ?_, ?_, ?_, ?_, ?_, trivial⟩ <;> (intro w2 hx hf; obtain ⟨hc, hfz⟩ := bcell hx; go_simp; (try simp only [wrap_eq]); first
      | exact Post.mk rfl (Ext.refl _)
      | rfl
      | (refine Post.mk ?_ (Ext.refl _); (simp <;> omega); done)
      | exact Post.mk ⟨_, _, rfl, Nat.le_refl _, Rd.new _ _ _ _ _ rfl⟩ ((Ext.refl _).alloc _)
      | (refine Post.mk ⟨_, rfl, ?_, Bx.new _ _ _⟩ ((Ext.refl _).alloc _); have := hx.size; (try simp at this); (try simp); omega)
      | (with_reducible exact CallTo.rd (HC.out _ (by ((repeat' (first | with_reducible exact Ext.refl _ | assumption | with_reducible exact Ext.one _ | with_reducible refine Ext.alloc ?_ _ | with_reducible refine Ext.setCell ?_ ?_ _ | with_reducible refine Ext.drew ?_ | refine Ext.trans ?_ (by assumption))) <;> (try simp) <;> omega))))
      | (with_reducible exact CallTo.rd (HCf.out _ (by ((repeat' (first | with_reducible exact Ext.refl _ | assumption | with_reducible exact Ext.one _ | with_reducible refine Ext.alloc ?_ _ | with_reducible refine Ext.setCell ?_ ?_ _ | with_reducible refine Ext.drew ?_ | refine Ext.trans ?_ (by assumption))) <;> (try simp) <;> omega))))
      | (obtain ⟨a2, c3, e2, h2, h3⟩ : ∃ a2 c3, V 1 = .agg #[.slice a2 m c3] ∧ m ≤ c3 ∧ Rd w2 1 a2 m (ints ls) := (by first | exact hf.1 | exact hf.2.1 | exact hf.2.2.1 | exact hf.2.2.2.1); obtain ⟨a4, c4, e4, h4, h5⟩ : ∃ a4 c4, V 4 = .agg #[.slice a4 m c4, .int .i64 f.1, .int .i64 f.2, .int .i64 k] ∧ m ≤ c4 ∧ Rd w2 2 a4 m (cells2 cs) := (by first | exact hf.2.1 | exact hf.1 | exact hf.2.2.1 | exact hf.2.2.2.1); rw [e2, e4]; (with_reducible refine CallTo.of (HFo.out _ _ _ _ _ h3 h5) ?_); exact fun _ _ => rfl))
  case tail =>
  simp only [FactsTo, List.take, Region.binds, mode_text, mode_gc, if_true, true_and, Bool.false_eq_true, if_false, List.drop, StepsU, StepsG, putsAll, FactsAt, Fs, val, List.getD_cons_zero, List.getD_cons_succ, List.getD_nil, SF.is, SF.rd, SF.any, SF.box, Option.getD_some, Option.getD_none, Act.put, List.setIfInBounds_toArray, List.set_cons_zero, List.set_cons_succ, SF.rdW] at hf_w12 ⊢
  obtain ⟨hc_w12, hfz_w12⟩ := bcell hx_w12
  clear hf_w12
  have hzw12_0 : w.heap.size < w12.heap.size := (by have := hx_w12.size; (try simp at this); omega); have hzw12_1 : w.heap.size + 1 < w12.heap.size := (by have := hx_w12.size; (try simp at this); omega); have hzw12_2 : w.heap.size + 1 + 1 < w12.heap.size := (by have := hx_w12.size; (try simp at this); omega)
  go_wp2
  apply wp_region_ext 11 [.is _, .is _, .rdW (fun x => x) 2 m (cells2 cs), .is _, .is _, .is _, .is _, .is _, .is _, .is _, .is _] (by kernel_rfl) (by kernel_rfl) (by kernel_rfl) (fun V => ?steps) (fun V w13 hx_w13 hf_w13 => ?tail)
  case steps =>
    simp only [List.take, Region.binds, mode_text, mode_gc, if_true, true_and, Bool.false_eq_true, if_false, List.drop, StepsU, StepsG, putsAll, FactsAt, Fs, val, List.getD_cons_zero, List.getD_cons_succ, List.getD_nil, SF.is, SF.rd, SF.any, SF.box, Option.getD_some, Option.getD_none, Act.put, List.setIfInBounds_toArray, List.set_cons_zero, List.set_cons_succ, SF.rdW]
    refine ⟨?_, ?_, ?_, ?_, ?_, ?_, ?_, ?_, ?_, ?_, ?_, trivial⟩ <;> (intro w2 hx hf; obtain ⟨hc, hfz⟩ := bcell hx; go_simp; (try simp only [wrap_eq]); first
      | exact Post.mk rfl (Ext.refl _)
      | rfl
      | (refine Post.mk ?_ (Ext.refl _); (simp <;> omega); done)
      | exact Post.mk ⟨_, _, rfl, Nat.le_refl _, Rd.new _ _ _ _ _ rfl⟩ ((Ext.refl _).alloc _)
      | (refine Post.mk ⟨_, rfl, ?_, Bx.new _ _ _⟩ ((Ext.refl _).alloc _); have := hx.size; (try simp at this); (try simp); omega)
      | (with_reducible exact CallTo.rd (HCv.out _ (by ((repeat' (first | with_reducible exact Ext.refl _ | assumption | with_reducible exact Ext.one _ | with_reducible refine Ext.alloc ?_ _ | with_reducible refine Ext.setCell ?_ ?_ _ | with_reducible refine Ext.drew ?_ | refine Ext.trans ?_ (by assumption))) <;> (try simp) <;> omega))))
      | (obtain ⟨a2, c3, e2, h2, h3⟩ : ∃ a2 c3, V 2 = .slice a2 m c3 ∧ m ≤ c3 ∧ Rd w2 2 a2 m (cells2 cs) := (by first | exact hf | exact hf.1 | exact hf.2 | exact hf.2.1 | exact hf.2.2.1 | exact hf.2.2 | exact hf.2.2.2.1); rw [e2]; (with_reducible refine CallTo.of (HEv.out _ _ _ h3) ?_); exact fun _ _ => rfl))
  case tail =>
  simp only [FactsTo, List.take, Region.binds, mode_text, mode_gc, if_true, true_and, Bool.false_eq_true, if_false, List.drop, StepsU, StepsG, putsAll, FactsAt, Fs, val, List.getD_cons_zero, List.getD_cons_succ, List.getD_nil, SF.is, SF.rd, SF.any, SF.box, Option.getD_some, Option.getD_none, Act.put, List.setIfInBounds_toArray, List.set_cons_zero, List.set_cons_succ, SF.rdW] at hf_w13 ⊢
  obtain ⟨hc_w13, hfz_w13⟩ := bcell hx_w13
  clear hf_w13
  have hzw13_0 : w.heap.size < w13.heap.size := (by have := hx_w13.size; (try simp at this); omega); have hzw13_1 : w.heap.size + 1 < w13.heap.size := (by have := hx_w13.size; (try simp at this); omega); have hzw13_2 : w.heap.size + 1 + 1 < w13.heap.size := (by have := hx_w13.size; (try simp at this); omega)
  go_wp2
  have hbf : Bx w13 (w.heap.size + 1 + 1) 66 #[.slice b m c2, .int .i64 f.1, .int .i64 f.2, .int .i64 k] := by (repeat' (first | exact Bx.new _ _ _ | exact Bx.new_at _ _ (by simp; done) | refine Bx.alloc ?_ _ | refine Bx.ext ?_ (by assumption)))
  have hbt : Bx w13 (w.heap.size + 1) 44 #[.int .i64 p, .int .i64 q] := by (repeat' (first | exact Bx.new _ _ _ | exact Bx.new_at _ _ (by simp; done) | refine Bx.alloc ?_ _ | refine Bx.ext ?_ (by assumption)))
  have hx13 : Ext w w13 := by ((repeat' (first | with_reducible exact Ext.refl _ | assumption | with_reducible exact Ext.one _ | with_reducible refine Ext.alloc ?_ _ | with_reducible refine Ext.setCell ?_ ?_ _ | with_reducible refine Ext.drew ?_ | refine Ext.trans ?_ (by assumption))) <;> (try simp) <;> omega)
  clear HC HCf HCv HFo HGs HEv HW HS HT HR HD HMv
  go_loopw [13, 14, 15] (fun lo hi i wr => ∃ j : Nat, j ≤ m ∧ i = .int .i64 j ∧ lo = .int .i64 (loN (gAt f cs) j) ∧ hi = .int .i64 (hiN (gAt f cs) j) ∧ Ext w13 wr) (fun _ _ i _ => m - (intOf i).toNat)
  case atStart => exact ⟨0, Nat.zero_le _, rfl, rfl, rfl, Ext.refl _⟩
  case round =>
    obtain ⟨j, hj, rfl, rfl, rfl, hx⟩ := hrel
    have hbf' := hbf.ext hx
    have hbt' := hbt.ext hx
    have y0 : wr.cell? ⟨w.heap.size + 1 + 1, 0, none⟩ = some (.slice b m c2) := hbf'.cell 0
    have y1 : wr.cell? ⟨w.heap.size + 1 + 1, 1, none⟩ = some (.int .i64 f.1) := hbf'.cell 1
    have y2 : wr.cell? ⟨w.heap.size + 1 + 1, 2, none⟩ = some (.int .i64 f.2) := hbf'.cell 2
    have y4 := hbf'.lt
    have t1 : wr.cell? ⟨w.heap.size + 1, 1, none⟩ = some (.int .i64 q) := hbt'.cell 1
    have t4 := hbt'.lt
    by_cases hlt : j < m
    · obtain ⟨g2, o2, rfl, hrow2⟩ := (hr2.ext (hx13.trans hx)).2 (by omega)
      have hg2 := hrow2.1
      have hk2 : j < cs.length := by rw [HL.out]; exact hlt
      have d0 := hrow2.at (cells2_get0 hk2)
      have d1 := hrow2.at' (cells2_get1 hk2)
      have HF := Lib.hid (HFk.out j hk2)
      have HB := Lib.hid (HBk.out j hk2)
      have hlo : Hid (loN (gAt f cs) (j + 1) = if j = 0 then gAt f cs 0 else min (loN (gAt f cs) j) (gAt f cs j)) := rfl
      have hhi : Hid (hiN (gAt f cs) (j + 1) = if j = 0 then gAt f cs 0 else max (hiN (gAt f cs) j) (gAt f cs j)) := rfl
      go_wp2
      apply wp_region_ext 13 [.is _, .is _, .is _, .is _, .is _, .is _, .is _, .is _, .is _, .is _, .is _, .is _, .is _] (by kernel_rfl) (by kernel_rfl) (by kernel_rfl) (fun V => ?steps) (fun V w14 hx_w14 hf_w14 => ?tail)
      case steps =>
        simp only [List.take, Region.binds, mode_text, mode_gc, if_true, true_and, Bool.false_eq_true, if_false, List.drop, StepsU, StepsG, putsAll, FactsAt, Fs, val, List.getD_cons_zero, List.getD_cons_succ, List.getD_nil, SF.is, SF.rd, SF.any, SF.box, Option.getD_some, Option.getD_none, Act.put, List.setIfInBounds_toArray, List.set_cons_zero, List.set_cons_succ]
        refine ⟨?_, ?_, ?_, ?_, ?_, ?_, ?_, ?_, ?_, ?_, ?_, ?_, ?_, trivial⟩ <;> (intro w2 hx hf; obtain ⟨hc, hfz⟩ := bcell hx; go_simp; (try simp only [wrap_eq]); first
          | exact Post.mk rfl (Ext.refl _)
          | rfl
          | (refine Post.mk ?_ (Ext.refl _); (simp <;> omega); done)
          | exact Post.mk ⟨_, _, rfl, Nat.le_refl _, Rd.new _ _ _ _ _ rfl⟩ ((Ext.refl _).alloc _)
          | (refine Post.mk ⟨_, rfl, ?_, Bx.new _ _ _⟩ ((Ext.refl _).alloc _); have := hx.size; (try simp at this); (try simp); omega)
          | ((with_reducible refine CallTo.of (HF.out _) ?_); exact fun _ _ => rfl))
      case tail =>
      simp only [FactsTo, List.take, Region.binds, mode_text, mode_gc, if_true, true_and, Bool.false_eq_true, if_false, List.drop, StepsU, StepsG, putsAll, FactsAt, Fs, val, List.getD_cons_zero, List.getD_cons_succ, List.getD_nil, SF.is, SF.rd, SF.any, SF.box, Option.getD_some, Option.getD_none, Act.put, List.setIfInBounds_toArray, List.set_cons_zero, List.set_cons_succ] at hf_w14 ⊢
      obtain ⟨hc_w14, hfz_w14⟩ := bcell hx_w14
      clear hf_w14
      go_wp2_with (first | (go_at_call 22; (with_reducible refine (HB.out _).mono ?_); rintro e wz ⟨rfl, rfl⟩))
      all_goals
        go_roundw
        case rel =>
          (repeat apply Exists.intro)
          refine ⟨⟨j + 1, by omega, by go_num, by rw [hlo.out]; (try simp_all), by rw [hhi.out]; (try simp_all), hx.trans hx_w14⟩, rfl⟩
        case measure => simp [intOf]; omega
    · obtain rfl : j = m := by omega
      obtain ⟨n1, n2, n3, n4, n5⟩ := HNo.out
      generalize loN (gAt f cs) j = lo at *
      generalize hiN (gAt f cs) j = hi at *
      by_cases he : lo = hi
      · obtain ⟨n6, n7⟩ := n5 he
        subst he
        subst n6
        obtain rfl : Ev = true := by simpa using n4
        have n8 : wrap64 (lo - lo) = 0 := by rw [n3]; omega
        clear n3 n4 n5
        go_wp2
        go_ret
        exact ⟨ret_bool (by first | rfl | simp [n7] | simp_all), hx13.trans hx⟩
      · obtain rfl : Ev = false := by simpa [he] using n4
        clear n4 n5
        have n9 : ¬ (hi - lo) < Gs := by omega
        have n10 : (lo == hi) = false := by simp [he]
        go_wp2
        go_ret
        exact ⟨ret_bool (by first | rfl | simp_all), hx13.trans hx⟩
end Go.Proofs.YtdbglpaejmhbjaaDoor
