/- StatorOnTrack's walk. -/
import Derived.Test.YtdbglpaejmhbjaaDoorG3
import Derived.Test.YtdbglpaejmhbjaaDoorW15
namespace Go.Proofs.YtdbglpaejmhbjaaDoor
open Go Go.RowKit Go.Proofs
set_option linter.unusedSimpArgs false
set_option linter.unusedVariables false

set_option maxRecDepth 100000 in
set_option maxHeartbeats 1000000 in
theorem statorOnTrack_far (a : Option Addr) (n c : Nat) (p q : Int) (b : Option Addr) (m c2 : Nat) (f : T2) (mv : Int) (w : World) (hs : Sts w) (h : 14 < n ∨ 14 < m ∨ (40 < mv ∧ mv ≤ 2000)) :
    Calls Tryd.prog 7 #[.agg #[.slice a n c], .agg #[.int .i64 p, .int .i64 q], fV b m c2 f mv] w fun e w' => e = .returned (.bool true) ∧ Ext w w' := by
  have HW := Lib.hid (fun w1 (h : Ext w w1) => awake_any w1 (hs.ext h))
  have HS := Lib.hid (sections_any a n c)
  by_cases h1 : 14 < n
  · rw [show decide (n ≤ 14) = false by simp; omega] at HS
    clear h
    go_enter Tryd.func7, Tryd.ntmps7
    go_wp2_with (first | (go_at_call 15; (with_reducible refine (HW.out _ (by ((repeat' (first | with_reducible exact Ext.refl _ | assumption | with_reducible exact Ext.one _ | with_reducible refine Ext.alloc ?_ _ | with_reducible refine Ext.setCell ?_ ?_ _ | with_reducible refine Ext.drew ?_ | refine Ext.trans ?_ (by assumption))) <;> (try simp) <;> omega))).mono ?_); rintro e w3 ⟨rfl, hx3⟩; obtain ⟨hc3, hf3⟩ := bcell hx3; have hzw3_0 : w.heap.size < w3.heap.size := (by have := hx3.size; (try simp at this); omega); have hzw3_1 : w.heap.size + 1 < w3.heap.size := (by have := hx3.size; (try simp at this); omega); have hzw3_2 : w.heap.size + 1 + 1 < w3.heap.size := (by have := hx3.size; (try simp at this); omega)) | (go_at_call 26; (with_reducible refine (HS.out _).mono ?_); rintro e w4 ⟨rfl, hx4⟩; obtain ⟨hc4, hf4⟩ := bcell hx4; have hzw4_0 : w.heap.size < w4.heap.size := (by have := hx4.size; (try simp at this); omega); have hzw4_1 : w.heap.size + 1 < w4.heap.size := (by have := hx4.size; (try simp at this); omega); have hzw4_2 : w.heap.size + 1 + 1 < w4.heap.size := (by have := hx4.size; (try simp at this); omega)))
    go_ret
    exact ⟨rfl, by ((repeat' (first | with_reducible exact Ext.refl _ | assumption | with_reducible exact Ext.one _ | with_reducible refine Ext.alloc ?_ _ | with_reducible refine Ext.setCell ?_ ?_ _ | with_reducible refine Ext.drew ?_ | refine Ext.trans ?_ (by assumption))) <;> (try simp) <;> omega)⟩
  · rw [show decide (n ≤ 14) = true by simp; omega] at HS
    by_cases h2 : 14 < m
    · clear h
      go_enter Tryd.func7, Tryd.ntmps7
      go_wp2_with (first | (go_at_call 15; (with_reducible refine (HW.out _ (by ((repeat' (first | with_reducible exact Ext.refl _ | assumption | with_reducible exact Ext.one _ | with_reducible refine Ext.alloc ?_ _ | with_reducible refine Ext.setCell ?_ ?_ _ | with_reducible refine Ext.drew ?_ | refine Ext.trans ?_ (by assumption))) <;> (try simp) <;> omega))).mono ?_); rintro e w3 ⟨rfl, hx3⟩; obtain ⟨hc3, hf3⟩ := bcell hx3; have hzw3_0 : w.heap.size < w3.heap.size := (by have := hx3.size; (try simp at this); omega); have hzw3_1 : w.heap.size + 1 < w3.heap.size := (by have := hx3.size; (try simp at this); omega); have hzw3_2 : w.heap.size + 1 + 1 < w3.heap.size := (by have := hx3.size; (try simp at this); omega)) | (go_at_call 26; (with_reducible refine (HS.out _).mono ?_); rintro e w4 ⟨rfl, hx4⟩; obtain ⟨hc4, hf4⟩ := bcell hx4; have hzw4_0 : w.heap.size < w4.heap.size := (by have := hx4.size; (try simp at this); omega); have hzw4_1 : w.heap.size + 1 < w4.heap.size := (by have := hx4.size; (try simp at this); omega); have hzw4_2 : w.heap.size + 1 + 1 < w4.heap.size := (by have := hx4.size; (try simp at this); omega)))
      go_ret
      exact ⟨rfl, by ((repeat' (first | with_reducible exact Ext.refl _ | assumption | with_reducible exact Ext.one _ | with_reducible refine Ext.alloc ?_ _ | with_reducible refine Ext.setCell ?_ ?_ _ | with_reducible refine Ext.drew ?_ | refine Ext.trans ?_ (by assumption))) <;> (try simp) <;> omega)⟩
    · have h3 : 40 < mv ∧ mv ≤ 2000 := by omega
      obtain ⟨h3, h4⟩ := h3
      have h2' : m ≤ 14 := by omega
      clear h
      go_enter Tryd.func7, Tryd.ntmps7
      go_wp2_with (first | (go_at_call 15; (with_reducible refine (HW.out _ (by ((repeat' (first | with_reducible exact Ext.refl _ | assumption | with_reducible exact Ext.one _ | with_reducible refine Ext.alloc ?_ _ | with_reducible refine Ext.setCell ?_ ?_ _ | with_reducible refine Ext.drew ?_ | refine Ext.trans ?_ (by assumption))) <;> (try simp) <;> omega))).mono ?_); rintro e w3 ⟨rfl, hx3⟩; obtain ⟨hc3, hf3⟩ := bcell hx3; have hzw3_0 : w.heap.size < w3.heap.size := (by have := hx3.size; (try simp at this); omega); have hzw3_1 : w.heap.size + 1 < w3.heap.size := (by have := hx3.size; (try simp at this); omega); have hzw3_2 : w.heap.size + 1 + 1 < w3.heap.size := (by have := hx3.size; (try simp at this); omega)) | (go_at_call 26; (with_reducible refine (HS.out _).mono ?_); rintro e w4 ⟨rfl, hx4⟩; obtain ⟨hc4, hf4⟩ := bcell hx4; have hzw4_0 : w.heap.size < w4.heap.size := (by have := hx4.size; (try simp at this); omega); have hzw4_1 : w.heap.size + 1 < w4.heap.size := (by have := hx4.size; (try simp at this); omega); have hzw4_2 : w.heap.size + 1 + 1 < w4.heap.size := (by have := hx4.size; (try simp at this); omega)))
      go_ret
      exact ⟨rfl, by ((repeat' (first | with_reducible exact Ext.refl _ | assumption | with_reducible exact Ext.one _ | with_reducible refine Ext.alloc ?_ _ | with_reducible refine Ext.setCell ?_ ?_ _ | with_reducible refine Ext.drew ?_ | refine Ext.trans ?_ (by assumption))) <;> (try simp) <;> omega)⟩

def feedE (n m : Nat) (cs : List T2) (f : T2) : Int := if m ≠ n then 10 else if unlessE (cs.all rightB) 2 ≠ 0 then unlessE (cs.all rightB) 2 else unlessE (rightB f) 2
theorem openFeed_eq {n : Nat} {ls : List Int} {p q : Int} {m : Nat} {cs : List T2} {f : T2} :
    openFeedE n ls p q m cs f = if (trackC n ls).2 ≠ 0 then (trackC n ls).2 else if trainE ls p q ≠ 0 then trainE ls p q else feedE n m cs f := by
  by_cases h1 : (trackC n ls).2 = 0
  · rw [if_neg (by omega)]
    unfold openFeedE
    rw [openE_eq h1]
    by_cases h2 : trainE ls p q = 0
    · rw [if_neg (by omega), h2]
      unfold feedE
      by_cases h3 : m = n
      · subst h3
        cases cs.all rightB <;> cases rightB f <;> simp [firstE, unlessE]
      · simp [firstE, unlessE, h3]
    · rw [if_pos h2]
      simp [firstE, h2]
  · rw [if_pos h1]
    unfold openFeedE openE
    rw [if_neg h1]
    simp [firstE, h1]
/-- The first part of the law: both calls, their results given. -/
structure OnT (ls : List Int) (n : Nat) (p q : Int) (m : Nat) (cs : List T2) (f : T2) (mv Fo D Gs G : Int) (w : World) : Prop where
  fo : ∀ (w1 : World) (a' : Option Addr) (c' : Nat) (b' : Option Addr) (c2' : Nat), Rd w1 1 a' n (ints ls) → Rd w1 2 b' m (cells2 cs) → Calls Tryd.prog 40 #[.agg #[.slice a' n c'], .agg #[.int .i64 p, .int .i64 q], fV b' m c2' f mv] w1 fun e w' => e = .returned (.tuple #[.int .i64 Fo, .int .i64 D]) ∧ Ext w1 w'
  gs : ∀ (w1 : World) (a' : Option Addr) (c' : Nat) (b' : Option Addr) (c2' : Nat), Rd w1 1 a' n (ints ls) → Rd w1 2 b' m (cells2 cs) → Calls Tryd.prog 42 #[.agg #[.slice a' n c'], .agg #[.int .i64 p, .int .i64 q], fV b' m c2' f mv] w1 fun e w' => e = .returned (.tuple #[.int .i64 Gs, .int .i64 G]) ∧ Ext w1 w'

set_option maxRecDepth 100000 in
set_option maxHeartbeats 4000000 in
theorem statorOnTrack_err (ls : List Int) (a : Option Addr) (n c : Nat) (p q : Int) (cs : List T2) (b : Option Addr) (m c2 : Nat) (f : T2) (mv : Int) (w : World) (hs : Sts w) (hl : ls.length = n) (hl2 : cs.length = m) (hn : n ≤ 14) (hm : m ≤ 14) (hmv : mv ≤ 40 ∨ 2000 < mv) (hr : Rd w 1 a n (ints ls)) (hr2 : Rd w 2 b m (cells2 cs)) (hE : openFeedE n ls p q m cs f ≠ 0) :
    Calls Tryd.prog 7 #[.agg #[.slice a n c], .agg #[.int .i64 p, .int .i64 q], fV b m c2 f mv] w fun e w' => e = .returned (.bool true) ∧ Ext w w' := by
  have hO : OnT ls n p q m cs f mv 0 (openFeedE n ls p q m cs f) 0 (openFeedE n ls p q m cs f) w := by
    have hst : stepE n ls p q m cs f mv = openFeedE n ls p q m cs f := by unfold stepE; simp [firstE, hE]
    refine ⟨fun w1 a' c' b' c2' h1 h2 => ?_, fun w1 a' c' b' c2' h1 h2 => ?_⟩
    · have h := forceAt_any ls a' n c' p q cs b' m c2' f mv w1 hl hl2 (by omega) (by omega) h1 h2
      rwa [if_neg hE] at h
    · have h := greatestStep_err ls a' n c' p q cs b' m c2' f mv w1 hl hl2 (by omega) (by omega) h1 h2 (by rw [hst]; exact hE)
      rwa [hst] at h
  have HFo := Lib.hid hO.fo
  have HGs := Lib.hid hO.gs
  have HW := Lib.hid (fun w1 (h : Ext w w1) => awake_any w1 (hs.ext h))
  have HS := Lib.hid (sections_any a n c)
  rw [show decide (n ≤ 14) = true by simp; omega] at HS
  have HC := Lib.hid (show ∀ w1, Ext w w1 → Calls Tryd.prog 28 #[.agg #[.slice a n c]] w1 (RetRd (fun s => .agg #[s]) 1 n (ints ls) w1) from fun w1 h =>
    (rCopyTrack_any (ints ls) a n c w1 (by omega) (hr.ext h) (one_ints ls)).mono fun _ _ ⟨a', c', he, hc, ho, hx⟩ => ⟨a', c', he, hc, Rd.of_own ho, hx⟩)
  have HCf := Lib.hid (show ∀ w1, Ext w w1 → Calls Tryd.prog 41 #[fV b m c2 f mv] w1 (RetRd (fun s => .agg #[s, .int .i64 f.1, .int .i64 f.2, .int .i64 mv]) 2 m (cells2 cs) w1) from fun w1 h =>
    (rCopyFeed_any (cells2 cs) b m c2 f mv w1 (by omega) (hr2.ext h) (one_cells2 cs)).mono fun _ _ ⟨a', c', he, hc, ho, hx⟩ => ⟨a', c', he, hc, Rd.of_own ho, hx⟩)
  have HT := Lib.hid (fun w1 (h : Ext w w1) => rTrackErr_any ls a n c w1 hl (by omega) (hr.ext h))
  have HR := Lib.hid (fun w1 (h : Ext w w1) => rTrainErr_any ls a n c p q w1 hl (by omega) (hr.ext h))
  have HD := Lib.hid (show ∀ w1, Ext w w1 → Calls Tryd.prog 44 #[.agg #[.slice a n c], fV b m c2 f mv] w1 fun e w' => e = .returned (.int .i64 (feedE n m cs f)) ∧ Ext w1 w' from fun w1 h => rFeedErr_any m n a b c c2 cs f mv w1 hl2 (by omega) (hr2.ext h))
  have heq := openFeed_eq (n := n) (ls := ls) (p := p) (q := q) (m := m) (cs := cs) (f := f)
  have hg : (40 < mv ∧ ¬ mv ≤ 2000) ∨ mv ≤ 40 := by omega
  have hm' : ¬ 14 < m := by omega
  clear hl hl2 hO
  generalize openFeedE n ls p q m cs f = O at *
  generalize (trackC n ls).2 = E1 at *
  generalize trainE ls p q = E2 at *
  generalize feedE n m cs f = E3 at *
  have hO1 : (O == 0) = false := by simp [hE]
  have hO2 : (O != 0) = true := by simp [hE]
  have cases3 : (E1 = O) ∨ (E1 = 0 ∧ E2 = O) ∨ (E1 = 0 ∧ E2 = 0 ∧ E3 = O) := by
    rw [heq] at hE
    by_cases h1 : E1 = 0
    · rw [if_neg (by omega)] at heq
      by_cases h2 : E2 = 0
      · rw [if_neg (by omega)] at heq; exact .inr (.inr ⟨h1, h2, heq.symm⟩)
      · rw [if_pos h2] at heq; exact .inr (.inl ⟨h1, heq.symm⟩)
    · rw [if_pos h1] at heq; exact .inl heq.symm
  clear heq hE hmv
  rcases hg with ⟨g1, g2⟩ | g1 <;> rcases cases3 with rfl | ⟨rfl, rfl⟩ | ⟨rfl, rfl, rfl⟩
  all_goals
    go_enter Tryd.func7, Tryd.ntmps7
    go_wp2_with (first | (go_at_call 15; (with_reducible refine (HW.out _ (by ((repeat' (first | with_reducible exact Ext.refl _ | assumption | with_reducible exact Ext.one _ | with_reducible refine Ext.alloc ?_ _ | with_reducible refine Ext.setCell ?_ ?_ _ | with_reducible refine Ext.drew ?_ | refine Ext.trans ?_ (by assumption))) <;> (try simp) <;> omega))).mono ?_); rintro e w3 ⟨rfl, hx3⟩; obtain ⟨hc3, hf3⟩ := bcell hx3; have hzw3_0 : w.heap.size < w3.heap.size := (by have := hx3.size; (try simp at this); omega); have hzw3_1 : w.heap.size + 1 < w3.heap.size := (by have := hx3.size; (try simp at this); omega); have hzw3_2 : w.heap.size + 1 + 1 < w3.heap.size := (by have := hx3.size; (try simp at this); omega)) | (go_at_call 26; (with_reducible refine (HS.out _).mono ?_); rintro e w4 ⟨rfl, hx4⟩; obtain ⟨hc4, hf4⟩ := bcell hx4; have hzw4_0 : w.heap.size < w4.heap.size := (by have := hx4.size; (try simp at this); omega); have hzw4_1 : w.heap.size + 1 < w4.heap.size := (by have := hx4.size; (try simp at this); omega); have hzw4_2 : w.heap.size + 1 + 1 < w4.heap.size := (by have := hx4.size; (try simp at this); omega)))
    apply wp_region_ext 11 [.is _, .rdW (fun s => .agg #[s]) 1 n (ints ls), .is _, .is _, .rdW (fun s => .agg #[s, .int .i64 f.1, .int .i64 f.2, .int .i64 mv]) 2 m (cells2 cs), .is _, .is _, .is _, .is _, .is _, .is _] (by kernel_rfl) (by kernel_rfl) (by kernel_rfl) (fun V => ?steps) (fun V w5 hx_w5 hf_w5 => ?tail)
    case steps =>
      simp only [List.take, Region.binds, mode_text, mode_gc, if_true, true_and, Bool.false_eq_true, if_false, List.drop, StepsU, StepsG, putsAll, FactsAt, Fs, val, List.getD_cons_zero, List.getD_cons_succ, List.getD_nil, SF.is, SF.rd, SF.any, SF.box, Option.getD_some, Option.getD_none, Act.put, List.setIfInBounds_toArray, List.set_cons_zero, List.set_cons_succ, SF.rdW]
      refine ⟨?_, ?_, ?_, ?_, ?_, ?_, ?_, ?_, ?_, ?_, ?_, trivial⟩ <;> (intro w2 hx hf; obtain ⟨hc, hfz⟩ := bcell hx; go_simp; (try simp only [wrap_eq]); first
        | exact Post.mk rfl (Ext.refl _)
        | rfl
        | (refine Post.mk ?_ (Ext.refl _); (simp <;> omega); done)
        | exact Post.mk ⟨_, _, rfl, Nat.le_refl _, Rd.new _ _ _ _ _ rfl⟩ ((Ext.refl _).alloc _)
        | (refine Post.mk ⟨_, rfl, ?_, Bx.new _ _ _⟩ ((Ext.refl _).alloc _); have := hx.size; (try simp at this); (try simp); omega)
        | (with_reducible exact CallTo.rd (HC.out _ (by ((repeat' (first | with_reducible exact Ext.refl _ | assumption | with_reducible exact Ext.one _ | with_reducible refine Ext.alloc ?_ _ | with_reducible refine Ext.setCell ?_ ?_ _ | with_reducible refine Ext.drew ?_ | refine Ext.trans ?_ (by assumption))) <;> (try simp) <;> omega))))
        | (with_reducible exact CallTo.rd (HCf.out _ (by ((repeat' (first | with_reducible exact Ext.refl _ | assumption | with_reducible exact Ext.one _ | with_reducible refine Ext.alloc ?_ _ | with_reducible refine Ext.setCell ?_ ?_ _ | with_reducible refine Ext.drew ?_ | refine Ext.trans ?_ (by assumption))) <;> (try simp) <;> omega))))
        | (obtain ⟨a2, c3, e2, h2, h3⟩ : ∃ a2 c3, V 1 = .agg #[.slice a2 n c3] ∧ n ≤ c3 ∧ Rd w2 1 a2 n (ints ls) := (by first | exact hf.1 | exact hf.2.1 | exact hf.2.2.1 | exact hf.2.2.2.1); obtain ⟨a4, c4, e4, h4, h5⟩ : ∃ a4 c4, V 4 = .agg #[.slice a4 m c4, .int .i64 f.1, .int .i64 f.2, .int .i64 mv] ∧ m ≤ c4 ∧ Rd w2 2 a4 m (cells2 cs) := (by first | exact hf.2.1 | exact hf.1 | exact hf.2.2.1 | exact hf.2.2.2.1); rw [e2, e4]; (with_reducible refine CallTo.of (HFo.out _ _ _ _ _ h3 h5) ?_); exact fun _ _ => rfl))
    case tail =>
    simp only [FactsTo, List.take, Region.binds, mode_text, mode_gc, if_true, true_and, Bool.false_eq_true, if_false, List.drop, StepsU, StepsG, putsAll, FactsAt, Fs, val, List.getD_cons_zero, List.getD_cons_succ, List.getD_nil, SF.is, SF.rd, SF.any, SF.box, Option.getD_some, Option.getD_none, Act.put, List.setIfInBounds_toArray, List.set_cons_zero, List.set_cons_succ, SF.rdW] at hf_w5 ⊢
    obtain ⟨hc_w5, hfz_w5⟩ := bcell hx_w5
    clear hf_w5
    have hzw5_0 : w.heap.size < w5.heap.size := (by have := hx_w5.size; (try simp at this); omega); have hzw5_1 : w.heap.size + 1 < w5.heap.size := (by have := hx_w5.size; (try simp at this); omega); have hzw5_2 : w.heap.size + 1 + 1 < w5.heap.size := (by have := hx_w5.size; (try simp at this); omega)
    go_wp2
    apply wp_region_ext 11 [.is _, .rdW (fun s => .agg #[s]) 1 n (ints ls), .is _, .is _, .rdW (fun s => .agg #[s, .int .i64 f.1, .int .i64 f.2, .int .i64 mv]) 2 m (cells2 cs), .is _, .is _, .is _, .is _, .is _, .is _] (by kernel_rfl) (by kernel_rfl) (by kernel_rfl) (fun V => ?steps) (fun V w6 hx_w6 hf_w6 => ?tail)
    case steps =>
      simp only [List.take, Region.binds, mode_text, mode_gc, if_true, true_and, Bool.false_eq_true, if_false, List.drop, StepsU, StepsG, putsAll, FactsAt, Fs, val, List.getD_cons_zero, List.getD_cons_succ, List.getD_nil, SF.is, SF.rd, SF.any, SF.box, Option.getD_some, Option.getD_none, Act.put, List.setIfInBounds_toArray, List.set_cons_zero, List.set_cons_succ, SF.rdW]
      refine ⟨?_, ?_, ?_, ?_, ?_, ?_, ?_, ?_, ?_, ?_, ?_, trivial⟩ <;> (intro w2 hx hf; obtain ⟨hc, hfz⟩ := bcell hx; go_simp; (try simp only [wrap_eq]); first
        | exact Post.mk rfl (Ext.refl _)
        | rfl
        | (refine Post.mk ?_ (Ext.refl _); (simp <;> omega); done)
        | exact Post.mk ⟨_, _, rfl, Nat.le_refl _, Rd.new _ _ _ _ _ rfl⟩ ((Ext.refl _).alloc _)
        | (refine Post.mk ⟨_, rfl, ?_, Bx.new _ _ _⟩ ((Ext.refl _).alloc _); have := hx.size; (try simp at this); (try simp); omega)
        | (with_reducible exact CallTo.rd (HC.out _ (by ((repeat' (first | with_reducible exact Ext.refl _ | assumption | with_reducible exact Ext.one _ | with_reducible refine Ext.alloc ?_ _ | with_reducible refine Ext.setCell ?_ ?_ _ | with_reducible refine Ext.drew ?_ | refine Ext.trans ?_ (by assumption))) <;> (try simp) <;> omega))))
        | (with_reducible exact CallTo.rd (HCf.out _ (by ((repeat' (first | with_reducible exact Ext.refl _ | assumption | with_reducible exact Ext.one _ | with_reducible refine Ext.alloc ?_ _ | with_reducible refine Ext.setCell ?_ ?_ _ | with_reducible refine Ext.drew ?_ | refine Ext.trans ?_ (by assumption))) <;> (try simp) <;> omega))))
        | (obtain ⟨a2, c3, e2, h2, h3⟩ : ∃ a2 c3, V 1 = .agg #[.slice a2 n c3] ∧ n ≤ c3 ∧ Rd w2 1 a2 n (ints ls) := (by first | exact hf.1 | exact hf.2.1 | exact hf.2.2.1 | exact hf.2.2.2.1); obtain ⟨a4, c4, e4, h4, h5⟩ : ∃ a4 c4, V 4 = .agg #[.slice a4 m c4, .int .i64 f.1, .int .i64 f.2, .int .i64 mv] ∧ m ≤ c4 ∧ Rd w2 2 a4 m (cells2 cs) := (by first | exact hf.2.1 | exact hf.1 | exact hf.2.2.1 | exact hf.2.2.2.1); rw [e2, e4]; (with_reducible refine CallTo.of (HGs.out _ _ _ _ _ h3 h5) ?_); exact fun _ _ => rfl))
    case tail =>
    simp only [FactsTo, List.take, Region.binds, mode_text, mode_gc, if_true, true_and, Bool.false_eq_true, if_false, List.drop, StepsU, StepsG, putsAll, FactsAt, Fs, val, List.getD_cons_zero, List.getD_cons_succ, List.getD_nil, SF.is, SF.rd, SF.any, SF.box, Option.getD_some, Option.getD_none, Act.put, List.setIfInBounds_toArray, List.set_cons_zero, List.set_cons_succ, SF.rdW] at hf_w6 ⊢
    obtain ⟨hc_w6, hfz_w6⟩ := bcell hx_w6
    clear hf_w6
    have hzw6_0 : w.heap.size < w6.heap.size := (by have := hx_w6.size; (try simp at this); omega); have hzw6_1 : w.heap.size + 1 < w6.heap.size := (by have := hx_w6.size; (try simp at this); omega); have hzw6_2 : w.heap.size + 1 + 1 < w6.heap.size := (by have := hx_w6.size; (try simp at this); omega)
    go_wp2_with (first | (go_at_call 43; (with_reducible refine (HT.out _ (by ((repeat' (first | with_reducible exact Ext.refl _ | assumption | with_reducible exact Ext.one _ | with_reducible refine Ext.alloc ?_ _ | with_reducible refine Ext.setCell ?_ ?_ _ | with_reducible refine Ext.drew ?_ | refine Ext.trans ?_ (by assumption))) <;> (try simp) <;> omega))).mono ?_); rintro e w7 ⟨rfl, hx7⟩; obtain ⟨hc7, hf7⟩ := bcell hx7; have hzw7_0 : w.heap.size < w7.heap.size := (by have := hx7.size; (try simp at this); omega); have hzw7_1 : w.heap.size + 1 < w7.heap.size := (by have := hx7.size; (try simp at this); omega); have hzw7_2 : w.heap.size + 1 + 1 < w7.heap.size := (by have := hx7.size; (try simp at this); omega)) | (go_at_call 31; (with_reducible refine (HR.out _ (by ((repeat' (first | with_reducible exact Ext.refl _ | assumption | with_reducible exact Ext.one _ | with_reducible refine Ext.alloc ?_ _ | with_reducible refine Ext.setCell ?_ ?_ _ | with_reducible refine Ext.drew ?_ | refine Ext.trans ?_ (by assumption))) <;> (try simp) <;> omega))).mono ?_); rintro e w8 ⟨rfl, hx8⟩; obtain ⟨hc8, hf8⟩ := bcell hx8; have hzw8_0 : w.heap.size < w8.heap.size := (by have := hx8.size; (try simp at this); omega); have hzw8_1 : w.heap.size + 1 < w8.heap.size := (by have := hx8.size; (try simp at this); omega); have hzw8_2 : w.heap.size + 1 + 1 < w8.heap.size := (by have := hx8.size; (try simp at this); omega)) | (go_at_call 44; (with_reducible refine (HD.out _ (by ((repeat' (first | with_reducible exact Ext.refl _ | assumption | with_reducible exact Ext.one _ | with_reducible refine Ext.alloc ?_ _ | with_reducible refine Ext.setCell ?_ ?_ _ | with_reducible refine Ext.drew ?_ | refine Ext.trans ?_ (by assumption))) <;> (try simp) <;> omega))).mono ?_); rintro e w9 ⟨rfl, hx9⟩; obtain ⟨hc9, hf9⟩ := bcell hx9; have hzw9_0 : w.heap.size < w9.heap.size := (by have := hx9.size; (try simp at this); omega); have hzw9_1 : w.heap.size + 1 < w9.heap.size := (by have := hx9.size; (try simp at this); omega); have hzw9_2 : w.heap.size + 1 + 1 < w9.heap.size := (by have := hx9.size; (try simp at this); omega)))
    go_ret
    exact ⟨rfl, by ((repeat' (first | with_reducible exact Ext.refl _ | assumption | with_reducible exact Ext.one _ | with_reducible refine Ext.alloc ?_ _ | with_reducible refine Ext.setCell ?_ ?_ _ | with_reducible refine Ext.drew ?_ | refine Ext.trans ?_ (by assumption))) <;> (try simp) <;> omega)⟩
end Go.Proofs.YtdbglpaejmhbjaaDoor
