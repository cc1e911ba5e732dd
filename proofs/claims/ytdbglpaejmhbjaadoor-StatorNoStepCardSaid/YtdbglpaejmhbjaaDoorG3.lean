/- Walks: the greatest step of a move, in the program. -/
import Derived.Test.YtdbglpaejmhbjaaDoorG2
import Derived.Deep.Cut
namespace Go.Proofs.YtdbglpaejmhbjaaDoor
open Go Go.RowKit Go.Proofs
set_option linter.unusedSimpArgs false
set_option linter.unusedVariables false

def stepE (n : Nat) (ls : List Int) (p q : Int) (m : Nat) (cs : List T2) (f : T2) (mv : Int) : Int := firstE [openFeedE n ls p q m cs f, unlessE (withinB mv 1 2000) 2]
/-- The error of a step: of what is opened, of the move, of the track's end. -/
def stepF (n : Nat) (ls : List Int) (p q : Int) (m : Nat) (cs : List T2) (f : T2) (mv : Int) : Int :=
  if stepE n ls p q m cs f mv = 0 then (if sumW 0 ls < wrap64 (wrap64 (p + q) + mv) then 23 else 0) else stepE n ls p q m cs f mv
set_option maxRecDepth 100000 in
set_option maxHeartbeats 1000000 in
theorem greatestStep_err (ls : List Int) (a : Option Addr) (n c : Nat) (p q : Int) (cs : List T2) (b : Option Addr) (m c2 : Nat) (f : T2) (mv : Int) (w : World) (hl : ls.length = n) (hl2 : cs.length = m) (hn : n ≤ 1000) (hm : m ≤ 1000) (hr : Rd w 1 a n (ints ls)) (hr2 : Rd w 2 b m (cells2 cs)) (hE : stepE n ls p q m cs f mv ≠ 0) :
    Calls Tryd.prog 42 #[.agg #[.slice a n c], .agg #[.int .i64 p, .int .i64 q], fV b m c2 f mv] w fun e w' => e = .returned (.tuple #[.int .i64 0, .int .i64 (stepE n ls p q m cs f mv)]) ∧ Ext w w' := by
  have HO := Lib.hid (fun w1 (h : Ext w w1) => openFeed_any ls a n c p q cs b m c2 f mv w1 hl hn (hr.ext h) hl2 hm (hr2.ext h))
  have hE' : (stepE n ls p q m cs f mv != 0) = true := by simp [hE]
  unfold stepE at hE' ⊢
  clear hl hl2 hE
  generalize openFeedE n ls p q m cs f = E at *
  generalize hF : firstE [E, unlessE (withinB mv 1 2000) 2] = F at *
  have HF := Lib.hid hF
  clear hF
  go_enter Tryd.func42, Tryd.ntmps42
  go_wp2_with (first | (go_at_call 105; (with_reducible refine (HO.out _ (by ((repeat' (first | with_reducible exact Ext.refl _ | assumption | with_reducible exact Ext.one _ | with_reducible refine Ext.alloc ?_ _ | with_reducible refine Ext.setCell ?_ ?_ _ | with_reducible refine Ext.drew ?_ | refine Ext.trans ?_ (by assumption))) <;> (try simp) <;> omega))).mono ?_); rintro e w3 ⟨rfl, hx3⟩; obtain ⟨hc3, hf3⟩ := bcell hx3; have hzw3_0 : w.heap.size < w3.heap.size := (by have := hx3.size; (try simp at this); omega); have hzw3_1 : w.heap.size + 1 < w3.heap.size := (by have := hx3.size; (try simp at this); omega); have hzw3_2 : w.heap.size + 1 + 1 < w3.heap.size := (by have := hx3.size; (try simp at this); omega)) | ((go_at_call 80; refine (firstOf2 _ _ _ _ _ (by simp)).mono ?_; rintro e w4 ⟨rfl, rfl⟩); rw [HF.out]) | first | (go_at_call 104; refine (within_any _ _ _ _).mono ?_; rintro e wz ⟨rfl, rfl⟩) | (go_at_call 81; refine (unless_any _ _ _).mono ?_; rintro e wz ⟨rfl, rfl⟩))
  go_ret2
  exact ⟨rfl, by ((repeat' (first | with_reducible exact Ext.refl _ | assumption | with_reducible exact Ext.one _ | with_reducible refine Ext.alloc ?_ _ | with_reducible refine Ext.setCell ?_ ?_ _ | with_reducible refine Ext.drew ?_ | refine Ext.trans ?_ (by assumption))) <;> (try simp) <;> omega)⟩
theorem stepE_ok {n : Nat} {ls : List Int} {p q : Int} {m : Nat} {cs : List T2} {f : T2} {mv : Int} (h : stepE n ls p q m cs f mv = 0) : m = n ∧ openE n ls p q = 0 ∧ withinB mv 1 2000 = true := by
  unfold stepE at h
  have hw : withinB mv 1 2000 = true := by
    cases hw : withinB mv 1 2000 with
    | true => rfl
    | false =>
      rw [hw] at h
      exfalso; revert h
      by_cases hE : openFeedE n ls p q m cs f = 0 <;> simp [firstE, unlessE, hE]
  have hE : openFeedE n ls p q m cs f = 0 := by
    by_cases hE : openFeedE n ls p q m cs f = 0
    · exact hE
    · exfalso; revert h; simp [firstE, unlessE, hE]
  have hO : openE n ls p q = 0 := by
    by_cases hO : openE n ls p q = 0
    · exact hO
    · exfalso; revert hE; unfold openFeedE; simp [firstE, hO]
  refine ⟨?_, hO, hw⟩
  by_cases hmn : m = n
  · exact hmn
  · exfalso; revert hE; unfold openFeedE
    simp only [firstE, unlessE, show (m == n) = false by simp [hmn], hO]; simp
theorem open_ok {n : Nat} {ls : List Int} {p q : Int} (hl : ls.length = n) (h : openE n ls p q = 0) : (trackC n ls).2 = 0 ∧ trainE ls p q = 0 := by
  by_cases ht : (trackC n ls).2 = 0
  · exact ⟨ht, by rw [← openE_eq ht]; exact h⟩
  · exfalso; unfold openE at h; rw [if_neg ht] at h; exact ht h
set_option maxRecDepth 100000 in
set_option maxHeartbeats 4000000 in
theorem greatestStep_any (ls : List Int) (a : Option Addr) (n c : Nat) (p q : Int) (cs : List T2) (b : Option Addr) (c2 : Nat) (f : T2) (k : Nat) (w : World) (hl : ls.length = n) (hl2 : cs.length = n) (hn : n ≤ 1000) (hr : Rd w 1 a n (ints ls)) (hr2 : Rd w 2 b n (cells2 cs)) (hE : stepE n ls p q n cs f k = 0) :
    Calls Tryd.prog 42 #[.agg #[.slice a n c], .agg #[.int .i64 p, .int .i64 q], fV b n c2 f k] w fun e w' =>
      e = .returned (.tuple #[.int .i64 (okI (stepF n ls p q n cs f k) (gsN (fun x => forceL f (overL x q 0 ls) cs 0) p k)), .int .i64 (stepF n ls p q n cs f k)]) ∧ Ext w w' := by
  obtain ⟨_, hop, hwk⟩ := stepE_ok hE
  obtain ⟨htr, htn⟩ := open_ok hl hop
  obtain ⟨hp0, hq1, hq2, hpq⟩ := train_ok hl htr htn
  obtain ⟨hlens, h12, _⟩ := track_ok hl htr
  have hsb := sumP_bd hlens
  have hp1 : p ≤ 12000000 := by omega
  have HO := Lib.hid (fun w1 (h : Ext w w1) => openFeed_any ls a n c p q cs b n c2 f k w1 hl hn (hr.ext h) hl2 hn (hr2.ext h))
  have HG := Lib.hid (fun w1 (h : Ext w w1) => length_any ls a n c p q w1 hl hn (hr.ext h))
  have HF := Lib.hid (fun (x : Int) w1 (h : Ext w w1) => force_any ls a n c x q cs b c2 f k w1 hl hl2 hn (hr.ext h) (hr2.ext h))
  have hk2 : (k : Int) ≤ 2000 := by simp only [withinB, Bool.and_eq_true, decide_eq_true_eq] at hwk; omega
  unfold stepF
  rw [if_pos hE]
  have HE := Lib.hid hE
  have HEE : Hid (firstE [openFeedE n ls p q n cs f, unlessE (withinB (k : Int) 1 2000) 2] = 0) := Lib.hid hE
  generalize hFF : (fun x => forceL f (overL x q 0 ls) cs 0) = F
  have HFF := Lib.hid (show ∀ x, forceL f (overL x q 0 ls) cs 0 = F x from fun x => by rw [← hFF])
  clear hFF hl hl2 hE hop htr htn hlens h12 hsb hpq hwk
  generalize sumW 0 ls = S at *
  by_cases ht : S < wrap64 (wrap64 (p + q) + k)
  · rw [if_pos ht]
    go_enter Tryd.func42, Tryd.ntmps42
    go_wp2_with (first | (go_at_call 105; (with_reducible refine (HO.out _ (by ((repeat' (first | with_reducible exact Ext.refl _ | assumption | with_reducible exact Ext.one _ | with_reducible refine Ext.alloc ?_ _ | with_reducible refine Ext.setCell ?_ ?_ _ | with_reducible refine Ext.drew ?_ | refine Ext.trans ?_ (by assumption))) <;> (try simp) <;> omega))).mono ?_); rintro e w3 ⟨rfl, hx3⟩; obtain ⟨hc3, hf3⟩ := bcell hx3; have hzw3_0 : w.heap.size < w3.heap.size := (by have := hx3.size; (try simp at this); omega); have hzw3_1 : w.heap.size + 1 < w3.heap.size := (by have := hx3.size; (try simp at this); omega); have hzw3_2 : w.heap.size + 1 + 1 < w3.heap.size := (by have := hx3.size; (try simp at this); omega)) | ((go_at_call 80; refine (firstOf2 _ _ _ _ _ (by simp)).mono ?_; rintro e w4 ⟨rfl, rfl⟩); rw [HEE.out]) | first | (go_at_call 104; refine (within_any _ _ _ _).mono ?_; rintro e wz ⟨rfl, rfl⟩) | (go_at_call 81; refine (unless_any _ _ _).mono ?_; rintro e wz ⟨rfl, rfl⟩))
    apply wp_region_ext 13 [.is _, .is _, .is _, .is _, .is _, .is _, .is _, .is _, .is _, .is _, .is _, .is _, .is _] (by kernel_rfl) (by kernel_rfl) (by kernel_rfl) (fun V => ?steps) (fun V w5 hx_w5 hf_w5 => ?tail)
    case steps =>
      simp only [List.take, Region.binds, mode_text, mode_gc, if_true, true_and, Bool.false_eq_true, if_false, List.drop, StepsU, StepsG, putsAll, FactsAt, Fs, val, List.getD_cons_zero, List.getD_cons_succ, List.getD_nil, SF.is, SF.rd, SF.any, SF.box, Option.getD_some, Option.getD_none, Act.put, List.setIfInBounds_toArray, List.set_cons_zero, List.set_cons_succ]
      refine ⟨?_, ?_, ?_, ?_, ?_, ?_, ?_, ?_, ?_, ?_, ?_, ?_, ?_, trivial⟩ <;> (intro w2 hx hf; obtain ⟨hc, hfz⟩ := bcell hx; go_simp; (try simp only [wrap_eq]); first
        | exact Post.mk rfl (Ext.refl _)
        | rfl
        | (refine Post.mk ?_ (Ext.refl _); (simp <;> omega); done)
        | exact Post.mk ⟨_, _, rfl, Nat.le_refl _, Rd.new _ _ _ _ _ rfl⟩ ((Ext.refl _).alloc _)
        | (refine Post.mk ⟨_, rfl, ?_, Bx.new _ _ _⟩ ((Ext.refl _).alloc _); have := hx.size; (try simp at this); (try simp); omega)
        | ((with_reducible refine CallTo.of (HG.out _ (by ((repeat' (first | with_reducible exact Ext.refl _ | assumption | with_reducible exact Ext.one _ | with_reducible refine Ext.alloc ?_ _ | with_reducible refine Ext.setCell ?_ ?_ _ | with_reducible refine Ext.drew ?_ | refine Ext.trans ?_ (by assumption))) <;> (try simp) <;> omega))) ?_); exact fun _ _ => rfl))
    case tail =>
    simp only [FactsTo, List.take, Region.binds, mode_text, mode_gc, if_true, true_and, Bool.false_eq_true, if_false, List.drop, StepsU, StepsG, putsAll, FactsAt, Fs, val, List.getD_cons_zero, List.getD_cons_succ, List.getD_nil, SF.is, SF.rd, SF.any, SF.box, Option.getD_some, Option.getD_none, Act.put, List.setIfInBounds_toArray, List.set_cons_zero, List.set_cons_succ] at hf_w5 ⊢
    obtain ⟨hc_w5, hfz_w5⟩ := bcell hx_w5
    clear hf_w5
    go_wp2
    go_ret2
    exact ⟨by simp [okI], by ((repeat' (first | with_reducible exact Ext.refl _ | assumption | with_reducible exact Ext.one _ | with_reducible refine Ext.alloc ?_ _ | with_reducible refine Ext.setCell ?_ ?_ _ | with_reducible refine Ext.drew ?_ | refine Ext.trans ?_ (by assumption))) <;> (try simp) <;> omega)⟩
  · rw [if_neg ht]
    have HFp := Lib.hid (show ∀ w1, Ext w w1 → Calls Tryd.prog 106 #[dV a n c p q, fV b n c2 f k] w1 fun e w' => e = .returned (.int .i64 (F p)) ∧ Ext w1 w' from fun w1 h => by
      have h1 := HF.out p w1 h
      rwa [HFF.out] at h1)
    go_enter Tryd.func42, Tryd.ntmps42
    go_wp2_with (first | (go_at_call 105; (with_reducible refine (HO.out _ (by ((repeat' (first | with_reducible exact Ext.refl _ | assumption | with_reducible exact Ext.one _ | with_reducible refine Ext.alloc ?_ _ | with_reducible refine Ext.setCell ?_ ?_ _ | with_reducible refine Ext.drew ?_ | refine Ext.trans ?_ (by assumption))) <;> (try simp) <;> omega))).mono ?_); rintro e w3 ⟨rfl, hx3⟩; obtain ⟨hc3, hf3⟩ := bcell hx3; have hzw3_0 : w.heap.size < w3.heap.size := (by have := hx3.size; (try simp at this); omega); have hzw3_1 : w.heap.size + 1 < w3.heap.size := (by have := hx3.size; (try simp at this); omega); have hzw3_2 : w.heap.size + 1 + 1 < w3.heap.size := (by have := hx3.size; (try simp at this); omega)) | ((go_at_call 80; refine (firstOf2 _ _ _ _ _ (by simp)).mono ?_; rintro e w4 ⟨rfl, rfl⟩); rw [HEE.out]) | first | (go_at_call 104; refine (within_any _ _ _ _).mono ?_; rintro e wz ⟨rfl, rfl⟩) | (go_at_call 81; refine (unless_any _ _ _).mono ?_; rintro e wz ⟨rfl, rfl⟩))
    apply wp_region_ext 13 [.is _, .is _, .is _, .is _, .is _, .is _, .is _, .is _, .is _, .is _, .is _, .is _, .is _] (by kernel_rfl) (by kernel_rfl) (by kernel_rfl) (fun V => ?steps) (fun V w5 hx_w5 hf_w5 => ?tail)
    case steps =>
      simp only [List.take, Region.binds, mode_text, mode_gc, if_true, true_and, Bool.false_eq_true, if_false, List.drop, StepsU, StepsG, putsAll, FactsAt, Fs, val, List.getD_cons_zero, List.getD_cons_succ, List.getD_nil, SF.is, SF.rd, SF.any, SF.box, Option.getD_some, Option.getD_none, Act.put, List.setIfInBounds_toArray, List.set_cons_zero, List.set_cons_succ]
      refine ⟨?_, ?_, ?_, ?_, ?_, ?_, ?_, ?_, ?_, ?_, ?_, ?_, ?_, trivial⟩ <;> (intro w2 hx hf; obtain ⟨hc, hfz⟩ := bcell hx; go_simp; (try simp only [wrap_eq]); first
        | exact Post.mk rfl (Ext.refl _)
        | rfl
        | (refine Post.mk ?_ (Ext.refl _); (simp <;> omega); done)
        | exact Post.mk ⟨_, _, rfl, Nat.le_refl _, Rd.new _ _ _ _ _ rfl⟩ ((Ext.refl _).alloc _)
        | (refine Post.mk ⟨_, rfl, ?_, Bx.new _ _ _⟩ ((Ext.refl _).alloc _); have := hx.size; (try simp at this); (try simp); omega)
        | ((with_reducible refine CallTo.of (HG.out _ (by ((repeat' (first | with_reducible exact Ext.refl _ | assumption | with_reducible exact Ext.one _ | with_reducible refine Ext.alloc ?_ _ | with_reducible refine Ext.setCell ?_ ?_ _ | with_reducible refine Ext.drew ?_ | refine Ext.trans ?_ (by assumption))) <;> (try simp) <;> omega))) ?_); exact fun _ _ => rfl))
    case tail =>
    simp only [FactsTo, List.take, Region.binds, mode_text, mode_gc, if_true, true_and, Bool.false_eq_true, if_false, List.drop, StepsU, StepsG, putsAll, FactsAt, Fs, val, List.getD_cons_zero, List.getD_cons_succ, List.getD_nil, SF.is, SF.rd, SF.any, SF.box, Option.getD_some, Option.getD_none, Act.put, List.setIfInBounds_toArray, List.set_cons_zero, List.set_cons_succ] at hf_w5 ⊢
    obtain ⟨hc_w5, hfz_w5⟩ := bcell hx_w5
    clear hf_w5
    have hb5 : Bx w5 (w.heap.size + 1 + 1) 66 #[.slice b n c2, .int .i64 f.1, .int .i64 f.2, .int .i64 k] := by (repeat' (first | exact Bx.new _ _ _ | exact Bx.new_at _ _ (by simp; done) | refine Bx.alloc ?_ _ | refine Bx.ext ?_ (by assumption)))
    have hd5 : Bx w5 w3.heap.size 129 #[.slice a n c, .int .i64 p, .int .i64 q] := by (repeat' (first | exact Bx.new _ _ _ | exact Bx.new_at _ _ (by simp; done) | refine Bx.alloc ?_ _ | refine Bx.ext ?_ (by assumption)))
    have y0 : w5.cell? ⟨w.heap.size + 1 + 1, 0, none⟩ = some (.slice b n c2) := hb5.cell 0
    have y1 : w5.cell? ⟨w.heap.size + 1 + 1, 1, none⟩ = some (.int .i64 f.1) := hb5.cell 1
    have y2 : w5.cell? ⟨w.heap.size + 1 + 1, 2, none⟩ = some (.int .i64 f.2) := hb5.cell 2
    have y3 : w5.cell? ⟨w.heap.size + 1 + 1, 3, none⟩ = some (.int .i64 k) := hb5.cell 3
    have y4 := hb5.lt
    obtain ⟨d0, d1, d2, d3, d4, d5, d6⟩ := hd5.at3
    go_wp2_with (first | (go_at_call 106; (with_reducible refine (HFp.out _ (by ((repeat' (first | with_reducible exact Ext.refl _ | assumption | with_reducible exact Ext.one _ | with_reducible refine Ext.alloc ?_ _ | with_reducible refine Ext.setCell ?_ ?_ _ | with_reducible refine Ext.drew ?_ | refine Ext.trans ?_ (by assumption))) <;> (try simp) <;> omega))).mono ?_); rintro e w6 ⟨rfl, hx6⟩; obtain ⟨hc6, hf6⟩ := bcell hx6; have hzw6_0 : w.heap.size < w6.heap.size := (by have := hx6.size; (try simp at this); omega); have hzw6_1 : w.heap.size + 1 < w6.heap.size := (by have := hx6.size; (try simp at this); omega); have hzw6_2 : w.heap.size + 1 + 1 < w6.heap.size := (by have := hx6.size; (try simp at this); omega); have hy6_w3_0 : w3.heap.size < w6.heap.size := (by have := hx6.size; (try simp at this); omega)))
    have hxw6 : Ext w w6 := by ((repeat' (first | with_reducible exact Ext.refl _ | assumption | with_reducible exact Ext.one _ | with_reducible refine Ext.alloc ?_ _ | with_reducible refine Ext.setCell ?_ ?_ _ | with_reducible refine Ext.drew ?_ | refine Ext.trans ?_ (by assumption))) <;> (try simp) <;> omega)
    have hb6 := hb5.ext hx6
    have hd6 := hd5.ext hx6
    have hwd : w.heap.size ≤ w3.heap.size := by have := hx3.size; (try simp at this); omega
    have hwd2 : w.heap.size + 1 + 1 < w3.heap.size := by have := hx3.size; (try simp at this); omega
    clear y0 y1 y2 y3 y4 d0 d1 d2 d3 d4 d5 d6
    go_loopw [10, 11, 48] (fun s u i wr => ∃ j : Nat, j ≤ k ∧ i = .int .i64 j ∧ s = .int .i64 (gsN F p j) ∧ u = .int .i64 (F (p + j)) ∧ Bx wr (w.heap.size + 1 + 1) 66 #[.slice b n c2, .int .i64 f.1, .int .i64 f.2, .int .i64 k] ∧ Bx wr w3.heap.size 129 #[.slice a n c, .int .i64 (p + j), .int .i64 q] ∧ Ext w wr) (fun _ _ i _ => k - (intOf i).toNat)
    case atStart => exact ⟨0, Nat.zero_le _, rfl, rfl, by simp, hb6, by simpa using hd6, hxw6⟩
    case round =>
      obtain ⟨j, hj, rfl, rfl, rfl, hb, hd, hx⟩ := hrel
      have y0 : wr.cell? ⟨w.heap.size + 1 + 1, 0, none⟩ = some (.slice b n c2) := hb.cell 0
      have y1 : wr.cell? ⟨w.heap.size + 1 + 1, 1, none⟩ = some (.int .i64 f.1) := hb.cell 1
      have y2 : wr.cell? ⟨w.heap.size + 1 + 1, 2, none⟩ = some (.int .i64 f.2) := hb.cell 2
      have y3 : wr.cell? ⟨w.heap.size + 1 + 1, 3, none⟩ = some (.int .i64 k) := hb.cell 3
      have y4 := hb.lt
      obtain ⟨d0, d1, d2, d3, d4, d5, d6⟩ := hd.at3
      by_cases hlt : j < k
      · have HFj := Lib.hid (show ∀ w1, Ext w w1 → Calls Tryd.prog 106 #[dV a n c (p + j + 1) q, fV b n c2 f k] w1 fun e w' => e = .returned (.int .i64 (F (p + j + 1))) ∧ Ext w1 w' from fun w1 h => by
          have h1 := HF.out (p + j + 1) w1 h
          rwa [HFF.out] at h1)
        have HZ := Lib.hid (size_any (wrap64 (F (p + j + 1) - F (p + j))))
        have hg : Hid (gsN F p (j + 1) = max (gsN F p j) (sizeW (wrap64 (F (p + j + 1) - F (p + j))))) := by show _ = _; rfl
        have hpj : Hid (p + ((j + 1 : Nat) : Int) = p + j + 1) := Lib.hid (by omega)
        generalize sizeW (wrap64 (F (p + j + 1) - F (p + j))) = z at *
        generalize gsN F p j = g at *
        generalize hU : F (p + j + 1) = U at *
        have HU := Lib.hid hU
        clear hU
        generalize F (p + j) = v at *
        have hj1 : (j : Int) < 2000 := by omega
        have hj0 : (0 : Int) ≤ j := by omega
        have hdn := hd.set31 (.int .i64 (p + j + 1))
        have hbn := hb.other (p := ⟨w3.heap.size, 1, none⟩) (by simp; omega) (.int .i64 (p + j + 1))
        have hxn : Ext w (wr.setCell ⟨w3.heap.size, 1, none⟩ (.int .i64 (p + j + 1))) := hx.setCell (by simp; omega) _
        go_upto_region 11 with fail
        obtain ⟨W4, hW4⟩ : ∃ W4, wr.setCell ⟨w3.heap.size, 1, none⟩ (.int .i64 (p + j + 1)) = W4 := ⟨_, rfl⟩
        rw [hW4] at hdn hbn hxn ⊢
        clear hW4 y0 y1 y2 y3 y4 d0 d1 d2 d3 d4 d5 d6 hb hd hx
        have y0 : W4.cell? ⟨w.heap.size + 1 + 1, 0, none⟩ = some (.slice b n c2) := hbn.cell 0
        have y1 : W4.cell? ⟨w.heap.size + 1 + 1, 1, none⟩ = some (.int .i64 f.1) := hbn.cell 1
        have y2 : W4.cell? ⟨w.heap.size + 1 + 1, 2, none⟩ = some (.int .i64 f.2) := hbn.cell 2
        have y3 : W4.cell? ⟨w.heap.size + 1 + 1, 3, none⟩ = some (.int .i64 k) := hbn.cell 3
        have y4 := hbn.lt
        obtain ⟨d0, d1, d2, d3, d4, d5, d6⟩ := hdn.at3
        go_wp2_with (first | (go_at_call 106; (with_reducible refine (HFj.out _ (by ((repeat' (first | with_reducible exact Ext.refl _ | assumption | with_reducible exact Ext.one _ | with_reducible refine Ext.alloc ?_ _ | with_reducible refine Ext.setCell ?_ ?_ _ | with_reducible refine Ext.drew ?_ | refine Ext.trans ?_ (by assumption))) <;> (try simp) <;> omega))).mono ?_); rintro e w7 ⟨rfl, hx7⟩; obtain ⟨hc7, hf7⟩ := bcell hx7) | (go_at_call 108; (with_reducible refine (HZ.out _).mono ?_); rintro e w8 ⟨rfl, hx8⟩; obtain ⟨hc8, hf8⟩ := bcell hx8))
        go_roundw
        case rel => exact ⟨j + 1, by omega, by go_num, by rw [hg.out], by rw [hpj.out, HU.out], (hbn.ext hx7).ext hx8, by rw [hpj.out]; exact (hdn.ext hx7).ext hx8, (hxn.trans hx7).trans hx8⟩
        case measure => simp [intOf]; omega
      · obtain rfl : j = k := by omega
        go_wp2
        go_ret2
        exact ⟨by simp [okI], hx⟩
end Go.Proofs.YtdbglpaejmhbjaaDoor
