/- Walks: the errors of tracks, trains, feeds. -/
import Derived.Test.YtdbglpaejmhbjaaDoorW4
namespace Go.Proofs.YtdbglpaejmhbjaaDoor
open Go Go.RowKit Go.Proofs
set_option linter.unusedSimpArgs false
set_option linter.unusedVariables false

def badL (n : Int) : Bool := !withinB n 1 1000000
def trackE (n : Nat) : Int := firstE [unlessE (decide (0 < n)) 10, unlessE (decide (n ≤ 12)) 8]
def trackC (n : Nat) (ls : List Int) : Int × Int := if trackE n = 0 then (max 0 (idx badL ls 0), unlessE (decide (idx badL ls 0 < 0)) 2) else (0, trackE n)
def sumW : Int → List Int → Int
  | s, [] => s
  | s, x :: l => sumW (wrap64 (s + x)) l

set_option maxRecDepth 100000 in
set_option maxHeartbeats 1000000 in
theorem checkTrack_any (ls : List Int) (a : Option Addr) (n c : Nat) (w : World) (hl : ls.length = n) (hn : n ≤ 1000) (hr : Rd w 1 a n (ints ls)) :
    Calls Tryd.prog 27 #[.agg #[.slice a n c]] w fun e w' => e = .returned (.tuple #[.int .i64 (trackC n ls).1, .int .i64 (trackC n ls).2]) ∧ Ext w w' := by
  have HI := Lib.hid (fun w1 (h : Ext w w1) => index1_any 92 #[] (fun _ _ => by kernel_rfl) badL ls a n c w1 hl hn (hr.ext h) (fun w' _ x _ => (checkTrack1_any x w').mono fun _ _ ⟨he, hw⟩ => ⟨he, hw ▸ Ext.refl _⟩))
  clear hl
  go_enter Tryd.func27, Tryd.ntmps27
  go_wp2
  refine wp_region_ext 12 [.is (.pointer (some ⟨w.heap.size, 0, none⟩)), .is (.slice a n c), .is (.int .i64 n), .is (.bool (decide (0 < n))), .is (.int .i64 (unlessE (decide (0 < n)) 10)), .is (.pointer (some ⟨w.heap.size, 0, none⟩)), .is (.slice a n c), .is (.int .i64 n), .is (.bool (decide (n ≤ 12))), .is (.int .i64 (unlessE (decide (n ≤ 12)) 8)), .rd 1 2 (ints [unlessE (decide (0 < n)) 10, unlessE (decide (n ≤ 12)) 8]), .is (.int .i64 (trackE n))] (by kernel_rfl) (by kernel_rfl) (by kernel_rfl) (fun V => ?steps) (fun V w1 hx_w1 hf_w1 => ?tail)
  case steps =>
    simp only [List.take, Region.binds, mode_text, mode_gc, if_true, true_and, Bool.false_eq_true, if_false, List.drop, StepsU, StepsG, putsAll, FactsAt, Fs, val, List.getD_cons_zero, List.getD_cons_succ, List.getD_nil, SF.is, SF.rd, SF.any, SF.box, Option.getD_some, Option.getD_none, Act.put, List.setIfInBounds_toArray, List.set_cons_zero, List.set_cons_succ]
    refine ⟨?_, ?_, ?_, ?_, ?_, ?_, ?_, ?_, ?_, ?_, ?_, ?_, trivial⟩ <;> intro w2 hx hf <;> obtain ⟨hc, hfz⟩ := bcell hx <;> go_simp <;> (try simp only [wrap_eq])
    all_goals first
      | exact Post.mk rfl (Ext.refl _)
      | rfl
      | (refine Post.mk ?_ (Ext.refl _); (simp <;> omega); done)
      | exact Post.mk ⟨_, _, rfl, Nat.le_refl _, Rd.new _ _ _ _ _ rfl⟩ ((Ext.refl _).alloc _)
      | (refine Post.mk ⟨_, rfl, ?_, Bx.new _ _ _⟩ ((Ext.refl _).alloc _); have := hx.size; (try simp at this); (try simp); omega)
      | ((with_reducible refine CallTo.same (unless_any _ _ _) ?_); rfl)
      | (obtain ⟨ha, -⟩ := hf; obtain ⟨a2, c2, e2, h2, h3⟩ := ha; rw [e2]; (with_reducible refine CallTo.same (first_any _ _ _ _ _ rfl (Nat.le_of_ble_eq_true rfl) h3) ?_); rfl)
  case tail =>
  simp only [FactsTo, List.take, Region.binds, mode_text, mode_gc, if_true, true_and, Bool.false_eq_true, if_false, List.drop, StepsU, StepsG, putsAll, FactsAt, Fs, val, List.getD_cons_zero, List.getD_cons_succ, List.getD_nil, SF.is, SF.rd, SF.any, SF.box, Option.getD_some, Option.getD_none, Act.put, List.setIfInBounds_toArray, List.set_cons_zero, List.set_cons_succ] at hf_w1 ⊢
  obtain ⟨hc_w1, hfz_w1⟩ := bcell hx_w1
  by_cases hE : trackE n = 0
  · rw [hE]
    have HE := Lib.hid hE
    clear hE hf_w1
    generalize hI : idx badL ls 0 = I
    have HI' := Lib.hid hI
    clear hI
    go_wp2_with (first | (go_at_call 91; refine (HI.out _ (by ((repeat' (first | with_reducible exact Ext.refl _ | with_reducible assumption | with_reducible exact Ext.one _ | with_reducible refine Ext.alloc ?_ _ | with_reducible refine Ext.setCell ?_ ?_ _ | with_reducible refine Ext.drew ?_ | ((with_reducible apply Ext.after'); (with_reducible assumption)))) <;> (try simp) <;> omega))).mono ?_; rintro e w3 ⟨rfl, hx3⟩; rw [HI'.out]) | (first | (go_at_call 81; refine (unless_any _ _ _).mono ?_; rintro e wz ⟨rfl, rfl⟩)))
    all_goals
      go_ret2
      refine ⟨ret_pair ?_ ?_, by ((repeat' (first | with_reducible exact Ext.refl _ | with_reducible assumption | with_reducible exact Ext.one _ | with_reducible refine Ext.alloc ?_ _ | with_reducible refine Ext.setCell ?_ ?_ _ | with_reducible refine Ext.drew ?_ | ((with_reducible apply Ext.after'); (with_reducible assumption)))) <;> (try simp) <;> omega)⟩
      · simp only [trackC, HE.out, if_true, HI'.out]
        try (first | omega | rfl)
      · simp only [trackC, HE.out, if_true, HI'.out]
  · have hE' : (trackE n != 0) = true := by simp [hE]
    clear hf_w1
    go_wp2
    go_ret2
    exact ⟨ret_pair (by simp [trackC, hE]) (by simp [trackC, hE]), by ((repeat' (first | with_reducible exact Ext.refl _ | with_reducible assumption | with_reducible exact Ext.one _ | with_reducible refine Ext.alloc ?_ _ | with_reducible refine Ext.setCell ?_ ?_ _ | with_reducible refine Ext.drew ?_ | ((with_reducible apply Ext.after'); (with_reducible assumption)))) <;> (try simp) <;> omega)⟩
set_option maxRecDepth 100000 in
set_option maxHeartbeats 1000000 in
theorem rCheckTrack_any (ls : List Int) (a : Option Addr) (n c : Nat) (w : World) (hl : ls.length = n) (hn : n ≤ 1000) (hr : Rd w 1 a n (ints ls)) :
    Calls Tryd.prog 30 #[.agg #[.slice a n c]] w fun e w' => e = .returned (.tuple #[.int .i64 (trackC n ls).1, .int .i64 (trackC n ls).2]) ∧ Ext w w' := by
  have HL := Lib.hid hl
  clear hl
  by_cases h0 : n = 0
  · have h0' : ((n : Int) == 0) = true := by simp [h0]
    have H0 := Lib.hid h0
    clear h0
    go_enter Tryd.func30, Tryd.ntmps30
    go_wp2
    go_ret2
    exact ⟨ret_pair (by simp [trackC, H0.out, trackE, firstE, unlessE]) (by simp [trackC, H0.out, trackE, firstE, unlessE]), by ((repeat' (first | with_reducible exact Ext.refl _ | with_reducible assumption | with_reducible exact Ext.one _ | with_reducible refine Ext.alloc ?_ _ | with_reducible refine Ext.setCell ?_ ?_ _ | with_reducible refine Ext.drew ?_ | ((with_reducible apply Ext.after'); (with_reducible assumption)))) <;> (try simp) <;> omega)⟩
  by_cases h12 : 12 < n
  · have h0' : ((n : Int) == 0) = false := by simp [h0]
    have hE : trackE n = 8 := by simp [trackE, firstE, unlessE, h12]; omega
    have HE := Lib.hid hE
    clear hE
    go_enter Tryd.func30, Tryd.ntmps30
    go_wp2
    go_ret2
    exact ⟨ret_pair (by simp [trackC, HE.out]) (by simp [trackC, HE.out]), by ((repeat' (first | with_reducible exact Ext.refl _ | with_reducible assumption | with_reducible exact Ext.one _ | with_reducible refine Ext.alloc ?_ _ | with_reducible refine Ext.setCell ?_ ?_ _ | with_reducible refine Ext.drew ?_ | ((with_reducible apply Ext.after'); (with_reducible assumption)))) <;> (try simp) <;> omega)⟩
  have h0' : ((n : Int) == 0) = false := by simp [h0]
  have hE : trackE n = 0 := by
    have h1 : decide (0 < n) = true := by simp; omega
    have h2 : decide (n ≤ 12) = true := by simp; omega
    simp [trackE, firstE, unlessE, h1, h2]
  have HE := Lib.hid hE
  clear hE h0
  go_enter Tryd.func30, Tryd.ntmps30
  go_wp2
  go_loop [4] (fun i => ∃ k : Nat, k ≤ n ∧ i = .int .i64 k ∧ Hid (idx badL ls 0 = idx badL (ls.drop k) k)) (fun i => n - (intOf i).toNat)
  case atStart => exact ⟨0, Nat.zero_le _, rfl, rfl⟩
  case round =>
    obtain ⟨k, hk, rfl, hd⟩ := hrel
    by_cases hlt : k < n
    · obtain ⟨b, o, rfl, hrow⟩ := hr.2 (by omega)
      have hb := hrow.1
      have hb' := Nat.le_of_lt hb
      have hkl : k < ls.length := by rw [HL.out]; exact hlt
      have hc0 := hrow.at (ints_get hkl)
      have hs : Hid (idx badL (ls.drop k) k = if badL ls[k] then (k : Int) else idx badL (ls.drop (k + 1)) (k + 1)) := by
        show _ = _
        rw [List.drop_eq_getElem_cons hkl]; rfl
      by_cases hpk : withinB ls[k] 1 1000000 = true
      · go_wp2_with (first | (go_at_call 22; refine (bWithin_any _ _ _ _).mono ?_; rintro e wz ⟨rfl, rfl⟩))
        go_round
        case rel => exact ⟨k + 1, by omega, by go_num, by show _ = _; rw [hd.out, hs.out]; simp [badL, hpk]⟩
        case measure => simp [intOf]; omega
      · replace hpk := Bool.eq_false_iff.2 hpk
        go_wp2_with (first | (go_at_call 22; refine (bWithin_any _ _ _ _).mono ?_; rintro e wz ⟨rfl, rfl⟩))
        go_ret2
        have hi : idx badL ls 0 = k := by rw [hd.out, hs.out]; simp [badL, hpk]
        exact ⟨ret_pair (by simp only [trackC, HE.out, if_true, hi]; omega) (by simp only [trackC, HE.out, if_true, hi, unlessE]; rw [if_neg (by simp)]), by ((repeat' (first | with_reducible exact Ext.refl _ | with_reducible assumption | with_reducible exact Ext.one _ | with_reducible refine Ext.alloc ?_ _ | with_reducible refine Ext.setCell ?_ ?_ _ | with_reducible refine Ext.drew ?_ | ((with_reducible apply Ext.after'); (with_reducible assumption)))) <;> (try simp) <;> omega)⟩
    · go_wp2
      go_ret2
      have hi : idx badL ls 0 = -1 := by rw [hd.out, List.drop_eq_nil_of_le (by rw [HL.out]; omega)]; rfl
      exact ⟨ret_pair (by simp only [trackC, HE.out, if_true, hi]; rfl) (by simp only [trackC, HE.out, if_true, hi]; rfl), by ((repeat' (first | with_reducible exact Ext.refl _ | with_reducible assumption | with_reducible exact Ext.one _ | with_reducible refine Ext.alloc ?_ _ | with_reducible refine Ext.setCell ?_ ?_ _ | with_reducible refine Ext.drew ?_ | ((with_reducible apply Ext.after'); (with_reducible assumption)))) <;> (try simp) <;> omega)⟩
set_option maxRecDepth 100000 in
set_option maxHeartbeats 1000000 in
theorem rAll_any (ls : List Int) (a : Option Addr) (n c : Nat) (w : World) (hl : ls.length = n) (hn : n ≤ 1000) (hr : Rd w 1 a n (ints ls)) :
    Calls Tryd.prog 97 #[.agg #[.slice a n c]] w fun e w' => e = .returned (.int .i64 (sumW 0 ls)) ∧ Ext w w' := by
  have HL := Lib.hid hl
  clear hl
  go_enter Tryd.func97, Tryd.ntmps97
  go_wp2
  go_loop [3, 4] (fun s i => ∃ (k : Nat) (t : Int), k ≤ n ∧ i = .int .i64 k ∧ s = .int .i64 t ∧ Hid (sumW 0 ls = sumW t (ls.drop k))) (fun _ i => n - (intOf i).toNat)
  case atStart => exact ⟨0, 0, Nat.zero_le _, rfl, rfl, rfl⟩
  case round =>
    obtain ⟨k, t, hk, rfl, rfl, hd⟩ := hrel
    by_cases hlt : k < n
    · obtain ⟨b, o, rfl, hrow⟩ := hr.2 (by omega)
      have hb := hrow.1
      have hb' := Nat.le_of_lt hb
      have hkl : k < ls.length := by rw [HL.out]; exact hlt
      have hc0 := hrow.at (ints_get hkl)
      have hs : Hid (sumW t (ls.drop k) = sumW (wrap64 (t + ls[k])) (ls.drop (k + 1))) := by
        show _ = _
        rw [List.drop_eq_getElem_cons hkl]; rfl
      go_wp2
      go_round
      case rel => exact ⟨k + 1, _, by omega, by go_num, rfl, by show _ = _; rw [hd.out, hs.out]⟩
      case measure => simp [intOf]; omega
    · go_wp2
      go_ret
      exact ⟨ret_int (by rw [hd.out, List.drop_eq_nil_of_le (by rw [HL.out]; omega)]; rfl), by ((repeat' (first | with_reducible exact Ext.refl _ | with_reducible assumption | with_reducible exact Ext.one _ | with_reducible refine Ext.alloc ?_ _ | with_reducible refine Ext.setCell ?_ ?_ _ | with_reducible refine Ext.drew ?_ | ((with_reducible apply Ext.after'); (with_reducible assumption)))) <;> (try simp) <;> omega)⟩
set_option maxRecDepth 100000 in
set_option maxHeartbeats 1000000 in
theorem length_any (ls : List Int) (a : Option Addr) (n c : Nat) (p q : Int) (w : World) (hl : ls.length = n) (hn : n ≤ 1000) (hr : Rd w 1 a n (ints ls)) :
    Calls Tryd.prog 107 #[.agg #[.slice a n c, .int .i64 p, .int .i64 q]] w fun e w' => e = .returned (.int .i64 (sumW 0 ls)) ∧ Ext w w' := by
  have HL := Lib.hid hl
  clear hl
  go_enter Tryd.func107, Tryd.ntmps107
  go_wp2
  go_loop [3, 10] (fun s i => ∃ (k : Nat) (t : Int), k ≤ n ∧ i = .int .i64 k ∧ s = .int .i64 t ∧ Hid (sumW 0 ls = sumW t (ls.drop k))) (fun _ i => n - (intOf i).toNat)
  case atStart => exact ⟨0, 0, Nat.zero_le _, rfl, rfl, rfl⟩
  case round =>
    obtain ⟨k, t, hk, rfl, rfl, hd⟩ := hrel
    by_cases hlt : k < n
    · obtain ⟨b, o, rfl, hrow⟩ := hr.2 (by omega)
      have hb := hrow.1
      have hb' := Nat.le_of_lt hb
      have hkl : k < ls.length := by rw [HL.out]; exact hlt
      have hc0 := hrow.at (ints_get hkl)
      have hs : Hid (sumW t (ls.drop k) = sumW (wrap64 (t + ls[k])) (ls.drop (k + 1))) := by
        show _ = _
        rw [List.drop_eq_getElem_cons hkl]; rfl
      go_wp2
      go_round
      case rel => exact ⟨k + 1, _, by omega, by go_num, rfl, by show _ = _; rw [hd.out, hs.out]⟩
      case measure => simp [intOf]; omega
    · go_wp2
      go_ret
      exact ⟨ret_int (by rw [hd.out, List.drop_eq_nil_of_le (by rw [HL.out]; omega)]; rfl), by ((repeat' (first | with_reducible exact Ext.refl _ | with_reducible assumption | with_reducible exact Ext.one _ | with_reducible refine Ext.alloc ?_ _ | with_reducible refine Ext.setCell ?_ ?_ _ | with_reducible refine Ext.drew ?_ | ((with_reducible apply Ext.after'); (with_reducible assumption)))) <;> (try simp) <;> omega)⟩
end Go.Proofs.YtdbglpaejmhbjaaDoor
