/- Walks: long books refused, copies of steps, the reference of books. -/
import Derived.Test.YtdbglpaejmhbjaaDoorB1
namespace Go.Proofs.YtdbglpaejmhbjaaDoor
open Go Go.RowKit Go.Proofs
set_option linter.unusedSimpArgs false
set_option linter.unusedVariables false
set_option maxRecDepth 100000 in
theorem putsD_R_BookOf_5 (V : Nat → Value) (df : List Deferred) (x0 x1 x2 x3 x4 x5 x6 x7 x8 x9 x10 x11 x12 x13 x14 x15 x16 x17 x18 x19 x20 x21 x22 x23 x24 x25 x26 x27 x28 x29 x30 x31 x32 x33 x34 x35 x36 x37 x38 x39 x40 x41 x42 x43 x44 x45 x46 x47 x48 x49 x50 x51 x52 x53 : Value) : putsD V (some 11 :: some 12 :: some 13 :: some 14 :: some 15 :: some 16 :: some 17 :: some 18 :: some 19 :: some 20 :: some 21 :: some 22 :: some 23 :: some 24 :: some 25 :: []) 0 ⟨#[x0, x1, x2, x3, x4, x5, x6, x7, x8, x9, x10, x11, x12, x13, x14, x15, x16, x17, x18, x19, x20, x21, x22, x23, x24, x25, x26, x27, x28, x29, x30, x31, x32, x33, x34, x35, x36, x37, x38, x39, x40, x41, x42, x43, x44, x45, x46, x47, x48, x49, x50, x51, x52, x53], df⟩ = ⟨#[x0, x1, x2, x3, x4, x5, x6, x7, x8, x9, x10, V 0, V 1, V 2, V 3, V 4, V 5, V 6, V 7, V 8, V 9, V 10, V 11, V 12, V 13, V 14, x26, x27, x28, x29, x30, x31, x32, x33, x34, x35, x36, x37, x38, x39, x40, x41, x42, x43, x44, x45, x46, x47, x48, x49, x50, x51, x52, x53], df⟩ := by kernel_rfl
set_option maxRecDepth 100000 in
theorem putsD_R_BookOf_6 (V : Nat → Value) (df : List Deferred) (x0 x1 x2 x3 x4 x5 x6 x7 x8 x9 x10 x11 x12 x13 x14 x15 x16 x17 x18 x19 x20 x21 x22 x23 x24 x25 x26 x27 x28 x29 x30 x31 x32 x33 x34 x35 x36 x37 x38 x39 x40 x41 x42 x43 x44 x45 x46 x47 x48 x49 x50 x51 x52 x53 : Value) : putsD V (some 26 :: some 27 :: some 28 :: some 29 :: some 30 :: some 31 :: some 32 :: some 33 :: some 34 :: some 35 :: some 36 :: some 37 :: some 38 :: some 39 :: some 40 :: some 41 :: some 42 :: some 43 :: some 44 :: some 45 :: some 46 :: []) 0 ⟨#[x0, x1, x2, x3, x4, x5, x6, x7, x8, x9, x10, x11, x12, x13, x14, x15, x16, x17, x18, x19, x20, x21, x22, x23, x24, x25, x26, x27, x28, x29, x30, x31, x32, x33, x34, x35, x36, x37, x38, x39, x40, x41, x42, x43, x44, x45, x46, x47, x48, x49, x50, x51, x52, x53], df⟩ = ⟨#[x0, x1, x2, x3, x4, x5, x6, x7, x8, x9, x10, x11, x12, x13, x14, x15, x16, x17, x18, x19, x20, x21, x22, x23, x24, x25, V 0, V 1, V 2, V 3, V 4, V 5, V 6, V 7, V 8, V 9, V 10, V 11, V 12, V 13, V 14, V 15, V 16, V 17, V 18, V 19, V 20, x47, x48, x49, x50, x51, x52, x53], df⟩ := by kernel_rfl

set_option maxRecDepth 100000 in
set_option maxHeartbeats 1000000 in
theorem bookOf_no (l : List St) (a : Option Addr) (n c : Nat) (w : World) (hn : 60 < n) :
    Calls Tryd.prog 64 #[.slice a n c] w fun e w' => e = .returned (.tuple #[pV (bookV n l), .int .i64 (bookE n l)]) ∧ Ext w w' := by
  have hE : bookE n l = 8 := if_pos hn
  have hV : bookV n l = (0, 0, 0) := by unfold bookV; rw [hE]; rfl
  rw [hE, hV]
  clear hE hV
  go_enter Tryd.func64, Tryd.ntmps64
  go_wp2
  refine bodyPost_ret (v := .tuple #[pV (0, 0, 0), .int .i64 8]) (by simp [results, Tryd.results64, go_sem]) rfl ⟨rfl, by ((repeat' (first | with_reducible exact Ext.refl _ | with_reducible assumption | with_reducible exact Ext.one _ | with_reducible refine Ext.alloc ?_ _ | with_reducible refine Ext.setCell ?_ ?_ _ | with_reducible refine Ext.drew ?_ | ((with_reducible apply Ext.after'); (with_reducible assumption)))) <;> (try simp) <;> omega)⟩
theorem bookOf_any (l : List St) (a : Option Addr) (n c : Nat) (w : World) (hl : l.length = n) (hr : Rd w 7 a n (cells7 l)) :
    Calls Tryd.prog 64 #[.slice a n c] w fun e w' => e = .returned (.tuple #[pV (bookV n l), .int .i64 (bookE n l)]) ∧ Ext w w' := by
  by_cases h : 60 < n
  · exact bookOf_no l a n c w h
  · exact bookOf_yes l a n c w hl (by omega) hr

set_option maxRecDepth 100000 in
set_option maxHeartbeats 1000000 in
theorem rCopySteps_any (xs : List Value) (a : Option Addr) (n c : Nat) (w : World) (hn : n ≤ 1000) (hr : Rd w 7 a n xs) (h1 : ∀ u ∈ xs, u.oneCell' = true) :
    Calls Tryd.prog 65 #[.slice a n c] w (RetOwn w 100 7 n xs) := by
  obtain ⟨i0, hi, hz0, hz1, hz2⟩ := info_parts info7
  have H1 := Lib.hid h1
  clear h1
  go_enter Tryd.func65, Tryd.ntmps65
  go_wp2_with (at_builtin; refine wpList_app rfl (.tmp 3) (.tmp 4) _ rfl i0 (.agg #[.int .i64 0, .int .i64 0, .int .i64 0, .int .i64 0, .int .i64 0, .int .i64 0, .int .i64 0]) 56 Tryd.underlying90 hi hz0 hz1 hz2 rfl (by omega) rfl (World.ownsRow_lit (base := w.heap.size) (e := 100) (size := 7) w #[] 0 (Nat.le_refl _) (by simp [maxLen]) rfl) a n c xs rfl (hr.ext ((Ext.refl w).alloc _)) H1.out (by simp only [maxLen]; omega) (by omega) (by simp) ?_; intro A' c' w1 hc1 hown hb1 _ _)
  go_ret
  exact ⟨A', c', by simp, by omega, by simpa using hown, ((Ext.refl w).alloc _).below hb1 (Nat.le_refl _)⟩

def okSt (s : St) : Bool := (p3L s.1).all (smallB · 100000) && (p3L s.2.1).all (smallB · 100000) && withinB s.2.2 0 1000
def rBookE (n : Nat) (l : List St) : Int := if 60 < n then 8 else unlessE (l.all okSt) 2
theorem stE_ok (s : St) : stE s = unlessE (okSt s) 2 := by
  unfold stE okSt p3E
  cases (p3L s.1).all (smallB · 100000) <;> cases (p3L s.2.1).all (smallB · 100000) <;> cases withinB s.2.2 0 1000 <;> rfl
theorem bookGo_err : ∀ (l : List St) (f g : Int), (bookGo l f g).2 = unlessE (l.all okSt) 2
  | [], f, g => rfl
  | s :: l, f, g => by
    unfold bookGo
    rw [stE_ok]
    cases h : okSt s with
    | true => rw [show unlessE true 2 = 0 from rfl, if_pos rfl, bookGo_err l]; simp [h]
    | false => simp [h, unlessE]
theorem bookE_eq (n : Nat) (l : List St) : bookE n l = rBookE n l := by unfold bookE rBookE; rw [bookGo_err]

set_option maxRecDepth 100000 in
set_option maxHeartbeats 1000000 in
theorem rBookErr_any (l : List St) (a : Option Addr) (n c : Nat) (w : World) (hl : l.length = n) (hn : n ≤ 1000) (hr : Rd w 7 a n (cells7 l)) :
    Calls Tryd.prog 66 #[.slice a n c] w fun e w' => e = .returned (.int .i64 (rBookE n l)) ∧ Ext w w' := by
  by_cases h60 : 60 < n
  · rw [show rBookE n l = 8 from if_pos h60]
    go_enter Tryd.func66, Tryd.ntmps66
    go_wp2
    go_ret
    exact ⟨rfl, Ext.refl _⟩
  have HE : Hid (rBookE n l = unlessE (l.all okSt) 2) := if_neg h60
  have HL := Lib.hid hl
  have h60' : ¬ (60 : Int) < n := by omega
  clear hl
  go_enter Tryd.func66, Tryd.ntmps66
  go_wp2
  go_loopw [3] (fun i wr => ∃ (k : Nat), k ≤ n ∧ i = .int .i64 k ∧ Hid (l.all okSt = (l.drop k).all okSt) ∧ Ext w wr) (fun i _ => n - (intOf i).toNat)
  case atStart => exact ⟨0, Nat.zero_le _, rfl, rfl, Ext.refl _⟩
  case round =>
    obtain ⟨k, hk, rfl, hd, hx⟩ := hrel
    by_cases hlt : k < n
    · obtain ⟨b, o, rfl, hrow⟩ := (hr.ext hx).2 (by omega)
      have hkl : k < l.length := by rw [HL.out]; exact hlt
      obtain ⟨c0, c1, c2, c3, c4, c5, c6⟩ := cells7_row HL.out hrow hkl
      have hbb := hrow.1
      have hs : Hid ((l.drop k).all okSt = (okSt l[k] && (l.drop (k + 1)).all okSt)) := by
        show _ = _
        rw [List.drop_eq_getElem_cons hkl]; rfl
      generalize l[k] = s at *
      have HX := Lib.hid (rPhasesErr_any s.1)
      have HY := Lib.hid (rPhasesErr_any s.2.1)
      have HB := Lib.hid (bWithin_any s.2.2 0 1000)
      have hok : Hid (okSt s = ((p3L s.1).all (smallB · 100000) && (p3L s.2.1).all (smallB · 100000) && withinB s.2.2 0 1000)) := rfl
      unfold p3E at HX HY
      generalize (p3L s.1).all (smallB · 100000) = b1 at *
      generalize (p3L s.2.1).all (smallB · 100000) = b2 at *
      generalize withinB s.2.2 0 1000 = b3 at *
      cases b1 <;> cases b2 <;> cases b3
      all_goals
        simp only [unlessE, if_true, Bool.false_eq_true, if_false] at HX HY
        go_wp2_with (first | (go_at_call 69; (with_reducible refine (HX.out _).mono ?_); rintro e w3 ⟨rfl, hx3⟩; obtain ⟨hc3, hf3⟩ := bcell hx3; have hb3 : b < w3.heap.size := (by have := hx3.size; omega)) | (go_at_call 69; (with_reducible refine (HY.out _).mono ?_); rintro e w4 ⟨rfl, hx4⟩; obtain ⟨hc4, hf4⟩ := bcell hx4; have hb4 : b < w4.heap.size := (by have := hx4.size; omega)) | (go_at_call 22; (with_reducible refine (HB.out _).mono ?_); rintro e wz ⟨rfl, rfl⟩))
        first
          | (go_roundw
             case rel => exact ⟨k + 1, by omega, by go_num, by show _ = _; rw [hd.out, hs.out, hok.out]; rfl, by ((repeat' (first | with_reducible exact Ext.refl _ | with_reducible assumption | with_reducible exact Ext.one _ | with_reducible refine Ext.alloc ?_ _ | with_reducible refine Ext.setCell ?_ ?_ _ | with_reducible refine Ext.drew ?_ | ((with_reducible apply Ext.after'); (with_reducible assumption)))) <;> (try simp) <;> omega)⟩
             case measure => simp [intOf]; omega)
          | (go_ret
             exact ⟨ret_int (by rw [HE.out, hd.out, hs.out, hok.out]; rfl), by ((repeat' (first | with_reducible exact Ext.refl _ | with_reducible assumption | with_reducible exact Ext.one _ | with_reducible refine Ext.alloc ?_ _ | with_reducible refine Ext.setCell ?_ ?_ _ | with_reducible refine Ext.drew ?_ | ((with_reducible apply Ext.after'); (with_reducible assumption)))) <;> (try simp) <;> omega)⟩)
    · obtain rfl : k = n := by omega
      go_wp2
      go_ret
      exact ⟨ret_int (by rw [HE.out, hd.out, List.drop_eq_nil_of_le (by rw [HL.out]; omega)]; rfl), hx⟩

def rBook : List St → Int → Int → T2
  | [], f, g => (f, g)
  | s :: l, f, g => rBook l (wrap64 (f + powerW s.1 s.2.1)) (wrap64 (g + wrap64 (s.2.2 * powerW s.2.1 s.2.1)))
theorem rBook_eq : ∀ (l : List St) (f g : Int), l.all okSt = true → bookGo l f g = (rBook l f g, 0)
  | [], f, g, _ => rfl
  | s :: l, f, g, h => by
    simp only [List.all_cons, Bool.and_eq_true] at h
    unfold bookGo
    rw [stE_ok, h.1, show unlessE true 2 = 0 from rfl, if_pos rfl, rBook_eq l _ _ h.2]; rfl
def rBookV (l : List St) : T3 := ((rBook l 0 0).1, (rBook l 0 0).2, wrap64 ((rBook l 0 0).1 - (rBook l 0 0).2))

set_option maxRecDepth 100000 in
set_option maxHeartbeats 1000000 in
theorem rBookOf_any (l : List St) (a : Option Addr) (n c : Nat) (w : World) (hl : l.length = n) (hn : n ≤ 1000) (hr : Rd w 7 a n (cells7 l)) :
    Calls Tryd.prog 67 #[.slice a n c] w fun e w' => e = .returned (pV (rBookV l)) ∧ Ext w w' := by
  have HL := Lib.hid hl
  clear hl
  go_enter Tryd.func67, Tryd.ntmps67
  go_wp2
  go_loopw [4] (fun i wr => ∃ (k : Nat) (f g : Int), k ≤ n ∧ i = .int .i64 k ∧ Bx wr w.heap.size 92 #[.int .i64 0, .int .i64 0, .int .i64 0] ∧ Bx wr (w.heap.size + 1) 92 #[.int .i64 f, .int .i64 g, .int .i64 0] ∧ Hid (rBook l 0 0 = rBook (l.drop k) f g) ∧ Ext w wr) (fun i _ => n - (intOf i).toNat)
  case atStart => exact ⟨0, 0, 0, Nat.zero_le _, rfl, by (repeat' (first | with_reducible assumption | (with_reducible exact Bx.new _ _ _) | ((with_reducible refine Bx.new_at _ _ ?_); (simp; done)) | (with_reducible refine Bx.alloc ?_ _) | (with_reducible refine Bx.drew ?_) | ((with_reducible apply Bx.ext'); (with_reducible assumption)))), by (repeat' (first | with_reducible assumption | (with_reducible exact Bx.new _ _ _) | ((with_reducible refine Bx.new_at _ _ ?_); (simp; done)) | (with_reducible refine Bx.alloc ?_ _) | (with_reducible refine Bx.drew ?_) | ((with_reducible apply Bx.ext'); (with_reducible assumption)))), rfl, by ((repeat' (first | with_reducible exact Ext.refl _ | with_reducible assumption | with_reducible exact Ext.one _ | with_reducible refine Ext.alloc ?_ _ | with_reducible refine Ext.setCell ?_ ?_ _ | with_reducible refine Ext.drew ?_ | ((with_reducible apply Ext.after'); (with_reducible assumption)))) <;> (try simp) <;> omega)⟩
  case round =>
    obtain ⟨k, f, g, hk, rfl, hb0, hb1, hd, hx⟩ := hrel
    have x0 : _ = some _ := hb0.cell 0; have x1 : _ = some _ := hb0.cell 1; have x2 : _ = some _ := hb0.cell 2; have xf0 := hb0.frz 0; have xf1 := hb0.frz 1; have xf2 := hb0.frz 2; have xl := hb0.lt
    have y0 : _ = some _ := hb1.cell 0; have y1 : _ = some _ := hb1.cell 1; have y2 : _ = some _ := hb1.cell 2; have yf0 := hb1.frz 0; have yf1 := hb1.frz 1; have yf2 := hb1.frz 2; have yl := hb1.lt
    by_cases hlt : k < n
    · obtain ⟨b, o, rfl, hrow⟩ := (hr.ext hx).2 (by omega)
      have hkl : k < l.length := by rw [HL.out]; exact hlt
      obtain ⟨c0, c1, c2, c3, c4, c5, c6⟩ := cells7_row HL.out hrow hkl
      have hbb := hrow.1
      have hs : Hid (rBook (l.drop k) f g = rBook (l.drop (k + 1)) (wrap64 (f + powerW l[k].1 l[k].2.1)) (wrap64 (g + wrap64 (l[k].2.2 * powerW l[k].2.1 l[k].2.1)))) := by
        show _ = _
        rw [List.drop_eq_getElem_cons hkl]; rfl
      generalize hls : l[k] = s at *
      have HLS := Lib.hid hls
      clear hls
      have HP := Lib.hid (rPowerOf_any s.1 s.2.1)
      have HQ := Lib.hid (rPowerOf_any s.2.1 s.2.1)
      go_wp2
      apply wp_region_env 15 (SF.is _ :: SF.is _ :: SF.is _ :: SF.is _ :: SF.is _ :: SF.is _ :: SF.is _ :: SF.is _ :: SF.is _ :: SF.is _ :: SF.is _ :: SF.is _ :: SF.is _ :: SF.is _ :: SF.is _ :: []) (some 11 :: some 12 :: some 13 :: some 14 :: some 15 :: some 16 :: some 17 :: some 18 :: some 19 :: some 20 :: some 21 :: some 22 :: some 23 :: some 24 :: some 25 :: []) (by kernel_rfl) (by kernel_rfl) (by kernel_rfl) (by kernel_rfl) (fun V e0 hSl => ?steps) (fun V w1 hx_w1 hf_w1 => ?tail)
      case steps =>
        have he3 := hSl 3
        have he0 := hSl 0
        have he4 := hSl 4
        clear hSl
        simp only [Array.getD_eq_getD_getElem?, List.getElem?_toArray, List.getElem?_cons_succ, List.getElem?_cons_zero, Option.getD_some] at he3 he0 he4
        (refine stepE_is _ rfl rfl (ex_fieldAddr he3) ?_ ?_; (· intro w2 hx; go_simp; (try simp only [wrap_eq]); exact isF (Ext.refl _)))
        (refine stepE_is _ rfl rfl (ex_load ev_h) ?_ ?_; (· intro w2 hx; obtain ⟨hc, hfz⟩ := bcell hx; go_simp; (try simp only [wrap_eq]); exact isF (Ext.refl _)))
        refine stepE_val rfl rfl (ex_move he0) ?_
        refine stepE_val rfl rfl (ex_move he4) ?_
        (refine stepE_is _ rfl rfl (ex_indexAddr (ev_m rfl ev_h) ev_h) ?_ ?_; (· intro w2 hx; go_simp; (try simp only [wrap_eq]); exact isF (Ext.refl _)))
        (refine stepE_is _ rfl rfl (ex_fieldAddr ev_h) ?_ ?_; (· intro w2 hx; go_simp; (try simp only [wrap_eq]); exact isF (Ext.refl _)))
        (refine stepE_is _ rfl rfl (ex_load ev_h) ?_ ?_; (· intro w2 hx; obtain ⟨hc, hfz⟩ := bcell hx; go_simp; (try simp only [wrap_eq]); exact isF (Ext.refl _)))
        refine stepE_val rfl rfl (ex_move he0) ?_
        refine stepE_val rfl rfl (ex_move he4) ?_
        (refine stepE_is _ rfl rfl (ex_indexAddr (ev_m rfl ev_h) ev_h) ?_ ?_; (· intro w2 hx; go_simp; (try simp only [wrap_eq]); exact isF (Ext.refl _)))
        (refine stepE_is _ rfl rfl (ex_fieldAddr ev_h) ?_ ?_; (· intro w2 hx; go_simp; (try simp only [wrap_eq]); exact isF (Ext.refl _)))
        (refine stepE_is _ rfl rfl (ex_load ev_h) ?_ ?_; (· intro w2 hx; obtain ⟨hc, hfz⟩ := bcell hx; go_simp; (try simp only [wrap_eq]); exact isF (Ext.refl _)))
        (refine stepE_is _ rfl rfl (ex_call rfl (ex_arg (ev_m rfl (ev_m rfl (ev_m rfl (ev_m rfl (ev_m rfl ev_h))))) (ex_arg ev_h ex_arg0))) ?_ ?_; (· intro w2 hx; refine rel_call (fun _ _ => by kernel_rfl) ?_; ((with_reducible refine CallTo.of (HP.out _) ?_); exact fun _ _ => rfl)))
        (refine stepE_is _ rfl rfl (ex_binOp (ev_m rfl (ev_m rfl (ev_m rfl (ev_m rfl (ev_m rfl (ev_m rfl (ev_m rfl (ev_m rfl (ev_m rfl (ev_m rfl (ev_m rfl ev_h))))))))))) ev_h) ?_ ?_; (· intro w2 hx; go_simp; (try simp only [wrap_eq]); exact isF (Ext.refl _)))
        (refine stepE_is _ rfl rfl (ex_fieldAddr he3) ?_ ?_; (· intro w2 hx; go_simp; (try simp only [wrap_eq]); exact isF (Ext.refl _)))
        exact trivial
      case tail =>
      rw [putsD_R_BookOf_5]
      clear hf_w1; have hf_w1 : True := trivial
      simp only [List.take, Region.binds, mode_text, mode_gc, if_true, true_and, Bool.false_eq_true, if_false, List.drop, StepsU, StepsG, putsAll, FactsAt, Fs, val, List.getD_cons_zero, List.getD_cons_succ, List.getD_nil, SF.is, SF.rd, SF.any, SF.box, Option.getD_some, Option.getD_none, Act.put, List.setIfInBounds_toArray, List.set_cons_zero, List.set_cons_succ] at ⊢
      obtain ⟨hc_w1, hfz_w1⟩ := bcell hx_w1
      clear hf_w1
      have hb0' := hb0.ext hx_w1
      have hb1' := hb1.ext hx_w1
      clear hc_w1 hfz_w1 x0 x1 x2 xf0 xf1 xf2 xl y0 y1 y2 yf0 yf1 yf2 yl c0 c1 c2 c3 c4 c5 c6 hbb hrow
      have y0 : _ = some _ := hb1'.cell 0; have y1 : _ = some _ := hb1'.cell 1; have y2 : _ = some _ := hb1'.cell 2; have yf0 := hb1'.frz 0; have yf1 := hb1'.frz 1; have yf2 := hb1'.frz 2; have yl := hb1'.lt
      go_upto_region 6 with fail
      have hb1a := hb1'.set30 (.int .i64 (wrap64 (f + powerW s.1 s.2.1)))
      have hb0a := hb0'.other (p := ⟨w.heap.size + 1, 0, none⟩) (by simp) (.int .i64 (wrap64 (f + powerW s.1 s.2.1)))
      have hxa : Ext w (w1.setCell ⟨w.heap.size + 1, 0, none⟩ (.int .i64 (wrap64 (f + powerW s.1 s.2.1)))) := (hx.trans hx_w1).setCell (by simp) _
      generalize w1.setCell ⟨w.heap.size + 1, 0, none⟩ (.int .i64 (wrap64 (f + powerW s.1 s.2.1))) = w3 at *
      clear y0 y1 y2 yf0 yf1 yf2 yl
      have y0 : _ = some _ := hb1a.cell 0; have y1 : _ = some _ := hb1a.cell 1; have y2 : _ = some _ := hb1a.cell 2; have yf0 := hb1a.frz 0; have yf1 := hb1a.frz 1; have yf2 := hb1a.frz 2; have yl := hb1a.lt
      obtain ⟨b', o', e, hrow⟩ := (hr.ext hxa).2 (by omega)
      cases e
      obtain ⟨c0, c1, c2, c3, c4, c5, c6⟩ := cells7_row HL.out hrow hkl
      have hbb := hrow.1
      rw [HLS.out] at c0 c1 c2 c3 c4 c5 c6
      go_wp2
      apply wp_region_env 21 (SF.is _ :: SF.is _ :: SF.is _ :: SF.is _ :: SF.is _ :: SF.is _ :: SF.is _ :: SF.is _ :: SF.is _ :: SF.is _ :: SF.is _ :: SF.is _ :: SF.is _ :: SF.is _ :: SF.is _ :: SF.is _ :: SF.is _ :: SF.is _ :: SF.is _ :: SF.is _ :: SF.is _ :: []) (some 26 :: some 27 :: some 28 :: some 29 :: some 30 :: some 31 :: some 32 :: some 33 :: some 34 :: some 35 :: some 36 :: some 37 :: some 38 :: some 39 :: some 40 :: some 41 :: some 42 :: some 43 :: some 44 :: some 45 :: some 46 :: []) (by kernel_rfl) (by kernel_rfl) (by kernel_rfl) (by kernel_rfl) (fun V e0 hSl => ?steps) (fun V w4 hx_w4 hf_w4 => ?tail)
      case steps =>
        have he3 := hSl 3
        have he0 := hSl 0
        have he4 := hSl 4
        clear hSl
        simp only [Array.getD_eq_getD_getElem?, List.getElem?_toArray, List.getElem?_cons_succ, List.getElem?_cons_zero, Option.getD_some] at he3 he0 he4
        (refine stepE_is _ rfl rfl (ex_fieldAddr he3) ?_ ?_; (· intro w2 hx; go_simp; (try simp only [wrap_eq]); exact isF (Ext.refl _)))
        (refine stepE_is _ rfl rfl (ex_load ev_h) ?_ ?_; (· intro w2 hx; obtain ⟨hc, hfz⟩ := bcell hx; go_simp; (try simp only [wrap_eq]); exact isF (Ext.refl _)))
        refine stepE_val rfl rfl (ex_move he0) ?_
        refine stepE_val rfl rfl (ex_move he4) ?_
        (refine stepE_is _ rfl rfl (ex_indexAddr (ev_m rfl ev_h) ev_h) ?_ ?_; (· intro w2 hx; go_simp; (try simp only [wrap_eq]); exact isF (Ext.refl _)))
        (refine stepE_is _ rfl rfl (ex_fieldAddr ev_h) ?_ ?_; (· intro w2 hx; go_simp; (try simp only [wrap_eq]); exact isF (Ext.refl _)))
        (refine stepE_is _ rfl rfl (ex_load ev_h) ?_ ?_; (· intro w2 hx; obtain ⟨hc, hfz⟩ := bcell hx; go_simp; (try simp only [wrap_eq]); exact isF (Ext.refl _)))
        refine stepE_val rfl rfl (ex_move he0) ?_
        refine stepE_val rfl rfl (ex_move he4) ?_
        (refine stepE_is _ rfl rfl (ex_indexAddr (ev_m rfl ev_h) ev_h) ?_ ?_; (· intro w2 hx; go_simp; (try simp only [wrap_eq]); exact isF (Ext.refl _)))
        (refine stepE_is _ rfl rfl (ex_fieldAddr ev_h) ?_ ?_; (· intro w2 hx; go_simp; (try simp only [wrap_eq]); exact isF (Ext.refl _)))
        (refine stepE_is _ rfl rfl (ex_load ev_h) ?_ ?_; (· intro w2 hx; obtain ⟨hc, hfz⟩ := bcell hx; go_simp; (try simp only [wrap_eq]); exact isF (Ext.refl _)))
        refine stepE_val rfl rfl (ex_move he0) ?_
        refine stepE_val rfl rfl (ex_move he4) ?_
        (refine stepE_is _ rfl rfl (ex_indexAddr (ev_m rfl ev_h) ev_h) ?_ ?_; (· intro w2 hx; go_simp; (try simp only [wrap_eq]); exact isF (Ext.refl _)))
        (refine stepE_is _ rfl rfl (ex_fieldAddr ev_h) ?_ ?_; (· intro w2 hx; go_simp; (try simp only [wrap_eq]); exact isF (Ext.refl _)))
        (refine stepE_is _ rfl rfl (ex_load ev_h) ?_ ?_; (· intro w2 hx; obtain ⟨hc, hfz⟩ := bcell hx; go_simp; (try simp only [wrap_eq]); exact isF (Ext.refl _)))
        (refine stepE_is _ rfl rfl (ex_call rfl (ex_arg (ev_m rfl (ev_m rfl (ev_m rfl (ev_m rfl (ev_m rfl ev_h))))) (ex_arg ev_h ex_arg0))) ?_ ?_; (· intro w2 hx; refine rel_call (fun _ _ => by kernel_rfl) ?_; ((with_reducible refine CallTo.of (HQ.out _) ?_); exact fun _ _ => rfl)))
        (refine stepE_is _ rfl rfl (ex_binOp (ev_m rfl (ev_m rfl (ev_m rfl (ev_m rfl (ev_m rfl (ev_m rfl (ev_m rfl (ev_m rfl (ev_m rfl (ev_m rfl (ev_m rfl ev_h))))))))))) ev_h) ?_ ?_; (· intro w2 hx; go_simp; (try simp only [wrap_eq]); exact isF (Ext.refl _)))
        (refine stepE_is _ rfl rfl (ex_binOp (ev_m rfl (ev_m rfl (ev_m rfl (ev_m rfl (ev_m rfl (ev_m rfl (ev_m rfl (ev_m rfl (ev_m rfl (ev_m rfl (ev_m rfl (ev_m rfl (ev_m rfl (ev_m rfl (ev_m rfl (ev_m rfl (ev_m rfl ev_h))))))))))))))))) ev_h) ?_ ?_; (· intro w2 hx; go_simp; (try simp only [wrap_eq]); exact isF (Ext.refl _)))
        (refine stepE_is _ rfl rfl (ex_fieldAddr he3) ?_ ?_; (· intro w2 hx; go_simp; (try simp only [wrap_eq]); exact isF (Ext.refl _)))
        exact trivial
      case tail =>
      rw [putsD_R_BookOf_6]
      clear hf_w4; have hf_w4 : True := trivial
      simp only [List.take, Region.binds, mode_text, mode_gc, if_true, true_and, Bool.false_eq_true, if_false, List.drop, StepsU, StepsG, putsAll, FactsAt, Fs, val, List.getD_cons_zero, List.getD_cons_succ, List.getD_nil, SF.is, SF.rd, SF.any, SF.box, Option.getD_some, Option.getD_none, Act.put, List.setIfInBounds_toArray, List.set_cons_zero, List.set_cons_succ] at ⊢
      obtain ⟨hc_w4, hfz_w4⟩ := bcell hx_w4
      clear hf_w4
      have hb1b := hb1a.ext hx_w4
      have hb0b := hb0a.ext hx_w4
      clear hc_w4 hfz_w4 y0 y1 y2 yf0 yf1 yf2 yl c0 c1 c2 c3 c4 c5 c6 hbb hrow
      have y0 : _ = some _ := hb1b.cell 0; have y1 : _ = some _ := hb1b.cell 1; have y2 : _ = some _ := hb1b.cell 2; have yf0 := hb1b.frz 0; have yf1 := hb1b.frz 1; have yf2 := hb1b.frz 2; have yl := hb1b.lt
      go_wp2
      go_roundw
      case rel => exact ⟨k + 1, _, _, by omega, by go_num, hb0b.other (by simp) _, hb1b.set31 _, by show _ = _; rw [hd.out, hs.out], (hxa.trans hx_w4).setCell (by simp) _⟩
      case measure => simp [intOf]; omega
    · obtain rfl : k = n := by omega
      go_wp2
      refine bodyPost_ret (v := pV (f, g, wrap64 (f - g))) (by simp [results, Tryd.results67, go_sem, x0, x1, x2, xf0, xf1, xf2, xl]) rfl ⟨?_, by ((repeat' (first | with_reducible exact Ext.refl _ | with_reducible assumption | with_reducible exact Ext.one _ | with_reducible refine Ext.alloc ?_ _ | with_reducible refine Ext.setCell ?_ ?_ _ | with_reducible refine Ext.drew ?_ | ((with_reducible apply Ext.after'); (with_reducible assumption)))) <;> (try simp) <;> omega)⟩
      have e : rBook l 0 0 = (f, g) := by rw [hd.out, List.drop_eq_nil_of_le (by rw [HL.out]; omega)]; rfl
      unfold rBookV; rw [e]
end Go.Proofs.YtdbglpaejmhbjaaDoor
