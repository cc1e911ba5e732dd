/- Walks: phases, their vectors, powers. -/
import Derived.Test.YtdbglpaejmhbjaaDoorF1
import Derived.Test.YtdbglpaejmhbjaaDoorOwn
namespace Go.Proofs.YtdbglpaejmhbjaaDoor
open Go Go.RowKit Go.Proofs
set_option linter.unusedSimpArgs false
set_option linter.unusedVariables false

theorem wrap_wrap (n : Int) : wrap64 (wrap64 n) = wrap64 n := by unfold wrap64; omega
def p3L (x : T3) : List Int := [x.1, x.2.1, x.2.2]
def p3E (x : T3) : Int := unlessE ((p3L x).all (smallB · 100000)) 2
def ok3 (E : Int) (v : T3) : T3 := if E = 0 then v else (0, 0, 0)
theorem p3_rd {w : World} {B : Nat} {t : TypeId} {x : T3} (h : Bx w B t #[.int .i64 x.1, .int .i64 x.2.1, .int .i64 x.2.2]) : Rd w 1 (some ⟨B, 0, none⟩) 3 (ints (p3L x)) := h.rd 1 3 rfl
theorem phases_p3 (x : T3) (B : Nat) (t : TypeId) (w : World) (h : Bx w B t #[.int .i64 x.1, .int .i64 x.2.1, .int .i64 x.2.2]) :
    Calls Tryd.prog 115 #[.slice (some ⟨B, 0, none⟩) 3 3] w fun e w' => e = .returned (.int .i64 (p3E x)) ∧ Ext w w' := phases_any (p3L x) _ 3 3 w rfl (by omega) (p3_rd h)

set_option maxRecDepth 100000 in
set_option maxHeartbeats 1000000 in
theorem rPhasesErr_any (x : T3) (w : World) : Calls Tryd.prog 69 #[pV x] w fun e w' => e = .returned (.int .i64 (p3E x)) ∧ Ext w w' := by
  have HP := Lib.hid (show ∀ w1, Bx w1 w.heap.size 98 #[.int .i64 x.1, .int .i64 x.2.1, .int .i64 x.2.2] → Calls Tryd.prog 117 #[.slice (some ⟨w.heap.size, 0, none⟩) 3 3] w1 fun e w' => e = .returned (.int .i64 (p3E x)) ∧ w1 = w' from fun w1 h => rnumbersErr_any (p3L x) _ 3 3 w1 rfl (by omega) (p3_rd h))
  go_enter Tryd.func69, Tryd.ntmps69
  go_wp2_with (first | (go_at_call 117; (with_reducible refine (HP.out _ (by (repeat' (first | with_reducible assumption | (with_reducible exact Bx.new _ _ _) | ((with_reducible refine Bx.new_at _ _ ?_); (simp; done)) | (with_reducible refine Bx.alloc ?_ _) | (with_reducible refine Bx.drew ?_) | ((with_reducible apply Bx.ext'); (with_reducible assumption)))))).mono ?_); rintro e w3 ⟨rfl, rfl⟩))
  go_ret
  exact ⟨rfl, by ((repeat' (first | with_reducible exact Ext.refl _ | with_reducible assumption | with_reducible exact Ext.one _ | with_reducible refine Ext.alloc ?_ _ | with_reducible refine Ext.setCell ?_ ?_ _ | with_reducible refine Ext.drew ?_ | ((with_reducible apply Ext.after'); (with_reducible assumption)))) <;> (try simp) <;> omega)⟩
set_option maxRecDepth 100000 in
set_option maxHeartbeats 1000000 in
theorem vectorOf_any (x : T3) (w : World) : Calls Tryd.prog 71 #[pV x] w fun e w' => e = .returned (.tuple #[tV (okV (p3E x) (ofW x)), .int .i64 (p3E x)]) ∧ Ext w w' := by
  have HP := Lib.hid (fun w1 (h : Bx w1 w.heap.size 98 #[.int .i64 x.1, .int .i64 x.2.1, .int .i64 x.2.2]) => phases_p3 x w.heap.size _ w1 h)
  have HO := Lib.hid (of_any x)
  generalize hE : p3E x = E at *
  have HE := Lib.hid hE
  clear hE
  go_enter Tryd.func71, Tryd.ntmps71
  go_wp2_with (first | (go_at_call 115; (with_reducible refine (HP.out _ (by (repeat' (first | with_reducible assumption | (with_reducible exact Bx.new _ _ _) | ((with_reducible refine Bx.new_at _ _ ?_); (simp; done)) | (with_reducible refine Bx.alloc ?_ _) | (with_reducible refine Bx.drew ?_) | ((with_reducible apply Bx.ext'); (with_reducible assumption)))))).mono ?_); rintro e w3 ⟨rfl, hx3⟩; obtain ⟨hc3, hf3⟩ := bcell hx3; have hzw3_0 : w.heap.size < w3.heap.size := (by have := hx3.size; (try simp at this); omega); have hzw3_1 : w.heap.size + 1 < w3.heap.size := (by have := hx3.size; (try simp at this); omega)) | (go_at_call 118; (with_reducible refine (HO.out _).mono ?_); rintro e w4 ⟨rfl, hx4⟩; obtain ⟨hc4, hf4⟩ := bcell hx4; have hzw4_0 : w.heap.size < w4.heap.size := (by have := hx4.size; (try simp at this); omega); have hzw4_1 : w.heap.size + 1 < w4.heap.size := (by have := hx4.size; (try simp at this); omega)))
  · refine bodyPost_ret (v := .tuple #[tV (0, 0), .int .i64 E]) (by simp [results, Tryd.results71, go_sem, hc3, hzw3_0, hzw3_1]) rfl ⟨?_, by ((repeat' (first | with_reducible exact Ext.refl _ | with_reducible assumption | with_reducible exact Ext.one _ | with_reducible refine Ext.alloc ?_ _ | with_reducible refine Ext.setCell ?_ ?_ _ | with_reducible refine Ext.drew ?_ | ((with_reducible apply Ext.after'); (with_reducible assumption)))) <;> (try simp) <;> omega)⟩
    simp_all [okV]
  · have hb : Bx w3 (w.heap.size + 1) 24 #[.int .i64 0, .int .i64 0] := by (repeat' (first | with_reducible assumption | (with_reducible exact Bx.new _ _ _) | ((with_reducible refine Bx.new_at _ _ ?_); (simp; done)) | (with_reducible refine Bx.alloc ?_ _) | (with_reducible refine Bx.drew ?_) | ((with_reducible apply Bx.ext'); (with_reducible assumption))))
    obtain ⟨b0, b1, b2, b3, b4⟩ := (hb.ext hx4).at2
    refine bodyPost_ret (v := .tuple #[tV (ofW x), .int .i64 0]) (by simp [results, Tryd.results71, go_sem, b0, b1, b2, b3, b4]) rfl ⟨?_, by ((repeat' (first | with_reducible exact Ext.refl _ | with_reducible assumption | with_reducible exact Ext.one _ | with_reducible refine Ext.alloc ?_ _ | with_reducible refine Ext.setCell ?_ ?_ _ | with_reducible refine Ext.drew ?_ | ((with_reducible apply Ext.after'); (with_reducible assumption)))) <;> (try simp) <;> omega)⟩
    simp_all [okV]
set_option maxRecDepth 100000 in
set_option maxHeartbeats 1000000 in
theorem phasesOf_any (v : T2) (w : World) : Calls Tryd.prog 74 #[tV v] w fun e w' => e = .returned (.tuple #[pV (ok3 (unlessE (rightB v) 2) (splitW v)), .int .i64 (unlessE (rightB v) 2)]) ∧ Ext w w' := by
  have HO := Lib.hid (split_any v)
  have HR := Lib.hid (fun t w A hA => rightOf1 v t w A hA)
  generalize hE : unlessE (rightB v) 2 = E at *
  have HE := Lib.hid hE
  clear hE
  go_enter Tryd.func74, Tryd.ntmps74
  go_wp2_with (first | (go_at_call 82; (with_reducible refine (HR.out _ _ _ (by simp)).mono ?_); rintro e w3 ⟨rfl, hx3⟩; obtain ⟨hc3, hf3⟩ := bcell hx3; have hzw3_0 : w.heap.size < w3.heap.size := (by have := hx3.size; (try simp at this); omega); have hzw3_1 : w.heap.size + 1 < w3.heap.size := (by have := hx3.size; (try simp at this); omega)) | (go_at_call 99; (with_reducible refine (HO.out _).mono ?_); rintro e w4 ⟨rfl, hx4⟩; obtain ⟨hc4, hf4⟩ := bcell hx4; have hzw4_0 : w.heap.size < w4.heap.size := (by have := hx4.size; (try simp at this); omega); have hzw4_1 : w.heap.size + 1 < w4.heap.size := (by have := hx4.size; (try simp at this); omega)))
  · have hb : Bx w3 (w.heap.size + 1) 98 #[.int .i64 0, .int .i64 0, .int .i64 0] := by (repeat' (first | with_reducible assumption | (with_reducible exact Bx.new _ _ _) | ((with_reducible refine Bx.new_at _ _ ?_); (simp; done)) | (with_reducible refine Bx.alloc ?_ _) | (with_reducible refine Bx.drew ?_) | ((with_reducible apply Bx.ext'); (with_reducible assumption))))
    obtain ⟨b0, b1, b2, b3, b4, b5, b6⟩ := hb.at3
    refine bodyPost_ret (v := .tuple #[pV (0, 0, 0), .int .i64 E]) (by simp [results, Tryd.results74, go_sem, b0, b1, b2, b3, b4, b5, b6]) rfl ⟨?_, by ((repeat' (first | with_reducible exact Ext.refl _ | with_reducible assumption | with_reducible exact Ext.one _ | with_reducible refine Ext.alloc ?_ _ | with_reducible refine Ext.setCell ?_ ?_ _ | with_reducible refine Ext.drew ?_ | ((with_reducible apply Ext.after'); (with_reducible assumption)))) <;> (try simp) <;> omega)⟩
    simp_all [ok3]
  · have hb : Bx w3 (w.heap.size + 1) 98 #[.int .i64 0, .int .i64 0, .int .i64 0] := by (repeat' (first | with_reducible assumption | (with_reducible exact Bx.new _ _ _) | ((with_reducible refine Bx.new_at _ _ ?_); (simp; done)) | (with_reducible refine Bx.alloc ?_ _) | (with_reducible refine Bx.drew ?_) | ((with_reducible apply Bx.ext'); (with_reducible assumption))))
    obtain ⟨b0, b1, b2, b3, b4, b5, b6⟩ := (hb.ext hx4).at3
    refine bodyPost_ret (v := .tuple #[pV (splitW v), .int .i64 0]) (by simp [results, Tryd.results74, go_sem, b0, b1, b2, b3, b4, b5, b6]) rfl ⟨?_, by ((repeat' (first | with_reducible exact Ext.refl _ | with_reducible assumption | with_reducible exact Ext.one _ | with_reducible refine Ext.alloc ?_ _ | with_reducible refine Ext.setCell ?_ ?_ _ | with_reducible refine Ext.drew ?_ | ((with_reducible apply Ext.after'); (with_reducible assumption)))) <;> (try simp) <;> omega)⟩
    simp_all [ok3]
set_option maxRecDepth 100000 in
set_option maxHeartbeats 1000000 in
theorem power_any (x y : T3) (w : World) : Calls Tryd.prog 116 #[pV x, pV y] w fun e w' => e = .returned (.int .i64 (powerW x y)) ∧ Ext w w' := by
  have i0 : ∀ w, (Instr.index 98 (pV x) (.int .i64 0)).run Tryd.prog w = .ok (.int .i64 x.1) w := fun _ => by kernel_rfl
  have i1 : ∀ w, (Instr.index 98 (pV x) (.int .i64 1)).run Tryd.prog w = .ok (.int .i64 x.2.1) w := fun _ => by kernel_rfl
  have i2 : ∀ w, (Instr.index 98 (pV x) (.int .i64 2)).run Tryd.prog w = .ok (.int .i64 x.2.2) w := fun _ => by kernel_rfl
  go_enter Tryd.func116, Tryd.ntmps116
  go_wp2
  refine wp_loop_rounds 4 ?_
  repeat any_goals (rw [rounds_succ]; go_wp2)
  go_ret
  exact ⟨ret_int (by rw [wrap_wrap]; rfl), by ((repeat' (first | with_reducible exact Ext.refl _ | with_reducible assumption | with_reducible exact Ext.one _ | with_reducible refine Ext.alloc ?_ _ | with_reducible refine Ext.setCell ?_ ?_ _ | with_reducible refine Ext.drew ?_ | ((with_reducible apply Ext.after'); (with_reducible assumption)))) <;> (try simp) <;> omega)⟩
set_option maxRecDepth 100000 in
set_option maxHeartbeats 1000000 in
theorem powerOf_any (x y : T3) (w : World) : Calls Tryd.prog 68 #[pV x, pV y] w fun e w' => e = .returned (.tuple #[.int .i64 (okI (firstE [p3E x, p3E y]) (powerW x y)), .int .i64 (firstE [p3E x, p3E y])]) ∧ Ext w w' := by
  have HP := Lib.hid (fun w1 (h : Bx w1 w.heap.size 98 #[.int .i64 x.1, .int .i64 x.2.1, .int .i64 x.2.2]) => phases_p3 x w.heap.size _ w1 h)
  have HQ := Lib.hid (fun w1 (h : Bx w1 (w.heap.size + 1) 98 #[.int .i64 y.1, .int .i64 y.2.1, .int .i64 y.2.2]) => phases_p3 y (w.heap.size + 1) _ w1 h)
  have HO := Lib.hid (power_any x y)
  generalize p3E x = E at *
  generalize p3E y = F at *
  go_enter Tryd.func68, Tryd.ntmps68
  go_wp2
  apply wp_region_ext 6 [.is _, .is _, .is _, .is _, .rd 1 2 (ints [_, _]), .is _] (by kernel_rfl) (by kernel_rfl) (by kernel_rfl) (fun V => ?steps) (fun V w1 hx_w1 hf_w1 => ?tail)
  case steps =>
    simp only [List.take, Region.binds, mode_text, mode_gc, if_true, true_and, Bool.false_eq_true, if_false, List.drop, StepsU, StepsG, putsAll, FactsAt, Fs, val, List.getD_cons_zero, List.getD_cons_succ, List.getD_nil, SF.is, SF.rd, SF.any, SF.box, Option.getD_some, Option.getD_none, Act.put, List.setIfInBounds_toArray, List.set_cons_zero, List.set_cons_succ]
    refine ⟨?_, ?_, ?_, ?_, ?_, ?_, trivial⟩ <;> (intro w2 hx hf; obtain ⟨hc, hfz⟩ := bcell hx; go_simp; (try simp only [wrap_eq]); first
      | exact Post.mk rfl (Ext.refl _)
      | rfl
      | (refine Post.mk ?_ (Ext.refl _); (simp <;> omega); done)
      | exact Post.mk ⟨_, _, rfl, Nat.le_refl _, Rd.new _ _ _ _ _ rfl⟩ ((Ext.refl _).alloc _)
      | (refine Post.mk ⟨_, rfl, ?_, Bx.new _ _ _⟩ ((Ext.refl _).alloc _); have := hx.size; (try simp at this); (try simp); omega)
      | ((with_reducible refine CallTo.of (HP.out _ (by (repeat' (first | with_reducible assumption | (with_reducible exact Bx.new _ _ _) | ((with_reducible refine Bx.new_at _ _ ?_); (simp; done)) | (with_reducible refine Bx.alloc ?_ _) | (with_reducible refine Bx.drew ?_) | ((with_reducible apply Bx.ext'); (with_reducible assumption)))))) ?_); exact fun _ _ => rfl)
      | ((with_reducible refine CallTo.of (HQ.out _ (by (repeat' (first | with_reducible assumption | (with_reducible exact Bx.new _ _ _) | ((with_reducible refine Bx.new_at _ _ ?_); (simp; done)) | (with_reducible refine Bx.alloc ?_ _) | (with_reducible refine Bx.drew ?_) | ((with_reducible apply Bx.ext'); (with_reducible assumption)))))) ?_); exact fun _ _ => rfl)
      | (obtain ⟨ha, -⟩ := hf; obtain ⟨a2, c2, e2, h2, h3⟩ := ha; rw [e2]; (with_reducible refine CallTo.same (first_any _ _ _ _ _ rfl (Nat.le_of_ble_eq_true rfl) h3) ?_); rfl))
  case tail =>
  simp only [FactsTo, List.take, Region.binds, mode_text, mode_gc, if_true, true_and, Bool.false_eq_true, if_false, List.drop, StepsU, StepsG, putsAll, FactsAt, Fs, val, List.getD_cons_zero, List.getD_cons_succ, List.getD_nil, SF.is, SF.rd, SF.any, SF.box, Option.getD_some, Option.getD_none, Act.put, List.setIfInBounds_toArray, List.set_cons_zero, List.set_cons_succ] at hf_w1 ⊢
  obtain ⟨hc_w1, hfz_w1⟩ := bcell hx_w1
  clear hf_w1
  have hzw1_0 : w.heap.size < w1.heap.size := (by have := hx_w1.size; (try simp at this); omega); have hzw1_1 : w.heap.size + 1 < w1.heap.size := (by have := hx_w1.size; (try simp at this); omega)
  generalize hG : firstE [E, F] = G
  go_wp2_with (first | (go_at_call 116; (with_reducible refine (HO.out _).mono ?_); rintro e w4 ⟨rfl, hx4⟩; obtain ⟨hc4, hf4⟩ := bcell hx4; have hzw4_0 : w.heap.size < w4.heap.size := (by have := hx4.size; (try simp at this); omega); have hzw4_1 : w.heap.size + 1 < w4.heap.size := (by have := hx4.size; (try simp at this); omega)))
  all_goals
    go_ret2
    (refine ⟨?_, by ((repeat' (first | with_reducible exact Ext.refl _ | with_reducible assumption | with_reducible exact Ext.one _ | with_reducible refine Ext.alloc ?_ _ | with_reducible refine Ext.setCell ?_ ?_ _ | with_reducible refine Ext.drew ?_ | ((with_reducible apply Ext.after'); (with_reducible assumption)))) <;> (try simp) <;> omega)⟩; ((try simp_all [okI]) <;> (try ((repeat' split) <;> omega))))
end Go.Proofs.YtdbglpaejmhbjaaDoor
