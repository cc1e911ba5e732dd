/- Walks: near vectors, nearest states, as specified and in the program. -/
import Derived.Test.YtdbglpaejmhbjaaDoorN1
import Derived.Test.YtdbglpaejmhbjaaDoorV1
import Derived.Test.YtdbglpaejmhbjaaDoorP1
namespace Go.Proofs.YtdbglpaejmhbjaaDoor
open Go Go.RowKit Go.Proofs
set_option linter.unusedSimpArgs false
set_option linter.unusedVariables false

def scaledE (s : Int) (v : T2) : Int := firstE [unlessE (withinB s 1 100000) 2, unlessE (rightB v) 2]
def nearB (s : Int) (v : T2) : Bool := (p3L (splitW v)).all (smallB · s)
theorem scaledOf1 (s : Int) (v : T2) (t : TypeId) (w : World) (A : Nat) (hA : A = w.heap.size) : Calls Tryd.prog 98 #[.int .i64 s, .slice (some ⟨A, 0, none⟩) 1 1] (w.alloc (.cells #[.int .i64 v.1, .int .i64 v.2] t)) fun e w' => e = .returned (.int .i64 (scaledE s v)) ∧ Ext (w.alloc (.cells #[.int .i64 v.1, .int .i64 v.2] t)) w' := by
  subst hA
  have h := scaled_any s [v] (some ⟨w.heap.size, 0, none⟩) 1 1 (w.alloc (.cells #[.int .i64 v.1, .int .i64 v.2] t)) rfl (by omega) (Rd.new w 2 1 #[.int .i64 v.1, .int .i64 v.2] t rfl)
  simpa [scaledE] using h
set_option maxRecDepth 100000 in
set_option maxHeartbeats 1000000 in
theorem isNear_any (s : Int) (v : T2) (w : World) : Calls Tryd.prog 35 #[.int .i64 s, tV v] w fun e w' => e = .returned (.tuple #[.bool (okB (scaledE s v) (nearB s v)), .int .i64 (scaledE s v)]) ∧ Ext w w' := by
  have HS := Lib.hid (scaledOf1 s v)
  have HP := Lib.hid (split_any v)
  have HC := Lib.hid (show ∀ (B : Nat) (w1 : World), Bx w1 w.heap.size 3 #[.int .i64 s] → Bx w1 B 98 #[.int .i64 (splitW v).1, .int .i64 (splitW v).2.1, .int .i64 (splitW v).2.2] →
      Calls Tryd.prog 100 #[.slice (some ⟨B, 0, none⟩) 3 3, .func (.func 101) #[] #[.pointer (some ⟨w.heap.size, 0, none⟩)]] w1 fun e w' => e = .returned (.bool ((p3L (splitW v)).any fun n => !smallB n s)) ∧ Ext w1 w' from
    fun B w1 hb hp => contains1_any 101 #[.pointer (some ⟨w.heap.size, 0, none⟩)] (fun _ _ => by kernel_rfl) (fun n => !smallB n s) (p3L (splitW v)) _ 3 3 w1 rfl (by omega) (p3_rd hp)
      (fun w' hx n _ => (isNear1_any n s w.heap.size 0 w' ((hb.ext hx).cell 0)).mono fun _ _ ⟨he, hw⟩ => ⟨he, hw ▸ Ext.refl _⟩))
  have hn : nearB s v = !((p3L (splitW v)).any fun n => !smallB n s) := by rw [not_any]; rfl
  have HN := Lib.hid hn
  clear hn
  generalize hE : scaledE s v = E at *
  generalize hA : (p3L (splitW v)).any (fun n => !smallB n s) = A at *
  clear hE hA
  go_enter Tryd.func35, Tryd.ntmps35
  go_wp2_with (first | (go_at_call 98; (with_reducible refine (HS.out _ _ _ (by simp)).mono ?_); rintro e w3 ⟨rfl, hx3⟩; obtain ⟨hc3, hf3⟩ := bcell hx3; have hzw3_0 : w.heap.size < w3.heap.size := (by have := hx3.size; (try simp at this); omega); have hzw3_1 : w.heap.size + 1 < w3.heap.size := (by have := hx3.size; (try simp at this); omega)) | (go_at_call 99; (with_reducible refine (HP.out _).mono ?_); rintro e w4 ⟨rfl, hx4⟩; obtain ⟨hc4, hf4⟩ := bcell hx4; have hzw4_0 : w.heap.size < w4.heap.size := (by have := hx4.size; (try simp at this); omega); have hzw4_1 : w.heap.size + 1 < w4.heap.size := (by have := hx4.size; (try simp at this); omega)) | (go_at_call 100; (with_reducible refine (HC.out _ _ (by (repeat' (first | with_reducible assumption | (with_reducible exact Bx.new _ _ _) | ((with_reducible refine Bx.new_at _ _ ?_); (simp; done)) | (with_reducible refine Bx.alloc ?_ _) | (with_reducible refine Bx.drew ?_) | ((with_reducible apply Bx.ext'); (with_reducible assumption))))) (by (repeat' (first | with_reducible assumption | (with_reducible exact Bx.new _ _ _) | ((with_reducible refine Bx.new_at _ _ ?_); (simp; done)) | (with_reducible refine Bx.alloc ?_ _) | (with_reducible refine Bx.drew ?_) | ((with_reducible apply Bx.ext'); (with_reducible assumption)))))).mono ?_); rintro e w5 ⟨rfl, hx5⟩))
  all_goals
    go_ret2
    refine ⟨?_, by ((repeat' (first | with_reducible exact Ext.refl _ | with_reducible assumption | with_reducible exact Ext.one _ | with_reducible refine Ext.alloc ?_ _ | with_reducible refine Ext.setCell ?_ ?_ _ | with_reducible refine Ext.drew ?_ | ((with_reducible apply Ext.after'); (with_reducible assumption)))) <;> (try simp) <;> omega)⟩
    rw [HN.out]
    simp_all [okB]
set_option maxRecDepth 100000 in
set_option maxHeartbeats 1000000 in
theorem nearestS_any (s : Int) (v : T2) (w : World) (hs : Sts w) : Calls Tryd.prog 59 #[.int .i64 s, tV v] w fun e w' => e = .returned (.tuple #[.int .i64 (okI (scaledE s v) (nearW s v).1), .int .i64 (scaledE s v)]) ∧ Ext w w' := by
  have HS := Lib.hid (scaledOf1 s v)
  have HN := Lib.hid (fun w1 (h : Ext w w1) => nearest_any v s w1 (hs.ext h))
  generalize hE : scaledE s v = E at *
  generalize nearW s v = M at *
  clear hE
  go_enter Tryd.func59, Tryd.ntmps59
  go_wp2_with (first | (go_at_call 98; (with_reducible refine (HS.out _ _ _ (by simp)).mono ?_); rintro e w3 ⟨rfl, hx3⟩; obtain ⟨hc3, hf3⟩ := bcell hx3; have hzw3_0 : w.heap.size < w3.heap.size := (by have := hx3.size; (try simp at this); omega)) | (go_at_call 103; (with_reducible refine (HN.out _ (by ((repeat' (first | with_reducible exact Ext.refl _ | with_reducible assumption | with_reducible exact Ext.one _ | with_reducible refine Ext.alloc ?_ _ | with_reducible refine Ext.setCell ?_ ?_ _ | with_reducible refine Ext.drew ?_ | ((with_reducible apply Ext.after'); (with_reducible assumption)))) <;> (try simp) <;> omega))).mono ?_); rintro e w4 ⟨rfl, hx4⟩; obtain ⟨hc4, hf4⟩ := bcell hx4; have hzw4_0 : w.heap.size < w4.heap.size := (by have := hx4.size; (try simp at this); omega)))
  all_goals
    go_ret2
    (refine ⟨?_, by ((repeat' (first | with_reducible exact Ext.refl _ | with_reducible assumption | with_reducible exact Ext.one _ | with_reducible refine Ext.alloc ?_ _ | with_reducible refine Ext.setCell ?_ ?_ _ | with_reducible refine Ext.drew ?_ | ((with_reducible apply Ext.after'); (with_reducible assumption)))) <;> (try simp) <;> omega)⟩; ((try simp_all [okI]) <;> (try ((repeat' split) <;> omega))))
def nearR (s : Int) (v : T2) : Bool := smallB (splitW v).1 s && (smallB (splitW v).2.1 s && smallB (wrap64 (v.1 + v.2)) s)
set_option maxRecDepth 100000 in
set_option maxHeartbeats 1000000 in
theorem rIsNear_any (s : Int) (v : T2) (w : World) : Calls Tryd.prog 61 #[.int .i64 s, tV v] w fun e w' => e = .returned (.bool (nearR s v)) ∧ Ext w w' := by
  have H1 := Lib.hid (show ∀ w1, Calls Tryd.prog 87 #[.int .i64 (wrap64 (wrap64 (2 * v.1) - v.2)), .int .i64 s] w1 fun e w' => e = .returned (.bool (smallB (splitW v).1 s)) ∧ w1 = w' from fun w1 => rsize_any _ _ w1)
  have H2 := Lib.hid (show ∀ w1, Calls Tryd.prog 87 #[.int .i64 (wrap64 (wrap64 (2 * v.2) - v.1)), .int .i64 s] w1 fun e w' => e = .returned (.bool (smallB (splitW v).2.1 s)) ∧ w1 = w' from fun w1 => rsize_any _ _ w1)
  have H3 := Lib.hid (show ∀ w1, Calls Tryd.prog 87 #[.int .i64 (wrap64 (v.1 + v.2)), .int .i64 s] w1 fun e w' => e = .returned (.bool (smallB (wrap64 (v.1 + v.2)) s)) ∧ w1 = w' from fun w1 => rsize_any _ _ w1)
  have step : ∀ p : Bool, p = false ∨ p = true := by decide
  unfold nearR
  generalize smallB (splitW v).1 s = A at *
  generalize smallB (splitW v).2.1 s = B at *
  generalize smallB (wrap64 (v.1 + v.2)) s = C at *
  rcases step A with rfl | rfl <;> rcases step B with rfl | rfl
  all_goals
    go_enter Tryd.func61, Tryd.ntmps61
    go_wp2_with (first | (go_at_call 87; (with_reducible refine (H1.out _).mono ?_); rintro e w3 ⟨rfl, rfl⟩) | (go_at_call 87; (with_reducible refine (H2.out _).mono ?_); rintro e w3 ⟨rfl, rfl⟩) | (go_at_call 87; (with_reducible refine (H3.out _).mono ?_); rintro e w3 ⟨rfl, rfl⟩))
    go_ret
    exact ⟨rfl, by ((repeat' (first | with_reducible exact Ext.refl _ | with_reducible assumption | with_reducible exact Ext.one _ | with_reducible refine Ext.alloc ?_ _ | with_reducible refine Ext.setCell ?_ ?_ _ | with_reducible refine Ext.drew ?_ | ((with_reducible apply Ext.after'); (with_reducible assumption)))) <;> (try simp) <;> omega)⟩
def restW (s : Int) (v : T2) (k : Int) : T2 := subW v (byW (stV k) s)
set_option maxRecDepth 100000 in
set_option maxHeartbeats 1000000 in
theorem rrest_any (s : Int) (v : T2) (k : Int) (w : World) (h : withinB k 0 7 = true) : Calls Tryd.prog 114 #[.int .i64 s, tV v, .int .i64 k] w fun e w' => e = .returned (tV (restW s v k)) ∧ Ext w w' := by
  have HV := Lib.hid (fun w1 => rStateVector_any k w1 h)
  have HT := Lib.hid (show ∀ w1, Calls Tryd.prog 39 #[tV v, .agg #[.int .i64 (wrap64 (s * (stV k).1)), .int .i64 (wrap64 (s * (stV k).2))]] w1 fun e w' => e = .returned (tV (restW s v k)) ∧ Ext w1 w' from fun w1 => bTSub_any v (byW (stV k) s) w1)
  generalize restW s v k = R at *
  generalize stV k = x at *
  go_enter Tryd.func114, Tryd.ntmps114
  go_wp2_with (first | (go_at_call 58; (with_reducible refine (HV.out _).mono ?_); rintro e w3 ⟨rfl, hx3⟩; obtain ⟨hc3, hf3⟩ := bcell hx3; have hzw3_0 : w.heap.size < w3.heap.size := (by have := hx3.size; (try simp at this); omega); have hzw3_1 : w.heap.size + 1 < w3.heap.size := (by have := hx3.size; (try simp at this); omega)) | (go_at_call 39; (with_reducible refine (HT.out _).mono ?_); rintro e w4 ⟨rfl, hx4⟩; obtain ⟨hc4, hf4⟩ := bcell hx4; have hzw4_0 : w.heap.size < w4.heap.size := (by have := hx4.size; (try simp at this); omega); have hzw4_1 : w.heap.size + 1 < w4.heap.size := (by have := hx4.size; (try simp at this); omega); have hy4_w3_0 : w3.heap.size < w4.heap.size := (by have := hx4.size; (try simp at this); omega)))
  have hb : Bx w4 (w.heap.size + 1) 24 #[.int .i64 0, .int .i64 0] := by (repeat' (first | with_reducible assumption | (with_reducible exact Bx.new _ _ _) | ((with_reducible refine Bx.new_at _ _ ?_); (simp; done)) | (with_reducible refine Bx.alloc ?_ _) | (with_reducible refine Bx.drew ?_) | ((with_reducible apply Bx.ext'); (with_reducible assumption))))
  obtain ⟨b0, b1, b2, b3, b4⟩ := hb.at2
  exact bodyPost_ret (v := tV R) (by simp [results, Tryd.results114, go_sem, b0, b1, b2, b3, b4]) rfl ⟨rfl, by ((repeat' (first | with_reducible exact Ext.refl _ | with_reducible assumption | with_reducible exact Ext.one _ | with_reducible refine Ext.alloc ?_ _ | with_reducible refine Ext.setCell ?_ ?_ _ | with_reducible refine Ext.drew ?_ | ((with_reducible apply Ext.after'); (with_reducible assumption)))) <;> (try simp) <;> omega)⟩
/-- The nearest state so far. -/
def nearG (s : Int) (v : T2) : Nat → Int
  | 0 => 0
  | k + 1 => if normW (restW s v ((k : Int) + 1)) < normW (restW s v (nearG s v k)) then (k : Int) + 1 else nearG s v k
theorem nearG_bd (s : Int) (v : T2) : ∀ k : Nat, k ≤ 7 → withinB (nearG s v k) 0 7 = true ∧ nearG s v k ≤ k
  | 0, _ => ⟨rfl, by simp [nearG]⟩
  | k + 1, h => by
    have ih := nearG_bd s v k (by omega)
    simp only [nearG]
    split
    · exact ⟨by simp [withinB]; omega, by omega⟩
    · exact ⟨ih.1, by omega⟩
set_option maxRecDepth 100000 in
set_option maxHeartbeats 1000000 in
theorem rNearest_any (s : Int) (v : T2) (w : World) : Calls Tryd.prog 62 #[.int .i64 s, tV v] w fun e w' => e = .returned (.int .i64 (nearG s v 7)) ∧ Ext w w' := by
  go_enter Tryd.func62, Tryd.ntmps62
  go_wp2
  go_loopw [5, 6] (fun b i wr => ∃ k : Nat, k ≤ 7 ∧ i = .int .i64 ((k : Int) + 1) ∧ b = .int .i64 (nearG s v k) ∧ Bx wr w.heap.size 24 #[.int .i64 v.1, .int .i64 v.2] ∧ Ext w wr) (fun _ i _ => 8 - (intOf i).toNat)
  case atStart => exact ⟨0, by omega, rfl, rfl, Bx.new w _ _, by ((repeat' (first | with_reducible exact Ext.refl _ | with_reducible assumption | with_reducible exact Ext.one _ | with_reducible refine Ext.alloc ?_ _ | with_reducible refine Ext.setCell ?_ ?_ _ | with_reducible refine Ext.drew ?_ | ((with_reducible apply Ext.after'); (with_reducible assumption)))) <;> (try simp) <;> omega)⟩
  case round =>
    obtain ⟨k, hk, rfl, rfl, hb, hx⟩ := hrel
    obtain ⟨a0, a1, a2, a3, a4⟩ := hb.at2
    have hwr : IntKind.i64.wrap ((k : Int) + 1) = (k : Int) + 1 := by rw [wrap_eq]; unfold wrap64; omega
    by_cases hlt : k < 7
    · have hlt1 : (k : Int) + 1 < 8 := by omega
      have hw1 : withinB ((k : Int) + 1) 0 7 = true := by simp [withinB]; omega
      have hg := nearG_bd s v k (by omega)
      have H1 := Lib.hid (fun w1 => rrest_any s v ((k : Int) + 1) w1 hw1)
      have H2 := Lib.hid (fun w1 => rrest_any s v (nearG s v k) w1 hg.1)
      have HS := Lib.hid (show nearG s v (k + 1) = if normW (restW s v ((k : Int) + 1)) < normW (restW s v (nearG s v k)) then (k : Int) + 1 else nearG s v k from rfl)
      have N1 := Lib.hid (bTNorm_any (restW s v ((k : Int) + 1)))
      have N2 := Lib.hid (bTNorm_any (restW s v (nearG s v k)))
      generalize nearG s v k = g at *
      generalize normW (restW s v ((k : Int) + 1)) = n1 at *
      generalize normW (restW s v g) = n2 at *
      clear hg hw1
      go_wp2
      apply wp_region_ext 11 [.is _, .is _, .is _, .is _, .is _, .is _, .is _, .is _, .is _, .is _, .is _] (by kernel_rfl) (by kernel_rfl) (by kernel_rfl) (fun V => ?steps) (fun V w1 hx_w1 hf_w1 => ?tail)
      case steps =>
        simp only [List.take, Region.binds, mode_text, mode_gc, if_true, true_and, Bool.false_eq_true, if_false, List.drop, StepsU, StepsG, putsAll, FactsAt, Fs, val, List.getD_cons_zero, List.getD_cons_succ, List.getD_nil, SF.is, SF.rd, SF.any, SF.box, Option.getD_some, Option.getD_none, Act.put, List.setIfInBounds_toArray, List.set_cons_zero, List.set_cons_succ]
        refine ⟨?_, ?_, ?_, ?_, ?_, ?_, ?_, ?_, ?_, ?_, ?_, trivial⟩ <;> (intro w2 hx hf; obtain ⟨hc, hfz⟩ := bcell hx; go_simp; (try simp only [wrap_eq]); first
          | exact Post.mk rfl (Ext.refl _)
          | rfl
          | (refine Post.mk ?_ (Ext.refl _); (simp <;> omega); done)
          | exact Post.mk ⟨_, _, rfl, Nat.le_refl _, Rd.new _ _ _ _ _ rfl⟩ ((Ext.refl _).alloc _)
          | (refine Post.mk ⟨_, rfl, ?_, Bx.new _ _ _⟩ ((Ext.refl _).alloc _); have := hx.size; (try simp at this); (try simp); omega)
          | ((with_reducible refine CallTo.of (H1.out _) ?_); exact fun _ _ => rfl)
          | ((with_reducible refine CallTo.of (H2.out _) ?_); exact fun _ _ => rfl)
          | ((with_reducible refine CallTo.of (N1.out _) ?_); exact fun _ _ => rfl)
          | ((with_reducible refine CallTo.of (N2.out _) ?_); exact fun _ _ => rfl))
      case tail =>
      simp only [FactsTo, List.take, Region.binds, mode_text, mode_gc, if_true, true_and, Bool.false_eq_true, if_false, List.drop, StepsU, StepsG, putsAll, FactsAt, Fs, val, List.getD_cons_zero, List.getD_cons_succ, List.getD_nil, SF.is, SF.rd, SF.any, SF.box, Option.getD_some, Option.getD_none, Act.put, List.setIfInBounds_toArray, List.set_cons_zero, List.set_cons_succ] at hf_w1 ⊢
      obtain ⟨hc_w1, hfz_w1⟩ := bcell hx_w1
      clear hf_w1
      have hb1 := hb.ext hx_w1
      have hx1 := hx.trans hx_w1
      have HT := Lib.hid (show (n1 < n2 ∨ ¬ n1 < n2) from by omega)
      go_wp2
      all_goals
        go_roundw
        case rel => exact ⟨k + 1, by omega, by go_num, by rw [HS.out]; first | rw [if_pos (by assumption)] | rw [if_neg (by omega)], hb1, hx1⟩
        case measure => simp [intOf]; omega
    · obtain rfl : k = 7 := by omega
      go_wp2
      go_ret
      exact ⟨rfl, by ((repeat' (first | with_reducible exact Ext.refl _ | with_reducible assumption | with_reducible exact Ext.one _ | with_reducible refine Ext.alloc ?_ _ | with_reducible refine Ext.setCell ?_ ?_ _ | with_reducible refine Ext.drew ?_ | ((with_reducible apply Ext.after'); (with_reducible assumption)))) <;> (try simp) <;> omega)⟩
end Go.Proofs.YtdbglpaejmhbjaaDoor
