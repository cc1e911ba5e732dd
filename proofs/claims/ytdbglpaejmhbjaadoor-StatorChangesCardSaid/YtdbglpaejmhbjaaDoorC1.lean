/- Walks: a change of vectors, as specified and in the program. -/
import Derived.Test.YtdbglpaejmhbjaaDoorW11
import Derived.Test.YtdbglpaejmhbjaaDoorOwn
import Derived.Test.YtdbglpaejmhbjaaDoorReg
import Derived.Test.YtdbglpaejmhbjaaDoorW8
namespace Go.Proofs.YtdbglpaejmhbjaaDoor
open Go Go.RowKit Go.Proofs
set_option linter.unusedSimpArgs false
set_option linter.unusedVariables false

def handAt (f t : T2) (s k : Int) : T2 := addW f (floorW (wrap64 (k * wrap64 (t.1 - f.1))) s, floorW (wrap64 (k * wrap64 (t.2 - f.2))) s)
def handL (f t : T2) (s : Int) : Nat → List T2
  | 0 => []
  | n + 1 => handL f t s n ++ [handAt f t s ((n : Int) + 1)]
theorem handL_length (f t : T2) (s : Int) : ∀ n, (handL f t s n).length = n
  | 0 => rfl
  | n + 1 => by simp [handL, handL_length f t s n]
theorem cells2_snoc : ∀ (l : List T2) (x : T2), cells2 (l ++ [x]) = cells2 l ++ [.int .i64 x.1, .int .i64 x.2]
  | [], _ => rfl
  | y :: l, x => by simp [cells2, cells2_snoc l x]

set_option maxRecDepth 100000 in
set_option maxHeartbeats 1000000 in
theorem rHanded_any (f t : T2) (s : Int) (n : Nat) (w : World) (hn : (n : Int) = s) (h100 : n ≤ 1000) :
    Calls Tryd.prog 50 #[tV f, tV t, .int .i64 s] w (RetOwn w 24 2 n (cells2 (handL f t s n))) := by
  subst hn
  obtain ⟨i2, hi2, hz20, hz21, hz22⟩ := info_parts info2
  go_enter Tryd.func50, Tryd.ntmps50
  go_wp2
  obtain ⟨W0, hW0⟩ : ∃ W0, (w.alloc (.cells #[.int .i64 f.1, .int .i64 f.2] 24)).alloc (.cells #[.int .i64 t.1, .int .i64 t.2] 24) = W0 := ⟨_, rfl⟩
  rw [hW0]
  have hx0 : Ext w W0 := by rw [← hW0]; ((repeat' (first | with_reducible exact Ext.refl _ | assumption | with_reducible exact Ext.one _ | with_reducible refine Ext.alloc ?_ _ | with_reducible refine Ext.setCell ?_ ?_ _ | with_reducible refine Ext.drew ?_ | refine Ext.trans ?_ (by assumption))) <;> (try simp) <;> omega)
  have hb1 : Bx W0 w.heap.size 24 #[.int .i64 f.1, .int .i64 f.2] := by rw [← hW0]; exact (Bx.new w _ _).alloc _
  have hb2 : Bx W0 (w.heap.size + 1) 24 #[.int .i64 t.1, .int .i64 t.2] := by rw [← hW0]; exact Bx.new_at _ _ (by simp)
  clear hW0
  go_loopw [7, 8] (fun v i wr => ∃ k : Nat, k ≤ n ∧ i = .int .i64 ((k : Int) + 1) ∧ wr.ownsRow W0.heap.size 24 2 v k (cells2 (handL f t n k)) ∧ Ext W0 wr) (fun _ i _ => n + 1 - (intOf i).toNat)
  case atStart => exact ⟨0, Nat.zero_le _, rfl, ⟨by simp [handL, cells2], .inl ⟨rfl, rfl⟩⟩, Ext.refl _⟩
  case round =>
    obtain ⟨k, hk, rfl, hown, hx⟩ := hrel
    obtain ⟨a0, a1, a2, a3, a4⟩ := (hb1.ext hx).at2
    obtain ⟨b0, b1, b2, b3, b4⟩ := (hb2.ext hx).at2
    by_cases hlt : k < n
    · have hlt1 : ((k : Int) + 1) ≤ (n : Int) := by omega
      have hlt2 : ¬ (n : Int) < (k : Int) + 1 := by omega
      have hs1 : (1 : Int) ≤ n := by omega
      have hwr : IntKind.i64.wrap ((k : Int) + 1) = (k : Int) + 1 := by rw [wrap_eq]; unfold wrap64; omega
      have hwr2 : wrap64 ((k : Int) + 1) = (k : Int) + 1 := by unfold wrap64; omega
      go_wp2
      apply wp_region_ext 27 [.is _, .is _, .is _, .is _, .is _, .is _, .is _, .is _, .is _, .is _, .is _, .is _, .is _, .is _, .is _, .is _, .is _, .is _, .is _, .is _, .is _, .is _, .is _, .is _, .is _, .is _, .rd 2 1 (cells2 [(_, _)])] (by kernel_rfl) (by kernel_rfl) (by kernel_rfl) (fun V => ?steps) (fun V w2 hx_w2 hf_w2 => ?tail)
      case steps =>
        simp only [List.take, Region.binds, mode_text, mode_gc, if_true, true_and, Bool.false_eq_true, if_false, List.drop, StepsU, StepsG, putsAll, FactsAt, Fs, val, List.getD_cons_zero, List.getD_cons_succ, List.getD_nil, SF.is, SF.rd, SF.any, SF.box, Option.getD_some, Option.getD_none, Act.put, List.setIfInBounds_toArray, List.set_cons_zero, List.set_cons_succ]
        refine ⟨?_, ?_, ?_, ?_, ?_, ?_, ?_, ?_, ?_, ?_, ?_, ?_, ?_, ?_, ?_, ?_, ?_, ?_, ?_, ?_, ?_, ?_, ?_, ?_, ?_, ?_, ?_, trivial⟩ <;> (intro w2 hx hf; obtain ⟨hc, hfz⟩ := bcell hx; go_simp; (try simp only [wrap_eq]); first
          | exact Post.mk rfl (Ext.refl _)
          | rfl
          | (refine Post.mk ?_ (Ext.refl _); (simp <;> omega); done)
          | exact Post.mk ⟨_, _, rfl, Nat.le_refl _, Rd.new _ _ _ _ _ rfl⟩ ((Ext.refl _).alloc _)
          | (refine Post.mk ⟨_, rfl, ?_, Bx.new _ _ _⟩ ((Ext.refl _).alloc _); have := hx.size; (try simp at this); (try simp); omega)
          | ((with_reducible refine CallTo.same (bFloor_any _ _ (by omega) _) ?_); rfl))
      case tail =>
      simp only [FactsTo, List.take, Region.binds, mode_text, mode_gc, if_true, true_and, Bool.false_eq_true, if_false, List.drop, StepsU, StepsG, putsAll, FactsAt, Fs, val, List.getD_cons_zero, List.getD_cons_succ, List.getD_nil, SF.is, SF.rd, SF.any, SF.box, Option.getD_some, Option.getD_none, Act.put, List.setIfInBounds_toArray, List.set_cons_zero, List.set_cons_succ] at hf_w2 ⊢
      obtain ⟨hc_w2, hfz_w2⟩ := bcell hx_w2
      obtain ⟨A3, c3, e3, hcc3, hrd3⟩ := hf_w2
      rw [e3]
      clear e3
      have hz1 := hx.size
      have hz2 := hx_w2.size
      go_wp2_with (at_builtin; refine wpList_app rfl (.tmp 14) (.tmp 40) _ rfl i2 (.agg #[.int .i64 0, .int .i64 0]) 16 Tryd.underlying22 hi2 hz20 hz21 hz22 rfl (by omega) rfl (own_ext hown hx_w2) A3 1 c3 _ rfl hrd3 (one_cells2 [_]) (by simp only [maxLen]; omega) (by omega) (by omega) ?_; intro A4 c4 w4 hcc4 hown4 hbl4 hgr4 hob4)
      go_roundw
      case rel => exact ⟨k + 1, by omega, by go_num, by rw [handL, cells2_snoc]; exact hown4, Below.trans (hx.trans hx_w2) hbl4⟩
      case measure => simp [intOf]; omega
    · obtain rfl : k = n := by omega
      have hlt1 : ¬ ((k : Int) + 1) ≤ (k : Int) := by omega
      have hwr : IntKind.i64.wrap ((k : Int) + 1) = (k : Int) + 1 := by rw [wrap_eq]; unfold wrap64; omega
      go_wp2
      obtain ⟨A, c', rfl, hc'⟩ := own_form hown
      go_ret
      exact ⟨A, c', rfl, hc', hown.mono_base (by have := hx0.size; omega), hx0.trans hx⟩

def handE (f t : T2) (s : Int) : Int := firstE [unlessE (rightB f && rightB t) 2, unlessE (withinB s 1 100) 2]
/-- What Handed hands back. -/
def RetHand (w : World) (E : Int) (n : Nat) (xs : List Value) (e : Ending) (w' : World) : Prop :=
  ∃ A m c, e = .returned (.tuple #[.slice A m c, .int .i64 E]) ∧ m = (if E = 0 then n else 0) ∧ m ≤ c ∧ Rd w' 2 A m (if E = 0 then xs else []) ∧ Ext w w'
set_option maxRecDepth 100000 in
set_option maxHeartbeats 1000000 in
theorem handed_any (f t : T2) (s : Int) (n : Nat) (w : World) (hn : (n : Int) = s ∨ handE f t s ≠ 0) :
    Calls Tryd.prog 48 #[tV f, tV t, .int .i64 s] w (RetHand w (handE f t s) n (cells2 (handL f t s n))) := by
  obtain ⟨i2, hi2, hz20, hz21, hz22⟩ := info_parts info2
  by_cases hE : handE f t s = 0
  · have hns : (n : Int) = s := hn.resolve_right (fun h => h hE)
    have hs1 : 1 ≤ s ∧ s ≤ 100 := by
      unfold handE at hE
      cases hw : withinB s 1 100 with
      | true => simpa [withinB] using hw
      | false => rw [hw] at hE; cases h : (rightB f && rightB t) <;> simp [firstE, unlessE, h] at hE
    subst hns
    clear hn
    rw [hE]
    have HE := Lib.hid hE
    clear hE
    obtain ⟨hs1, hs2⟩ := hs1
    go_enter Tryd.func48, Tryd.ntmps48
    go_wp2_with (first | (go_at_call 82; (with_reducible refine (rightOf2 f t _ _ _ (by simp)).mono ?_); rintro e w3 ⟨rfl, hx3⟩; obtain ⟨hc3, hf3⟩ := bcell hx3; have hzw3_0 : w.heap.size < w3.heap.size := (by have := hx3.size; (try simp at this); omega); have hzw3_1 : w.heap.size + 1 < w3.heap.size := (by have := hx3.size; (try simp at this); omega); have hzw3_2 : w.heap.size + 1 + 1 < w3.heap.size := (by have := hx3.size; (try simp at this); omega)) | ((go_at_call 80; refine (firstOf2 _ _ _ _ _ (by simp)).mono ?_; rintro e w4 ⟨rfl, rfl⟩); rw [show firstE [unlessE (rightB f && rightB t) 2, unlessE (withinB (n : Int) 1 100) 2] = 0 from HE.out]) | first | (go_at_call 104; refine (within_any _ _ _ _).mono ?_; rintro e wz ⟨rfl, rfl⟩) | (go_at_call 81; refine (unless_any _ _ _).mono ?_; rintro e wz ⟨rfl, rfl⟩) | (go_at_call 109; refine (less_any _ _ _).mono ?_; rintro e wz ⟨rfl, hxz⟩; obtain ⟨hcz, hfz⟩ := bcell hxz))
    obtain ⟨W0, hW0⟩ : ∃ W0, wz.alloc (.cells #[.int .i64 (subW t f).1, .int .i64 (subW t f).2] 120) = W0 := ⟨_, rfl⟩
    have hx0 : Ext w W0 := by rw [← hW0]; ((repeat' (first | with_reducible exact Ext.refl _ | assumption | with_reducible exact Ext.one _ | with_reducible refine Ext.alloc ?_ _ | with_reducible refine Ext.setCell ?_ ?_ _ | with_reducible refine Ext.drew ?_ | refine Ext.trans ?_ (by assumption))) <;> (try simp) <;> omega)
    have hb1 : Bx W0 w.heap.size 24 #[.int .i64 f.1, .int .i64 f.2] := by rw [← hW0]; (repeat' (first | exact Bx.new _ _ _ | exact Bx.new_at _ _ (by simp; done) | refine Bx.alloc ?_ _ | refine Bx.ext ?_ (by assumption)))
    have hb2 : Bx W0 wz.heap.size 120 #[.int .i64 (subW t f).1, .int .i64 (subW t f).2] := by rw [← hW0]; (repeat' (first | exact Bx.new _ _ _ | exact Bx.new_at _ _ (by simp; done) | refine Bx.alloc ?_ _ | refine Bx.ext ?_ (by assumption)))
    have hsz : wz.heap.size < W0.heap.size := hb2.lt
    rw [hW0]
    clear hW0
    go_loopw [10, 29] (fun v i wr => ∃ k : Nat, k ≤ n ∧ i = .int .i64 k ∧ wr.ownsRow W0.heap.size 24 2 v k (cells2 (handL f t n k)) ∧ Ext W0 wr) (fun _ i _ => n - (intOf i).toNat)
    case atStart => exact ⟨0, Nat.zero_le _, rfl, ⟨by simp [handL, cells2], .inl ⟨rfl, rfl⟩⟩, Ext.refl _⟩
    case round =>
      obtain ⟨k, hk, rfl, hown, hx⟩ := hrel
      obtain ⟨a0, a1, a2, a3, a4⟩ := (hb1.ext hx).at2
      obtain ⟨b0, b1, b2, b3, b4⟩ := (hb2.ext hx).at2
      by_cases hlt : k < n
      · have hb := Lib.hid (show ∀ w1, Calls Tryd.prog 110 #[tV (subW t f), .int .i64 ((k : Int) + 1)] w1 fun e w' => e = .returned (tV (byW (subW t f) ((k : Int) + 1))) ∧ Ext w1 w' from fun w1 => by_any _ _ w1)
        have hp := Lib.hid (show handAt f t n ((k : Int) + 1) = addW f (floorW (byW (subW t f) ((k : Int) + 1)).1 n, floorW (byW (subW t f) ((k : Int) + 1)).2 n) from rfl)
        generalize byW (subW t f) ((k : Int) + 1) = P at *
        go_wp2_with (first | (go_at_call 110; (with_reducible refine (hb.out _).mono ?_); rintro e w5 ⟨rfl, hx5⟩; obtain ⟨hc5, hf5⟩ := bcell hx5; have hzw5_0 : w.heap.size < w5.heap.size := (by have := hx5.size; (try simp at this); omega); have hy5_wz_0 : wz.heap.size < w5.heap.size := (by have := hx5.size; (try simp at this); omega)))
        have hz0 : w5.heap.size < w5.heap.size + 1 := by omega
        have hyw : w.heap.size < w5.heap.size := by have := hx5.size; omega
        apply wp_region_ext 13 [.is _, .is _, .is _, .is _, .is _, .is _, .is _, .is _, .is _, .is _, .is _, .is _, .rd 2 1 (cells2 [(_, _)])] (by kernel_rfl) (by kernel_rfl) (by kernel_rfl) (fun V => ?steps) (fun V w6 hx_w6 hf_w6 => ?tail)
        case steps =>
          simp only [List.take, Region.binds, mode_text, mode_gc, if_true, true_and, Bool.false_eq_true, if_false, List.drop, StepsU, StepsG, putsAll, FactsAt, Fs, val, List.getD_cons_zero, List.getD_cons_succ, List.getD_nil, SF.is, SF.rd, SF.any, SF.box, Option.getD_some, Option.getD_none, Act.put, List.setIfInBounds_toArray, List.set_cons_zero, List.set_cons_succ]
          refine ⟨?_, ?_, ?_, ?_, ?_, ?_, ?_, ?_, ?_, ?_, ?_, ?_, ?_, trivial⟩ <;> (intro w2 hx hf; obtain ⟨hc, hfz⟩ := bcell hx; go_simp; (try simp only [wrap_eq]); first
            | exact Post.mk rfl (Ext.refl _)
            | rfl
            | (refine Post.mk ?_ (Ext.refl _); (simp <;> omega); done)
            | exact Post.mk ⟨_, _, rfl, Nat.le_refl _, Rd.new _ _ _ _ _ rfl⟩ ((Ext.refl _).alloc _)
            | (refine Post.mk ⟨_, rfl, ?_, Bx.new _ _ _⟩ ((Ext.refl _).alloc _); have := hx.size; (try simp at this); (try simp); omega)
            | ((with_reducible refine CallTo.same (floor_any _ _ (by omega) _) ?_); rfl)
            | ((with_reducible refine CallTo.of (plus_any _ (_, _) _) ?_); exact fun _ _ => rfl))
        case tail =>
        simp only [FactsTo, List.take, Region.binds, mode_text, mode_gc, if_true, true_and, Bool.false_eq_true, if_false, List.drop, StepsU, StepsG, putsAll, FactsAt, Fs, val, List.getD_cons_zero, List.getD_cons_succ, List.getD_nil, SF.is, SF.rd, SF.any, SF.box, Option.getD_some, Option.getD_none, Act.put, List.setIfInBounds_toArray, List.set_cons_zero, List.set_cons_succ] at hf_w6 ⊢
        obtain ⟨hc_w6, hfz_w6⟩ := bcell hx_w6
        obtain ⟨A3, c3, e3, hcc3, hrd3⟩ := hf_w6
        rw [e3]
        clear e3
        have hz1 := hx.size
        have hz2 := hx_w6.size
        have hz3 := hx5.size
        have hxx : Ext wr w6 := by ((repeat' (first | with_reducible exact Ext.refl _ | assumption | with_reducible exact Ext.one _ | with_reducible refine Ext.alloc ?_ _ | with_reducible refine Ext.setCell ?_ ?_ _ | with_reducible refine Ext.drew ?_ | refine Ext.trans ?_ (by assumption))) <;> (try simp) <;> omega)
        (try simp only [World.size_alloc] at hz2)
        go_wp2_with (at_builtin; refine wpList_app rfl (.tmp 36) (.tmp 48) _ rfl i2 (.agg #[.int .i64 0, .int .i64 0]) 16 Tryd.underlying22 hi2 hz20 hz21 hz22 rfl (by omega) rfl (own_ext hown hxx) A3 1 c3 _ rfl hrd3 (one_cells2 [_]) (by simp only [maxLen]; omega) (by omega) (by omega) ?_; intro A7 c7 w7 hcc7 hown7 hbl7 hgr7 hob7)
        go_roundw
        case rel => exact ⟨k + 1, by omega, by go_num, by rw [handL, hp.out, cells2_snoc]; exact hown7, Below.trans (hx.trans hxx) hbl7⟩
        case measure => simp [intOf]; omega
      · obtain rfl : k = n := by omega
        go_wp2
        obtain ⟨A, c', rfl, hc'⟩ := own_form hown
        go_ret2
        exact ⟨A, _, c', rfl, rfl, hc', Rd.of_own hown, hx0.trans hx⟩
  · have hE' : (handE f t s != 0) = true := by simp [hE]
    have HE := Lib.hid hE
    clear hE hn
    unfold handE at hE' HE ⊢
    generalize hF : firstE [unlessE (rightB f && rightB t) 2, unlessE (withinB s 1 100) 2] = F at hE' HE ⊢
    have HF := Lib.hid hF
    clear hF
    go_enter Tryd.func48, Tryd.ntmps48
    go_wp2_with (first | (go_at_call 82; (with_reducible refine (rightOf2 f t _ _ _ (by simp)).mono ?_); rintro e w3 ⟨rfl, hx3⟩; obtain ⟨hc3, hf3⟩ := bcell hx3; have hzw3_0 : w.heap.size < w3.heap.size := (by have := hx3.size; (try simp at this); omega); have hzw3_1 : w.heap.size + 1 < w3.heap.size := (by have := hx3.size; (try simp at this); omega); have hzw3_2 : w.heap.size + 1 + 1 < w3.heap.size := (by have := hx3.size; (try simp at this); omega)) | ((go_at_call 80; refine (firstOf2 _ _ _ _ _ (by simp)).mono ?_; rintro e w4 ⟨rfl, rfl⟩); rw [HF.out]) | first | (go_at_call 104; refine (within_any _ _ _ _).mono ?_; rintro e wz ⟨rfl, rfl⟩) | (go_at_call 81; refine (unless_any _ _ _).mono ?_; rintro e wz ⟨rfl, rfl⟩))
    go_ret2
    exact ⟨none, 0, 0, rfl, by rw [if_neg HE.out], Nat.le_refl _, by rw [if_neg HE.out]; exact Rd.nil _ _ _, by ((repeat' (first | with_reducible exact Ext.refl _ | assumption | with_reducible exact Ext.one _ | with_reducible refine Ext.alloc ?_ _ | with_reducible refine Ext.setCell ?_ ?_ _ | with_reducible refine Ext.drew ?_ | refine Ext.trans ?_ (by assumption))) <;> (try simp) <;> omega)⟩
end Go.Proofs.YtdbglpaejmhbjaaDoor
