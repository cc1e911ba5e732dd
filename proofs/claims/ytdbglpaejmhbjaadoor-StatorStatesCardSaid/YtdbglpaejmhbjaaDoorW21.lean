/- Walks: the sector of a vector. -/
import Derived.Test.YtdbglpaejmhbjaaDoorW20
namespace Go.Proofs.YtdbglpaejmhbjaaDoor
open Go Go.RowKit Go.Proofs
set_option linter.unusedSimpArgs false
set_option linter.unusedVariables false

def secE (v : T2) : Int := firstE [unlessE (rightB v) 2, unlessE (v != (0, 0)) 11]
theorem turnP5 (x : T2) : turnP 5 x = back x := by
  obtain ⟨a, b⟩ := x
  simp only [turnP, stepP, back]; ext <;> simp only <;> omega
theorem right_sm {v : T2} (h : rightB v = true) : Sm 100000 v := by
  simp only [rightB, smallB, withinB, Bool.and_eq_true, decide_eq_true_eq] at h
  have e : wrap64 (-100000) = -100000 := by decide +kernel
  rw [e] at h
  unfold Sm; omega

set_option maxRecDepth 100000 in
set_option maxHeartbeats 1000000 in
theorem sectorOf_any (v : T2) (w : World) : Calls Tryd.prog 25 #[tV v] w fun e w' => e = .returned (.tuple #[.int .i64 (if secE v = 0 then (secN 6 v : Int) else 0), .int .i64 (secE v)]) ∧ Ext w w' := by
  have HZ : Hid (∀ w2 : World, RelUpon Tryd.prog (Post (fun x _ => x = .bool (v != (0, 0))) w2) (if v.1 = 0 then if v.2 = 0 then Result.ok (Next.value (.bool false)) w2 else Result.ok (Next.value (.bool true)) w2 else Result.ok (Next.value (.bool true)) w2)) := Lib.hid (fun w2 => by
    obtain ⟨a, b⟩ := v
    by_cases ha : a = 0
    · by_cases hb : b = 0
      · subst ha; subst hb; exact Post.mk (p := fun x _ => x = .bool (((0, 0) : T2) != (0, 0))) rfl (Ext.refl _)
      · rw [if_pos ha, if_neg hb]
        have e : (((a, b) : T2) != (0, 0)) = true := by simp [bne, hb]
        rw [e]; exact Post.mk (p := fun x _ => x = .bool true) rfl (Ext.refl _)
    · rw [if_neg ha]
      have e : (((a, b) : T2) != (0, 0)) = true := by simp [bne, ha]
      rw [e]; exact Post.mk (p := fun x _ => x = .bool true) rfl (Ext.refl _))
  by_cases hE : secE v = 0
  · rw [if_pos hE, hE]
    have hrt : rightB v = true := by
      cases h : rightB v with
      | true => rfl
      | false => exfalso; revert hE; unfold secE; rw [h]; simp [firstE, unlessE]
    have hnz : v ≠ (0, 0) := by
      rintro rfl; revert hE; unfold secE; rw [hrt]; simp [firstE, unlessE]
    have hsm := Sm.mono (right_sm hrt) (show (100000 : Int) ≤ 1000000 by omega)
    have HS := Lib.hid (secN_in v hnz)
    have HT := Lib.hid (show ∀ (k : Nat), k < 6 → ∀ w1, Calls Tryd.prog 89 #[tV (rot k v), .int .i64 (-1)] w1 fun e w' => e = .returned (tV (rot (k + 1) v)) ∧ Ext w1 w' from fun k hk w1 => by
      have h := turned_any (rot k v) (-1) w1
      have hs := rot_small v 1000000 hsm k hk
      rwa [show sixN (-1) = 5 by decide, turnW_eq _ _ hs (by omega) 5 (by omega), turnP5, ← rot_succ] at h)
    have HE := Lib.hid hE
    clear hE hrt hnz
    go_enter Tryd.func25, Tryd.ntmps25
    go_wp2
    refine wp_region_ext 9 [.is (tV v), .rd 2 1 (cells2 [v]), .is (.int .i64 (unlessE (rightB v) 2)), .is (tV v), .is (tV (0, 0)), .is (.bool (v != (0, 0))), .is (.int .i64 (unlessE (v != (0, 0)) 11)), .rd 1 2 (ints [unlessE (rightB v) 2, unlessE (v != (0, 0)) 11]), .is (.int .i64 (secE v))] (by kernel_rfl) (by kernel_rfl) (by kernel_rfl) (fun V => ?steps) (fun V w1 hx_w1 hf_w1 => ?tail)
    case steps =>
      simp only [List.take, Region.binds, mode_text, mode_gc, if_true, true_and, Bool.false_eq_true, if_false, List.drop, StepsU, StepsG, putsAll, FactsAt, Fs, val, List.getD_cons_zero, List.getD_cons_succ, List.getD_nil, SF.is, SF.rd, SF.any, SF.box, Option.getD_some, Option.getD_none, Act.put, List.setIfInBounds_toArray, List.set_cons_zero, List.set_cons_succ]
      refine ⟨?_, ?_, ?_, ?_, ?_, ?_, ?_, ?_, ?_, trivial⟩ <;> intro w2 hx hf <;> obtain ⟨hc, hfz⟩ := bcell hx <;> go_simp <;> (try simp only [wrap_eq])
      all_goals first
        | exact Post.mk rfl (Ext.refl _)
        | rfl
        | (refine Post.mk ?_ (Ext.refl _); (simp <;> omega); done)
        | exact Post.mk ⟨_, _, rfl, Nat.le_refl _, Rd.new _ _ _ _ _ rfl⟩ ((Ext.refl _).alloc _)
        | (refine Post.mk ⟨_, rfl, ?_, Bx.new _ _ _⟩ ((Ext.refl _).alloc _); have := hx.size; (try simp at this); (try simp); omega)
        | ((with_reducible refine CallTo.same (unless_any _ _ _) ?_); rfl)
        | exact HZ.out _
        | (obtain ⟨ha, -⟩ := hf; obtain ⟨a2, c2, e2, h2, h3⟩ := ha; rw [e2]; (with_reducible refine CallTo.of (right_any [v] _ _ _ _ rfl (Nat.le_of_ble_eq_true rfl) h3) ?_); intro _ _; simp; done)
        | (obtain ⟨ha, -⟩ := hf; obtain ⟨a2, c2, e2, h2, h3⟩ := ha; rw [e2]; (with_reducible refine CallTo.same (first_any _ _ _ _ _ rfl (Nat.le_of_ble_eq_true rfl) h3) ?_); rfl)
    case tail =>
    simp only [FactsTo, List.take, Region.binds, mode_text, mode_gc, if_true, true_and, Bool.false_eq_true, if_false, List.drop, StepsU, StepsG, putsAll, FactsAt, Fs, val, List.getD_cons_zero, List.getD_cons_succ, List.getD_nil, SF.is, SF.rd, SF.any, SF.box, Option.getD_some, Option.getD_none, Act.put, List.setIfInBounds_toArray, List.set_cons_zero, List.set_cons_succ] at hf_w1 ⊢
    obtain ⟨hc_w1, hfz_w1⟩ := bcell hx_w1
    clear hf_w1 HZ
    rw [HE.out]
    go_wp2
    have hx1 : Ext w w1 := by ((repeat' (first | with_reducible exact Ext.refl _ | with_reducible assumption | with_reducible exact Ext.one _ | with_reducible refine Ext.alloc ?_ _ | with_reducible refine Ext.setCell ?_ ?_ _ | with_reducible refine Ext.drew ?_ | ((with_reducible apply Ext.after'); (with_reducible assumption)))) <;> (try simp) <;> omega)
    go_loopw [6] (fun i wr => ∃ k : Nat, k ≤ 5 ∧ i = .int .i64 k ∧ Hid (secN 6 v = k + secN (6 - k) (rot k v)) ∧ Bx wr w1.heap.size 120 #[.int .i64 (rot k v).1, .int .i64 (rot k v).2] ∧ Ext w wr) (fun i _ => 6 - (intOf i).toNat)
    case atStart => exact ⟨0, by omega, rfl, by show _ = _; simp [rot], Bx.new_at _ _ rfl, by ((repeat' (first | with_reducible exact Ext.refl _ | with_reducible assumption | with_reducible exact Ext.one _ | with_reducible refine Ext.alloc ?_ _ | with_reducible refine Ext.setCell ?_ ?_ _ | with_reducible refine Ext.drew ?_ | ((with_reducible apply Ext.after'); (with_reducible assumption)))) <;> (try simp) <;> omega)⟩
    case round =>
      obtain ⟨k, hk, rfl, hd, hA, hx⟩ := hrel
      have hlt : k < 6 := by omega
      have hs : Hid (secN (6 - k) (rot k v) = if inB (rot k v) then 0 else secN (6 - (k + 1)) (rot (k + 1) v) + 1) := by
        show _ = _
        rw [rot_succ, show 6 - k = 6 - (k + 1) + 1 by omega]; rfl
      have HK := Lib.hid (HT.out k hlt)
      generalize hr : rot k v = r at *
      obtain ⟨a0, a1, a2, a3, a4⟩ := hA.at2
      clear hr
      have next : Hid (¬ inB r = true → k + 1 ≤ 5 ∧ secN 6 v = (k + 1 : Nat) + secN (6 - (k + 1)) (rot (k + 1) v)) := Lib.hid (fun hi => by
        have h1 := hd.out
        have h2 := HS.out.1
        rw [hs.out, if_neg hi] at h1
        omega)
      have hxb : w1.heap.size < wr.heap.size := a4
      by_cases h1 : r.2 < 0
      · have hi : ¬ inB r = true := by unfold inB; simp only [Bool.and_eq_true, decide_eq_true_eq]; omega
        go_wp2_with (first | (go_at_call 89; refine (HK.out _).mono ?_; rintro e w3 ⟨rfl, hx3⟩; have hA3 : Bx w3 w1.heap.size 120 #[.int .i64 r.1, .int .i64 r.2] := (by (repeat' (first | with_reducible assumption | ((with_reducible refine Bx.other ?_ (by simp <;> omega) _)) | (with_reducible refine Bx.alloc ?_ _) | (with_reducible refine Bx.drew ?_) | ((with_reducible apply Bx.ext'); (with_reducible assumption))))); obtain ⟨c0, c1, c2, c3, c4⟩ := hA3.at2))
        go_roundw
        case rel => exact ⟨_, _, _, _, _, _, _, _, _, _, _, _, _, _, _, ⟨k + 1, (next.out hi).1, by go_num, (next.out hi).2, hA3.set2 _ _, by have := hx1.size; ((repeat' (first | with_reducible exact Ext.refl _ | with_reducible assumption | with_reducible exact Ext.one _ | with_reducible refine Ext.alloc ?_ _ | with_reducible refine Ext.setCell ?_ ?_ _ | with_reducible refine Ext.drew ?_ | ((with_reducible apply Ext.after'); (with_reducible assumption)))) <;> (try simp) <;> omega)⟩, rfl⟩
        case measure => simp [intOf]; omega
      · by_cases h2 : r.2 < r.1
        · have hi : inB r = true := inB_mk _ (by omega) h2
          have h1' : 0 ≤ r.2 := by omega
          go_wp2
          go_ret2
          exact ⟨by rw [hd.out, hs.out, if_pos hi]; simp, by ((repeat' (first | with_reducible exact Ext.refl _ | with_reducible assumption | with_reducible exact Ext.one _ | with_reducible refine Ext.alloc ?_ _ | with_reducible refine Ext.setCell ?_ ?_ _ | with_reducible refine Ext.drew ?_ | ((with_reducible apply Ext.after'); (with_reducible assumption)))) <;> (try simp) <;> omega)⟩
        · have hi : ¬ inB r = true := by unfold inB; simp only [Bool.and_eq_true, decide_eq_true_eq]; omega
          have h1' : 0 ≤ r.2 := by omega
          have h2' : r.1 ≤ r.2 := by omega
          go_wp2_with (first | (go_at_call 89; refine (HK.out _).mono ?_; rintro e w3 ⟨rfl, hx3⟩; have hA3 : Bx w3 w1.heap.size 120 #[.int .i64 r.1, .int .i64 r.2] := (by (repeat' (first | with_reducible assumption | ((with_reducible refine Bx.other ?_ (by simp <;> omega) _)) | (with_reducible refine Bx.alloc ?_ _) | (with_reducible refine Bx.drew ?_) | ((with_reducible apply Bx.ext'); (with_reducible assumption))))); obtain ⟨c0, c1, c2, c3, c4⟩ := hA3.at2))
          go_roundw
          case rel => exact ⟨_, _, _, _, _, _, _, _, _, _, _, _, _, _, _, ⟨k + 1, (next.out hi).1, by go_num, (next.out hi).2, hA3.set2 _ _, by have := hx1.size; ((repeat' (first | with_reducible exact Ext.refl _ | with_reducible assumption | with_reducible exact Ext.one _ | with_reducible refine Ext.alloc ?_ _ | with_reducible refine Ext.setCell ?_ ?_ _ | with_reducible refine Ext.drew ?_ | ((with_reducible apply Ext.after'); (with_reducible assumption)))) <;> (try simp) <;> omega)⟩, rfl⟩
          case measure => simp [intOf]; omega
  · have hE' : (secE v != 0) = true := by simp [hE]
    rw [if_neg hE]
    clear hE
    go_enter Tryd.func25, Tryd.ntmps25
    go_wp2
    refine wp_region_ext 9 [.is (tV v), .rd 2 1 (cells2 [v]), .is (.int .i64 (unlessE (rightB v) 2)), .is (tV v), .is (tV (0, 0)), .is (.bool (v != (0, 0))), .is (.int .i64 (unlessE (v != (0, 0)) 11)), .rd 1 2 (ints [unlessE (rightB v) 2, unlessE (v != (0, 0)) 11]), .is (.int .i64 (secE v))] (by kernel_rfl) (by kernel_rfl) (by kernel_rfl) (fun V => ?steps) (fun V w1 hx_w1 hf_w1 => ?tail)
    case steps =>
      simp only [List.take, Region.binds, mode_text, mode_gc, if_true, true_and, Bool.false_eq_true, if_false, List.drop, StepsU, StepsG, putsAll, FactsAt, Fs, val, List.getD_cons_zero, List.getD_cons_succ, List.getD_nil, SF.is, SF.rd, SF.any, SF.box, Option.getD_some, Option.getD_none, Act.put, List.setIfInBounds_toArray, List.set_cons_zero, List.set_cons_succ]
      refine ⟨?_, ?_, ?_, ?_, ?_, ?_, ?_, ?_, ?_, trivial⟩ <;> intro w2 hx hf <;> obtain ⟨hc, hfz⟩ := bcell hx <;> go_simp <;> (try simp only [wrap_eq])
      all_goals first
        | exact Post.mk rfl (Ext.refl _)
        | rfl
        | (refine Post.mk ?_ (Ext.refl _); (simp <;> omega); done)
        | exact Post.mk ⟨_, _, rfl, Nat.le_refl _, Rd.new _ _ _ _ _ rfl⟩ ((Ext.refl _).alloc _)
        | (refine Post.mk ⟨_, rfl, ?_, Bx.new _ _ _⟩ ((Ext.refl _).alloc _); have := hx.size; (try simp at this); (try simp); omega)
        | ((with_reducible refine CallTo.same (unless_any _ _ _) ?_); rfl)
        | exact HZ.out _
        | (obtain ⟨ha, -⟩ := hf; obtain ⟨a2, c2, e2, h2, h3⟩ := ha; rw [e2]; (with_reducible refine CallTo.of (right_any [v] _ _ _ _ rfl (Nat.le_of_ble_eq_true rfl) h3) ?_); intro _ _; simp; done)
        | (obtain ⟨ha, -⟩ := hf; obtain ⟨a2, c2, e2, h2, h3⟩ := ha; rw [e2]; (with_reducible refine CallTo.same (first_any _ _ _ _ _ rfl (Nat.le_of_ble_eq_true rfl) h3) ?_); rfl)
    case tail =>
    simp only [FactsTo, List.take, Region.binds, mode_text, mode_gc, if_true, true_and, Bool.false_eq_true, if_false, List.drop, StepsU, StepsG, putsAll, FactsAt, Fs, val, List.getD_cons_zero, List.getD_cons_succ, List.getD_nil, SF.is, SF.rd, SF.any, SF.box, Option.getD_some, Option.getD_none, Act.put, List.setIfInBounds_toArray, List.set_cons_zero, List.set_cons_succ] at hf_w1 ⊢
    obtain ⟨hc_w1, hfz_w1⟩ := bcell hx_w1
    clear hf_w1 HZ
    go_wp2
    go_ret2
    exact ⟨rfl, by ((repeat' (first | with_reducible exact Ext.refl _ | with_reducible assumption | with_reducible exact Ext.one _ | with_reducible refine Ext.alloc ?_ _ | with_reducible refine Ext.setCell ?_ ?_ _ | with_reducible refine Ext.drew ?_ | ((with_reducible apply Ext.after'); (with_reducible assumption)))) <;> (try simp) <;> omega)⟩
end Go.Proofs.YtdbglpaejmhbjaaDoor
