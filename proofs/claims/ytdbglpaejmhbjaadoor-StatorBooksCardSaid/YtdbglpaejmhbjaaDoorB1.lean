/- Walks: books of steps; their copies. -/
import Derived.Test.YtdbglpaejmhbjaaDoorV1
import Derived.Test.YtdbglpaejmhbjaaDoorW8
import Derived.Test.YtdbglpaejmhbjaaDoorCells
import Derived.Test.YtdbglpaejmhbjaaDoorSeq
import Derived.Test.YtdbglpaejmhbjaaDoorReg
import Derived.Deep.Cut
namespace Go.Proofs.YtdbglpaejmhbjaaDoor
open Go Go.RowKit Go.Proofs
set_option linter.unusedSimpArgs false
set_option linter.unusedVariables false
set_option maxRecDepth 100000 in
theorem putsD_S_BookOf_7 (V : Nat → Value) (df : List Deferred) (x0 x1 x2 x3 x4 x5 x6 x7 x8 x9 x10 x11 x12 x13 x14 x15 x16 x17 x18 x19 x20 x21 x22 x23 x24 x25 x26 x27 x28 x29 x30 x31 x32 x33 x34 x35 x36 x37 x38 x39 x40 x41 x42 x43 x44 x45 x46 x47 x48 x49 x50 x51 x52 x53 x54 x55 x56 x57 x58 x59 x60 x61 x62 : Value) : putsD V (some 18 :: some 19 :: some 20 :: some 21 :: some 22 :: some 23 :: some 24 :: some 25 :: some 26 :: some 27 :: some 28 :: some 29 :: []) 0 ⟨#[x0, x1, x2, x3, x4, x5, x6, x7, x8, x9, x10, x11, x12, x13, x14, x15, x16, x17, x18, x19, x20, x21, x22, x23, x24, x25, x26, x27, x28, x29, x30, x31, x32, x33, x34, x35, x36, x37, x38, x39, x40, x41, x42, x43, x44, x45, x46, x47, x48, x49, x50, x51, x52, x53, x54, x55, x56, x57, x58, x59, x60, x61, x62], df⟩ = ⟨#[x0, x1, x2, x3, x4, x5, x6, x7, x8, x9, x10, x11, x12, x13, x14, x15, x16, x17, V 0, V 1, V 2, V 3, V 4, V 5, V 6, V 7, V 8, V 9, V 10, V 11, x30, x31, x32, x33, x34, x35, x36, x37, x38, x39, x40, x41, x42, x43, x44, x45, x46, x47, x48, x49, x50, x51, x52, x53, x54, x55, x56, x57, x58, x59, x60, x61, x62], df⟩ := by kernel_rfl
set_option maxRecDepth 100000 in
theorem putsD_S_BookOf_10 (V : Nat → Value) (df : List Deferred) (x0 x1 x2 x3 x4 x5 x6 x7 x8 x9 x10 x11 x12 x13 x14 x15 x16 x17 x18 x19 x20 x21 x22 x23 x24 x25 x26 x27 x28 x29 x30 x31 x32 x33 x34 x35 x36 x37 x38 x39 x40 x41 x42 x43 x44 x45 x46 x47 x48 x49 x50 x51 x52 x53 x54 x55 x56 x57 x58 x59 x60 x61 x62 : Value) : putsD V [some 34, some 35, some 36, some 37, some 38, some 39, some 40, some 41, some 42] 0 ⟨#[x0, x1, x2, x3, x4, x5, x6, x7, x8, x9, x10, x11, x12, x13, x14, x15, x16, x17, x18, x19, x20, x21, x22, x23, x24, x25, x26, x27, x28, x29, x30, x31, x32, x33, x34, x35, x36, x37, x38, x39, x40, x41, x42, x43, x44, x45, x46, x47, x48, x49, x50, x51, x52, x53, x54, x55, x56, x57, x58, x59, x60, x61, x62], df⟩ = ⟨#[x0, x1, x2, x3, x4, x5, x6, x7, x8, x9, x10, x11, x12, x13, x14, x15, x16, x17, x18, x19, x20, x21, x22, x23, x24, x25, x26, x27, x28, x29, x30, x31, x32, x33, V 0, V 1, V 2, V 3, V 4, V 5, V 6, V 7, V 8, x43, x44, x45, x46, x47, x48, x49, x50, x51, x52, x53, x54, x55, x56, x57, x58, x59, x60, x61, x62], df⟩ := by kernel_rfl
set_option maxRecDepth 100000 in
theorem putsD_S_BookOf_11 (V : Nat → Value) (df : List Deferred) (x0 x1 x2 x3 x4 x5 x6 x7 x8 x9 x10 x11 x12 x13 x14 x15 x16 x17 x18 x19 x20 x21 x22 x23 x24 x25 x26 x27 x28 x29 x30 x31 x32 x33 x34 x35 x36 x37 x38 x39 x40 x41 x42 x43 x44 x45 x46 x47 x48 x49 x50 x51 x52 x53 x54 x55 x56 x57 x58 x59 x60 x61 x62 : Value) : putsD V (some 43 :: some 44 :: some 45 :: some 46 :: some 47 :: some 48 :: some 49 :: some 50 :: some 51 :: some 52 :: some 53 :: some 54 :: []) 0 ⟨#[x0, x1, x2, x3, x4, x5, x6, x7, x8, x9, x10, x11, x12, x13, x14, x15, x16, x17, x18, x19, x20, x21, x22, x23, x24, x25, x26, x27, x28, x29, x30, x31, x32, x33, x34, x35, x36, x37, x38, x39, x40, x41, x42, x43, x44, x45, x46, x47, x48, x49, x50, x51, x52, x53, x54, x55, x56, x57, x58, x59, x60, x61, x62], df⟩ = ⟨#[x0, x1, x2, x3, x4, x5, x6, x7, x8, x9, x10, x11, x12, x13, x14, x15, x16, x17, x18, x19, x20, x21, x22, x23, x24, x25, x26, x27, x28, x29, x30, x31, x32, x33, x34, x35, x36, x37, x38, x39, x40, x41, x42, V 0, V 1, V 2, V 3, V 4, V 5, V 6, V 7, V 8, V 9, V 10, V 11, x55, x56, x57, x58, x59, x60, x61, x62], df⟩ := by kernel_rfl

abbrev St := T3 × T3 × Int
abbrev stC (s : St) : List Value := [.int .i64 s.1.1, .int .i64 s.1.2.1, .int .i64 s.1.2.2, .int .i64 s.2.1.1, .int .i64 s.2.1.2.1, .int .i64 s.2.1.2.2, .int .i64 s.2.2]
abbrev cells7 (l : List St) : List Value := cellsF stC l
theorem one_cells7 (l : List St) : ∀ u ∈ cells7 l, u.oneCell' = true := one_cellsF (fun x u hu => by simp [stC] at hu; rcases hu with rfl | rfl | rfl | rfl | rfl | rfl | rfl <;> rfl) l
theorem cells7_row {l : List St} {n k : Nat} (hl : l.length = n) {w : World} {b o : Nat} (h : Row w b o (cells7 l)) (hk : k < l.length) :
    w.cell? ⟨b, o + k * 7, none⟩ = some (.int .i64 l[k].1.1) ∧ w.cell? ⟨b, o + k * 7 + 1, none⟩ = some (.int .i64 l[k].1.2.1) ∧ w.cell? ⟨b, o + k * 7 + 2, none⟩ = some (.int .i64 l[k].1.2.2) ∧
    w.cell? ⟨b, o + k * 7 + 3, none⟩ = some (.int .i64 l[k].2.1.1) ∧ w.cell? ⟨b, o + k * 7 + 4, none⟩ = some (.int .i64 l[k].2.1.2.1) ∧ w.cell? ⟨b, o + k * 7 + 5, none⟩ = some (.int .i64 l[k].2.1.2.2) ∧ w.cell? ⟨b, o + k * 7 + 6, none⟩ = some (.int .i64 l[k].2.2) := by
  have g : ∀ j u, j < 7 → (stC l[k])[j]? = some u → w.cell? ⟨b, o + k * 7 + j, none⟩ = some u := fun j u hj hu => h.at' (by rw [cellsF_get (k := 7) (fun _ => rfl) hk hj]; exact hu)
  exact ⟨g 0 _ (by omega) rfl, g 1 _ (by omega) rfl, g 2 _ (by omega) rfl, g 3 _ (by omega) rfl, g 4 _ (by omega) rfl, g 5 _ (by omega) rfl, g 6 _ (by omega) rfl⟩

theorem info7 : (Tryd.prog.info? 100).map (fun i => (i.zero, i.size, i.bytes)) = some (some (.agg #[.int .i64 0, .int .i64 0, .int .i64 0, .int .i64 0, .int .i64 0, .int .i64 0, .int .i64 0]), 7, 56) := by kernel_rfl

def stE (s : St) : Int := firstE [p3E s.1, p3E s.2.1, unlessE (withinB s.2.2 0 1000) 2]
/-- What a book holds behind all steps, and the first error. -/
def bookGo : List St → Int → Int → T2 × Int
  | [], f, g => ((f, g), 0)
  | s :: l, f, g => if stE s = 0 then bookGo l (wrap64 (f + powerW s.1 s.2.1)) (wrap64 (g + wrap64 (s.2.2 * powerW s.2.1 s.2.1))) else ((f, g), stE s)
def bookE (n : Nat) (l : List St) : Int := if 60 < n then 8 else (bookGo l 0 0).2
def bookV (n : Nat) (l : List St) : T3 := let x := (bookGo l 0 0).1; ok3 (bookE n l) (x.1, x.2, wrap64 (x.1 - x.2))

set_option maxRecDepth 100000 in
set_option maxHeartbeats 4000000 in
theorem bookOf_yes (l : List St) (a : Option Addr) (n c : Nat) (w : World) (hl : l.length = n) (hn : n ≤ 60) (hr : Rd w 7 a n (cells7 l)) :
    Calls Tryd.prog 64 #[.slice a n c] w fun e w' => e = .returned (.tuple #[pV (bookV n l), .int .i64 (bookE n l)]) ∧ Ext w w' := by
  have h60 : ¬ 60 < n := by omega
  have HE : Hid (bookE n l = (bookGo l 0 0).2 ∧ bookV n l = ok3 (bookGo l 0 0).2 ((bookGo l 0 0).1.1, (bookGo l 0 0).1.2, wrap64 ((bookGo l 0 0).1.1 - (bookGo l 0 0).1.2))) := by
    have : bookE n l = (bookGo l 0 0).2 := if_neg h60
    exact ⟨this, by unfold bookV; rw [this]⟩
  have HL := Lib.hid hl
  have hn' : n ≤ 1000 := by omega
  have h60' : ¬ (60 : Int) < n := by omega
  clear hl h60
  go_enter Tryd.func64, Tryd.ntmps64
  go_wp2
  go_loopw [14] (fun i wr => ∃ (k : Nat) (f g : Int), k ≤ n ∧ i = .int .i64 k ∧ Bx wr w.heap.size 92 #[.int .i64 0, .int .i64 0, .int .i64 0] ∧ Bx wr (w.heap.size + 1) 92 #[.int .i64 f, .int .i64 g, .int .i64 0] ∧ Hid (bookGo l 0 0 = bookGo (l.drop k) f g) ∧ Ext w wr) (fun i _ => n - (intOf i).toNat)
  case atStart => exact ⟨0, 0, 0, Nat.zero_le _, rfl, by (repeat' (first | with_reducible assumption | (with_reducible exact Bx.new _ _ _) | ((with_reducible refine Bx.new_at _ _ ?_); (simp; done)) | (with_reducible refine Bx.alloc ?_ _) | (with_reducible refine Bx.drew ?_) | ((with_reducible apply Bx.ext'); (with_reducible assumption)))), by (repeat' (first | with_reducible assumption | (with_reducible exact Bx.new _ _ _) | ((with_reducible refine Bx.new_at _ _ ?_); (simp; done)) | (with_reducible refine Bx.alloc ?_ _) | (with_reducible refine Bx.drew ?_) | ((with_reducible apply Bx.ext'); (with_reducible assumption)))), rfl, by ((repeat' (first | with_reducible exact Ext.refl _ | with_reducible assumption | with_reducible exact Ext.one _ | with_reducible refine Ext.alloc ?_ _ | with_reducible refine Ext.setCell ?_ ?_ _ | with_reducible refine Ext.drew ?_ | ((with_reducible apply Ext.after'); (with_reducible assumption)))) <;> (try simp) <;> omega)⟩
  case round =>
    obtain ⟨k, f, g, hk, rfl, hb0, hb1, hd, hx⟩ := hrel
    obtain ⟨x0, x1, x2, x3, x4, x5, x6⟩ := hb0.at3
    obtain ⟨y0, y1, y2, y3, y4, y5, y6⟩ := hb1.at3
    by_cases hlt : k < n
    · obtain ⟨b, o, rfl, hrow⟩ := (hr.ext hx).2 (by omega)
      have hkl : k < l.length := by rw [HL.out]; exact hlt
      obtain ⟨c0, c1, c2, c3, c4, c5, c6⟩ := cells7_row HL.out hrow hkl
      have hbb := hrow.1
      have hs : Hid (bookGo (l.drop k) f g = if stE l[k] = 0 then bookGo (l.drop (k + 1)) (wrap64 (f + powerW l[k].1 l[k].2.1)) (wrap64 (g + wrap64 (l[k].2.2 * powerW l[k].2.1 l[k].2.1))) else ((f, g), stE l[k])) := by
        show _ = _
        rw [List.drop_eq_getElem_cons hkl]; rfl
      generalize l[k] = s at *
      have H1 := Lib.hid (show ∀ (B : Nat) (t : TypeId) w1, Bx w1 B t #[.int .i64 s.1.1, .int .i64 s.1.2.1, .int .i64 s.1.2.2, .int .i64 s.2.1.1, .int .i64 s.2.1.2.1, .int .i64 s.2.1.2.2, .int .i64 s.2.2] → Calls Tryd.prog 115 #[.slice (some ⟨B, 0, none⟩) 3 3] w1 fun e w' => e = .returned (.int .i64 (p3E s.1)) ∧ Ext w1 w' from fun B t w1 h => phases_any (p3L s.1) (some ⟨B, 0, none⟩) 3 3 w1 rfl (by omega) (h.part 1 3 0 _ (fun j u hu => by
        rcases j with _ | _ | _ | j <;> simp_all [p3L, ints]) rfl))
      have H2 := Lib.hid (show ∀ (B : Nat) (t : TypeId) w1, Bx w1 B t #[.int .i64 s.1.1, .int .i64 s.1.2.1, .int .i64 s.1.2.2, .int .i64 s.2.1.1, .int .i64 s.2.1.2.1, .int .i64 s.2.1.2.2, .int .i64 s.2.2] → Calls Tryd.prog 115 #[.slice (some ⟨B, 3, none⟩) 3 3] w1 fun e w' => e = .returned (.int .i64 (p3E s.2.1)) ∧ Ext w1 w' from fun B t w1 h => phases_any (p3L s.2.1) (some ⟨B, 3, none⟩) 3 3 w1 rfl (by omega) (h.part 1 3 3 _ (fun j u hu => by
        rcases j with _ | _ | _ | j <;> simp_all [p3L, ints]) rfl))
      have HP := Lib.hid (power_any s.1 s.2.1)
      have HQ := Lib.hid (power_any s.2.1 s.2.1)
      have hse : Hid (stE s = firstE [p3E s.1, p3E s.2.1, unlessE (withinB s.2.2 0 1000) 2]) := rfl
      generalize p3E s.1 = E1 at *
      generalize p3E s.2.1 = E2 at *
      go_wp2
      apply wp_region_env 12 (SF.is _ :: SF.is _ :: SF.is _ :: SF.is _ :: SF.is _ :: SF.is _ :: SF.is _ :: SF.is _ :: SF.is _ :: SF.is _ :: SF.rd 1 3 (ints [_, _, _]) :: SF.is _ :: []) (some 18 :: some 19 :: some 20 :: some 21 :: some 22 :: some 23 :: some 24 :: some 25 :: some 26 :: some 27 :: some 28 :: some 29 :: []) (by kernel_rfl) (by kernel_rfl) (by kernel_rfl) (by kernel_rfl) (fun V e0 hSl => ?steps) (fun V w1 hx_w1 hf_w1 => ?tail)
      case steps =>
        have he6 := hSl 6
        clear hSl
        simp only [Array.getD_eq_getD_getElem?, List.getElem?_toArray, List.getElem?_cons_succ, List.getElem?_cons_zero, Option.getD_some] at he6
        (refine stepE_is _ rfl rfl (ex_fieldAddr he6) ?_ ?_; (· intro w2 hx; go_simp; (try simp only [wrap_eq]); exact isF (Ext.refl _)))
        (refine stepE_is _ rfl rfl (ex_slice ev_h) ?_ ?_; (· intro w2 hx; go_simp; (try simp only [wrap_eq]); exact isF (Ext.refl _)))
        (refine stepE_is _ rfl rfl (ex_call rfl (ex_arg ev_h ex_arg0)) ?_ ?_; (· intro w2 hx; refine rel_call (fun _ _ => by kernel_rfl) ?_; (first | ((with_reducible refine CallTo.of (H1.out _ 100 _ ?_) ?_); (· ((repeat' (first | with_reducible assumption | (with_reducible exact Bx.new _ _ _) | ((with_reducible refine Bx.new_at _ _ ?_); (simp; done)) | (with_reducible refine Bx.alloc ?_ _) | (with_reducible refine Bx.drew ?_) | ((with_reducible apply Bx.ext'); (with_reducible assumption)))))); exact fun _ _ => rfl) | ((with_reducible refine CallTo.of (phases_any _ _ _ _ _ (by assumption) (by omega) (by assumption)) ?_); exact fun _ _ => rfl))))
        (refine stepE_is _ rfl rfl (ex_fieldAddr he6) ?_ ?_; (· intro w2 hx; go_simp; (try simp only [wrap_eq]); exact isF (Ext.refl _)))
        (refine stepE_is _ rfl rfl (ex_slice ev_h) ?_ ?_; (· intro w2 hx; go_simp; (try simp only [wrap_eq]); exact isF (Ext.refl _)))
        (refine stepE_is _ rfl rfl (ex_call rfl (ex_arg ev_h ex_arg0)) ?_ ?_; (· intro w2 hx; refine rel_call (fun _ _ => by kernel_rfl) ?_; (first | ((with_reducible refine CallTo.of (H2.out _ 100 _ ?_) ?_); (· ((repeat' (first | with_reducible assumption | (with_reducible exact Bx.new _ _ _) | ((with_reducible refine Bx.new_at _ _ ?_); (simp; done)) | (with_reducible refine Bx.alloc ?_ _) | (with_reducible refine Bx.drew ?_) | ((with_reducible apply Bx.ext'); (with_reducible assumption)))))); exact fun _ _ => rfl) | ((with_reducible refine CallTo.of (phases_any _ _ _ _ _ (by assumption) (by omega) (by assumption)) ?_); exact fun _ _ => rfl))))
        (refine stepE_is _ rfl rfl (ex_fieldAddr he6) ?_ ?_; (· intro w2 hx; go_simp; (try simp only [wrap_eq]); exact isF (Ext.refl _)))
        (refine stepE_is _ rfl rfl (ex_load ev_h) ?_ ?_; (· intro w2 hx; obtain ⟨hc, hfz⟩ := bcell hx; go_simp; (try simp only [wrap_eq]); exact isF (Ext.refl _)))
        (refine stepE_is _ rfl rfl (ex_call rfl (ex_arg ev_h (ex_arg rfl (ex_arg rfl ex_arg0)))) ?_ ?_; (· intro w2 hx; refine rel_call (fun _ _ => by kernel_rfl) ?_; ((with_reducible refine CallTo.same (within_any _ _ _ _) ?_); rfl)))
        (refine stepE_is _ rfl rfl (ex_call rfl (ex_arg ev_h (ex_arg rfl ex_arg0))) ?_ ?_; (· intro w2 hx; refine rel_call (fun _ _ => by kernel_rfl) ?_; ((with_reducible refine CallTo.same (unless_any _ _ _) ?_); rfl)))
        (refine stepE_fact _ rfl rfl rfl (ex_buildSlice (ex_part (ev_m rfl (ev_m rfl (ev_m rfl (ev_m rfl (ev_m rfl (ev_m rfl (ev_m rfl ev_h))))))) (ex_part (ev_m rfl (ev_m rfl (ev_m rfl (ev_m rfl ev_h)))) (ex_part ev_h ex_part0)))) ?_ ?_; (· intro w2 hx hf; go_simp; (try simp only [wrap_eq]); exact Post.mk ⟨_, _, rfl, Nat.le_refl _, Rd.new _ _ _ _ _ rfl⟩ ((Ext.refl _).alloc _)))
        (refine stepE_isF _ rfl rfl (ex_call rfl (ex_arg ev_h ex_arg0)) ?_ ?_; (· intro w2 hx hf; obtain ⟨a2, c2, e2, h2, h3⟩ := factsAt_get 10 rfl hf; have e2 : V 10 = _ := e2; rw [e2]; refine rel_call (fun _ _ => by kernel_rfl) ?_; ((with_reducible refine CallTo.same (first_any _ _ _ _ _ rfl (Nat.le_of_ble_eq_true rfl) h3) ?_); rfl)))
        exact trivial
      case tail =>
      rw [putsD_S_BookOf_7]
      have hf_w1_10 := factsTo_get (j := 10) (by decide) hf_w1
      clear hf_w1; have hf_w1 : True := trivial
      simp only [List.take, Region.binds, mode_text, mode_gc, if_true, true_and, Bool.false_eq_true, if_false, List.drop, StepsU, StepsG, putsAll, FactsAt, Fs, val, List.getD_cons_zero, List.getD_cons_succ, List.getD_nil, SF.is, SF.rd, SF.any, SF.box, Option.getD_some, Option.getD_none, Act.put, List.setIfInBounds_toArray, List.set_cons_zero, List.set_cons_succ] at hf_w1_10 ⊢
      obtain ⟨hc_w1, hfz_w1⟩ := bcell hx_w1
      clear hf_w1
      have hb6 : Bx w1 wr.heap.size 100 #[.int .i64 s.1.1, .int .i64 s.1.2.1, .int .i64 s.1.2.2, .int .i64 s.2.1.1, .int .i64 s.2.1.2.1, .int .i64 s.2.1.2.2, .int .i64 s.2.2] := by (repeat' (first | with_reducible assumption | (with_reducible exact Bx.new _ _ _) | ((with_reducible refine Bx.new_at _ _ ?_); (simp; done)) | (with_reducible refine Bx.alloc ?_ _) | (with_reducible refine Bx.drew ?_) | ((with_reducible apply Bx.ext'); (with_reducible assumption))))
      have hx1 : Ext wr w1 := by ((repeat' (first | with_reducible exact Ext.refl _ | with_reducible assumption | with_reducible exact Ext.one _ | with_reducible refine Ext.alloc ?_ _ | with_reducible refine Ext.setCell ?_ ?_ _ | with_reducible refine Ext.drew ?_ | ((with_reducible apply Ext.after'); (with_reducible assumption)))) <;> (try simp) <;> omega)
      have hb0' := hb0.ext hx1
      have hb1' := hb1.ext hx1
      clear hc_w1 hfz_w1 x0 x1 x2 x3 x4 x5 x6 y0 y1 y2 y3 y4 y5 y6 c0 c1 c2 c3 c4 c5 c6 hbb H1 H2
      obtain ⟨x0, x1, x2, x3, x4, x5, x6⟩ := hb0'.at3
      obtain ⟨y0, y1, y2, y3, y4, y5, y6⟩ := hb1'.at3
      have v0 : _ = some _ := hb6.cell 0; have v1 : _ = some _ := hb6.cell 1; have v2 : _ = some _ := hb6.cell 2; have v3 : _ = some _ := hb6.cell 3; have v4 : _ = some _ := hb6.cell 4; have v5 : _ = some _ := hb6.cell 5; have v6 : _ = some _ := hb6.cell 6; have vf0 := hb6.frz 0; have vf1 := hb6.frz 1; have vf2 := hb6.frz 2; have vf3 := hb6.frz 3; have vf4 := hb6.frz 4; have vf5 := hb6.frz 5; have vf6 := hb6.frz 6; have vl := hb6.lt
      generalize firstE [E1, E2, unlessE (withinB s.2.2 0 1000) 2] = G at *
      by_cases hz : G = 0
      · have hz' : (G != 0) = false := by simp [hz]
        have HZ := Lib.hid hz
        clear hz
        go_wp2
        apply wp_region_env 9 [SF.is _, SF.is _, SF.is _, SF.is _, SF.is _, SF.is _, SF.is _, SF.is _, SF.is _] [some 34, some 35, some 36, some 37, some 38, some 39, some 40, some 41, some 42] (by kernel_rfl) (by kernel_rfl) (by kernel_rfl) (by kernel_rfl) (fun V e0 hSl => ?steps) (fun V w2 hx_w2 hf_w2 => ?tail)
        case steps =>
          have he4 := hSl 4
          have he6 := hSl 6
          clear hSl
          simp only [Array.getD_eq_getD_getElem?, List.getElem?_toArray, List.getElem?_cons_succ, List.getElem?_cons_zero, Option.getD_some] at he4 he6
          (refine stepE_is _ rfl rfl (ex_fieldAddr he4) ?_ ?_; (· intro w2 hx; go_simp; (try simp only [wrap_eq]); exact isF (Ext.refl _)))
          (refine stepE_is _ rfl rfl (ex_load ev_h) ?_ ?_; (· intro w2 hx; obtain ⟨hc, hfz⟩ := bcell hx; go_simp; (try simp only [wrap_eq]); exact isF (Ext.refl _)))
          (refine stepE_is _ rfl rfl (ex_fieldAddr he6) ?_ ?_; (· intro w2 hx; go_simp; (try simp only [wrap_eq]); exact isF (Ext.refl _)))
          (refine stepE_is _ rfl rfl (ex_load ev_h) ?_ ?_; (· intro w2 hx; obtain ⟨hc, hfz⟩ := bcell hx; go_simp; (try simp only [wrap_eq]); exact isF (Ext.refl _)))
          (refine stepE_is _ rfl rfl (ex_fieldAddr he6) ?_ ?_; (· intro w2 hx; go_simp; (try simp only [wrap_eq]); exact isF (Ext.refl _)))
          (refine stepE_is _ rfl rfl (ex_load ev_h) ?_ ?_; (· intro w2 hx; obtain ⟨hc, hfz⟩ := bcell hx; go_simp; (try simp only [wrap_eq]); exact isF (Ext.refl _)))
          (refine stepE_is _ rfl rfl (ex_call rfl (ex_arg (ev_m rfl (ev_m rfl ev_h)) (ex_arg ev_h ex_arg0))) ?_ ?_; (· intro w2 hx; refine rel_call (fun _ _ => by kernel_rfl) ?_; ((with_reducible refine CallTo.of (HP.out _) ?_); exact fun _ _ => rfl)))
          (refine stepE_is _ rfl rfl (ex_binOp (ev_m rfl (ev_m rfl (ev_m rfl (ev_m rfl (ev_m rfl ev_h))))) ev_h) ?_ ?_; (· intro w2 hx; go_simp; (try simp only [wrap_eq]); exact isF (Ext.refl _)))
          (refine stepE_is _ rfl rfl (ex_fieldAddr he4) ?_ ?_; (· intro w2 hx; go_simp; (try simp only [wrap_eq]); exact isF (Ext.refl _)))
          exact trivial
        case tail =>
        rw [putsD_S_BookOf_10]
        clear hf_w2; have hf_w2 : True := trivial
        simp only [List.take, Region.binds, mode_text, mode_gc, if_true, true_and, Bool.false_eq_true, if_false, List.drop, StepsU, StepsG, putsAll, FactsAt, Fs, val, List.getD_cons_zero, List.getD_cons_succ, List.getD_nil, SF.is, SF.rd, SF.any, SF.box, Option.getD_some, Option.getD_none, Act.put, List.setIfInBounds_toArray, List.set_cons_zero, List.set_cons_succ] at ⊢
        obtain ⟨hc_w2, hfz_w2⟩ := bcell hx_w2
        clear hf_w2
        have hx2 : Ext wr w2 := by ((repeat' (first | with_reducible exact Ext.refl _ | with_reducible assumption | with_reducible exact Ext.one _ | with_reducible refine Ext.alloc ?_ _ | with_reducible refine Ext.setCell ?_ ?_ _ | with_reducible refine Ext.drew ?_ | ((with_reducible apply Ext.after'); (with_reducible assumption)))) <;> (try simp) <;> omega)
        have hb6' := hb6.ext hx_w2
        have hb1'' := hb1'.ext hx_w2
        have hb0'' := hb0'.ext hx_w2
        clear hc_w2 hfz_w2 x0 x1 x2 x3 x4 x5 x6 y0 y1 y2 y3 y4 y5 y6 v0 v1 v2 v3 v4 v5 v6 vf0 vf1 vf2 vf3 vf4 vf5 vf6 vl
        have y0 : _ = some _ := hb1''.cell 0; have y1 : _ = some _ := hb1''.cell 1; have y2 : _ = some _ := hb1''.cell 2; have yf0 := hb1''.frz 0; have yf1 := hb1''.frz 1; have yf2 := hb1''.frz 2; have yl := hb1''.lt
        go_upto_region 11 with fail
        have hb1a := hb1''.set30 (.int .i64 (wrap64 (f + powerW s.1 s.2.1)))
        have hb6a := hb6'.other (p := ⟨w.heap.size + 1, 0, none⟩) (by simp; have := hb1.lt; omega) (.int .i64 (wrap64 (f + powerW s.1 s.2.1)))
        have hb0a := hb0''.other (p := ⟨w.heap.size + 1, 0, none⟩) (by simp) (.int .i64 (wrap64 (f + powerW s.1 s.2.1)))
        have hxa : Ext w (w2.setCell ⟨w.heap.size + 1, 0, none⟩ (.int .i64 (wrap64 (f + powerW s.1 s.2.1)))) := (hx.trans hx2).setCell (by simp) _
        generalize w2.setCell ⟨w.heap.size + 1, 0, none⟩ (.int .i64 (wrap64 (f + powerW s.1 s.2.1))) = w3 at *
        clear y0 y1 y2 yf0 yf1 yf2 yl
        have y0 : _ = some _ := hb1a.cell 0; have y1 : _ = some _ := hb1a.cell 1; have y2 : _ = some _ := hb1a.cell 2; have yf0 := hb1a.frz 0; have yf1 := hb1a.frz 1; have yf2 := hb1a.frz 2; have yl := hb1a.lt
        have v0 : _ = some _ := hb6a.cell 0; have v1 : _ = some _ := hb6a.cell 1; have v2 : _ = some _ := hb6a.cell 2; have v3 : _ = some _ := hb6a.cell 3; have v4 : _ = some _ := hb6a.cell 4; have v5 : _ = some _ := hb6a.cell 5; have v6 : _ = some _ := hb6a.cell 6; have vf0 := hb6a.frz 0; have vf1 := hb6a.frz 1; have vf2 := hb6a.frz 2; have vf3 := hb6a.frz 3; have vf4 := hb6a.frz 4; have vf5 := hb6a.frz 5; have vf6 := hb6a.frz 6; have vl := hb6a.lt
        go_wp2
        apply wp_region_env 12 (SF.is _ :: SF.is _ :: SF.is _ :: SF.is _ :: SF.is _ :: SF.is _ :: SF.is _ :: SF.is _ :: SF.is _ :: SF.is _ :: SF.is _ :: SF.is _ :: []) (some 43 :: some 44 :: some 45 :: some 46 :: some 47 :: some 48 :: some 49 :: some 50 :: some 51 :: some 52 :: some 53 :: some 54 :: []) (by kernel_rfl) (by kernel_rfl) (by kernel_rfl) (by kernel_rfl) (fun V e0 hSl => ?steps) (fun V w4 hx_w4 hf_w4 => ?tail)
        case steps =>
          have he4 := hSl 4
          have he6 := hSl 6
          clear hSl
          simp only [Array.getD_eq_getD_getElem?, List.getElem?_toArray, List.getElem?_cons_succ, List.getElem?_cons_zero, Option.getD_some] at he4 he6
          (refine stepE_is _ rfl rfl (ex_fieldAddr he4) ?_ ?_; (· intro w2 hx; go_simp; (try simp only [wrap_eq]); exact isF (Ext.refl _)))
          (refine stepE_is _ rfl rfl (ex_load ev_h) ?_ ?_; (· intro w2 hx; obtain ⟨hc, hfz⟩ := bcell hx; go_simp; (try simp only [wrap_eq]); exact isF (Ext.refl _)))
          (refine stepE_is _ rfl rfl (ex_fieldAddr he6) ?_ ?_; (· intro w2 hx; go_simp; (try simp only [wrap_eq]); exact isF (Ext.refl _)))
          (refine stepE_is _ rfl rfl (ex_load ev_h) ?_ ?_; (· intro w2 hx; obtain ⟨hc, hfz⟩ := bcell hx; go_simp; (try simp only [wrap_eq]); exact isF (Ext.refl _)))
          (refine stepE_is _ rfl rfl (ex_fieldAddr he6) ?_ ?_; (· intro w2 hx; go_simp; (try simp only [wrap_eq]); exact isF (Ext.refl _)))
          (refine stepE_is _ rfl rfl (ex_load ev_h) ?_ ?_; (· intro w2 hx; obtain ⟨hc, hfz⟩ := bcell hx; go_simp; (try simp only [wrap_eq]); exact isF (Ext.refl _)))
          (refine stepE_is _ rfl rfl (ex_fieldAddr he6) ?_ ?_; (· intro w2 hx; go_simp; (try simp only [wrap_eq]); exact isF (Ext.refl _)))
          (refine stepE_is _ rfl rfl (ex_load ev_h) ?_ ?_; (· intro w2 hx; obtain ⟨hc, hfz⟩ := bcell hx; go_simp; (try simp only [wrap_eq]); exact isF (Ext.refl _)))
          (refine stepE_is _ rfl rfl (ex_call rfl (ex_arg (ev_m rfl (ev_m rfl ev_h)) (ex_arg ev_h ex_arg0))) ?_ ?_; (· intro w2 hx; refine rel_call (fun _ _ => by kernel_rfl) ?_; ((with_reducible refine CallTo.of (HQ.out _) ?_); exact fun _ _ => rfl)))
          (refine stepE_is _ rfl rfl (ex_binOp (ev_m rfl (ev_m rfl (ev_m rfl (ev_m rfl (ev_m rfl ev_h))))) ev_h) ?_ ?_; (· intro w2 hx; go_simp; (try simp only [wrap_eq]); exact isF (Ext.refl _)))
          (refine stepE_is _ rfl rfl (ex_binOp (ev_m rfl (ev_m rfl (ev_m rfl (ev_m rfl (ev_m rfl (ev_m rfl (ev_m rfl (ev_m rfl ev_h)))))))) ev_h) ?_ ?_; (· intro w2 hx; go_simp; (try simp only [wrap_eq]); exact isF (Ext.refl _)))
          (refine stepE_is _ rfl rfl (ex_fieldAddr he4) ?_ ?_; (· intro w2 hx; go_simp; (try simp only [wrap_eq]); exact isF (Ext.refl _)))
          exact trivial
        case tail =>
        rw [putsD_S_BookOf_11]
        clear hf_w4; have hf_w4 : True := trivial
        simp only [List.take, Region.binds, mode_text, mode_gc, if_true, true_and, Bool.false_eq_true, if_false, List.drop, StepsU, StepsG, putsAll, FactsAt, Fs, val, List.getD_cons_zero, List.getD_cons_succ, List.getD_nil, SF.is, SF.rd, SF.any, SF.box, Option.getD_some, Option.getD_none, Act.put, List.setIfInBounds_toArray, List.set_cons_zero, List.set_cons_succ] at ⊢
        obtain ⟨hc_w4, hfz_w4⟩ := bcell hx_w4
        clear hf_w4
        have hb1b := hb1a.ext hx_w4
        have hb0b := hb0a.ext hx_w4
        clear hc_w4 hfz_w4 y0 y1 y2 yf0 yf1 yf2 yl v0 v1 v2 v3 v4 v5 v6 vf0 vf1 vf2 vf3 vf4 vf5 vf6 vl
        have y0 : _ = some _ := hb1b.cell 0; have y1 : _ = some _ := hb1b.cell 1; have y2 : _ = some _ := hb1b.cell 2; have yf0 := hb1b.frz 0; have yf1 := hb1b.frz 1; have yf2 := hb1b.frz 2; have yl := hb1b.lt
        go_wp2
        go_roundw
        case rel => exact ⟨k + 1, _, _, by omega, by go_num, hb0b.other (by simp) _, hb1b.set31 _, by show _ = _; rw [hd.out, hs.out, hse.out, if_pos HZ.out], (hxa.trans hx_w4).setCell (by simp) _⟩
        case measure => simp [intOf]; omega
      · have hz' : (G != 0) = true := by simp [hz]
        have HZ := Lib.hid hz
        clear hz
        go_wp2
        refine bodyPost_ret (v := .tuple #[pV (0, 0, 0), .int .i64 G]) (by simp [results, Tryd.results64, go_sem, x0, x1, x2, x3, x4, x5, x6]) rfl ⟨?_, (hx.trans hx1).setCell (by simp) _ |>.setCell (by simp) _ |>.setCell (by simp) _⟩
        have e : bookGo l 0 0 = ((f, g), G) := by rw [hd.out, hs.out, hse.out, if_neg HZ.out]
        rw [HE.out.1, HE.out.2, e]; simp [ok3, HZ.out]
    · obtain rfl : k = n := by omega
      go_wp2
      refine bodyPost_ret (v := .tuple #[pV (f, g, wrap64 (f - g)), .int .i64 0]) (by simp [results, Tryd.results64, go_sem, x0, x1, x2, x3, x4, x5, x6]) rfl ⟨?_, by ((repeat' (first | with_reducible exact Ext.refl _ | with_reducible assumption | with_reducible exact Ext.one _ | with_reducible refine Ext.alloc ?_ _ | with_reducible refine Ext.setCell ?_ ?_ _ | with_reducible refine Ext.drew ?_ | ((with_reducible apply Ext.after'); (with_reducible assumption)))) <;> (try simp) <;> omega)⟩
      have e : bookGo l 0 0 = ((f, g), 0) := by rw [hd.out, List.drop_eq_nil_of_le (by rw [HL.out]; omega)]; rfl
      rw [HE.out.1, HE.out.2, e]; rfl
end Go.Proofs.YtdbglpaejmhbjaaDoor
