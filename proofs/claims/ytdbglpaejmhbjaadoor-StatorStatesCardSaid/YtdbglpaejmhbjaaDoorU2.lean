/- StatorStates' walk. -/
import Derived.Test.YtdbglpaejmhbjaaDoorU1
import Derived.Test.YtdbglpaejmhbjaaDoorW15
import Derived.Test.YtdbglpaejmhbjaaDoorReg
import Derived.Deep.Cut
import Derived.Deep.CutRange
namespace Go.Proofs.YtdbglpaejmhbjaaDoor
open Go Go.RowKit Go.Proofs
set_option linter.unusedSimpArgs false
set_option linter.unusedVariables false
set_option maxRecDepth 100000 in
theorem putsD_L_StatorStates_9 (V : Nat → Value) (df : List Deferred) (x0 x1 x2 x3 x4 x5 x6 x7 x8 x9 x10 x11 x12 x13 x14 x15 x16 x17 x18 x19 x20 x21 x22 x23 x24 x25 x26 x27 x28 x29 x30 x31 x32 x33 x34 x35 x36 x37 x38 x39 x40 x41 x42 x43 x44 x45 x46 x47 x48 x49 x50 x51 x52 x53 x54 x55 x56 x57 x58 x59 x60 x61 x62 x63 x64 x65 x66 x67 x68 x69 x70 x71 x72 x73 x74 x75 x76 x77 x78 x79 x80 x81 x82 x83 x84 x85 x86 x87 x88 x89 x90 x91 x92 x93 x94 x95 x96 x97 x98 x99 x100 x101 x102 x103 x104 x105 x106 x107 x108 x109 x110 x111 x112 x113 x114 x115 x116 x117 x118 x119 x120 x121 x122 x123 x124 x125 x126 x127 x128 x129 x130 x131 x132 x133 x134 x135 x136 x137 x138 x139 x140 x141 x142 x143 x144 x145 x146 x147 x148 x149 x150 x151 x152 x153 x154 x155 x156 x157 x158 x159 x160 x161 x162 x163 x164 x165 x166 x167 x168 x169 x170 x171 x172 x173 x174 x175 x176 x177 : Value) : putsD V [some 48, some 49, some 50, some 51, some 52, some 53, some 54, some 55] 0 ⟨#[x0, x1, x2, x3, x4, x5, x6, x7, x8, x9, x10, x11, x12, x13, x14, x15, x16, x17, x18, x19, x20, x21, x22, x23, x24, x25, x26, x27, x28, x29, x30, x31, x32, x33, x34, x35, x36, x37, x38, x39, x40, x41, x42, x43, x44, x45, x46, x47, x48, x49, x50, x51, x52, x53, x54, x55, x56, x57, x58, x59, x60, x61, x62, x63, x64, x65, x66, x67, x68, x69, x70, x71, x72, x73, x74, x75, x76, x77, x78, x79, x80, x81, x82, x83, x84, x85, x86, x87, x88, x89, x90, x91, x92, x93, x94, x95, x96, x97, x98, x99, x100, x101, x102, x103, x104, x105, x106, x107, x108, x109, x110, x111, x112, x113, x114, x115, x116, x117, x118, x119, x120, x121, x122, x123, x124, x125, x126, x127, x128, x129, x130, x131, x132, x133, x134, x135, x136, x137, x138, x139, x140, x141, x142, x143, x144, x145, x146, x147, x148, x149, x150, x151, x152, x153, x154, x155, x156, x157, x158, x159, x160, x161, x162, x163, x164, x165, x166, x167, x168, x169, x170, x171, x172, x173, x174, x175, x176, x177], df⟩ = ⟨#[x0, x1, x2, x3, x4, x5, x6, x7, x8, x9, x10, x11, x12, x13, x14, x15, x16, x17, x18, x19, x20, x21, x22, x23, x24, x25, x26, x27, x28, x29, x30, x31, x32, x33, x34, x35, x36, x37, x38, x39, x40, x41, x42, x43, x44, x45, x46, x47, V 0, V 1, V 2, V 3, V 4, V 5, V 6, V 7, x56, x57, x58, x59, x60, x61, x62, x63, x64, x65, x66, x67, x68, x69, x70, x71, x72, x73, x74, x75, x76, x77, x78, x79, x80, x81, x82, x83, x84, x85, x86, x87, x88, x89, x90, x91, x92, x93, x94, x95, x96, x97, x98, x99, x100, x101, x102, x103, x104, x105, x106, x107, x108, x109, x110, x111, x112, x113, x114, x115, x116, x117, x118, x119, x120, x121, x122, x123, x124, x125, x126, x127, x128, x129, x130, x131, x132, x133, x134, x135, x136, x137, x138, x139, x140, x141, x142, x143, x144, x145, x146, x147, x148, x149, x150, x151, x152, x153, x154, x155, x156, x157, x158, x159, x160, x161, x162, x163, x164, x165, x166, x167, x168, x169, x170, x171, x172, x173, x174, x175, x176, x177], df⟩ := by kernel_rfl

set_option maxRecDepth 100000 in
set_option maxHeartbeats 1000000 in
theorem statorStates_out (st s : Int) (a : Option Addr) (n c : Nat) (w : World) (hs : Sts w) (h : 20 < n ∧ n ≤ 60 ∨ 62 < n) : Calls Tryd.prog 11 #[.int .i64 st, .int .i64 s, .slice a n c] w fun e w' => e = .returned (.bool true) ∧ Ext w w' := by
  have HW := Lib.hid (fun w1 (h : Ext w w1) => awake_any w1 (hs.ext h))
  rcases h with ⟨h1, h2⟩ | h
  · go_enter Tryd.func11, Tryd.ntmps11
    go_wp2_with (first | (go_at_call 15; (with_reducible refine (HW.out _ (by ((repeat' (first | with_reducible exact Ext.refl _ | with_reducible assumption | with_reducible exact Ext.one _ | with_reducible refine Ext.alloc ?_ _ | with_reducible refine Ext.setCell ?_ ?_ _ | with_reducible refine Ext.drew ?_ | ((with_reducible apply Ext.after'); (with_reducible assumption)))) <;> (try simp) <;> omega))).mono ?_); rintro e w3 ⟨rfl, hx3⟩; obtain ⟨hc3, hf3⟩ := bcell hx3))
    go_ret
    exact ⟨rfl, by ((repeat' (first | with_reducible exact Ext.refl _ | with_reducible assumption | with_reducible exact Ext.one _ | with_reducible refine Ext.alloc ?_ _ | with_reducible refine Ext.setCell ?_ ?_ _ | with_reducible refine Ext.drew ?_ | ((with_reducible apply Ext.after'); (with_reducible assumption)))) <;> (try simp) <;> omega)⟩
  · go_enter Tryd.func11, Tryd.ntmps11
    go_wp2_with (first | (go_at_call 15; (with_reducible refine (HW.out _ (by ((repeat' (first | with_reducible exact Ext.refl _ | with_reducible assumption | with_reducible exact Ext.one _ | with_reducible refine Ext.alloc ?_ _ | with_reducible refine Ext.setCell ?_ ?_ _ | with_reducible refine Ext.drew ?_ | ((with_reducible apply Ext.after'); (with_reducible assumption)))) <;> (try simp) <;> omega))).mono ?_); rintro e w3 ⟨rfl, hx3⟩; obtain ⟨hc3, hf3⟩ := bcell hx3))
    go_ret
    exact ⟨rfl, by ((repeat' (first | with_reducible exact Ext.refl _ | with_reducible assumption | with_reducible exact Ext.one _ | with_reducible refine Ext.alloc ?_ _ | with_reducible refine Ext.setCell ?_ ?_ _ | with_reducible refine Ext.drew ?_ | ((with_reducible apply Ext.after'); (with_reducible assumption)))) <;> (try simp) <;> omega)⟩
set_option maxRecDepth 100000 in
set_option maxHeartbeats 4000000 in
theorem statorStates_in (st s : Int) (cs : List T2) (a : Option Addr) (n c : Nat) (w : World) (hs : Sts w) (hl : cs.length = n) (hr : Rd w 2 a n (cells2 cs)) (hn : n ≤ 62) (hn2 : n ≤ 20 ∨ 60 < n) :
    Calls Tryd.prog 11 #[.int .i64 st, .int .i64 s, .slice a n c] w fun e w' => e = .returned (.bool true) ∧ Ext w w' := by
  have hn' : n ≤ 1000 := by omega
  have HW := Lib.hid (fun w1 (h : Ext w w1) => awake_any w1 (hs.ext h))
  have HSV := Lib.hid (fun w1 (h : Ext w w1) => stateVector_any st w1 (hs.ext h))
  have HIS := Lib.hid (rIsState_any st)
  have HRV := Lib.hid (rStateVector_any st)
  have HC := Lib.hid (show ∀ w1, Ext w w1 → Calls Tryd.prog 17 #[.slice a n c] w1 (RetRd (fun x => x) 2 n (cells2 cs) w1) from fun w1 h1 =>
    (rCopyVectors_any (cells2 cs) a n c w1 hn' (hr.ext h1) (one_cells2 cs)).mono fun _ _ ⟨a', c', he, hc, ho, hx⟩ => ⟨a', c', he, hc, Rd.of_own ho, hx⟩)
  have HM := Lib.hid (fun w1 a' c' (hx : Ext w w1) (hr' : Rd w1 2 a' n (cells2 cs)) (hE : modE s n cs = 0) => modulated_any s cs a' n c' w1 (hs.ext hx) hl hn' hr' hE)
  have HME := Lib.hid (fun w1 a' c' (hr' : Rd w1 2 a' n (cells2 cs)) (hE : modE s n cs ≠ 0) => modulated_err s cs a' n c' w1 hl hn' hr' hE)
  have HWE := Lib.hid (fun w1 (h : Ext w w1) => rWantsErr_any s cs a n c w1 hl hn' (hr.ext h))
  have HRM := Lib.hid (fun w1 (h : Ext w w1) => rModulated_any s cs a n c w1 hl hn' (hr.ext h))
  have HL := Lib.hid hl
  have HSt := Lib.hid hs
  have hmE := Lib.hid (modE_eq s n cs)
  have hq3 : (decide (20 < (n : Int)) && decide ((n : Int) ≤ 60) || decide (62 < (n : Int))) = false := by
    rcases hn2 with h | h
    · have h2 : decide (20 < (n : Int)) = false := by simp; omega
      have h3 : decide (62 < (n : Int)) = false := by simp; omega
      rw [h2, h3]; rfl
    · have h2 : decide ((n : Int) ≤ 60) = false := by simp; omega
      have h3 : decide (62 < (n : Int)) = false := by simp; omega
      rw [h2, h3]; simp
  clear hl hs
  go_enter Tryd.func11, Tryd.ntmps11
  go_upto_region 3 with (first | (go_at_call 15; (with_reducible refine (HW.out _ (by ((repeat' (first | with_reducible exact Ext.refl _ | with_reducible assumption | with_reducible exact Ext.one _ | with_reducible refine Ext.alloc ?_ _ | with_reducible refine Ext.setCell ?_ ?_ _ | with_reducible refine Ext.drew ?_ | ((with_reducible apply Ext.after'); (with_reducible assumption)))) <;> (try simp) <;> omega))).mono ?_); rintro e w3 ⟨rfl, hx3⟩; obtain ⟨hc3, hf3⟩ := bcell hx3))
  go_cut [32] from 20 (fun s wx => s = .bool false ∧ wx = w3)
  case first =>
    clear hq3
    rcases hn2 with hn3 | hn3
    all_goals
      go_wp2
      go_meet
      case rel => exact ⟨by simp; omega, rfl⟩
  case rest =>
  obtain ⟨rfl, rfl⟩ := hcut
  clear hq3
  have hx3' : Ext w wc := hx3
  go_upto_if 40 with (first | (go_at_call 37; (with_reducible refine (HSV.out _ (by ((repeat' (first | with_reducible exact Ext.refl _ | with_reducible assumption | with_reducible exact Ext.one _ | with_reducible refine Ext.alloc ?_ _ | with_reducible refine Ext.setCell ?_ ?_ _ | with_reducible refine Ext.drew ?_ | ((with_reducible apply Ext.after'); (with_reducible assumption)))) <;> (try simp) <;> omega))).mono ?_); rintro e w4 ⟨rfl, hx4⟩; obtain ⟨hc4, hf4⟩ := bcell hx4) | (go_at_call 57; (with_reducible refine (HIS.out _).mono ?_); rintro e wz ⟨rfl, rfl⟩))
  go_cut [8] from 33 (fun _ wx => Ext w wx)
  case first =>
    have hE : unlessE (withinB st 0 7) 2 = if withinB st 0 7 = true then 0 else 2 := by unfold unlessE; rfl
    cases hb : withinB st 0 7 with
    | false =>
      rw [hb] at hE
      simp only [Bool.false_eq_true, if_false] at hE
      simp only [hE, okV, show ¬ ((2 : Int) = 0) by omega, if_false]
      clear hE hb
      go_wp2
      go_meet
      case rel => ((repeat' (first | with_reducible exact Ext.refl _ | with_reducible assumption | with_reducible exact Ext.one _ | with_reducible refine Ext.alloc ?_ _ | with_reducible refine Ext.setCell ?_ ?_ _ | with_reducible refine Ext.drew ?_ | ((with_reducible apply Ext.after'); (with_reducible assumption)))) <;> (try simp) <;> omega)
    | true =>
      rw [hb] at hE
      simp only [if_true] at hE
      have HR1 := Lib.hid (fun w1 => HRV.out w1 hb)
      simp only [hE, okV, if_true]
      clear hE hb
      generalize stV st = x at *
      go_wp2
      apply wp_region_env 8 [SF.is _, SF.is _, SF.is _, SF.is _, SF.is _, SF.is _, SF.is _, SF.is _] [some 48, some 49, some 50, some 51, some 52, some 53, some 54, some 55] (by kernel_rfl) (by kernel_rfl) (by kernel_rfl) (by kernel_rfl) (fun V e0 hSl => ?steps) (fun V w5 hx_w5 hf_w5 => ?tail)
      case steps =>
        have he8 := hSl 8
        have he7 := hSl 7
        have he0 := hSl 0
        clear hSl
        simp only [Array.getD_eq_getD_getElem?, List.getElem?_toArray, List.getElem?_cons_succ, List.getElem?_cons_zero, Option.getD_some] at he8 he7 he0
        refine stepE_val rfl rfl (ex_move he8) ?_
        (refine stepE_is _ rfl rfl (ex_binOp ev_h rfl) ?_ ?_; (· intro w2 hx; go_simp; (try simp only [wrap_eq]); exact isF (Ext.refl _)))
        refine stepE_val rfl rfl (ex_move ev_h) ?_
        (first | refine stepE_skip rfl rfl ?_ | (refine stepE_is _ rfl rfl (ex_load he7) ?_ ?_; (· intro w2 hx; obtain ⟨hc, hfz⟩ := bcell hx; go_simp; (try simp only [wrap_eq]); exact isF (Ext.refl _))))
        (first | refine stepE_skip rfl rfl ?_ | refine stepE_val rfl rfl (ex_move he0) ?_)
        (first | refine stepE_skip rfl rfl ?_ | (refine stepE_is _ rfl rfl (ex_call rfl (ex_arg ev_h ex_arg0)) ?_ ?_; (· intro w2 hx; refine rel_call (fun _ _ => by kernel_rfl) ?_; (first | ((with_reducible refine CallTo.of (HR1.out _) ?_); exact fun _ _ => rfl) | ((with_reducible refine CallTo.of (rStateVector_any _ _) ?_); exact fun _ _ => rfl)))))
        (first | refine stepE_skip rfl rfl ?_ | (refine stepE_is _ rfl rfl (ex_binOp (ev_m rfl (ev_m rfl ev_h)) ev_h) ?_ ?_; (· intro w2 hx; go_simp; (try simp only [wrap_eq]); exact isF (Ext.refl _))))
        (first | refine stepE_val rfl rfl (ex_pickT (ev_m rfl (ev_m rfl (ev_m rfl (ev_m rfl ev_h)))) rfl) ?_ | refine stepE_val rfl rfl (ex_pickF (ev_m rfl (ev_m rfl (ev_m rfl (ev_m rfl ev_h)))) ev_h) ?_ | (refine stepE_is _ rfl rfl (ex_pick (ev_m rfl (ev_m rfl (ev_m rfl (ev_m rfl ev_h)))) rfl ev_h) ?_ ?_; (· intro w2 hx; go_simp; exact isF (Ext.refl _))))
        exact trivial
      case tail =>
      rw [putsD_L_StatorStates_9]
      clear hf_w5; have hf_w5 : True := trivial
      simp only [List.take, Region.binds, mode_text, mode_gc, if_true, true_and, Bool.false_eq_true, if_false, List.drop, StepsU, StepsG, putsAll, FactsAt, Fs, val, List.getD_cons_zero, List.getD_cons_succ, List.getD_nil, SF.is, SF.rd, SF.any, SF.box, Option.getD_some, Option.getD_none, Act.put, List.setIfInBounds_toArray, List.set_cons_zero, List.set_cons_succ] at ⊢
      obtain ⟨hc_w5, hfz_w5⟩ := bcell hx_w5
      go_wp2
      go_meet
      case rel => ((repeat' (first | with_reducible exact Ext.refl _ | with_reducible assumption | with_reducible exact Ext.one _ | with_reducible refine Ext.alloc ?_ _ | with_reducible refine Ext.setCell ?_ ?_ _ | with_reducible refine Ext.drew ?_ | ((with_reducible apply Ext.after'); (with_reducible assumption)))) <;> (try simp) <;> omega)
  case rest =>
  clear hc3 hf3 hc4 hf4 hx3' hx3 hx4 HSV HIS HRV HW
  go_wp2
  go_loopw [9] (fun i wr => ∃ (k : Nat), k ≤ n ∧ i = .int .i64 k ∧ Ext w wr) (fun i _ => n - (intOf i).toNat)
  case atStart => exact ⟨0, Nat.zero_le _, rfl, hcut⟩
  case round =>
    obtain ⟨k, hk, rfl, hx⟩ := hrel
    by_cases hlt : k < n ∧ k < 3
    · obtain ⟨hlt, hk3⟩ := hlt
      obtain ⟨b, o, rfl, hrow⟩ := (hr.ext hx).2 (by omega)
      have hkl : k < cs.length := by rw [HL.out]; exact hlt
      have hbb := hrow.1
      have c0 := hrow.at (cells2_get0 hkl)
      have c1 := hrow.at' (cells2_get1 hkl)
      generalize cs[k] = v at *
      have HI := Lib.hid (isNear_any s v)
      have HN := Lib.hid (fun w1 (h : Ext w w1) => nearestS_any s v w1 (HSt.out.ext h))
      have HSE := Lib.hid (rScaleErr_any s)
      have HVE := Lib.hid (rVectorErr_any v)
      have hsc := scaled_cases s v
      have hnb := fun h1 h2 => nearB_eq (s := s) (v := v) h1 h2
      have hnw := fun h2 => nearW_eq (s := s) (v := v) (inW_right h2)
      have HRI := Lib.hid (rIsNear_any s v)
      have HRN := Lib.hid (rNearest_any s v)
      rcases hsc with ⟨e1, h2⟩ | ⟨e1, h1, h2⟩
      · rw [e1] at HI HN
        simp only [okB, okI, show ¬ ((2 : Int) = 0) by omega, if_false] at HI HN
        have h2' : (withinB s 1 100000 = true ∧ rightB v = false) ∨ withinB s 1 100000 = false := by
          cases h : withinB s 1 100000 <;> simp_all
        clear hnb hnw h2 e1 HRI HRN
        rcases h2' with ⟨e1, e2⟩ | e1
        · rw [e1] at HSE
          rw [e2] at HVE
          simp only [unlessE, Bool.false_eq_true, if_true, if_false] at HSE HVE
          clear e1 e2
          go_wp2_with (first | (go_at_call 35; (with_reducible refine (HI.out _).mono ?_); rintro e w5 ⟨rfl, hx5⟩; obtain ⟨hc5, hf5⟩ := bcell hx5; have hq5_0 : b < w5.heap.size := (by have := hx5.size; (try simp at this); omega)) | (go_at_call 59; (with_reducible refine (HN.out _ (by ((repeat' (first | with_reducible exact Ext.refl _ | with_reducible assumption | with_reducible exact Ext.one _ | with_reducible refine Ext.alloc ?_ _ | with_reducible refine Ext.setCell ?_ ?_ _ | with_reducible refine Ext.drew ?_ | ((with_reducible apply Ext.after'); (with_reducible assumption)))) <;> (try simp) <;> omega))).mono ?_); rintro e w6 ⟨rfl, hx6⟩; obtain ⟨hc6, hf6⟩ := bcell hx6; have hq6_0 : b < w6.heap.size := (by have := hx6.size; (try simp at this); omega)) | (go_at_call 60; (with_reducible refine (HSE.out _).mono ?_); rintro e wz ⟨rfl, rfl⟩) | (go_at_call 19; (with_reducible refine (HVE.out _).mono ?_); rintro e w7 ⟨rfl, hx7⟩; obtain ⟨hc7, hf7⟩ := bcell hx7; have hq7_0 : b < w7.heap.size := (by have := hx7.size; (try simp at this); omega)))
          go_roundw
          case rel => exact ⟨k + 1, by omega, by go_num, by ((repeat' (first | with_reducible exact Ext.refl _ | with_reducible assumption | with_reducible exact Ext.one _ | with_reducible refine Ext.alloc ?_ _ | with_reducible refine Ext.setCell ?_ ?_ _ | with_reducible refine Ext.drew ?_ | ((with_reducible apply Ext.after'); (with_reducible assumption)))) <;> (try simp) <;> omega)⟩
          case measure => simp [intOf]; omega
        · rw [e1] at HSE
          simp only [unlessE, Bool.false_eq_true, if_true, if_false] at HSE HVE
          clear e1
          go_wp2_with (first | (go_at_call 35; (with_reducible refine (HI.out _).mono ?_); rintro e w5 ⟨rfl, hx5⟩; obtain ⟨hc5, hf5⟩ := bcell hx5; have hq5_0 : b < w5.heap.size := (by have := hx5.size; (try simp at this); omega)) | (go_at_call 59; (with_reducible refine (HN.out _ (by ((repeat' (first | with_reducible exact Ext.refl _ | with_reducible assumption | with_reducible exact Ext.one _ | with_reducible refine Ext.alloc ?_ _ | with_reducible refine Ext.setCell ?_ ?_ _ | with_reducible refine Ext.drew ?_ | ((with_reducible apply Ext.after'); (with_reducible assumption)))) <;> (try simp) <;> omega))).mono ?_); rintro e w6 ⟨rfl, hx6⟩; obtain ⟨hc6, hf6⟩ := bcell hx6; have hq6_0 : b < w6.heap.size := (by have := hx6.size; (try simp at this); omega)) | (go_at_call 60; (with_reducible refine (HSE.out _).mono ?_); rintro e wz ⟨rfl, rfl⟩) | (go_at_call 19; (with_reducible refine (HVE.out _).mono ?_); rintro e w7 ⟨rfl, hx7⟩; obtain ⟨hc7, hf7⟩ := bcell hx7; have hq7_0 : b < w7.heap.size := (by have := hx7.size; (try simp at this); omega)))
          go_roundw
          case rel => exact ⟨k + 1, by omega, by go_num, by ((repeat' (first | with_reducible exact Ext.refl _ | with_reducible assumption | with_reducible exact Ext.one _ | with_reducible refine Ext.alloc ?_ _ | with_reducible refine Ext.setCell ?_ ?_ _ | with_reducible refine Ext.drew ?_ | ((with_reducible apply Ext.after'); (with_reducible assumption)))) <;> (try simp) <;> omega)⟩
          case measure => simp [intOf]; omega
      · rw [e1] at HI HN
        have h1' : 1 ≤ s ∧ s ≤ 100000 := by simpa [withinB] using h1
        rw [hnb h1' h2] at HI
        rw [hnw h2] at HN
        rw [h1] at HSE
        rw [h2] at HVE
        simp only [okB, okI, unlessE, if_true] at HI HN HSE HVE
        clear hnb hnw h1 h2 e1 h1'
        generalize nearG s v 7 = g at *
        generalize nearR s v = q at *
        cases q
        all_goals
          go_wp2_with (first | (go_at_call 35; (with_reducible refine (HI.out _).mono ?_); rintro e w5 ⟨rfl, hx5⟩; obtain ⟨hc5, hf5⟩ := bcell hx5; have hq5_0 : b < w5.heap.size := (by have := hx5.size; (try simp at this); omega)) | (go_at_call 59; (with_reducible refine (HN.out _ (by ((repeat' (first | with_reducible exact Ext.refl _ | with_reducible assumption | with_reducible exact Ext.one _ | with_reducible refine Ext.alloc ?_ _ | with_reducible refine Ext.setCell ?_ ?_ _ | with_reducible refine Ext.drew ?_ | ((with_reducible apply Ext.after'); (with_reducible assumption)))) <;> (try simp) <;> omega))).mono ?_); rintro e w6 ⟨rfl, hx6⟩; obtain ⟨hc6, hf6⟩ := bcell hx6; have hq6_0 : b < w6.heap.size := (by have := hx6.size; (try simp at this); omega)) | (go_at_call 60; (with_reducible refine (HSE.out _).mono ?_); rintro e wz ⟨rfl, rfl⟩) | (go_at_call 19; (with_reducible refine (HVE.out _).mono ?_); rintro e w7 ⟨rfl, hx7⟩; obtain ⟨hc7, hf7⟩ := bcell hx7; have hq7_0 : b < w7.heap.size := (by have := hx7.size; (try simp at this); omega)) | (go_at_call 61; (with_reducible refine (HRI.out _).mono ?_); rintro e w8 ⟨rfl, hx8⟩; obtain ⟨hc8, hf8⟩ := bcell hx8; have hq8_0 : b < w8.heap.size := (by have := hx8.size; (try simp at this); omega)) | (go_at_call 62; (with_reducible refine (HRN.out _).mono ?_); rintro e w9 ⟨rfl, hx9⟩; obtain ⟨hc9, hf9⟩ := bcell hx9; have hq9_0 : b < w9.heap.size := (by have := hx9.size; (try simp at this); omega)))
          go_roundw
          case rel => exact ⟨k + 1, by omega, by go_num, by ((repeat' (first | with_reducible exact Ext.refl _ | with_reducible assumption | with_reducible exact Ext.one _ | with_reducible refine Ext.alloc ?_ _ | with_reducible refine Ext.setCell ?_ ?_ _ | with_reducible refine Ext.drew ?_ | ((with_reducible apply Ext.after'); (with_reducible assumption)))) <;> (try simp) <;> omega)⟩
          case measure => simp [intOf]; omega
    · have hlt' : ¬ k < n ∨ (k < n ∧ ¬ k < 3) := by omega
      clear hlt
      by_cases hE : modE s n cs = 0
      · have HM1 := Lib.hid (fun w1 a' c' (hx : Ext w w1) (hr' : Rd w1 2 a' n (cells2 cs)) => HM.out w1 a' c' hx hr' hE)
        have hE' : wantsE s n cs = 0 := by rw [← hmE.out]; exact hE
        rw [hE'] at HWE
        have hML : ((modGo s (0, 0) cs).map (·.1)).length = n := by rw [List.length_map, modGo_length, HL.out]
        have hML2 : ((modGo s (0, 0) cs).map (·.2)).length = n := by rw [List.length_map, modGo_length, HL.out]
        have HRM1 := HRM
        rw [← modGo_eq] at HRM1
        clear hE hE' HM HRM HME
        generalize (modGo s (0, 0) cs).map (·.1) = M1 at *
        generalize (modGo s (0, 0) cs).map (·.2) = M2 at *
        have HML := Lib.hid hML
        have HML2 := Lib.hid hML2
        clear hML hML2
        rcases hlt' with h | ⟨h, h'⟩
        all_goals
          go_upto_region 26 with (first | (go_at_call 17; (with_reducible refine (HC.out _ (by ((repeat' (first | with_reducible exact Ext.refl _ | with_reducible assumption | with_reducible exact Ext.one _ | with_reducible refine Ext.alloc ?_ _ | with_reducible refine Ext.setCell ?_ ?_ _ | with_reducible refine Ext.drew ?_ | ((with_reducible apply Ext.after'); (with_reducible assumption)))) <;> (try simp) <;> omega))).mono ?_); rintro e w6 ⟨a6, c6, rfl, hcc6, hrd6, hx6⟩; obtain ⟨hc6, hf6⟩ := bcell hx6) | (go_at_call 36; (with_reducible refine (HM1.out _ _ _ (by ((repeat' (first | with_reducible exact Ext.refl _ | with_reducible assumption | with_reducible exact Ext.one _ | with_reducible refine Ext.alloc ?_ _ | with_reducible refine Ext.setCell ?_ ?_ _ | with_reducible refine Ext.drew ?_ | ((with_reducible apply Ext.after'); (with_reducible assumption)))) <;> (try simp) <;> omega)) hrd6).mono ?_); rintro e w7 ⟨A1, c1, A2, c2, rfl, hown1, hown2, hx7⟩; obtain ⟨hc7, hf7⟩ := bcell hx7) | (go_at_call 34; (with_reducible refine (HWE.out _ (by ((repeat' (first | with_reducible exact Ext.refl _ | with_reducible assumption | with_reducible exact Ext.one _ | with_reducible refine Ext.alloc ?_ _ | with_reducible refine Ext.setCell ?_ ?_ _ | with_reducible refine Ext.drew ?_ | ((with_reducible apply Ext.after'); (with_reducible assumption)))) <;> (try simp) <;> omega))).mono ?_); rintro e w8 ⟨rfl, hx8⟩; obtain ⟨hc8, hf8⟩ := bcell hx8; have hq8_0 : w7.heap.size < w8.heap.size := (by have := hx8.size; (try simp at this); omega)) | (go_at_call 63; (with_reducible refine (HRM1.out _ (by ((repeat' (first | with_reducible exact Ext.refl _ | with_reducible assumption | with_reducible exact Ext.one _ | with_reducible refine Ext.alloc ?_ _ | with_reducible refine Ext.setCell ?_ ?_ _ | with_reducible refine Ext.drew ?_ | ((with_reducible apply Ext.after'); (with_reducible assumption)))) <;> (try simp) <;> omega))).mono ?_); rintro e w9 ⟨B1, d1, B2, d2, rfl, hown3, hown4, hx9⟩; obtain ⟨hc9, hf9⟩ := bcell hx9; have hq9 : w7.heap.size < w9.heap.size := (by have := hx9.size; (try simp at this); omega)))
          have HI := Lib.hid (show ∀ w1, Ext w7 w1 → Ext w9 w1 → Calls Tryd.prog 32 #[.slice A1 n c1, .slice B1 n d1] w1 fun e w' => e = .returned (.bool true) ∧ Ext w1 w' from fun w1 h7 h9 => by
            have h := bInts_any M1 M1 A1 B1 n c1 n d1 w1 HML.out HML.out hn' hn' ((Rd.of_own hown1).ext h7) ((Rd.of_own hown3).ext h9)
            rwa [beq_self_eq_true] at h)
          have HJ := Lib.hid (show ∀ w1, Ext w7 w1 → Ext w9 w1 → Calls Tryd.prog 49 #[.slice A2 n c2, .slice B2 n d2] w1 fun e w' => e = .returned (.bool true) ∧ Ext w1 w' from fun w1 h7 h9 => by
            have h := rSame_any M2 M2 A2 B2 n c2 n d2 w1 HML2.out HML2.out hn' hn' ((Rd.of_own hown2).ext h7) ((Rd.of_own hown4).ext h9)
            rwa [beq_self_eq_true] at h)
          go_wp2_with (first | (go_at_call 32; (with_reducible refine (HI.out _ (by ((repeat' (first | with_reducible exact Ext.refl _ | with_reducible assumption | with_reducible exact Ext.one _ | with_reducible refine Ext.alloc ?_ _ | with_reducible refine Ext.setCell ?_ ?_ _ | with_reducible refine Ext.drew ?_ | ((with_reducible apply Ext.after'); (with_reducible assumption)))) <;> (try simp) <;> omega)) (by ((repeat' (first | with_reducible exact Ext.refl _ | with_reducible assumption | with_reducible exact Ext.one _ | with_reducible refine Ext.alloc ?_ _ | with_reducible refine Ext.setCell ?_ ?_ _ | with_reducible refine Ext.drew ?_ | ((with_reducible apply Ext.after'); (with_reducible assumption)))) <;> (try simp) <;> omega))).mono ?_); rintro e w10 ⟨rfl, hx10⟩; obtain ⟨hc10, hf10⟩ := bcell hx10; have hq10 : w7.heap.size < w10.heap.size := (by have := hx10.size; (try simp at this); omega); have hq11 : w9.heap.size < w10.heap.size := (by have := hx10.size; (try simp at this); omega)) | (go_at_call 49; (with_reducible refine (HJ.out _ (by ((repeat' (first | with_reducible exact Ext.refl _ | with_reducible assumption | with_reducible exact Ext.one _ | with_reducible refine Ext.alloc ?_ _ | with_reducible refine Ext.setCell ?_ ?_ _ | with_reducible refine Ext.drew ?_ | ((with_reducible apply Ext.after'); (with_reducible assumption)))) <;> (try simp) <;> omega)) (by ((repeat' (first | with_reducible exact Ext.refl _ | with_reducible assumption | with_reducible exact Ext.one _ | with_reducible refine Ext.alloc ?_ _ | with_reducible refine Ext.setCell ?_ ?_ _ | with_reducible refine Ext.drew ?_ | ((with_reducible apply Ext.after'); (with_reducible assumption)))) <;> (try simp) <;> omega))).mono ?_); rintro e w11 ⟨rfl, hx11⟩))
          go_ret
          exact ⟨rfl, by ((repeat' (first | with_reducible exact Ext.refl _ | with_reducible assumption | with_reducible exact Ext.one _ | with_reducible refine Ext.alloc ?_ _ | with_reducible refine Ext.setCell ?_ ?_ _ | with_reducible refine Ext.drew ?_ | ((with_reducible apply Ext.after'); (with_reducible assumption)))) <;> (try simp) <;> omega)⟩
      · have HM1 := Lib.hid (fun w1 a' c' (hr' : Rd w1 2 a' n (cells2 cs)) => HME.out w1 a' c' hr' hE)
        rw [hmE.out] at hE HM1
        generalize wantsE s n cs = E at *
        have hE1 : (E != 0) = true := by simp [hE]
        clear hE HM HRM HME
        rcases hlt' with h | ⟨h, h'⟩
        all_goals
          go_wp2_with (first | (go_at_call 17; (with_reducible refine (HC.out _ (by ((repeat' (first | with_reducible exact Ext.refl _ | with_reducible assumption | with_reducible exact Ext.one _ | with_reducible refine Ext.alloc ?_ _ | with_reducible refine Ext.setCell ?_ ?_ _ | with_reducible refine Ext.drew ?_ | ((with_reducible apply Ext.after'); (with_reducible assumption)))) <;> (try simp) <;> omega))).mono ?_); rintro e w6 ⟨a6, c6, rfl, hcc6, hrd6, hx6⟩; obtain ⟨hc6, hf6⟩ := bcell hx6) | (go_at_call 36; (with_reducible refine (HM1.out _ _ _ hrd6).mono ?_); rintro e w7 ⟨rfl, hx7⟩; obtain ⟨hc7, hf7⟩ := bcell hx7) | (go_at_call 34; (with_reducible refine (HWE.out _ (by ((repeat' (first | with_reducible exact Ext.refl _ | with_reducible assumption | with_reducible exact Ext.one _ | with_reducible refine Ext.alloc ?_ _ | with_reducible refine Ext.setCell ?_ ?_ _ | with_reducible refine Ext.drew ?_ | ((with_reducible apply Ext.after'); (with_reducible assumption)))) <;> (try simp) <;> omega))).mono ?_); rintro e w8 ⟨rfl, hx8⟩; obtain ⟨hc8, hf8⟩ := bcell hx8; have hq8_0 : w7.heap.size < w8.heap.size := (by have := hx8.size; (try simp at this); omega)))
          go_ret
          exact ⟨rfl, by ((repeat' (first | with_reducible exact Ext.refl _ | with_reducible assumption | with_reducible exact Ext.one _ | with_reducible refine Ext.alloc ?_ _ | with_reducible refine Ext.setCell ?_ ?_ _ | with_reducible refine Ext.drew ?_ | ((with_reducible apply Ext.after'); (with_reducible assumption)))) <;> (try simp) <;> omega)⟩
theorem statorStates_any (st s : Int) (cs : List T2) (a : Option Addr) (n c : Nat) (w : World) (hs : Sts w) (hl : cs.length = n) (hr : Rd w 2 a n (cells2 cs)) : Calls Tryd.prog 11 #[.int .i64 st, .int .i64 s, .slice a n c] w fun e w' => e = .returned (.bool true) ∧ Ext w w' := by
  by_cases h1 : 20 < n ∧ n ≤ 60 ∨ 62 < n
  · exact statorStates_out st s a n c w hs h1
  · exact statorStates_in st s cs a n c w hs hl hr (by omega) (by omega)
end Go.Proofs.YtdbglpaejmhbjaaDoor
