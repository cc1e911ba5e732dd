/- StatorBooks' walk. -/
import Derived.Test.YtdbglpaejmhbjaaDoorB3
import Derived.Test.YtdbglpaejmhbjaaDoorW15
import Derived.Test.YtdbglpaejmhbjaaDoorEnv
import Derived.Test.YtdbglpaejmhbjaaDoorSeq
import Derived.Deep.Cut
import Derived.Deep.CutRange
namespace Go.Proofs.YtdbglpaejmhbjaaDoor
open Go Go.RowKit Go.Proofs
set_option linter.unusedSimpArgs false
set_option linter.unusedVariables false
set_option maxRecDepth 100000 in
theorem putsD_L_StatorBooks_7 (V : Nat → Value) (df : List Deferred) (x0 x1 x2 x3 x4 x5 x6 x7 x8 x9 x10 x11 x12 x13 x14 x15 x16 x17 x18 x19 x20 x21 x22 x23 x24 x25 x26 x27 x28 x29 x30 x31 x32 x33 x34 x35 x36 x37 x38 x39 x40 x41 x42 x43 x44 x45 x46 x47 x48 x49 x50 x51 x52 x53 x54 x55 x56 x57 x58 x59 x60 x61 x62 x63 x64 x65 x66 x67 x68 x69 x70 x71 x72 x73 x74 x75 x76 x77 x78 x79 x80 x81 x82 x83 x84 x85 x86 x87 x88 x89 x90 x91 x92 x93 x94 x95 x96 x97 x98 x99 x100 x101 x102 x103 x104 x105 x106 x107 x108 x109 x110 x111 x112 x113 x114 x115 x116 x117 x118 x119 x120 x121 x122 x123 x124 x125 x126 x127 x128 x129 x130 x131 x132 x133 x134 x135 x136 x137 x138 x139 x140 x141 x142 x143 x144 x145 x146 x147 x148 x149 x150 x151 x152 x153 x154 x155 x156 x157 x158 x159 x160 x161 : Value) : putsD V (some 39 :: some 40 :: some 41 :: some 42 :: some 43 :: some 44 :: some 45 :: some 46 :: some 47 :: some 48 :: some 49 :: some 50 :: some 51 :: some 52 :: some 53 :: some 54 :: some 55 :: some 56 :: some 57 :: some 58 :: some 59 :: some 60 :: some 61 :: some 62 :: some 63 :: some 64 :: some 65 :: some 66 :: some 67 :: some 68 :: some 69 :: some 70 :: some 71 :: some 72 :: some 73 :: some 74 :: []) 0 ⟨#[x0, x1, x2, x3, x4, x5, x6, x7, x8, x9, x10, x11, x12, x13, x14, x15, x16, x17, x18, x19, x20, x21, x22, x23, x24, x25, x26, x27, x28, x29, x30, x31, x32, x33, x34, x35, x36, x37, x38, x39, x40, x41, x42, x43, x44, x45, x46, x47, x48, x49, x50, x51, x52, x53, x54, x55, x56, x57, x58, x59, x60, x61, x62, x63, x64, x65, x66, x67, x68, x69, x70, x71, x72, x73, x74, x75, x76, x77, x78, x79, x80, x81, x82, x83, x84, x85, x86, x87, x88, x89, x90, x91, x92, x93, x94, x95, x96, x97, x98, x99, x100, x101, x102, x103, x104, x105, x106, x107, x108, x109, x110, x111, x112, x113, x114, x115, x116, x117, x118, x119, x120, x121, x122, x123, x124, x125, x126, x127, x128, x129, x130, x131, x132, x133, x134, x135, x136, x137, x138, x139, x140, x141, x142, x143, x144, x145, x146, x147, x148, x149, x150, x151, x152, x153, x154, x155, x156, x157, x158, x159, x160, x161], df⟩ = ⟨#[x0, x1, x2, x3, x4, x5, x6, x7, x8, x9, x10, x11, x12, x13, x14, x15, x16, x17, x18, x19, x20, x21, x22, x23, x24, x25, x26, x27, x28, x29, x30, x31, x32, x33, x34, x35, x36, x37, x38, V 0, V 1, V 2, V 3, V 4, V 5, V 6, V 7, V 8, V 9, V 10, V 11, V 12, V 13, V 14, V 15, V 16, V 17, V 18, V 19, V 20, V 21, V 22, V 23, V 24, V 25, V 26, V 27, V 28, V 29, V 30, V 31, V 32, V 33, V 34, V 35, x75, x76, x77, x78, x79, x80, x81, x82, x83, x84, x85, x86, x87, x88, x89, x90, x91, x92, x93, x94, x95, x96, x97, x98, x99, x100, x101, x102, x103, x104, x105, x106, x107, x108, x109, x110, x111, x112, x113, x114, x115, x116, x117, x118, x119, x120, x121, x122, x123, x124, x125, x126, x127, x128, x129, x130, x131, x132, x133, x134, x135, x136, x137, x138, x139, x140, x141, x142, x143, x144, x145, x146, x147, x148, x149, x150, x151, x152, x153, x154, x155, x156, x157, x158, x159, x160, x161], df⟩ := by kernel_rfl
set_option maxRecDepth 100000 in
theorem putsD_L_StatorBooks_24 (V : Nat → Value) (df : List Deferred) (x0 x1 x2 x3 x4 x5 x6 x7 x8 x9 x10 x11 x12 x13 x14 x15 x16 x17 x18 x19 x20 x21 x22 x23 x24 x25 x26 x27 x28 x29 x30 x31 x32 x33 x34 x35 x36 x37 x38 x39 x40 x41 x42 x43 x44 x45 x46 x47 x48 x49 x50 x51 x52 x53 x54 x55 x56 x57 x58 x59 x60 x61 x62 x63 x64 x65 x66 x67 x68 x69 x70 x71 x72 x73 x74 x75 x76 x77 x78 x79 x80 x81 x82 x83 x84 x85 x86 x87 x88 x89 x90 x91 x92 x93 x94 x95 x96 x97 x98 x99 x100 x101 x102 x103 x104 x105 x106 x107 x108 x109 x110 x111 x112 x113 x114 x115 x116 x117 x118 x119 x120 x121 x122 x123 x124 x125 x126 x127 x128 x129 x130 x131 x132 x133 x134 x135 x136 x137 x138 x139 x140 x141 x142 x143 x144 x145 x146 x147 x148 x149 x150 x151 x152 x153 x154 x155 x156 x157 x158 x159 x160 x161 : Value) : putsD V [some 149, some 150, some 151, some 152, some 15] 0 ⟨#[x0, x1, x2, x3, x4, x5, x6, x7, x8, x9, x10, x11, x12, x13, x14, x15, x16, x17, x18, x19, x20, x21, x22, x23, x24, x25, x26, x27, x28, x29, x30, x31, x32, x33, x34, x35, x36, x37, x38, x39, x40, x41, x42, x43, x44, x45, x46, x47, x48, x49, x50, x51, x52, x53, x54, x55, x56, x57, x58, x59, x60, x61, x62, x63, x64, x65, x66, x67, x68, x69, x70, x71, x72, x73, x74, x75, x76, x77, x78, x79, x80, x81, x82, x83, x84, x85, x86, x87, x88, x89, x90, x91, x92, x93, x94, x95, x96, x97, x98, x99, x100, x101, x102, x103, x104, x105, x106, x107, x108, x109, x110, x111, x112, x113, x114, x115, x116, x117, x118, x119, x120, x121, x122, x123, x124, x125, x126, x127, x128, x129, x130, x131, x132, x133, x134, x135, x136, x137, x138, x139, x140, x141, x142, x143, x144, x145, x146, x147, x148, x149, x150, x151, x152, x153, x154, x155, x156, x157, x158, x159, x160, x161], df⟩ = ⟨#[x0, x1, x2, x3, x4, x5, x6, x7, x8, x9, x10, x11, x12, x13, x14, V 4, x16, x17, x18, x19, x20, x21, x22, x23, x24, x25, x26, x27, x28, x29, x30, x31, x32, x33, x34, x35, x36, x37, x38, x39, x40, x41, x42, x43, x44, x45, x46, x47, x48, x49, x50, x51, x52, x53, x54, x55, x56, x57, x58, x59, x60, x61, x62, x63, x64, x65, x66, x67, x68, x69, x70, x71, x72, x73, x74, x75, x76, x77, x78, x79, x80, x81, x82, x83, x84, x85, x86, x87, x88, x89, x90, x91, x92, x93, x94, x95, x96, x97, x98, x99, x100, x101, x102, x103, x104, x105, x106, x107, x108, x109, x110, x111, x112, x113, x114, x115, x116, x117, x118, x119, x120, x121, x122, x123, x124, x125, x126, x127, x128, x129, x130, x131, x132, x133, x134, x135, x136, x137, x138, x139, x140, x141, x142, x143, x144, x145, x146, x147, x148, V 0, V 1, V 2, V 3, x153, x154, x155, x156, x157, x158, x159, x160, x161], df⟩ := by kernel_rfl

set_option maxRecDepth 100000 in
set_option maxHeartbeats 1000000 in
theorem statorBooks_out (a : Option Addr) (n c : Nat) (w : World) (hs : Sts w) (h : 20 < n ∧ n ≤ 60 ∨ 62 < n) : Calls Tryd.prog 13 #[.slice a n c] w fun e w' => e = .returned (.bool true) ∧ Ext w w' := by
  have HW := Lib.hid (fun w1 (h : Ext w w1) => awake_any w1 (hs.ext h))
  rcases h with ⟨h1, h2⟩ | h
  · go_enter Tryd.func13, Tryd.ntmps13
    go_wp2_with (first | (go_at_call 15; (with_reducible refine (HW.out _ (by ((repeat' (first | with_reducible exact Ext.refl _ | with_reducible assumption | with_reducible exact Ext.one _ | with_reducible refine Ext.alloc ?_ _ | with_reducible refine Ext.setCell ?_ ?_ _ | with_reducible refine Ext.drew ?_ | ((with_reducible apply Ext.after'); (with_reducible assumption)))) <;> (try simp) <;> omega))).mono ?_); rintro e w3 ⟨rfl, hx3⟩; obtain ⟨hc3, hf3⟩ := bcell hx3))
    go_ret
    exact ⟨rfl, by ((repeat' (first | with_reducible exact Ext.refl _ | with_reducible assumption | with_reducible exact Ext.one _ | with_reducible refine Ext.alloc ?_ _ | with_reducible refine Ext.setCell ?_ ?_ _ | with_reducible refine Ext.drew ?_ | ((with_reducible apply Ext.after'); (with_reducible assumption)))) <;> (try simp) <;> omega)⟩
  · go_enter Tryd.func13, Tryd.ntmps13
    go_wp2_with (first | (go_at_call 15; (with_reducible refine (HW.out _ (by ((repeat' (first | with_reducible exact Ext.refl _ | with_reducible assumption | with_reducible exact Ext.one _ | with_reducible refine Ext.alloc ?_ _ | with_reducible refine Ext.setCell ?_ ?_ _ | with_reducible refine Ext.drew ?_ | ((with_reducible apply Ext.after'); (with_reducible assumption)))) <;> (try simp) <;> omega))).mono ?_); rintro e w3 ⟨rfl, hx3⟩; obtain ⟨hc3, hf3⟩ := bcell hx3))
    go_ret
    exact ⟨rfl, by ((repeat' (first | with_reducible exact Ext.refl _ | with_reducible assumption | with_reducible exact Ext.one _ | with_reducible refine Ext.alloc ?_ _ | with_reducible refine Ext.setCell ?_ ?_ _ | with_reducible refine Ext.drew ?_ | ((with_reducible apply Ext.after'); (with_reducible assumption)))) <;> (try simp) <;> omega)⟩
set_option maxRecDepth 100000 in
set_option maxHeartbeats 4000000 in
theorem statorBooks_in (l : List St) (a : Option Addr) (n c : Nat) (w : World) (hs : Sts w) (hl : l.length = n) (hr : Rd w 7 a n (cells7 l)) (hn : n ≤ 62) (hn2 : n ≤ 20 ∨ 60 < n) :
    Calls Tryd.prog 13 #[.slice a n c] w fun e w' => e = .returned (.bool true) ∧ Ext w w' := by
  have HW := Lib.hid (fun w1 (h : Ext w w1) => awake_any w1 (hs.ext h))
  have HC := Lib.hid (show ∀ w1, Ext w w1 → Calls Tryd.prog 65 #[.slice a n c] w1 (RetRd (fun x => x) 7 n (cells7 l) w1) from fun w1 h1 =>
    (rCopySteps_any (cells7 l) a n c w1 (by omega) (hr.ext h1) (one_cells7 l)).mono fun _ _ ⟨a', c', he, hc, ho, hx⟩ => ⟨a', c', he, hc, Rd.of_own ho, hx⟩)
  have HB := Lib.hid (fun w1 a' c' (hr' : Rd w1 7 a' n (cells7 l)) => bookOf_any l a' n c' w1 hl hr')
  have HE := Lib.hid (fun w1 (h : Ext w w1) => rBookErr_any l a n c w1 hl (by omega) (hr.ext h))
  have HR := Lib.hid (fun w1 (h : Ext w w1) => rBookOf_any l a n c w1 hl (by omega) (hr.ext h))
  have HL := Lib.hid hl
  have hcase := book_cases n l
  generalize rBookE n l = D at *
  generalize bookE n l = E at *
  generalize bookV n l = V0 at *
  generalize rBookV l = V1 at *
  clear hl
  have hq3 : (decide (20 < (n : Int)) && decide ((n : Int) ≤ 60) || decide (62 < (n : Int))) = false := by
    have : ¬ 62 < (n : Int) := by omega
    rcases hn2 with h | h
    · have h2 : decide (20 < (n : Int)) = false := by simp; omega
      have h3 : decide (62 < (n : Int)) = false := by simp; omega
      rw [h2, h3]; rfl
    · have h2 : decide ((n : Int) ≤ 60) = false := by simp; omega
      have h3 : decide (62 < (n : Int)) = false := by simp; omega
      rw [h2, h3]; simp
  have HC3 := Lib.hid hcase
  clear hcase
  go_enter Tryd.func13, Tryd.ntmps13
  go_upto_region 3 with (first | (go_at_call 15; (with_reducible refine (HW.out _ (by ((repeat' (first | with_reducible exact Ext.refl _ | with_reducible assumption | with_reducible exact Ext.one _ | with_reducible refine Ext.alloc ?_ _ | with_reducible refine Ext.setCell ?_ ?_ _ | with_reducible refine Ext.drew ?_ | ((with_reducible apply Ext.after'); (with_reducible assumption)))) <;> (try simp) <;> omega))).mono ?_); rintro e w3 ⟨rfl, hx3⟩; obtain ⟨hc3, hf3⟩ := bcell hx3))
  go_cut [30] from 18 (fun s wx => s = .bool false ∧ wx = w3)
  case first =>
    clear hq3
    rcases hn2 with hn3 | hn3
    all_goals
      go_wp2
      go_meet
      case rel => exact ⟨by simp; omega, rfl⟩
  case rest =>
  obtain ⟨rfl, rfl⟩ := hcut
  clear hq3
  go_upto_region 7 with (first | (go_at_call 65; (with_reducible refine (HC.out _ (by ((repeat' (first | with_reducible exact Ext.refl _ | with_reducible assumption | with_reducible exact Ext.one _ | with_reducible refine Ext.alloc ?_ _ | with_reducible refine Ext.setCell ?_ ?_ _ | with_reducible refine Ext.drew ?_ | ((with_reducible apply Ext.after'); (with_reducible assumption)))) <;> (try simp) <;> omega))).mono ?_); rintro e w4 ⟨a4, c4, rfl, hcc4, hrd4, hx4⟩; obtain ⟨hc4, hf4⟩ := bcell hx4) | (go_at_call 64; (with_reducible refine (HB.out _ _ _ hrd4).mono ?_); rintro e w5 ⟨rfl, hx5⟩; obtain ⟨hc5, hf5⟩ := bcell hx5) | (go_at_call 66; (with_reducible refine (HE.out _ (by ((repeat' (first | with_reducible exact Ext.refl _ | with_reducible assumption | with_reducible exact Ext.one _ | with_reducible refine Ext.alloc ?_ _ | with_reducible refine Ext.setCell ?_ ?_ _ | with_reducible refine Ext.drew ?_ | ((with_reducible apply Ext.after'); (with_reducible assumption)))) <;> (try simp) <;> omega))).mono ?_); rintro e w6 ⟨rfl, hx6⟩; obtain ⟨hc6, hf6⟩ := bcell hx6; have hy6_w5_0 : w5.heap.size < w6.heap.size := (by have := hx6.size; (try simp at this); omega)))
  go_cut [74] from 39 (fun s wx => s = .bool false ∧ Ext w wx)
  case first =>
    rcases HC3.out with ⟨hD, rfl, rfl⟩ | ⟨rfl, rfl, rfl, hfed⟩
    · have hD1 : (E != 0) = true := by simp [hD]
      have hD2 : (E == 0) = false := by simp [hD]
      clear hD
      apply wp_region_env 36 (SF.is _ :: SF.is _ :: SF.is _ :: SF.is _ :: SF.is _ :: SF.is _ :: SF.is _ :: SF.is _ :: SF.is _ :: SF.is _ :: SF.is _ :: SF.is _ :: SF.is _ :: SF.is _ :: SF.is _ :: SF.is _ :: SF.is _ :: SF.is _ :: SF.is _ :: SF.is _ :: SF.is _ :: SF.is _ :: SF.is _ :: SF.is _ :: SF.is _ :: SF.is _ :: SF.is _ :: SF.is _ :: SF.is _ :: SF.is _ :: SF.is _ :: SF.is _ :: SF.is _ :: SF.is _ :: SF.is _ :: SF.is _ :: []) (some 39 :: some 40 :: some 41 :: some 42 :: some 43 :: some 44 :: some 45 :: some 46 :: some 47 :: some 48 :: some 49 :: some 50 :: some 51 :: some 52 :: some 53 :: some 54 :: some 55 :: some 56 :: some 57 :: some 58 :: some 59 :: some 60 :: some 61 :: some 62 :: some 63 :: some 64 :: some 65 :: some 66 :: some 67 :: some 68 :: some 69 :: some 70 :: some 71 :: some 72 :: some 73 :: some 74 :: []) (by kernel_rfl) (by kernel_rfl) (by kernel_rfl) (by kernel_rfl) (fun V e0 hSl => ?steps) (fun V w8 hx_w8 hf_w8 => ?tail)
      case steps =>
        have he5 := hSl 5
        have he4 := hSl 4
        have he3 := hSl 3
        have he0 := hSl 0
        clear hSl
        simp only [Array.getD_eq_getD_getElem?, List.getElem?_toArray, List.getElem?_cons_succ, List.getElem?_cons_zero, Option.getD_some] at he5 he4 he3 he0
        refine stepE_val rfl rfl (ex_move he5) ?_
        (refine stepE_is _ rfl rfl (ex_binOp ev_h rfl) ?_ ?_; (· intro w2 hx; go_simp; (try simp only [wrap_eq]); exact isF (Ext.refl _)))
        refine stepE_val rfl rfl (ex_move ev_h) ?_
        (first | refine stepE_skip rfl rfl ?_ | refine stepE_val rfl rfl (ex_move he4) ?_)
        (first | refine stepE_skip rfl rfl ?_ | refine stepE_val rfl rfl (ex_move he5) ?_)
        (first | refine stepE_skip rfl rfl ?_ | (refine stepE_is _ rfl rfl (ex_binOp (ev_m rfl ev_h) ev_h) ?_ ?_; (· intro w2 hx; go_simp; (try simp only [wrap_eq]); exact isF (Ext.refl _))))
        (first | refine stepE_skip rfl rfl ?_ | refine stepE_val rfl rfl (ex_move ev_h) ?_)
        (first | refine stepE_skip rfl rfl ?_ | (refine stepE_is _ rfl rfl (ex_load he3) ?_ ?_; (· intro w2 hx; obtain ⟨hc, hfz⟩ := bcell hx; go_simp; (try simp only [wrap_eq]); exact isF (Ext.refl _))))
        (first | refine stepE_skip rfl rfl ?_ | (refine stepE_is _ rfl rfl (ex_build ex_part0) ?_ ?_; (· intro w2 hx; go_simp; (try simp only [wrap_eq]); exact isF (Ext.refl _))))
        (first | refine stepE_skip rfl rfl ?_ | (refine stepE_is _ rfl rfl (ex_binOp (ev_m rfl ev_h) ev_h) ?_ ?_; (· intro w2 hx; go_simp; (try simp only [wrap_eq]); exact isF (Ext.refl _))))
        (first | refine stepE_skip rfl rfl ?_ | refine stepE_val rfl rfl (ex_pickT (ev_m rfl (ev_m rfl (ev_m rfl ev_h))) rfl) ?_ | refine stepE_val rfl rfl (ex_pickF (ev_m rfl (ev_m rfl (ev_m rfl ev_h))) ev_h) ?_ | (refine stepE_is _ rfl rfl (ex_pick (ev_m rfl (ev_m rfl (ev_m rfl ev_h))) rfl ev_h) ?_ ?_; (· intro w2 hx; go_simp; exact isF (Ext.refl _))))
        (first | refine stepE_val rfl rfl (ex_pickT (ev_m rfl (ev_m rfl (ev_m rfl (ev_m rfl (ev_m rfl (ev_m rfl (ev_m rfl (ev_m rfl ev_h)))))))) ev_h) ?_ | refine stepE_val rfl rfl (ex_pickF (ev_m rfl (ev_m rfl (ev_m rfl (ev_m rfl (ev_m rfl (ev_m rfl (ev_m rfl (ev_m rfl ev_h)))))))) rfl) ?_ | (refine stepE_is _ rfl rfl (ex_pick (ev_m rfl (ev_m rfl (ev_m rfl (ev_m rfl (ev_m rfl (ev_m rfl (ev_m rfl (ev_m rfl ev_h)))))))) ev_h rfl) ?_ ?_; (· intro w2 hx; go_simp; exact isF (Ext.refl _))))
        refine stepE_val rfl rfl (ex_move ev_h) ?_
        (first | refine stepE_skip rfl rfl ?_ | refine stepE_val rfl rfl (ex_move he5) ?_)
        (first | refine stepE_skip rfl rfl ?_ | (refine stepE_is _ rfl rfl (ex_binOp ev_h rfl) ?_ ?_; (· intro w2 hx; go_simp; (try simp only [wrap_eq]); exact isF (Ext.refl _))))
        (first | refine stepE_skip rfl rfl ?_ | refine stepE_val rfl rfl (ex_move ev_h) ?_)
        (first | refine stepE_skip rfl rfl ?_ | refine stepE_val rfl rfl (ex_move he4) ?_)
        (first | refine stepE_skip rfl rfl ?_ | (refine stepE_is _ rfl rfl (ex_binOp ev_h rfl) ?_ ?_; (· intro w2 hx; go_simp; (try simp only [wrap_eq]); exact isF (Ext.refl _))))
        (first | refine stepE_skip rfl rfl ?_ | refine stepE_val rfl rfl (ex_move ev_h) ?_)
        (first | refine stepE_skip rfl rfl ?_ | (refine stepE_is _ rfl rfl (ex_load he3) ?_ ?_; (· intro w2 hx; obtain ⟨hc, hfz⟩ := bcell hx; go_simp; (try simp only [wrap_eq]); exact isF (Ext.refl _))))
        (first | refine stepE_skip rfl rfl ?_ | refine stepE_val rfl rfl (ex_move he0) ?_)
        (first | refine stepE_skip rfl rfl ?_ | (refine stepE_is _ rfl rfl (ex_call rfl (ex_arg ev_h ex_arg0)) ?_ ?_; (· intro w2 hx; refine rel_call (fun _ _ => by kernel_rfl) ?_; ((with_reducible refine CallTo.of (HR.out _ ?_) ?_); (· (((repeat' (first | with_reducible exact Ext.refl _ | with_reducible assumption | with_reducible exact Ext.one _ | with_reducible refine Ext.alloc ?_ _ | with_reducible refine Ext.setCell ?_ ?_ _ | with_reducible refine Ext.drew ?_ | ((with_reducible apply Ext.after'); (with_reducible assumption)))) <;> (try simp) <;> omega))); exact fun _ _ => rfl))))
        (first | refine stepE_skip rfl rfl ?_ | (refine stepE_is _ rfl rfl (ex_binOp (ev_m rfl (ev_m rfl ev_h)) ev_h) ?_ ?_; (· intro w2 hx; go_simp; (try simp only [wrap_eq]); exact isF (Ext.refl _))))
        (first | refine stepE_skip rfl rfl ?_ | refine stepE_val rfl rfl (ex_pickT (ev_m rfl (ev_m rfl (ev_m rfl (ev_m rfl ev_h)))) rfl) ?_ | refine stepE_val rfl rfl (ex_pickF (ev_m rfl (ev_m rfl (ev_m rfl (ev_m rfl ev_h)))) ev_h) ?_ | (refine stepE_is _ rfl rfl (ex_pick (ev_m rfl (ev_m rfl (ev_m rfl (ev_m rfl ev_h)))) rfl ev_h) ?_ ?_; (· intro w2 hx; go_simp; exact isF (Ext.refl _))))
        (first | refine stepE_skip rfl rfl ?_ | refine stepE_val rfl rfl (ex_move ev_h) ?_)
        (first | refine stepE_skip rfl rfl ?_ | (refine stepE_is _ rfl rfl (ex_fieldAddr he3) ?_ ?_; (· intro w2 hx; go_simp; (try simp only [wrap_eq]); exact isF (Ext.refl _))))
        (first | refine stepE_skip rfl rfl ?_ | (refine stepE_is _ rfl rfl (ex_load ev_h) ?_ ?_; (· intro w2 hx; obtain ⟨hc, hfz⟩ := bcell hx; go_simp; (try simp only [wrap_eq]); exact isF (Ext.refl _))))
        (first | refine stepE_skip rfl rfl ?_ | (refine stepE_is _ rfl rfl (ex_fieldAddr he3) ?_ ?_; (· intro w2 hx; go_simp; (try simp only [wrap_eq]); exact isF (Ext.refl _))))
        (first | refine stepE_skip rfl rfl ?_ | (refine stepE_is _ rfl rfl (ex_load ev_h) ?_ ?_; (· intro w2 hx; obtain ⟨hc, hfz⟩ := bcell hx; go_simp; (try simp only [wrap_eq]); exact isF (Ext.refl _))))
        (first | refine stepE_skip rfl rfl ?_ | (refine stepE_is _ rfl rfl (ex_fieldAddr he3) ?_ ?_; (· intro w2 hx; go_simp; (try simp only [wrap_eq]); exact isF (Ext.refl _))))
        (first | refine stepE_skip rfl rfl ?_ | (refine stepE_is _ rfl rfl (ex_load ev_h) ?_ ?_; (· intro w2 hx; obtain ⟨hc, hfz⟩ := bcell hx; go_simp; (try simp only [wrap_eq]); exact isF (Ext.refl _))))
        (first | refine stepE_skip rfl rfl ?_ | (refine stepE_is _ rfl rfl (ex_binOp (ev_m rfl (ev_m rfl ev_h)) ev_h) ?_ ?_; (· intro w2 hx; go_simp; (try simp only [wrap_eq]); exact isF (Ext.refl _))))
        (first | refine stepE_skip rfl rfl ?_ | (refine stepE_is _ rfl rfl (ex_binOp (ev_m rfl (ev_m rfl (ev_m rfl (ev_m rfl (ev_m rfl ev_h))))) ev_h) ?_ ?_; (· intro w2 hx; go_simp; (try simp only [wrap_eq]); exact isF (Ext.refl _))))
        (first | refine stepE_skip rfl rfl ?_ | refine stepE_val rfl rfl (ex_pickT (ev_m rfl (ev_m rfl (ev_m rfl (ev_m rfl (ev_m rfl (ev_m rfl (ev_m rfl (ev_m rfl ev_h)))))))) rfl) ?_ | refine stepE_val rfl rfl (ex_pickF (ev_m rfl (ev_m rfl (ev_m rfl (ev_m rfl (ev_m rfl (ev_m rfl (ev_m rfl (ev_m rfl ev_h)))))))) ev_h) ?_ | (refine stepE_is _ rfl rfl (ex_pick (ev_m rfl (ev_m rfl (ev_m rfl (ev_m rfl (ev_m rfl (ev_m rfl (ev_m rfl (ev_m rfl ev_h)))))))) rfl ev_h) ?_ ?_; (· intro w2 hx; go_simp; exact isF (Ext.refl _))))
        (first | refine stepE_skip rfl rfl ?_ | refine stepE_val rfl rfl (ex_pickT (ev_m rfl (ev_m rfl (ev_m rfl (ev_m rfl (ev_m rfl (ev_m rfl (ev_m rfl (ev_m rfl (ev_m rfl (ev_m rfl (ev_m rfl (ev_m rfl (ev_m rfl (ev_m rfl (ev_m rfl (ev_m rfl (ev_m rfl (ev_m rfl ev_h)))))))))))))))))) ev_h) ?_ | refine stepE_val rfl rfl (ex_pickF (ev_m rfl (ev_m rfl (ev_m rfl (ev_m rfl (ev_m rfl (ev_m rfl (ev_m rfl (ev_m rfl (ev_m rfl (ev_m rfl (ev_m rfl (ev_m rfl (ev_m rfl (ev_m rfl (ev_m rfl (ev_m rfl (ev_m rfl (ev_m rfl ev_h)))))))))))))))))) rfl) ?_ | (refine stepE_is _ rfl rfl (ex_pick (ev_m rfl (ev_m rfl (ev_m rfl (ev_m rfl (ev_m rfl (ev_m rfl (ev_m rfl (ev_m rfl (ev_m rfl (ev_m rfl (ev_m rfl (ev_m rfl (ev_m rfl (ev_m rfl (ev_m rfl (ev_m rfl (ev_m rfl (ev_m rfl ev_h)))))))))))))))))) ev_h rfl) ?_ ?_; (· intro w2 hx; go_simp; exact isF (Ext.refl _))))
        (first | refine stepE_val rfl rfl (ex_pickT (ev_m rfl (ev_m rfl (ev_m rfl (ev_m rfl (ev_m rfl (ev_m rfl (ev_m rfl (ev_m rfl (ev_m rfl (ev_m rfl (ev_m rfl (ev_m rfl (ev_m rfl (ev_m rfl (ev_m rfl (ev_m rfl (ev_m rfl (ev_m rfl (ev_m rfl (ev_m rfl (ev_m rfl (ev_m rfl ev_h)))))))))))))))))))))) rfl) ?_ | refine stepE_val rfl rfl (ex_pickF (ev_m rfl (ev_m rfl (ev_m rfl (ev_m rfl (ev_m rfl (ev_m rfl (ev_m rfl (ev_m rfl (ev_m rfl (ev_m rfl (ev_m rfl (ev_m rfl (ev_m rfl (ev_m rfl (ev_m rfl (ev_m rfl (ev_m rfl (ev_m rfl (ev_m rfl (ev_m rfl (ev_m rfl (ev_m rfl ev_h)))))))))))))))))))))) ev_h) ?_ | (refine stepE_is _ rfl rfl (ex_pick (ev_m rfl (ev_m rfl (ev_m rfl (ev_m rfl (ev_m rfl (ev_m rfl (ev_m rfl (ev_m rfl (ev_m rfl (ev_m rfl (ev_m rfl (ev_m rfl (ev_m rfl (ev_m rfl (ev_m rfl (ev_m rfl (ev_m rfl (ev_m rfl (ev_m rfl (ev_m rfl (ev_m rfl (ev_m rfl ev_h)))))))))))))))))))))) rfl ev_h) ?_ ?_; (· intro w2 hx; go_simp; exact isF (Ext.refl _))))
        exact trivial
      case tail =>
      rw [putsD_L_StatorBooks_7]
      clear hf_w8; have hf_w8 : True := trivial
      simp only [List.take, Region.binds, mode_text, mode_gc, if_true, true_and, Bool.false_eq_true, if_false, List.drop, StepsU, StepsG, putsAll, FactsAt, Fs, val, List.getD_cons_zero, List.getD_cons_succ, List.getD_nil, SF.is, SF.rd, SF.any, SF.box, Option.getD_some, Option.getD_none, Act.put, List.setIfInBounds_toArray, List.set_cons_zero, List.set_cons_succ] at ⊢
      obtain ⟨hc_w8, hfz_w8⟩ := bcell hx_w8
      go_wp2
      go_meet
      case rel => exact ⟨rfl, by ((repeat' (first | with_reducible exact Ext.refl _ | with_reducible assumption | with_reducible exact Ext.one _ | with_reducible refine Ext.alloc ?_ _ | with_reducible refine Ext.setCell ?_ ?_ _ | with_reducible refine Ext.drew ?_ | ((with_reducible apply Ext.after'); (with_reducible assumption)))) <;> (try simp) <;> omega)⟩
    · obtain ⟨f, g, q⟩ := V0
      have hfed' : (f != wrap64 (g + q)) = false := by simp [show wrap64 (g + q) = f from hfed]
      clear hfed
      apply wp_region_env 36 (SF.is _ :: SF.is _ :: SF.is _ :: SF.is _ :: SF.is _ :: SF.is _ :: SF.is _ :: SF.is _ :: SF.is _ :: SF.is _ :: SF.is _ :: SF.is _ :: SF.is _ :: SF.is _ :: SF.is _ :: SF.is _ :: SF.is _ :: SF.is _ :: SF.is _ :: SF.is _ :: SF.is _ :: SF.is _ :: SF.is _ :: SF.is _ :: SF.is _ :: SF.is _ :: SF.is _ :: SF.is _ :: SF.is _ :: SF.is _ :: SF.is _ :: SF.is _ :: SF.is _ :: SF.is _ :: SF.is _ :: SF.is _ :: []) (some 39 :: some 40 :: some 41 :: some 42 :: some 43 :: some 44 :: some 45 :: some 46 :: some 47 :: some 48 :: some 49 :: some 50 :: some 51 :: some 52 :: some 53 :: some 54 :: some 55 :: some 56 :: some 57 :: some 58 :: some 59 :: some 60 :: some 61 :: some 62 :: some 63 :: some 64 :: some 65 :: some 66 :: some 67 :: some 68 :: some 69 :: some 70 :: some 71 :: some 72 :: some 73 :: some 74 :: []) (by kernel_rfl) (by kernel_rfl) (by kernel_rfl) (by kernel_rfl) (fun V e0 hSl => ?steps) (fun V w8 hx_w8 hf_w8 => ?tail)
      case steps =>
        have he5 := hSl 5
        have he4 := hSl 4
        have he3 := hSl 3
        have he0 := hSl 0
        clear hSl
        simp only [Array.getD_eq_getD_getElem?, List.getElem?_toArray, List.getElem?_cons_succ, List.getElem?_cons_zero, Option.getD_some] at he5 he4 he3 he0
        refine stepE_val rfl rfl (ex_move he5) ?_
        (refine stepE_is _ rfl rfl (ex_binOp ev_h rfl) ?_ ?_; (· intro w2 hx; go_simp; (try simp only [wrap_eq]); exact isF (Ext.refl _)))
        refine stepE_val rfl rfl (ex_move ev_h) ?_
        (first | refine stepE_skip rfl rfl ?_ | refine stepE_val rfl rfl (ex_move he4) ?_)
        (first | refine stepE_skip rfl rfl ?_ | refine stepE_val rfl rfl (ex_move he5) ?_)
        (first | refine stepE_skip rfl rfl ?_ | (refine stepE_is _ rfl rfl (ex_binOp (ev_m rfl ev_h) ev_h) ?_ ?_; (· intro w2 hx; go_simp; (try simp only [wrap_eq]); exact isF (Ext.refl _))))
        (first | refine stepE_skip rfl rfl ?_ | refine stepE_val rfl rfl (ex_move ev_h) ?_)
        (first | refine stepE_skip rfl rfl ?_ | (refine stepE_is _ rfl rfl (ex_load he3) ?_ ?_; (· intro w2 hx; obtain ⟨hc, hfz⟩ := bcell hx; go_simp; (try simp only [wrap_eq]); exact isF (Ext.refl _))))
        (first | refine stepE_skip rfl rfl ?_ | (refine stepE_is _ rfl rfl (ex_build ex_part0) ?_ ?_; (· intro w2 hx; go_simp; (try simp only [wrap_eq]); exact isF (Ext.refl _))))
        (first | refine stepE_skip rfl rfl ?_ | (refine stepE_is _ rfl rfl (ex_binOp (ev_m rfl ev_h) ev_h) ?_ ?_; (· intro w2 hx; go_simp; (try simp only [wrap_eq]); exact isF (Ext.refl _))))
        (first | refine stepE_skip rfl rfl ?_ | refine stepE_val rfl rfl (ex_pickT (ev_m rfl (ev_m rfl (ev_m rfl ev_h))) rfl) ?_ | refine stepE_val rfl rfl (ex_pickF (ev_m rfl (ev_m rfl (ev_m rfl ev_h))) ev_h) ?_ | (refine stepE_is _ rfl rfl (ex_pick (ev_m rfl (ev_m rfl (ev_m rfl ev_h))) rfl ev_h) ?_ ?_; (· intro w2 hx; go_simp; exact isF (Ext.refl _))))
        (first | refine stepE_val rfl rfl (ex_pickT (ev_m rfl (ev_m rfl (ev_m rfl (ev_m rfl (ev_m rfl (ev_m rfl (ev_m rfl (ev_m rfl ev_h)))))))) ev_h) ?_ | refine stepE_val rfl rfl (ex_pickF (ev_m rfl (ev_m rfl (ev_m rfl (ev_m rfl (ev_m rfl (ev_m rfl (ev_m rfl (ev_m rfl ev_h)))))))) rfl) ?_ | (refine stepE_is _ rfl rfl (ex_pick (ev_m rfl (ev_m rfl (ev_m rfl (ev_m rfl (ev_m rfl (ev_m rfl (ev_m rfl (ev_m rfl ev_h)))))))) ev_h rfl) ?_ ?_; (· intro w2 hx; go_simp; exact isF (Ext.refl _))))
        refine stepE_val rfl rfl (ex_move ev_h) ?_
        (first | refine stepE_skip rfl rfl ?_ | refine stepE_val rfl rfl (ex_move he5) ?_)
        (first | refine stepE_skip rfl rfl ?_ | (refine stepE_is _ rfl rfl (ex_binOp ev_h rfl) ?_ ?_; (· intro w2 hx; go_simp; (try simp only [wrap_eq]); exact isF (Ext.refl _))))
        (first | refine stepE_skip rfl rfl ?_ | refine stepE_val rfl rfl (ex_move ev_h) ?_)
        (first | refine stepE_skip rfl rfl ?_ | refine stepE_val rfl rfl (ex_move he4) ?_)
        (first | refine stepE_skip rfl rfl ?_ | (refine stepE_is _ rfl rfl (ex_binOp ev_h rfl) ?_ ?_; (· intro w2 hx; go_simp; (try simp only [wrap_eq]); exact isF (Ext.refl _))))
        (first | refine stepE_skip rfl rfl ?_ | refine stepE_val rfl rfl (ex_move ev_h) ?_)
        (first | refine stepE_skip rfl rfl ?_ | (refine stepE_is _ rfl rfl (ex_load he3) ?_ ?_; (· intro w2 hx; obtain ⟨hc, hfz⟩ := bcell hx; go_simp; (try simp only [wrap_eq]); exact isF (Ext.refl _))))
        (first | refine stepE_skip rfl rfl ?_ | refine stepE_val rfl rfl (ex_move he0) ?_)
        (first | refine stepE_skip rfl rfl ?_ | (refine stepE_is _ rfl rfl (ex_call rfl (ex_arg ev_h ex_arg0)) ?_ ?_; (· intro w2 hx; refine rel_call (fun _ _ => by kernel_rfl) ?_; ((with_reducible refine CallTo.of (HR.out _ ?_) ?_); (· (((repeat' (first | with_reducible exact Ext.refl _ | with_reducible assumption | with_reducible exact Ext.one _ | with_reducible refine Ext.alloc ?_ _ | with_reducible refine Ext.setCell ?_ ?_ _ | with_reducible refine Ext.drew ?_ | ((with_reducible apply Ext.after'); (with_reducible assumption)))) <;> (try simp) <;> omega))); exact fun _ _ => rfl))))
        (first | refine stepE_skip rfl rfl ?_ | (refine stepE_is _ rfl rfl (ex_binOp (ev_m rfl (ev_m rfl ev_h)) ev_h) ?_ ?_; (· intro w2 hx; go_simp; (try simp only [wrap_eq]); exact isF (Ext.refl _))))
        (first | refine stepE_skip rfl rfl ?_ | refine stepE_val rfl rfl (ex_pickT (ev_m rfl (ev_m rfl (ev_m rfl (ev_m rfl ev_h)))) rfl) ?_ | refine stepE_val rfl rfl (ex_pickF (ev_m rfl (ev_m rfl (ev_m rfl (ev_m rfl ev_h)))) ev_h) ?_ | (refine stepE_is _ rfl rfl (ex_pick (ev_m rfl (ev_m rfl (ev_m rfl (ev_m rfl ev_h)))) rfl ev_h) ?_ ?_; (· intro w2 hx; go_simp; exact isF (Ext.refl _))))
        (first | refine stepE_skip rfl rfl ?_ | refine stepE_val rfl rfl (ex_move ev_h) ?_)
        (first | refine stepE_skip rfl rfl ?_ | (refine stepE_is _ rfl rfl (ex_fieldAddr he3) ?_ ?_; (· intro w2 hx; go_simp; (try simp only [wrap_eq]); exact isF (Ext.refl _))))
        (first | refine stepE_skip rfl rfl ?_ | (refine stepE_is _ rfl rfl (ex_load ev_h) ?_ ?_; (· intro w2 hx; obtain ⟨hc, hfz⟩ := bcell hx; go_simp; (try simp only [wrap_eq]); exact isF (Ext.refl _))))
        (first | refine stepE_skip rfl rfl ?_ | (refine stepE_is _ rfl rfl (ex_fieldAddr he3) ?_ ?_; (· intro w2 hx; go_simp; (try simp only [wrap_eq]); exact isF (Ext.refl _))))
        (first | refine stepE_skip rfl rfl ?_ | (refine stepE_is _ rfl rfl (ex_load ev_h) ?_ ?_; (· intro w2 hx; obtain ⟨hc, hfz⟩ := bcell hx; go_simp; (try simp only [wrap_eq]); exact isF (Ext.refl _))))
        (first | refine stepE_skip rfl rfl ?_ | (refine stepE_is _ rfl rfl (ex_fieldAddr he3) ?_ ?_; (· intro w2 hx; go_simp; (try simp only [wrap_eq]); exact isF (Ext.refl _))))
        (first | refine stepE_skip rfl rfl ?_ | (refine stepE_is _ rfl rfl (ex_load ev_h) ?_ ?_; (· intro w2 hx; obtain ⟨hc, hfz⟩ := bcell hx; go_simp; (try simp only [wrap_eq]); exact isF (Ext.refl _))))
        (first | refine stepE_skip rfl rfl ?_ | (refine stepE_is _ rfl rfl (ex_binOp (ev_m rfl (ev_m rfl ev_h)) ev_h) ?_ ?_; (· intro w2 hx; go_simp; (try simp only [wrap_eq]); exact isF (Ext.refl _))))
        (first | refine stepE_skip rfl rfl ?_ | (refine stepE_is _ rfl rfl (ex_binOp (ev_m rfl (ev_m rfl (ev_m rfl (ev_m rfl (ev_m rfl ev_h))))) ev_h) ?_ ?_; (· intro w2 hx; go_simp; (try simp only [wrap_eq]); exact isF (Ext.refl _))))
        (first | refine stepE_skip rfl rfl ?_ | refine stepE_val rfl rfl (ex_pickT (ev_m rfl (ev_m rfl (ev_m rfl (ev_m rfl (ev_m rfl (ev_m rfl (ev_m rfl (ev_m rfl ev_h)))))))) rfl) ?_ | refine stepE_val rfl rfl (ex_pickF (ev_m rfl (ev_m rfl (ev_m rfl (ev_m rfl (ev_m rfl (ev_m rfl (ev_m rfl (ev_m rfl ev_h)))))))) ev_h) ?_ | (refine stepE_is _ rfl rfl (ex_pick (ev_m rfl (ev_m rfl (ev_m rfl (ev_m rfl (ev_m rfl (ev_m rfl (ev_m rfl (ev_m rfl ev_h)))))))) rfl ev_h) ?_ ?_; (· intro w2 hx; go_simp; exact isF (Ext.refl _))))
        (first | refine stepE_skip rfl rfl ?_ | refine stepE_val rfl rfl (ex_pickT (ev_m rfl (ev_m rfl (ev_m rfl (ev_m rfl (ev_m rfl (ev_m rfl (ev_m rfl (ev_m rfl (ev_m rfl (ev_m rfl (ev_m rfl (ev_m rfl (ev_m rfl (ev_m rfl (ev_m rfl (ev_m rfl (ev_m rfl (ev_m rfl ev_h)))))))))))))))))) ev_h) ?_ | refine stepE_val rfl rfl (ex_pickF (ev_m rfl (ev_m rfl (ev_m rfl (ev_m rfl (ev_m rfl (ev_m rfl (ev_m rfl (ev_m rfl (ev_m rfl (ev_m rfl (ev_m rfl (ev_m rfl (ev_m rfl (ev_m rfl (ev_m rfl (ev_m rfl (ev_m rfl (ev_m rfl ev_h)))))))))))))))))) rfl) ?_ | (refine stepE_is _ rfl rfl (ex_pick (ev_m rfl (ev_m rfl (ev_m rfl (ev_m rfl (ev_m rfl (ev_m rfl (ev_m rfl (ev_m rfl (ev_m rfl (ev_m rfl (ev_m rfl (ev_m rfl (ev_m rfl (ev_m rfl (ev_m rfl (ev_m rfl (ev_m rfl (ev_m rfl ev_h)))))))))))))))))) ev_h rfl) ?_ ?_; (· intro w2 hx; go_simp; exact isF (Ext.refl _))))
        (first | refine stepE_val rfl rfl (ex_pickT (ev_m rfl (ev_m rfl (ev_m rfl (ev_m rfl (ev_m rfl (ev_m rfl (ev_m rfl (ev_m rfl (ev_m rfl (ev_m rfl (ev_m rfl (ev_m rfl (ev_m rfl (ev_m rfl (ev_m rfl (ev_m rfl (ev_m rfl (ev_m rfl (ev_m rfl (ev_m rfl (ev_m rfl (ev_m rfl ev_h)))))))))))))))))))))) rfl) ?_ | refine stepE_val rfl rfl (ex_pickF (ev_m rfl (ev_m rfl (ev_m rfl (ev_m rfl (ev_m rfl (ev_m rfl (ev_m rfl (ev_m rfl (ev_m rfl (ev_m rfl (ev_m rfl (ev_m rfl (ev_m rfl (ev_m rfl (ev_m rfl (ev_m rfl (ev_m rfl (ev_m rfl (ev_m rfl (ev_m rfl (ev_m rfl (ev_m rfl ev_h)))))))))))))))))))))) ev_h) ?_ | (refine stepE_is _ rfl rfl (ex_pick (ev_m rfl (ev_m rfl (ev_m rfl (ev_m rfl (ev_m rfl (ev_m rfl (ev_m rfl (ev_m rfl (ev_m rfl (ev_m rfl (ev_m rfl (ev_m rfl (ev_m rfl (ev_m rfl (ev_m rfl (ev_m rfl (ev_m rfl (ev_m rfl (ev_m rfl (ev_m rfl (ev_m rfl (ev_m rfl ev_h)))))))))))))))))))))) rfl ev_h) ?_ ?_; (· intro w2 hx; go_simp; exact isF (Ext.refl _))))
        exact trivial
      case tail =>
      rw [putsD_L_StatorBooks_7]
      clear hf_w8; have hf_w8 : True := trivial
      simp only [List.take, Region.binds, mode_text, mode_gc, if_true, true_and, Bool.false_eq_true, if_false, List.drop, StepsU, StepsG, putsAll, FactsAt, Fs, val, List.getD_cons_zero, List.getD_cons_succ, List.getD_nil, SF.is, SF.rd, SF.any, SF.box, Option.getD_some, Option.getD_none, Act.put, List.setIfInBounds_toArray, List.set_cons_zero, List.set_cons_succ] at ⊢
      obtain ⟨hc_w8, hfz_w8⟩ := bcell hx_w8
      go_wp2
      go_meet
      case rel => exact ⟨rfl, by ((repeat' (first | with_reducible exact Ext.refl _ | with_reducible assumption | with_reducible exact Ext.one _ | with_reducible refine Ext.alloc ?_ _ | with_reducible refine Ext.setCell ?_ ?_ _ | with_reducible refine Ext.drew ?_ | ((with_reducible apply Ext.after'); (with_reducible assumption)))) <;> (try simp) <;> omega)⟩
  case rest =>
  obtain ⟨rfl, hxw⟩ := hcut
  clear hc3 hf3 hc4 hf4 hc5 hf5 hc6 hf6 HW HC HB HE HR HC3
  go_wp2
  go_loopw [6] (fun i wr => ∃ (k : Nat), k ≤ n ∧ i = .int .i64 k ∧ Ext w wr) (fun i _ => n - (intOf i).toNat)
  case atStart => exact ⟨0, Nat.zero_le _, rfl, hxw⟩
  case round =>
    obtain ⟨k, hk, rfl, hx⟩ := hrel
    by_cases hlt : k < n
    · by_cases hk20 : k < 20
      · obtain ⟨b, o, rfl, hrow⟩ := (hr.ext hx).2 (by omega)
        have hkl : k < l.length := by rw [HL.out]; exact hlt
        obtain ⟨c0, c1, c2, c3, c4, c5, c6⟩ := cells7_row HL.out hrow hkl
        have hbb := hrow.1
        generalize l[k] = s at *
        go_upto_region 12 with fail
        go_cut [7, 8] from 75 to 161 (fun s7 s8 wx => ∃ B7 B8, s7 = .pointer (some ⟨B7, 0, none⟩) ∧ s8 = .pointer (some ⟨B8, 0, none⟩) ∧ Bx wx B7 98 #[.int .i64 s.1.1, .int .i64 s.1.2.1, .int .i64 s.1.2.2] ∧ Bx wx B8 98 #[.int .i64 s.2.1.1, .int .i64 s.2.1.2.1, .int .i64 s.2.1.2.2] ∧ Ext w wx)
        case first =>
          go_region
          all_goals
            go_wp2
            go_meet
            case rel => refine ⟨_, _, rfl, rfl, ?_, ?_, by ((repeat' (first | with_reducible exact Ext.refl _ | with_reducible assumption | with_reducible exact Ext.one _ | with_reducible refine Ext.alloc ?_ _ | with_reducible refine Ext.setCell ?_ ?_ _ | with_reducible refine Ext.drew ?_ | ((with_reducible apply Ext.after'); (with_reducible assumption)))) <;> (try simp) <;> omega)⟩ <;> (repeat' (first | with_reducible assumption | (with_reducible exact Bx.new _ _ _) | ((with_reducible refine Bx.new_at _ _ ?_); (simp; done)) | (with_reducible refine Bx.alloc ?_ _) | (with_reducible refine Bx.drew ?_) | ((with_reducible apply Bx.ext'); (with_reducible assumption))))
        case rest =>
        obtain ⟨B7, B8, rfl, rfl, hb7, hb8, hx8⟩ := hcut
        clear hrow c0 c1 c2 c3 c4 c5 c6 hbb
        have x0 : _ = some _ := hb7.cell 0; have x1 : _ = some _ := hb7.cell 1; have x2 : _ = some _ := hb7.cell 2; have xf0 := hb7.frz 0; have xf1 := hb7.frz 1; have xf2 := hb7.frz 2; have xl := hb7.lt
        have y0 : _ = some _ := hb8.cell 0; have y1 : _ = some _ := hb8.cell 1; have y2 : _ = some _ := hb8.cell 2; have yf0 := hb8.frz 0; have yf1 := hb8.frz 1; have yf2 := hb8.frz 2; have yl := hb8.lt
        have HP := Lib.hid (powerOf_any s.1 s.2.1)
        have HX := Lib.hid (rPhasesErr_any s.1)
        have HY := Lib.hid (rPhasesErr_any s.2.1)
        have HRP := Lib.hid (rPowerOf_any s.1 s.2.1)
        have HV := Lib.hid (vectorOf_any s.1)
        have HU := Lib.hid (vectorOf_any s.2.1)
        have HTC := Lib.hid (bTConj_any (ofW s.2.1))
        have HTM := Lib.hid (bTMul_any (ofW s.1) (conjW (ofW s.2.1)))
        have hbp := book_power s.1 s.2.1
        have h1 := p3E_or s.1
        have h2 := p3E_or s.2.1
        generalize p3E s.1 = E1 at *
        generalize p3E s.2.1 = E2 at *
        generalize powerW s.1 s.2.1 = P at *
        generalize timesW (ofW s.1) (conjW (ofW s.2.1)) = Z at *
        generalize ofW s.1 = X at *
        generalize conjW (ofW s.2.1) = U at *
        generalize ofW s.2.1 = Y at *
        rcases h1 with rfl | rfl
        · rcases h2 with rfl | rfl
          · by_cases hz : wrap64 (wrap64 (s.2.1.1 + s.2.1.2.1) + s.2.1.2.2) = 0
            · have hz' : (wrap64 (wrap64 (s.2.1.1 + s.2.1.2.1) + s.2.1.2.2) != 0) = false := by simp [hz]
              have key : (wrap64 (3 * P) != wrap64 (wrap64 (2 * Z.1) - Z.2)) = false := by simp [hbp rfl rfl hz]
              clear hbp hz
              simp only [firstE, okI, okV, if_true] at HP HV HU
              go_wp2_with (first | (go_at_call 68; (with_reducible refine (HP.out _).mono ?_); rintro e w9 ⟨rfl, hx9⟩; obtain ⟨hc9, hf9⟩ := bcell hx9; have hq9_0 : B7 < w9.heap.size := (by have := hx9.size; (try simp at this); omega); have hq9_1 : B8 < w9.heap.size := (by have := hx9.size; (try simp at this); omega)) | (go_at_call 69; (with_reducible refine (HX.out _).mono ?_); rintro e w10 ⟨rfl, hx10⟩; obtain ⟨hc10, hf10⟩ := bcell hx10; have hq10_0 : B7 < w10.heap.size := (by have := hx10.size; (try simp at this); omega); have hq10_1 : B8 < w10.heap.size := (by have := hx10.size; (try simp at this); omega)) | (go_at_call 69; (with_reducible refine (HY.out _).mono ?_); rintro e w11 ⟨rfl, hx11⟩; obtain ⟨hc11, hf11⟩ := bcell hx11; have hq11_0 : B7 < w11.heap.size := (by have := hx11.size; (try simp at this); omega); have hq11_1 : B8 < w11.heap.size := (by have := hx11.size; (try simp at this); omega)) | (go_at_call 70; (with_reducible refine (HRP.out _).mono ?_); rintro e w12 ⟨rfl, hx12⟩; obtain ⟨hc12, hf12⟩ := bcell hx12; have hq12_0 : B7 < w12.heap.size := (by have := hx12.size; (try simp at this); omega); have hq12_1 : B8 < w12.heap.size := (by have := hx12.size; (try simp at this); omega)) | (go_at_call 71; (with_reducible refine (HV.out _).mono ?_); rintro e w13 ⟨rfl, hx13⟩; obtain ⟨hc13, hf13⟩ := bcell hx13; have hq13_0 : B7 < w13.heap.size := (by have := hx13.size; (try simp at this); omega); have hq13_1 : B8 < w13.heap.size := (by have := hx13.size; (try simp at this); omega)) | (go_at_call 71; (with_reducible refine (HU.out _).mono ?_); rintro e w14 ⟨rfl, hx14⟩; obtain ⟨hc14, hf14⟩ := bcell hx14; have hq14_0 : B7 < w14.heap.size := (by have := hx14.size; (try simp at this); omega); have hq14_1 : B8 < w14.heap.size := (by have := hx14.size; (try simp at this); omega); have hq14_2 : w13.heap.size < w14.heap.size := (by have := hx14.size; (try simp at this); omega)))
              apply wp_region_env 5 [SF.is _, SF.is _, SF.is _, SF.is _, SF.box _ 24 _] [some 149, some 150, some 151, some 152, some 15] (by kernel_rfl) (by kernel_rfl) (by kernel_rfl) (by kernel_rfl) (fun V e0 hSl => ?steps) (fun V w15 hx_w15 hf_w15 => ?tail)
              case steps =>
                have he11 := hSl 11
                have he13 := hSl 13
                clear hSl
                simp only [Array.getD_eq_getD_getElem?, List.getElem?_toArray, List.getElem?_cons_succ, List.getElem?_cons_zero, Option.getD_some] at he11 he13
                (refine stepE_is _ rfl rfl (ex_load he11) ?_ ?_; (· intro w2 hx; obtain ⟨hc, hfz⟩ := bcell hx; go_simp; (try simp only [wrap_eq]); exact isF (Ext.refl _)))
                (refine stepE_is _ rfl rfl (ex_load he13) ?_ ?_; (· intro w2 hx; obtain ⟨hc, hfz⟩ := bcell hx; go_simp; (try simp only [wrap_eq]); exact isF (Ext.refl _)))
                (refine stepE_is _ rfl rfl (ex_call rfl (ex_arg ev_h ex_arg0)) ?_ ?_; (· intro w2 hx; refine rel_call (fun _ _ => by kernel_rfl) ?_; (first | ((with_reducible refine CallTo.of (HTC.out _) ?_); exact fun _ _ => rfl) | ((with_reducible refine CallTo.of (bTConj_any _ _) ?_); exact fun _ _ => rfl))))
                (refine stepE_is _ rfl rfl (ex_call rfl (ex_arg (ev_m rfl (ev_m rfl ev_h)) (ex_arg ev_h ex_arg0))) ?_ ?_; (· intro w2 hx; refine rel_call (fun _ _ => by kernel_rfl) ?_; (first | ((with_reducible refine CallTo.of (HTM.out _) ?_); exact fun _ _ => rfl) | ((with_reducible refine CallTo.of (bTMul_any _ _ _) ?_); exact fun _ _ => rfl))))
                (refine stepE_fact _ rfl rfl rfl (ex_alloc ) ?_ ?_; (· intro w2 hx hf; go_simp; (try simp only [wrap_eq]); exact Post.mk ⟨_, rfl, hx.size, Bx.new _ _ _⟩ ((Ext.refl _).alloc _)))
                exact trivial
              case tail =>
              rw [putsD_L_StatorBooks_24]
              have hf_w15_4 := factsTo_get (j := 4) (by decide) hf_w15
              clear hf_w15; have hf_w15 : True := trivial
              simp only [List.take, Region.binds, mode_text, mode_gc, if_true, true_and, Bool.false_eq_true, if_false, List.drop, StepsU, StepsG, putsAll, FactsAt, Fs, val, List.getD_cons_zero, List.getD_cons_succ, List.getD_nil, SF.is, SF.rd, SF.any, SF.box, Option.getD_some, Option.getD_none, Act.put, List.setIfInBounds_toArray, List.set_cons_zero, List.set_cons_succ] at hf_w15_4 ⊢
              obtain ⟨hc_w15, hfz_w15⟩ := bcell hx_w15
              obtain ⟨B15, e15, hB15, hb15⟩ := hf_w15_4
              rw [e15]
              have h14 : Ext w w14 := by ((repeat' (first | with_reducible exact Ext.refl _ | with_reducible assumption | with_reducible exact Ext.one _ | with_reducible refine Ext.alloc ?_ _ | with_reducible refine Ext.setCell ?_ ?_ _ | with_reducible refine Ext.drew ?_ | ((with_reducible apply Ext.after'); (with_reducible assumption)))) <;> (try simp) <;> omega)
              have hs15 : w.heap.size ≤ B15 := by have := h14.size; (try simp at hB15); omega
              have z0 : _ = some _ := hb15.cell 0; have z1 : _ = some _ := hb15.cell 1; have zf0 := hb15.frz 0; have zf1 := hb15.frz 1; have zl := hb15.lt
              go_wp2
              go_roundw
              case rel => exact ⟨k + 1, by omega, by go_num, by ((repeat' (first | with_reducible exact Ext.refl _ | with_reducible assumption | with_reducible exact Ext.one _ | with_reducible refine Ext.alloc ?_ _ | with_reducible refine Ext.setCell ?_ ?_ _ | with_reducible refine Ext.drew ?_ | ((with_reducible apply Ext.after'); (with_reducible assumption)))) <;> (try simp) <;> omega)⟩
              case measure => simp [intOf]; omega
            · have hz' : (wrap64 (wrap64 (s.2.1.1 + s.2.1.2.1) + s.2.1.2.2) != 0) = true := by simp [hz]
              clear hbp hz
              simp only [firstE, okI, okV, if_true] at HP HV HU
              go_wp2_with (first | (go_at_call 68; (with_reducible refine (HP.out _).mono ?_); rintro e w9 ⟨rfl, hx9⟩; obtain ⟨hc9, hf9⟩ := bcell hx9; have hq9_0 : B7 < w9.heap.size := (by have := hx9.size; (try simp at this); omega); have hq9_1 : B8 < w9.heap.size := (by have := hx9.size; (try simp at this); omega)) | (go_at_call 69; (with_reducible refine (HX.out _).mono ?_); rintro e w10 ⟨rfl, hx10⟩; obtain ⟨hc10, hf10⟩ := bcell hx10; have hq10_0 : B7 < w10.heap.size := (by have := hx10.size; (try simp at this); omega); have hq10_1 : B8 < w10.heap.size := (by have := hx10.size; (try simp at this); omega)) | (go_at_call 69; (with_reducible refine (HY.out _).mono ?_); rintro e w11 ⟨rfl, hx11⟩; obtain ⟨hc11, hf11⟩ := bcell hx11; have hq11_0 : B7 < w11.heap.size := (by have := hx11.size; (try simp at this); omega); have hq11_1 : B8 < w11.heap.size := (by have := hx11.size; (try simp at this); omega)) | (go_at_call 70; (with_reducible refine (HRP.out _).mono ?_); rintro e w12 ⟨rfl, hx12⟩; obtain ⟨hc12, hf12⟩ := bcell hx12; have hq12_0 : B7 < w12.heap.size := (by have := hx12.size; (try simp at this); omega); have hq12_1 : B8 < w12.heap.size := (by have := hx12.size; (try simp at this); omega)))
              go_roundw
              case rel => exact ⟨k + 1, by omega, by go_num, by ((repeat' (first | with_reducible exact Ext.refl _ | with_reducible assumption | with_reducible exact Ext.one _ | with_reducible refine Ext.alloc ?_ _ | with_reducible refine Ext.setCell ?_ ?_ _ | with_reducible refine Ext.drew ?_ | ((with_reducible apply Ext.after'); (with_reducible assumption)))) <;> (try simp) <;> omega)⟩
              case measure => simp [intOf]; omega
          · clear hbp
            simp only [firstE, okI, okV, if_true, show ¬ ((2 : Int) = 0) by omega, if_false] at HP HV HU
            go_wp2_with (first | (go_at_call 68; (with_reducible refine (HP.out _).mono ?_); rintro e w9 ⟨rfl, hx9⟩; obtain ⟨hc9, hf9⟩ := bcell hx9; have hq9_0 : B7 < w9.heap.size := (by have := hx9.size; (try simp at this); omega); have hq9_1 : B8 < w9.heap.size := (by have := hx9.size; (try simp at this); omega)) | (go_at_call 69; (with_reducible refine (HX.out _).mono ?_); rintro e w10 ⟨rfl, hx10⟩; obtain ⟨hc10, hf10⟩ := bcell hx10; have hq10_0 : B7 < w10.heap.size := (by have := hx10.size; (try simp at this); omega); have hq10_1 : B8 < w10.heap.size := (by have := hx10.size; (try simp at this); omega)) | (go_at_call 69; (with_reducible refine (HY.out _).mono ?_); rintro e w11 ⟨rfl, hx11⟩; obtain ⟨hc11, hf11⟩ := bcell hx11; have hq11_0 : B7 < w11.heap.size := (by have := hx11.size; (try simp at this); omega); have hq11_1 : B8 < w11.heap.size := (by have := hx11.size; (try simp at this); omega)))
            go_roundw
            case rel => exact ⟨k + 1, by omega, by go_num, by ((repeat' (first | with_reducible exact Ext.refl _ | with_reducible assumption | with_reducible exact Ext.one _ | with_reducible refine Ext.alloc ?_ _ | with_reducible refine Ext.setCell ?_ ?_ _ | with_reducible refine Ext.drew ?_ | ((with_reducible apply Ext.after'); (with_reducible assumption)))) <;> (try simp) <;> omega)⟩
            case measure => simp [intOf]; omega
        · clear hbp
          simp only [firstE, okI, okV, if_true, show ¬ ((2 : Int) = 0) by omega, if_false] at HP HV HU
          go_wp2_with (first | (go_at_call 68; (with_reducible refine (HP.out _).mono ?_); rintro e w9 ⟨rfl, hx9⟩; obtain ⟨hc9, hf9⟩ := bcell hx9; have hq9_0 : B7 < w9.heap.size := (by have := hx9.size; (try simp at this); omega); have hq9_1 : B8 < w9.heap.size := (by have := hx9.size; (try simp at this); omega)) | (go_at_call 69; (with_reducible refine (HX.out _).mono ?_); rintro e w10 ⟨rfl, hx10⟩; obtain ⟨hc10, hf10⟩ := bcell hx10; have hq10_0 : B7 < w10.heap.size := (by have := hx10.size; (try simp at this); omega); have hq10_1 : B8 < w10.heap.size := (by have := hx10.size; (try simp at this); omega)) | (go_at_call 69; (with_reducible refine (HY.out _).mono ?_); rintro e w11 ⟨rfl, hx11⟩; obtain ⟨hc11, hf11⟩ := bcell hx11; have hq11_0 : B7 < w11.heap.size := (by have := hx11.size; (try simp at this); omega); have hq11_1 : B8 < w11.heap.size := (by have := hx11.size; (try simp at this); omega)))
          go_roundw
          case rel => exact ⟨k + 1, by omega, by go_num, by ((repeat' (first | with_reducible exact Ext.refl _ | with_reducible assumption | with_reducible exact Ext.one _ | with_reducible refine Ext.alloc ?_ _ | with_reducible refine Ext.setCell ?_ ?_ _ | with_reducible refine Ext.drew ?_ | ((with_reducible apply Ext.after'); (with_reducible assumption)))) <;> (try simp) <;> omega)⟩
          case measure => simp [intOf]; omega
      · go_wp2
        go_ret
        exact ⟨rfl, hx⟩
    · go_wp2
      go_ret
      exact ⟨rfl, hx⟩
theorem statorBooks_any (l : List St) (a : Option Addr) (n c : Nat) (w : World) (hs : Sts w) (hl : l.length = n) (hr : Rd w 7 a n (cells7 l)) : Calls Tryd.prog 13 #[.slice a n c] w fun e w' => e = .returned (.bool true) ∧ Ext w w' := by
  by_cases h1 : 20 < n ∧ n ≤ 60 ∨ 62 < n
  · exact statorBooks_out a n c w hs h1
  · exact statorBooks_in l a n c w hs hl hr (by omega) (by omega)
end Go.Proofs.YtdbglpaejmhbjaaDoor
