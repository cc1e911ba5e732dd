/- Walks: searches and errors of lists, tracks. -/
import Derived.Test.YtdbglpaejmhbjaaDoorW3
namespace Go.Proofs.YtdbglpaejmhbjaaDoor
open Go Go.RowKit Go.Proofs
set_option linter.unusedSimpArgs false
set_option linter.unusedVariables false

theorem ret_pair {x x' y y' : Int} (h : x = x') (h' : y = y') : Ending.returned (.tuple #[.int .i64 x, .int .i64 y]) = Ending.returned (.tuple #[.int .i64 x', .int .i64 y']) := by rw [h, h']
theorem hcf (g : Nat) (h : ∀ (args : Array Value) (w : World), (callFunc g args).run Tryd.prog w = .ok (.enter g args) w) : ∀ (args : Array Value) (w : World), (callFunc g args).run Tryd.prog w = .ok (.enter g args) w := h

theorem idx_any {α : Type} (p : α → Bool) : ∀ (l : List α) (k : Nat), decide (0 ≤ idx p l k) = l.any p
  | [], _ => rfl
  | x :: l, k => by
    simp only [idx, List.any_cons]
    split
    · rename_i h; rw [h]; simp
    · rename_i h; rw [idx_any p l (k + 1)]; simp [h]

set_option maxRecDepth 100000 in
set_option maxHeartbeats 1000000 in
theorem contains2_any (g : Nat) (caps : Array Value) (hcf : ∀ (args : Array Value) (w : World), (callFunc g args).run Tryd.prog w = .ok (.enter g args) w) (p : T2 → Bool) (l : List T2) (a : Option Addr) (n c : Nat) (w : World)
    (hl : l.length = n) (hn : n ≤ 1000) (hr : Rd w 2 a n (cells2 l))
    (hg : ∀ w', Ext w w' → ∀ x ∈ l, Calls Tryd.prog g (#[tV x] ++ caps) w' fun e w'' => e = .returned (.bool (p x)) ∧ Ext w' w'') :
    Calls Tryd.prog 84 #[.slice a n c, .func (.func g) #[] caps] w fun e w' => e = .returned (.bool (l.any p)) ∧ Ext w w' := by
  have h := Lib.hid (index2_any g caps hcf p l a n c w hl hn hr hg)
  clear hcf hg hr hl hn
  go_enter Tryd.func84, Tryd.ntmps84
  go_wp2_with fail
  refine h.out.mono ?_
  rintro e w1 ⟨rfl, hx1⟩
  go_wp2
  go_ret
  exact ⟨ret_bool (idx_any p l 0), hx1⟩

set_option maxRecDepth 100000 in
set_option maxHeartbeats 1000000 in
theorem index1_any (g : Nat) (caps : Array Value) (hcf : ∀ (args : Array Value) (w : World), (callFunc g args).run Tryd.prog w = .ok (.enter g args) w) (p : Int → Bool) (l : List Int) (a : Option Addr) (n c : Nat) (w : World)
    (hl : l.length = n) (hn : n ≤ 1000) (hr : Rd w 1 a n (ints l))
    (hg : ∀ w', Ext w w' → ∀ x ∈ l, Calls Tryd.prog g (#[.int .i64 x] ++ caps) w' fun e w'' => e = .returned (.bool (p x)) ∧ Ext w' w'') :
    Calls Tryd.prog 91 #[.slice a n c, .func (.func g) #[] caps] w fun e w' => e = .returned (.int .i64 (idx p l 0)) ∧ Ext w w' := by
  have HL := Lib.hid hl
  have HG := Lib.hid hg
  clear hl hg
  go_enter Tryd.func91, Tryd.ntmps91
  go_wp2
  go_loopw [8] (fun i wr => ∃ k : Nat, k ≤ n ∧ i = .int .i64 k ∧ Hid (idx p l 0 = idx p (l.drop k) k) ∧ Ext w wr) (fun i _ => n - (intOf i).toNat)
  case atStart => exact ⟨0, Nat.zero_le _, rfl, rfl, Ext.refl w⟩
  case round =>
    obtain ⟨k, hk, rfl, hd, hx⟩ := hrel
    by_cases hlt : k < n
    · obtain ⟨b, o, rfl, hrow⟩ := (hr.ext hx).2 (by omega)
      have hkl : k < l.length := by rw [HL.out]; exact hlt
      have hc0 := hrow.at (ints_get hkl)
      have hs : Hid (idx p (l.drop k) k = if p l[k] then (k : Int) else idx p (l.drop (k + 1)) (k + 1)) := by
        show _ = _
        rw [List.drop_eq_getElem_cons hkl]; rfl
      have hga := Lib.hid (HG.out wr hx l[k] (List.getElem_mem hkl))
      by_cases hpk : p l[k] = true
      · have HP := Lib.hid hpk
        clear hpk
        go_wp2_with fail
        refine hga.out.mono ?_
        rintro e w1 ⟨rfl, hx1⟩
        rw [HP.out]
        go_wp2
        go_ret
        exact ⟨ret_int (by rw [hd.out, hs.out, if_pos HP.out]), hx.trans hx1⟩
      · have HP := Lib.hid (Bool.eq_false_iff.2 hpk)
        clear hpk
        go_wp2_with fail
        refine hga.out.mono ?_
        rintro e w1 ⟨rfl, hx1⟩
        rw [HP.out]
        go_wp2
        go_roundw
        case rel => exact ⟨k + 1, by omega, by go_num, by show _ = _; rw [hd.out, hs.out, HP.out]; rfl, hx.trans hx1⟩
        case measure => simp [intOf]; omega
    · go_wp2
      go_ret
      exact ⟨ret_int (by rw [hd.out, List.drop_eq_nil_of_le (by rw [HL.out]; omega)]; rfl), hx⟩

set_option maxRecDepth 100000 in
set_option maxHeartbeats 1000000 in
theorem contains1_any (g : Nat) (caps : Array Value) (hcf : ∀ (args : Array Value) (w : World), (callFunc g args).run Tryd.prog w = .ok (.enter g args) w) (p : Int → Bool) (l : List Int) (a : Option Addr) (n c : Nat) (w : World)
    (hl : l.length = n) (hn : n ≤ 1000) (hr : Rd w 1 a n (ints l))
    (hg : ∀ w', Ext w w' → ∀ x ∈ l, Calls Tryd.prog g (#[.int .i64 x] ++ caps) w' fun e w'' => e = .returned (.bool (p x)) ∧ Ext w' w'') :
    Calls Tryd.prog 100 #[.slice a n c, .func (.func g) #[] caps] w fun e w' => e = .returned (.bool (l.any p)) ∧ Ext w w' := by
  have h := Lib.hid (index1_any g caps hcf p l a n c w hl hn hr hg)
  clear hcf hg hr hl hn
  go_enter Tryd.func100, Tryd.ntmps100
  go_wp2_with fail
  refine h.out.mono ?_
  rintro e w1 ⟨rfl, hx1⟩
  go_wp2
  go_ret
  exact ⟨ret_bool (idx_any p l 0), hx1⟩

theorem not_any {α : Type} (p : α → Bool) (l : List α) : (!(l.any fun x => !p x)) = l.all p := by
  induction l with
  | nil => rfl
  | cons x l ih => simp [List.any_cons, List.all_cons, ← ih]

set_option maxRecDepth 100000 in
set_option maxHeartbeats 1000000 in
theorem right_any (l : List T2) (a : Option Addr) (n c : Nat) (w : World) (hl : l.length = n) (hn : n ≤ 1000) (hr : Rd w 2 a n (cells2 l)) :
    Calls Tryd.prog 82 #[.slice a n c] w fun e w' => e = .returned (.int .i64 (unlessE (l.all rightB) 2)) ∧ Ext w w' := by
  have h := Lib.hid (contains2_any 122 #[] (fun _ _ => by kernel_rfl) (fun v => !rightB v) l a n c w hl hn hr (fun w' _ x _ => right1_any x w'))
  clear hr hl hn
  go_enter Tryd.func82, Tryd.ntmps82
  go_wp2_with (first | (go_at_call 84; refine h.out.mono ?_; rintro e w1 ⟨rfl, hx1⟩) | (first | (go_at_call 81; refine (unless_any _ _ _).mono ?_; rintro e wz ⟨rfl, rfl⟩)))
  go_ret
  exact ⟨ret_int (by rw [not_any]), hx1⟩

set_option maxRecDepth 100000 in
set_option maxHeartbeats 1000000 in
theorem phases_any (l : List Int) (a : Option Addr) (n c : Nat) (w : World) (hl : l.length = n) (hn : n ≤ 1000) (hr : Rd w 1 a n (ints l)) :
    Calls Tryd.prog 115 #[.slice a n c] w fun e w' => e = .returned (.int .i64 (unlessE (l.all (smallB · 100000)) 2)) ∧ Ext w w' := by
  have h := Lib.hid (contains1_any 126 #[] (fun _ _ => by kernel_rfl) (fun v => !smallB v 100000) l a n c w hl hn hr (fun w' _ x _ => (phases1_any x w').mono fun _ _ ⟨he, hw⟩ => ⟨he, hw ▸ Ext.refl _⟩))
  clear hr hl hn
  go_enter Tryd.func115, Tryd.ntmps115
  go_wp2_with (first | (go_at_call 100; refine h.out.mono ?_; rintro e w1 ⟨rfl, hx1⟩) | (first | (go_at_call 81; refine (unless_any _ _ _).mono ?_; rintro e wz ⟨rfl, rfl⟩)))
  go_ret
  exact ⟨ret_int (by rw [not_any]), hx1⟩

set_option maxRecDepth 100000 in
set_option maxHeartbeats 1000000 in
theorem rVectorsErr_any (l : List T2) (a : Option Addr) (n c : Nat) (w : World) (hl : l.length = n) (hn : n ≤ 1000) (hr : Rd w 2 a n (cells2 l)) :
    Calls Tryd.prog 86 #[.slice a n c] w fun e w' => e = .returned (.int .i64 (unlessE (l.all rightB) 2)) ∧ Ext w w' := by
  have HL := Lib.hid hl
  clear hl
  go_enter Tryd.func86, Tryd.ntmps86
  go_wp2
  go_loopw [3] (fun i wr => ∃ k : Nat, k ≤ n ∧ i = .int .i64 k ∧ Hid (l.all rightB = (l.drop k).all rightB) ∧ Ext w wr) (fun i _ => n - (intOf i).toNat)
  case atStart => exact ⟨0, Nat.zero_le _, rfl, rfl, Ext.refl w⟩
  case round =>
    obtain ⟨k, hk, rfl, hd, hx⟩ := hrel
    by_cases hlt : k < n
    · obtain ⟨b, o, rfl, hrow⟩ := (hr.ext hx).2 (by omega)
      have hkl : k < l.length := by rw [HL.out]; exact hlt
      have hc0 := hrow.at (cells2_get0 hkl)
      have hc1 := hrow.at' (cells2_get1 hkl)
      have hs : Hid ((l.drop k).all rightB = (rightB l[k] && (l.drop (k + 1)).all rightB)) := by
        show _ = _
        rw [List.drop_eq_getElem_cons hkl]; rfl
      have HC := Lib.hid (rVectorErr_any l[k] wr)
      by_cases hpk : rightB l[k] = true
      · have HP := Lib.hid hpk
        clear hpk
        go_wp2_with fail
        refine HC.out.mono ?_
        rintro e w1 ⟨rfl, hx1⟩
        rw [show unlessE (rightB l[k]) 2 = 0 by rw [HP.out]; rfl]
        go_wp2
        go_roundw
        case rel => exact ⟨k + 1, by omega, by go_num, by show _ = _; rw [hd.out, hs.out, HP.out]; rfl, hx.trans hx1⟩
        case measure => simp [intOf]; omega
      · have HP := Lib.hid (Bool.eq_false_iff.2 hpk)
        clear hpk
        go_wp2_with fail
        refine HC.out.mono ?_
        rintro e w1 ⟨rfl, hx1⟩
        rw [show unlessE (rightB l[k]) 2 = 2 by rw [HP.out]; rfl]
        go_wp2
        go_ret
        exact ⟨ret_int (by rw [hd.out, hs.out, HP.out]; rfl), hx.trans hx1⟩
    · go_wp2
      go_ret
      exact ⟨ret_int (by rw [hd.out, List.drop_eq_nil_of_le (by rw [HL.out]; omega)]; rfl), hx⟩

set_option maxRecDepth 100000 in
set_option maxHeartbeats 1000000 in
theorem rnumbersErr_any (l : List Int) (a : Option Addr) (n c : Nat) (w : World) (hl : l.length = n) (hn : n ≤ 1000) (hr : Rd w 1 a n (ints l)) :
    Calls Tryd.prog 117 #[.slice a n c] w fun e w' => e = .returned (.int .i64 (unlessE (l.all (smallB · 100000)) 2)) ∧ w = w' := by
  have HL := Lib.hid hl
  clear hl
  go_enter Tryd.func117, Tryd.ntmps117
  go_wp2
  go_loop [3] (fun i => ∃ k : Nat, k ≤ n ∧ i = .int .i64 k ∧ Hid (l.all (smallB · 100000) = (l.drop k).all (smallB · 100000))) (fun i => n - (intOf i).toNat)
  case atStart => exact ⟨0, Nat.zero_le _, rfl, rfl⟩
  case round =>
    obtain ⟨k, hk, rfl, hd⟩ := hrel
    by_cases hlt : k < n
    · obtain ⟨b, o, rfl, hrow⟩ := hr.2 (by omega)
      have hkl : k < l.length := by rw [HL.out]; exact hlt
      have hc0 := hrow.at (ints_get hkl)
      have hs : Hid ((l.drop k).all (smallB · 100000) = (smallB l[k] 100000 && (l.drop (k + 1)).all (smallB · 100000))) := by
        show _ = _
        rw [List.drop_eq_getElem_cons hkl]; rfl
      by_cases hpk : smallB l[k] 100000 = true
      · go_wp2_with (first | (go_at_call 87; refine (rsize_any _ _ _).mono ?_; rintro e wz ⟨rfl, rfl⟩))
        go_round
        case rel => exact ⟨k + 1, by omega, by go_num, by show _ = _; rw [hd.out, hs.out, hpk]; rfl⟩
        case measure => simp [intOf]; omega
      · replace hpk := Bool.eq_false_iff.2 hpk
        go_wp2_with (first | (go_at_call 87; refine (rsize_any _ _ _).mono ?_; rintro e wz ⟨rfl, rfl⟩))
        go_ret
        exact ⟨ret_int (by rw [hd.out, hs.out, hpk]; rfl), rfl⟩
    · go_wp2
      go_ret
      exact ⟨ret_int (by rw [hd.out, List.drop_eq_nil_of_le (by rw [HL.out]; omega)]; rfl), rfl⟩
end Go.Proofs.YtdbglpaejmhbjaaDoor
