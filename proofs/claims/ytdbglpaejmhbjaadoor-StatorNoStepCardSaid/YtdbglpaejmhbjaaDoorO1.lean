/- Walks: overlaps, as specified and in the program. -/
import Derived.Test.YtdbglpaejmhbjaaDoorW10
import Derived.Test.YtdbglpaejmhbjaaDoorOwn
namespace Go.Proofs.YtdbglpaejmhbjaaDoor
open Go Go.RowKit Go.Proofs
set_option linter.unusedSimpArgs false
set_option linter.unusedVariables false

theorem ints_take_snoc {l : List Int} {k : Nat} {v : Int} (h : l[k]? = some v) : ints (l.take (k + 1)) = ints (l.take k) ++ [.int .i64 v] := by
  rw [List.take_add_one, h]; simp [ints]

set_option maxRecDepth 100000 in
set_option maxHeartbeats 1000000 in
theorem rOverlaps_any (ls : List Int) (a : Option Addr) (n c : Nat) (p q : Int) (w : World) (hl : ls.length = n) (hn : n ≤ 1000) (hr : Rd w 1 a n (ints ls)) :
    Calls Tryd.prog 33 #[.agg #[.slice a n c], .agg #[.int .i64 p, .int .i64 q]] w (RetOwn w 3 1 n (ints (overL p q 0 ls))) := by
  obtain ⟨i1, hi1, hz10, hz11, hz12⟩ := info_parts info1
  have HL := Lib.hid hl
  clear hl
  go_enter Tryd.func33, Tryd.ntmps33
  go_wp2
  obtain ⟨W0, hW0⟩ : ∃ W0, (w.alloc (.cells #[.slice a n c] 42)).alloc (.cells #[.int .i64 p, .int .i64 q] 44) = W0 := ⟨_, rfl⟩
  rw [hW0]
  have hx0 : Ext w W0 := by rw [← hW0]; ((repeat' (first | with_reducible exact Ext.refl _ | assumption | with_reducible exact Ext.one _ | with_reducible refine Ext.alloc ?_ _ | with_reducible refine Ext.setCell ?_ ?_ _ | with_reducible refine Ext.drew ?_ | refine Ext.trans ?_ (by assumption))) <;> (try simp) <;> omega)
  have hs0 : W0.heap.size = w.heap.size + 2 := by rw [← hW0]; simp
  have hb1 : Bx W0 w.heap.size 42 #[.slice a n c] := by rw [← hW0]; exact (Bx.new w _ _).alloc _
  have hb2 : Bx W0 (w.heap.size + 1) 44 #[.int .i64 p, .int .i64 q] := by rw [← hW0]; exact Bx.new_at _ _ (by simp)
  clear hW0
  have HS0 := Lib.hid hs0
  have hs1 : w.heap.size + 1 < W0.heap.size := by omega
  clear hs0
  go_loopw [5, 6, 7] (fun v f i wr => ∃ k : Nat, k ≤ n ∧ i = .int .i64 k ∧ f = .int .i64 (fr 0 ls k) ∧ wr.ownsRow W0.heap.size 3 1 v k (ints ((overL p q 0 ls).take k)) ∧ Ext W0 wr) (fun _ _ i _ => n - (intOf i).toNat)
  case atStart => exact ⟨0, Nat.zero_le _, rfl, by simp [fr], ⟨by simp [ints], .inl ⟨rfl, rfl⟩⟩, Ext.refl _⟩
  case round =>
    obtain ⟨k, hk, rfl, rfl, hown, hx⟩ := hrel
    obtain ⟨a0, a1, a2⟩ := (hb1.ext hx).at1
    obtain ⟨b0, b1, b2, b3, b4⟩ := (hb2.ext hx).at2
    by_cases hlt : k < n
    · obtain ⟨b, o, rfl, hrow⟩ := (hr.ext (hx0.trans hx)).2 (by omega)
      have hbb := hrow.1
      have hkl : k < ls.length := by rw [HL.out]; exact hlt
      have hc0 := hrow.at (ints_get hkl)
      have hsucc := Lib.hid (fr_succ ls 0 k hkl)
      have hget := Lib.hid (overL_get p q ls 0 k hkl)
      have hxs := hx.size
      go_wp2_with (at_builtin; refine wpList_app rfl (.tmp 23) (.tmp 37) _ rfl i1 (.int .i64 0) 8 Tryd.underlying40 hi1 hz10 hz11 hz12 rfl (by omega) rfl (hown.alloc _) _ 1 1 [.int .i64 (max 0 (wrap64 (min (wrap64 (fr 0 ls k + ls[k])) (wrap64 (p + q)) - max (fr 0 ls k) p)))] rfl (Rd.new_at 1 1 #[_] _ rfl rfl) (one_ints [_]) (by simp only [maxLen]; omega) (by omega) (by have := hxs; (try simp); omega) ?_; intro A1 c1 w1 hcc1 hown1 hbl1 hgr1 hob1)
      go_roundw
      case rel => exact ⟨k + 1, by omega, by go_num, by rw [hsucc.out], by rw [ints_take_snoc hget.out]; exact hown1, Below.trans (Ext.alloc hx _) hbl1⟩
      case measure => simp [intOf]; omega
    · go_wp2
      obtain rfl : k = n := by omega
      obtain ⟨A, c', rfl, hc'⟩ := own_form hown
      go_ret
      have e : (overL p q 0 ls).take k = overL p q 0 ls := List.take_of_length_le (by rw [overL_length, HL.out]; exact Nat.le_refl _)
      rw [e] at hown
      exact ⟨A, c', rfl, hc', hown.mono_base (by have := hx0.size; omega), hx0.trans hx⟩
end Go.Proofs.YtdbglpaejmhbjaaDoor
