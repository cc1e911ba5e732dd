/- Walks: errors, ranges, searches by a function; each for all arguments. -/
import Derived.Test.YtdbglpaejmhbjaaDoorProg
import Derived.Test.YtdbglpaejmhbjaaDoorLib
import Derived.Test.YtdbglpaejmhbjaaDoorBox
import Derived.Deep.QuietTactic
import Derived.BigQuiet
import Derived.KernelRfl
import Derived.Lib.Hide
namespace Go.Proofs.YtdbglpaejmhbjaaDoor
open Go Go.RowKit Go.Proofs

def unlessE (b : Bool) (e : Int) : Int := if b then 0 else e
def firstE : List Int → Int
  | [] => 0
  | e :: l => if e = 0 then firstE l else e
theorem ret_int {x y : Int} (h : x = y) : Ending.returned (.int .i64 x) = Ending.returned (.int .i64 y) := by rw [h]
theorem ret_bool {x y : Bool} (h : x = y) : Ending.returned (.bool x) = Ending.returned (.bool y) := by rw [h]
def withinB (n lo hi : Int) : Bool := decide (lo ≤ n) && decide (n ≤ hi)
def ints (l : List Int) : List Value := l.map (Value.int .i64)

theorem ints_get {l : List Int} {k : Nat} (h : k < l.length) : (ints l)[k]? = some (.int .i64 l[k]) := by simp [ints, h]
theorem ints_length (l : List Int) : (ints l).length = l.length := by simp [ints]

theorem unless_any (b : Bool) (e : Int) (w : World) :
    Calls Tryd.prog 81 #[.bool b, .int .i64 e] w fun r w' => r = .returned (.int .i64 (unlessE b e)) ∧ w = w' := by
  cases b <;>
  · go_enter Tryd.func81, Tryd.ntmps81
    go_wp2
    go_ret
    exact ⟨rfl, rfl⟩

theorem within_any (n lo hi : Int) (w : World) :
    Calls Tryd.prog 104 #[.int .i64 n, .int .i64 lo, .int .i64 hi] w fun e w' => e = .returned (.bool (withinB n lo hi)) ∧ w = w' := by
  by_cases h1 : lo ≤ n <;> by_cases h2 : n ≤ hi <;>
  · go_enter Tryd.func104, Tryd.ntmps104
    go_wp2
    go_ret
    simp [withinB, h1, h2]

set_option maxHeartbeats 400000 in
theorem first_any (l : List Int) (a : Option Addr) (n c : Nat) (w : World) (hl : l.length = n) (hn : n ≤ 1000) (hr : Rd w 1 a n (ints l)) :
    Calls Tryd.prog 80 #[.slice a n c] w fun e w' => e = .returned (.int .i64 (firstE l)) ∧ w = w' := by
  have HL := Lib.hid hl
  clear hl
  go_enter Tryd.func80, Tryd.ntmps80
  go_wp2
  go_loop [7] (fun i => ∃ k : Nat, k ≤ n ∧ i = .int .i64 k ∧ Hid (firstE l = firstE (l.drop k))) (fun i => n - (intOf i).toNat)
  case atStart => exact ⟨0, Nat.zero_le _, rfl, rfl⟩
  case round =>
    obtain ⟨k, hk, rfl, hd⟩ := hrel
    by_cases hlt : k < n
    · obtain ⟨b, o, rfl, hrow⟩ := hr.2 (by omega)
      have hkl : k < l.length := by rw [HL.out]; exact hlt
      have hc := hrow.at (ints_get hkl)
      have hs : Hid (firstE (l.drop k) = if l[k] = 0 then firstE (l.drop (k + 1)) else l[k]) := by
        show _ = _
        rw [List.drop_eq_getElem_cons hkl]; rfl
      by_cases hz : l[k] = 0
      · have hz' : (l[k] != 0) = false := by simp [hz]
        have HZ := Lib.hid hz
        clear hz
        go_wp2
        go_round
        case rel => exact ⟨k + 1, by omega, by go_num, by show _ = _; rw [hd.out, hs.out, if_pos HZ.out]⟩
        case measure => simp [intOf]; omega
      · have hz' : (l[k] != 0) = true := by simp [hz]
        go_wp2
        go_ret
        exact ⟨ret_int (by rw [hd.out, hs.out, if_neg hz]), rfl⟩
    · go_wp2
      go_ret
      exact ⟨ret_int (by rw [hd.out, List.drop_eq_nil_of_le (by rw [HL.out]; omega)]; rfl), rfl⟩

/-! ### searches -/
abbrev T2 := Int × Int
def cells2 : List T2 → List Value
  | [] => []
  | x :: l => .int .i64 x.1 :: .int .i64 x.2 :: cells2 l
theorem cells2_length : ∀ l, (cells2 l).length = l.length * 2
  | [] => rfl
  | x :: l => by simp [cells2, cells2_length l, Nat.add_mul]
theorem cells2_get0 : ∀ {l : List T2} {k : Nat} (h : k < l.length), (cells2 l)[k * 2]? = some (.int .i64 l[k].1)
  | [], _, h => by simp at h
  | x :: l, 0, _ => rfl
  | x :: l, k + 1, h => by
    have := cells2_get0 (l := l) (k := k) (by simpa using h)
    simpa [cells2, Nat.add_mul] using this
theorem cells2_get1 : ∀ {l : List T2} {k : Nat} (h : k < l.length), (cells2 l)[k * 2 + 1]? = some (.int .i64 l[k].2)
  | [], _, h => by simp at h
  | x :: l, 0, _ => rfl
  | x :: l, k + 1, h => by
    have := cells2_get1 (l := l) (k := k) (by simpa using h)
    simpa [cells2, Nat.add_mul] using this
/-- A vector as a value. -/
abbrev tV (x : T2) : Value := .agg #[.int .i64 x.1, .int .i64 x.2]

/-- The place of the first one that is so, from k on. -/
def idx {α : Type} (p : α → Bool) : List α → Nat → Int
  | [], _ => -1
  | x :: l, k => if p x then (k : Int) else idx p l (k + 1)

set_option maxHeartbeats 400000 in
theorem index2_any (g : Nat) (caps : Array Value) (hcf : ∀ (args : Array Value) (w : World), (callFunc g args).run Tryd.prog w = .ok (.enter g args) w) (p : T2 → Bool) (l : List T2) (a : Option Addr) (n c : Nat) (w : World)
    (hl : l.length = n) (hn : n ≤ 1000) (hr : Rd w 2 a n (cells2 l))
    (hg : ∀ w', Ext w w' → ∀ x ∈ l, Calls Tryd.prog g (#[tV x] ++ caps) w' fun e w'' => e = .returned (.bool (p x)) ∧ Ext w' w'') :
    Calls Tryd.prog 125 #[.slice a n c, .func (.func g) #[] caps] w fun e w' => e = .returned (.int .i64 (idx p l 0)) ∧ Ext w w' := by
  have HL := Lib.hid hl
  have HG := Lib.hid hg
  clear hl hg
  go_enter Tryd.func125, Tryd.ntmps125
  go_wp2
  go_loopw [8] (fun i wr => ∃ k : Nat, k ≤ n ∧ i = .int .i64 k ∧ Hid (idx p l 0 = idx p (l.drop k) k) ∧ Ext w wr) (fun i _ => n - (intOf i).toNat)
  case atStart => exact ⟨0, Nat.zero_le _, rfl, rfl, Ext.refl w⟩
  case round =>
    obtain ⟨k, hk, rfl, hd, hx⟩ := hrel
    by_cases hlt : k < n
    · obtain ⟨b, o, rfl, hrow⟩ := (hr.ext hx).2 (by omega)
      have hkl : k < l.length := by rw [HL.out]; exact hlt
      have hc0 := hrow.at (cells2_get0 hkl)
      have hc1 := hrow.at' (cells2_get1 hkl)
      have hs : Hid (idx p (l.drop k) k = if p l[k] then (k : Int) else idx p (l.drop (k + 1)) (k + 1)) := by
        show _ = _
        rw [List.drop_eq_getElem_cons hkl]; rfl
      have hga := Lib.hid (HG.out wr hx l[k] (List.getElem_mem hkl))
      by_cases hpk : p l[k] = true
      · have HP := Lib.hid hpk
        clear hpk
        go_wp2_with fail
        refine hga.out.mono ?_
        rintro e w1 ⟨rfl, hx1⟩
        rw [HP.out]
        go_wp2
        go_ret
        exact ⟨ret_int (by rw [hd.out, hs.out, if_pos HP.out]), hx.trans hx1⟩
      · have HP := Lib.hid (Bool.eq_false_iff.2 hpk)
        clear hpk
        go_wp2_with fail
        refine hga.out.mono ?_
        rintro e w1 ⟨rfl, hx1⟩
        rw [HP.out]
        go_wp2
        go_roundw
        case rel => exact ⟨k + 1, by omega, by go_num, by show _ = _; rw [hd.out, hs.out, HP.out]; rfl, hx.trans hx1⟩
        case measure => simp [intOf]; omega
    · go_wp2
      go_ret
      exact ⟨ret_int (by rw [hd.out, List.drop_eq_nil_of_le (by rw [HL.out]; omega)]; rfl), hx⟩
end Go.Proofs.YtdbglpaejmhbjaaDoor
