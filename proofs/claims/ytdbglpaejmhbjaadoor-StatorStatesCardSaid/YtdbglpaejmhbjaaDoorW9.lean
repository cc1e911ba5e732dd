/- Walks: the iterator of overlaps. -/
import Derived.Test.YtdbglpaejmhbjaaDoorW8
import Derived.Test.YtdbglpaejmhbjaaDoorRange
namespace Go.Proofs.YtdbglpaejmhbjaaDoor
open Go Go.RowKit Go.Proofs
set_option linter.unusedSimpArgs false
set_option linter.unusedVariables false
attribute [local go_sem] Oper.semAt_some

def overL (p q : Int) : Int → List Int → List Int
  | _, [] => []
  | f, l :: ls => max 0 (wrap64 (min (wrap64 (f + l)) (wrap64 (p + q)) - max f p)) :: overL p q (wrap64 (f + l)) ls
theorem overL_length (p q : Int) : ∀ (ls : List Int) (f : Int), (overL p q f ls).length = ls.length
  | [], _ => rfl
  | l :: ls, f => by simp [overL, overL_length p q ls]
/-- The partial sums. -/
def fr : Int → List Int → Nat → Int
  | f, _, 0 => f
  | f, [], _ => f
  | f, l :: ls, k + 1 => fr (wrap64 (f + l)) ls k
theorem fr_succ : ∀ (ls : List Int) (f : Int) (k : Nat) (h : k < ls.length), fr f ls (k + 1) = wrap64 (fr f ls k + ls[k])
  | l :: ls, f, 0, _ => by cases ls <;> rfl
  | l :: ls, f, k + 1, h => fr_succ ls (wrap64 (f + l)) k (by simpa using h)
theorem overL_get (p q : Int) : ∀ (ls : List Int) (f : Int) (k : Nat) (h : k < ls.length), (overL p q f ls)[k]? = some (max 0 (wrap64 (min (wrap64 (fr f ls k + ls[k])) (wrap64 (p + q)) - max (fr f ls k) p)))
  | l :: ls, f, 0, _ => by simp [overL, fr]
  | l :: ls, f, k + 1, h => by simpa [overL, fr] using overL_get p q ls (wrap64 (f + l)) k (by simpa using h)
/-- What the iterator hands over. -/
def overY (p q : Int) (ls : List Int) : List (Array Value) := (overL p q 0 ls).mapIdx fun i v => #[.int .i64 i, .int .i64 v]

theorem overY_at {p q : Int} {ls : List Int} {i : Nat} {y : Array Value} (h : (overY p q ls)[i]? = some y) : ∃ v, (overL p q 0 ls)[i]? = some v ∧ y = #[.int .i64 i, .int .i64 v] := by
  simp only [overY, List.getElem?_mapIdx, Option.map_eq_some_iff] at h
  obtain ⟨v, hv, rfl⟩ := h
  exact ⟨v, hv, rfl⟩
theorem overY_length (p q : Int) (ls : List Int) : (overY p q ls).length = ls.length := by simp [overY, overL_length]

set_option maxRecDepth 100000 in
set_option maxHeartbeats 1000000 in
theorem overlaps_gives (ls : List Int) (a : Option Addr) (n c : Nat) (p q : Int) (T : TypeId → Bool) (n0 : Nat) (w0 w : World) (hT : T 129 = false) (hl : ls.length = n) (hn : n ≤ 1000) (hr : Rd w0 1 a n (ints ls)) (h0 : n0 = w0.heap.size) (hb : Ext w0 w) :
    Gives Tryd.prog 96 #[dV a n c p q] #[] (overY p q ls) T n0 w := by
  intro l J Jx W hW hJ hJx hY hJ0
  have HL := Lib.hid hl
  have HJ := Lib.hid hJ
  have HY := Lib.hid hY
  have H0 := Lib.hid h0
  clear hl hJ hY hJx h0
  refine callsIn_of_wp Tryd.func96 rfl trivial ?_ rfl
  simp only [Tryd.ntmps96, List.size_toArray, List.length_cons, List.length_nil, Nat.reduceAdd, Nat.reduceSub, Array.replicate_succ, Array.replicate_zero, List.push_toArray, List.append_toArray, List.nil_append, List.cons_append]
  gi_wp2
  obtain ⟨W1, hW1⟩ : ∃ W1, W.alloc (.cells #[.slice a n c, .int .i64 p, .int .i64 q] 129) = W1 := ⟨_, rfl⟩
  rw [hW1]
  have hx1 : Ext W W1 := by rw [← hW1]; exact (Ext.refl W).alloc _
  have hs1 : W1.heap.size = W.heap.size + 1 := by rw [← hW1]; simp
  have hB1 : W1.heap[W.heap.size]? = some (.cells #[.slice a n c, .int .i64 p, .int .i64 q] 129) := by rw [← hW1]; exact World.alloc_heap_new W _
  have hsz : w0.heap.size ≤ W.heap.size := Nat.le_trans hb.size hW.size
  gi_loopw [4, 12] (fun f i wr => ∃ k : Nat, k ≤ n ∧ i = .int .i64 k ∧ f = .int .i64 (fr 0 ls k) ∧ J k wr ∧ Keeps T n0 W1 wr) (fun _ i _ => n - (intOf i).toNat)
  case atStart => exact ⟨0, Nat.zero_le _, rfl, by simp [fr], HJ.out _ _ _ hJ0 hx1, Keeps.refl _ _ _⟩
  case round =>
    obtain ⟨k, hk, rfl, rfl, hj, hkp⟩ := hrel
    by_cases hlt : k < n
    · have hbl : Below n0 w0 wr := (show Below n0 w0 W1 by rw [H0.out]; exact (hb.trans hW).trans hx1).trans hkp.below
      obtain ⟨b, o, rfl, hrow⟩ := (hr.ext (show Ext w0 wr by have := hbl; rw [H0.out] at this; exact this)).2 (by omega)
      have hkl : k < ls.length := by rw [HL.out]; exact hlt
      have hc0 := hrow.at (ints_get hkl)
      have hbb := hkp.same _ _ hB1 (by simpa [inT] using hT)
      have hcp : wr.cell? ⟨W.heap.size, 1, none⟩ = some (.int .i64 p) := by rw [cell_of_row wr W.heap.size 1 _ _ _ hbb]; rfl
      have hcq : wr.cell? ⟨W.heap.size, 2, none⟩ = some (.int .i64 q) := by rw [cell_of_row wr W.heap.size 2 _ _ _ hbb]; rfl
      clear hbb
      have hsucc := Lib.hid (fr_succ ls 0 k hkl)
      obtain ⟨fn, tmps, assign, body, hy, hR⟩ := HY.out k #[.int .i64 k, .int .i64 (max 0 (wrap64 (min (wrap64 (fr 0 ls k + ls[k])) (wrap64 (p + q)) - max (fr 0 ls k) p)))] wr (by simp [overY, overL_get p q ls 0 k hkl]) hj
      gi_wp2
      refine hR.mono ?_
      rintro e W3 (⟨rfl, hj3, hk3⟩ | ⟨rfl, hjx3⟩)
      · gi_wp2
        go_roundw
        case rel => exact ⟨k + 1, by omega, by go_num, by rw [hsucc.out], hj3, hkp.trans hk3⟩
        case measure => simp [intOf]; omega
      · gi_wp2
        refine bodyPost_ret (results_none rfl _ _ _) rfl ?_
        exact ⟨⟨_, rfl⟩, .inr ⟨k + 1, hjx3⟩⟩
    · gi_wp2
      go_end0
      exact ⟨⟨_, rfl⟩, .inl (by rw [show (overY p q ls).length = k by simp [overY, overL_length, HL.out]; omega]; exact hj)⟩
end Go.Proofs.YtdbglpaejmhbjaaDoor
