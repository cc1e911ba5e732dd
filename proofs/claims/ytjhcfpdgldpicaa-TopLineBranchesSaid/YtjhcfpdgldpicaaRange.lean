/- Lemmas for the statement. -/
import Derived.Test.YtjhcfpdgldpicaaLib
import Derived.RangeFuncNested
import Derived.RangeFuncBound
import Derived.RangeFuncCalls
import Derived.RangeFuncLeaves
import Derived.OwnWalkIn
import Derived.TacticsInMore
import Derived.LoopNIn
import Derived.LoopIn
namespace Go.Proofs.Ytjhcfpdgldpicaa
open Go Go.RowKit
def inT (T : TypeId → Bool) : Obj → Bool
 | .cells _ t _ => T t
 | _ => false
structure Keeps (T : TypeId → Bool) (n0 : Nat) (W W' : World) : Prop where
 below : Below n0 W W'
 same : ∀ (k : Nat) (o : Obj), W.heap[k]? = some o → inT T o = false → W'.heap[k]? = some o
structure Calm (B : Nat) (W W' : World) : Prop where
 below : Below B W W'
 same : ∀ (k : Nat) (c : Array Value) (t : TypeId) (f : Nat × Nat), W.heap[k]? = some (.cells c t f) → W'.heap[k]? = some (.cells c t f)
theorem ext_block {W W' : World} (h : Ext W W') {k : Nat} {o : Obj} (hk : W.heap[k]? = some o) : W'.heap[k]? = some o := (h.block k (Array.getElem?_eq_some_iff.1 hk).1).trans hk
theorem Calm.putObj {B : Nat} {W : World} {l : Nat} {o : Obj} (o' : Obj) (hB : B ≤ l) (h : W.heap[l]? = some o) (ho : o.isCells = false) : Calm B W (W.putObj l o') :=
 ⟨(Below.refl B W).grown (grownBy_putObj' W l o') (by have := (Array.getElem?_eq_some_iff.1 h).1; omega) (fun k e => by cases e; omega), fun k c t f hk => by
  by_cases e : k = l
  ·subst e; rw [h] at hk; cases hk; cases ho
  ·exact (World.putObj_heap_other e).trans hk⟩
theorem Keeps.refl (T : TypeId → Bool) (n0 : Nat) (W : World) : Keeps T n0 W W := ⟨Below.refl _ _, fun _ _ h _ => h⟩
theorem Keeps.trans {T : TypeId → Bool} {n0 : Nat} {A B C : World} (h : Keeps T n0 A B) (k : Keeps T n0 B C) : Keeps T n0 A C := ⟨h.below.trans k.below, fun i o hi ho => k.same i o (h.same i o hi ho) ho⟩
theorem Keeps.ext {T : TypeId → Bool} {n0 : Nat} {A B C : World} (h : Keeps T n0 A B) (k : Ext B C) (hn : n0 ≤ A.heap.size) : Keeps T n0 A C :=
 h.trans ⟨k.mono (Nat.le_trans hn h.below.size), fun _ _ hk _ => ext_block k hk⟩
theorem Keeps.setCell {T : TypeId → Bool} {n0 : Nat} {A B : World} (h : Keeps T n0 A B) {p : Addr} (hp : n0 ≤ p.block) {c : Array Value} {t : TypeId} {f : Nat × Nat} (hb : B.heap[p.block]? = some (.cells c t f)) (ht : T t = true) (v : Value) : Keeps T n0 A (B.setCell p v) :=
 ⟨h.below.setCell hp v, fun k o hk ho => by
  have h1 := h.same k o hk ho
  refine (Below.heap_setCell B p v k ?_).trans h1
  rintro rfl
  rw [hb] at h1
  cases h1
  simp only [inT] at ho
  rw [ht] at ho; cases ho⟩
theorem Keeps.grown {T : TypeId → Bool} {n0 : Nat} {A B C : World} (h : Keeps T n0 A B) {row : Option Nat} (hg : B.grownBy C row) (hn : n0 ≤ A.heap.size) (hr : ∀ g, row = some g → n0 ≤ g ∧ ∃ c t f, B.heap[g]? = some (.cells c t f) ∧ T t = true) : Keeps T n0 A C :=
 ⟨h.below.grown hg (Nat.le_trans hn h.below.size) (fun g e => (hr g e).1), fun k o hk ho => by
  have h1 := h.same k o hk ho
  refine (hg.block k (Array.getElem?_eq_some_iff.1 h1).1 ?_).trans h1
  intro e
  obtain ⟨_, c, t, f, hb, ht⟩ := hr k e.symm
  rw [hb] at h1
  cases h1
  simp only [inT] at ho
  rw [ht] at ho; cases ho⟩
end Go.Proofs.Ytjhcfpdgldpicaa
