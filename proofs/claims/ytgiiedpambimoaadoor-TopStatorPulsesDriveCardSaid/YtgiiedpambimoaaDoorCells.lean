/- Cells of lists, element by element; parts of boxes. No conditions on a program. -/
import Derived.Test.YtgiiedpambimoaaDoorOwn
namespace Go.Proofs.YtgiiedpambimoaaDoor
open Go Go.RowKit

/-- Cells of a list, element by element. -/
def cellsF {α : Type} (f : α → List Value) (l : List α) : List Value := l.flatMap f
theorem cellsF_length {α : Type} {f : α → List Value} {k : Nat} (hf : ∀ x, (f x).length = k) : ∀ l : List α, (cellsF f l).length = l.length * k
  | [] => by simp [cellsF]
  | x :: l => by
    have := cellsF_length hf l
    simp only [cellsF, List.flatMap_cons, List.length_append, hf, List.length_cons, Nat.add_mul] at this ⊢
    omega
theorem cellsF_get {α : Type} {f : α → List Value} {k : Nat} (hf : ∀ x, (f x).length = k) : ∀ {l : List α} {i j : Nat} (h : i < l.length) (hj : j < k), (cellsF f l)[i * k + j]? = (f l[i])[j]?
  | [], i, j, h, _ => by simp at h
  | x :: l, 0, j, _, hj => by
    have := hf x
    simp only [cellsF, List.flatMap_cons, Nat.zero_mul, Nat.zero_add, List.getElem_cons_zero]
    rw [List.getElem?_append_left (by omega)]
  | x :: l, i + 1, j, h, hj => by
    have h1 := cellsF_get hf (l := l) (i := i) (j := j) (by simpa using h) hj
    have := hf x
    simp only [cellsF, List.flatMap_cons, List.getElem_cons_succ] at h1 ⊢
    rw [List.getElem?_append_right (by rw [Nat.add_mul]; omega), ← h1]
    congr 1
    rw [Nat.add_mul]; omega
/-- A part of a box reads as a slice. -/
theorem Bx.part {w : World} {B : Nat} {t : TypeId} {cs : Array Value} (h : Bx w B t cs) (k n o : Nat) (xs : List Value) (hx : ∀ j u, xs[j]? = some u → cs[o + j]? = some u) (hn : xs.length = n * k) : Rd w k (some ⟨B, o, none⟩) n xs :=
  ⟨hn, fun _ => ⟨B, o, rfl, h.lt, fun j u hu => (h.cell (o + j)).trans (hx j u hu)⟩⟩

end Go.Proofs.YtgiiedpambimoaaDoor
