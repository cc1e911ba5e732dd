/- Variables in boxes: a block of cells that the program writes; no conditions on a program. -/
import Derived.Test.YtfmjmngkgmlghaaDoorLib
import Derived.Laws.Rows
namespace Go.Proofs.YtfmjmngkgmlghaaDoor
open Go Go.RowKit

/-- The block B holds these cells, of which none is frozen. -/
def Bx (w : World) (B : Nat) (t : TypeId) (cs : Array Value) : Prop := w.heap[B]? = some (.cells cs t (0, 0))

theorem Bx.lt {w : World} {B : Nat} {t : TypeId} {cs : Array Value} (h : Bx w B t cs) : B < w.heap.size := (Array.getElem?_eq_some_iff.1 h).1
theorem Bx.cell {w : World} {B : Nat} {t : TypeId} {cs : Array Value} (h : Bx w B t cs) (j : Nat) : w.cell? ⟨B, j, none⟩ = cs[j]? := cell_of_row w B j cs t (0, 0) h
theorem Bx.frz {w : World} {B : Nat} {t : TypeId} {cs : Array Value} (h : Bx w B t cs) (j : Nat) : w.frozen? ⟨B, j, none⟩ = false := frozen_of_row w B j cs t h
theorem Bx.new (w : World) (cs : Array Value) (t : TypeId) : Bx (w.alloc (.cells cs t)) w.heap.size t cs := heap_alloc_new w _
theorem Bx.ext {w w' : World} {B : Nat} {t : TypeId} {cs : Array Value} (h : Bx w B t cs) (hx : Ext w w') : Bx w' B t cs := (hx.block B h.lt).trans h
theorem Bx.ext' {w w' : World} {B : Nat} {t : TypeId} {cs : Array Value} (hx : Ext w w') (h : Bx w B t cs) : Bx w' B t cs := h.ext hx
theorem Bx.alloc {w : World} {B : Nat} {t : TypeId} {cs : Array Value} (h : Bx w B t cs) (o : Obj) : Bx (w.alloc o) B t cs := h.ext ((Ext.refl w).alloc o)
theorem Bx.drew {w : World} {B : Nat} {t : TypeId} {cs : Array Value} (h : Bx w B t cs) : Bx w.drew B t cs := h
theorem Bx.other {w : World} {B : Nat} {t : TypeId} {cs : Array Value} (h : Bx w B t cs) {p : Addr} (hp : B ≠ p.block) (v : Value) : Bx (w.setCell p v) B t cs := (heap_setCell_other w p B v hp).trans h
theorem Bx.set2 {w : World} {B : Nat} {t : TypeId} {a b : Value} (h : Bx w B t #[a, b]) (v u : Value) : Bx ((w.setCell ⟨B, 0, none⟩ v).setCell ⟨B, 1, none⟩ u) B t #[v, u] :=
  heap_setCell_same _ B 1 _ t u (heap_setCell_same w B 0 _ t v h)
theorem Bx.set20 {w : World} {B : Nat} {t : TypeId} {a b : Value} (h : Bx w B t #[a, b]) (v : Value) : Bx (w.setCell ⟨B, 0, none⟩ v) B t #[v, b] := heap_setCell_same w B 0 _ t v h
theorem Bx.set21 {w : World} {B : Nat} {t : TypeId} {a b : Value} (h : Bx w B t #[a, b]) (v : Value) : Bx (w.setCell ⟨B, 1, none⟩ v) B t #[a, v] := heap_setCell_same w B 1 _ t v h
theorem Bx.at2 {w : World} {B : Nat} {t : TypeId} {a b : Value} (h : Bx w B t #[a, b]) : w.cell? ⟨B, 0, none⟩ = some a ∧ w.cell? ⟨B, 1, none⟩ = some b ∧ w.frozen? ⟨B, 0, none⟩ = false ∧ w.frozen? ⟨B, 1, none⟩ = false ∧ B < w.heap.size :=
  ⟨h.cell 0, h.cell 1, h.frz 0, h.frz 1, h.lt⟩
/-- A pointer to a box of one's own. -/
def SF.box (B0 : Nat) (t : TypeId) (cs : Array Value) : SF := ⟨fun v w => ∃ B, v = .pointer (some ⟨B, 0, none⟩) ∧ B0 ≤ B ∧ Bx w B t cs, none, fun _ _ _ hx ⟨B, h, hc, r⟩ => ⟨B, h, hc, r.ext hx⟩, fun _ _ _ _ h => by cases h⟩
theorem Bx.new_at {w : World} {B : Nat} (cs : Array Value) (t : TypeId) (h : B = w.heap.size) : Bx (w.alloc (.cells cs t)) B t cs := h ▸ Bx.new w cs t
end Go.Proofs.YtfmjmngkgmlghaaDoor
