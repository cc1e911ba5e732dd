/- Lemmas for the statement. -/
import Derived.Test.YtjhcfpdgldpicaaLib
import Derived.Laws.Rows
namespace Go.Proofs.Ytjhcfpdgldpicaa
open Go Go.RowKit
def Bx (w : World) (B : Nat) (t : TypeId) (cs : Array Value) : Prop := w.heap[B]? = some (.cells cs t (0, 0))
theorem Bx.lt {w : World} {B : Nat} {t : TypeId} {cs : Array Value} (h : Bx w B t cs) : B < w.heap.size := (Array.getElem?_eq_some_iff.1 h).1
theorem Bx.cell {w : World} {B : Nat} {t : TypeId} {cs : Array Value} (h : Bx w B t cs) (j : Nat) : w.cell? ⟨B, j, none⟩ = cs[j]? := cell_of_row w B j cs t (0, 0) h
theorem Bx.new (w : World) (cs : Array Value) (t : TypeId) : Bx (w.alloc (.cells cs t)) w.heap.size t cs := heap_alloc_new w _
theorem Bx.ext {w w' : World} {B : Nat} {t : TypeId} {cs : Array Value} (h : Bx w B t cs) (hx : Ext w w') : Bx w' B t cs := (hx.block B h.lt).trans h
theorem Bx.ext' {w w' : World} {B : Nat} {t : TypeId} {cs : Array Value} (hx : Ext w w') (h : Bx w B t cs) : Bx w' B t cs := h.ext hx
theorem Bx.alloc {w : World} {B : Nat} {t : TypeId} {cs : Array Value} (h : Bx w B t cs) (o : Obj) : Bx (w.alloc o) B t cs := h.ext ((Ext.refl w).alloc o)
theorem Bx.drew {w : World} {B : Nat} {t : TypeId} {cs : Array Value} (h : Bx w B t cs) : Bx w.drew B t cs := h
theorem Bx.other {w : World} {B : Nat} {t : TypeId} {cs : Array Value} (h : Bx w B t cs) {p : Addr} (hp : B ≠ p.block) (v : Value) : Bx (w.setCell p v) B t cs := (heap_setCell_other w p B v hp).trans h
def SF.box (B0 : Nat) (t : TypeId) (cs : Array Value) : SF := ⟨fun v w => ∃ B, v = .pointer (some ⟨B, 0, none⟩) ∧ B0 ≤ B ∧ Bx w B t cs, none, fun _ _ _ hx ⟨B, h, hc, r⟩ => ⟨B, h, hc, r.ext hx⟩, fun _ _ _ _ h => by cases h⟩
end Go.Proofs.Ytjhcfpdgldpicaa
