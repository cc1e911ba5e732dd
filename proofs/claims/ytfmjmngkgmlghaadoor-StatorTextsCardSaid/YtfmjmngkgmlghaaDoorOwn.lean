/- append in a region that draws its order; rows of one's own beside boxes and rows of other elements. No conditions on a program. -/
import Derived.Test.YtfmjmngkgmlghaaDoorBox
import Derived.Test.YtfmjmngkgmlghaaDoorApp
namespace Go.Proofs.YtfmjmngkgmlghaaDoor
open Go Go.RowKit

/-- The row that an append may write is one of elements of this type. -/
def RowOf (w : World) (row : Option Nat) (e : TypeId) : Prop := ∀ g, row = some g → ∃ cur, w.heap[g]? = some (.cells cur e (0, 0))
theorem rowOf_own {w : World} {base n k : Nat} {e : TypeId} {v : Value} {xs : List Value} (h : w.ownsRow base e k v n xs) : RowOf w v.ownBlock e := by
  intro g hg
  rcases h.2 with ⟨rfl, _⟩ | ⟨g', cap, cur, rfl, _, hh, _⟩
  · cases hg
  · cases hg; exact ⟨cur, hh⟩
theorem Bx.grown {w w' : World} {B : Nat} {t e : TypeId} {cs : Array Value} {row : Option Nat} (h : Bx w B t cs) (hg : w.grownBy w' row) (hr : RowOf w row e) (hne : t ≠ e) : Bx w' B t cs :=
  (hg.block B h.lt fun hs => by
    obtain ⟨cur, hc⟩ := hr B hs.symm
    have h' : w.heap[B]? = some (.cells cs t (0, 0)) := h
    rw [h'] at hc; cases hc; exact hne rfl).trans h
theorem Bx.grown_far {w w' : World} {B : Nat} {t : TypeId} {cs : Array Value} {row : Option Nat} (h : Bx w B t cs) (hg : w.grownBy w' row) (hne : some B ≠ row) : Bx w' B t cs := (hg.block B h.lt hne).trans h
theorem own_grown {w w' : World} {base n k : Nat} {e f : TypeId} {v : Value} {xs : List Value} {row : Option Nat} (h : w.ownsRow base e k v n xs) (hg : w.grownBy w' row) (hr : RowOf w row f) (hne : e ≠ f) : w'.ownsRow base e k v n xs :=
  h.kept hg (by
    rcases h.2 with ⟨rfl, _⟩ | ⟨g', cap, cur, rfl, _, hh, _⟩
    · exact .inl rfl
    · refine .inr fun hs => ?_
      obtain ⟨cur', hc⟩ := hr g' hs.symm
      rw [hh] at hc; cases hc; exact hne rfl)
theorem own_setBox {w : World} {base n k : Nat} {e t : TypeId} {v : Value} {xs : List Value} (h : w.ownsRow base e k v n xs) {B : Nat} {cs : Array Value} (hb : Bx w B t cs) (hne : e ≠ t) (o : Nat) (u : Value) : (w.setCell ⟨B, o, none⟩ u).ownsRow base e k v n xs := by
  refine ⟨h.1, ?_⟩
  rcases h.2 with h2 | ⟨g, cap, cur, hv, hg, hh, r⟩
  · exact .inl h2
  · refine .inr ⟨g, cap, cur, hv, hg, ?_, r⟩
    refine (heap_setCell_other w _ g u ?_).trans hh
    intro e'
    have hb' : w.heap[B]? = some (.cells cs t (0, 0)) := hb
    simp only at e'
    subst e'
    rw [hh] at hb'; cases hb'; exact hne rfl

theorem own_ext {w w' : World} {base n k : Nat} {e : TypeId} {v : Value} {xs : List Value} (h : w.ownsRow base e k v n xs) (hx : Ext w w') : w'.ownsRow base e k v n xs := by
  refine ⟨h.1, ?_⟩
  rcases h.2 with h2 | ⟨g, cap, cur, hv, hg, hh, r⟩
  · exact .inl h2
  · exact .inr ⟨g, cap, cur, hv, hg, (hx.block g (Array.getElem?_eq_some_iff.1 hh).1).trans hh, r⟩

/-- append, as an operation of a drawn region. -/
theorem rel_app {P : Program} {w : World} {base : Nat} {e : TypeId} {k n : Nat} {v : Value} {xs : List Value} {φ : Value → World → Prop} {o : Oper} {a : Act} (s x : Operand) (t : TypeId)
    (ho : o.op = .call { callee := .builtin .append, args := #[s, x], argTypes := #[t, t] })
    (i : TypeInfo) (z : Value) (bytes : Nat) (ht : P.underlying t = some (.slice e)) (hi : P.info? e = some i) (hz : i.zero = some z)
    (hsize : i.size = k) (hby : i.bytes = bytes) (hzs : z.cells.size = k) (hsz : 0 < k)
    (hs : a.eval s = v) (hown : w.ownsRow base e k v n xs) (A : Option Addr) (m c : Nat) (news : List Value) (hx : a.eval x = .slice A m c) (hr : Rd w k A m news) (h1 : ∀ u ∈ news, u.oneCell' = true)
    (h63 : n + m ≤ maxLen) (hbytes : (n + m) * bytes ≤ 140737488355328) (hbase : base ≤ w.heap.size)
    (h : ∀ A' c' w', n + m ≤ c' → w'.ownsRow base e k (.slice A' (n + m) c') (n + m) (xs ++ news) → Below base w w' → w.grownBy w' v.ownBlock → φ (.slice A' (n + m) c') w') :
    RelUpon P φ ((execOp a.eval o).run P w) := by
  obtain ⟨v', w', hrun, h2, h3, h4⟩ := run_append_rd (P := P) t o.type i z bytes ht hi hz hsize hby hzs hsz hown A m c news hr h1 h63 hbytes hbase
  obtain ⟨A', c', rfl, hc'⟩ := own_form h2
  unfold execOp
  simp only [ho, resolve, invoke, builtin, Sem.run_bind, Sem.run_pure, Result.andThen_ok, List.map_toArray, List.map_cons, List.map_nil, hs, hx, hrun]
  exact h A' c' w' hc' h2 ((Below.refl _ _).grown h3 hbase fun g hg => (hown.lt g hg).1) h3
theorem Bx.rd {w : World} {B : Nat} {t : TypeId} {cs : Array Value} (h : Bx w B t cs) (k n : Nat) (hn : cs.size = n * k) : Rd w k (some ⟨B, 0, none⟩) n cs.toList :=
  ⟨by simpa using hn, fun _ => ⟨B, 0, rfl, h.lt, fun j u hu => by rw [Nat.zero_add, h.cell j]; simpa using hu⟩⟩
theorem Rd.new_at {w : World} {A : Nat} (k n : Nat) (cs : Array Value) (t : TypeId) (hA : A = w.heap.size) (h : cs.size = n * k) : Rd (w.alloc (.cells cs t)) k (some ⟨A, 0, none⟩) n cs.toList := hA ▸ Rd.new w k n cs t h
end Go.Proofs.YtfmjmngkgmlghaaDoor
