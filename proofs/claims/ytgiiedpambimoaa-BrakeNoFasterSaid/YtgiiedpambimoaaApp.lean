/- append onto a row of the call's own, of whatever can be read; no conditions on a program. -/
import Derived.Test.YtgiiedpambimoaaLib
import Derived.Maps.AppendAt
import Derived.Deep.AppendLies
import Derived.Lib.Hide
namespace Go.Proofs.Ytgiiedpambimoaa
open Go Go.RowKit

theorem bcellB {B : Nat} {W w1 : World} (hb : Below B W w1) : (∀ b o, b < B → w1.cell? ⟨b, o, none⟩ = W.cell? ⟨b, o, none⟩) ∧ (∀ b o, b < B → w1.frozen? ⟨b, o, none⟩ = W.frozen? ⟨b, o, none⟩) :=
  ⟨fun b o h => Below.cell hb (p := ⟨b, o, none⟩) h, fun b o h => Below.frozen hb (p := ⟨b, o, none⟩) h⟩

section
variable {P : Program} {w : World} {base : Nat} {e : TypeId} {k n : Nat} {v : Value} {xs : List Value}

theorem own_form (h : w.ownsRow base e k v n xs) : ∃ A c, v = .slice A n c ∧ n ≤ c := by
  rcases h.2 with ⟨rfl, rfl⟩ | ⟨g, cap, cur, rfl, _, _, hn, _⟩
  · exact ⟨none, 0, rfl, Nat.le_refl _⟩
  · exact ⟨_, _, rfl, hn⟩

theorem _root_.Go.World.ownsRow.mono_base {b' : Nat} (h : w.ownsRow base e k v n xs) (hb : b' ≤ base) : w.ownsRow b' e k v n xs := by
  refine ⟨h.1, ?_⟩
  rcases h.2 with h2 | ⟨g, cap, cur, hv, hg, r⟩
  · exact .inl h2
  · exact .inr ⟨g, cap, cur, hv, by omega, r⟩

theorem Rd.of_own {A : Option Addr} {c : Nat} (h : w.ownsRow base e k (.slice A n c) n xs) : Rd w k A n xs := by
  refine ⟨h.1, fun hn => ?_⟩
  rcases h.2 with ⟨_, rfl⟩ | ⟨g, cap, cur, hv, _, hh, _⟩
  · omega
  · have hA : A = some ⟨g, 0, none⟩ := by injection hv
    subst hA
    exact ⟨g, 0, rfl, (Array.getElem?_eq_some_iff.1 hh).1, fun j u hu => by have := h.cells (g := g) rfl j u hu; rwa [Addr.add_lit] at this⟩

theorem Rd.below {B : Nat} {w' : World} {A : Option Addr} (h : Rd w k A n xs) (hb : Below B w w') (hB : 0 < n → ∀ b o, A = some ⟨b, o, none⟩ → b < B) : Rd w' k A n xs :=
  ⟨h.1, fun hn => by
    obtain ⟨b, o, e, r⟩ := h.2 hn
    have hlt := hB hn b o e
    exact ⟨b, o, e, Nat.lt_of_lt_of_le r.1 hb.size, fun j u hu => (Below.cell hb (p := ⟨b, o + j, none⟩) hlt).trans (r.2 j u hu)⟩⟩

theorem run_append_of_nil (t ty : TypeId) (i : TypeInfo) (ht : P.underlying t = some (.slice e)) (hi : P.info? e = some i)
    (hown : w.ownsRow base e k v n xs) (c : Nat) (A : Option Addr) (hc : A = none ∨ True) (hA : A = none) : (Builtin.append_ #[t, t] ty #[v, .slice A 0 c]).run P w = .ok v w := by
  subst hA
  rcases hown.2 with ⟨rfl, rfl⟩ | ⟨g, cap, cur, rfl, _, _, hnc, _⟩
  · simp [Builtin.append_, run_underlying ht, sizeOf, typeInfo, hi, Builtin.lenOf, Builtin.firstCells]
  · simp [Builtin.append_, run_underlying ht, sizeOf, typeInfo, hi, Builtin.lenOf, Builtin.firstCells, hnc, storeCells]

theorem run_append_rd (t ty : TypeId) (i : TypeInfo) (z : Value) (bytes : Nat) (ht : P.underlying t = some (.slice e)) (hi : P.info? e = some i) (hz : i.zero = some z)
    (hsize : i.size = k) (hby : i.bytes = bytes) (hzs : z.cells.size = k) (hsz : 0 < k)
    (hown : w.ownsRow base e k v n xs) (A : Option Addr) (m c : Nat) (news : List Value) (hr : Rd w k A m news) (h1 : ∀ u ∈ news, u.oneCell' = true)
    (h63 : n + m ≤ maxLen) (hbytes : (n + m) * bytes ≤ 140737488355328) (hbase : base ≤ w.heap.size) :
    ∃ v' w', (Builtin.append_ #[t, t] ty #[v, .slice A m c]).run P w = .ok v' w' ∧ w'.ownsRow base e k v' (n + m) (xs ++ news) ∧ w.grownBy w' v.ownBlock ∧
      (v'.ownBlock = v.ownBlock ∨ v'.ownBlock = some w.heap.size) := by
  rcases A with _ | ad
  · have hm : m = 0 := by
      rcases Nat.eq_zero_or_pos m with h0 | h0
      · exact h0
      · obtain ⟨_, _, h, _⟩ := hr.2 h0
        cases h
    subst hm
    have hn : news = [] := List.eq_nil_of_length_eq_zero (by simpa using hr.1)
    subst hn
    exact ⟨v, w, run_append_of_nil t ty i ht hi hown c none (.inl rfl) rfl, by simpa using hown, World.grownBy.refl w _, .inl rfl⟩
  · have hcells : ∀ j u, news[j]? = some u → w.cell? (ad.add j) = some u := by
      intro j u hu
      rcases Nat.eq_zero_or_pos m with h0 | h0
      · subst h0
        have hn : news = [] := List.eq_nil_of_length_eq_zero (by simpa using hr.1)
        subst hn
        simp at hu
      · obtain ⟨b, o, h, hrow⟩ := hr.2 h0
        injection h with h
        subst h
        rw [Addr.add_lit]
        exact hrow.2 j u hu
    obtain ⟨v', w', hrun, h2, h3, _, h5⟩ := run_append_own_at (P := P) w base t ty e i z k bytes ht hi hz hsize hby hzs hsz v n xs hown ad m c news hr.1 hcells h1 h63 hbytes hbase
    exact ⟨v', w', hrun, h2, h3, h5⟩

/-- **append: the row, as a slice, reads as both lists; below its base nothing has turned.** -/
theorem wpList_app {ops : Array Oper} {rest : List Oper} {o : Oper} {a : Act} {Q : Exit → Act → World → Prop} (hgd : o.guard = none) (s x : Operand) (t : TypeId)
    (ho : o.op = .call { callee := .builtin .append, args := #[s, x], argTypes := #[t, t] })
    (i : TypeInfo) (z : Value) (bytes : Nat) (ht : P.underlying t = some (.slice e)) (hi : P.info? e = some i) (hz : i.zero = some z)
    (hsize : i.size = k) (hby : i.bytes = bytes) (hzs : z.cells.size = k) (hsz : 0 < k)
    (hs : a.eval s = v) (hown : w.ownsRow base e k v n xs) (A : Option Addr) (m c : Nat) (news : List Value) (hx : a.eval x = .slice A m c) (hr : Rd w k A m news) (h1 : ∀ u ∈ news, u.oneCell' = true)
    (h63 : n + m ≤ maxLen) (hbytes : (n + m) * bytes ≤ 140737488355328) (hbase : base ≤ w.heap.size)
    (h : ∀ A' c' w', n + m ≤ c' → w'.ownsRow base e k (.slice A' (n + m) c') (n + m) (xs ++ news) → Below base w w' → w.grownBy w' v.ownBlock →
      ((Value.slice A' (n + m) c').ownBlock = v.ownBlock ∨ (Value.slice A' (n + m) c').ownBlock = some w.heap.size) →
      wpList P ops Q rest (a.put o.dst (.slice A' (n + m) c')) w') : wpList P ops Q (o :: rest) a w := by
  refine wpList_plain hgd fun K hK => ?_
  obtain ⟨v', w', hrun, h2, h3, h4⟩ := run_append_rd (P := P) t o.type i z bytes ht hi hz hsize hby hzs hsz hown A m c news hr h1 h63 hbytes hbase
  obtain ⟨A', c', rfl, hc'⟩ := own_form h2
  unfold Oper.wp execOp
  simp only [ho, resolve, invoke, builtin, Sem.run_bind, Sem.run_pure, Result.andThen_ok, List.map_toArray, List.map_cons, List.map_nil, hs, hx, hrun]
  exact hK _ _ (h A' c' w' hc' h2 ((Below.refl _ _).grown h3 hbase fun g hg => (hown.lt g hg).1) h3 h4)
end

theorem one_ints (l : List Int) : ∀ u ∈ l.map (Value.int .i64), u.oneCell' = true := by
  intro u hu
  obtain ⟨x, _, rfl⟩ := List.mem_map.1 hu
  rfl
end Go.Proofs.Ytgiiedpambimoaa
