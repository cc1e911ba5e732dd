/- The abstract machine: literals without elements, appended to; values compared part by part. No conditions on a program. -/
import Derived.Test.YtfmjmngkgmlghaaDoorA10
namespace Go.Proofs.YtfmjmngkgmlghaaDoor
open Go Go.RowKit Go.Proofs
set_option linter.unusedSimpArgs false
set_option linter.unusedVariables false
section
variable {P : Program} {e : Nat → AV} {mem : List Ob} {d : Option Tmp} {ty t t2 : TypeId} {pos : String} {af : Array Edge} {g : Option (Nat × Bool)} {x y z : Operand}

theorem r1_vals {θ : List Value} {pr : Nat → Prop} {w : World} {l : List AV} {xs : List Value} {v : Value} (h : R1 θ pr w (.agg l) v) (hl : l = xs.map AV.v) : v = .agg xs.toArray := by
  subst hl
  obtain ⟨ys, rfl, h1, h2⟩ := h.getAgg
  congr 2
  apply List.ext_getElem (by simpa using h1)
  intro j a1 a2
  exact (h2 j (.v xs[j]) ys[j] (by simp [a2]) (by simp [a1])).val
/-- Two structs compared. -/
theorem ro_aeql {l m : List AV} {xs ys : List Value} {b : Bool} (hx : evA e x = .agg l) (hy : evA e y = .agg m) (hl : l = xs.map AV.v ∧ m = ys.map AV.v ∧ ∀ w, (do eqGuard .eql t x y (.agg xs.toArray) (.agg ys.toArray); binOp .eql t (.agg xs.toArray) (.agg ys.toArray) : Sem Value).run P w = .ok (.bool b) w) : OpRO P ⟨d, .binOp .eql t x y t2, ty, pos, af, g⟩ e mem (.v (.bool b)) := by
  intro pb w0 θ w ev hs h
  have h1 := h x (by simp [Op.operands])
  have h2 := h y (by simp [Op.operands])
  rw [hx] at h1; rw [hy] at h2
  rw [ex_binOp (r1_vals h1 hl.1) (r1_vals h2 hl.2.1), Sem.run_bind, hl.2.2]
  exact ⟨.ro (.v _), Ext.refl w⟩
end
/-- Lengths, in one. -/
theorem lnS : (∀ {α β : Type} (f : α → β) (l : List α), (l.map f).length = l.length) ∧ (∀ {α : Type} (l : List α) (i : Nat) (a : α), (l.set i a).length = l.length) ∧ (∀ {α : Type} (l m : List α), (l ++ m).length = l.length + m.length) ∧ (∀ {α : Type} (n : Nat) (a : α), (List.replicate n a).length = n) ∧
    (∀ {α : Type} (a : α) (l : List α), (a :: l).length = l.length + 1) ∧ (∀ {α : Type}, ([] : List α).length = 0) ∧ (∀ {α : Type} (n : Nat) (l : List α), (l.drop n).length = l.length - n) ∧ (∀ {α : Type} (n : Nat) (l : List α), (l.take n).length = min n l.length) ∧ (∀ {α : Type} (l : List α), l.reverse.length = l.length) :=
  ⟨fun f l => List.length_map f, fun _ _ _ => List.length_set .., fun _ _ => List.length_append, fun _ _ => List.length_replicate, fun _ _ => rfl, rfl, fun _ _ => List.length_drop, fun _ _ => List.length_take, fun _ => List.length_reverse⟩
theorem qS : (∀ {α : Type} (a : α) (l : List α), (a :: l).length = l.length + 1) ∧ (∀ {α : Type}, ([] : List α).length = 0) ∧ (∀ n : Nat, 0 + n = n) ∧ (∀ {α : Type} (a : α) (n : Nat) (l : List α), (a :: l).take (n + 1) = a :: l.take n) ∧ (∀ {α : Type} (l : List α), l.take 0 = []) ∧ (∀ {α : Type} (n : Nat), ([] : List α).take n = []) ∧
    (∀ {α : Type} (a : α) (n : Nat) (l : List α), (a :: l).drop (n + 1) = l.drop n) ∧ (∀ {α : Type} (l : List α), l.drop 0 = l) ∧ (∀ {α : Type} (n : Nat), ([] : List α).drop n = []) ∧ (∀ {α : Type} (a : α) (l m : List α), a :: l ++ m = a :: (l ++ m)) ∧ (∀ {α : Type} (l : List α), [] ++ l = l) ∧ (∀ {α : Type} (l : List α), l ++ [] = l) ∧
    (∀ {α : Type} (a b : α) (l : List α), (a :: l).headD b = a) ∧ (∀ {α : Type} (a b : α) (l : List α), (a :: l).set 0 b = b :: l) ∧ (∀ {α : Type} (a b : α) (n : Nat) (l : List α), (a :: l).set (n + 1) b = a :: l.set n b) :=
  ⟨fun _ _ => rfl, rfl, Nat.zero_add, fun _ _ _ => rfl, fun _ => rfl, fun _ => List.take_nil, fun _ _ _ => rfl, fun _ => rfl, fun _ => List.drop_nil, fun _ _ _ => rfl, fun _ => rfl, List.append_nil, fun _ _ _ => rfl, fun _ _ _ => rfl, fun _ _ _ _ => rfl⟩
theorem pS : (∀ (n : Nat) (l : List AV), packA true n l = .agg (l.take n)) ∧ (∀ (n : Nat) (l : List AV), packA false n l = l.headD .any) ∧ (∀ n : Int, iE n = [.v (.int .i64 n)]) ∧ (∀ n : UInt8, bE n = [.v (.int .u8 n.toNat)]) ∧
    (∀ {α : Type} (cells : List α) (off : Nat) (l : List α), setAt cells off l = cells.take off ++ l ++ cells.drop (off + l.length)) ∧ (∀ (x : Value) (l : List Value), (x :: l).map AV.v = AV.v x :: l.map AV.v) ∧ (([] : List Value).map AV.v = []) ∧
    (∀ cs : Array Value, cellsA (.v (.agg cs)) = some (cs.toList.map .v)) ∧ (∀ l, cellsA (.agg l) = some l) ∧ (∀ k n, cellsA (.v (.int k n)) = some [.v (.int k n)]) ∧ (∀ b, cellsA (.v (.bool b)) = some [.v (.bool b)]) ∧ (∀ b, cellsA (.v (.string b)) = some [.v (.string b)]) ∧
    (∀ a n c, cellsA (.v (.slice a n c)) = some [.v (.slice a n c)]) ∧ (∀ a, cellsA (.v (.pointer a)) = some [.v (.pointer a)]) ∧ (∀ k l, cellsA (.row k l) = some [.row k l]) ∧ (∀ l, cellsA (.ref l) = some [.ref l]) ∧ (∀ j, cellsA (.own j) = some [.own j]) ∧ (∀ j o, cellsA (.ptr j o) = some [.ptr j o]) ∧ (∀ f l m, cellsA (.clo f l m) = some [.clo f l m]) ∧
    (∀ {α : Type} (a : α) (l : List α), (a :: l).length = l.length + 1) ∧ (∀ {α : Type}, ([] : List α).length = 0) ∧ (∀ n : Nat, 0 + n = n) ∧ (∀ {α : Type} (a : α) (n : Nat) (l : List α), (a :: l).take (n + 1) = a :: l.take n) ∧ (∀ {α : Type} (l : List α), l.take 0 = []) ∧ (∀ {α : Type} (n : Nat), ([] : List α).take n = []) ∧
    (∀ {α : Type} (a : α) (n : Nat) (l : List α), (a :: l).drop (n + 1) = l.drop n) ∧ (∀ {α : Type} (l : List α), l.drop 0 = l) ∧ (∀ {α : Type} (n : Nat), ([] : List α).drop n = []) ∧ (∀ {α : Type} (a : α) (l m : List α), a :: l ++ m = a :: (l ++ m)) ∧ (∀ {α : Type} (l : List α), [] ++ l = l) ∧ (∀ {α : Type} (l : List α), l ++ [] = l) ∧
    (∀ {α : Type} (a b : α) (l : List α), (a :: l).headD b = a) ∧ (∀ {α : Type} (a b : α) (l : List α), (a :: l).set 0 b = b :: l) ∧ (∀ {α : Type} (a b : α) (n : Nat) (l : List α), (a :: l).set (n + 1) b = a :: l.set n b) :=
  ⟨fun _ _ => rfl, fun _ _ => rfl, fun _ => rfl, fun _ => rfl, fun _ _ _ => rfl, fun _ _ => rfl, rfl, fun _ => rfl, fun _ => rfl, fun _ _ => rfl, fun _ => rfl, fun _ => rfl, fun _ _ _ => rfl, fun _ => rfl, fun _ _ => rfl, fun _ => rfl, fun _ => rfl, fun _ _ => rfl, fun _ _ _ => rfl, qS⟩
end Go.Proofs.YtfmjmngkgmlghaaDoor
