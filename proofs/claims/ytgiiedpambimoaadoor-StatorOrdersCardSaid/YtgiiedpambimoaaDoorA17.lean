/- The abstract machine: arrays compared; parts of elements. No conditions on a program. -/
import Derived.Test.YtgiiedpambimoaaDoorA16
namespace Go.Proofs.YtgiiedpambimoaaDoor
open Go Go.RowKit Go.Proofs
set_option linter.unusedVariables false
set_option linter.unusedSimpArgs false
section
variable {P : Program}
def pkV (row : Bool) (l : List Value) : Value := if row then .agg l.toArray else l.headD undef
theorem all_mapV {α β : Type} {f : α → List β} {k : Nat} (h : ∀ a, (f a).length = k) {xs : List α} : ∀ l ∈ xs.map f, l.length = k := fun l hl => by
  obtain ⟨q, _, rfl⟩ := List.mem_map.1 hl; exact h q
theorem run_part_el {eT k : Nat} {row : Bool} (ht : TyIs P eT row k) (h1 : row = true ∨ k = 1) {α : Type} {f : α → List Value} (hf : ∀ a, (f a).length = k) {xs : List α} {i : Nat} {a : α} (ha : xs[i]? = some a) (w : World) :
    (part eT (xs.map f).flatten.toArray (i * k)).run P w = .ok (pkV row (f a)) w := by
  have hel : (xs.map f)[i]? = some (f a) := by simp [ha]
  unfold part
  simp only [Sem.run_bind, ht.agg, Result.andThen_ok]
  cases row with
  | true =>
    simp only [if_true, Sem.run_bind, ht.sizeOf, Result.andThen_ok, Sem.run_pure, pkV]
    rw [List.extract_toArray, List.extract_eq_take_drop, Nat.add_sub_cancel_left, drop_el (all_mapV hf) hel]
  | false =>
    have hk1 : k = 1 := h1.resolve_left (by simp)
    subst hk1
    have h2 := flat_get (j := 0) (all_mapV hf) hel (by omega)
    rw [Nat.add_zero] at h2
    have h3 := hf a
    cases hq : f a with
    | nil => rw [hq] at h3; cases h3
    | cons v l =>
      rw [hq] at h2
      simp only [List.getElem?_cons_zero] at h2
      simp only [Bool.false_eq_true, if_false, List.getElem?_toArray, h2, Sem.run_pure, pkV, List.headD_cons]
theorem eqv_arr {α : Type} [DecidableEq α] {T eT len k h : Nat} {row : Bool} {f : α → List Value} (ht : ArTy P T len eT row k) (h1 : (row || k == 1) = true) (hf : ∀ a, (f a).length = k) (he : ∀ a b, EqV P h eT (pkV row (f a)) (pkV row (f b)) (decide (a = b)))
    {xs ys : List α} (hx : xs.length = len) (hy : ys.length = len) : EqV P (h + 1) T (.agg (xs.map f).flatten.toArray) (.agg (ys.map f).flatten.toArray) (decide (xs = ys)) := by
  have h1 : row = true ∨ k = 1 := by simpa using h1
  intro d w
  rw [show d + (h + 1) = (d + h) + 1 by omega, Op.equalIn]
  simp only [Sem.run_bind, run_underlying ht.1, Result.andThen_ok, ht.2.sizeOf]
  simp only [Std.Legacy.Range.forIn_eq_forIn_range', Std.Legacy.Range.size, Nat.sub_zero, Nat.add_sub_cancel, Nat.div_one]
  have key : ∀ (m i : Nat), i + m = len → (do
      for i in List.range' i m do
        if !(← Op.equalIn (d + h) eT (← part eT (xs.map f).flatten.toArray (i * k)) (← part eT (ys.map f).flatten.toArray (i * k))) then return false
      pure true : Sem Bool).run P w = .ok (decide (xs.drop i = ys.drop i)) w := by
    intro m
    induction m with
    | zero =>
      intro i hi
      rw [List.drop_eq_nil_of_le (by omega), List.drop_eq_nil_of_le (by omega)]
      rfl
    | succ m ih =>
      intro i hi
      have hxi : i < xs.length := by omega
      have hyi : i < ys.length := by omega
      have ih' := ih (i + 1) (by omega)
      rw [List.range'_succ, List.drop_eq_getElem_cons hxi, List.drop_eq_getElem_cons hyi]
      simp only [List.forIn_cons, Sem.run_bind, run_part_el ht.2 h1 hf (List.getElem?_eq_getElem hxi), run_part_el ht.2 h1 hf (List.getElem?_eq_getElem hyi), he xs[i] ys[i] d w, Result.andThen_ok]
      rw [show decide (xs[i] :: xs.drop (i + 1) = ys[i] :: ys.drop (i + 1)) = (decide (xs[i] = ys[i]) && decide (xs.drop (i + 1) = ys.drop (i + 1))) by rw [Bool.eq_iff_iff]; simp only [Bool.and_eq_true, decide_eq_true_eq, List.cons.injEq]]
      generalize decide (xs.drop (i + 1) = ys.drop (i + 1)) = bt at ih' ⊢
      by_cases hq : xs[i] = ys[i]
      · simp [Sem.run_bind, Sem.run_pure, hq]
        simp [Sem.run_bind, Sem.run_pure] at ih'
        exact ih'
      · simp [Sem.run_bind, Sem.run_pure, hq]
  have := key len 0 (by omega)
  simp only [List.drop_zero, Sem.run_bind] at this
  exact this
end
def iV (n : Int) : List Value := [.int .i64 n]
def tV (v : Int × Int) : List Value := [.int .i64 v.1, .int .i64 v.2]
theorem flat_mapV {α : Type} {f : α → List AV} {g : α → List Value} (h : ∀ a, f a = (g a).map AV.v) : ∀ xs : List α, (xs.map f).flatten = ((xs.map g).flatten).map AV.v
  | [] => rfl
  | a :: xs => by simp only [List.map_cons, List.flatten_cons, List.map_append, h, flat_mapV h xs]
section
variable {P : Program} {e : Nat → AV} {mem : List Ob} {d : Option Tmp} {ty t t2 : TypeId} {pos : String} {af : Array Edge} {g : Option (Nat × Bool)} {x y : Operand}
theorem ro_arreq {α : Type} [DecidableEq α] {eT len k h : Nat} {row : Bool} {f : α → List AV} {gv : α → List Value} (hfg : ∀ a, f a = (gv a).map AV.v) {xs ys : List α} (ht : ArTy P t len eT row k) (h1 : (row || k == 1) = true) (hf : ∀ a, (gv a).length = k) (he : ∀ a b, EqV P h eT (pkV row (gv a)) (pkV row (gv b)) (decide (a = b))) (hg : P.eqGuardType P.depth t = false) (hh : h + 1 ≤ Op.maxDepth)
    (hx : evA e x = .agg (xs.map f).flatten) (hy : evA e y = .agg (ys.map f).flatten) (hlx : xs.length = len) (hly : ys.length = len) : OpRO P ⟨d, .binOp .eql t x y t2, ty, pos, af, g⟩ e mem (.v (.bool (decide (xs = ys)))) :=
  ro_sqeql (h := h + 1) hx hy (flat_mapV hfg xs) (flat_mapV hfg ys) hg (eqv_arr ht h1 hf he hlx hly) hh
theorem ro_arrne {α : Type} [DecidableEq α] {eT len k h : Nat} {row : Bool} {f : α → List AV} {gv : α → List Value} (hfg : ∀ a, f a = (gv a).map AV.v) {xs ys : List α} (ht : ArTy P t len eT row k) (h1 : (row || k == 1) = true) (hf : ∀ a, (gv a).length = k) (he : ∀ a b, EqV P h eT (pkV row (gv a)) (pkV row (gv b)) (decide (a = b))) (hg : P.eqGuardType P.depth t = false) (hh : h + 1 ≤ Op.maxDepth)
    (hx : evA e x = .agg (xs.map f).flatten) (hy : evA e y = .agg (ys.map f).flatten) (hlx : xs.length = len) (hly : ys.length = len) : OpRO P ⟨d, .binOp .neq t x y t2, ty, pos, af, g⟩ e mem (.v (.bool (!decide (xs = ys)))) :=
  ro_sqneq (h := h + 1) hx hy (flat_mapV hfg xs) (flat_mapV hfg ys) hg (eqv_arr ht h1 hf he hlx hly) hh
/-- A part of an element of an array in a variable of one's own. -/
theorem ro_ld_aelf {j i o n k : Nat} {row : Bool} {T : TypeId} {cells el : List AV} {els : List (List AV)} (ht : TyIs P t row n) (h1 : (row || n == 1) = true) (hm : mem[j]? = some (.box T cells)) (hx : evA e x = .ptr j (0 + i * k + o)) (hl : cells = els.flatten) (hk : ∀ l ∈ els, l.length = k) (hn : o + n ≤ k) (hel : els[i]? = some el) :
    OpRO P ⟨d, .load t x, ty, pos, af, g⟩ e mem (packA row n (el.drop o)) := by
  have h1' : row = true ∨ n = 1 := by simpa using h1
  have hi2 := (List.getElem?_eq_some_iff.1 hel).1
  have hle : i * k + k ≤ cells.length := by rw [hl, flatten_length hk, ← Nat.succ_mul]; exact Nat.mul_le_mul_right k hi2
  rw [Nat.zero_add] at hx
  have h2 := ro_load_ptr (d := d) (ty := ty) (pos := pos) (af := af) (g := g) hx hm ht (by omega) h1'
  have h3 : packA row n (cells.drop (i * k + o)) = packA row n (el.drop o) := by
    have h4 : ((cells.drop (i * k + o)).take n) = (el.drop o).take n := by
      have := drop_el hk hel
      rw [hl, ← List.drop_drop, ← this, List.drop_take, List.take_take, Nat.min_eq_left (by omega)]
    cases row with
    | true => rw [packA_t, packA_t, h4]
    | false =>
      have hn1 : n = 1 := h1'.resolve_left (by simp)
      subst hn1
      rw [packA_f, packA_f]
      generalize cells.drop (i * k + o) = A at h4
      generalize el.drop o = B at h4
      cases A <;> cases B <;> simp_all
  rwa [h3] at h2
end
end Go.Proofs.YtgiiedpambimoaaDoor
