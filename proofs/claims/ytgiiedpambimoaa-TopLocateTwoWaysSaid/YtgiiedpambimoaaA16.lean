/- The abstract machine: variables of packages that are read alone; arrays with places that are told while it runs. No conditions on a program. -/
import Derived.Test.YtgiiedpambimoaaA15
namespace Go.Proofs.Ytgiiedpambimoaa
open Go Go.RowKit
set_option linter.unusedVariables false
set_option linter.unusedSimpArgs false
/-- What variables of packages hold. -/
def GlobR (pr : Nat → Prop) (w : World) (gs : List (Nat × List AV)) : Prop := ∀ x ∈ gs, R0 pr w (.ref x.2) (.pointer (some ⟨x.1, 0, none⟩))
/-- A function's contract that leans on variables of packages. -/
def FnOkG (P : Program) (gs : List (Nat × List AV)) (f : FuncId) (args : List AV) (ψ : AV → Prop) : Prop :=
  ∀ (pr : Nat → Prop) (w : World) (vs : List Value), vs.length = args.length → (∀ (i : Nat) (a : AV) (x : Value), args[i]? = some a → vs[i]? = some x → R0 pr w a x) → GlobR pr w gs →
    Calls P f vs.toArray w fun en w' => ∃ r v, en = .returned v ∧ ψ r ∧ R0 (fun b => pr b ∧ b < w.heap.size) w' r v ∧ Ext w w'
theorem FnOkG.mono {P : Program} {gs : List (Nat × List AV)} {f : FuncId} {args : List AV} {ψ ψ' : AV → Prop} (h : FnOkG P gs f args ψ) (hp : ∀ r, ψ r → ψ' r) : FnOkG P gs f args ψ' := fun pr w vs h1 h2 h3 =>
  (h pr w vs h1 h2 h3).mono fun _ _ ⟨r, v, h3, h4, h5⟩ => ⟨r, v, h3, hp r h4, h5⟩
theorem FnOkG.wide {P : Program} {gs gs' : List (Nat × List AV)} {f : FuncId} {args : List AV} {ψ : AV → Prop} (h : FnOkG P gs f args ψ) (hs : ∀ x ∈ gs, x ∈ gs') : FnOkG P gs' f args ψ := fun pr w vs h1 h2 h3 => h pr w vs h1 h2 fun x hx => h3 x (hs x hx)
section
variable {P : Program} {N : Nat} {Q : AQ} {e : Nat → AV} {mem : List Ob} {d : Option Tmp} {ty t t2 : TypeId} {pos : String} {af : Array Edge} {g : Option (Nat × Bool)} {x y z : Operand}
theorem SimM.glob {pb : Nat → Prop} {w0 : Bs} {w : World} {θ : List Value} (hs : SimM pb w0 w θ mem) {j : Nat} {gs : List (Nat × List AV)} (hm : mem[j]? = some (.glob gs)) : GlobR (Prot pb θ mem) w gs := by
  have hj : j < θ.length := by rw [hs.len]; exact (List.getElem?_eq_some_iff.1 hm).1
  exact (hs.ob j _ _ hm (List.getElem?_eq_getElem hj)).2
/-! ### Arrays -/
/-- An array's type: how many elements, of which type, of how many cells each. -/
def ArTy (P : Program) (t len eT : Nat) (row : Bool) (k : Nat) : Prop := P.underlying t = some (.array len eT) ∧ TyIs P eT row k
theorem drop_el {α : Type} {k : Nat} {els : List (List α)} {i : Nat} {el : List α} (hk : ∀ l ∈ els, l.length = k) (hel : els[i]? = some el) : (els.flatten.drop (i * k)).take k = el := by
  have hl := hk el (List.mem_of_getElem? hel)
  apply List.ext_getElem?
  intro q
  by_cases hq : q < k
  · rw [List.getElem?_take_of_lt hq, List.getElem?_drop, flat_get hk hel hq]
  · rw [List.getElem?_eq_none (by simp; omega), List.getElem?_eq_none (by omega)]
theorem packA_el {row : Bool} {k : Nat} {els : List (List AV)} {i : Nat} {el : List AV} (hk : ∀ l ∈ els, l.length = k) (hel : els[i]? = some el) (h1 : row = true ∨ k = 1) : packA row k (els.flatten.drop (i * k)) = packA row k el := by
  have hl := hk el (List.mem_of_getElem? hel)
  have hd := drop_el hk hel
  cases row with
  | true => rw [packA_t, packA_t, hd, List.take_of_length_le (by omega)]
  | false =>
    have hk1 : k = 1 := h1.resolve_left (by simp)
    subst hk1
    rw [packA_f, packA_f, ← hd]
    cases List.drop (i * 1) els.flatten <;> rfl
/-- An element of an array that is a value. -/
theorem ro_aidx {len eT k : Nat} {row : Bool} {l el : List AV} {els : List (List AV)} {i : Int} {kk : IntKind} (ht : ArTy P t len eT row k) (h1 : (row || k == 1) = true) (hx : evA e x = .agg l) (hy : evA e y = .v (.int kk i)) (hl : l = els.flatten) (hk : ∀ l ∈ els, l.length = k) (h0 : 0 ≤ i) (hi : i < len) (hel : els[i.toNat]? = some el) :
    OpRO P ⟨d, .index t x y, ty, pos, af, g⟩ e mem (packA row k el) := by
  have h1 : row = true ∨ k = 1 := by simpa using h1
  rw [← packA_el hk hel h1, ← hl]
  have hle : i.toNat * k + k ≤ l.length := by
    have hi2 := (List.getElem?_eq_some_iff.1 hel).1
    rw [hl, flatten_length hk, ← Nat.succ_mul]; exact Nat.mul_le_mul_right k hi2
  intro pb w0 θ w ev hs h
  have h1' := h x (by simp [Op.operands])
  have h2' := h y (by simp [Op.operands])
  rw [hx] at h1'; rw [hy] at h2'
  obtain ⟨xs, h2, h3, h4⟩ := h1'.getAgg
  rw [ex_index h2 h2'.val, Sem.run_bind]
  unfold Instr.index
  simp only [asIntOf, Sem.run_bind, Sem.run_pure, Result.andThen_ok, run_underlying ht.1, h0, hi, and_self, if_true, part, ht.2.agg, ht.2.sizeOf]
  cases row with
  | true =>
    simp only [if_true, Sem.run_bind, ht.2.sizeOf, Result.andThen_ok, Sem.run_pure]
    refine ⟨?_, Ext.refl w⟩
    have : (xs.toArray.extract (i.toNat * k) (i.toNat * k + k)) = ((xs.drop (i.toNat * k)).take k).toArray := by simp [List.extract_toArray, List.extract_eq_take_drop]
    rw [this]
    refine .agg _ _ (by simp; omega) fun j a x ha hx => ?_
    have hj : j < k := by have := (List.getElem?_eq_some_iff.1 ha).1; simp at this; omega
    rw [List.getElem?_take_of_lt hj, List.getElem?_drop] at ha hx
    exact h4 _ a x ha hx
  | false =>
    have hn1 : k = 1 := h1.resolve_left (by simp)
    subst hn1
    have hlt : i.toNat * 1 < xs.length := by omega
    simp only [Bool.false_eq_true, if_false, List.getElem?_toArray, List.getElem?_eq_getElem hlt, Sem.run_pure, Result.andThen_ok]
    refine ⟨?_, Ext.refl w⟩
    have hll : i.toNat * 1 < l.length := by omega
    have : packA false 1 (l.drop (i.toNat * 1)) = l[i.toNat * 1] := by
      unfold packA
      simp only [Bool.false_eq_true, if_false, List.headD_eq_head?_getD, List.head?_drop, List.getElem?_eq_getElem hll, Option.getD_some]
    rw [this]
    exact h4 _ _ _ (List.getElem?_eq_getElem hll) (List.getElem?_eq_getElem hlt)
/-- An element of an array that lies in a variable of one's own. -/
theorem ro_ld_ael {j i n k : Nat} {row : Bool} {T : TypeId} {cells el : List AV} {els : List (List AV)} (ht : TyIs P t row n) (h1 : (row || n == 1) = true) (hm : mem[j]? = some (.box T cells)) (hx : evA e x = .ptr j (0 + i * k)) (hl : cells = els.flatten) (hk : ∀ l ∈ els, l.length = k) (hn : n = k) (hel : els[i]? = some el) :
    OpRO P ⟨d, .load t x, ty, pos, af, g⟩ e mem (packA row n el) := by
  subst hn
  have h1 : row = true ∨ n = 1 := by simpa using h1
  rw [← packA_el hk hel h1, ← hl]
  rw [Nat.zero_add] at hx
  refine ro_load_ptr hx hm ht ?_ h1
  have hi2 := (List.getElem?_eq_some_iff.1 hel).1
  rw [hl, flatten_length hk, ← Nat.succ_mul]; exact Nat.mul_le_mul_right n hi2
theorem st_store_ael {j i n k : Nat} {T : TypeId} {cells l : List AV} {els : List (List AV)} {a : AV} (hx : evA e x = .ptr j (0 + i * k)) (hy : evA e y = a) (hc : cellsA a = some l) (hone : l.all oneA = true) (hm : mem[j]? = some (.box T cells)) (hcl : cells = els.flatten) (hk : ∀ l ∈ els, l.length = k) (hsz : (P.info? t).map (·.size) = some n) (hn : l.length = n) (hnk : n = k) (hi : i < els.length) :
    OpST P ⟨d, .store t x y, ty, pos, af, g⟩ e mem (.v undef) (mem.set j (.box T (els.set i l).flatten)) := by
  subst hnk
  have hle : i * n + n ≤ cells.length := by rw [hcl, flatten_length hk, ← Nat.succ_mul]; exact Nat.mul_le_mul_right n hi
  have e1 : (els.set i l).flatten = setAt cells (0 + i * n) l := by
    rw [flatten_set hk hn hi, hcl, Nat.zero_add]; unfold setAt; rw [hn]
  rw [e1]
  exact st_store hx hy hc hone hm hsz hn (by omega)
/-- A variable of one's own given up: it is read alone from here on. -/
theorem aw_freeze {M : Mode} {c : Code} {s j : Nat} {T : TypeId} {cells : List AV} (hs : evA e (.tmp s) = .ptr j 0) (hm : mem[j]? = some (.box T cells)) (hro : roO.roL cells = true) (h : ∀ m1 e1, m1 = mem.set j .gone → e1 = upA e (some s) (.ref cells) → AW M P N c Q e1 m1) : AW M P N c Q e mem := by
  refine aw_turn (fun pb w0 θ w hsim => ⟨θ, Step.drop hsim j, fun t x hr => ?_⟩) (h _ _ rfl rfl)
  by_cases ht : t = s
  · subst ht
    rw [show e t = .ptr j 0 from hs] at hr
    simp only [upA, if_true]
    obtain ⟨b, y, hθ, hbase, rfl⟩ := hr.getPtr
    obtain ⟨b', xs, h1, rfl, h2, h3, h4⟩ := hsim.ob j _ y hm hθ
    cases hbase
    refine .ro (.ref cells b' 0 (fun i => xs.getD i undef) (Array.getElem?_eq_some_iff.1 h2).1 (Prot.dropped hsim hm (by simp) hθ rfl) (fun i a ha => ?_) fun i a ha => ?_)
    · have hi : i < xs.length := by rw [h3]; exact (List.getElem?_eq_some_iff.1 ha).1
      rw [Nat.zero_add, cell_of_row w b' i xs.toArray T (0, 0) h2]
      simp [hi, List.getD_eq_getElem?_getD]
    · have hi : i < xs.length := by rw [h3]; exact (List.getElem?_eq_some_iff.1 ha).1
      have := h4 i a (xs.getD i undef) ha (by simp [hi, List.getD_eq_getElem?_getD])
      exact ((Step.drop hsim j).keep _ _ this).ro0 (roL_get hro ha)
  · simp only [upA, if_neg ht]
    exact (Step.drop hsim j).keep _ _ hr
theorem ro_ixaD {j off len k : Nat} {i : Int} {kk : IntKind} (ht : ArIs P t len k) (hx : evA e x = .ptr j off) (hy : evA e y = .v (.int kk i)) (h0 : 0 ≤ i) (h1 : i < len) :
    OpRO P ⟨d, .indexAddr t x y, ty, pos, af, g⟩ e mem (.ptr j (off + i.toNat * k)) := ro_ixa ht hx hy (by simp; omega)
theorem ro_ld_all {j n : Nat} {T : TypeId} {cells : List AV} (ht : TyIs P t true n) (hm : mem[j]? = some (.box T cells)) (hx : evA e x = .ptr j 0) (hn : cells.length = n) : OpRO P ⟨d, .load t x, ty, pos, af, g⟩ e mem (.agg cells) := by
  have := ro_load_ptr (d := d) (ty := ty) (pos := pos) (af := af) (g := g) hx hm ht (by omega) (.inl rfl)
  rwa [List.drop_zero, packA_t, List.take_of_length_le (by omega)] at this
end
theorem all_map {α : Type} {f : α → List AV} {k : Nat} (h : ∀ a, (f a).length = k) {xs : List α} : ∀ l ∈ xs.map f, l.length = k := fun l hl => by
  obtain ⟨q, _, rfl⟩ := List.mem_map.1 hl; exact h q
theorem flat_map_len {α : Type} {f : α → List AV} {k : Nat} (h : ∀ a, (f a).length = k) (xs : List α) : (xs.map f).flatten.length = xs.length * k := by
  rw [flatten_length (all_map h), List.length_map]
theorem roL_app : ∀ {l m : List AV}, roO.roL l = true → roO.roL m = true → roO.roL (l ++ m) = true
  | [], _, _, h => h
  | a :: l, m, h, h2 => by
    simp only [List.cons_append, roO.roL, Bool.and_eq_true] at h ⊢; exact ⟨h.1, roL_app h.2 h2⟩
theorem roL_flat {α : Type} {f : α → List AV} (h : ∀ a, roO.roL (f a) = true) : ∀ xs : List α, roO.roL (xs.map f).flatten = true
  | [] => rfl
  | a :: xs => by rw [List.map_cons, List.flatten_cons]; exact roL_app (h a) (roL_flat h xs)
theorem roL_take : ∀ {l : List AV} {n : Nat}, roO.roL l = true → roO.roL (l.take n) = true
  | [], n, _ => by simp [roO.roL]
  | a :: l, 0, _ => rfl
  | a :: l, n + 1, h => by
    simp only [roO.roL, Bool.and_eq_true] at h
    simp only [List.take_succ_cons, roO.roL, Bool.and_eq_true]; exact ⟨h.1, roL_take h.2⟩
theorem ro_aggF {α : Type} {f : α → List AV} (h : ∀ a, roO.roL (f a) = true) (xs : List α) (n : Nat) : roO (.agg ((xs.map f).flatten.take n)) = true := roL_take (roL_flat h xs)
theorem oneL_flat {α : Type} {f : α → List AV} (h : ∀ a, (f a).all oneA = true) : ∀ xs : List α, (xs.map f).flatten.all oneA = true
  | [] => rfl
  | a :: xs => by rw [List.map_cons, List.flatten_cons, List.all_append, h a, oneL_flat h xs]; rfl
theorem take_flat_all {α : Type} {f : α → List AV} {k n : Nat} (h : ∀ a, (f a).length = k) {xs : List α} (hn : xs.length * k ≤ n) : (xs.map f).flatten.take n = (xs.map f).flatten := List.take_of_length_le (by rw [flat_map_len h]; exact hn)
theorem setAt_all {cells l : List AV} (h : l.length = cells.length) : setAt cells 0 l = l := by
  unfold setAt; simp; omega
theorem st_store_all {P : Program} {e : Nat → AV} {mem : List Ob} {d : Option Tmp} {ty t : TypeId} {pos : String} {af : Array Edge} {g : Option (Nat × Bool)} {x y : Operand} {j n : Nat} {T : TypeId} {cells l : List AV} {a : AV} (hx : evA e x = .ptr j 0) (hy : evA e y = a) (hc : cellsA a = some l) (hone : l.all oneA = true) (hm : mem[j]? = some (.box T cells)) (hsz : (P.info? t).map (·.size) = some n) (hn : l.length = n) (hcl : cells.length = n) :
    OpST P ⟨d, .store t x y, ty, pos, af, g⟩ e mem (.v undef) (mem.set j (.box T l)) := by
  have := st_store (P := P) (d := d) (ty := ty) (pos := pos) (af := af) (g := g) hx hy hc hone hm hsz hn (by omega)
  rwa [setAt_all (by omega)] at this
/-- Arguments that stand for less. -/
theorem FnOk.sub {P : Program} {f : FuncId} {args args' : List AV} {ψ : AV → Prop} (hc : FnOk P f args ψ) (hl : args'.length = args.length) (h : ∀ (pr : Nat → Prop) (w : World) (i : Nat) (a : AV) (x : Value), args[i]? = some a → ∃ a', args'[i]? = some a' ∧ (R0 pr w a' x → R0 pr w a x)) : FnOk P f args' ψ :=
  fun pr w vs h1 h2 => hc pr w vs (by omega) fun i a x ha hx => by
    obtain ⟨a', h3, h4⟩ := h pr w i a x ha
    exact h4 (h2 i a' x h3 hx)
end Go.Proofs.Ytgiiedpambimoaa
