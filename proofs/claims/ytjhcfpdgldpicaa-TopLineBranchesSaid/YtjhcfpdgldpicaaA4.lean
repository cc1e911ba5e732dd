/- Lemmas for the statement. -/
import Derived.Test.YtjhcfpdgldpicaaA2
namespace Go.Proofs.Ytjhcfpdgldpicaa
open Go Go.RowKit
set_option linter.unusedVariables false
set_option linter.unusedSimpArgs false
section
variable {P : Program} {e : Nat → AV} {mem : List Ob} {d : Option Tmp} {ty t t2 : TypeId} {pos : String} {af : Array Edge} {g : Option (Nat × Bool)} {x y z : Operand}
theorem ro_pure {o : Oper} (c : Value) (h : ∀ ev : Nat → Value, (∀ x ∈ o.op.operands, ∀ v, evA e x = .v v → evE ev x = v) → ∀ w, (execOp (evE ev) o).run P w = .ok (.value c) w) : OpRO P o e mem (.v c) := by
 intro pb w0 θ w ev hs hx
 rw [h ev (fun x hm v hv => by have := hx x hm; rw [hv] at this; exact this.val) w]
 exact ⟨.ro (.v c), Ext.refl w⟩
theorem ro_move {r : AV} (hx : evA e x = r) : OpRO P ⟨d, .move x, ty, pos, af, g⟩ e mem r := by
 intro pb w0 θ w ev hs h
 have := h x (by simp [Op.operands])
 rw [hx] at this
 exact ⟨this, Ext.refl w⟩
theorem ro_assign {r : AV} (hx : evA e x = r) : OpRO P ⟨d, .assign x, ty, pos, af, g⟩ e mem r := by
 intro pb w0 θ w ev hs h
 have := h x (by simp [Op.operands])
 rw [hx] at this
 exact ⟨this, Ext.refl w⟩
theorem ro_pickT {r : AV} (hx : evA e x = .v (.bool true)) (hy : evA e y = r) : OpRO P ⟨d, .pick x y z, ty, pos, af, g⟩ e mem r := by
 intro pb w0 θ w ev hs h
 have h1 := h x (by simp [Op.operands])
 have h2 := h y (by simp [Op.operands])
 rw [hx] at h1; rw [hy] at h2
 rw [ex_pickT (d := d) (z := z) h1.val rfl]
 exact ⟨h2, Ext.refl w⟩
theorem ro_pickF {r : AV} (hx : evA e x = .v (.bool false)) (hz : evA e z = r) : OpRO P ⟨d, .pick x y z, ty, pos, af, g⟩ e mem r := by
 intro pb w0 θ w ev hs h
 have h1 := h x (by simp [Op.operands])
 have h2 := h z (by simp [Op.operands])
 rw [hx] at h1; rw [hz] at h2
 rw [ex_pickF (d := d) (y := y) h1.val rfl]
 exact ⟨h2, Ext.refl w⟩
theorem ro_bin {op : BinOp} {a b c : Value} (hx : evA e x = .v a) (hy : evA e y = .v b) (h : ∀ w, (do eqGuard op t x y a b; binOp op t a b : Sem Value).run P w = .ok c w) : OpRO P ⟨d, .binOp op t x y t2, ty, pos, af, g⟩ e mem (.v c) :=
 ro_pure c fun ev he w => by
  rw [ex_binOp (he x (by simp [Op.operands]) a hx) (he y (by simp [Op.operands]) b hy), Sem.run_bind, h w]; rfl
section
variable {k : IntKind} {m n : Int}
theorem guard_int {op : BinOp} {k k' : IntKind} {m n : Int} (w : World) : (eqGuard op t x y (.int k m) (.int k' n)).run P w = .ok () w := by
 unfold eqGuard; split <;> rfl
theorem ro_int {op : BinOp} {c : Value} (hx : evA e x = .v (.int k m)) (hy : evA e y = .v (.int k n)) (h : ∀ w, (binOp op t (.int k m) (.int k n)).run P w = .ok c w) : OpRO P ⟨d, .binOp op t x y t2, ty, pos, af, g⟩ e mem (.v c) :=
 ro_bin hx hy fun w => by rw [Sem.run_bind, guard_int w]; exact h w
theorem bin_kk {op : BinOp} (hop : op ≠ .shl ∧ op ≠ .shr) (w : World) : (binOp op t (.int k m) (.int k n)).run P w = (match op with
 | .add | .sub | .mul => Op.intArith op k m n
 | .quo | .rem => Op.intDiv op k m n
 | .and | .or | .xor | .andNot => Op.intBits op k m n
 | _ => Op.intCmp op m n : Sem Value).run P w := by
 cases op <;> first | (exact absurd rfl hop.1) | (exact absurd rfl hop.2) | simp [binOp]
theorem ro_add (hx : evA e x = .v (.int k m)) (hy : evA e y = .v (.int k n)) : OpRO P ⟨d, .binOp .add t x y t2, ty, pos, af, g⟩ e mem (.v (.int k (k.wrap (m + n)))) :=
 ro_int hx hy fun w => by rw [bin_kk ⟨by decide, by decide⟩]; rfl
theorem ro_sub (hx : evA e x = .v (.int k m)) (hy : evA e y = .v (.int k n)) : OpRO P ⟨d, .binOp .sub t x y t2, ty, pos, af, g⟩ e mem (.v (.int k (k.wrap (m - n)))) :=
 ro_int hx hy fun w => by rw [bin_kk ⟨by decide, by decide⟩]; rfl
theorem ro_mul (hx : evA e x = .v (.int k m)) (hy : evA e y = .v (.int k n)) : OpRO P ⟨d, .binOp .mul t x y t2, ty, pos, af, g⟩ e mem (.v (.int k (k.wrap (m * n)))) :=
 ro_int hx hy fun w => by rw [bin_kk ⟨by decide, by decide⟩]; rfl
theorem ro_quo (hx : evA e x = .v (.int k m)) (hy : evA e y = .v (.int k n)) (h0 : n ≠ 0) : OpRO P ⟨d, .binOp .quo t x y t2, ty, pos, af, g⟩ e mem (.v (.int k (k.wrap (m.tdiv n)))) :=
 ro_int hx hy fun w => by rw [bin_kk ⟨by decide, by decide⟩]; simp only [Op.intDiv]; rw [if_neg h0]; rfl
theorem ro_rem (hx : evA e x = .v (.int k m)) (hy : evA e y = .v (.int k n)) (h0 : n ≠ 0) : OpRO P ⟨d, .binOp .rem t x y t2, ty, pos, af, g⟩ e mem (.v (.int k (m.tmod n))) :=
 ro_int hx hy fun w => by rw [bin_kk ⟨by decide, by decide⟩]; simp only [Op.intDiv]; rw [if_neg h0]; rfl
-- without a wrap
def In64 (n : Int) : Prop := -9223372036854775808 ≤ n ∧ n ≤ 9223372036854775807
theorem wrap_in {n : Int} (h : In64 n) : IntKind.i64.wrap n = n := by rw [wrap_eq]; unfold In64 at h; unfold wrap64; omega
theorem ro_add' (hx : evA e x = .v (.int .i64 m)) (hy : evA e y = .v (.int .i64 n)) (h : In64 (m + n)) : OpRO P ⟨d, .binOp .add t x y t2, ty, pos, af, g⟩ e mem (.v (.int .i64 (m + n))) := by
 have := ro_add (P := P) (mem := mem) (d := d) (ty := ty) (t := t) (t2 := t2) (pos := pos) (af := af) (g := g) hx hy; rwa [wrap_in h] at this
theorem ro_sub' (hx : evA e x = .v (.int .i64 m)) (hy : evA e y = .v (.int .i64 n)) (h : In64 (m - n)) : OpRO P ⟨d, .binOp .sub t x y t2, ty, pos, af, g⟩ e mem (.v (.int .i64 (m - n))) := by
 have := ro_sub (P := P) (mem := mem) (d := d) (ty := ty) (t := t) (t2 := t2) (pos := pos) (af := af) (g := g) hx hy; rwa [wrap_in h] at this
theorem ro_mul' (hx : evA e x = .v (.int .i64 m)) (hy : evA e y = .v (.int .i64 n)) (h : In64 (m * n)) : OpRO P ⟨d, .binOp .mul t x y t2, ty, pos, af, g⟩ e mem (.v (.int .i64 (m * n))) := by
 have := ro_mul (P := P) (mem := mem) (d := d) (ty := ty) (t := t) (t2 := t2) (pos := pos) (af := af) (g := g) hx hy; rwa [wrap_in h] at this
theorem ro_quo' (hx : evA e x = .v (.int .i64 m)) (hy : evA e y = .v (.int .i64 n)) (h0 : n ≠ 0) (h : In64 (m.tdiv n)) : OpRO P ⟨d, .binOp .quo t x y t2, ty, pos, af, g⟩ e mem (.v (.int .i64 (m.tdiv n))) := by
 have := ro_quo (P := P) (mem := mem) (d := d) (ty := ty) (t := t) (t2 := t2) (pos := pos) (af := af) (g := g) hx hy h0; rwa [wrap_in h] at this
theorem ro_lss (hx : evA e x = .v (.int k m)) (hy : evA e y = .v (.int k n)) : OpRO P ⟨d, .binOp .lss t x y t2, ty, pos, af, g⟩ e mem (.v (.bool (decide (m < n)))) :=
 ro_int hx hy fun w => by rw [bin_kk ⟨by decide, by decide⟩]; rfl
theorem ro_leq (hx : evA e x = .v (.int k m)) (hy : evA e y = .v (.int k n)) : OpRO P ⟨d, .binOp .leq t x y t2, ty, pos, af, g⟩ e mem (.v (.bool (decide (m ≤ n)))) :=
 ro_int hx hy fun w => by rw [bin_kk ⟨by decide, by decide⟩]; rfl
theorem ro_gtr (hx : evA e x = .v (.int k m)) (hy : evA e y = .v (.int k n)) : OpRO P ⟨d, .binOp .gtr t x y t2, ty, pos, af, g⟩ e mem (.v (.bool (decide (n < m)))) :=
 ro_int hx hy fun w => by rw [bin_kk ⟨by decide, by decide⟩]; rfl
theorem ro_geq (hx : evA e x = .v (.int k m)) (hy : evA e y = .v (.int k n)) : OpRO P ⟨d, .binOp .geq t x y t2, ty, pos, af, g⟩ e mem (.v (.bool (decide (n ≤ m)))) :=
 ro_int hx hy fun w => by rw [bin_kk ⟨by decide, by decide⟩]; rfl
theorem beq_dec (m n : Int) : (m == n) = decide (m = n) := by rw [Bool.eq_iff_iff]; simp
theorem ro_eql (hx : evA e x = .v (.int k m)) (hy : evA e y = .v (.int k n)) : OpRO P ⟨d, .binOp .eql t x y t2, ty, pos, af, g⟩ e mem (.v (.bool (decide (m = n)))) :=
 ro_int hx hy fun w => by rw [bin_kk ⟨by decide, by decide⟩]; simp [Op.intCmp, beq_dec]
theorem ro_neq (hx : evA e x = .v (.int k m)) (hy : evA e y = .v (.int k n)) : OpRO P ⟨d, .binOp .neq t x y t2, ty, pos, af, g⟩ e mem (.v (.bool (!decide (m = n)))) :=
 ro_int hx hy fun w => by rw [bin_kk ⟨by decide, by decide⟩]; simp [Op.intCmp, bne, beq_dec]
end
theorem ro_str {op : BinOp} {a b : ByteArray} {c : Value} (hx : evA e x = .v (.string a)) (hy : evA e y = .v (.string b)) (h : ∀ w, (Op.stringOp op a b).run P w = .ok c w) (hop : op ≠ .shl ∧ op ≠ .shr) : OpRO P ⟨d, .binOp op t x y t2, ty, pos, af, g⟩ e mem (.v c) :=
 ro_bin hx hy fun w => by
  rw [Sem.run_bind, show (eqGuard op t x y (.string a) (.string b)).run P w = .ok () w by unfold eqGuard; split <;> rfl]
  have : binOp op t (.string a) (.string b) = Op.stringOp op a b := by cases op <;> simp_all [binOp]
  show (binOp op t (.string a) (.string b)).run P w = _
  rw [this]; exact h w
theorem ro_seql {a b : ByteArray} (hx : evA e x = .v (.string a)) (hy : evA e y = .v (.string b)) : OpRO P ⟨d, .binOp .eql t x y t2, ty, pos, af, g⟩ e mem (.v (.bool (a.toList == b.toList))) :=
 ro_str hx hy (fun w => rfl) ⟨by decide, by decide⟩
theorem ro_sneq {a b : ByteArray} (hx : evA e x = .v (.string a)) (hy : evA e y = .v (.string b)) : OpRO P ⟨d, .binOp .neq t x y t2, ty, pos, af, g⟩ e mem (.v (.bool (!(a.toList == b.toList)))) :=
 ro_str hx hy (fun w => rfl) ⟨by decide, by decide⟩
theorem ro_un {op : UnOp} {a c : Value} (hx : evA e x = .v a) (h : ∀ w, (Op.unary op a).run P w = .ok c w) : OpRO P ⟨d, .unOp op t x, ty, pos, af, g⟩ e mem (.v c) :=
 ro_pure c fun ev he w => by rw [ex_unOp (he x (by simp [Op.operands]) a hx), Sem.run_bind, h w]; rfl
theorem ro_neg {m : Int} {k : IntKind} (hx : evA e x = .v (.int k m)) : OpRO P ⟨d, .unOp .neg t x, ty, pos, af, g⟩ e mem (.v (.int k (k.wrap (-m)))) :=
 ro_un hx fun w => by simp [Op.unary, Op.intArith]
theorem ro_neg' {m : Int} (hx : evA e x = .v (.int .i64 m)) (h : In64 (-m)) : OpRO P ⟨d, .unOp .neg t x, ty, pos, af, g⟩ e mem (.v (.int .i64 (-m))) := by
 have := ro_neg (P := P) (mem := mem) (d := d) (ty := ty) (t := t) (pos := pos) (af := af) (g := g) hx; rwa [wrap_in h] at this
theorem ro_not {b : Bool} (hx : evA e x = .v (.bool b)) : OpRO P ⟨d, .unOp .not t x, ty, pos, af, g⟩ e mem (.v (.bool (!b))) := ro_un hx fun w => rfl
theorem ro_conv {k k' : IntKind} {m : Int} (hx : evA e x = .v (.int k m)) (s t : TypeId) (h : ∀ w, (convert s t (.int k m)).run P w = .ok (.int k' (k'.wrap m)) w) : OpRO P ⟨d, .convert s t x, ty, pos, af, g⟩ e mem (.v (.int k' (k'.wrap m))) :=
 ro_pure _ fun ev he w => by rw [ex_convert (he x (by simp [Op.operands]) _ hx), Sem.run_bind, h w]; rfl
theorem ro_extract {i : Nat} {l : List AV} (hx : evA e x = .tuple l) {r : AV} (hr : l[i]? = some r) : OpRO P ⟨d, .extract x i, ty, pos, af, g⟩ e mem r := by
 intro pb w0 θ w ev hs h
 have h1 := h x (by simp [Op.operands])
 rw [hx] at h1
 obtain ⟨xs, h2, h3, h4⟩ := h1.getTuple
 have hi : i < xs.length := by rw [h3]; exact (List.getElem?_eq_some_iff.1 hr).1
 rw [ex_extract h2]
 have : (Instr.extract (.tuple xs.toArray) i) = pure xs[i] := by
  unfold Instr.extract
  simp [hi]
 rw [this]
 exact ⟨h4 i r xs[i] hr (List.getElem?_eq_getElem hi), Ext.refl w⟩
def packA (row : Bool) (n : Nat) (l : List AV) : AV := if row then .agg (l.take n) else l.headD .any
def TyIs (P : Program) (t : TypeId) (row : Bool) (n : Nat) : Prop := (match P.underlying t with | some d => some d.isRow | none => none) = some row ∧ (P.info? t).map (·.size) = some n
theorem TyIs.desc {t : TypeId} {row : Bool} {n : Nat} (h : TyIs P t row n) : ∃ d, P.underlying t = some d ∧ d.isRow = row := by
 have := h.1
 cases hu : P.underlying t with
 | none => rw [hu] at this; cases this
 | some d => rw [hu] at this; exact ⟨d, rfl, by simpa using this⟩
theorem TyIs.agg {t : TypeId} {row : Bool} {n : Nat} (h : TyIs P t row n) (w : World) : (isAgg t).run P w = .ok row w := by
 obtain ⟨d, h1, h2⟩ := h.desc
 unfold isAgg
 rw [Sem.run_bind, run_underlying h1 w]
 subst h2
 cases d <;> rfl
theorem TyIs.sizeOf {t : TypeId} {row : Bool} {n : Nat} (h : TyIs P t row n) (w : World) : (Go.sizeOf t).run P w = .ok n w := by
 have := h.2
 cases hq : P.info? t with
 | none => rw [hq] at this; cases this
 | some i => rw [hq] at this; simp at this; simp [Go.sizeOf, typeInfo, hq, this]
theorem run_load_cells {θ : List Value} {pr : Nat → Prop} {w : World} {row : Bool} {n : Nat} {cells : List AV} {b o : Nat} {f : Nat → Value} (ht : TyIs P t row n) (hn : n ≤ cells.length) (h1 : row = true ∨ n = 1)
 (hc : ∀ i, i < cells.length → w.cell? ⟨b, o + i, none⟩ = some (f i)) (hr : ∀ (i : Nat) (a : AV), cells[i]? = some a → R1 θ pr w a (f i)) :
 ∃ v, (Instr.loadAt t (.pointer (some ⟨b, o, none⟩))).run P w = .ok v w ∧ R1 θ pr w (packA row n cells) v := by
 obtain ⟨dd, hu, hrow⟩ := ht.desc
 cases row with
 | true =>
  refine ⟨_, run_loadAt_mid w b o t ((List.range n).map f) dd (fun j v hv => ?_) hu hrow (by rw [ht.2]; simp), ?_⟩
  ·have hj : j < n := by have := (List.getElem?_eq_some_iff.1 hv).1; simpa using this
   rw [List.getElem?_map, List.getElem?_range hj] at hv
   simp at hv; subst hv
   exact hc j (by omega)
  ·refine .agg _ _ (by simp; omega) fun j a x ha hx => ?_
   have hj : j < n := by have := (List.getElem?_eq_some_iff.1 hx).1; simpa using this
   rw [List.getElem?_map, List.getElem?_range hj] at hx
   rw [List.getElem?_take_of_lt hj] at ha
   simp at hx; subst hx
   exact hr j a ha
 | false =>
  have hn1 : n = 1 := h1.resolve_left (by simp)
  subst hn1
  have h0 := hc 0 (by omega)
  refine ⟨f 0, ?_, ?_⟩
  ·simp only [Instr.loadAt, Instr.sureAddr, Sem.run_bind, Sem.run_pure, Result.andThen_ok, loadVar, ht.agg, Bool.false_eq_true, if_false]
   rw [Nat.add_zero] at h0
   simp [h0]
  ·cases cells with
   | nil => simp at hn
   | cons a l => exact hr 0 a rfl
theorem ro_load_ref {n : Nat} {row : Bool} {cells : List AV} (hx : evA e x = .ref cells) (ht : TyIs P t row n) (hn : n ≤ cells.length) (h1 : row = true ∨ n = 1) : OpRO P ⟨d, .load t x, ty, pos, af, g⟩ e mem (packA row n cells) := by
 intro pb w0 θ w ev hs h
 have h1' := h x (by simp [Op.operands])
 rw [hx] at h1'
 generalize hv : evE ev x = p at h1'
 cases h1'.getRef with
 | ref _ b o f hb hp hc hr =>
  obtain ⟨v, h2, h3⟩ := run_load_cells (t := t) (θ := θ) ht hn h1 (fun i hi => hc i _ (List.getElem?_eq_getElem hi)) (fun i a ha => .ro (hr i a ha))
  rw [ex_load hv, Sem.run_bind, h2]
  exact ⟨h3, Ext.refl w⟩
theorem ro_load_ptr {j off n : Nat} {row : Bool} {T : TypeId} {cells : List AV} (hx : evA e x = .ptr j off) (hm : mem[j]? = some (.box T cells)) (ht : TyIs P t row n) (hn : off + n ≤ cells.length) (h1 : row = true ∨ n = 1) :
 OpRO P ⟨d, .load t x, ty, pos, af, g⟩ e mem (packA row n (cells.drop off)) := by
 intro pb w0 θ w ev hs h
 have h1' := h x (by simp [Op.operands])
 rw [hx] at h1'
 generalize hv : evE ev x = p at h1'
 obtain ⟨b, v, hθ, hbase, rfl⟩ := h1'.getPtr
 obtain ⟨b', xs, h3, rfl, h4, h5, h6⟩ := hs.ob j _ v hm hθ
 cases hbase
 obtain ⟨v, h2, h3⟩ := run_load_cells (P := P) (t := t) (θ := θ) (pr := Prot pb θ mem) (w := w) (b := b') (o := off) (cells := cells.drop off) (f := fun i => xs.getD (off + i) undef) ht (by simp; omega) h1
  (fun i hi => by
   have hlt : off + i < xs.length := by rw [h5]; simp at hi; omega
   rw [cell_of_row w b' (off + i) xs.toArray T (0, 0) h4]
   simp [hlt, List.getD_eq_getElem?_getD])
  (fun i a ha => by
   rw [List.getElem?_drop] at ha
   have hlt : off + i < xs.length := by rw [h5]; exact (List.getElem?_eq_some_iff.1 ha).1
   exact h6 (off + i) a _ ha (by simp [hlt, List.getD_eq_getElem?_getD]))
 rw [ex_load hv, Sem.run_bind, h2]
 exact ⟨h3, Ext.refl w⟩
theorem own_cells {w : World} {base n k : Nat} {eT : TypeId} {v : Value} {xs : List Value} (h : w.ownsRow base eT k v n xs) {b : Nat} (hb : baseOf v = some b) (j : Nat) (u : Value) (hu : xs[j]? = some u) : w.cell? ⟨b, j, none⟩ = some u := by
 rcases h.2 with ⟨rfl, _⟩ | ⟨g, cap, cur, rfl, _⟩
 ·cases hb
 ·cases hb
  have := h.cells (g := g) rfl j u hu
  rwa [Addr.add_lit, Nat.zero_add] at this
theorem flat_get {α : Type} {k : Nat} : ∀ {els : List (List α)} {i j : Nat} {el : List α}, (∀ l ∈ els, l.length = k) → els[i]? = some el → j < k → els.flatten[i * k + j]? = el[j]?
 | [], i, j, el, _, h, _ => by simp at h
 | l :: els, 0, j, el, hk, h, hj => by
  simp at h; subst h
  have := hk l (by simp)
  rw [List.flatten_cons, Nat.zero_mul, Nat.zero_add, List.getElem?_append_left (by omega)]
 | l :: els, i + 1, j, el, hk, h, hj => by
  have hl := hk l (by simp)
  rw [List.flatten_cons, List.getElem?_append_right (by rw [hl, Nat.succ_mul]; omega), hl, show (i + 1) * k + j - k = i * k + j by rw [Nat.succ_mul]; omega]
  exact flat_get (fun l hm => hk l (by simp [hm])) (by simpa using h) hj
theorem ro_load_el {j i n k off : Nat} {row : Bool} {T : TypeId} {els : List (List AV)} {el : List AV} (hx : evA e x = .ptr j off) (hm : mem[j]? = some (.row T k els)) (ho : off = i * k) (hel : els[i]? = some el) (ht : TyIs P t row n) (hn : n ≤ k) (h1 : row = true ∨ n = 1) :
 OpRO P ⟨d, .load t x, ty, pos, af, g⟩ e mem (packA row n el) := by
 intro pb w0 θ w ev hs h
 have h1' := h x (by simp [Op.operands])
 rw [hx] at h1'
 generalize hv : evE ev x = p at h1'
 obtain ⟨b, v, hθ, hbase, rfl⟩ := h1'.getPtr
 obtain ⟨xs, h3, _, h4, h5⟩ := hs.ob j _ v hm hθ
 have hk := h4 el (List.mem_of_getElem? hel)
 have hlen : xs.length = els.length * k := h3.1
 have hi : i < els.length := (List.getElem?_eq_some_iff.1 hel).1
 have hle : (i + 1) * k ≤ els.length * k := Nat.mul_le_mul_right k hi
 rw [Nat.succ_mul] at hle
 obtain ⟨v, h2, h3⟩ := run_load_cells (P := P) (t := t) (θ := θ) (pr := Prot pb θ mem) (w := w) (b := b) (o := off) (cells := el) (f := fun q => xs.getD (i * k + q) undef) ht (by omega) h1
  (fun q hq => by
   subst ho
   have hlt : i * k + q < xs.length := by omega
   exact own_cells h3 hbase _ _ (by simp [hlt, List.getD_eq_getElem?_getD]))
  (fun q a ha => by
   have hq := (List.getElem?_eq_some_iff.1 ha).1
   have hlt : i * k + q < xs.length := by omega
   exact .ro (h5 (i * k + q) a _ (by rw [flat_get h4 hel (by omega)]; exact ha) (by simp [hlt, List.getD_eq_getElem?_getD])))
 rw [ex_load hv, Sem.run_bind, h2]
 exact ⟨h3, Ext.refl w⟩
end
end Go.Proofs.Ytjhcfpdgldpicaa
