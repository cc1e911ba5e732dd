/- The abstract machine's judgements: code and lists of operations on frames without addresses; control. No conditions on a program. -/
import Derived.Test.YtelgkjekpcfffaaA1
namespace Go.Proofs.Ytelgkjekpcfffaa
open Go Go.RowKit

def evA (e : Nat → AV) : Operand → AV
  | .tmp t => e t
  | .const v => .v v
  | .global g => .v (.pointer (some ⟨g, 0, none⟩))
  | .func f => .v (.func (.func f) #[] #[])
def upA (e : Nat → AV) (d : Option Tmp) (r : AV) : Nat → AV :=
  match d with
  | some d => fun t => if t = d then r else e t
  | none => e
def dstB (N : Nat) (d : Option Tmp) : Bool := match d with | some d => decide (d < N) | none => true

/-- A frame and a world fit an abstract frame and objects. -/
structure Fit (N : Nat) (pb : Nat → Prop) (w0 : World) (e : Nat → AV) (mem : List Ob) (θ : List Value) (a : Act) (w : World) : Prop where
  size : a.tmps.size = N
  dfr : a.defers = []
  sl : ∀ t, R1 θ (Prot pb θ mem) w (e t) (a.tmps.getD t undef)
  sim : SimM pb w0 w θ mem

abbrev AQ := Exit → (Nat → AV) → List Ob → Prop
def LQ (N : Nat) (pb : Nat → Prop) (w0 : World) (Q : AQ) : Exit → Act → World → Prop := fun x a w => ∃ e mem θ, Fit N pb w0 e mem θ a w ∧ Q x e mem
def AW (P : Program) (N : Nat) (c : Code) (Q : AQ) (e : Nat → AV) (mem : List Ob) : Prop := ∀ pb w0 θ a w, Fit N pb w0 e mem θ a w → c.wp P (LQ N pb w0 Q) a w
def AL (P : Program) (N : Nat) (ops : Array Oper) (l : List Oper) (Q : AQ) (e : Nat → AV) (mem : List Ob) : Prop := ∀ pb w0 θ a w, Fit N pb w0 e mem θ a w → wpList P ops (LQ N pb w0 Q) l a w

theorem Fit.put {N : Nat} {pb : Nat → Prop} {w0 w w' : World} {e : Nat → AV} {mem mem' : List Ob} {θ θ' : List Value} {a : Act} (h : Fit N pb w0 e mem θ a w) (hs : Step pb w0 θ mem w θ' mem' w') {d : Option Tmp} (hd : dstB N d = true) {r : AV} {v : Value}
    (hr : R1 θ' (Prot pb θ' mem') w' r v) : Fit N pb w0 (upA e d r) mem' θ' (a.put d v) w' := by
  refine ⟨?_, ?_, fun t => ?_, hs.sim⟩
  · cases d <;> simp [Act.put, h.size]
  · cases d <;> simp [Act.put, h.dfr]
  · cases d with
    | none => exact hs.keep _ _ (h.sl t)
    | some d =>
      have hlt : d < N := by simpa [dstB] using hd
      by_cases ht : t = d
      · subst ht
        have : (a.tmps.setIfInBounds t v).getD t undef = v := by simp [Array.getD_eq_getD_getElem?, h.size, hlt]
        simp only [upA, Act.put, this, if_true]; exact hr
      · have : (a.tmps.setIfInBounds d v).getD t undef = a.tmps.getD t undef := by
          rw [Array.getD_eq_getD_getElem?, Array.getElem?_setIfInBounds_ne (fun h => ht h.symm), ← Array.getD_eq_getD_getElem?]
        simp only [upA, Act.put, this, if_neg ht]; exact hs.keep _ _ (h.sl t)

section
variable {P : Program} {N : Nat} {Q : AQ} {e : Nat → AV} {mem : List Ob}

def ThenA (K : (Nat → AV) → List Ob → Prop) (Q : AQ) : AQ
  | .normal, e, mem => K e mem
  | x, e, mem => Q x e mem
theorem aw_seq {x y : Code} (h : AW P N x (ThenA (AW P N y Q) Q) e mem) : AW P N (.seq x y) Q e mem := by
  intro pb w0 θ a w hf
  refine wp_seq (wp_mono (h pb w0 θ a w hf) ?_)
  rintro x a' w' ⟨e', mem', θ', h1, h2⟩
  cases x with
  | normal => exact h2 pb w0 θ' a' w' h1
  | _ => exact ⟨e', mem', θ', h1, h2⟩
theorem aw_cond {c : Operand} {x y : Code} {t : Bool} (hc : evA e c = .v (.bool t)) (ht : t = true → AW P N x Q e mem) (hf : t = false → AW P N y Q e mem) : AW P N (.cond c x y) Q e mem := by
  intro pb w0 θ a w hfit
  have hv : a.eval c = .bool t := by
    cases c with
    | tmp s => have := hfit.sl s; rw [show e s = .v (.bool t) from hc] at this; exact this.val
    | const v => exact (show v = .bool t by simpa [evA] using hc)
    | global g => cases hc
    | func f => cases hc
  refine wp_cond_split hv (fun h => ht h pb w0 θ a w hfit) (fun h => hf h pb w0 θ a w hfit)
theorem aw_dec {c : Operand} {x y : Code} {p : Prop} [Decidable p] (hc : evA e c = .v (.bool (decide p))) (ht : p → AW P N x Q e mem) (hf : ¬ p → AW P N y Q e mem) : AW P N (.cond c x y) Q e mem :=
  aw_cond hc (fun h => ht (of_decide_eq_true h)) (fun h => hf (of_decide_eq_false h))
theorem aw_not {c : Operand} {x y : Code} {p : Prop} [Decidable p] (hc : evA e c = .v (.bool (!decide p))) (ht : ¬ p → AW P N x Q e mem) (hf : p → AW P N y Q e mem) : AW P N (.cond c x y) Q e mem :=
  aw_cond hc (fun h => ht (by simpa using h)) (fun h => hf (by simpa using h))
theorem aw_true {c : Operand} {x y : Code} (hc : evA e c = .v (.bool true)) (h : AW P N x Q e mem) : AW P N (.cond c x y) Q e mem := aw_cond hc (fun _ => h) (fun h => by cases h)
theorem aw_false {c : Operand} {x y : Code} (hc : evA e c = .v (.bool false)) (h : AW P N y Q e mem) : AW P N (.cond c x y) Q e mem := aw_cond hc (fun h => by cases h) (fun _ => h)
theorem aw_skip (h : Q .normal e mem) : AW P N .skip Q e mem := fun _ _ θ _ _ hf => wp_skip ⟨e, mem, θ, hf, h⟩
theorem aw_label {l : Nat} (h : Q .normal e mem) : AW P N (.label l) Q e mem := fun _ _ θ _ _ hf => wp_label ⟨e, mem, θ, hf, h⟩
theorem aw_exit {id : Nat} (h : Q (.exit id) e mem) : AW P N (.exit id) Q e mem := fun _ _ θ _ _ hf => wp_exit ⟨e, mem, θ, hf, h⟩
theorem aw_ret (h : Q .ret e mem) : AW P N .ret Q e mem := fun _ _ θ _ _ hf => wp_ret ⟨e, mem, θ, hf, h⟩
def BlockA (id : Nat) (Q : AQ) : AQ
  | .exit i, e, mem => if i = id then Q .normal e mem else Q (.exit i) e mem
  | x, e, mem => Q x e mem
theorem aw_block {id : Nat} {c : Code} (h : AW P N c (BlockA id Q) e mem) : AW P N (.block id c) Q e mem := by
  intro pb w0 θ a w hf
  refine wp_block (wp_mono (h pb w0 θ a w hf) ?_)
  rintro x a' w' ⟨e', mem', θ', h1, h2⟩
  cases x with
  | exit i =>
    simp only [BlockA] at h2
    simp only [Exit.inBlock]
    by_cases hi : i = id
    · rw [if_pos hi] at h2 ⊢; exact ⟨e', mem', θ', h1, h2⟩
    · rw [if_neg hi] at h2 ⊢; exact ⟨e', mem', θ', h1, h2⟩
  | _ => exact ⟨e', mem', θ', h1, h2⟩

theorem least_of {p : Nat → Prop} : ∀ n, p n → ∃ m, p m ∧ ∀ k, p k → m ≤ k := by
  intro n
  induction n using Nat.strongRecOn with
  | _ n ih =>
    intro hn
    by_cases h : ∃ m, m < n ∧ p m
    · obtain ⟨m, hm, hp⟩ := h; exact ih m hm hp
    · exact ⟨n, hn, fun k hk => Nat.le_of_not_lt fun hlt => h ⟨k, hlt, hk⟩⟩
open Classical in
noncomputable def leastN (p : Nat → Prop) : Nat := if h : ∃ m, p m ∧ ∀ k, p k → m ≤ k then Classical.choose h else 0
theorem leastN_spec {p : Nat → Prop} {n : Nat} (hn : p n) : p (leastN p) ∧ ∀ k, p k → leastN p ≤ k := by
  have h := least_of n hn
  unfold leastN
  rw [dif_pos h]
  exact Classical.choose_spec h
/-- A loop by a relation that a state names, and a measure of the state. -/
theorem aw_loop {S : Type} {c : Code} (I : S → (Nat → AV) → List Ob → Prop) (μ : S → Nat) (s0 : S) (h0 : I s0 e mem)
    (round : ∀ s e mem, I s e mem → AW P N c (ThenA (fun e' mem' => ∃ s', I s' e' mem' ∧ μ s' < μ s) Q) e mem) : AW P N (.loop c) Q e mem := by
  intro pb w0 θ a w hf
  let p : Act → World → Nat → Prop := fun a w n => ∃ s e mem θ, Fit N pb w0 e mem θ a w ∧ I s e mem ∧ μ s = n
  refine wp_loop (fun a w => ∃ n, p a w n) (fun a w => leastN (p a w)) ⟨_, s0, e, mem, θ, hf, h0, rfl⟩ ?_
  rintro a w ⟨n, hn⟩
  obtain ⟨⟨s, e, mem, θ, h1, h2, h3⟩, -⟩ := leastN_spec hn
  refine wp_mono (round s e mem h2 pb w0 θ a w h1) ?_
  rintro x a' w' ⟨e', mem', θ', h4, h5⟩
  cases x with
  | normal =>
    obtain ⟨s', h6, h7⟩ := h5
    have hp : p a' w' (μ s') := ⟨s', e', mem', θ', h4, h6, rfl⟩
    have := (leastN_spec hp).2 _ hp
    exact ⟨⟨_, hp⟩, by omega⟩
  | _ => exact ⟨e', mem', θ', h4, h5⟩
theorem aw_mono {c : Code} {Q' : AQ} (h : AW P N c Q e mem) (hq : ∀ x e mem, Q x e mem → Q' x e mem) : AW P N c Q' e mem := fun pb w0 θ a w hf =>
  wp_mono (h pb w0 θ a w hf) fun _ _ _ ⟨e', mem', θ', h1, h2⟩ => ⟨e', mem', θ', h1, hq _ _ _ h2⟩
/-- A piece of code by what holds behind it. -/
theorem aw_cut {c : Code} (M : (Nat → AV) → List Ob → Prop) {K : (Nat → AV) → List Ob → Prop} (h : AW P N c (ThenA M Q) e mem) (hk : ∀ e mem, M e mem → K e mem) : AW P N c (ThenA K Q) e mem :=
  aw_mono h fun x e mem hx => by cases x <;> first | exact hx | exact hk _ _ hx

/-- An operation that makes new blocks alone, and hands back this. -/
def OpRO (P : Program) (o : Oper) (e : Nat → AV) (mem : List Ob) (r : AV) : Prop :=
  ∀ (pb : Nat → Prop) (w0 : World) (θ : List Value) (w : World) (ev : Nat → Value), SimM pb w0 w θ mem → (∀ x ∈ o.op.operands, R1 θ (Prot pb θ mem) w (evA e x) (evE ev x)) →
    RelUpon P (fun v w' => R1 θ (Prot pb θ mem) w' r v ∧ Ext w w') ((execOp (evE ev) o).run P w)
/-- An operation that turns the objects into others. -/
def OpST (P : Program) (o : Oper) (e : Nat → AV) (mem : List Ob) (r : AV) (mem' : List Ob) : Prop :=
  ∀ (pb : Nat → Prop) (w0 : World) (θ : List Value) (w : World) (ev : Nat → Value), SimM pb w0 w θ mem → (∀ x ∈ o.op.operands, R1 θ (Prot pb θ mem) w (evA e x) (evE ev x)) →
    RelUpon P (fun v w' => ∃ θ', R1 θ' (Prot pb θ' mem') w' r v ∧ Step pb w0 θ mem w θ' mem' w') ((execOp (evE ev) o).run P w)
theorem OpRO.st {o : Oper} {r : AV} (h : OpRO P o e mem r) : OpST P o e mem r mem := fun pb w0 θ w ev hs hx =>
  RelUpon.mono (fun _ _ ⟨h1, h2⟩ => ⟨θ, h1, Step.ext hs h2⟩) (h pb w0 θ w ev hs hx)

/-- An operation that makes one new object, its value this object's handle. -/
def OpNW (P : Program) (o : Oper) (e : Nat → AV) (mem : List Ob) (ob : Ob) (h : Nat → AV) : Prop :=
  ∀ (pb : Nat → Prop) (w0 : World) (θ : List Value) (w : World) (ev : Nat → Value), SimM pb w0 w θ mem → (∀ x ∈ o.op.operands, R1 θ (Prot pb θ mem) w (evA e x) (evE ev x)) →
    RelUpon P (fun v w' => Ext w w' ∧ (∀ b, baseOf v = some b → w.heap.size ≤ b) ∧ (∀ θ' pr, (∀ a x, R1 θ (Prot pb θ mem) w a x → R1 θ' pr w' a x) → ObR θ' pr w0.heap.size w' v ob) ∧ ∀ θ' pr j, θ'[j]? = some v → R1 θ' pr w' (h j) v) ((execOp (evE ev) o).run P w)
theorem nw_st {o : Oper} {ob : Ob} {h : Nat → AV} {m : Nat} (hn : OpNW P o e mem ob h) (hl : mem.length = m) : OpST P o e mem (h m) (mem ++ [ob]) := fun pb w0 θ w ev hs hx =>
  RelUpon.mono (fun v w' ⟨h1, h2, h3, h4⟩ => ⟨θ ++ [v], h4 _ _ _ (by rw [← hl, ← hs.len]; simp), Step.new hs h1 v ob h2 h3⟩) (hn pb w0 θ w ev hs hx)

/-- An operation that writes one object. -/
def OpSET (P : Program) (o : Oper) (e : Nat → AV) (mem : List Ob) (j : Nat) (ob : Ob) : Prop :=
  ∀ (pb : Nat → Prop) (w0 : World) (θ : List Value) (w : World) (ev : Nat → Value), SimM pb w0 w θ mem → (∀ x ∈ o.op.operands, R1 θ (Prot pb θ mem) w (evA e x) (evE ev x)) →
    RelUpon P (fun v w' => v = undef ∧ Step pb w0 θ mem w θ (mem.set j ob) w') ((execOp (evE ev) o).run P w)
theorem set_st {o : Oper} {j : Nat} {ob : Ob} (h : OpSET P o e mem j ob) : OpST P o e mem (.v undef) (mem.set j ob) := fun pb w0 θ w ev hs hx =>
  RelUpon.mono (fun v w' ⟨h1, h2⟩ => ⟨θ, by subst h1; exact .ro (.v _), h2⟩) (h pb w0 θ w ev hs hx)

/-- The guard is met; it is not. -/
def Gd (ops : Array Oper) (o : Oper) (e : Nat → AV) : Prop := match o.guard with | none => True | some (j, b) => ∃ d, (ops[j]?).bind (·.dst) = some d ∧ evA e (.tmp d) = .v (.bool b)
def Ng (ops : Array Oper) (o : Oper) (e : Nat → AV) : Prop := match o.guard with | none => False | some (j, b) => ∃ d, (ops[j]?).bind (·.dst) = some d ∧ (evA e (.tmp d) = .v (.bool (!b)) ∨ evA e (.tmp d) = .v undef)
theorem yielded_of {ops : Array Oper} {a : Act} {j d : Nat} {b : Bool} (hd : (ops[j]?).bind (·.dst) = some d) (hv : a.tmps.getD d undef = .bool b) : yielded ops a.tmps j = some b := by
  unfold yielded
  rw [hd]
  simp only [Option.bind_some]
  rw [Array.getD_eq_getD_getElem?] at hv
  cases h : a.tmps[d]? with
  | none => rw [h] at hv; cases hv
  | some v => rw [h] at hv; simp at hv; subst hv; rfl
theorem yielded_undef {ops : Array Oper} {a : Act} {j d : Nat} (hd : (ops[j]?).bind (·.dst) = some d) (hv : a.tmps.getD d undef = undef) : yielded ops a.tmps j = none := by
  unfold yielded
  rw [hd]
  simp only [Option.bind_some]
  rw [Array.getD_eq_getD_getElem?] at hv
  cases h : a.tmps[d]? with
  | none => rfl
  | some v => rw [h] at hv; simp at hv; subst hv; rfl
theorem wanted_of {pb : Nat → Prop} {w0 w : World} {θ : List Value} {a : Act} {ops : Array Oper} {o : Oper} (hf : Fit N pb w0 e mem θ a w) (hg : Gd ops o e) : Region.wanted o (yielded ops a.tmps) = true := by
  unfold Region.wanted
  unfold Gd at hg
  cases h : o.guard with
  | none => rfl
  | some g =>
    obtain ⟨j, b⟩ := g
    rw [h] at hg
    obtain ⟨d, h1, h2⟩ := hg
    have h3 := hf.sl d
    rw [show e d = _ from h2] at h3
    simp [yielded_of h1 h3.val]
theorem unwanted_of {pb : Nat → Prop} {w0 w : World} {θ : List Value} {a : Act} {ops : Array Oper} {o : Oper} (hf : Fit N pb w0 e mem θ a w) (hg : Ng ops o e) : Region.wanted o (yielded ops a.tmps) = false := by
  unfold Region.wanted
  unfold Ng at hg
  cases h : o.guard with
  | none => rw [h] at hg; exact hg.elim
  | some g =>
    obtain ⟨j, b⟩ := g
    rw [h] at hg
    obtain ⟨d, h1, h2⟩ := hg
    have h3 := hf.sl d
    rcases h2 with h2 | h2
    · rw [show e d = _ from h2] at h3
      simp [yielded_of h1 h3.val]
    · rw [show e d = _ from h2] at h3
      simp [yielded_undef h1 h3.val]

section
variable {ops : Array Oper} {l : List Oper} {o : Oper}
theorem al_nil (h : Q .normal e mem) : AL P N ops [] Q e mem := fun _ _ θ _ _ hf => ⟨e, mem, θ, hf, h⟩
theorem evE_of (a : Act) : a.eval = evE (fun t => a.tmps.getD t undef) := eval_evE (fun _ => rfl)
theorem ops_of {pb : Nat → Prop} {w0 w : World} {θ : List Value} {a : Act} (hf : Fit N pb w0 e mem θ a w) (x : Operand) : R1 θ (Prot pb θ mem) w (evA e x) (evE (fun t => a.tmps.getD t undef) x) := by
  cases x with
  | tmp t => exact hf.sl t
  | const v => exact .ro (.v v)
  | global g => exact .ro (.v _)
  | func f => exact .ro (.v _)
theorem al_st {r : AV} {mem' : List Ob} (ho : OpST P o e mem r mem') (hg : Gd ops o e) (hd : dstB N o.dst = true) (h : AL P N ops l Q (upA e o.dst r) mem') : AL P N ops (o :: l) Q e mem := by
  intro pb w0 θ a w hf
  show (if Region.wanted o (yielded ops a.tmps) then _ else _)
  rw [if_pos (wanted_of hf hg)]
  refine .inl (Oper.wp_of_rel (φ := fun v w' => ∃ θ', R1 θ' (Prot pb θ' mem') w' r v ∧ Step pb w0 θ mem w θ' mem' w') ?_ ?_)
  · rintro v w' ⟨θ', h1, h2⟩
    exact h pb w0 θ' _ w' (hf.put h2 hd h1)
  · rw [evE_of]
    exact ho pb w0 θ w _ hf.sim fun x _ => ops_of hf x
theorem al_ro {r : AV} (ho : OpRO P o e mem r) (hg : Gd ops o e) (hd : dstB N o.dst = true) (h : AL P N ops l Q (upA e o.dst r) mem) : AL P N ops (o :: l) Q e mem := al_st ho.st hg hd h
theorem al_skip (hg : Ng ops o e) (hd : dstB N o.dst = true) (h : AL P N ops l Q (upA e o.dst (.v undef)) mem) : AL P N ops (o :: l) Q e mem := by
  intro pb w0 θ a w hf
  show (if Region.wanted o (yielded ops a.tmps) then _ else _)
  rw [if_neg (by rw [unwanted_of hf hg]; exact Bool.false_ne_true)]
  exact h pb w0 θ _ w (hf.put (Step.ext hf.sim (Ext.refl w)) hd (.ro (.v _)))
/-- A turn of the objects without an operation. -/
theorem al_turn {e' : Nat → AV} {mem' : List Ob} (ht : ∀ pb w0 θ w, SimM pb w0 w θ mem → ∃ θ', SimM pb w0 w θ' mem' ∧ ∀ t x, R1 θ (Prot pb θ mem) w (e t) x → R1 θ' (Prot pb θ' mem') w (e' t) x) (h : AL P N ops l Q e' mem') : AL P N ops l Q e mem :=
  fun pb w0 θ a w hf => let ⟨θ', h1, h2⟩ := ht pb w0 θ w hf.sim; h pb w0 θ' a w ⟨hf.size, hf.dfr, fun t => h2 t _ (hf.sl t), h1⟩
theorem aw_turn {c : Code} {e' : Nat → AV} {mem' : List Ob} (ht : ∀ pb w0 θ w, SimM pb w0 w θ mem → ∃ θ', SimM pb w0 w θ' mem' ∧ ∀ t x, R1 θ (Prot pb θ mem) w (e t) x → R1 θ' (Prot pb θ' mem') w (e' t) x) (h : AW P N c Q e' mem') : AW P N c Q e mem :=
  fun pb w0 θ a w hf => let ⟨θ', h1, h2⟩ := ht pb w0 θ w hf.sim; h pb w0 θ' a w ⟨hf.size, hf.dfr, fun t => h2 t _ (hf.sl t), h1⟩
end
theorem aw_text {id : Nat} {l : List Oper} (h : AL P N l.toArray l Q e mem) : AW P N (.region id l.toArray false) Q e mem := fun pb w0 θ a w hf => wp_region_lit (h pb w0 θ a w hf)
end

theorem up_h {e : Nat → AV} {t : Tmp} {r : AV} : evA (upA e (some t) r) (.tmp t) = r := if_pos rfl
theorem up_m {e : Nat → AV} {t d : Tmp} {r a : AV} (hd : (t == d) = false) (h : evA e (.tmp t) = a) : evA (upA e (some d) r) (.tmp t) = a := by
  have : t ≠ d := by simpa using hd
  show (if t = d then r else e t) = a
  rw [if_neg this]; exact h
theorem up_n {e : Nat → AV} {t : Tmp} {r a : AV} (h : evA e (.tmp t) = a) : evA (upA e none r) (.tmp t) = a := h

/-- A function's contract: of what is read alone, to what is read alone. -/
def FnOk (P : Program) (f : FuncId) (args : List AV) (ψ : AV → Prop) : Prop :=
  ∀ (pr : Nat → Prop) (w : World) (vs : List Value), vs.length = args.length → (∀ (i : Nat) (a : AV) (x : Value), args[i]? = some a → vs[i]? = some x → R0 pr w a x) →
    Calls P f vs.toArray w fun en w' => ∃ r v, en = .returned v ∧ ψ r ∧ R0 (fun b => pr b ∧ b < w.heap.size) w' r v ∧ Ext w w'
theorem FnOk.mono {P : Program} {f : FuncId} {args : List AV} {ψ ψ' : AV → Prop} (h : FnOk P f args ψ) (hp : ∀ r, ψ r → ψ' r) : FnOk P f args ψ' := fun pr w vs h1 h2 =>
  (h pr w vs h1 h2).mono fun _ _ ⟨r, v, h3, h4, h5⟩ => ⟨r, v, h3, hp r h4, h5⟩
theorem FnOk.args {P : Program} {f : FuncId} {args args' : List AV} {ψ : AV → Prop} (h : FnOk P f args ψ) (he : args' = args) : FnOk P f args' ψ := he ▸ h

/-- What the body must come to: the results, once all objects are given up. -/
def RetA (P : Program) (fn : Func) (ψ : AV → Prop) : AQ := fun x e mem => (x = .normal ∨ x = .ret) ∧
  ∀ pb w0 θ w (a : Act), Fit fn.ntmps pb w0 e mem θ a w → ∃ r v, (results fn a.tmps).run P w = .ok v w ∧ ψ r ∧ R0 pb w r v
def ent (args : List AV) : Nat → AV := fun t => args.getD t (.v undef)
end Go.Proofs.Ytelgkjekpcfffaa
