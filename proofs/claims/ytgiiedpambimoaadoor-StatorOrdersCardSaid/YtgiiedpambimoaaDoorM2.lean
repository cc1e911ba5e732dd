/- Texts of this claim, one behind the other: lemmas for the statement. -/
import Derived.Test.YtgiiedpambimoaaDoorM1
import Derived.OrdersIn
import Derived.LoopIn
import Derived.TacticsIn
import Derived.RangeFuncBound
import Derived.RangeFuncNested
import Derived.RangeFuncCalls
import Derived.WalkLawsBesides
import Derived.Laws.MakeOwn
import Derived.Laws.OwnMore
import Derived.Laws.Tables
import Derived.Laws.CopyRow
import Derived.Great.BuildSlice
import Derived.RangeFuncLeaves
import Derived.RangeFuncOwn
/- The abstract machine's judgements: code and lists of operations on frames without addresses; control. No conditions on a program. -/
namespace Go.Proofs.YtgiiedpambimoaaDoor
open Go Go.RowKit

def evA (e : Nat → AV) : Operand → AV
  | .tmp t => e t
  | .const v => .v v
  | .global g => .v (.pointer (some ⟨g, 0, none⟩))
  | .func f => .v (.func (.func f) #[] #[])
def upA (e : Nat → AV) (d : Option Tmp) (r : AV) : Nat → AV :=
  match d with
  | some d => fun t => if t = d then r else e t
  | none => e
def dstB (N : Nat) (d : Option Tmp) : Bool := match d with | some d => decide (d < N) | none => true

/-- A frame and a world fit an abstract frame and objects. -/
structure Fit (N : Nat) (pb : Nat → Prop) (w0 : Bs) (e : Nat → AV) (mem : List Ob) (θ : List Value) (a : Act) (w : World) : Prop where
  size : a.tmps.size = N
  dfr : Mks w0.w.heap.size (Prot pb θ mem) w a.defers
  sl : ∀ t, R1 θ (Prot pb θ mem) w (e t) (a.tmps.getD t undef)
  sim : SimM pb w0 w θ mem

abbrev AQ := Exit → (Nat → AV) → List Ob → Prop
def LQ (N : Nat) (pb : Nat → Prop) (w0 : Bs) (θ0 : List Value) (mem0 : List Ob) (w1 : World) (Q : AQ) : Exit → Act → World → Prop := fun x a w => ∃ e mem θ, Fit N pb w0 e mem θ a w ∧ Step pb w0 θ0 mem0 w1 θ mem w ∧ Q x e mem
/-- Where code runs: in a frame of its own, in a round of a loop over a function, in a function that such a loop calls. -/
inductive Mode where
  | top
  | rnd
  | it
def Mode.ok : Mode → Fence → Nat → Prop
  | .top, F, _ => F = Fence.wide
  | .rnd, F, _ => ∃ l, F = Fence.wide.inRound l
  | .it, F, n => F = Fence.wide ∧ n = 8
theorem Mode.fok {M : Mode} {F : Fence} {n : Nat} (h : M.ok F n) : F = Fence.wide ∨ ∃ l, F = Fence.wide.inRound l := by
  cases M with
  | top => exact .inl h
  | rnd => exact .inr h
  | it => exact .inl h.1
/-- An ending that falls through to K alone. -/
def FallsA (K : Act → World → Prop) : Exit → Act → World → Prop
  | .normal, a, w => K a w
  | _, _, _ => False
def AW (M : Mode) (P : Program) (N : Nat) (c : Code) (Q : AQ) (e : Nat → AV) (mem : List Ob) : Prop := ∀ F n, M.ok F n → ∀ pb w0 θ a w, Fit N pb w0 e mem θ a w → c.wpIn F n P (LQ N pb w0 θ mem w Q) a w
def AL (P : Program) (N : Nat) (ops : Array Oper) (l : List Oper) (Q : AQ) (e : Nat → AV) (mem : List Ob) : Prop := ∀ pb w0 θ a w, Fit N pb w0 e mem θ a w → wpList P ops (FallsA (LQ N pb w0 θ mem w Q .normal)) l a w
theorem Step.refl {pb : Nat → Prop} {w0 : Bs} {w : World} {θ : List Value} {mem : List Ob} (h : SimM pb w0 w θ mem) : Step pb w0 θ mem w θ mem w := Step.ext h (Ext.refl w)
theorem Step.trans {pb : Nat → Prop} {w0 : Bs} {a b c : World} {θ θ' θ'' : List Value} {mem mem' mem'' : List Ob} (h : Step pb w0 θ mem a θ' mem' b) (k : Step pb w0 θ' mem' b θ'' mem'' c) : Step pb w0 θ mem a θ'' mem'' c :=
  ⟨k.sim, fun x v hr => k.keep x v (h.keep x v hr), Nat.le_trans h.sz k.sz, fun i hi hn => (k.same i (Nat.lt_of_lt_of_le hi h.sz) (h.np i hi hn)).trans (h.same i hi hn), fun i hi hn => k.np i (Nat.lt_of_lt_of_le hi h.sz) (h.np i hi hn)⟩
theorem LQ.after {N : Nat} {pb : Nat → Prop} {w0 : Bs} {w1 w2 : World} {θ θ' : List Value} {mem mem' : List Ob} {Q : AQ} (h : Step pb w0 θ mem w1 θ' mem' w2) {x : Exit} {a : Act} {w : World} (hq : LQ N pb w0 θ' mem' w2 Q x a w) : LQ N pb w0 θ mem w1 Q x a w :=
  let ⟨e, m, t, h1, h2, h3⟩ := hq; ⟨e, m, t, h1, h.trans h2, h3⟩

theorem Fit.put {N : Nat} {pb : Nat → Prop} {w0 : Bs} {w w' : World} {e : Nat → AV} {mem mem' : List Ob} {θ θ' : List Value} {a : Act} (h : Fit N pb w0 e mem θ a w) (hs : Step pb w0 θ mem w θ' mem' w') {d : Option Tmp} (hd : dstB N d = true) {r : AV} {v : Value}
    (hr : R1 θ' (Prot pb θ' mem') w' r v) : Fit N pb w0 (upA e d r) mem' θ' (a.put d v) w' := by
  refine ⟨?_, ?_, fun t => ?_, hs.sim⟩
  · cases d <;> simp [Act.put, h.size]
  · have e : (a.put d v).defers = a.defers := by cases d <;> rfl
    rw [e]; exact h.dfr.step hs
  · cases d with
    | none => exact hs.keep _ _ (h.sl t)
    | some d =>
      have hlt : d < N := by simpa [dstB] using hd
      by_cases ht : t = d
      · subst ht
        have : (a.tmps.setIfInBounds t v).getD t undef = v := by simp [Array.getD_eq_getD_getElem?, h.size, hlt]
        simp only [upA, Act.put, this, if_true]; exact hr
      · have : (a.tmps.setIfInBounds d v).getD t undef = a.tmps.getD t undef := by
          rw [Array.getD_eq_getD_getElem?, Array.getElem?_setIfInBounds_ne (fun h => ht h.symm), ← Array.getD_eq_getD_getElem?]
        simp only [upA, Act.put, this, if_neg ht]; exact hs.keep _ _ (h.sl t)

section
variable {M : Mode} {P : Program} {N : Nat} {Q : AQ} {e : Nat → AV} {mem : List Ob}

def ThenA (K : (Nat → AV) → List Ob → Prop) (Q : AQ) : AQ
  | .normal, e, mem => K e mem
  | x, e, mem => Q x e mem
theorem aw_seq {x y : Code} (h : AW M P N x (ThenA (AW M P N y Q) Q) e mem) : AW M P N (.seq x y) Q e mem := by
  intro F n hF pb w0 θ a w hf
  refine wpIn_seq (wpIn_mono (h F n hF pb w0 θ a w hf) ?_)
  rintro x a' w' ⟨e', mem', θ', h1, hst, h2⟩
  cases x with
  | normal => exact wpIn_mono (h2 F n hF pb w0 θ' a' w' h1) fun _ _ _ hq => hq.after hst
  | _ => exact ⟨e', mem', θ', h1, hst, h2⟩
theorem aw_cond {c : Operand} {x y : Code} {t : Bool} (hc : evA e c = .v (.bool t)) (ht : t = true → AW M P N x Q e mem) (hf : t = false → AW M P N y Q e mem) : AW M P N (.cond c x y) Q e mem := by
  intro F n hF pb w0 θ a w hfit
  have hv : a.eval c = .bool t := by
    cases c with
    | tmp s => have := hfit.sl s; rw [show e s = .v (.bool t) from hc] at this; exact this.val
    | const v => exact (show v = .bool t by simpa [evA] using hc)
    | global g => cases hc
    | func f => cases hc
  refine wpIn_cond_split hv (fun h => ht h F n hF pb w0 θ a w hfit) (fun h => hf h F n hF pb w0 θ a w hfit)
theorem aw_skip (h : Q .normal e mem) : AW M P N .skip Q e mem := fun _ _ _ _ _ θ _ _ hf => wpIn_skip ⟨e, mem, θ, hf, Step.refl hf.sim, h⟩
theorem aw_exit {id : Nat} (h : Q (.exit id) e mem) : AW M P N (.exit id) Q e mem := fun _ _ _ _ _ θ _ _ hf => wpIn_exit ⟨e, mem, θ, hf, Step.refl hf.sim, h⟩
theorem aw_ret (h : Q .ret e mem) : AW M P N .ret Q e mem := fun _ _ _ _ _ θ _ _ hf => wpIn_ret ⟨e, mem, θ, hf, Step.refl hf.sim, h⟩
def BlockA (id : Nat) (Q : AQ) : AQ
  | .exit i, e, mem => if i = id then Q .normal e mem else Q (.exit i) e mem
  | x, e, mem => Q x e mem
theorem aw_block {id : Nat} {c : Code} (h : AW M P N c (BlockA id Q) e mem) : AW M P N (.block id c) Q e mem := by
  intro F n hF pb w0 θ a w hf
  refine wpIn_block (wpIn_mono (h F n hF pb w0 θ a w hf) ?_)
  rintro x a' w' ⟨e', mem', θ', h1, hst, h2⟩
  cases x with
  | exit i =>
    simp only [BlockA] at h2
    simp only [Exit.inBlock]
    by_cases hi : i = id
    · rw [if_pos hi] at h2 ⊢; exact ⟨e', mem', θ', h1, hst, h2⟩
    · rw [if_neg hi] at h2 ⊢; exact ⟨e', mem', θ', h1, hst, h2⟩
  | _ => exact ⟨e', mem', θ', h1, hst, h2⟩

theorem least_of {p : Nat → Prop} : ∀ n, p n → ∃ m, p m ∧ ∀ k, p k → m ≤ k := by
  intro n
  induction n using Nat.strongRecOn with
  | _ n ih =>
    intro hn
    by_cases h : ∃ m, m < n ∧ p m
    · obtain ⟨m, hm, hp⟩ := h; exact ih m hm hp
    · exact ⟨n, hn, fun k hk => Nat.le_of_not_lt fun hlt => h ⟨k, hlt, hk⟩⟩
open Classical in
noncomputable def leastN (p : Nat → Prop) : Nat := if h : ∃ m, p m ∧ ∀ k, p k → m ≤ k then Classical.choose h else 0
theorem leastN_spec {p : Nat → Prop} {n : Nat} (hn : p n) : p (leastN p) ∧ ∀ k, p k → leastN p ≤ k := by
  have h := least_of n hn
  unfold leastN
  rw [dif_pos h]
  exact Classical.choose_spec h
/-- A loop by a relation that a state names, and a measure of the state. -/
theorem aw_loop {S : Type} {c : Code} (I : S → (Nat → AV) → List Ob → Prop) (μ : S → Nat) (s0 : S) (h0 : I s0 e mem)
    (round : ∀ s e mem, I s e mem → AW M P N c (ThenA (fun e' mem' => ∃ s', I s' e' mem' ∧ μ s' < μ s) Q) e mem) : AW M P N (.loop c) Q e mem := by
  intro F n hF pb w0 θ a w hf
  let p : Act → World → Nat → Prop := fun a' w' n => ∃ s e' mem' θ', Fit N pb w0 e' mem' θ' a' w' ∧ Step pb w0 θ mem w θ' mem' w' ∧ I s e' mem' ∧ μ s = n
  refine wpIn_loop (fun a w => ∃ n, p a w n) (fun a w => leastN (p a w)) ⟨_, s0, e, mem, θ, hf, Step.refl hf.sim, h0, rfl⟩ ?_
  rintro a w2 ⟨m, hn⟩
  obtain ⟨⟨s, e, mem, θ, h1, hst, h2, h3⟩, -⟩ := leastN_spec hn
  refine wpIn_mono (round s e mem h2 F n hF pb w0 θ a w2 h1) ?_
  rintro x a' w' ⟨e', mem', θ', h4, hst2, h5⟩
  cases x with
  | normal =>
    obtain ⟨s', h6, h7⟩ := h5
    have hp : p a' w' (μ s') := ⟨s', e', mem', θ', h4, hst.trans hst2, h6, rfl⟩
    have := (leastN_spec hp).2 _ hp
    exact ⟨⟨_, hp⟩, by omega⟩
  | _ => exact ⟨e', mem', θ', h4, hst.trans hst2, h5⟩
theorem aw_mono {c : Code} {Q' : AQ} (h : AW M P N c Q e mem) (hq : ∀ x e mem, Q x e mem → Q' x e mem) : AW M P N c Q' e mem := fun F n hF pb w0 θ a w hf =>
  wpIn_mono (h F n hF pb w0 θ a w hf) fun _ _ _ ⟨e', mem', θ', h1, hst, h2⟩ => ⟨e', mem', θ', h1, hst, hq _ _ _ h2⟩
/-- A piece of code by what holds behind it. -/
theorem aw_cut {c : Code} (M0 : (Nat → AV) → List Ob → Prop) {K : (Nat → AV) → List Ob → Prop} (h : AW M P N c (ThenA M0 Q) e mem) (hk : ∀ e mem, M0 e mem → K e mem) : AW M P N c (ThenA K Q) e mem :=
  aw_mono h fun x e mem hx => by cases x <;> first | exact hx | exact hk _ _ hx

/-- An operation that makes new blocks alone, and hands back this. -/
def OpRO (P : Program) (o : Oper) (e : Nat → AV) (mem : List Ob) (r : AV) : Prop :=
  ∀ (pb : Nat → Prop) (w0 : Bs) (θ : List Value) (w : World) (ev : Nat → Value), SimM pb w0 w θ mem → (∀ x ∈ o.op.operands, R1 θ (Prot pb θ mem) w (evA e x) (evE ev x)) →
    RelUpon P (fun v w' => R1 θ (Prot pb θ mem) w' r v ∧ Ext w w') ((execOp (evE ev) o).run P w)
/-- An operation that turns the objects into others. -/
def OpST (P : Program) (o : Oper) (e : Nat → AV) (mem : List Ob) (r : AV) (mem' : List Ob) : Prop :=
  ∀ (pb : Nat → Prop) (w0 : Bs) (θ : List Value) (w : World) (ev : Nat → Value), SimM pb w0 w θ mem → (∀ x ∈ o.op.operands, R1 θ (Prot pb θ mem) w (evA e x) (evE ev x)) →
    RelUpon P (fun v w' => ∃ θ', R1 θ' (Prot pb θ' mem') w' r v ∧ Step pb w0 θ mem w θ' mem' w') ((execOp (evE ev) o).run P w)
theorem OpRO.st {o : Oper} {r : AV} (h : OpRO P o e mem r) : OpST P o e mem r mem := fun pb w0 θ w ev hs hx =>
  RelUpon.mono (fun _ _ ⟨h1, h2⟩ => ⟨θ, h1, Step.ext hs h2⟩) (h pb w0 θ w ev hs hx)

/-- An operation that makes one new object, its value this object's handle. -/
def OpNW (P : Program) (o : Oper) (e : Nat → AV) (mem : List Ob) (ob : Ob) (h : Nat → AV) : Prop :=
  ∀ (pb : Nat → Prop) (w0 : Bs) (θ : List Value) (w : World) (ev : Nat → Value), SimM pb w0 w θ mem → (∀ x ∈ o.op.operands, R1 θ (Prot pb θ mem) w (evA e x) (evE ev x)) →
    RelUpon P (fun v w' => Ext w w' ∧ (∀ b, baseOf v = some b → w.heap.size ≤ b) ∧ (∀ θ' pr, (∀ a x, R1 θ (Prot pb θ mem) w a x → R1 θ' pr w' a x) → ObR θ' pr w0.okb w' v ob) ∧ ∀ θ' pr j, θ'[j]? = some v → R1 θ' pr w' (h j) v) ((execOp (evE ev) o).run P w)
theorem nw_st {o : Oper} {ob : Ob} {h : Nat → AV} {m : Nat} (hn : OpNW P o e mem ob h) (hl : mem.length = m) : OpST P o e mem (h m) (mem ++ [ob]) := fun pb w0 θ w ev hs hx =>
  RelUpon.mono (fun v w' ⟨h1, h2, h3, h4⟩ => ⟨θ ++ [v], h4 _ _ _ (by rw [← hl, ← hs.len]; simp), Step.new hs h1 v ob h2 h3⟩) (hn pb w0 θ w ev hs hx)

/-- An operation that writes one object. -/
def OpSET (P : Program) (o : Oper) (e : Nat → AV) (mem : List Ob) (j : Nat) (ob : Ob) : Prop :=
  ∀ (pb : Nat → Prop) (w0 : Bs) (θ : List Value) (w : World) (ev : Nat → Value), SimM pb w0 w θ mem → (∀ x ∈ o.op.operands, R1 θ (Prot pb θ mem) w (evA e x) (evE ev x)) →
    RelUpon P (fun v w' => v = undef ∧ Step pb w0 θ mem w θ (mem.set j ob) w') ((execOp (evE ev) o).run P w)
theorem set_st {o : Oper} {j : Nat} {ob : Ob} (h : OpSET P o e mem j ob) : OpST P o e mem (.v undef) (mem.set j ob) := fun pb w0 θ w ev hs hx =>
  RelUpon.mono (fun v w' ⟨h1, h2⟩ => ⟨θ, by subst h1; exact .ro (.v _), h2⟩) (h pb w0 θ w ev hs hx)

/-- The guard is met; it is not. -/
def Gd (ops : Array Oper) (o : Oper) (e : Nat → AV) : Prop := match o.guard with | none => True | some (j, b) => ∃ d, (ops[j]?).bind (·.dst) = some d ∧ evA e (.tmp d) = .v (.bool b)
def Ng (ops : Array Oper) (o : Oper) (e : Nat → AV) : Prop := match o.guard with | none => False | some (j, b) => ∃ d, (ops[j]?).bind (·.dst) = some d ∧ (evA e (.tmp d) = .v (.bool (!b)) ∨ evA e (.tmp d) = .v undef)
theorem yielded_of {ops : Array Oper} {a : Act} {j d : Nat} {b : Bool} (hd : (ops[j]?).bind (·.dst) = some d) (hv : a.tmps.getD d undef = .bool b) : yielded ops a.tmps j = some b := by
  unfold yielded
  rw [hd]
  simp only [Option.bind_some]
  rw [Array.getD_eq_getD_getElem?] at hv
  cases h : a.tmps[d]? with
  | none => rw [h] at hv; cases hv
  | some v => rw [h] at hv; simp at hv; subst hv; rfl
theorem yielded_undef {ops : Array Oper} {a : Act} {j d : Nat} (hd : (ops[j]?).bind (·.dst) = some d) (hv : a.tmps.getD d undef = undef) : yielded ops a.tmps j = none := by
  unfold yielded
  rw [hd]
  simp only [Option.bind_some]
  rw [Array.getD_eq_getD_getElem?] at hv
  cases h : a.tmps[d]? with
  | none => rfl
  | some v => rw [h] at hv; simp at hv; subst hv; rfl
theorem wanted_of {pb : Nat → Prop} {w0 : Bs} {w : World} {θ : List Value} {a : Act} {ops : Array Oper} {o : Oper} (hf : Fit N pb w0 e mem θ a w) (hg : Gd ops o e) : Region.wanted o (yielded ops a.tmps) = true := by
  unfold Region.wanted
  unfold Gd at hg
  cases h : o.guard with
  | none => rfl
  | some g =>
    obtain ⟨j, b⟩ := g
    rw [h] at hg
    obtain ⟨d, h1, h2⟩ := hg
    have h3 := hf.sl d
    rw [show e d = _ from h2] at h3
    simp [yielded_of h1 h3.val]
theorem unwanted_of {pb : Nat → Prop} {w0 : Bs} {w : World} {θ : List Value} {a : Act} {ops : Array Oper} {o : Oper} (hf : Fit N pb w0 e mem θ a w) (hg : Ng ops o e) : Region.wanted o (yielded ops a.tmps) = false := by
  unfold Region.wanted
  unfold Ng at hg
  cases h : o.guard with
  | none => rw [h] at hg; exact hg.elim
  | some g =>
    obtain ⟨j, b⟩ := g
    rw [h] at hg
    obtain ⟨d, h1, h2⟩ := hg
    have h3 := hf.sl d
    rcases h2 with h2 | h2
    · rw [show e d = _ from h2] at h3
      simp [yielded_of h1 h3.val]
    · rw [show e d = _ from h2] at h3
      simp [yielded_undef h1 h3.val]

section
variable {ops : Array Oper} {l : List Oper} {o : Oper}
theorem wpList_mono {Q1 Q2 : Act → World → Prop} (hq : ∀ a w, Q1 a w → Q2 a w) : ∀ {l : List Oper} {a : Act} {w : World}, wpList P ops (FallsA Q1) l a w → wpList P ops (FallsA Q2) l a w
  | [], _, _, h => hq _ _ h
  | o :: l, a, w, h => by
    have h' : (if Region.wanted o (yielded ops a.tmps) then o.wp P a w (wpList P ops (FallsA Q1) l) (FallsA Q1) ∨ (o.asks P a w ∧ LetsOut (FallsA Q1)) else wpList P ops (FallsA Q1) l (a.put o.dst undef) w) := h
    show (if Region.wanted o (yielded ops a.tmps) then _ else _)
    split
    · rename_i hw
      rw [if_pos hw] at h'
      rcases h' with h' | ⟨_, ⟨a', w', hf⟩⟩
      · refine .inl ?_
        unfold Oper.wp at h' ⊢
        generalize (execOp a.eval o).run P w = r at *
        cases r with
        | ok x w' =>
          cases x <;> simp only [Oper.upon] at h' ⊢
          case value v => exact wpList_mono hq h'
          case skip => exact wpList_mono hq h'
          case defer d => exact wpList_mono hq h'
          case enter f args =>
            refine h'.mono fun en w'' he => ?_
            cases en with
            | returned v => exact wpList_mono hq he
            | panicked ch => exact he.elim
            | outgrown => obtain ⟨_, _, hf⟩ := he; exact hf.elim
          case row row args => exact h'.mono fun v w'' he => wpList_mono hq he
        | halt x w' => cases x <;> simp only [Oper.upon] at h' <;> exact h'.elim
      · exact hf.elim
    · rename_i hw
      rw [if_neg hw] at h'
      exact wpList_mono hq h'
theorem al_nil (h : Q .normal e mem) : AL P N ops [] Q e mem := fun _ _ θ _ _ hf => ⟨e, mem, θ, hf, Step.refl hf.sim, h⟩
theorem evE_of (a : Act) : a.eval = evE (fun t => a.tmps.getD t undef) := eval_evE (fun _ => rfl)
theorem ops_of {pb : Nat → Prop} {w0 : Bs} {w : World} {θ : List Value} {a : Act} (hf : Fit N pb w0 e mem θ a w) (x : Operand) : R1 θ (Prot pb θ mem) w (evA e x) (evE (fun t => a.tmps.getD t undef) x) := by
  cases x with
  | tmp t => exact hf.sl t
  | const v => exact .ro (.v v)
  | global g => exact .ro (.v _)
  | func f => exact .ro (.v _)
theorem al_st {r : AV} {mem' : List Ob} (ho : OpST P o e mem r mem') (hg : Gd ops o e) (hd : dstB N o.dst = true) (h : AL P N ops l Q (upA e o.dst r) mem') : AL P N ops (o :: l) Q e mem := by
  intro pb w0 θ a w hf
  show (if Region.wanted o (yielded ops a.tmps) then _ else _)
  rw [if_pos (wanted_of hf hg)]
  refine .inl (Oper.wp_of_rel (φ := fun v w' => ∃ θ', R1 θ' (Prot pb θ' mem') w' r v ∧ Step pb w0 θ mem w θ' mem' w') ?_ ?_)
  · rintro v w' ⟨θ', h1, h2⟩
    exact wpList_mono (fun _ _ hq => hq.after h2) (h pb w0 θ' _ w' (hf.put h2 hd h1))
  · rw [evE_of]
    exact ho pb w0 θ w _ hf.sim fun x _ => ops_of hf x
theorem al_ro {r : AV} (ho : OpRO P o e mem r) (hg : Gd ops o e) (hd : dstB N o.dst = true) (h : AL P N ops l Q (upA e o.dst r) mem) : AL P N ops (o :: l) Q e mem := al_st ho.st hg hd h
theorem al_skip (hg : Ng ops o e) (hd : dstB N o.dst = true) (h : AL P N ops l Q (upA e o.dst (.v undef)) mem) : AL P N ops (o :: l) Q e mem := by
  intro pb w0 θ a w hf
  show (if Region.wanted o (yielded ops a.tmps) then _ else _)
  rw [if_neg (by rw [unwanted_of hf hg]; exact Bool.false_ne_true)]
  exact h pb w0 θ _ w (hf.put (Step.ext hf.sim (Ext.refl w)) hd (.ro (.v _)))
theorem aw_turn {c : Code} {e' : Nat → AV} {mem' : List Ob} (ht : ∀ pb w0 θ w, SimM pb w0 w θ mem → ∃ θ', Step pb w0 θ mem w θ' mem' w ∧ ∀ t x, R1 θ (Prot pb θ mem) w (e t) x → R1 θ' (Prot pb θ' mem') w (e' t) x) (h : AW M P N c Q e' mem') : AW M P N c Q e mem :=
  fun F n hF pb w0 θ a w hf => let ⟨θ', h1, h2⟩ := ht pb w0 θ w hf.sim; wpIn_mono (h F n hF pb w0 θ' a w ⟨hf.size, hf.dfr.step h1, fun t => h2 t _ (hf.sl t), h1.sim⟩) fun _ _ _ hq => hq.after h1
end
/-- No operation of a list is a defer statement. -/
def noDefer (l : List Oper) : Bool := l.all fun o => match o.op with | .defer _ => false | _ => true
theorem rowsIn_roundA {n l0 : Nat} {row : String} {args : Array Value} {w : World} {R : Value → World → Prop} (h : Rows P row args w R) : RowsIn (Fence.wide.inRound l0) n P row args w R :=
  fun c cs _ => let ⟨v, w', r, s⟩ := h c cs; ⟨v, w', r, by rw [fenced_inRound]; exact stepsIn_wide.2 s⟩
theorem oneIn_of_one {n l0 : Nat} {Q : Exit → Act → World → Prop} {K : Act → World → Prop} {o : Oper} (hnd : ∀ c, o.op ≠ .defer c) {X X' : Act → World → Prop} (hX : ∀ a w, X a w → X' a w) {a : Act} {w : World}
    (h : o.wp P a w X (FallsA K) ∨ (o.asks P a w ∧ LetsOut (FallsA K))) : o.wpIn (Fence.wide.inRound l0) n P a w X' Q := by
  rcases h with h | ⟨_, ⟨a', w', hf⟩⟩
  · refine ⟨fun f _ => trivial, ?_⟩
    rw [Oper.semAt_eq _ _ _ hnd]
    unfold Oper.wp at h
    generalize (execOp a.eval o).run P w = r at *
    cases r with
    | ok x w' =>
      cases x <;> simp only [Oper.upon] at h <;> simp only [Oper.uponIn]
      case value v => exact hX _ _ h
      case skip => exact hX _ _ h
      case defer d => exact hX _ _ h
      case enter f args =>
        refine ⟨fun hn => (by cases hn), CallsIn.inRound l0 (callsIn_wide.2 (h.mono fun e w'' he => ?_))⟩
        cases e with
        | returned v => exact hX _ _ he
        | panicked ch => exact he.elim
        | outgrown => obtain ⟨_, _, hf⟩ := he; exact hf.elim
      case row row args => exact ⟨fun hn => (by cases hn), rowsIn_roundA (h.mono fun v w'' he => hX _ _ he)⟩
    | halt x w' => cases x <;> simp only [Oper.upon] at h <;> exact h.elim
  · exact hf.elim
theorem listIn_of_list {n l0 : Nat} {ops : Array Oper} {Q : Exit → Act → World → Prop} {K : Act → World → Prop} (hQ : ∀ a w, K a w → Q .normal a w) : ∀ {l : List Oper}, noDefer l = true → ∀ {a : Act} {w : World}, wpList P ops (FallsA K) l a w → wpListIn (Fence.wide.inRound l0) n P ops Q l a w
  | [], _, _, _, h => hQ _ _ h
  | o :: l, hd, a, w, h => by
    simp only [noDefer, List.all_cons, Bool.and_eq_true] at hd
    have hnd : ∀ c, o.op ≠ .defer c := fun c hc => by have := hd.1; rw [hc] at this; cases this
    have h' : (if Region.wanted o (yielded ops a.tmps) then o.wp P a w (wpList P ops (FallsA K) l) (FallsA K) ∨ (o.asks P a w ∧ LetsOut (FallsA K)) else wpList P ops (FallsA K) l (a.put o.dst undef) w) := h
    show (if Region.wanted o (yielded ops a.tmps) then _ else _)
    split
    · rename_i hw
      rw [if_pos hw] at h'
      exact oneIn_of_one hnd (fun a w hx => listIn_of_list hQ hd.2 hx) h'
    · rename_i hw
      rw [if_neg hw] at h'
      exact ⟨fun f _ => trivial, listIn_of_list hQ hd.2 h'⟩
theorem anyIn_of_anyA {n l0 : Nat} {md : Region.Mode} {ops : Array Oper} {Q : Exit → Act → World → Prop} {K : Act → World → Prop} (hQ : ∀ a w, K a w → Q .normal a w) (hd : noDefer ops.toList = true) : ∀ {m : Nat} {listed : Array Bool} {a : Act} {w : World}, wpAny P md ops (FallsA K) m listed a w → wpAnyIn (Fence.wide.inRound l0) n P md ops Q m listed a w
  | 0, _, _, _, h => ⟨h.1, hQ _ _ h.2⟩
  | m + 1, _, _, _, h => ⟨fun e => hQ _ _ (h.1 e), fun i hi => by
    have h2 := h.2 i hi
    unfold wpOp at h2
    unfold wpOpIn
    cases ho : ops[i]? with
    | none => simp only [ho] at h2 ⊢; exact anyIn_of_anyA hQ hd h2
    | some o =>
      simp only [ho] at h2 ⊢
      have hnd : ∀ c, o.op ≠ .defer c := fun c hc => by
        have := List.all_eq_true.1 hd o (by have := Array.mem_of_getElem? ho; simpa using this)
        rw [hc] at this; cases this
      split
      · rename_i hw
        rw [if_pos hw] at h2
        exact oneIn_of_one hnd (fun a w hx => anyIn_of_anyA hQ hd hx) h2
      · rename_i hw
        rw [if_neg hw] at h2
        exact ⟨fun f _ => trivial, anyIn_of_anyA hQ hd h2⟩⟩
theorem falls_mono {K : Act → World → Prop} {Q : Exit → Act → World → Prop} (h : ∀ a w, K a w → Q .normal a w) : ∀ x a w, FallsA K x a w → Q x a w := fun x a w hx => by
  cases x <;> first | exact h a w hx | exact hx.elim
theorem aw_text {id : Nat} {l : List Oper} (hd : noDefer l = true) (h : AL P N l.toArray l Q e mem) : AW M P N (.region id l.toArray false) Q e mem := by
  intro F n hF pb w0 θ a w hf
  rcases Mode.fok hF with rfl | ⟨l0, rfl⟩
  · exact wpIn_wide.2 (wp_mono (wp_region_lit (h pb w0 θ a w hf)) (falls_mono fun _ _ h => h))
  · exact wpIn_region_lit (listIn_of_list (fun _ _ h => h) hd (h pb w0 θ a w hf))
/-- A region that draws its order, by what holds in any order. -/
theorem aw_any {id : Nat} {l : List Oper} (hm : P.follows .mixedOrders = true) (hd : noDefer l = true) (h : ∀ pb w0 θ a w, Fit N pb w0 e mem θ a w → wpAny P .any l.toArray (FallsA (LQ N pb w0 θ mem w Q .normal)) l.toArray.size (Array.replicate l.toArray.size false) a { w with drawn := w.drawn + 1 }) : AW M P N (.region id l.toArray true) Q e mem := by
  intro F n hF pb w0 θ a w hf
  rcases Mode.fok hF with rfl | ⟨l0, rfl⟩
  · exact wpIn_wide.2 (wp_mono (wp_region_any hm (h pb w0 θ a w hf)) (falls_mono fun _ _ h => h))
  · exact wpIn_region_any hm (anyIn_of_anyA (fun _ _ h => h) (by simpa using hd) (h pb w0 θ a w hf))
end

theorem up_h {e : Nat → AV} {t : Tmp} {r : AV} : evA (upA e (some t) r) (.tmp t) = r := if_pos rfl
theorem up_m {e : Nat → AV} {t d : Tmp} {r a : AV} (hd : (t == d) = false) (h : evA e (.tmp t) = a) : evA (upA e (some d) r) (.tmp t) = a := by
  have : t ≠ d := by simpa using hd
  show (if t = d then r else e t) = a
  rw [if_neg this]; exact h
theorem up_n {e : Nat → AV} {t : Tmp} {r a : AV} (h : evA e (.tmp t) = a) : evA (upA e none r) (.tmp t) = a := h

/-- A function's contract: of what is read alone, to what is read alone. -/
def FnOk (P : Program) (f : FuncId) (args : List AV) (ψ : AV → Prop) : Prop :=
  ∀ (pr : Nat → Prop) (w : World) (vs : List Value), vs.length = args.length → (∀ (i : Nat) (a : AV) (x : Value), args[i]? = some a → vs[i]? = some x → R0 pr w a x) →
    Calls P f vs.toArray w fun en w' => ∃ r v, en = .returned v ∧ ψ r ∧ R0 (fun b => pr b ∧ b < w.heap.size) w' r v ∧ Ext w w'
theorem FnOk.mono {P : Program} {f : FuncId} {args : List AV} {ψ ψ' : AV → Prop} (h : FnOk P f args ψ) (hp : ∀ r, ψ r → ψ' r) : FnOk P f args ψ' := fun pr w vs h1 h2 =>
  (h pr w vs h1 h2).mono fun _ _ ⟨r, v, h3, h4, h5⟩ => ⟨r, v, h3, hp r h4, h5⟩
theorem FnOk.args {P : Program} {f : FuncId} {args args' : List AV} {ψ : AV → Prop} (h : FnOk P f args ψ) (he : args' = args) : FnOk P f args' ψ := he ▸ h

def ent (args : List AV) : Nat → AV := fun t => args.getD t (.v undef)
end Go.Proofs.YtgiiedpambimoaaDoor

/- The abstract machine's rules for operations that make new blocks alone. No conditions on a program. -/
namespace Go.Proofs.YtgiiedpambimoaaDoor
open Go Go.RowKit
set_option linter.unusedVariables false
set_option linter.unusedSimpArgs false

section
variable {P : Program} {e : Nat → AV} {mem : List Ob} {d : Option Tmp} {ty t t2 : TypeId} {pos : String} {af : Array Edge} {g : Option (Nat × Bool)} {x y z : Operand}

/-- By the operands' values alone. -/
theorem ro_pure {o : Oper} (c : Value) (h : ∀ ev : Nat → Value, (∀ x ∈ o.op.operands, ∀ v, evA e x = .v v → evE ev x = v) → ∀ w, (execOp (evE ev) o).run P w = .ok (.value c) w) : OpRO P o e mem (.v c) := by
  intro pb w0 θ w ev hs hx
  rw [h ev (fun x hm v hv => by have := hx x hm; rw [hv] at this; exact this.val) w]
  exact ⟨.ro (.v c), Ext.refl w⟩
theorem ro_move {r : AV} (hx : evA e x = r) : OpRO P ⟨d, .move x, ty, pos, af, g⟩ e mem r := by
  intro pb w0 θ w ev hs h
  have := h x (by simp [Op.operands])
  rw [hx] at this
  exact ⟨this, Ext.refl w⟩
theorem ro_assign {r : AV} (hx : evA e x = r) : OpRO P ⟨d, .assign x, ty, pos, af, g⟩ e mem r := by
  intro pb w0 θ w ev hs h
  have := h x (by simp [Op.operands])
  rw [hx] at this
  exact ⟨this, Ext.refl w⟩
theorem ro_pickT {r : AV} (hx : evA e x = .v (.bool true)) (hy : evA e y = r) : OpRO P ⟨d, .pick x y z, ty, pos, af, g⟩ e mem r := by
  intro pb w0 θ w ev hs h
  have h1 := h x (by simp [Op.operands])
  have h2 := h y (by simp [Op.operands])
  rw [hx] at h1; rw [hy] at h2
  rw [ex_pickT (d := d) (z := z) h1.val rfl]
  exact ⟨h2, Ext.refl w⟩
theorem ro_pickF {r : AV} (hx : evA e x = .v (.bool false)) (hz : evA e z = r) : OpRO P ⟨d, .pick x y z, ty, pos, af, g⟩ e mem r := by
  intro pb w0 θ w ev hs h
  have h1 := h x (by simp [Op.operands])
  have h2 := h z (by simp [Op.operands])
  rw [hx] at h1; rw [hz] at h2
  rw [ex_pickF (d := d) (y := y) h1.val rfl]
  exact ⟨h2, Ext.refl w⟩
theorem ro_bin {op : BinOp} {a b c : Value} (hx : evA e x = .v a) (hy : evA e y = .v b) (h : ∀ w, (do eqGuard op t x y a b; binOp op t a b : Sem Value).run P w = .ok c w) : OpRO P ⟨d, .binOp op t x y t2, ty, pos, af, g⟩ e mem (.v c) :=
  ro_pure c fun ev he w => by
    rw [ex_binOp (he x (by simp [Op.operands]) a hx) (he y (by simp [Op.operands]) b hy), Sem.run_bind, h w]; rfl
section
variable {k : IntKind} {m n : Int}
theorem guard_int {op : BinOp} {k k' : IntKind} {m n : Int} (w : World) : (eqGuard op t x y (.int k m) (.int k' n)).run P w = .ok () w := by
  unfold eqGuard; split <;> rfl
theorem ro_int {op : BinOp} {c : Value} (hx : evA e x = .v (.int k m)) (hy : evA e y = .v (.int k n)) (h : ∀ w, (binOp op t (.int k m) (.int k n)).run P w = .ok c w) : OpRO P ⟨d, .binOp op t x y t2, ty, pos, af, g⟩ e mem (.v c) :=
  ro_bin hx hy fun w => by rw [Sem.run_bind, guard_int w]; exact h w
theorem bin_kk {op : BinOp} (hop : op ≠ .shl ∧ op ≠ .shr) (w : World) : (binOp op t (.int k m) (.int k n)).run P w = (match op with
    | .add | .sub | .mul => Op.intArith op k m n
    | .quo | .rem => Op.intDiv op k m n
    | .and | .or | .xor | .andNot => Op.intBits op k m n
    | _ => Op.intCmp op m n : Sem Value).run P w := by
  cases op <;> first | (exact absurd rfl hop.1) | (exact absurd rfl hop.2) | simp [binOp]
theorem ro_add (hx : evA e x = .v (.int k m)) (hy : evA e y = .v (.int k n)) : OpRO P ⟨d, .binOp .add t x y t2, ty, pos, af, g⟩ e mem (.v (.int k (k.wrap (m + n)))) :=
  ro_int hx hy fun w => by rw [bin_kk ⟨by decide, by decide⟩]; rfl
theorem ro_sub (hx : evA e x = .v (.int k m)) (hy : evA e y = .v (.int k n)) : OpRO P ⟨d, .binOp .sub t x y t2, ty, pos, af, g⟩ e mem (.v (.int k (k.wrap (m - n)))) :=
  ro_int hx hy fun w => by rw [bin_kk ⟨by decide, by decide⟩]; rfl
theorem ro_mul (hx : evA e x = .v (.int k m)) (hy : evA e y = .v (.int k n)) : OpRO P ⟨d, .binOp .mul t x y t2, ty, pos, af, g⟩ e mem (.v (.int k (k.wrap (m * n)))) :=
  ro_int hx hy fun w => by rw [bin_kk ⟨by decide, by decide⟩]; rfl
theorem ro_quo (hx : evA e x = .v (.int k m)) (hy : evA e y = .v (.int k n)) (h0 : n ≠ 0) : OpRO P ⟨d, .binOp .quo t x y t2, ty, pos, af, g⟩ e mem (.v (.int k (k.wrap (m.tdiv n)))) :=
  ro_int hx hy fun w => by rw [bin_kk ⟨by decide, by decide⟩]; simp only [Op.intDiv]; rw [if_neg h0]; rfl
theorem ro_rem (hx : evA e x = .v (.int k m)) (hy : evA e y = .v (.int k n)) (h0 : n ≠ 0) : OpRO P ⟨d, .binOp .rem t x y t2, ty, pos, af, g⟩ e mem (.v (.int k (m.tmod n))) :=
  ro_int hx hy fun w => by rw [bin_kk ⟨by decide, by decide⟩]; simp only [Op.intDiv]; rw [if_neg h0]; rfl
-- without a wrap
def In64 (n : Int) : Prop := -9223372036854775808 ≤ n ∧ n ≤ 9223372036854775807
theorem wrap_in {n : Int} (h : In64 n) : IntKind.i64.wrap n = n := by rw [wrap_eq]; unfold In64 at h; unfold wrap64; omega
theorem ro_add' (hx : evA e x = .v (.int .i64 m)) (hy : evA e y = .v (.int .i64 n)) (h : In64 (m + n)) : OpRO P ⟨d, .binOp .add t x y t2, ty, pos, af, g⟩ e mem (.v (.int .i64 (m + n))) := by
  have := ro_add (P := P) (mem := mem) (d := d) (ty := ty) (t := t) (t2 := t2) (pos := pos) (af := af) (g := g) hx hy; rwa [wrap_in h] at this
theorem ro_sub' (hx : evA e x = .v (.int .i64 m)) (hy : evA e y = .v (.int .i64 n)) (h : In64 (m - n)) : OpRO P ⟨d, .binOp .sub t x y t2, ty, pos, af, g⟩ e mem (.v (.int .i64 (m - n))) := by
  have := ro_sub (P := P) (mem := mem) (d := d) (ty := ty) (t := t) (t2 := t2) (pos := pos) (af := af) (g := g) hx hy; rwa [wrap_in h] at this
theorem ro_mul' (hx : evA e x = .v (.int .i64 m)) (hy : evA e y = .v (.int .i64 n)) (h : In64 (m * n)) : OpRO P ⟨d, .binOp .mul t x y t2, ty, pos, af, g⟩ e mem (.v (.int .i64 (m * n))) := by
  have := ro_mul (P := P) (mem := mem) (d := d) (ty := ty) (t := t) (t2 := t2) (pos := pos) (af := af) (g := g) hx hy; rwa [wrap_in h] at this
theorem ro_quo' (hx : evA e x = .v (.int .i64 m)) (hy : evA e y = .v (.int .i64 n)) (h0 : n ≠ 0) (h : In64 (m.tdiv n)) : OpRO P ⟨d, .binOp .quo t x y t2, ty, pos, af, g⟩ e mem (.v (.int .i64 (m.tdiv n))) := by
  have := ro_quo (P := P) (mem := mem) (d := d) (ty := ty) (t := t) (t2 := t2) (pos := pos) (af := af) (g := g) hx hy h0; rwa [wrap_in h] at this
theorem ro_lss (hx : evA e x = .v (.int k m)) (hy : evA e y = .v (.int k n)) : OpRO P ⟨d, .binOp .lss t x y t2, ty, pos, af, g⟩ e mem (.v (.bool (decide (m < n)))) :=
  ro_int hx hy fun w => by rw [bin_kk ⟨by decide, by decide⟩]; rfl
theorem ro_leq (hx : evA e x = .v (.int k m)) (hy : evA e y = .v (.int k n)) : OpRO P ⟨d, .binOp .leq t x y t2, ty, pos, af, g⟩ e mem (.v (.bool (decide (m ≤ n)))) :=
  ro_int hx hy fun w => by rw [bin_kk ⟨by decide, by decide⟩]; rfl
theorem ro_gtr (hx : evA e x = .v (.int k m)) (hy : evA e y = .v (.int k n)) : OpRO P ⟨d, .binOp .gtr t x y t2, ty, pos, af, g⟩ e mem (.v (.bool (decide (n < m)))) :=
  ro_int hx hy fun w => by rw [bin_kk ⟨by decide, by decide⟩]; rfl
theorem ro_geq (hx : evA e x = .v (.int k m)) (hy : evA e y = .v (.int k n)) : OpRO P ⟨d, .binOp .geq t x y t2, ty, pos, af, g⟩ e mem (.v (.bool (decide (n ≤ m)))) :=
  ro_int hx hy fun w => by rw [bin_kk ⟨by decide, by decide⟩]; rfl
theorem beq_dec (m n : Int) : (m == n) = decide (m = n) := by rw [Bool.eq_iff_iff]; simp
theorem ro_eql (hx : evA e x = .v (.int k m)) (hy : evA e y = .v (.int k n)) : OpRO P ⟨d, .binOp .eql t x y t2, ty, pos, af, g⟩ e mem (.v (.bool (decide (m = n)))) :=
  ro_int hx hy fun w => by rw [bin_kk ⟨by decide, by decide⟩]; simp [Op.intCmp, beq_dec]
theorem ro_neq (hx : evA e x = .v (.int k m)) (hy : evA e y = .v (.int k n)) : OpRO P ⟨d, .binOp .neq t x y t2, ty, pos, af, g⟩ e mem (.v (.bool (!decide (m = n)))) :=
  ro_int hx hy fun w => by rw [bin_kk ⟨by decide, by decide⟩]; simp [Op.intCmp, bne, beq_dec]
end
theorem ro_un {op : UnOp} {a c : Value} (hx : evA e x = .v a) (h : ∀ w, (Op.unary op a).run P w = .ok c w) : OpRO P ⟨d, .unOp op t x, ty, pos, af, g⟩ e mem (.v c) :=
  ro_pure c fun ev he w => by rw [ex_unOp (he x (by simp [Op.operands]) a hx), Sem.run_bind, h w]; rfl
theorem ro_neg {m : Int} {k : IntKind} (hx : evA e x = .v (.int k m)) : OpRO P ⟨d, .unOp .neg t x, ty, pos, af, g⟩ e mem (.v (.int k (k.wrap (-m)))) :=
  ro_un hx fun w => by simp [Op.unary, Op.intArith]
theorem ro_neg' {m : Int} (hx : evA e x = .v (.int .i64 m)) (h : In64 (-m)) : OpRO P ⟨d, .unOp .neg t x, ty, pos, af, g⟩ e mem (.v (.int .i64 (-m))) := by
  have := ro_neg (P := P) (mem := mem) (d := d) (ty := ty) (t := t) (pos := pos) (af := af) (g := g) hx; rwa [wrap_in h] at this
theorem ro_not {b : Bool} (hx : evA e x = .v (.bool b)) : OpRO P ⟨d, .unOp .not t x, ty, pos, af, g⟩ e mem (.v (.bool (!b))) := ro_un hx fun w => rfl
theorem ro_extract {i : Nat} {l : List AV} (hx : evA e x = .tuple l) {r : AV} (hr : l[i]? = some r) : OpRO P ⟨d, .extract x i, ty, pos, af, g⟩ e mem r := by
  intro pb w0 θ w ev hs h
  have h1 := h x (by simp [Op.operands])
  rw [hx] at h1
  obtain ⟨xs, h2, h3, h4⟩ := h1.getTuple
  have hi : i < xs.length := by rw [h3]; exact (List.getElem?_eq_some_iff.1 hr).1
  rw [ex_extract h2]
  have : (Instr.extract (.tuple xs.toArray) i) = pure xs[i] := by
    unfold Instr.extract
    simp [hi]
  rw [this]
  exact ⟨h4 i r xs[i] hr (List.getElem?_eq_getElem hi), Ext.refl w⟩

/-- A cell or cells of a flat list, as a value of a type. -/
def packA (row : Bool) (n : Nat) (l : List AV) : AV := if row then .agg (l.take n) else l.headD .any
/-- What a type is: whether its values lie in several cells, how many. -/
def TyIs (P : Program) (t : TypeId) (row : Bool) (n : Nat) : Prop := (match P.underlying t with | some d => some d.isRow | none => none) = some row ∧ (P.info? t).map (·.size) = some n
theorem TyIs.desc {t : TypeId} {row : Bool} {n : Nat} (h : TyIs P t row n) : ∃ d, P.underlying t = some d ∧ d.isRow = row := by
  have := h.1
  cases hu : P.underlying t with
  | none => rw [hu] at this; cases this
  | some d => rw [hu] at this; exact ⟨d, rfl, by simpa using this⟩
theorem TyIs.agg {t : TypeId} {row : Bool} {n : Nat} (h : TyIs P t row n) (w : World) : (isAgg t).run P w = .ok row w := by
  obtain ⟨d, h1, h2⟩ := h.desc
  unfold isAgg
  rw [Sem.run_bind, run_underlying h1 w]
  subst h2
  cases d <;> rfl
theorem TyIs.sizeOf {t : TypeId} {row : Bool} {n : Nat} (h : TyIs P t row n) (w : World) : (Go.sizeOf t).run P w = .ok n w := by
  have := h.2
  cases hq : P.info? t with
  | none => rw [hq] at this; cases this
  | some i => rw [hq] at this; simp at this; simp [Go.sizeOf, typeInfo, hq, this]
theorem ro_field {l : List AV} {i off n : Nat} {row : Bool} {fs : Array Field} {f : Field} (hx : evA e x = .agg l) (hu : P.underlying t = some (.struct fs)) (hf : fs[i]? = some f) (ho : f.offset = off) (ht : TyIs P f.type row n) (hn : off + n ≤ l.length) (h1 : row = true ∨ n = 1) :
    OpRO P ⟨d, .field t x i, ty, pos, af, g⟩ e mem (packA row n (l.drop off)) := by
  intro pb w0 θ w ev hs h
  have h1' := h x (by simp [Op.operands])
  rw [hx] at h1'
  obtain ⟨xs, h2, h3, h4⟩ := h1'.getAgg
  rw [ex_field h2, Sem.run_bind]
  unfold Instr.field
  rw [Sem.run_bind, run_underlying hu]
  simp only [Result.andThen_ok, hf, asAgg, Sem.run_bind, Sem.run_pure, part, ht.agg, ho]
  cases row with
  | true =>
    simp only [if_true, Sem.run_bind, ht.sizeOf, Result.andThen_ok, Sem.run_pure]
    refine ⟨?_, Ext.refl w⟩
    have : (xs.toArray.extract off (off + n)) = ((xs.drop off).take n).toArray := by simp [List.extract_toArray, List.extract_eq_take_drop]
    rw [this]
    refine .agg _ _ (by simp; omega) fun j a x ha hx => ?_
    have hj : j < n := by have := (List.getElem?_eq_some_iff.1 ha).1; simp at this; omega
    rw [List.getElem?_take_of_lt hj, List.getElem?_drop] at ha hx
    exact h4 _ a x ha hx
  | false =>
    have hn1 : n = 1 := h1.resolve_left (by simp)
    subst hn1
    have hlt : off < xs.length := by omega
    simp only [Bool.false_eq_true, if_false, List.getElem?_toArray, List.getElem?_eq_getElem hlt, Sem.run_pure, Result.andThen_ok]
    refine ⟨?_, Ext.refl w⟩
    have hl : off < l.length := by omega
    have : packA false 1 (l.drop off) = l[off] := by
      unfold packA
      simp only [Bool.false_eq_true, if_false, List.headD_eq_head?_getD, List.head?_drop, List.getElem?_eq_getElem hl, Option.getD_some]
    rw [this]
    exact h4 off _ _ (List.getElem?_eq_getElem hl) (List.getElem?_eq_getElem hlt)

/-- Cells that lie in memory, as the value of a type. -/
theorem run_load_cells {θ : List Value} {pr : Nat → Prop} {w : World} {row : Bool} {n : Nat} {cells : List AV} {b o : Nat} {f : Nat → Value} (ht : TyIs P t row n) (hn : n ≤ cells.length) (h1 : row = true ∨ n = 1)
    (hc : ∀ i, i < cells.length → w.cell? ⟨b, o + i, none⟩ = some (f i)) (hr : ∀ (i : Nat) (a : AV), cells[i]? = some a → R1 θ pr w a (f i)) :
    ∃ v, (Instr.loadAt t (.pointer (some ⟨b, o, none⟩))).run P w = .ok v w ∧ R1 θ pr w (packA row n cells) v := by
  obtain ⟨dd, hu, hrow⟩ := ht.desc
  cases row with
  | true =>
    refine ⟨_, run_loadAt_mid w b o t ((List.range n).map f) dd (fun j v hv => ?_) hu hrow (by rw [ht.2]; simp), ?_⟩
    · have hj : j < n := by have := (List.getElem?_eq_some_iff.1 hv).1; simpa using this
      rw [List.getElem?_map, List.getElem?_range hj] at hv
      simp at hv; subst hv
      exact hc j (by omega)
    · refine .agg _ _ (by simp; omega) fun j a x ha hx => ?_
      have hj : j < n := by have := (List.getElem?_eq_some_iff.1 hx).1; simpa using this
      rw [List.getElem?_map, List.getElem?_range hj] at hx
      rw [List.getElem?_take_of_lt hj] at ha
      simp at hx; subst hx
      exact hr j a ha
  | false =>
    have hn1 : n = 1 := h1.resolve_left (by simp)
    subst hn1
    have h0 := hc 0 (by omega)
    refine ⟨f 0, ?_, ?_⟩
    · simp only [Instr.loadAt, Instr.sureAddr, Sem.run_bind, Sem.run_pure, Result.andThen_ok, loadVar, ht.agg, Bool.false_eq_true, if_false]
      rw [Nat.add_zero] at h0
      simp [h0]
    · cases cells with
      | nil => simp at hn
      | cons a l => exact hr 0 a rfl
theorem ro_load_ref {n : Nat} {row : Bool} {cells : List AV} (hx : evA e x = .ref cells) (ht : TyIs P t row n) (hn : n ≤ cells.length) (h1 : row = true ∨ n = 1) : OpRO P ⟨d, .load t x, ty, pos, af, g⟩ e mem (packA row n cells) := by
  intro pb w0 θ w ev hs h
  have h1' := h x (by simp [Op.operands])
  rw [hx] at h1'
  generalize hv : evE ev x = p at h1'
  cases h1'.getRef with
  | ref _ b o f hb hp hc hr =>
    obtain ⟨v, h2, h3⟩ := run_load_cells (t := t) (θ := θ) ht hn h1 (fun i hi => hc i _ (List.getElem?_eq_getElem hi)) (fun i a ha => .ro (hr i a ha))
    rw [ex_load hv, Sem.run_bind, h2]
    exact ⟨h3, Ext.refl w⟩
theorem ro_load_ptr {j off n : Nat} {row : Bool} {T : TypeId} {cells : List AV} (hx : evA e x = .ptr j off) (hm : mem[j]? = some (.box T cells)) (ht : TyIs P t row n) (hn : off + n ≤ cells.length) (h1 : row = true ∨ n = 1) :
    OpRO P ⟨d, .load t x, ty, pos, af, g⟩ e mem (packA row n (cells.drop off)) := by
  intro pb w0 θ w ev hs h
  have h1' := h x (by simp [Op.operands])
  rw [hx] at h1'
  generalize hv : evE ev x = p at h1'
  obtain ⟨b, v, hθ, hbase, rfl⟩ := h1'.getPtr
  obtain ⟨b', xs, h3, rfl, h4, h5, h6⟩ := hs.ob j _ v hm hθ
  cases hbase
  obtain ⟨v, h2, h3⟩ := run_load_cells (P := P) (t := t) (θ := θ) (pr := Prot pb θ mem) (w := w) (b := b') (o := off) (cells := cells.drop off) (f := fun i => xs.getD (off + i) undef) ht (by simp; omega) h1
    (fun i hi => by
      have hlt : off + i < xs.length := by rw [h5]; simp at hi; omega
      rw [cell_of_row w b' (off + i) xs.toArray T (0, 0) h4]
      simp [hlt, List.getD_eq_getElem?_getD])
    (fun i a ha => by
      rw [List.getElem?_drop] at ha
      have hlt : off + i < xs.length := by rw [h5]; exact (List.getElem?_eq_some_iff.1 ha).1
      exact h6 (off + i) a _ ha (by simp [hlt, List.getD_eq_getElem?_getD]))
  rw [ex_load hv, Sem.run_bind, h2]
  exact ⟨h3, Ext.refl w⟩
/-- An element of a row of the call's own. -/
theorem own_cells {w : World} {base n k : Nat} {eT : TypeId} {v : Value} {xs : List Value} (h : w.ownsRow base eT k v n xs) {b : Nat} (hb : baseOf v = some b) (j : Nat) (u : Value) (hu : xs[j]? = some u) : w.cell? ⟨b, j, none⟩ = some u := by
  rcases h.2 with ⟨rfl, _⟩ | ⟨g, cap, cur, rfl, _⟩
  · cases hb
  · cases hb
    have := h.cells (g := g) rfl j u hu
    rwa [Addr.add_lit, Nat.zero_add] at this
theorem flat_get {α : Type} {k : Nat} : ∀ {els : List (List α)} {i j : Nat} {el : List α}, (∀ l ∈ els, l.length = k) → els[i]? = some el → j < k → els.flatten[i * k + j]? = el[j]?
  | [], i, j, el, _, h, _ => by simp at h
  | l :: els, 0, j, el, hk, h, hj => by
    simp at h; subst h
    have := hk l (by simp)
    rw [List.flatten_cons, Nat.zero_mul, Nat.zero_add, List.getElem?_append_left (by omega)]
  | l :: els, i + 1, j, el, hk, h, hj => by
    have hl := hk l (by simp)
    rw [List.flatten_cons, List.getElem?_append_right (by rw [hl, Nat.succ_mul]; omega), hl, show (i + 1) * k + j - k = i * k + j by rw [Nat.succ_mul]; omega]
    exact flat_get (fun l hm => hk l (by simp [hm])) (by simpa using h) hj
end
end Go.Proofs.YtgiiedpambimoaaDoor

/- The abstract machine's rules: addresses, literals, calls. No conditions on a program. -/
namespace Go.Proofs.YtgiiedpambimoaaDoor
open Go Go.RowKit
set_option linter.unusedVariables false
set_option linter.unusedSimpArgs false

section
variable {P : Program} {e : Nat → AV} {mem : List Ob} {d : Option Tmp} {ty t t2 : TypeId} {pos : String} {af : Array Edge} {g : Option (Nat × Bool)} {x y z : Operand}

theorem add_ne (b o n : Nat) : (⟨b, o, none⟩ : Addr).add n = ⟨b, o + n, none⟩ := by unfold Addr.add; split <;> simp_all
theorem run_fieldAt {fs : Array Field} {f : Field} {i n : Nat} {row : Bool} {b o : Nat} (hu : P.underlying t = some (.struct fs)) (hf : fs[i]? = some f) (ht : TyIs P f.type row n) (h0 : n ≠ 0) (w : World) :
    (Instr.fieldAt t (.pointer (some ⟨b, o, none⟩)) i).run P w = .ok (.pointer (some ⟨b, o + f.offset, none⟩)) w := by
  unfold Instr.fieldAt
  rw [Sem.run_bind, run_underlying hu]
  simp [hf, Instr.sureAddr, fieldPlace, ht.sizeOf, h0, Sem.run_bind, add_ne]
theorem ro_fieldAddr_ref {cells : List AV} {fs : Array Field} {f : Field} {i n off : Nat} {row : Bool} (hx : evA e x = .ref cells) (hu : P.underlying t = some (.struct fs)) (hf : fs[i]? = some f) (ho : f.offset = off) (ht : TyIs P f.type row n) (h0 : n ≠ 0) :
    OpRO P ⟨d, .fieldAddr t x i, ty, pos, af, g⟩ e mem (.ref (cells.drop off)) := by
  intro pb w0 θ w ev hs h
  have h1' := h x (by simp [Op.operands])
  rw [hx] at h1'
  generalize hv : evE ev x = p at h1'
  cases h1'.getRef with
  | ref _ b o q hb hp hc hr =>
    rw [ex_fieldAddr hv, Sem.run_bind, run_fieldAt hu hf ht h0]
    refine ⟨.ro (.ref _ _ _ (fun i => q (f.offset + i)) hb hp (fun i a ha => ?_) (fun i a ha => ?_)), Ext.refl w⟩
    · rw [List.getElem?_drop, ← ho] at ha
      rw [Nat.add_assoc]; exact hc _ a ha
    · rw [List.getElem?_drop, ← ho] at ha
      exact hr _ a ha
theorem ro_fieldAddr_ptr {j o : Nat} {fs : Array Field} {f : Field} {i n off : Nat} {row : Bool} (hx : evA e x = .ptr j o) (hu : P.underlying t = some (.struct fs)) (hf : fs[i]? = some f) (ho : f.offset = off) (ht : TyIs P f.type row n) (h0 : n ≠ 0) :
    OpRO P ⟨d, .fieldAddr t x i, ty, pos, af, g⟩ e mem (.ptr j (o + off)) := by
  intro pb w0 θ w ev hs h
  have h1' := h x (by simp [Op.operands])
  rw [hx] at h1'
  obtain ⟨b, v, hθ, hbase, hp⟩ := h1'.getPtr
  rw [ex_fieldAddr hp, Sem.run_bind, run_fieldAt hu hf ht h0, ho]
  exact ⟨.ptr j _ b v hθ hbase, Ext.refl w⟩

theorem run_indexAt {k len c b o : Nat} {eT : TypeId} {i : Int} {row : Bool} {kk : IntKind} (hu : P.underlying t = some (.slice eT)) (ht : TyIs P eT row k) (h0 : 0 ≤ i) (h1 : i < len) (w : World) :
    (Instr.indexAt t (.slice (some ⟨b, o, none⟩) len c) (.int kk i)).run P w = .ok (.pointer (some ⟨b, o + i.toNat * k, none⟩)) w := by
  unfold Instr.indexAt
  simp [asIntOf, run_underlying hu, h0, h1, ht.sizeOf, Sem.run_bind, add_ne]
/-- An element of a row that is read alone. -/
theorem ro_indexAddr {els : List (List AV)} {el : List AV} {k : Nat} {eT : TypeId} {i : Int} {row : Bool} {kk : IntKind} (hx : evA e x = .row k els) (hy : evA e y = .v (.int kk i)) (hu : P.underlying t = some (.slice eT)) (ht : TyIs P eT row k) (h0 : 0 ≤ i) (hel : els[i.toNat]? = some el) :
    OpRO P ⟨d, .indexAddr t x y, ty, pos, af, g⟩ e mem (.ref el) := by
  intro pb w0 θ w ev hs h
  have h1' := h x (by simp [Op.operands])
  have h2' := h y (by simp [Op.operands])
  rw [hx] at h1'; rw [hy] at h2'
  have hi : i.toNat < els.length := (List.getElem?_eq_some_iff.1 hel).1
  generalize hv : evE ev x = p at h1'
  cases h1'.getRow with
  | nil => simp at hi
  | row _ _ b o c q hne hc hk hb hp hcell hr =>
    rw [ex_indexAddr hv h2'.val, Sem.run_bind, run_indexAt hu ht h0 (by omega)]
    have hkl := hk el (List.mem_of_getElem? hel)
    refine ⟨.ro (.ref _ _ _ (fun j => q (i.toNat * k + j)) hb hp (fun j a ha => ?_) (fun j a ha => ?_)), Ext.refl w⟩
    · have hj : j < k := by have := (List.getElem?_eq_some_iff.1 ha).1; omega
      rw [Nat.add_assoc]
      exact hcell _ a (by rw [flat_get hk hel hj]; exact ha)
    · have hj : j < k := by have := (List.getElem?_eq_some_iff.1 ha).1; omega
      exact hr _ a (by rw [flat_get hk hel hj]; exact ha)
/-- len -/
theorem ro_len_row {els : List (List AV)} {k : Nat} {eT : TypeId} {ts : Array TypeId} (hx : evA e x = .row k els) (hts : ts[0]? = some t) (hu : P.underlying t = some (.slice eT)) : OpRO P ⟨d, .call ⟨.builtin .len, #[x], ts⟩, ty, pos, af, g⟩ e mem (.v (.int .i64 els.length)) := by
  intro pb w0 θ w ev hs h
  have h1' := h x (by simp [Op.operands, Call.operands])
  rw [hx] at h1'
  generalize hv : evE ev x = p at h1'
  rw [ex_builtin (ex_arg hv ex_arg0)]
  cases h1'.getRow <;> · simp [builtin, Builtin.len_, hts, run_underlying hu, goInt]; exact ⟨.ro (.v _), Ext.refl w⟩
theorem ro_max {m n : Int} {k : IntKind} {ts : Array TypeId} (hx : evA e x = .v (.int k m)) (hy : evA e y = .v (.int k n)) : OpRO P ⟨d, .call ⟨.builtin .max, #[x, y], ts⟩, ty, pos, af, g⟩ e mem (.v (.int k (max m n))) :=
  ro_pure _ fun ev he w => by
    rw [ex_builtin (ex_arg (he x (by simp [Op.operands, Call.operands]) _ hx) (ex_arg (he y (by simp [Op.operands, Call.operands]) _ hy) ex_arg0))]
    simp only [builtin, Sem.run_bind, run_max2, Result.andThen_ok, Sem.run_pure]
theorem ro_min {m n : Int} {k : IntKind} {ts : Array TypeId} (hx : evA e x = .v (.int k m)) (hy : evA e y = .v (.int k n)) : OpRO P ⟨d, .call ⟨.builtin .min, #[x, y], ts⟩, ty, pos, af, g⟩ e mem (.v (.int k (min m n))) :=
  ro_pure _ fun ev he w => by
    rw [ex_builtin (ex_arg (he x (by simp [Op.operands, Call.operands]) _ hx) (ex_arg (he y (by simp [Op.operands, Call.operands]) _ hy) ex_arg0))]
    simp only [builtin, Sem.run_bind, run_min2, Result.andThen_ok, Sem.run_pure]

/-- Of which no handle is part. -/
def roO : AV → Bool
  | .own _ | .ptr _ _ => false
  | .agg l | .tuple l => roL l
  | .clo _ l m => roL l && roL m
  | _ => true
where roL : List AV → Bool
  | [] => true
  | a :: l => roO a && roL l
theorem roL_get : ∀ {l : List AV} {i : Nat} {a : AV}, roO.roL l = true → l[i]? = some a → roO a = true
  | [], _, _, _, h => by simp at h
  | b :: l, 0, a, h, hi => by simp at hi; subst hi; simp only [roO.roL, Bool.and_eq_true] at h; exact h.1
  | b :: l, i + 1, a, h, hi => by simp only [roO.roL, Bool.and_eq_true] at h; exact roL_get h.2 (by simpa using hi)
theorem R1.ro0 {θ : List Value} {pr : Nat → Prop} {w : World} {a : AV} {x : Value} (h : R1 θ pr w a x) (hr : roO a = true) : R0 pr w a x := by
  induction h with
  | ro h => exact h
  | own j x h _ => simp [roO] at hr
  | ptr j off b x h h2 => simp [roO] at hr
  | agg l xs h1 _ ih => exact .agg l xs h1 fun i a x ha hx => ih i a x ha hx (roL_get (by simpa [roO] using hr) ha)
  | tuple l xs h1 _ ih => exact .tuple l xs h1 fun i a x ha hx => ih i a x ha hx (roL_get (by simpa [roO] using hr) ha)
  | clo fn l m xs ys h1 _ h3 _ ih1 ih2 =>
    simp only [roO, Bool.and_eq_true] at hr
    exact .clo fn l m xs ys h1 (fun i a x ha hx => ih1 i a x ha hx (roL_get hr.1 ha)) h3 (fun i a x ha hx => ih2 i a x ha hx (roL_get hr.2 ha))

theorem R0.back {pb : Nat → Prop} {w0 : Bs} {w w' : World} {θ : List Value} {mem : List Ob} (hs : SimM pb w0 w θ mem) {r : AV} {v : Value} (h : R0 (fun b => Prot pb θ mem b ∧ b < w.heap.size) w' r v) : R0 (Prot pb θ mem) w' r v :=
  h.mono (Nat.le_refl _) (fun _ _ _ => rfl) fun b _ hn hp => hn ⟨hp, by
    rcases hp with hp | ⟨j, o, v, h1, h2, h3, h4⟩
    · exact Nat.lt_of_lt_of_le (hs.low b hp).1 hs.ext.size
    · exact ((hs.ob j o v h1 h3).lt h2 h4).2⟩

/-- What an operand list stands for. -/
def evL (e : Nat → AV) (as : List Operand) : List AV := as.map (evA e)
theorem evL_nil : evL e [] = [] := rfl
theorem evL_cons {as : List Operand} {a : AV} {l : List AV} (h : evA e x = a) (h2 : evL e as = l) : evL e (x :: as) = a :: l := by subst h; subst h2; rfl
/-- A call of a function by its contract. -/
theorem ro_call {f : FuncId} {as : Array Operand} {ts : Array TypeId} {args : List AV} {r : AV} (hargs : evL e as.toList = args) (hro : roO.roL args = true) (hc : FnOk P f args (fun q => q = r)) (hcf : ∀ args w, (callFunc f args).run P w = .ok (.enter f args) w) :
    OpRO P ⟨d, .call ⟨.value (.func f), as, ts⟩, ty, pos, af, g⟩ e mem r := by
  intro pb w0 θ w ev hs h
  have hvs : (as.toList.map (evE ev)).length = args.length := by rw [← hargs]; simp [evL]
  rw [ex_call (f := .func (.func f) #[] #[]) rfl rfl]
  refine rel_call hcf ((hc (Prot pb θ mem) w _ hvs fun i a v ha hv => ?_).mono ?_)
  · have ha' := ha
    rw [← hargs, evL, List.getElem?_map] at ha'
    rw [List.getElem?_map] at hv
    cases hx : as.toList[i]? with
    | none => rw [hx] at hv; cases hv
    | some x =>
      rw [hx] at ha' hv
      simp at ha' hv
      subst ha' hv
      have hmem : x ∈ as := by have := List.mem_of_getElem? hx; simpa using this
      exact (h x (by simp [Op.operands, Call.operands, hmem])).ro0 (roL_get hro ha)
  · rintro en w' ⟨q, v, he, rfl, h4, h5⟩
    exact ⟨v, he, .ro (R0.back hs h4), h5⟩
theorem ro_makeFunc {fn : Fn} {fs cs : Array Operand} {l m : List AV} (h1 : evL e fs.toList = l) (h2 : evL e cs.toList = m) : OpRO P ⟨d, .makeFunc fn fs cs, ty, pos, af, g⟩ e mem (.clo fn l m) := by
  intro pb w0 θ w ev hs h
  have e1 : execOp (evE ev) ⟨d, .makeFunc fn fs cs, ty, pos, af, g⟩ = pure (.value (.func fn (fs.toList.map (evE ev)).toArray (cs.toList.map (evE ev)).toArray)) := by
    show (do pure (Next.value (← Instr.makeFunc fn (fs.map (evE ev)) (cs.map (evE ev)))) : Sem Next) = _
    have : ∀ (q : Array Operand), q.map (evE ev) = (q.toList.map (evE ev)).toArray := fun q => by apply Array.toList_inj.1; rw [Array.toList_map]
    rw [this, this]; rfl
  rw [e1]
  have key : ∀ (q : Array Operand), (∀ x ∈ q, R1 θ (Prot pb θ mem) w (evA e x) (evE ev x)) → ∀ (i : Nat) (a : AV) (x : Value), (evL e q.toList)[i]? = some a → (q.toList.map (evE ev))[i]? = some x → R1 θ (Prot pb θ mem) w a x := by
    intro q hq i a v ha hv
    rw [evL, List.getElem?_map] at ha
    rw [List.getElem?_map] at hv
    cases hx : q.toList[i]? with
    | none => rw [hx] at hv; cases hv
    | some x' =>
      rw [hx] at ha hv
      simp at ha hv
      subst ha hv
      exact hq x' (by have := List.mem_of_getElem? hx; simpa using this)
  refine ⟨.clo fn l m _ _ (by rw [← h1]; simp [evL]) ?_ (by rw [← h2]; simp [evL]) ?_, Ext.refl w⟩
  · rw [← h1]; exact key fs fun x hx => h x (by simp [Op.operands, hx])
  · rw [← h2]; exact key cs fun x hx => h x (by simp [Op.operands, hx])

/-! ### Literals -/
/-- A value's cells. -/
def cellsA : AV → Option (List AV)
  | .any | .tuple _ | .emp => none
  | .v (.agg cs) => some (cs.toList.map .v)
  | .agg l => some l
  | a => some [a]
def setAt {α : Type} (cells : List α) (off : Nat) (l : List α) : List α := cells.take off ++ l ++ cells.drop (off + l.length)
def fillA (place : Nat → Option (Nat × Nat)) (cells : List AV) : List (Nat × AV) → Option (List AV)
  | [] => some cells
  | (i, a) :: rest =>
    match place i, cellsA a with
    | some (off, size), some l => if l.length = size ∧ off + size ≤ cells.length then fillA place (setAt cells off l) rest else none
    | _, _ => none
theorem cellsA_ok {θ : List Value} {pr : Nat → Prop} {w : World} {a : AV} {x : Value} {l : List AV} (h : R1 θ pr w a x) (hl : cellsA a = some l) : x.cells.size = l.length ∧ ∀ (i : Nat) (a : AV) (u : Value), l[i]? = some a → x.cells[i]? = some u → R1 θ pr w a u := by
  have one : ∀ (a : AV) (x : Value), R1 θ pr w a x → x.cells = #[x] → l = [a] → x.cells.size = l.length ∧ ∀ (i : Nat) (a : AV) (u : Value), l[i]? = some a → x.cells[i]? = some u → R1 θ pr w a u := by
    intro a x h hc hl
    subst hl
    rw [hc]
    refine ⟨rfl, fun i b u hb hu => ?_⟩
    cases i with
    | zero => simp at hb hu; subst hb hu; exact h
    | succ i => simp at hb
  cases a with
  | any => cases hl
  | emp => cases hl
  | tuple l => cases hl
  | v c =>
    have hx := h.val
    subst hx
    cases x with
    | agg cs =>
      simp only [cellsA, Option.some.injEq] at hl
      subst hl
      refine ⟨by simp [Value.cells], fun i b u hb hu => ?_⟩
      simp [Value.cells] at hb hu
      obtain ⟨y, h1, rfl⟩ := hb
      rw [hu] at h1; cases h1
      exact .ro (.v _)
    | _ => exact one _ _ h rfl (by simpa [cellsA] using hl.symm)
  | agg l' =>
    simp only [cellsA, Option.some.injEq] at hl
    subst hl
    obtain ⟨xs, rfl, h2, h3⟩ := h.getAgg
    exact ⟨by simp [Value.cells, h2], fun i b u hb hu => h3 i b u hb (by simpa [Value.cells] using hu)⟩
  | row k els =>
    refine one _ _ h ?_ (by simpa [cellsA] using hl.symm)
    cases h.getRow <;> rfl
  | ref c =>
    refine one _ _ h ?_ (by simpa [cellsA] using hl.symm)
    cases h.getRef; rfl
  | clo fn l' m' =>
    refine one _ _ h ?_ (by simpa [cellsA] using hl.symm)
    cases h with
    | ro h => cases h; rfl
    | clo => rfl
  | own j =>
    refine one _ _ h ?_ (by simpa [cellsA] using hl.symm)
    cases h with
    | ro h => cases h
    | own _ _ _ h2 => cases x <;> first | rfl | cases h2
  | ptr j o =>
    refine one _ _ h ?_ (by simpa [cellsA] using hl.symm)
    obtain ⟨b, y, _, _, rfl⟩ := h.getPtr; rfl
end
end Go.Proofs.YtgiiedpambimoaaDoor

/- The abstract machine's rules for operations that make or write objects; literals; what a function hands back. No conditions on a program. -/
namespace Go.Proofs.YtgiiedpambimoaaDoor
open Go Go.RowKit
set_option linter.unusedVariables false
set_option linter.unusedSimpArgs false

section
variable {P : Program} {e : Nat → AV} {mem : List Ob} {d : Option Tmp} {ty t t2 : TypeId} {pos : String} {af : Array Edge} {g : Option (Nat × Bool)} {x y z : Operand}

theorem SimM.base {pb : Nat → Prop} {w0 : Bs} {w : World} {θ : List Value} (h : SimM pb w0 w θ mem) : w0.w.heap.size ≤ w.heap.size := h.ext.size
/-- A variable of its own, at zero. -/
theorem nw_alloc {zv : Value} {zs : List AV} {T : TypeId} (hz : (P.info? T).bind (·.zero) = some zv) (hzs : zv.cells.toList.map AV.v = zs) : OpNW P ⟨d, .alloc T, ty, pos, af, g⟩ e mem (.box T zs) (fun j => .ptr j 0) := by
  intro pb w0 θ w ev hs h
  rw [ex_alloc, Sem.run_bind]
  have hrun : (Instr.alloc T true (.tuple #[])).run P w = .ok (.pointer (some ⟨w.heap.size, 0, none⟩)) (w.alloc (.cells zv.cells T)) := by
    cases hq : P.info? T with
    | none => rw [hq] at hz; cases hz
    | some i => rw [hq] at hz; simp at hz; simp [Instr.alloc, zeroValue, typeInfo, hq, hz, newVar, newRow]
  rw [hrun]
  refine ⟨(Ext.refl w).alloc _, (fun b hb => by have hb' : some w.heap.size = some b := hb; cases hb'; exact Nat.le_refl _), fun θ' pr _ => ?_, fun θ' pr j hj => .ptr j 0 w.heap.size _ hj rfl⟩
  refine ⟨w.heap.size, zv.cells.toList, .inl hs.base, rfl, by simpa using heap_alloc_new w _, by rw [← hzs]; simp, fun i a u ha hu => ?_⟩
  rw [← hzs, List.getElem?_map, hu] at ha
  simp at ha; subst ha
  exact .ro (.v _)
theorem st_alloc {zv : Value} {zs : List AV} {m : Nat} {T : TypeId} (hz : (P.info? T).bind (·.zero) = some zv) (hzs : zv.cells.toList.map AV.v = zs) (hl : mem.length = m) : OpST P ⟨d, .alloc T, ty, pos, af, g⟩ e mem (.ptr m 0) (mem ++ [.box T zs]) := nw_st (h := fun j => .ptr j 0) (nw_alloc hz hzs) hl
/-- A parameter's variable. -/
theorem nw_box {l : List AV} {T : TypeId} {a : AV} (hx : evA e x = a) (hc : cellsA a = some l) : OpNW P ⟨d, .box T x, ty, pos, af, g⟩ e mem (.box T l) (fun j => .ptr j 0) := by
  intro pb w0 θ w ev hs h
  have h1 := h x (by simp [Op.operands])
  rw [hx] at h1
  obtain ⟨h2, h3⟩ := cellsA_ok h1 hc
  have e1 : execOp (evE ev) ⟨d, .box T x, ty, pos, af, g⟩ = (do pure (.value (← Instr.box T (evE ev x)))) := rfl
  have hrun : (Instr.box T (evE ev x)).run P w = .ok (.pointer (some ⟨w.heap.size, 0, none⟩)) (w.alloc (.cells (evE ev x).cells T)) := by simp [Instr.box, newVar, newRow]
  rw [e1, Sem.run_bind, hrun]
  refine ⟨(Ext.refl w).alloc _, (fun b hb => by have hb' : some w.heap.size = some b := hb; cases hb'; exact Nat.le_refl _), fun θ' pr k => ?_, fun θ' pr j hj => .ptr j 0 w.heap.size _ hj rfl⟩
  exact ⟨w.heap.size, (evE ev x).cells.toList, .inl hs.base, rfl, by simpa using heap_alloc_new w _, by simpa using h2, fun i a u ha hu => k _ _ (h3 i a u ha (by simpa using hu))⟩
theorem st_box {l : List AV} {m : Nat} {T : TypeId} {a : AV} (hx : evA e x = a) (hc : cellsA a = some l) (hl : mem.length = m) : OpST P ⟨d, .box T x, ty, pos, af, g⟩ e mem (.ptr m 0) (mem ++ [.box T l]) := nw_st (h := fun j => .ptr j 0) (nw_box hx hc) hl

/-- What may be stored in one cell. -/
def oneA : AV → Bool
  | .v x => x.oneCell'
  | .row _ _ | .ref _ | .clo _ _ _ | .ptr _ _ => true
  | _ => false
theorem oneA_ok {θ : List Value} {pr : Nat → Prop} {w : World} {a : AV} {x : Value} (h : R1 θ pr w a x) (ha : oneA a = true) : x.oneCell' = true := by
  cases a with
  | v c => rw [h.val]; exact ha
  | row k els => cases h.getRow <;> rfl
  | ref c => cases h.getRef; rfl
  | clo fn l m => cases h with
    | ro h => cases h; rfl
    | clo => rfl
  | ptr j o => obtain ⟨b, y, _, _, rfl⟩ := h.getPtr; rfl
  | _ => cases ha
theorem setAt_len {α : Type} (cells l : List α) (off : Nat) (ho : off + l.length ≤ cells.length) : (setAt cells off l).length = cells.length := by simp [setAt]; omega
theorem setAt_get {α : Type} (cells l : List α) (off : Nat) (ho : off ≤ cells.length) (i : Nat) : (setAt cells off l)[i]? = if i < off then cells[i]? else if i < off + l.length then l[i - off]? else cells[i]? := by
  unfold setAt
  have h1 : (cells.take off).length = off := by simp; omega
  by_cases a : i < off
  · rw [if_pos a, List.append_assoc, List.getElem?_append_left (by omega), List.getElem?_take_of_lt a]
  · rw [if_neg a]
    by_cases b : i < off + l.length
    · rw [if_pos b, List.append_assoc, List.getElem?_append_right (by omega), h1, List.getElem?_append_left (by omega)]
    · rw [if_neg b, List.getElem?_append_right (by simp; omega), List.getElem?_drop]
      congr 1; simp; omega
theorem run_store_cells {θ : List Value} {pr : Nat → Prop} {w : World} {T : TypeId} {b off n : Nat} {cur : List Value} {v : Value} (hh : w.heap[b]? = some (.cells cur.toArray T (0, 0))) (hsz : (P.info? t).map (·.size) = some n) (hn : v.cells.size = n) (ho : off + n ≤ cur.length) (h1 : ∀ u ∈ v.cells.toList, u.oneCell' = true) :
    (Instr.storeAt t (.pointer (some ⟨b, off, none⟩)) v).run P w = .ok () (w.setRow b (setAt cur off v.cells.toList).toArray) := by
  have := run_storeCells_at (P := P) b off T v.cells.toList 0 cur.toArray w hh (by simp; omega) h1
  cases hq : P.info? t with
  | none => rw [hq] at hsz; cases hsz
  | some i =>
    rw [hq] at hsz; simp at hsz
    simp only [Nat.add_zero, Array.length_toList, hn] at this
    have e : (setAt cur off v.cells.toList) = cur.take off ++ v.cells.toList ++ cur.drop (off + n) := by unfold setAt; rw [Array.length_toList, hn]
    rw [e]
    simp [Instr.storeAt, Instr.sureAddr, storeVar, sizeOf, typeInfo, hq, hsz, hn, Sem.run_bind, this]
theorem below_setRow {B b : Nat} {w : World} (h : B ≤ b) (cs : Array Value) : Below B w (w.setRow b cs) := ⟨rfl, rfl, rfl, by simp, fun k hk => setRow_other w b k cs (by omega)⟩
/-- A store into a variable of one's own. -/
theorem se_store {j off n : Nat} {T : TypeId} {cells l : List AV} {a : AV} (hx : evA e x = .ptr j off) (hy : evA e y = a) (hc : cellsA a = some l) (hone : l.all oneA = true) (hm : mem[j]? = some (.box T cells)) (hsz : (P.info? t).map (·.size) = some n) (hn : l.length = n) (ho : off + n ≤ cells.length) :
    OpSET P ⟨d, .store t x y, ty, pos, af, g⟩ e mem j (.box T (setAt cells off l)) := by
  intro pb w0 θ w ev hs h
  have h1 := h x (by simp [Op.operands])
  have h2 := h y (by simp [Op.operands])
  rw [hx] at h1; rw [hy] at h2
  obtain ⟨b, v, hθ, hbase, hp⟩ := h1.getPtr
  obtain ⟨b', xs, h3, rfl, h4, h5, h6⟩ := hs.ob j _ v hm hθ
  cases hbase
  obtain ⟨h7, h8⟩ := cellsA_ok h2 hc
  have hrun := run_store_cells (P := P) (θ := θ) (pr := Prot pb θ mem) (t := t) (off := off) (n := n) (v := evE ev y) h4 hsz (by omega) (by omega) (fun u hu => by
    obtain ⟨i, hi, rfl⟩ := List.getElem_of_mem hu
    have hil : i < l.length := by simp at hi; omega
    exact oneA_ok (h8 i l[i] _ (List.getElem?_eq_getElem hil) (by simp at hi; simp [hi])) (List.all_eq_true.1 hone _ (List.getElem_mem hil)))
  have e1 : execOp (evE ev) ⟨d, .store t x y, ty, pos, af, g⟩ = (do Instr.storeAt t (evE ev x) (evE ev y); pure .skip) := rfl
  rw [e1, Sem.run_bind, hp, hrun]
  refine ⟨rfl, Step.write hs hm (by simp) hθ (below_setRow (Nat.zero_le _) _) (fun b hb hne => setRow_other w b' b _ (fun e => hne (by rw [e]; rfl))) fun pr k => ?_⟩
  have hcl : (evE ev y).cells.toList.length = n := by simp; omega
  refine ⟨b', setAt xs off (evE ev y).cells.toList, h3, rfl, setRow_heap w b' _ _ T (0, 0) h4, by rw [setAt_len _ _ _ (by omega), setAt_len _ _ _ (by omega), h5], fun i a u ha hu => ?_⟩
  rw [setAt_get _ _ _ (by omega)] at ha hu
  rw [hcl] at hu
  rw [hn] at ha
  by_cases c1 : i < off
  · rw [if_pos c1] at ha hu
    exact k _ _ (h6 i a u ha hu)
  · rw [if_neg c1] at ha hu
    by_cases c2 : i < off + n
    · rw [if_pos c2] at ha hu
      exact k _ _ (h8 _ a u ha (by simpa using hu))
    · rw [if_neg c2] at ha hu
      exact k _ _ (h6 i a u ha hu)
theorem st_store {j off n : Nat} {T : TypeId} {cells l : List AV} {a : AV} (hx : evA e x = .ptr j off) (hy : evA e y = a) (hc : cellsA a = some l) (hone : l.all oneA = true) (hm : mem[j]? = some (.box T cells)) (hsz : (P.info? t).map (·.size) = some n) (hn : l.length = n) (ho : off + n ≤ cells.length) :
    OpST P ⟨d, .store t x y, ty, pos, af, g⟩ e mem (.v undef) (mem.set j (.box T (setAt cells off l))) := set_st (se_store hx hy hc hone hm hsz hn ho)
theorem flatten_length {α : Type} {k : Nat} : ∀ {els : List (List α)}, (∀ l ∈ els, l.length = k) → els.flatten.length = els.length * k
  | [], _ => by simp
  | l :: els, h => by
    rw [List.flatten_cons, List.length_append, h l (by simp), flatten_length (fun l hl => h l (by simp [hl])), List.length_cons, Nat.succ_mul]; omega
theorem flatten_set {α : Type} {k : Nat} : ∀ {els : List (List α)} {i : Nat} {el : List α}, (∀ l ∈ els, l.length = k) → el.length = k → i < els.length → (els.set i el).flatten = els.flatten.take (i * k) ++ el ++ els.flatten.drop (i * k + k)
  | [], i, el, _, _, h => by simp at h
  | l :: els, 0, el, hk, he, h => by
    have := hk l (by simp)
    simp [this]
  | l :: els, i + 1, el, hk, he, h => by
    have hl := hk l (by simp)
    rw [List.set_cons_succ, List.flatten_cons, List.flatten_cons, flatten_set (fun l hm => hk l (by simp [hm])) he (by simpa using h)]
    have e1 : (i + 1) * k = l.length + i * k := by rw [hl, Nat.succ_mul]; omega
    rw [e1, Nat.add_assoc, List.take_length_add_append, List.drop_length_add_append]
    simp only [List.append_assoc]
end
end Go.Proofs.YtgiiedpambimoaaDoor

/- The abstract machine: a region that draws its order. No conditions on a program. -/
namespace Go.Proofs.YtgiiedpambimoaaDoor
open Go Go.RowKit
set_option linter.unusedVariables false

section
variable {M : Mode} {P : Program} {N : Nat} {Q : AQ} {mem : List Ob} {ops : Array Oper} {tail : List Oper}
/-- The first operations of a region, one by one; the rest in the order of the text. -/
def DS (P : Program) (N : Nat) (ops : Array Oper) (tail : List Oper) (Q : AQ) (mem : List Ob) : List Oper → (Nat → AV) → Prop
  | [], e => AL P N ops tail Q e mem
  | o :: l, e => ∃ r, ((Gd ops o e ∧ OpRO P o e mem r) ∨ (Ng ops o e ∧ r = .v undef)) ∧ DS P N ops tail Q mem l (upA e o.dst r)
theorem ds_nil {e : Nat → AV} (h : AL P N ops tail Q e mem) : DS P N ops tail Q mem [] e := h
theorem ds_ro {e : Nat → AV} {o : Oper} {l : List Oper} {r : AV} (ho : OpRO P o e mem r) (hg : Gd ops o e) (_hd : dstB N o.dst = true) (h : DS P N ops tail Q mem l (upA e o.dst r)) : DS P N ops tail Q mem (o :: l) e := ⟨r, .inl ⟨hg, ho⟩, h⟩
theorem ds_skip {e : Nat → AV} {o : Oper} {l : List Oper} (hg : Ng ops o e) (_hd : dstB N o.dst = true) (h : DS P N ops tail Q mem l (upA e o.dst (.v undef))) : DS P N ops tail Q mem (o :: l) e := ⟨_, .inr ⟨hg, rfl⟩, h⟩

def sfR (θ : List Value) (pr : Nat → Prop) (a : AV) : SF := ⟨fun v w => R1 θ pr w a v, none, fun _ _ _ hx h => h.ext hx, fun _ _ _ _ h => by cases h⟩
/-- The operations' results. -/
def DSl (P : Program) (ops : Array Oper) (mem : List Ob) : List Oper → (Nat → AV) → List AV → Prop
  | [], _, rs => rs = []
  | o :: l, e, rs => ∃ r rs', rs = r :: rs' ∧ ((Gd ops o e ∧ OpRO P o e mem r) ∨ (Ng ops o e ∧ r = .v undef)) ∧ DSl P ops mem l (upA e o.dst r) rs'
def upL : List Oper → (Nat → AV) → List AV → (Nat → AV)
  | o :: l, e, r :: rs => upL l (upA e o.dst r) rs
  | _, e, _ => e
theorem ds_list : ∀ {l : List Oper} {e : Nat → AV}, DS P N ops tail Q mem l e → ∃ rs, rs.length = l.length ∧ DSl P ops mem l e rs ∧ AL P N ops tail Q (upL l e rs) mem
  | [], e, h => ⟨[], rfl, rfl, h⟩
  | o :: l, e, ⟨r, h1, h2⟩ => by
    obtain ⟨rs, h3, h4, h5⟩ := ds_list h2
    exact ⟨r :: rs, by simp [h3], ⟨r, rs, rfl, h1, h4⟩, h5⟩

def updE (V : Nat → Value) : List (Option Tmp) → Nat → (Nat → Value) → (Nat → Value)
  | [], _, e => e
  | d :: l, k, e => updE V l (k + 1) (upE e d (V k))
/-- The abstract slots against the values: what an operation of the region has written, or what stood there. -/
def Fits (ops : List Oper) (rs : List AV) (V : Nat → Value) (e0 : Nat → AV) (v0 : Nat → Value) (k : Nat) (e : Nat → AV) (ev : Nat → Value) : Prop :=
  ∀ t, (∃ j o a, j < k ∧ ops[j]? = some o ∧ o.dst = some t ∧ rs[j]? = some a ∧ e t = a ∧ ev t = V j) ∨ ((∀ j o, j < k → ops[j]? = some o → o.dst ≠ some t) ∧ e t = e0 t ∧ ev t = v0 t)

theorem Fits.step {ops : List Oper} {rs : List AV} {V : Nat → Value} {e0 : Nat → AV} {v0 : Nat → Value} {k : Nat} {e : Nat → AV} {ev : Nat → Value} (h : Fits ops rs V e0 v0 k e ev) {o : Oper} {r : AV} (ho : ops[k]? = some o) (hr : rs[k]? = some r) :
    Fits ops rs V e0 v0 (k + 1) (upA e o.dst r) (upE ev o.dst (V k)) := by
  intro t
  by_cases ht : o.dst = some t
  · refine .inl ⟨k, o, r, by omega, ho, ht, hr, ?_, ?_⟩
    · rw [ht]; simp [upA]
    · rw [ht]; simp [upE]
  · have e1 : upA e o.dst r t = e t := by
      cases hd : o.dst with
      | none => rfl
      | some d => simp only [upA]; rw [if_neg (fun e => ht (by rw [hd, e]))]
    have e2 : upE ev o.dst (V k) t = ev t := by
      cases hd : o.dst with
      | none => rfl
      | some d => simp only [upE]; rw [if_neg (fun e => ht (by rw [hd, e]))]
    rw [e1, e2]
    rcases h t with ⟨j, o', a, h1, h2, h3, h4, h5, h6⟩ | ⟨h1, h2, h3⟩
    · exact .inl ⟨j, o', a, by omega, h2, h3, h4, h5, h6⟩
    · refine .inr ⟨fun j o' hj ho' => ?_, h2, h3⟩
      by_cases hjk : j = k
      · subst hjk; rw [ho] at ho'; cases ho'; exact ht
      · exact h1 j o' (by omega) ho'

theorem rel_head {l : List Oper} {n : Nat} (h : relB l.toArray n = true) {i : Nat} {o : Oper} (hi : i < n) (ho : l[i]? = some o) :
    edgesB o i = true ∧ (∀ g b, o.guard = some (g, b) → waitsB o g = true) ∧ ∀ k t, k < n → (l[k]?).bind (·.dst) = some t → ((o.looksAt l.toArray).contains t = true → k < i ∧ waitsB o k = true) ∧ (k = i ∨ o.dst ≠ some t) := by
  simp only [relB, Bool.and_eq_true] at h
  obtain ⟨⟨⟨⟨_, _⟩, h1⟩, _⟩, _⟩ := h
  have h2 := List.all_eq_true.1 h1 i (List.mem_range.2 hi)
  have e : ∀ i : Nat, l.toArray[i]? = l[i]? := fun i => by simp
  rw [e, ho] at h2
  simp only [Bool.and_eq_true] at h2
  obtain ⟨⟨h2, h3⟩, h4⟩ := h2
  refine ⟨h2, fun g b hg => by rw [hg] at h3; exact h3, fun k t hk ht => ?_⟩
  have := List.all_eq_true.1 h4 k (List.mem_range.2 hk)
  rw [e, ht] at this
  simp only [Bool.and_eq_true, Bool.or_eq_true, Bool.not_eq_true', decide_eq_true_eq, beq_iff_eq, bne_iff_ne, ne_eq] at this
  exact ⟨fun hc => this.1.resolve_left (by rw [hc]; simp), this.2⟩
theorem waits_lt {o : Oper} {k i : Nat} (h : waitsB o k = true) (he : edgesB o i = true) : k < i := by
  unfold waitsB at h
  rw [List.any_eq_true] at h
  obtain ⟨e, h1, h2⟩ := h
  unfold edgesB at he
  have := List.all_eq_true.1 he e h1
  simp only [Bool.and_eq_true, beq_iff_eq, Bool.or_eq_true, Bool.not_eq_true', decide_eq_true_eq] at h2 this
  rcases this with h3 | h3
  · rw [h2.2] at h3; cases h3
  · omega
theorem waits_fact {F : Nat → Value → World → Prop} {V : Nat → Value} {w : World} {o : Oper} {k : Nat} (h : waitsB o k = true) (hf : FactsAt F V w o.after.toList) : F k (V k) w := by
  refine factsAt_get k ?_ hf
  unfold waitsB at h
  rw [List.any_eq_true] at h ⊢
  obtain ⟨e, h1, h2⟩ := h
  exact ⟨e, h1, by rw [Bool.and_comm]; exact h2⟩

theorem steps_of_ds {pb : Nat → Prop} {w0 : Bs} {w1 : World} {θ : List Value} {l : List Oper} {n : Nat} {rs : List AV} {V : Nat → Value} {e0 : Nat → AV} {v0 : Nat → Value} (hB : relB l.toArray n = true) (hs : SimM pb w0 w1 θ mem) (h0 : ∀ t, R1 θ (Prot pb θ mem) w1 (e0 t) (v0 t)) (hn : n ≤ l.length) (hlen : rs.length = n) :
    ∀ {m : List Oper} {k : Nat} {e : Nat → AV} {ev : Nat → Value} {rs' : List AV}, (l.take n).drop k = m → rs.drop k = rs' → DSl P l.toArray mem m e rs' → Fits l rs V e0 v0 k e ev →
      StepsE P w1 (Fs (rs.map (sfR θ (Prot pb θ mem)))) V m k ev
  | [], _, _, _, _, _, _, _, _ => trivial
  | o :: m, k, e, ev, rs', hm, hrs, hd, hfit => by
    obtain ⟨r, rs'', rfl, h1, h2⟩ := hd
    have hk : k < n := by
      rcases Nat.lt_or_ge k n with h | h
      · exact h
      · rw [List.drop_eq_nil_of_le (by simp; omega)] at hm; cases hm
    have hok : l[k]? = some o := by
      have : ((l.take n).drop k)[0]? = some o := by rw [hm]; rfl
      rw [List.getElem?_drop, List.getElem?_take_of_lt (by omega)] at this
      simpa using this
    have hrk : rs[k]? = some r := by
      have : (rs.drop k)[0]? = some r := by rw [hrs]; rfl
      rw [List.getElem?_drop] at this
      simpa using this
    have hFk : Fs (rs.map (sfR θ (Prot pb θ mem))) k = fun v w => R1 θ (Prot pb θ mem) w r v := by
      unfold Fs
      rw [List.getD_eq_getElem?_getD, List.getElem?_map, hrk]
      rfl
    obtain ⟨hedge, hgw, hlk⟩ := rel_head hB hk hok
    -- a slot that the operation looks at
    have slot : ∀ w, Ext w1 w → FactsAt (Fs (rs.map (sfR θ (Prot pb θ mem)))) V w o.after.toList → ∀ t, (o.looksAt l.toArray).contains t = true → R1 θ (Prot pb θ mem) w (e t) (ev t) := by
      intro w hx hf t ht
      rcases hfit t with ⟨j, o', a, a1, a2, a3, a4, a5, a6⟩ | ⟨a1, a2, a3⟩
      · have hjn : j < n := by omega
        have := ((hlk j t hjn (by rw [a2]; exact a3)).1 ht)
        have hF := waits_fact this.2 hf
        rw [a5, a6]
        unfold Fs at hF
        rw [List.getD_eq_getElem?_getD, List.getElem?_map, a4] at hF
        exact hF
      · rw [a2, a3]; exact (h0 t).ext hx
    refine ⟨fun w hx hf => ?_, ?_⟩
    · rw [hFk]
      have hguard : ∀ (g : Nat) (b : Bool), o.guard = some (g, b) → ∀ d, (l.toArray[g]?).bind (·.dst) = some d → ∀ q, e d = .v q → V g = q := by
        intro g b hg d hd q hq
        have ht : (o.looksAt l.toArray).contains d = true := looks_guard hg hd
        have hv := slot w hx hf d ht
        rw [hq] at hv
        have hd' : (l[g]?).bind (·.dst) = some d := by simpa using hd
        have hgk : g < k := waits_lt (hgw g b hg) hedge
        obtain ⟨og, h3⟩ : ∃ og, l[g]? = some og := ⟨l[g]'(by omega), List.getElem?_eq_getElem _⟩
        have h3d : og.dst = some d := by rw [h3] at hd'; exact hd'
        rcases hfit d with ⟨j, o', a, a1, a2, a3, a4, a5, a6⟩ | ⟨a1, a2, a3⟩
        · have hjg : g = j := ((rel_head hB (by omega) a2).2.2 g d (by omega) hd').2.resolve_right (fun h => h a3)
          subst hjg
          rw [← a6]; exact hv.val
        · exact absurd h3d (a1 g og hgk h3)
      rcases h1 with ⟨h1, h3⟩ | ⟨h1, h3⟩
      · have hgd : guardV V o = true := by
          unfold guardV
          unfold Gd at h1
          cases hg : o.guard with
          | none => rfl
          | some q =>
            obtain ⟨g, b⟩ := q
            rw [hg] at h1
            obtain ⟨d, h4, h5⟩ := h1
            simp [hguard g b hg d h4 (.bool b) h5]
        rw [if_pos hgd]
        refine RelUpon.mono (fun v w' ⟨h4, h5⟩ => ⟨h4, h5⟩) (h3 pb w0 θ w ev (hs.ext' hx) fun x hxm => ?_)
        cases x with
        | tmp t => exact slot w hx hf t (looks_of hxm)
        | const v => exact .ro (.v v)
        | global g => exact .ro (.v _)
        | func f => exact .ro (.v _)
      · have hgd : guardV V o = false := by
          unfold guardV
          unfold Ng at h1
          cases hg : o.guard with
          | none => rw [hg] at h1; exact h1.elim
          | some q =>
            obtain ⟨g, b⟩ := q
            rw [hg] at h1
            obtain ⟨d, h4, h5⟩ := h1
            rcases h5 with h5 | h5
            · simp [hguard g b hg d h4 (.bool (!b)) h5]
            · simp [hguard g b hg d h4 undef h5, undef]
        rw [if_neg (by rw [hgd]; exact Bool.false_ne_true), h3]
        exact .ro (.v undef)
    · refine steps_of_ds hB hs h0 hn hlen (by rw [← List.drop_drop, hm]; rfl) (by rw [← List.drop_drop, hrs]; rfl) h2 (hfit.step hok hrk)

theorem upL_fit {l : List Oper} {n : Nat} {rs : List AV} {V : Nat → Value} {e0 : Nat → AV} {v0 : Nat → Value} (hn : n ≤ l.length) (hlen : rs.length = n) : ∀ {m : List Oper} {k : Nat} {e : Nat → AV} {ev : Nat → Value} {rs' : List AV}, (l.take n).drop k = m → rs.drop k = rs' → Fits l rs V e0 v0 k e ev → k ≤ n →
    Fits l rs V e0 v0 n (upL m e rs') (updE V (m.map (·.dst)) k ev)
  | [], k, e, ev, rs', hm, hrs, hfit, hkn => by
    have : n ≤ k := by
      have := congrArg List.length hm
      simp at this; omega
    obtain rfl : k = n := by omega
    simpa [upL, updE] using hfit
  | o :: m, k, e, ev, rs', hm, hrs, hfit, hkn => by
    have hk : k < n := by
      rcases Nat.lt_or_ge k n with h | h
      · exact h
      · rw [List.drop_eq_nil_of_le (by simp; omega)] at hm; cases hm
    have hok : l[k]? = some o := by
      have : ((l.take n).drop k)[0]? = some o := by rw [hm]; rfl
      rw [List.getElem?_drop, List.getElem?_take_of_lt (by omega)] at this
      simpa using this
    obtain ⟨r, rs'', rfl⟩ : ∃ r rs'', rs' = r :: rs'' := by
      rw [← hrs, List.drop_eq_getElem_cons (by omega)]; exact ⟨_, _, rfl⟩
    have hrk : rs[k]? = some r := by
      have : (rs.drop k)[0]? = some r := by rw [hrs]; rfl
      rw [List.getElem?_drop] at this
      simpa using this
    have := upL_fit hn hlen (m := m) (k := k + 1) (rs' := rs'') (by rw [← List.drop_drop, hm]; rfl) (by rw [← List.drop_drop, hrs]; rfl) (hfit.step hok hrk) (by omega)
    exact this

theorem env_putsD (V : Nat → Value) (N : Nat) : ∀ (ds : List (Option Tmp)) (k : Nat) (a : Act), a.tmps.size = N → (ds.all fun d => dstB N d) = true →
    (putsD V ds k a).tmps.size = N ∧ (putsD V ds k a).defers = a.defers ∧ ∀ t, (putsD V ds k a).tmps.getD t undef = updE V ds k (fun t => a.tmps.getD t undef) t
  | [], k, a, hs, _ => ⟨hs, rfl, fun _ => rfl⟩
  | d :: ds, k, a, hs, hd => by
    simp only [List.all_cons, Bool.and_eq_true] at hd
    have hput : (fun t => (a.put d (V k)).tmps.getD t undef) = upE (fun t => a.tmps.getD t undef) d (V k) := by
      funext t
      cases d with
      | none => rfl
      | some d =>
        have hlt : d < N := by simpa [dstB] using hd.1
        by_cases ht : t = d
        · subst ht
          simp [upE, Act.put, Array.getD_eq_getD_getElem?, hs, hlt]
        · simp only [upE, Act.put, if_neg ht]
          rw [Array.getD_eq_getD_getElem?, Array.getElem?_setIfInBounds_ne (fun h => ht h.symm), ← Array.getD_eq_getD_getElem?]
    obtain ⟨h1, h2, h3⟩ := env_putsD V N ds (k + 1) (a.put d (V k)) (by cases d <;> simp [Act.put, hs]) hd.2
    refine ⟨h1, h2.trans (by cases d <;> rfl), fun t => ?_⟩
    show (putsD V ds (k + 1) (a.put d (V k))).tmps.getD t undef = updE V ds (k + 1) (upE (fun t => a.tmps.getD t undef) d (V k)) t
    rw [h3 t, hput]

theorem any_env {a0 : Act} {w0 : World} {l : List Oper} {Q : Exit → Act → World → Prop} (n : Nat) (Fl : List SF) (ds : List (Option Tmp))
    (hB : relB l.toArray n = true) (hE : envB l (l.take n) 0 a0.tmps.size = true) (hds : (l.take n).map (·.dst) = ds)
    (steps : ∀ V e0, (∀ t, e0 t = a0.tmps.getD t undef) → StepsE P w0 (Fs Fl) (val Fl V) (l.take n) 0 e0)
    (tail : ∀ V w, Ext w0 w → FactsTo (Fs Fl) (val Fl V) w n → wpList P l.toArray Q (l.drop n) (putsD (val Fl V) ds 0 a0) w) : wpAny P .any l.toArray Q l.toArray.size (Array.replicate l.toArray.size false) a0 { w0 with drawn := w0.drawn + 1 } :=
  any_rel n (fun _ => Ext w0) (Fs Fl) (fun k => (Fl.getD k SF.any).ex) hB (Ext.one w0) (fun k v w h c hc => (Fl.getD k SF.any).law v w h c hc)
    (fun V hV => steps_of_guarded (by
      have := stepsG_of_env (ops := l) (r := l.drop n) hE rfl (fun _ => rfl) (by simp) (fun _ _ h => absurd h (Nat.not_lt_zero _)) (steps V (fun t => a0.tmps.getD t undef) (fun _ => rfl))
      rwa [val_eq hV] at this))
    (fun V w hV hw hf => by have := tail V w hw; rw [val_eq hV] at this; rw [putsAll_D, hds]; exact this hf)
/-- **A region that draws its order: its first n operations one by one, in the order of the text.** -/
theorem aw_draw {id : Nat} {l : List Oper} {e : Nat → AV} (n : Nat) (hm : P.follows .mixedOrders = true) (hd : noDefer l = true) (hB : relB l.toArray n = true) (hE : envB l (l.take n) 0 N = true) (h : DS P N l.toArray (l.drop n) Q mem (l.take n) e) : AW M P N (.region id l.toArray true) Q e mem := by
  refine aw_any hm hd fun pb w0 θ a w hf => ?_
  obtain ⟨rs, h1, h2, h3⟩ := ds_list h
  have hn : n ≤ l.length := by
    simp only [relB, Bool.and_eq_true, decide_eq_true_eq] at hB
    simpa using hB.1.1.1.2
  have hlen : rs.length = n := by rw [h1]; simp; omega
  have hsz : ((l.take n).map (·.dst)).all (fun d => dstB N d) = true := by
    have key : ∀ (m : List Oper) (k : Nat), envB l m k N = true → (m.map (·.dst)).all (fun d => dstB N d) = true := by
      intro m
      induction m with
      | nil => intro _ _; rfl
      | cons o m ih =>
        intro k hk
        simp only [envB, Bool.and_eq_true] at hk
        simp only [List.map_cons, List.all_cons, Bool.and_eq_true]
        refine ⟨?_, ih _ hk.2⟩
        have := hk.1.1
        cases hd : o.dst with
        | none => rfl
        | some d => rw [hd] at this; simp only [Bool.and_eq_true] at this; exact this.1
    exact key _ _ hE
  have hfit0 : ∀ V, Fits l rs V e (fun t => a.tmps.getD t undef) 0 e (fun t => a.tmps.getD t undef) := fun V t => .inr ⟨fun j o hj _ => absurd hj (Nat.not_lt_zero _), rfl, rfl⟩
  have hex : ∀ k c, ((rs.map (sfR θ (Prot pb θ mem))).getD k SF.any).ex ≠ some c := by
    intro k c hc
    rw [List.getD_eq_getElem?_getD, List.getElem?_map] at hc
    cases hr : rs[k]? with
    | none => rw [hr] at hc; cases hc
    | some r => rw [hr] at hc; cases hc
  have hval : ∀ V, val (rs.map (sfR θ (Prot pb θ mem))) V = V := fun V => val_eq fun k c hc => absurd hc (hex k c)
  refine any_env n (rs.map (sfR θ (Prot pb θ mem))) ((l.take n).map (·.dst)) hB (by rw [hf.size]; exact hE) rfl (fun V e0 he0 => ?_) (fun V w' hx hft => ?_)
  · rw [hval]
    have he : e0 = fun t => a.tmps.getD t undef := funext he0
    subst he
    exact steps_of_ds hB hf.sim hf.sl hn hlen rfl rfl h2 (hfit0 V)
  · rw [hval] at hft ⊢
    obtain ⟨a1, a2, a3⟩ := env_putsD V N ((l.take n).map (·.dst)) 0 a hf.size hsz
    have hfit := upL_fit (l := l) (rs := rs) (V := V) (e0 := e) (v0 := fun t => a.tmps.getD t undef) hn hlen rfl rfl (hfit0 V) (Nat.zero_le _)
    refine wpList_mono (fun _ _ hq => hq.after (Step.ext hf.sim hx)) (h3 pb w0 θ _ w' ⟨a1, by rw [a2]; exact hf.dfr.step (Step.ext hf.sim hx), fun t => ?_, hf.sim.ext' hx⟩)
    rw [a3 t]
    simp only [List.drop_zero] at hfit
    rcases hfit t with ⟨j, o, r, b1, b2, b3, b4, b5, b6⟩ | ⟨b1, b2, b3⟩
    · rw [b5, b6]
      have hF := factsTo_get b1 hft
      unfold Fs at hF
      rw [List.getD_eq_getElem?_getD, List.getElem?_map, b4] at hF
      exact hF
    · rw [b2, b3]; exact (hf.sl t).ext hx
end
end Go.Proofs.YtgiiedpambimoaaDoor

/- The abstract machine's rules: append, make, literals, slices of slices; entering a function and what it hands back. No conditions on a program. -/
namespace Go.Proofs.YtgiiedpambimoaaDoor
open Go Go.RowKit
set_option linter.unusedVariables false
set_option linter.unusedSimpArgs false

section
variable {P : Program} {e : Nat → AV} {mem : List Ob} {d : Option Tmp} {ty t t2 : TypeId} {pos : String} {af : Array Edge} {g : Option (Nat × Bool)} {x y z : Operand}

/-! ### Literals -/
def evP (e : Nat → AV) (ps : List (Nat × Operand)) : List (Nat × AV) := ps.map fun q => (q.1, evA e q.2)
theorem evP_nil : evP e [] = [] := rfl
theorem evP_cons {i : Nat} {ps : List (Nat × Operand)} {a : AV} {l : List (Nat × AV)} (h : evA e x = a) (h2 : evP e ps = l) : evP e ((i, x) :: ps) = (i, a) :: l := by subst h; subst h2; rfl
theorem fold_setAt : ∀ (vs : List Value) (cs : Array Value) (off k : Nat), off + k + vs.length ≤ cs.size → ((vs.zipIdx k).foldl (fun cs (c, j) => cs.setIfInBounds (off + j) c) cs).toList = setAt cs.toList (off + k) vs
  | [], cs, off, k, h => by simp [setAt]
  | v :: vs, cs, off, k, h => by
    simp only [List.zipIdx_cons, List.foldl_cons]
    rw [fold_setAt vs _ off (k + 1) (by simp at h ⊢; omega)]
    apply List.ext_getElem?
    intro q
    rw [setAt_get _ _ _ (by simp at h ⊢; omega), setAt_get _ _ _ (by simp at h ⊢; omega)]
    simp only [Array.toList_setIfInBounds, List.getElem?_set, List.length_cons]
    by_cases h1 : q < off + k
    · rw [if_pos (by omega), if_pos h1, if_neg (by omega)]
    · by_cases h2 : q = off + k
      · subst h2
        rw [if_pos (by omega), if_pos rfl, if_pos (by simp at h; simp; omega), if_neg (by omega), if_pos (by omega)]; simp
      · by_cases h3 : q < off + k + (vs.length + 1)
        · rw [if_neg (by omega), if_pos (by omega), if_neg h1, if_pos h3, show q - (off + k) = (q - (off + (k + 1))) + 1 by omega, List.getElem?_cons_succ]
        · rw [if_neg (by omega), if_neg (by omega), if_neg (by omega), if_neg h1, if_neg h3]
theorem fold_arr (cs : Array Value) (v : Array Value) (off : Nat) (h : off + v.size ≤ cs.size) : (v.zipIdx.foldl (fun cs (c, j) => cs.setIfInBounds (off + j) c) cs).toList = setAt cs.toList off v.toList := by
  have := fold_setAt v.toList cs off 0 (by simpa using h)
  rw [Nat.add_zero] at this
  rw [← this, ← Array.foldl_toList]
  simp
theorem fill_ok {θ : List Value} {pr : Nat → Prop} {w : World} {ev : Nat → Value} {place : Nat → Option (Nat × Nat)} : ∀ {ps : List (Nat × Operand)} {cs : Array Value} {l l' : List AV}, (∀ q ∈ ps, R1 θ pr w (evA e q.2) (evE ev q.2)) → cs.size = l.length → (∀ (i : Nat) (a : AV) (u : Value), l[i]? = some a → cs.toList[i]? = some u → R1 θ pr w a u) →
    fillA place l (evP e ps) = some l' → ∃ cs', Instr.fill place cs (ps.map fun (i, x) => (i, evE ev x)) = some cs' ∧ cs'.size = l'.length ∧ ∀ (i : Nat) (a : AV) (u : Value), l'[i]? = some a → cs'.toList[i]? = some u → R1 θ pr w a u
  | [], cs, l, l', _, h1, h2, h => by
    simp only [evP, List.map_nil, fillA, Option.some.injEq] at h
    subst h
    exact ⟨cs, rfl, h1, h2⟩
  | (i, x) :: ps, cs, l, l', hp, h1, h2, h => by
    simp only [evP, List.map_cons, fillA] at h
    have hx : R1 θ pr w (evA e x) (evE ev x) := hp (i, x) (by simp)
    cases hpl : place i with
    | none => rw [hpl] at h; cases h
    | some os =>
      obtain ⟨off, size⟩ := os
      cases hc : cellsA (evA e x) with
      | none => rw [hpl, hc] at h; cases h
      | some q =>
        rw [hpl, hc] at h
        simp only at h
        split at h
        · rename_i hb
          obtain ⟨hb1, hb2⟩ := hb
          obtain ⟨h3, h4⟩ := cellsA_ok hx hc
          have hf := fold_arr cs (evE ev x).cells off (by omega)
          have hsz : ((evE ev x).cells.zipIdx.foldl (fun cs (c, j) => cs.setIfInBounds (off + j) c) cs).size = (setAt l off q).length := by
            have := congrArg List.length hf
            rw [Array.length_toList] at this
            rw [this, setAt_len _ _ _ (by simp; omega), setAt_len _ _ _ (by omega)]; simpa using h1
          obtain ⟨cs', h5, h6, h7⟩ := fill_ok (fun q hq => hp q (by simp [hq])) hsz (fun j a u ha hu => by
            rw [hf, setAt_get _ _ _ (by simp; omega)] at hu
            rw [setAt_get _ _ _ (by omega)] at ha
            by_cases c1 : j < off
            · rw [if_pos c1] at ha hu; exact h2 j a u ha hu
            · rw [if_neg c1] at ha hu
              by_cases c2 : j < off + q.length
              · rw [if_pos c2] at ha; rw [if_pos (by simp; omega)] at hu
                exact h4 _ a u ha (by simpa using hu)
              · rw [if_neg c2] at ha; rw [if_neg (by simp; omega)] at hu
                exact h2 j a u ha hu) h
          refine ⟨cs', ?_, h6, h7⟩
          simp only [List.map_cons, Instr.fill, hpl]
          rw [if_neg (by simp; omega)]
          exact h5
        · cases h
theorem parts_map (ev : Nat → Value) (ps : Array (Nat × Operand)) : (ps.map fun (i, x) => (i, evE ev x)) = (ps.toList.map fun (i, x) => (i, evE ev x)).toArray := by
  apply Array.toList_inj.1; rw [Array.toList_map]
/-- A struct literal. -/
theorem ro_build {ps : Array (Nat × Operand)} {pl : List (Nat × AV)} {fs : Array Field} {places : Array (Nat × Nat)} {zv : Value} {l : List AV} (hps : evP e ps.toList = pl) (hz : (P.info? t).bind (·.zero) = some zv) (hu : P.underlying t = some (.struct fs))
    (hpl : ∀ w, (fs.mapM fun f => Prod.mk f.offset <$> sizeOf f.type : Sem (Array (Nat × Nat))).run P w = .ok places w) (hl : fillA (places[·]?) (zv.cells.toList.map .v) pl = some l) : OpRO P ⟨d, .build t ps, ty, pos, af, g⟩ e mem (.agg l) := by
  intro pb w0 θ w ev hs h
  subst hps
  obtain ⟨cs', h1, h2, h3⟩ := fill_ok (θ := θ) (pr := Prot pb θ mem) (w := w) (ev := ev) (cs := zv.cells) (fun q hq => h q.2 (by
    simp only [Op.operands, List.mem_toArray, List.mem_map]; exact ⟨q, hq, rfl⟩)) (by simp) (fun i a u ha hu => by
      rw [List.getElem?_map, hu] at ha; simp at ha; subst ha; exact .ro (.v _)) hl
  have hrun : (Instr.build t (ps.map fun (i, x) => (i, evE ev x))).run P w = .ok (.agg cs') w := by
    cases hq : P.info? t with
    | none => rw [hq] at hz; cases hz
    | some i =>
      rw [hq] at hz; simp at hz
      unfold Instr.build
      rw [parts_map]
      simp [Sem.run_bind, zeroValue, typeInfo, hq, hz, run_underlying hu, hpl]
      simp at h1
      simp [h1]
  have e1 : execOp (evE ev) ⟨d, .build t ps, ty, pos, af, g⟩ = (do pure (.value (← Instr.build t (ps.map fun (i, x) => (i, evE ev x))))) := rfl
  rw [e1, Sem.run_bind, hrun]
  exact ⟨.agg _ cs'.toList (by simpa using h2) h3, Ext.refl w⟩
/-- An array literal. -/
theorem ro_buildA {ps : Array (Nat × Operand)} {pl : List (Nat × AV)} {n k : Nat} {eT : TypeId} {zv : Value} {l : List AV} (hps : evP e ps.toList = pl) (hz : (P.info? t).bind (·.zero) = some zv) (hu : P.underlying t = some (.array n eT)) (hk : (P.info? eT).map (·.size) = some k)
    (hl : fillA (fun i => some (i * k, k)) (zv.cells.toList.map .v) pl = some l) : OpRO P ⟨d, .build t ps, ty, pos, af, g⟩ e mem (.agg l) := by
  intro pb w0 θ w ev hs h
  subst hps
  obtain ⟨cs', h1, h2, h3⟩ := fill_ok (θ := θ) (pr := Prot pb θ mem) (w := w) (ev := ev) (cs := zv.cells) (fun q hq => h q.2 (by
    simp only [Op.operands, List.mem_toArray, List.mem_map]; exact ⟨q, hq, rfl⟩)) (by simp) (fun i a u ha hu => by
      rw [List.getElem?_map, hu] at ha; simp at ha; subst ha; exact .ro (.v _)) hl
  have hrun : (Instr.build t (ps.map fun (i, x) => (i, evE ev x))).run P w = .ok (.agg cs') w := by
    cases hq : P.info? t with
    | none => rw [hq] at hz; cases hz
    | some i =>
      rw [hq] at hz; simp at hz
      cases hq2 : P.info? eT with
      | none => rw [hq2] at hk; cases hk
      | some i2 =>
        rw [hq2] at hk; simp at hk
        unfold Instr.build
        rw [parts_map]
        simp [Sem.run_bind, zeroValue, typeInfo, sizeOf, hq, hq2, hk, hz, run_underlying hu, h1]
  have e1 : execOp (evE ev) ⟨d, .build t ps, ty, pos, af, g⟩ = (do pure (.value (← Instr.build t (ps.map fun (i, x) => (i, evE ev x))))) := rfl
  rw [e1, Sem.run_bind, hrun]
  exact ⟨.agg _ cs'.toList (by simpa using h2) h3, Ext.refl w⟩
end
end Go.Proofs.YtgiiedpambimoaaDoor

/- The abstract machine: slice literals, slices of slices, what is given up, entering and leaving a function. No conditions on a program. -/
namespace Go.Proofs.YtgiiedpambimoaaDoor
open Go Go.RowKit
set_option linter.unusedVariables false
set_option linter.unusedSimpArgs false

section
variable {P : Program} {e : Nat → AV} {mem : List Ob} {d : Option Tmp} {ty t t2 : TypeId} {pos : String} {af : Array Edge} {g : Option (Nat × Bool)} {x y z : Operand}

/-- A slice literal, all of whose elements stand there. -/
def litA (k : Nat) : Nat → List (Nat × AV) → Option (List (List AV))
  | _, [] => some []
  | i, (j, a) :: l => if i = j then match cellsA a, litA k (i + 1) l with
      | some c, some r => if c.length = k then some (c :: r) else none
      | _, _ => none
    else none
theorem litA_len {k : Nat} : ∀ {l : List (Nat × AV)} {i : Nat} {els : List (List AV)}, litA k i l = some els → els.length = l.length ∧ ∀ q ∈ els, q.length = k
  | [], _, _, h => by simp [litA] at h; subst h; simp
  | (j, a) :: l, i, els, h => by
    simp only [litA] at h
    split at h
    · split at h
      · rename_i c r hc hr
        split at h
        · rename_i hk
          cases h
          obtain ⟨h1, h2⟩ := litA_len hr
          exact ⟨by simp [h1], fun q hq => by
            rcases List.mem_cons.1 hq with rfl | hq
            · exact hk
            · exact h2 q hq⟩
        · cases h
      · cases h
    · cases h
theorem fill_lit {θ : List Value} {pr : Nat → Prop} {w : World} {ev : Nat → Value} {k : Nat} : ∀ {ps : List (Nat × Operand)} {cs : Array Value} {n : Nat} {els : List (List AV)}, (∀ q ∈ ps, R1 θ pr w (evA e q.2) (evE ev q.2)) → cs.size = (n + ps.length) * k →
    litA k n (evP e ps) = some els → ∃ cs', Instr.fill (fun i => some (i * k, k)) cs (ps.map fun q => (q.1, evE ev q.2)) = some cs' ∧ cs'.size = cs.size ∧ (∀ i, i < n * k → cs'.toList[i]? = cs.toList[i]?) ∧ ∀ (i : Nat) (a : AV) (u : Value), els.flatten[i]? = some a → cs'.toList[n * k + i]? = some u → R1 θ pr w a u
  | [], cs, n, els, _, h1, h => by
    simp only [evP, List.map_nil, litA, Option.some.injEq] at h
    subst h
    exact ⟨cs, rfl, rfl, fun _ _ => rfl, fun i a u h => by simp at h⟩
  | (j, x) :: ps, cs, n, els, hp, h1, h => by
    simp only [evP, List.map_cons, litA] at h
    have hx : R1 θ pr w (evA e x) (evE ev x) := hp (j, x) (by simp)
    split at h
    · rename_i hnj
      subst hnj
      split at h
      · rename_i c r hc hr
        split at h
        · rename_i hk
          cases h
          obtain ⟨h3, h4⟩ := cellsA_ok hx hc
          have hle : n * k + k ≤ cs.size := by
            rw [h1]
            have : (n + 1) * k ≤ (n + ((n, x) :: ps).length) * k := Nat.mul_le_mul_right k (by simp)
            rw [Nat.succ_mul] at this; exact this
          have hf := fold_arr cs (evE ev x).cells (n * k) (by omega)
          have hsz : ((evE ev x).cells.zipIdx.foldl (fun cs (c, j) => cs.setIfInBounds (n * k + j) c) cs).size = cs.size := by
            have := congrArg List.length hf
            rw [Array.length_toList] at this
            rw [this, setAt_len _ _ _ (by simp; omega)]; simp
          obtain ⟨cs', h5, h6, h7, h8⟩ := fill_lit (n := n + 1) (cs := ((evE ev x).cells.zipIdx.foldl (fun cs (c, j) => cs.setIfInBounds (n * k + j) c) cs)) (fun q hq => hp q (by simp [hq])) (by rw [hsz, h1, List.length_cons, Nat.add_assoc, Nat.add_comm 1]) hr
          refine ⟨cs', ?_, by rw [h6, hsz], fun i hi => ?_, fun i a u ha hu => ?_⟩
          · simp only [List.map_cons, Instr.fill]
            rw [if_neg (by simp; omega)]
            exact h5
          · rw [h7 i (by rw [Nat.succ_mul]; omega), hf, setAt_get _ _ _ (by simp; omega), if_pos hi]
          · rw [List.flatten_cons] at ha
            rcases Nat.lt_or_ge i c.length with hi | hi
            · rw [List.getElem?_append_left hi] at ha
              rw [h7 _ (by rw [Nat.succ_mul]; omega), hf, setAt_get _ _ _ (by simp; omega), if_neg (by omega), if_pos (by simp; omega), show n * k + i - n * k = i by omega] at hu
              exact h4 i a u ha (by simpa using hu)
            · rw [List.getElem?_append_right hi] at ha
              refine h8 (i - c.length) a u ha ?_
              rw [← hu]; congr 1; rw [Nat.succ_mul]; omega
        · cases h
      · cases h
    · cases h
theorem ro_buildSlice {ps : Array (Nat × Operand)} {pl : List (Nat × AV)} {n k : Nat} {eT : TypeId} {ie : TypeInfo} {zv : Value} {els : List (List AV)} (hps : evP e ps.toList = pl) (hu : P.underlying t = some (.slice eT)) (hie : P.info? eT = some ie) (hk : ie.size = k) (hz : ie.zero = some zv)
    (hn : pl.length = n) (hsm : ¬ n * k > 2 ^ 24) (hpos : ¬ n * k = 0) (hl : litA k 0 pl = some els) (hro : roO.roL els.flatten = true) : OpRO P ⟨d, .buildSlice t n ps, ty, pos, af, g⟩ e mem (.row k els) := by
  intro pb w0 θ w ev hs h
  subst hps
  have hpl : ps.toList.length = n := by rw [← hn]; simp [evP]
  obtain ⟨cs', h1, h2, h3, h4⟩ := fill_lit (θ := θ) (pr := Prot pb θ mem) (w := w) (ev := ev) (k := k) (n := 0) (cs := (Array.range (n * k)).map (zv.cells[· % zv.cells.size]!)) (fun q hq => h q.2 (by
    simp only [Op.operands, List.mem_toArray, List.mem_map]; exact ⟨q, hq, rfl⟩)) (by rw [Nat.zero_add, hpl]; simp) hl
  have hrun := run_buildSlice (P := P) w t eT n (ps.map fun (i, x) => (i, evE ev x)) cs' ie zv hu hie hz (by rw [hk]; exact hsm) (by rw [hk]; exact hpos) (by
    rw [hk, parts_map]; simpa using h1)
  have e1 : execOp (evE ev) ⟨d, .buildSlice t n ps, ty, pos, af, g⟩ = (do pure (.value (← Instr.buildSlice t n (ps.map fun (i, x) => (i, evE ev x))))) := rfl
  rw [e1, Sem.run_bind, hrun]
  obtain ⟨hl1, hl2⟩ := litA_len hl
  have hlen : els.length = n := by rw [hl1]; exact hn
  have hfl := flatten_length hl2
  have hsz : cs'.size = n * k := by rw [h2]; simp
  have hx : Ext w (w.alloc (.cells cs' eT)) := (Ext.refl w).alloc _
  refine ⟨.ro ?_, hx⟩
  rw [← hlen]
  have hnp : ¬ Prot pb θ mem w.heap.size := by
    rintro (hq | ⟨j, o, v, q1, q2, q3, q4⟩)
    · have := (hs.low _ hq).1; have := hs.ext.size; omega
    · have := ((hs.ob j o v q1 q3).lt q2 q4).2; omega
  have hcell : ∀ i : Nat, (w.alloc (.cells cs' eT)).cell? ⟨w.heap.size, 0 + i, none⟩ = cs'[i]? := fun i => by
    rw [Nat.zero_add]; exact cell_of_row _ w.heap.size i cs' eT (0, 0) (heap_alloc_new w _)
  refine .row k els w.heap.size 0 els.length (fun i => cs'.getD i undef) (fun h0 => hpos (by rw [← hlen, h0]; simp)) (Nat.le_refl _) hl2 (by simp) hnp (fun i a ha => ?_) (fun i a ha => ?_)
  · have hi : i < cs'.size := by rw [hsz, ← hlen, ← hfl]; exact (List.getElem?_eq_some_iff.1 ha).1
    have := hcell i
    rw [this, Array.getElem?_eq_getElem hi]
    simp [hi]
  · have hi : i < cs'.size := by rw [hsz, ← hlen, ← hfl]; exact (List.getElem?_eq_some_iff.1 ha).1
    have := h4 i a (cs'.getD i undef) ha (by rw [Nat.zero_mul, Nat.zero_add]; simp [hi])
    exact (this.ro0 (roL_get hro ha)).ext hx

/-! ### What is given up -/
/-- A value as it is read once the objects are given up. -/
inductive Vw (mem : List Ob) : AV → AV → Prop
  | ro (a : AV) : roO a = true → Vw mem a a
  | nil (k : Nat) : Vw mem (.v (.slice none 0 0)) (.row k [])
  | own (j k : Nat) (eT : TypeId) (els : List (List AV)) : mem[j]? = some (.row eT k els) → Vw mem (.own j) (.row k els)
  | ptr (j off : Nat) (T : TypeId) (cells cells' : List AV) : mem[j]? = some (.box T cells) → cells'.length = cells.length → (∀ (i : Nat) (a b : AV), cells[i]? = some a → cells'[i]? = some b → Vw mem a b) → Vw mem (.ptr j off) (.ref (cells'.drop off))
  | agg (l l' : List AV) : l'.length = l.length → (∀ (i : Nat) (a b : AV), l[i]? = some a → l'[i]? = some b → Vw mem a b) → Vw mem (.agg l) (.agg l')
  | tuple (l l' : List AV) : l'.length = l.length → (∀ (i : Nat) (a b : AV), l[i]? = some a → l'[i]? = some b → Vw mem a b) → Vw mem (.tuple l) (.tuple l')
  | clo (fn : Fn) (l l' m m' : List AV) : l'.length = l.length → (∀ (i : Nat) (a b : AV), l[i]? = some a → l'[i]? = some b → Vw mem a b) → m'.length = m.length → (∀ (i : Nat) (a b : AV), m[i]? = some a → m'[i]? = some b → Vw mem a b) → Vw mem (.clo fn l m) (.clo fn l' m')
theorem Vw.ok {pb : Nat → Prop} {w0 : Bs} {w : World} {θ : List Value} (hs : SimM pb w0 w θ mem) {a b : AV} (h : Vw mem a b) : ∀ {x : Value}, R1 θ (Prot pb θ mem) w a x → R0 pb w b x := by
  have weak : ∀ {a : AV} {x : Value}, R0 (Prot pb θ mem) w a x → R0 pb w a x := fun h => h.mono (Nat.le_refl _) (fun _ _ _ => rfl) (fun b _ hn hp => hn (.inl hp))
  have npb : ∀ {j : Nat} {o : Ob} {v : Value} {b : Nat}, mem[j]? = some o → o ≠ .gone → θ[j]? = some v → baseOf v = some b → ¬ pb b := fun h1 h2 h3 h4 hp => by
    rcases ((hs.ob _ _ _ h1 h3).lt h2 h4).1 with q | q
    · have := (hs.low _ hp).1; omega
    · exact (hs.low _ hp).2 q
  induction h with
  | ro a ha => exact fun h => weak (h.ro0 ha)
  | nil k => exact fun h => by rw [h.val]; exact .nil _ _ _
  | own j k eT els hm =>
    intro x h
    have hθ := h.getOwn
    obtain ⟨xs, h1, _, h2, h3⟩ := hs.ob j _ x hm hθ
    rcases h1.2 with ⟨rfl, hn⟩ | ⟨gg, cap, cur, rfl, hgb, hh, hcap, hmax, hcs, htake⟩
    · have : els = [] := List.eq_nil_of_length_eq_zero hn
      subst this; exact .nil _ _ _
    · by_cases h0 : els = []
      · subst h0; exact .nil _ _ _
      · have hxl : xs.length = els.length * k := h1.1
        have hfl := flatten_length h2
        refine .row k els gg 0 cap (fun i => xs.getD i undef) h0 hcap h2 (Array.getElem?_eq_some_iff.1 hh).1 (npb hm (by simp) hθ rfl) (fun i a ha => ?_) (fun i a ha => ?_)
        · have hi : i < xs.length := by rw [hxl, ← hfl]; exact (List.getElem?_eq_some_iff.1 ha).1
          rw [Nat.zero_add]
          exact own_cells h1 rfl i _ (by simp [hi, List.getD_eq_getElem?_getD])
        · have hi : i < xs.length := by rw [hxl, ← hfl]; exact (List.getElem?_eq_some_iff.1 ha).1
          exact weak (h3 i a _ ha (by simp [hi, List.getD_eq_getElem?_getD]))
  | ptr j off T cells cells' hm hl _ ih =>
    intro x h
    obtain ⟨b, y, hθ, hbase, rfl⟩ := h.getPtr
    obtain ⟨b', xs, h3, rfl, h4, h5, h6⟩ := hs.ob j _ y hm hθ
    cases hbase
    refine .ref _ b' off (fun i => xs.getD (off + i) undef) (Array.getElem?_eq_some_iff.1 h4).1 (npb hm (by simp) hθ rfl) (fun i a ha => ?_) (fun i a ha => ?_)
    · rw [List.getElem?_drop] at ha
      have hi : off + i < xs.length := by rw [h5, ← hl]; exact (List.getElem?_eq_some_iff.1 ha).1
      rw [cell_of_row w b' (off + i) xs.toArray T (0, 0) h4]
      simp [hi, List.getD_eq_getElem?_getD]
    · rw [List.getElem?_drop] at ha
      have hi : off + i < xs.length := by rw [h5, ← hl]; exact (List.getElem?_eq_some_iff.1 ha).1
      have hic : off + i < cells.length := by omega
      exact ih (off + i) cells[off + i] a (List.getElem?_eq_getElem hic) ha (h6 _ _ _ (List.getElem?_eq_getElem hic) (by simp [hi, List.getD_eq_getElem?_getD]))
  | agg l l' hl _ ih =>
    intro x h
    obtain ⟨xs, rfl, h2, h3⟩ := h.getAgg
    refine .agg l' xs (by omega) fun i b u hb hu => ?_
    have hi : i < l.length := by have := (List.getElem?_eq_some_iff.1 hb).1; omega
    exact ih i l[i] b (List.getElem?_eq_getElem hi) hb (h3 i _ u (List.getElem?_eq_getElem hi) hu)
  | tuple l l' hl _ ih =>
    intro x h
    obtain ⟨xs, rfl, h2, h3⟩ := h.getTuple
    refine .tuple l' xs (by omega) fun i b u hb hu => ?_
    have hi : i < l.length := by have := (List.getElem?_eq_some_iff.1 hb).1; omega
    exact ih i l[i] b (List.getElem?_eq_getElem hi) hb (h3 i _ u (List.getElem?_eq_getElem hi) hu)
  | clo fn l l' m m' hl _ hm _ ih1 ih2 =>
    intro x h
    obtain ⟨xs, us, rfl, h2, h3, h4, h5⟩ : ∃ xs us : List Value, x = .func fn xs.toArray us.toArray ∧ xs.length = l.length ∧ (∀ (i : Nat) (b : AV) (x : Value), l[i]? = some b → xs[i]? = some x → R1 θ (Prot pb θ mem) w b x) ∧ us.length = m.length ∧ (∀ (i : Nat) (b : AV) (x : Value), m[i]? = some b → us[i]? = some x → R1 θ (Prot pb θ mem) w b x) := by
      cases h with
      | ro h => cases h with | clo _ _ _ xs us h1 h2 h3 h4 => exact ⟨xs, us, rfl, h1, fun i b x hb hx => .ro (h2 i b x hb hx), h3, fun i b x hb hx => .ro (h4 i b x hb hx)⟩
      | clo _ _ _ xs us h1 h2 h3 h4 => exact ⟨xs, us, rfl, h1, h2, h3, h4⟩
    refine .clo fn l' m' xs us (by omega) (fun i b u hb hu => ?_) (by omega) fun i b u hb hu => ?_
    · have hi : i < l.length := by have := (List.getElem?_eq_some_iff.1 hb).1; omega
      exact ih1 i l[i] b (List.getElem?_eq_getElem hi) hb (h3 i _ u (List.getElem?_eq_getElem hi) hu)
    · have hi : i < m.length := by have := (List.getElem?_eq_some_iff.1 hb).1; omega
      exact ih2 i m[i] b (List.getElem?_eq_getElem hi) hb (h5 i _ u (List.getElem?_eq_getElem hi) hu)

/-! ### Leaving and entering -/
def resS (tmps : Array Value) : ResultVar → Sem Value
  | .tmp t => pure (tmps.getD t undef)
  | .cell q t => do loadVar t (← asAddr (tmps.getD q undef))
theorem results_one {fn : Func} {rv : ResultVar} (h : fn.results = #[rv]) (tmps : Array Value) {w w' : World} {v : Value} (h1 : (resS tmps rv).run P w = .ok v w') : (results fn tmps).run P w = .ok v w' := by
  unfold results
  rw [h]
  cases rv <;> simp [resS] at h1 ⊢ <;> simp_all
theorem results_two {fn : Func} {rv1 rv2 : ResultVar} (h : fn.results = #[rv1, rv2]) (tmps : Array Value) {w : World} {v1 v2 : Value} (h1 : (resS tmps rv1).run P w = .ok v1 w) (h2 : (resS tmps rv2).run P w = .ok v2 w) : (results fn tmps).run P w = .ok (.tuple #[v1, v2]) w := by
  have e : results fn tmps = (do let a ← resS tmps rv1; let b ← resS tmps rv2; pure (.tuple #[a, b])) := by
    unfold results
    rw [h]
    cases rv1 <;> cases rv2 <;> simp [resS]
  rw [e]
  simp [Sem.run_bind, h1, h2]
/-- What a result variable holds. -/
def ResV (P : Program) (e : Nat → AV) (mem : List Ob) : ResultVar → AV → Prop
  | .tmp t, a => e t = a
  | .cell t T, a => ∃ j T' cells row n, e t = .ptr j 0 ∧ mem[j]? = some (.box T' cells) ∧ TyIs P T row n ∧ n ≤ cells.length ∧ (row = true ∨ n = 1) ∧ packA row n cells = a
theorem resV_tmp {t : Tmp} {a : AV} (h : e t = a) : ResV P e mem (.tmp t) a := h
theorem resV_cell {t : Tmp} {T T' : TypeId} {j n : Nat} {row : Bool} {cells : List AV} (h : e t = .ptr j 0) (hm : mem[j]? = some (.box T' cells)) (ht : TyIs P T row n) (hn : n ≤ cells.length) (h1 : row = true ∨ n = 1) : ResV P e mem (.cell t T) (packA row n cells) := ⟨j, T', cells, row, n, h, hm, ht, hn, h1, rfl⟩
theorem resV_run {pb : Nat → Prop} {w0 : Bs} {w : World} {θ : List Value} {N : Nat} {a : Act} (hf : Fit N pb w0 e mem θ a w) {rv : ResultVar} {r : AV} (h : ResV P e mem rv r) :
    ∃ v, (resS a.tmps rv).run P w = .ok v w ∧ R1 θ (Prot pb θ mem) w r v := by
  cases rv with
  | tmp t => exact ⟨_, rfl, by have := hf.sl t; rwa [show e t = r from h] at this⟩
  | cell t T =>
    obtain ⟨j, T', cells, row, n, h1, h2, h3, h4, h5, rfl⟩ := h
    have h6 := hf.sl t
    rw [h1] at h6
    obtain ⟨b, y, hθ, hbase, hv⟩ := h6.getPtr
    obtain ⟨b', xs, q3, rfl, q4, q5, q6⟩ := hf.sim.ob j _ y h2 hθ
    cases hbase
    obtain ⟨v, h7, h8⟩ := run_load_cells (P := P) (t := T) (θ := θ) (pr := Prot pb θ mem) (w := w) (b := b') (o := 0) (cells := cells) (f := fun i => xs.getD i undef) h3 h4 h5
      (fun i hi => by
        have hlt : i < xs.length := by omega
        rw [Nat.zero_add, cell_of_row w b' i xs.toArray T' (0, 0) q4]
        simp [hlt, List.getD_eq_getElem?_getD])
      (fun i a ha => by
        have hlt : i < xs.length := by rw [q5]; exact (List.getElem?_eq_some_iff.1 ha).1
        exact q6 i a _ ha (by simp [hlt, List.getD_eq_getElem?_getD]))
    refine ⟨v, ?_, h8⟩
    simp only [Instr.loadAt, Instr.sureAddr, Sem.run_bind, Sem.run_pure, Result.andThen_ok] at h7
    simp only [resS, Sem.run_bind, hv, asAddr, Sem.run_pure, Result.andThen_ok]
    exact h7
def RetQ (P : Program) (N : Nat) (fn : Func) (ψ : AV → Prop) : AQ := fun x e mem => (x = .normal ∨ x = .ret) ∧ ∃ r, ψ r ∧ ∀ pb w0 θ w (a : Act), Fit N pb w0 e mem θ a w → ∃ v, (results fn a.tmps).run P w = .ok v w ∧ R0 pb w r v
theorem ret1 {N : Nat} {fn : Func} {ψ : AV → Prop} {x : Exit} (hx : x = .normal ∨ x = .ret) {rv : ResultVar} {a r : AV} (hr : fn.results = #[rv]) (h1 : ResV P e mem rv a) (hv : Vw mem a r) (hψ : ψ r) : RetQ P N fn ψ x e mem := by
  refine ⟨hx, r, hψ, fun pb w0 θ w act hf => ?_⟩
  obtain ⟨v, h2, h3⟩ := resV_run hf h1
  exact ⟨v, results_one hr _ h2, hv.ok hf.sim h3⟩
theorem ret2 {N : Nat} {fn : Func} {ψ : AV → Prop} {x : Exit} (hx : x = .normal ∨ x = .ret) {rv1 rv2 : ResultVar} {a1 a2 r1 r2 : AV} (hr : fn.results = #[rv1, rv2]) (h1 : ResV P e mem rv1 a1) (h2 : ResV P e mem rv2 a2) (hv1 : Vw mem a1 r1) (hv2 : Vw mem a2 r2) (hψ : ψ (.tuple [r1, r2])) : RetQ P N fn ψ x e mem := by
  refine ⟨hx, _, hψ, fun pb w0 θ w act hf => ?_⟩
  obtain ⟨v1, q1, q2⟩ := resV_run hf h1
  obtain ⟨v2, q3, q4⟩ := resV_run hf h2
  refine ⟨.tuple #[v1, v2], ?_, .tuple _ [v1, v2] rfl fun i a u ha hu => ?_⟩
  · exact results_two hr _ q1 q3
  · rcases i with _ | _ | i
    · simp at ha hu; subst ha hu; exact hv1.ok hf.sim q2
    · simp at ha hu; subst ha hu; exact hv2.ok hf.sim q4
    · simp at ha
/-- Cells stay; all of the beginning stays. -/
structure CalmA (B : Nat) (w w' : World) : Prop where
  below : Below B w w'
  cells : ∀ (b : Nat) (c : Array Value) (t : TypeId) (f : Nat × Nat), w.heap[b]? = some (.cells c t f) → w'.heap[b]? = some (.cells c t f)
theorem CalmA.refl (B : Nat) (w : World) : CalmA B w w := ⟨Below.refl _ _, fun _ _ _ _ h => h⟩
theorem CalmA.trans {B : Nat} {a b c : World} (h : CalmA B a b) (k : CalmA B b c) : CalmA B a c := ⟨h.below.trans k.below, fun i cs t f hi => k.cells i cs t f (h.cells i cs t f hi)⟩
theorem CalmA.put {B D : Nat} {w : World} {ds : Option (List Deferred)} (o' : Obj) (hB : B ≤ D) (h : w.heap[D]? = some (.deferred ds)) : CalmA B w (w.putObj D o') :=
  ⟨(Below.refl B w).grown (grownBy_putObj' w D o') (by have := (Array.getElem?_eq_some_iff.1 h).1; omega) (fun k e => by cases e; omega), fun b c t f hk => by
    by_cases e : b = D
    · subst e; rw [h] at hk; cases hk
    · exact (World.putObj_heap_other e).trans hk⟩
theorem cell_cells {w : World} {b o : Nat} {v : Value} (h : w.cell? ⟨b, o, none⟩ = some v) : ∃ c t f, w.heap[b]? = some (.cells c t f) := by
  unfold World.cell? at h
  simp only at h
  split at h
  · rename_i c t f hb; exact ⟨c, t, f, hb⟩
  · cases h
theorem CalmA.cell {B : Nat} {w w' : World} (h : CalmA B w w') {b o : Nat} {v : Value} (hc : w.cell? ⟨b, o, none⟩ = some v) : w'.cell? ⟨b, o, none⟩ = some v := by
  obtain ⟨c, t, f, hb⟩ := cell_cells hc
  rw [cell_of_heap ((h.cells b c t f hb).trans hb.symm) o]; exact hc
theorem R0.calm {pr : Nat → Prop} {B : Nat} {w w' : World} (hc : CalmA B w w') {a : AV} {x : Value} (h : R0 pr w a x) : R0 pr w' a x := by
  induction h with
  | any x => exact .any x
  | v x => exact .v x
  | nil k c A => exact .nil k c A
  | emp A => exact .emp A
  | row k els b o c f h1 h2 h3 h4 h5 h6 _ ih => exact .row k els b o c f h1 h2 h3 (Nat.lt_of_lt_of_le h4 hc.below.size) h5 (fun i a hi => hc.cell (h6 i a hi)) ih
  | ref cells b o f h4 h5 h6 _ ih => exact .ref cells b o f (Nat.lt_of_lt_of_le h4 hc.below.size) h5 (fun i a hi => hc.cell (h6 i a hi)) ih
  | agg l xs h1 _ ih => exact .agg l xs h1 ih
  | tuple l xs h1 _ ih => exact .tuple l xs h1 ih
  | clo fn l m xs ys h1 _ h3 _ ih1 ih2 => exact .clo fn l m xs ys h1 ih1 h3 ih2
theorem R1.calm {θ : List Value} {pr : Nat → Prop} {B : Nat} {w w' : World} (hc : CalmA B w w') {a : AV} {x : Value} (h : R1 θ pr w a x) : R1 θ pr w' a x := by
  induction h with
  | ro h => exact .ro (h.calm hc)
  | own j x h h0 => exact .own j x h h0
  | ptr j off b x h h2 => exact .ptr j off b x h h2
  | agg l xs h1 _ ih => exact .agg l xs h1 ih
  | tuple l xs h1 _ ih => exact .tuple l xs h1 ih
  | clo fn l m xs ys h1 _ h3 _ ih1 ih2 => exact .clo fn l m xs ys h1 ih1 h3 ih2
theorem ObR.calm {θ : List Value} {pr bs : Nat → Prop} {B : Nat} {w w' : World} {v : Value} {o : Ob} (hc : CalmA B w w') (h : ObR θ pr bs w v o) : ObR θ pr bs w' v o := by
  cases o with
  | box t cells => obtain ⟨b', xs, h1, rfl, h2, h3, h4⟩ := h; exact ⟨b', xs, h1, rfl, hc.cells _ _ _ _ h2, h3, fun i a x ha hx => (h4 i a x ha hx).calm hc⟩
  | row e k els =>
    obtain ⟨xs, h1, hbs, h2, h3⟩ := h
    refine ⟨xs, ⟨h1.1, ?_⟩, hbs, h2, fun i a x ha hx => (h3 i a x ha hx).calm hc⟩
    rcases h1.2 with h4 | ⟨g, cap, cur, hv, hg, hh, rest⟩
    · exact .inl h4
    · exact .inr ⟨g, cap, cur, hv, hg, hc.cells _ _ _ _ hh, rest⟩
  | gone => trivial
  | glob gs => exact ⟨h.1, fun x hx => (h.2 x hx).calm hc⟩
theorem SimM.calm {pb : Nat → Prop} {w0 : Bs} {w w' : World} {θ : List Value} {mem : List Ob} (h : SimM pb w0 w θ mem) (hc : CalmA w0.w.heap.size w w') : SimM pb w0 w' θ mem :=
  ⟨⟨h.ext.below.trans (hc.below.mono (Nat.zero_le _)), fun b hb hl => (hc.below.block b hb).trans (h.ext.block b hb hl)⟩, h.low, h.len, fun j o v hm hv => (h.ob j o v hm hv).calm hc, h.dis⟩
/-- The marks taken up, a frame is left. -/
theorem leave_marks {n : Nat} {fn : Func} {tmps : Array Value} {R : Ending → World → Prop} {pr : Nat → Prop} {B : Nat} : ∀ {ds : List Deferred} {w : World}, Mks B pr w ds → (∀ w', CalmA B w w' → ∃ v, (results fn tmps).run P w' = .ok v w' ∧ R (.returned v) w') → LeavesInM Fence.wide n P fn tmps R ds .returning w
  | [], w, _, h => h w (CalmA.refl _ _)
  | d :: ds, w, hm, h => by
    obtain ⟨D, h1, h2, h3, h4, h5⟩ := hm.1 d (by simp)
    refine ⟨by simp, .inl ⟨D, _, h1, run_takeDeferred h4, ?_⟩⟩
    have hc : CalmA B w (w.putObj D (.deferred none)) := CalmA.put _ h5 h4
    refine leave_marks (pr := pr) (B := B) ⟨fun d' hd' => ?_, (List.pairwise_cons.1 hm.2).2⟩ (fun w' hw' => h w' (hc.trans hw'))
    obtain ⟨D', g1, g2, g3, g4, g5⟩ := hm.1 d' (by simp [hd'])
    have hne : D' ≠ D := fun e => (List.pairwise_cons.1 hm.2).1 d' hd' (by rw [h1, g1, e])
    exact ⟨D', g1, Nat.lt_of_lt_of_le g2 hc.below.size, g3, (World.putObj_heap_other hne).trans g4, g5⟩
/-- **A function's contract, by its body.** -/
theorem fnOk_of {f : FuncId} {fn : Func} {c : Code} {args : List AV} {ψ : AV → Prop} (N : Nat) (hf : P.funcs[f]? = some fn) (hb : fn.body = some c) (hn : fn.ntmps = N) (hN : args.length ≤ N) (hA : ∀ e m, (∀ (t : Nat) (a : AV), args[t]? = some a → evA e (.tmp t) = a) → m = [] → AW .top P N c (RetQ P N fn ψ) e m) : FnOk P f args ψ := by
  subst hn
  have h := hA (ent args) [] (fun t a ha => by show args.getD t _ = a; rw [List.getD_eq_getElem?_getD, ha]; rfl) rfl
  intro pr w vs h1 h2
  refine (callsIn_wide (n := 9)).1 (callsIn_of_wp_marks hf hb trivial (wpIn_mono (h Fence.wide 9 rfl (fun b => pr b ∧ b < w.heap.size) ⟨w, fun _ => False⟩ [] { tmps := vs.toArray ++ Array.replicate (fn.ntmps - vs.toArray.size) undef, defers := [] } w ⟨?_, Mks.nil _ _ _, fun t => ?_, ?_⟩) ?_))
  · simp; omega
  · show R1 _ _ _ (args.getD t (.v undef)) ((vs.toArray ++ Array.replicate (fn.ntmps - vs.toArray.size) undef).getD t undef)
    by_cases ht : t < args.length
    · have e1 : args.getD t (.v undef) = args[t] := by simp [List.getD_eq_getElem?_getD, ht]
      have ht' : t < vs.length := by omega
      have e2 : (vs.toArray ++ Array.replicate (fn.ntmps - vs.toArray.size) undef).getD t undef = vs[t] := by
        rw [Array.getD_eq_getD_getElem?, Array.getElem?_append_left (by simpa using ht')]; simp [ht']
      rw [e1, e2]
      refine .ro ((h2 t _ _ (List.getElem?_eq_getElem ht) (List.getElem?_eq_getElem ht')).mono (Nat.le_refl _) (fun _ _ _ => rfl) fun b _ hn hp => ?_)
      rcases hp with hp | ⟨j, o, v, q, _⟩
      · exact hn hp.1
      · simp at q
    · have e1 : args.getD t (.v undef) = .v undef := by simp [List.getD_eq_getElem?_getD, List.getElem?_eq_none (Nat.le_of_not_lt ht)]
      have e2 : (vs.toArray ++ Array.replicate (fn.ntmps - vs.toArray.size) undef).getD t undef = undef := by
        rw [Array.getD_eq_getD_getElem?, Array.getElem?_append_right (by simp; omega), Array.getElem?_replicate]
        split <;> rfl
      rw [e1, e2]; exact .ro (.v _)
  · exact ⟨Bel.refl w _, fun b hb => ⟨hb.2, id⟩, rfl, fun j o v hm => by simp at hm, fun i j o p v u b hm => by simp at hm⟩
  · rintro x a w' ⟨e', mem', θ', hfit, -, hx, r, hψ, hr⟩
    have fin : LeavesInM Fence.wide 9 P fn a.tmps (fun en w' => ∃ r v, en = .returned v ∧ ψ r ∧ R0 (fun b => pr b ∧ b < w.heap.size) w' r v ∧ Ext w w') a.defers .returning w' := by
      refine leave_marks hfit.dfr fun w2 hc => ?_
      obtain ⟨v, h3, h4⟩ := hr _ _ _ w2 { a with defers := [] } ⟨hfit.size, Mks.nil _ _ _, fun t => (hfit.sl t).calm hc, hfit.sim.calm hc⟩
      exact ⟨v, h3, r, v, rfl, hψ, h4, (hfit.sim.calm hc).ext.toExt⟩
    rcases hx with rfl | rfl
    · exact fin
    · exact fin
end
end Go.Proofs.YtgiiedpambimoaaDoor

/- The abstract machine: the rules as a program of mine prints them. No conditions on a program. -/
namespace Go.Proofs.YtgiiedpambimoaaDoor
open Go Go.RowKit
set_option linter.unusedVariables false
set_option linter.unusedSimpArgs false

section
variable {M : Mode} {P : Program} {N : Nat} {Q : AQ} {e : Nat → AV} {mem : List Ob} {d : Option Tmp} {ty t t2 : TypeId} {pos : String} {af : Array Edge} {g : Option (Nat × Bool)} {x y z : Operand} {K : (Nat → AV) → List Ob → Prop} {id : Nat}

theorem ev_c {v : Value} : evA e (.const v) = .v v := rfl
theorem ev_f {f : FuncId} : evA e (.func f) = .v (.func (.func f) #[] #[]) := rfl
theorem u2 {e : Nat → AV} {t d0 d1 : Tmp} {r0 r1 a : AV} (hd : (t == d0 || t == d1) = false) (h : evA e (.tmp t) = a) : evA (upA (upA e (some d0) r0) (some d1) r1) (.tmp t) = a := by
  simp only [Bool.or_eq_false_iff] at hd
  exact up_m hd.2 (up_m hd.1 h)
theorem u4 {e : Nat → AV} {t d0 d1 d2 d3 : Tmp} {r0 r1 r2 r3 a : AV} (hd : (t == d0 || t == d1 || t == d2 || t == d3) = false) (h : evA e (.tmp t) = a) : evA (upA (upA (upA (upA e (some d0) r0) (some d1) r1) (some d2) r2) (some d3) r3) (.tmp t) = a := by
  simp only [Bool.or_eq_false_iff] at hd
  exact up_m hd.2 (up_m hd.1.2 (up_m hd.1.1.2 (up_m hd.1.1.1 h)))
theorem u8 {e : Nat → AV} {t d0 d1 d2 d3 d4 d5 d6 d7 : Tmp} {r0 r1 r2 r3 r4 r5 r6 r7 a : AV} (hd : (t == d0 || t == d1 || t == d2 || t == d3 || t == d4 || t == d5 || t == d6 || t == d7) = false) (h : evA e (.tmp t) = a) : evA (upA (upA (upA (upA (upA (upA (upA (upA e (some d0) r0) (some d1) r1) (some d2) r2) (some d3) r3) (some d4) r4) (some d5) r5) (some d6) r6) (some d7) r7) (.tmp t) = a := by
  simp only [Bool.or_eq_false_iff] at hd
  exact up_m hd.2 (up_m hd.1.2 (up_m hd.1.1.2 (up_m hd.1.1.1.2 (up_m hd.1.1.1.1.2 (up_m hd.1.1.1.1.1.2 (up_m hd.1.1.1.1.1.1.2 (up_m hd.1.1.1.1.1.1.1 h)))))))
theorem u16 {e : Nat → AV} {t d0 d1 d2 d3 d4 d5 d6 d7 d8 d9 d10 d11 d12 d13 d14 d15 : Tmp} {r0 r1 r2 r3 r4 r5 r6 r7 r8 r9 r10 r11 r12 r13 r14 r15 a : AV} (hd : (t == d0 || t == d1 || t == d2 || t == d3 || t == d4 || t == d5 || t == d6 || t == d7 || t == d8 || t == d9 || t == d10 || t == d11 || t == d12 || t == d13 || t == d14 || t == d15) = false) (h : evA e (.tmp t) = a) : evA (upA (upA (upA (upA (upA (upA (upA (upA (upA (upA (upA (upA (upA (upA (upA (upA e (some d0) r0) (some d1) r1) (some d2) r2) (some d3) r3) (some d4) r4) (some d5) r5) (some d6) r6) (some d7) r7) (some d8) r8) (some d9) r9) (some d10) r10) (some d11) r11) (some d12) r12) (some d13) r13) (some d14) r14) (some d15) r15) (.tmp t) = a := by
  simp only [Bool.or_eq_false_iff] at hd
  exact up_m hd.2 (up_m hd.1.2 (up_m hd.1.1.2 (up_m hd.1.1.1.2 (up_m hd.1.1.1.1.2 (up_m hd.1.1.1.1.1.2 (up_m hd.1.1.1.1.1.1.2 (up_m hd.1.1.1.1.1.1.1.2 (up_m hd.1.1.1.1.1.1.1.1.2 (up_m hd.1.1.1.1.1.1.1.1.1.2 (up_m hd.1.1.1.1.1.1.1.1.1.1.2 (up_m hd.1.1.1.1.1.1.1.1.1.1.1.2 (up_m hd.1.1.1.1.1.1.1.1.1.1.1.1.2 (up_m hd.1.1.1.1.1.1.1.1.1.1.1.1.1.2 (up_m hd.1.1.1.1.1.1.1.1.1.1.1.1.1.1.2 (up_m hd.1.1.1.1.1.1.1.1.1.1.1.1.1.1.1 h)))))))))))))))
theorem ef {e e1 : Nat → AV} (t : Tmp) {a : AV} (h : e1 = e) (h2 : evA e (.tmp t) = a) : evA e1 (.tmp t) = a := by subst h; exact h2
theorem ro_eq {o : Oper} {r r' : AV} (h : OpRO P o e mem r) (hr : r = r') : OpRO P o e mem r' := hr ▸ h

theorem then_n (h : K e mem) : ThenA K Q .normal e mem := h
theorem then_x (h : Q (.exit id) e mem) : ThenA K Q (.exit id) e mem := h
theorem then_r (h : Q .ret e mem) : ThenA K Q .ret e mem := h
theorem block_n (h : Q .normal e mem) : BlockA id Q .normal e mem := h
theorem block_r (h : Q .ret e mem) : BlockA id Q .ret e mem := h
theorem block_hit (h : Q .normal e mem) : BlockA id Q (.exit id) e mem := by show (if id = id then _ else _); rw [if_pos rfl]; exact h
theorem al_end {ops : Array Oper} (h : ∀ e1, e1 = e → Q .normal e1 mem) : AL P N ops [] Q e mem := al_nil (h e rfl)
theorem al_stm {ops : Array Oper} {l : List Oper} {op : Op} {r : AV} {mem' : List Ob} (ho : OpST P ⟨d, op, ty, pos, af, g⟩ e mem r mem') (hg : Gd ops ⟨d, op, ty, pos, af, g⟩ e) (hd : dstB N d = true) (h : ∀ m, m = mem' → AL P N ops l Q (upA e d r) m) : AL P N ops (⟨d, op, ty, pos, af, g⟩ :: l) Q e mem := al_st ho hg hd (h _ rfl)
theorem case_b {G : Prop} {s : Tmp} {b : Bool} (hb : evA e (.tmp s) = .v (.bool b)) (ht : evA e (.tmp s) = .v (.bool true) → b = true → G) (hf : evA e (.tmp s) = .v (.bool false) → b = false → G) : G := by
  cases b
  · exact hf hb rfl
  · exact ht hb rfl
theorem al_ro' {ops : Array Oper} {l : List Oper} {op : Op} {r : AV} (ho : OpRO P ⟨d, op, ty, pos, af, g⟩ e mem r) (hg : Gd ops ⟨d, op, ty, pos, af, g⟩ e) (hd : dstB N d = true) (h : AL P N ops l Q (upA e d r) mem) : AL P N ops (⟨d, op, ty, pos, af, g⟩ :: l) Q e mem := al_ro ho hg hd h
theorem ds_ro' {ops : Array Oper} {tail l : List Oper} {op : Op} {r : AV} (ho : OpRO P ⟨d, op, ty, pos, af, g⟩ e mem r) (hg : Gd ops ⟨d, op, ty, pos, af, g⟩ e) (hd : dstB N d = true) (h : DS P N ops tail Q mem l (upA e d r)) : DS P N ops tail Q mem (⟨d, op, ty, pos, af, g⟩ :: l) e := ds_ro ho hg hd h
theorem al_skip' {ops : Array Oper} {l : List Oper} {op : Op} (hg : Ng ops ⟨d, op, ty, pos, af, g⟩ e) (hd : dstB N d = true) (h : AL P N ops l Q (upA e d (.v undef)) mem) : AL P N ops (⟨d, op, ty, pos, af, g⟩ :: l) Q e mem := al_skip hg hd h
theorem ds_skip' {ops : Array Oper} {tail l : List Oper} {op : Op} (hg : Ng ops ⟨d, op, ty, pos, af, g⟩ e) (hd : dstB N d = true) (h : DS P N ops tail Q mem l (upA e d (.v undef))) : DS P N ops tail Q mem (⟨d, op, ty, pos, af, g⟩ :: l) e := ds_skip hg hd h
theorem al_case {ops : Array Oper} {l : List Oper} {s : Tmp} {b : Bool} (hb : evA e (.tmp s) = .v (.bool b)) (ht : evA e (.tmp s) = .v (.bool true) → b = true → AL P N ops l Q e mem) (hf : evA e (.tmp s) = .v (.bool false) → b = false → AL P N ops l Q e mem) : AL P N ops l Q e mem := case_b hb ht hf
theorem ds_case {ops : Array Oper} {tail l : List Oper} {s : Tmp} {b : Bool} (hb : evA e (.tmp s) = .v (.bool b)) (ht : evA e (.tmp s) = .v (.bool true) → b = true → DS P N ops tail Q mem l e) (hf : evA e (.tmp s) = .v (.bool false) → b = false → DS P N ops tail Q mem l e) : DS P N ops tail Q mem l e := case_b hb ht hf
theorem aw_case {c : Operand} {x y : Code} {b : Bool} (hc : evA e c = .v (.bool b)) (ht : b = true → AW M P N x Q e mem) (hf : b = false → AW M P N y Q e mem) : AW M P N (.cond c x y) Q e mem := aw_cond hc ht hf

section
variable {m : List Ob} {o o0 : Ob} {i j n : Nat} {q : Option Ob}
theorem m_set (h : m = mem.set j o) (hj : mem[j]? = some o0) : m[j]? = some o := by subst h; rw [List.getElem?_set_self (List.getElem?_eq_some_iff.1 hj).1]
theorem m_set_o (h : m = mem.set j o) (hi : mem[i]? = q) (hij : i ≠ j) : m[i]? = q := by subst h; rw [List.getElem?_set_ne (Ne.symm hij)]; exact hi
theorem m_set_l (h : m = mem.set j o) (hl : mem.length = n) : m.length = n := by subst h; simpa using hl
theorem m_push (h : m = mem ++ [o]) (hl : mem.length = n) : m[n]? = some o := by subst h; subst hl; simp
theorem m_push_o (h : m = mem ++ [o]) (hi : mem[i]? = some o0) : m[i]? = some o0 := by subst h; rw [List.getElem?_append_left (List.getElem?_eq_some_iff.1 hi).1]; exact hi
theorem m_push_l (h : m = mem ++ [o]) (hl : mem.length = n) : m.length = n + 1 := by subst h; simp [hl]
end

theorem bt {p : Prop} [Decidable p] (h : decide p = true) : p := of_decide_eq_true h
theorem bf {p : Prop} [Decidable p] (h : decide p = false) : ¬ p := of_decide_eq_false h
theorem bnt {p : Prop} [Decidable p] (h : (!decide p) = true) : ¬ p := by simpa using h
theorem bnf {p : Prop} [Decidable p] (h : (!decide p) = false) : p := by simpa using h
theorem bt' {b : Bool} (h : (!b) = true) : b = false := by simpa using h
theorem bf' {b : Bool} (h : (!b) = false) : b = true := by simpa using h
theorem avb {a b : Bool} (h : a = true ↔ b = true) : AV.v (.bool a) = AV.v (.bool b) := by rw [Bool.eq_iff_iff.2 h]

/-! ### Facts on types -/
def FldIs (P : Program) (S i off : Nat) (row : Bool) (n : Nat) : Prop := (match P.underlying S with | some (.struct fs) => (fs[i]?).bind fun f => if f.offset = off then (match P.underlying f.type with | some d => some (d.isRow, (P.info? f.type).map (·.size)) | none => none) else none | _ => none) = some (row, some n)
theorem FldIs.get {S i off n : Nat} {row : Bool} (h : FldIs P S i off row n) : ∃ fs f, P.underlying S = some (.struct fs) ∧ fs[i]? = some f ∧ f.offset = off ∧ TyIs P f.type row n := by
  unfold FldIs at h
  split at h
  · rename_i fs hu
    cases hf : fs[i]? with
    | none => rw [hf] at h; cases h
    | some f =>
      rw [hf] at h
      simp only [Option.bind_some] at h
      split at h
      · rename_i ho
        refine ⟨fs, f, hu, hf, ho, ?_⟩
        unfold TyIs
        split at h
        · rename_i dd hd
          rw [hd]
          simp only [Option.some.injEq, Prod.mk.injEq] at h
          exact ⟨congrArg some h.1, h.2⟩
        · cases h
      · cases h
  · cases h
theorem ro_fld_ref {cells : List AV} {i n off : Nat} {row : Bool} (hF : FldIs P t i off row n) (h0 : (n != 0) = true) (hx : evA e x = .ref cells) : OpRO P ⟨d, .fieldAddr t x i, ty, pos, af, g⟩ e mem (.ref (cells.drop off)) :=
  let ⟨_, _, h1, h2, h3, h4⟩ := hF.get; ro_fieldAddr_ref hx h1 h2 h3 h4 (by simpa using h0)
theorem ro_fld_ptr {j o i n off : Nat} {row : Bool} (hF : FldIs P t i off row n) (h0 : (n != 0) = true) (hx : evA e x = .ptr j o) : OpRO P ⟨d, .fieldAddr t x i, ty, pos, af, g⟩ e mem (.ptr j (o + off)) :=
  let ⟨_, _, h1, h2, h3, h4⟩ := hF.get; ro_fieldAddr_ptr hx h1 h2 h3 h4 (by simpa using h0)
theorem ro_fld {l : List AV} {i off n : Nat} {row : Bool} (hF : FldIs P t i off row n) (hx : evA e x = .agg l) (hn : off + n ≤ l.length) (h1 : (row || n == 1) = true) : OpRO P ⟨d, .field t x i, ty, pos, af, g⟩ e mem (packA row n (l.drop off)) :=
  let ⟨_, _, q1, q2, q3, q4⟩ := hF.get; ro_field hx q1 q2 q3 q4 hn (by simpa using h1)
theorem ro_ld_ref {n : Nat} {row : Bool} {cells : List AV} (ht : TyIs P t row n) (h1 : (row || n == 1) = true) (hx : evA e x = .ref cells) (hn : n ≤ cells.length) : OpRO P ⟨d, .load t x, ty, pos, af, g⟩ e mem (packA row n cells) :=
  ro_load_ref hx ht hn (by simpa using h1)
theorem ro_ld_ptr {j off n : Nat} {row : Bool} {T : TypeId} {cells : List AV} (ht : TyIs P t row n) (h1 : (row || n == 1) = true) (hm : mem[j]? = some (.box T cells)) (hx : evA e x = .ptr j off) (hn : off + n ≤ cells.length) : OpRO P ⟨d, .load t x, ty, pos, af, g⟩ e mem (packA row n (cells.drop off)) :=
  ro_load_ptr hx hm ht hn (by simpa using h1)
/-- A slice's type: of which elements. -/
def SlIs (P : Program) (t eT k bytes : Nat) (zv : Value) : Prop := P.underlying t = some (.slice eT) ∧ (P.info? eT).map (fun i => (i.zero, i.size, i.bytes)) = some (some zv, k, bytes) ∧ (match P.underlying eT with | some d => some d.isRow | none => none).isSome = true
theorem SlIs.info {eT k bytes : Nat} {zv : Value} (h : SlIs P t eT k bytes zv) : ∃ i, P.info? eT = some i ∧ i.zero = some zv ∧ i.size = k ∧ i.bytes = bytes := by
  have := h.2.1
  cases hi : P.info? eT with
  | none => rw [hi] at this; cases this
  | some i => rw [hi] at this; simp only [Option.map_some, Option.some.injEq, Prod.mk.injEq] at this; exact ⟨i, rfl, this⟩
theorem SlIs.tyIs {eT k bytes : Nat} {zv : Value} (h : SlIs P t eT k bytes zv) : ∃ row, TyIs P eT row k := by
  obtain ⟨i, h1, h2, h3, h4⟩ := h.info
  have := h.2.2
  cases hd : (match P.underlying eT with | some d => some d.isRow | none => none) with
  | none => rw [hd] at this; cases this
  | some row => exact ⟨row, hd, by rw [h1]; simp [h3]⟩
theorem ro_ix {els : List (List AV)} {el : List AV} {k bytes eT : Nat} {zv : Value} {i : Int} {kk : IntKind} (ht : SlIs P t eT k bytes zv) (hx : evA e x = .row k els) (hy : evA e y = .v (.int kk i)) (h0 : 0 ≤ i) (hel : els[i.toNat]? = some el) : OpRO P ⟨d, .indexAddr t x y, ty, pos, af, g⟩ e mem (.ref el) :=
  let ⟨_, h⟩ := ht.tyIs; ro_indexAddr hx hy ht.1 h h0 hel
theorem ro_lit {ps : Array (Nat × Operand)} {pl : List (Nat × AV)} {n k bytes eT : Nat} {zv : Value} {els : List (List AV)} (ht : SlIs P t eT k bytes zv) (hps : evP e ps.toList = pl) (hn : pl.length = n) (hsm : (decide (n * k ≤ 2 ^ 24) && decide (0 < n * k)) = true) (hl : litA k 0 pl = some els) (hro : roO.roL els.flatten = true) :
    OpRO P ⟨d, .buildSlice t n ps, ty, pos, af, g⟩ e mem (.row k els) := by
  obtain ⟨i, h1, h2, h3, h4⟩ := ht.info
  simp only [Bool.and_eq_true, decide_eq_true_eq] at hsm
  exact ro_buildSlice hps ht.1 h1 h3 h2 hn (by omega) (by omega) hl hro
/-- A nil slice taken for an object of the call's own. -/
theorem R1.set {θ : List Value} {pr : Nat → Prop} {w : World} {s : Tmp} {r : AV} {v : Nat → Value} (h : ∀ t, R1 θ pr w (e t) (v t)) (hr : R1 θ pr w r (v s)) : ∀ t, R1 θ pr w (upA e (some s) r t) (v t) := fun t => by
  by_cases ht : t = s
  · subst ht; simp only [upA, if_true]; exact hr
  · simp only [upA, if_neg ht]; exact h t
end

theorem packA_t {n : Nat} {l : List AV} : packA true n l = .agg (l.take n) := rfl
theorem packA_f {n : Nat} {l : List AV} : packA false n l = l.headD .any := rfl
def fsOf (P : Program) (t : TypeId) : Array Field := match P.underlying t with | some (.struct fs) => fs | _ => #[]
theorem vw_r {mem : List Ob} {n : Nat} {l : List AV} {r : AV} (h : Vw mem (.agg (l.take n)) r) : Vw mem (packA true n l) r := h
/-- An array's type: how many elements, of how many cells each. -/
def ArIs (P : Program) (t len k : Nat) : Prop := (match P.underlying t with | some (.array n _) => some n | _ => none) = some len ∧ (match P.underlying t with | some (.array _ eT) => (P.info? eT).map (·.size) | _ => none) = some k
theorem ro_ixa {P : Program} {e : Nat → AV} {mem : List Ob} {d : Option Tmp} {ty t : TypeId} {pos : String} {af : Array Edge} {g : Option (Nat × Bool)} {x y : Operand} {j off len k : Nat} {i : Int} {kk : IntKind} (ht : ArIs P t len k) (hx : evA e x = .ptr j off) (hy : evA e y = .v (.int kk i)) (h : (decide (0 ≤ i) && decide (i < len)) = true) :
    OpRO P ⟨d, .indexAddr t x y, ty, pos, af, g⟩ e mem (.ptr j (off + i.toNat * k)) := by
  intro pb w0 θ w ev hs h'
  have h1 := h' x (by simp [Op.operands])
  have h2 := h' y (by simp [Op.operands])
  rw [hx] at h1; rw [hy] at h2
  obtain ⟨b, v, hθ, hbase, hp⟩ := h1.getPtr
  simp only [Bool.and_eq_true, decide_eq_true_eq] at h
  rw [ex_indexAddr hp h2.val, Sem.run_bind]
  obtain ⟨q1, q2⟩ := ht
  cases hu : P.underlying t with
  | none => rw [hu] at q1; cases q1
  | some dd =>
    rw [hu] at q1 q2
    cases dd with
    | array n eT =>
      simp only [Option.some.injEq] at q1 q2
      subst q1
      have hsz : ∀ w, (Go.sizeOf eT).run P w = .ok k w := fun w => by
        cases hq : P.info? eT with
        | none => rw [hq] at q2; cases q2
        | some i => rw [hq] at q2; simp at q2; simp [Go.sizeOf, typeInfo, hq, q2]
      have hr : (Instr.indexAt t (.pointer (some ⟨b, off, none⟩)) (.int kk i)).run P w = .ok (.pointer (some ⟨b, off + i.toNat * k, none⟩)) w := by
        unfold Instr.indexAt
        simp [asIntOf, run_underlying hu, Instr.sureAddr, h.1, h.2, hsz, Sem.run_bind, add_ne]
      rw [hr]
      exact ⟨.ptr j _ b v hθ hbase, Ext.refl w⟩
    | _ => cases q1

/-! ### Lists of encoded elements -/
/-- An int's cell; a bool's; a string's. -/
def iE (n : Int) : List AV := [.v (.int .i64 n)]
def bE (n : UInt8) : List AV := [.v (.int .u8 n.toNat)]
theorem idx_map {α : Type} [Inhabited α] {f : α → List AV} {l : List α} {k : Nat} (h : k < l.length) : (l.map f)[((k : Int)).toNat]? = some (f (l.getD k default)) := by
  simp [h, List.getD_eq_getElem?_getD]
theorem idx_mapI {α : Type} [Inhabited α] {f : α → List AV} {l : List α} {i : Int} (h : i.toNat < l.length) : (l.map f)[i.toNat]? = some (f (l.getD i.toNat default)) := by
  simp [h, List.getD_eq_getElem?_getD]
theorem idx_mapN {α : Type} [Inhabited α] {f : α → List AV} {l : List α} {k : Nat} (h : k < l.length) : (l.map f)[k]? = some (f (l.getD k default)) := by
  simp [h, List.getD_eq_getElem?_getD]
theorem map_vc (x : Value) (l : List Value) : (x :: l).map AV.v = AV.v x :: l.map AV.v := rfl
theorem map_vn : ([] : List Value).map AV.v = [] := rfl
theorem set_iE (xs : List Int) (i : Nat) (n : Int) : (xs.map iE).set i [.v (.int .i64 n)] = (xs.set i n).map iE := by simp [List.map_set, iE]
end Go.Proofs.YtgiiedpambimoaaDoor

