/- A range over a function whose rounds are known: the iterator hands over the members of a list, one by one. No conditions on a program. -/
import Derived.Test.YtdbglpaejmhbjaaDoorLib
import Derived.RangeFuncNested
import Derived.RangeFuncBound
import Derived.RangeFuncCalls
import Derived.RangeFuncLeaves
import Derived.OwnWalkIn
import Derived.TacticsInMore
import Derived.LoopNIn
import Derived.LoopIn
namespace Go.Proofs.YtdbglpaejmhbjaaDoor
open Go Go.RowKit

/-- Cells of one of these element types. -/
def inT (T : TypeId → Bool) : Obj → Bool
  | .cells _ t _ => T t
  | _ => false

/-- What a round keeps: all below n0, and every block but for those of cells of these types. -/
structure Keeps (T : TypeId → Bool) (n0 : Nat) (W W' : World) : Prop where
  below : Below n0 W W'
  same : ∀ (k : Nat) (o : Obj), W.heap[k]? = some o → inT T o = false → W'.heap[k]? = some o

/-- What happens beside: cells stay as they are. -/
structure Calm (B : Nat) (W W' : World) : Prop where
  below : Below B W W'
  same : ∀ (k : Nat) (c : Array Value) (t : TypeId) (f : Nat × Nat), W.heap[k]? = some (.cells c t f) → W'.heap[k]? = some (.cells c t f)

theorem ext_block {W W' : World} (h : Ext W W') {k : Nat} {o : Obj} (hk : W.heap[k]? = some o) : W'.heap[k]? = some o := (h.block k (Array.getElem?_eq_some_iff.1 hk).1).trans hk
theorem Calm.of_ext {B : Nat} {W W' : World} (hB : B ≤ W.heap.size) (h : Ext W W') : Calm B W W' := ⟨h.mono hB, fun _ _ _ _ hk => ext_block h hk⟩
theorem Calm.putObj {B : Nat} {W : World} {l : Nat} {o : Obj} (o' : Obj) (hB : B ≤ l) (h : W.heap[l]? = some o) (ho : o.isCells = false) : Calm B W (W.putObj l o') :=
  ⟨(Below.refl B W).grown (grownBy_putObj' W l o') (by have := (Array.getElem?_eq_some_iff.1 h).1; omega) (fun k e => by cases e; omega), fun k c t f hk => by
    by_cases e : k = l
    · subst e; rw [h] at hk; cases hk; cases ho
    · exact (World.putObj_heap_other e).trans hk⟩
theorem Keeps.refl (T : TypeId → Bool) (n0 : Nat) (W : World) : Keeps T n0 W W := ⟨Below.refl _ _, fun _ _ h _ => h⟩
theorem Keeps.trans {T : TypeId → Bool} {n0 : Nat} {A B C : World} (h : Keeps T n0 A B) (k : Keeps T n0 B C) : Keeps T n0 A C := ⟨h.below.trans k.below, fun i o hi ho => k.same i o (h.same i o hi ho) ho⟩
theorem Keeps.ext {T : TypeId → Bool} {n0 : Nat} {A B C : World} (h : Keeps T n0 A B) (k : Ext B C) (hn : n0 ≤ A.heap.size) : Keeps T n0 A C :=
  h.trans ⟨k.mono (Nat.le_trans hn h.below.size), fun _ _ hk _ => ext_block k hk⟩
theorem Keeps.setCell {T : TypeId → Bool} {n0 : Nat} {A B : World} (h : Keeps T n0 A B) {p : Addr} (hp : n0 ≤ p.block) {c : Array Value} {t : TypeId} {f : Nat × Nat} (hb : B.heap[p.block]? = some (.cells c t f)) (ht : T t = true) (v : Value) : Keeps T n0 A (B.setCell p v) :=
  ⟨h.below.setCell hp v, fun k o hk ho => by
    have h1 := h.same k o hk ho
    refine (Below.heap_setCell B p v k ?_).trans h1
    rintro rfl
    rw [hb] at h1
    cases h1
    simp only [inT] at ho
    rw [ht] at ho; cases ho⟩
theorem Keeps.grown {T : TypeId → Bool} {n0 : Nat} {A B C : World} (h : Keeps T n0 A B) {row : Option Nat} (hg : B.grownBy C row) (hn : n0 ≤ A.heap.size) (hr : ∀ g, row = some g → n0 ≤ g ∧ ∃ c t f, B.heap[g]? = some (.cells c t f) ∧ T t = true) : Keeps T n0 A C :=
  ⟨h.below.grown hg (Nat.le_trans hn h.below.size) (fun g e => (hr g e).1), fun k o hk ho => by
    have h1 := h.same k o hk ho
    refine (hg.block k (Array.getElem?_eq_some_iff.1 h1).1 ?_).trans h1
    intro e
    obtain ⟨_, c, t, f, hb, ht⟩ := hr k e.symm
    rw [hb] at h1
    cases h1
    simp only [inT] at ho
    rw [ht] at ho; cases ho⟩

/-- How a round may be left. -/
def roundEnd (T : TypeId → Bool) (n0 : Nat) (I : Nat → World → Prop) (Ix : Code → Nat → World → Prop) (i : Nat) (W : World) : Exit → Act → World → Prop
  | .normal, _, W' => Keeps T n0 W W' ∧ I (i + 1) W'
  | .ret, _, W' => Keeps T n0 W W' ∧ Ix .ret (i + 1) W'
  | .exit id, _, W' => Keeps T n0 W W' ∧ Ix (.exit id) (i + 1) W'
  | .goto t, _, W' => Keeps T n0 W W' ∧ Ix (.goto t) (i + 1) W'
  | .panic _, _, _ => False
  | .outgrown, _, _ => False

/-- An iterator that hands over these, one by one; a round keeps all but cells of these types; it makes new blocks alone. -/
def Gives (P : Program) (gf : Nat) (first lb : Array Value) (ys : List (Array Value)) (T : TypeId → Bool) (n0 : Nat) (w : World) : Prop :=
  ∀ (l : Nat) (J Jx : Nat → World → Prop) (W : World), Ext w W → (∀ i A B, J i A → Ext A B → J i B) → (∀ i A B, Jx i A → Ext A B → Jx i B) →
    (∀ (i : Nat) (y : Array Value) (W1 : World), ys[i]? = some y → J i W1 → YieldAt Fence.wide 7 P l y W1 fun e W' =>
      (e = .returned (.bool true) ∧ J (i + 1) W' ∧ Keeps T n0 W1 W') ∨ (e = .returned (.bool false) ∧ Jx (i + 1) W')) → J 0 W →
    CallsIn Fence.wide 8 P gf (first ++ #[.func (.yield l) #[] #[]] ++ lb) W fun e W' => (∃ v, e = .returned v) ∧ (J ys.length W' ∨ ∃ i, Jx i W')

theorem wpIn_range {P : Program} {g : Operand} {ps : Array Tmp} {assign body : Code} {Q : Exit → Act → World → Prop} {a : Act} {w : World} {gf : Nat} {first lb : Array Value} {ys : List (Array Value)} {T : TypeId → Bool} {n0 : Nat}
    (hg : a.eval g = .func (.func gf) first lb) (eg : ∀ args w, (callFunc gf args).run P w = .ok (.enter gf args) w) (hit : Gives P gf first lb ys T n0 w) (hn0 : n0 ≤ w.heap.size) (hps : ∀ y ∈ ys, y.size = ps.size)
    (I : Nat → World → Prop) (Ix : Code → Nat → World → Prop) (hI : ∀ i A B, I i A → Calm w.heap.size A B → I i B) (hIx : ∀ c i A B, Ix c i A → Calm w.heap.size A B → Ix c i B) (hsz : ∀ i A, I i A → w.heap.size ≤ A.heap.size) (hszx : ∀ c i A, Ix c i A → w.heap.size ≤ A.heap.size) (h0 : I 0 w) (a₁ : Nat → Act)
    (hassign : ∀ (l i : Nat) (y : Array Value) (W : World) (K : Act → World → Prop), ys[i]? = some y → K (a₁ i) W →
      assign.wpIn (Fence.wide.inRound l) 7 P (Exit.then K (fun _ _ _ => False)) { tmps := (ps.zip y).foldl (fun t (p, v) => t.setIfInBounds p v) a.tmps, defers := [] } W)
    (hbody : ∀ (l i : Nat) (y : Array Value) (W : World), ys[i]? = some y → I i W → body.wpIn (Fence.wide.inRound l) 7 P (roundEnd T n0 I Ix i W) (a₁ i) W)
    (hdone : ∀ (D : Nat) (W : World), w.heap.size ≤ D → I ys.length W → W.heap[D]? = some (.deferred (some [])) → Q .normal { a with defers := { target := .collected D, args := #[] } :: a.defers } W)
    (hstop : ∀ (D : Nat) (c : Code) (i : Nat) (W : World), w.heap.size ≤ D → Ix c i W → W.heap[D]? = some (.deferred (some [])) → c.wpIn Fence.wide 9 P Q { a with defers := { target := .collected D, args := #[] } :: a.defers } W) :
    (Code.rangeFunc g ps assign body).wpIn Fence.wide 9 P Q a w := by
  refine wpIn_rangeFunc ?_
  intro fn hfn
  obtain ⟨rec, hrec⟩ : ∃ rec : LoopState → Option Code → Loop, rec = fun st pe => { state := st, pending := pe, fn, tmps := a.tmps, params := ps, assign, body, defers := w.heap.size } := ⟨_, rfl⟩
  obtain ⟨W1, hW1⟩ : ∃ W1, (w.alloc (.deferred (some []))).alloc (.loop (rec .ready none)) = W1 := ⟨_, rfl⟩
  have hL1 : W1.heap[w.heap.size + 1]? = some (.loop (rec .ready none)) := by
    rw [← hW1]; have := World.alloc_heap_new (w.alloc (.deferred (some []))) (.loop (rec .ready none)); rwa [World.size_alloc] at this
  have hK1 : W1.heap[w.heap.size]? = some (.deferred (some [])) := by
    rw [← hW1]; exact (Below.heap_alloc _ _ _ (by simp)).trans (World.alloc_heap_new w _)
  have hx1 : Ext w W1 := by rw [← hW1]; exact ((Ext.refl w).alloc _).alloc _
  have hI1 : I 0 W1 := hI 0 w W1 h0 (Calm.of_ext (Nat.le_refl _) hx1)
  refine ⟨w.heap.size + 1, [{ target := .collected w.heap.size, args := #[] }], W1, { target := .fn (.func gf) lb, args := first ++ #[.func (.yield (w.heap.size + 1)) #[] #[]] }, W1, gf,
    first ++ #[.func (.yield (w.heap.size + 1)) #[] #[]] ++ lb, W1, ?_, ?_, ?_, ?_, fun _ => by omega, ?_⟩
  · rw [← hW1, hrec]; exact run_enterLoop_outer _ _ _ _ _
  · simp only [resolve, hg]
    simp [go_sem]
  · intro f' _; trivial
  · simp [invoke, go_sem, eg]
  · refine (hit (w.heap.size + 1)
      (fun i W => I i W ∧ W.heap[w.heap.size + 1]? = some (.loop (rec .ready none)) ∧ W.heap[w.heap.size]? = some (.deferred (some [])))
      (fun i W => ∃ c, Ix c i W ∧ W.heap[w.heap.size + 1]? = some (.loop (rec .done (some c))) ∧ W.heap[w.heap.size]? = some (.deferred (some [])))
      W1 hx1
      (fun i A B ⟨h1, h2, h3⟩ hx => ⟨hI i A B h1 (Calm.of_ext (hsz i A h1) hx), ext_block hx h2, ext_block hx h3⟩)
      (fun i A B ⟨c, h1, h2, h3⟩ hx => ⟨c, hIx c i A B h1 (Calm.of_ext (hszx c i A h1) hx), ext_block hx h2, ext_block hx h3⟩)
      ?_ ⟨hI1, hL1, hK1⟩).mono ?_
    · rintro i y W hy ⟨hi, hl, hk⟩
      have hlt : w.heap.size + 1 < W.heap.size := (Array.getElem?_eq_some_iff.1 hl).1
      have hyy := run_yield (P := P) (args := y) hl (by rw [hrec]; exact hps y (List.mem_of_getElem? hy))
      rw [hrec] at hyy
      refine ⟨fn, _, assign, body, hyy, roundIn_of_wpIn hfn (hassign _ i y W _ hy ⟨_, run_beginRound hl (by rw [hrec]), ?_⟩)⟩
      have hl2 : (W.putObj (w.heap.size + 1) (.loop { rec .ready none with state := .busy })).heap[w.heap.size + 1]? = some (.loop { rec .ready none with state := .busy }) := World.putObj_heap_same hlt
      have hk2 : (W.putObj (w.heap.size + 1) (.loop { rec .ready none with state := .busy })).heap[w.heap.size]? = some (.deferred (some [])) := (World.putObj_heap_other (by omega)).trans hk
      refine wpIn_mono (hbody _ i y _ hy (hI i _ _ hi (Calm.putObj _ (Nat.le_succ _) hl rfl))) ?_
      have fin : ∀ (jump : Option Code) (W3 : World), Keeps T n0 (W.putObj (w.heap.size + 1) (.loop { rec .ready none with state := .busy })) W3 →
          (Instr.endRound (w.heap.size + 1) jump).run P W3 = .ok (.bool jump.isNone) (W3.putObj (w.heap.size + 1) (.loop (rec (if jump.isNone then .ready else .done) jump))) ∧
          W3.heap[w.heap.size + 1]? = some (.loop { rec .ready none with state := .busy }) ∧
          (W3.putObj (w.heap.size + 1) (.loop (rec (if jump.isNone then .ready else .done) jump))).heap[w.heap.size + 1]? = some (.loop (rec (if jump.isNone then .ready else .done) jump)) ∧
          (W3.putObj (w.heap.size + 1) (.loop (rec (if jump.isNone then .ready else .done) jump))).heap[w.heap.size]? = some (.deferred (some [])) := fun jump W3 hk3 => by
        have hl3 := hk3.same _ _ hl2 rfl
        have := run_endRound (P := P) jump hl3
        rw [hrec] at this ⊢
        exact ⟨this, by rw [hrec] at hl3; exact hl3, World.putObj_heap_same (Array.getElem?_eq_some_iff.1 hl3).1, (World.putObj_heap_other (by omega)).trans (hk3.same _ _ hk2 rfl)⟩
      have put : ∀ {A : World} {o : Obj} (o' : Obj), A.heap[w.heap.size + 1]? = some o → o.isCells = false → inT T o = false → (∀ t, inT T (.loop t) = false) → True := fun _ _ _ _ _ => trivial
      rintro e a3 W3 hp
      cases e with
      | normal =>
        obtain ⟨hk3, hi3⟩ := hp
        obtain ⟨hr, hl3, hl4, hk4⟩ := fin none W3 hk3
        refine ⟨_, _, hr, .inl ⟨rfl, ⟨hI _ _ _ hi3 (Calm.putObj _ (Nat.le_succ _) hl3 rfl), hl4, hk4⟩, ?_⟩⟩
        have hb0 : n0 ≤ w.heap.size + 1 := by omega
        refine ⟨((((Below.refl n0 W).grown (grownBy_putObj' W _ _) (by omega) (fun k e => by cases e; omega)).trans hk3.below).grown (grownBy_putObj' W3 _ _) (by have := hk3.below.size; simp at this; omega) (fun k e => by cases e; omega)), fun k o hk ho => ?_⟩
        by_cases e : k = w.heap.size + 1
        · subst e
          rw [hl] at hk
          cases hk
          exact hl4
        · rw [World.putObj_heap_other e]
          exact hk3.same k o ((World.putObj_heap_other e).trans hk) ho
      | ret =>
        obtain ⟨hk3, hi3⟩ := hp
        obtain ⟨hr, hl3, hl4, hk4⟩ := fin (some .ret) W3 hk3
        exact ⟨_, _, hr, .inr ⟨rfl, .ret, hIx _ _ _ _ hi3 (Calm.putObj _ (Nat.le_succ _) hl3 rfl), hl4, hk4⟩⟩
      | exit id =>
        obtain ⟨hk3, hi3⟩ := hp
        obtain ⟨hr, hl3, hl4, hk4⟩ := fin (some (.exit id)) W3 hk3
        exact ⟨_, _, hr, .inr ⟨rfl, .exit id, hIx _ _ _ _ hi3 (Calm.putObj _ (Nat.le_succ _) hl3 rfl), hl4, hk4⟩⟩
      | goto t =>
        obtain ⟨hk3, hi3⟩ := hp
        obtain ⟨hr, hl3, hl4, hk4⟩ := fin (some (.goto t)) W3 hk3
        exact ⟨_, _, hr, .inr ⟨rfl, .goto t, hIx _ _ _ _ hi3 (Calm.putObj _ (Nat.le_succ _) hl3 rfl), hl4, hk4⟩⟩
      | panic ch => exact hp.elim
      | outgrown => exact hp.elim
    · rintro e W2 ⟨⟨v, rfl⟩, (⟨hi, hl, hk⟩ | ⟨i, c, hi, hl, hk⟩)⟩
      · exact ⟨none, _, by have := run_endLoop (P := P) hl (by rw [hrec]; simp); rw [hrec] at this; exact this, hdone _ _ (Nat.le_refl _) (hI _ _ _ hi (Calm.putObj _ (Nat.le_succ _) hl rfl)) ((World.putObj_heap_other (by omega)).trans hk)⟩
      · exact ⟨some c, _, by have := run_endLoop (P := P) hl (by rw [hrec]; simp); rw [hrec] at this; exact this, hstop _ c i _ (Nat.le_refl _) (hIx _ _ _ _ hi (Calm.putObj _ (Nat.le_succ _) hl rfl)) ((World.putObj_heap_other (by omega)).trans hk)⟩
end Go.Proofs.YtdbglpaejmhbjaaDoor
