/- Texts of this claim, one behind the other: lemmas for the statement. -/
import Derived.StillTail
import Derived.Below
import Derived.WalkKit
import Derived.WalkSpells
import Derived.WalkLawsBesides
import Derived.Maps.AppendAt
import Derived.Laws.Rows
import Derived.Deep.AppendLies
import Derived.Lib.Hide
import Derived.Deep.MidRow
import Derived.Laws.AppendOwn
/- A region that draws its order, carried out by one walk in the order of the text: each operation ahead of the last ones hands back a value that meets its own fact, whatever the order; no conditions on a program. -/
namespace Go.Proofs.YtgiiedpambimoaaDoor
open Go Go.RowKit

/-- The world w' is w with new blocks and draws alone. -/
def Ext (w w' : World) : Prop := Below w.heap.size w w'
theorem Ext.refl (w : World) : Ext w w := Below.refl _ w
theorem Ext.trans {a b c : World} (h : Ext a b) (k : Ext b c) : Ext a c := Below.trans h (k.mono h.size)
theorem Ext.drew {a b : World} (h : Ext a b) : Ext a b.drew := Below.drew h
theorem Ext.alloc {a b : World} (h : Ext a b) (o : Obj) : Ext a (b.alloc o) := Below.alloc h h.size o
theorem Ext.setCell {a b : World} (h : Ext a b) {p : Addr} (hp : a.heap.size ≤ p.block) (v : Value) : Ext a (b.setCell p v) := Below.setCell h hp v
theorem Ext.one (w : World) : Ext w { w with drawn := w.drawn + 1 } := ⟨rfl, rfl, rfl, Nat.le_refl _, fun _ _ => rfl⟩

/-- An operation has come to this: a value (a call's result) that meets φ, in a world that meets ψ. -/
def RelUpon (P : Program) (φ : Value → World → Prop) : Result Next → Prop
  | .ok (.value u) w' => φ u w'
  | .ok .skip w' => φ undef w'
  | .ok (.enter f args) w' => Calls P f args w' fun e w'' => ∃ u, e = .returned u ∧ φ u w''
  | _ => False

theorem RelUpon_value {P : Program} {φ : Value → World → Prop} (u : Value) (w : World) : RelUpon P φ (.ok (.value u) w) = φ u w := rfl
theorem RelUpon_skip {P : Program} {φ : Value → World → Prop} (w : World) : RelUpon P φ (.ok .skip w) = φ undef w := rfl
section
variable {P : Program} {ops : Array Oper}

theorem Oper.wp_of_rel {o : Oper} {a : Act} {w : World} {φ : Value → World → Prop} {K : Act → World → Prop} {Q : Exit → Act → World → Prop}
    (hK : ∀ v w', φ v w' → K (a.put o.dst v) w') (h : RelUpon P φ ((execOp a.eval o).run P w)) : o.wp P a w K Q := by
  unfold Oper.wp
  generalize (execOp a.eval o).run P w = r at *
  cases r with
  | ok n w' =>
    cases n <;> simp only [RelUpon] at h <;> simp only [Oper.upon]
    case value u => exact hK _ _ h
    case skip => exact hK _ _ h
    case enter f args =>
      exact h.mono fun e w'' ⟨u, he, hu⟩ => by subst he; exact hK _ _ hu
  | halt x w' => simp only [RelUpon] at h

/-- The operations of a list, from number k on, those of which m says so have left their values. -/
def puts (V : Nat → Value) (m : Nat → Bool) : List Oper → Nat → Act → Act
  | [], _, a => a
  | o :: l, k, a => puts V m l (k + 1) (if m k then a.put o.dst (V k) else a)

/-- Likewise, all of them. -/
def putsAll (V : Nat → Value) : List Oper → Nat → Act → Act
  | [], _, a => a
  | o :: l, k, a => putsAll V l (k + 1) (a.put o.dst (V k))

theorem puts_all (V : Nat → Value) (m : Nat → Bool) : ∀ (l : List Oper) (k : Nat) (a : Act), (∀ i, i < l.length → m (k + i) = true) → puts V m l k a = putsAll V l k a
  | [], _, _, _ => rfl
  | o :: l, k, a, h => by
    have h0 : m k = true := by simpa using h 0 (by simp)
    simp only [puts, putsAll, h0, if_true]
    exact puts_all V m l (k + 1) _ fun i hi => by have := h (i + 1) (by simp; omega); rwa [Nat.add_assoc, Nat.add_comm 1 i]

theorem puts_none (V : Nat → Value) (m : Nat → Bool) : ∀ (l : List Oper) (k : Nat) (a : Act), (∀ i, i < l.length → m (k + i) = false) → puts V m l k a = a
  | [], _, _, _ => rfl
  | o :: l, k, a, h => by
    have h0 : m k = false := by simpa using h 0 (by simp)
    simp only [puts, h0]
    exact puts_none V m l (k + 1) _ fun i hi => by have := h (i + 1) (by simp; omega); rwa [Nat.add_assoc, Nat.add_comm 1 i]

theorem put_swap (a : Act) {x y : Option Tmp} (v u : Value) (h : ∀ d, x = some d → y ≠ some d) : (a.put x v).put y u = (a.put y u).put x v := Act.put_comm a v u h

/-- One value more, laid at the end or in its place: the same, if no later one writes its temporary. -/
theorem puts_put (V : Nat → Value) (m : Nat → Bool) (d : Option Tmp) (v : Value) : ∀ (l : List Oper) (k : Nat) (a : Act),
    (∀ (i : Nat) (o : Oper), l[i]? = some o → ∀ t, d = some t → o.dst ≠ some t) → (puts V m l k a).put d v = puts V m l k (a.put d v)
  | [], _, _, _ => rfl
  | o :: l, k, a, h => by
    have h0 := h 0 o rfl
    have ih := fun b => puts_put V m d v l (k + 1) b fun i o' ho => h (i + 1) o' (by simpa using ho)
    simp only [puts]
    cases m k
    · exact ih a
    · simp only [if_true]
      rw [ih, put_swap a (V k) v fun t ht hd => h0 t hd ht]

theorem puts_congr (V V' : Nat → Value) (m m' : Nat → Bool) : ∀ (l : List Oper) (k : Nat) (a : Act), (∀ i, i < l.length → m (k + i) = m' (k + i) ∧ (m (k + i) = true → V (k + i) = V' (k + i))) →
    puts V m l k a = puts V' m' l k a
  | [], _, _, _ => rfl
  | o :: l, k, a, h => by
    have h0 := h 0 (by simp)
    simp only [Nat.add_zero] at h0
    have ih := fun b => puts_congr V V' m m' l (k + 1) b fun i hi => by have := h (i + 1) (by simp; omega); rwa [Nat.add_assoc, Nat.add_comm 1 i]
    simp only [puts]
    rw [← h0.1]
    cases hm : m k
    · exact ih a
    · simp only [if_true]; rw [h0.2 hm]; exact ih _

/-- Operation number k + i leaves its value: the list with that one more. -/
theorem puts_set (V : Nat → Value) (m : Nat → Bool) (v : Value) : ∀ (l : List Oper) (k : Nat) (a : Act) (i : Nat) (o : Oper), l[i]? = some o → m (k + i) = false →
    (∀ (j : Nat) (o' : Oper), l[j]? = some o' → j ≠ i → ∀ t, o.dst = some t → o'.dst ≠ some t) →
    (puts V m l k a).put o.dst v = puts (fun j => if j = k + i then v else V j) (fun j => if j = k + i then true else m j) l k a
  | [], _, _, _, _, hi, _, _ => by simp at hi
  | o1 :: l, k, a, 0, o, hi, hm, hd => by
    have : o1 = o := by simpa using hi
    subst this
    simp only [Nat.add_zero] at hm ⊢
    simp only [puts, hm, if_true, Bool.false_eq_true, if_false]
    rw [puts_put V m o1.dst v l (k + 1) _ fun i o' ho => hd (i + 1) o' (by simpa using ho) (by omega)]
    refine puts_congr _ _ _ _ l (k + 1) _ fun i hi => ?_
    have : k + 1 + i ≠ k := by omega
    simp [this]
  | o1 :: l, k, a, i + 1, o, hi, hm, hd => by
    have hk : k ≠ k + (i + 1) := by omega
    simp only [puts, if_neg hk]
    have := puts_set V m v l (k + 1) (if m k = true then a.put o1.dst (V k) else a) i o (by simpa using hi) (by rw [← hm]; congr 1; omega)
      (fun j o' ho hj => hd (j + 1) o' (by simpa using ho) (by omega))
    rw [this]
    refine puts_congr _ _ _ _ l (k + 1) _ fun j _ => ?_
    have e : (k + 1 + i) = (k + (i + 1)) := by omega
    rw [e]; simp

theorem tmp_put_ne {a : Act} {d : Option Tmp} {v : Value} {t : Tmp} (h : d ≠ some t) : (a.put d v).tmps[t]? = a.tmps[t]? := by
  cases d with
  | none => rfl
  | some d => exact Array.getElem?_setIfInBounds_ne (fun e => h (by rw [e]))

/-- A temporary that is written by those alone of which both masks say the same holds the same. -/
theorem puts_tmp (V : Nat → Value) (m m' : Nat → Bool) (t : Tmp) : ∀ (l : List Oper) (k : Nat) (a b : Act), a.tmps.size = b.tmps.size → a.tmps[t]? = b.tmps[t]? →
    (∀ (i : Nat) (o : Oper), l[i]? = some o → o.dst = some t → m (k + i) = m' (k + i)) → (puts V m l k a).tmps[t]? = (puts V m' l k b).tmps[t]?
  | [], _, _, _, _, h, _ => h
  | o :: l, k, a, b, hs, h, hm => by
    have h0 := hm 0 o rfl
    simp only [Nat.add_zero] at h0
    have ih := fun a b hs h => puts_tmp V m m' t l (k + 1) a b hs h fun i o' ho hd => by have := hm (i + 1) o' (by simpa using ho) hd; rwa [Nat.add_assoc, Nat.add_comm 1 i]
    have size : ∀ (c : Act) (x : Bool), (if x = true then c.put o.dst (V k) else c).tmps.size = c.tmps.size := fun c x => by
      cases x <;> cases ho : o.dst <;> simp [Act.put]
    simp only [puts]
    refine ih _ _ (by rw [size, size]; exact hs) ?_
    by_cases hd : o.dst = some t
    · rw [h0 hd]
      cases m' k
      · exact h
      · simp only [if_true, hd, Act.put]
        simp [Array.getElem?_setIfInBounds, hs]
    · have hne : ∀ (c : Act) (x : Bool), (if x = true then c.put o.dst (V k) else c).tmps[t]? = c.tmps[t]? := fun c x => by
        cases x
        · rfl
        · exact tmp_put_ne hd
      rw [hne, hne]; exact h

/-- The facts on the values of those that an operation waits for. -/
def FactsAt (F : Nat → Value → World → Prop) (V : Nat → Value) (w : World) : List Edge → Prop
  | [] => True
  | e :: l => (if Region.binds .any e = true then F e.on (V e.on) w else True) ∧ FactsAt F V w l

theorem factsAt_of {F : Nat → Value → World → Prop} {V : Nat → Value} {w : World} : ∀ {l : List Edge}, (∀ e ∈ l, Region.binds .any e = true → F e.on (V e.on) w) → FactsAt F V w l
  | [], _ => trivial
  | e :: l, h => ⟨by split; exact h e (by simp) (by assumption); trivial, factsAt_of fun e' he hb => h e' (by simp [he]) hb⟩

/-- Those that an operation waits for are through. -/
def FactsOn (m : Nat → Bool) : List Edge → Prop
  | [] => True
  | e :: l => (if Region.binds .any e = true then m e.on = true else True) ∧ FactsOn m l
theorem factsOn_of {m : Nat → Bool} : ∀ {l : List Edge}, (∀ e ∈ l, Region.binds .any e = true → m e.on = true) → FactsOn m l
  | [], _ => trivial
  | e :: l, h => ⟨by split; exact h e (by simp) (by assumption); trivial, factsOn_of fun e' he hb => h e' (by simp [he]) hb⟩

/-- The facts on the first n values. -/
def FactsTo (F : Nat → Value → World → Prop) (V : Nat → Value) (w : World) : Nat → Prop
  | 0 => True
  | n + 1 => FactsTo F V w n ∧ F n (V n) w

theorem factsTo_of {F : Nat → Value → World → Prop} {V : Nat → Value} {w : World} : ∀ {n : Nat}, (∀ k, k < n → F k (V k) w) → FactsTo F V w n
  | 0, _ => trivial
  | n + 1, h => ⟨factsTo_of fun k hk => h k (by omega), h n (by omega)⟩

/-- What is asked of the operations, in the order of the text: each one, in any world of the class in which the facts on those that it waits for hold, comes to a value that meets its own fact, in a world of the class in which no fact is lost. -/
def Steps (P : Program) (ops : Array Oper) (B : (Nat → Bool) → World → Prop) (F : Nat → Value → World → Prop) (V : Nat → Value) : List Oper → Nat → Act → Prop
  | [], _, _ => True
  | o :: l, k, a => (∀ m w, m k = false → FactsOn m o.after.toList → B m w → FactsAt F V w o.after.toList →
      if Region.wanted o (yielded ops a.tmps) then RelUpon P (fun v w' => F k v w' ∧ B (fun j => j == k || m j) w' ∧ ∀ j u, j ≠ k → m j = true → F j u w → F j u w') ((execOp a.eval o).run P w) else F k undef w ∧ B (fun j => j == k || m j) w) ∧
      Steps P ops B F V l (k + 1) (a.put o.dst (V k))

def waitsB (o : Oper) (k : Nat) : Bool := o.after.toList.any fun e => e.on == k && Region.binds .any e
def edgesB (o : Oper) (i : Nat) : Bool := o.after.toList.all fun e => !Region.binds .any e || decide (e.on < i)
/-- The Bool over a region: its first n operations in any order, the rest in the text's. -/
def relB (ops : Array Oper) (n : Nat) : Bool :=
  Region.noSelect ops && decide (n ≤ ops.size) &&
  ((List.range n).all fun i => match ops[i]? with
    | none => false
    | some o => edgesB o i && (match o.guard with | none => true | some (g, _) => waitsB o g) &&
      ((List.range n).all fun k => match (ops[k]?).bind (·.dst) with
        | none => true
        | some t => (!(o.looksAt ops).contains t || (decide (k < i) && waitsB o k)) && (k == i || o.dst != some t))) &&
  (decide (n = ops.size) || (decide (n < ops.size) && Region.sinkB .any ops n && Region.chainB .any ops n)) &&
  Region.seqB .any ops (ops.size - n) n ((List.range n).foldl (fun l i => l.setIfInBounds i true) (Array.replicate ops.size false))

/-- How many of the first n have not come up. -/
def unl (listed : Array Bool) : Nat → Nat
  | 0 => 0
  | n + 1 => unl listed n + (if listed.getD n false then 0 else 1)

theorem unl_set {listed : Array Bool} {i : Nat} (hs : i < listed.size) (h : listed.getD i false = false) : ∀ n, i < n → unl (listed.setIfInBounds i true) n + 1 = unl listed n := by
  have far : ∀ n, n ≤ i → unl (listed.setIfInBounds i true) n = unl listed n := by
    intro n
    induction n with
    | zero => intro _; rfl
    | succ n ih =>
      intro hn
      simp only [unl]
      rw [ih (by omega), getD_set_ne false (by omega)]
  intro n
  induction n with
  | zero => intro h; omega
  | succ n ih =>
    intro hn
    simp only [unl]
    by_cases hin : i = n
    · subst hin
      rw [far i (Nat.le_refl _), h]
      have : (listed.setIfInBounds i true).getD i false = true := by simp [hs]
      rw [this]; simp
    · have := ih (by omega)
      rw [getD_set_ne false hin]; omega

theorem unl_zero {listed : Array Bool} : ∀ {n : Nat}, unl listed n = 0 → ∀ i, i < n → listed.getD i false = true
  | 0, _, _, hi => by omega
  | n + 1, h, i, hi => by
    simp only [unl] at h
    by_cases hin : i = n
    · subst hin
      cases hb : listed.getD i false with
      | true => rfl
      | false => rw [hb] at h; simp at h
    · exact unl_zero (n := n) (by omega) i (by omega)

theorem unl_pos {listed : Array Bool} : ∀ {n : Nat}, unl listed n ≠ 0 → ∃ i, i < n ∧ listed.getD i false = false ∧ ∀ j, j < i → listed.getD j false = true
  | 0, h => absurd rfl h
  | n + 1, h => by
    by_cases h0 : unl listed n = 0
    · refine ⟨n, by omega, ?_, fun j hj => unl_zero h0 j hj⟩
      simp only [unl, h0] at h
      cases hb : listed.getD n false with
      | true => rw [hb] at h; simp at h
      | false => rfl
    · obtain ⟨i, hi, h1, h2⟩ := unl_pos h0
      exact ⟨i, by omega, h1, h2⟩

theorem steps_at {B : (Nat → Bool) → World → Prop} {F : Nat → Value → World → Prop} {V : Nat → Value} : ∀ {l : List Oper} {k : Nat} {a : Act}, Steps P ops B F V l k a → ∀ {i : Nat} {o : Oper}, l[i]? = some o →
    ∀ m w, m (k + i) = false → FactsOn m o.after.toList → B m w → FactsAt F V w o.after.toList →
      if Region.wanted o (yielded ops (putsAll V (l.take i) k a).tmps) then RelUpon P (fun v w' => F (k + i) v w' ∧ B (fun j => j == k + i || m j) w' ∧ ∀ j u, j ≠ k + i → m j = true → F j u w → F j u w') ((execOp (putsAll V (l.take i) k a).eval o).run P w)
      else F (k + i) undef w ∧ B (fun j => j == k + i || m j) w
  | [], _, _, _, _, _, hi => by simp at hi
  | o1 :: l, k, a, h, 0, o, hi => by
    have : o1 = o := by simpa using hi
    subst this
    exact h.1
  | o1 :: l, k, a, h, i + 1, o, hi => by
    have := steps_at h.2 (i := i) (o := o) (by simpa using hi)
    simpa [putsAll, Nat.add_assoc, Nat.add_comm 1 i] using this

theorem foldl_set_size (n m : Nat) : ((List.range n).foldl (fun l i => l.setIfInBounds i true) (Array.replicate m false)).size = m := by
  induction n with
  | zero => simp
  | succ n ih => rw [List.range_succ, List.foldl_append]; simpa using ih

theorem foldl_set_get (n m j : Nat) (hj : j < m) : ((List.range n).foldl (fun l i => l.setIfInBounds i true) (Array.replicate m false)).getD j false = decide (j < n) := by
  induction n with
  | zero => simp [hj]
  | succ n ih =>
    rw [List.range_succ, List.foldl_append]
    simp only [List.foldl_cons, List.foldl_nil]
    by_cases h : n = j
    · subst h
      have := foldl_set_size n m
      simp [this, hj]
    · rw [getD_set_ne false h, ih]
      simp; omega

theorem looks_of {o : Oper} {t : Tmp} (h : Operand.tmp t ∈ o.op.operands) : (o.looksAt ops).contains t = true := by
  have : t ∈ o.looksAt ops := List.mem_append_left _ (List.mem_filterMap.2 ⟨.tmp t, by simpa using h, rfl⟩)
  simpa using this

theorem looks_guard {o : Oper} {g : Nat} {b : Bool} {t : Tmp} (hg : o.guard = some (g, b)) (h : (ops[g]?).bind (·.dst) = some t) : (o.looksAt ops).contains t = true := by
  have : t ∈ o.looksAt ops := by
    unfold Oper.looksAt
    rw [hg]
    exact List.mem_append_right _ (by simp [h])
  simpa using this

/-- **In any order: the first n operations by their facts, the rest in the order of the text.** -/
theorem any_rel {Q : Exit → Act → World → Prop} {a0 : Act} {w0 : World} {l : List Oper} (n : Nat) (B : (Nat → Bool) → World → Prop) (F : Nat → Value → World → Prop) (ex : Nat → Option Value)
    (hB : relB l.toArray n = true) (hb : B (fun _ => false) { w0 with drawn := w0.drawn + 1 }) (hex : ∀ k v w, F k v w → ∀ c, ex k = some c → v = c)
    (steps : ∀ V, (∀ k c, ex k = some c → V k = c) → Steps P l.toArray B F V (l.take n) 0 a0)
    (tail : ∀ V w, (∀ k c, ex k = some c → V k = c) → B (fun k => decide (k < n)) w → FactsTo F V w n → wpList P l.toArray Q (l.drop n) (putsAll V (l.take n) 0 a0) w) : wpAny P .any l.toArray Q l.toArray.size (Array.replicate l.toArray.size false) a0 { w0 with drawn := w0.drawn + 1 } := by
  simp only [relB, Bool.and_eq_true, decide_eq_true_eq] at hB
  obtain ⟨⟨⟨⟨hsel, hn⟩, hheads⟩, htails⟩, hseq⟩ := hB
  have hn' : n ≤ l.length := by simpa using hn
  have htl : (l.take n).length = n := by simp; omega
  have hopl : ∀ i : Nat, l.toArray[i]? = l[i]? := fun i => by simp
  have htk : ∀ i : Nat, i < n → (l.take n)[i]? = l[i]? := fun i hi => by simp [hi]
  -- what the Bool says of a head
  have head : ∀ i o, i < n → l[i]? = some o → (∀ e ∈ o.after, Region.binds .any e = true → e.on < i) ∧ (∀ g b, o.guard = some (g, b) → waitsB o g = true) ∧
      ∀ k t, k < n → (l[k]?).bind (·.dst) = some t → ((o.looksAt l.toArray).contains t = true → k < i ∧ waitsB o k = true) ∧ (k = i ∨ o.dst ≠ some t) := by
    intro i o hi ho
    have h1 := List.all_eq_true.1 hheads i (List.mem_range.2 hi)
    rw [hopl, ho] at h1
    simp only [Bool.and_eq_true] at h1
    obtain ⟨⟨h1, h2⟩, h3⟩ := h1
    refine ⟨fun e he hb => ?_, fun g b hg => ?_, fun k t hk ht => ?_⟩
    · have := List.all_eq_true.1 h1 e (by simpa using he)
      simpa [hb] using this
    · rw [hg] at h2; exact h2
    · have := List.all_eq_true.1 h3 k (List.mem_range.2 hk)
      rw [hopl, ht] at this
      simp only [Bool.and_eq_true, Bool.or_eq_true, Bool.not_eq_true', decide_eq_true_eq, beq_iff_eq, bne_iff_ne, ne_eq] at this
      exact ⟨fun hc => this.1.resolve_left (by rw [hc]; simp), this.2⟩
  have waits : ∀ {o : Oper} {k : Nat}, waitsB o k = true → ∃ e ∈ o.after, e.on = k ∧ Region.binds .any e = true := fun {o k} h => by
    obtain ⟨e, he, hk⟩ := List.any_eq_true.1 h
    exact ⟨e, by simpa using he, by simpa using hk⟩
  -- a tail waits
  have tails : ∀ (i0 : Nat), i0 < n → ∀ listed : Array Bool, HeadInv .any l.toArray n listed → listed.getD i0 true = false → ∀ t, n ≤ t → t < l.length → t ∉ Region.ready .any l.toArray listed := by
    intro i0 hi0 listed inv hun t ht htlt
    simp only [Bool.or_eq_true, Bool.and_eq_true, decide_eq_true_eq] at htails
    rcases htails with he | ⟨⟨h1, h2⟩, h3⟩
    · simp only [List.size_toArray] at he; omega
    · exact tail_waits h2 h3 h1 inv _ i0 rfl hi0 hun t ht
  -- the run
  have key : ∀ (h : Nat) (listed : Array Bool) (w : World) (V : Nat → Value), (∀ k c, ex k = some c → V k = c) → unl listed n = h → listed.size = l.length → HeadInv .any l.toArray n listed → (∀ t, n ≤ t → listed.getD t false = false) → B (fun k => listed.getD k false) w →
      (∀ k, k < n → listed.getD k false = true → F k (V k) w) →
      wpAny P .any l.toArray Q (h + (l.length - n)) listed (puts V (fun k => listed.getD k false) (l.take n) 0 a0) w := by
    intro h
    induction h with
    | zero =>
      intro listed w V hV hu hsz inv hta hBw hF
      have hall := unl_zero hu
      have hcan : listed = (List.range n).foldl (fun l i => l.setIfInBounds i true) (Array.replicate l.toArray.size false) := by
        refine Array.ext (by rw [foldl_set_size]; simpa using hsz) fun j h1 h2 => ?_
        have e1 : listed.getD j false = listed[j] := by simp [h1]
        have e2 := foldl_set_get n l.toArray.size j (by rw [foldl_set_size] at h2; exact h2)
        rw [Array.getD_eq_getD_getElem?, Array.getElem?_eq_getElem h2, Option.getD_some] at e2
        rw [e2, ← e1]
        by_cases hjn : j < n
        · rw [hall j hjn]; simp [hjn]
        · rw [hta j (by omega)]; simp [hjn]
      rw [puts_all V _ (l.take n) 0 a0 fun i hi => by rw [Nat.zero_add]; exact hall i (by rw [htl] at hi; exact hi)]
      have hdl : (l.drop n).length = l.toArray.size - n := by simp
      have := wpAny_of_seq (P := P) (md := .any) (Q' := Q) (l.drop n) n listed (putsAll V (l.take n) 0 a0) w (fun j => by simp [List.getElem?_drop]) (by rw [hdl, hcan]; exact hseq)
        (tail V w hV (by rwa [show (fun k => listed.getD k false) = (fun k => decide (k < n)) from funext fun k => by
          by_cases hk : k < n
          · rw [hall k hk]; simp [hk]
          · rw [hta k (by omega)]; simp [hk]] at hBw) (factsTo_of fun k hk => hF k hk (hall k hk)))
      rw [Nat.zero_add]
      simpa using this
    | succ h ih =>
      intro listed w V hV hu hsz inv hta hBw hF
      rw [show h + 1 + (l.length - n) = (h + (l.length - n)) + 1 by omega]
      obtain ⟨i0, hi0, hi1, hi2⟩ := unl_pos (listed := listed) (n := n) (by omega)
      refine ⟨fun h0 => ?_, fun i hi => ?_⟩
      · -- the first one that has not come up may come up
        obtain ⟨o, ho⟩ : ∃ o, l[i0]? = some o := ⟨l[i0]'(by omega), List.getElem?_eq_getElem _⟩
        have : i0 ∈ Region.ready .any l.toArray listed := mem_ready.2 ⟨getD_in (by omega) hi1, o, by rw [hopl]; exact ho, fun e he hb => hi2 _ ((head i0 o hi0 ho).1 e he hb)⟩
        rw [h0] at this; cases this
      · obtain ⟨hun, o, ho, hall⟩ := mem_ready.1 hi
        rw [hopl] at ho
        have hlt : i < l.length := by rcases Nat.lt_or_ge i l.length with h | h; exact h; rw [List.getElem?_eq_none h] at ho; cases ho
        have hin : i < n := by
          rcases Nat.lt_or_ge i n with h | h
          · exact h
          · exact absurd hi (tails i0 hi0 listed inv (getD_in (by omega) hi1) i h hlt)
        obtain ⟨hed, hgd, hlk⟩ := head i o hin ho
        have hdeps : ∀ e ∈ o.after, Region.binds .any e = true → listed.getD e.on false = true := fun e he hb => hall e he hb
        have hfalse : listed.getD i false = false := getD_both hun
        -- the frame as the text has it looks the same to this operation
        have same : ∀ t, (o.looksAt l.toArray).contains t = true → (puts V (fun k => listed.getD k false) (l.take n) 0 a0).tmps[t]? = (putsAll V (l.take i) 0 a0).tmps[t]? := by
          intro t ht
          have e1 : putsAll V (l.take i) 0 a0 = puts V (fun k => decide (k < i)) (l.take n) 0 a0 := by
            have : l.take n = l.take i ++ (l.take n).drop i := by
              conv => lhs; rw [← List.take_append_drop i (l.take n)]
              rw [List.take_take, Nat.min_eq_left (by omega)]
            rw [this]
            have app : ∀ (l1 l2 : List Oper) (k : Nat) (a : Act) (m : Nat → Bool), puts V m (l1 ++ l2) k a = puts V m l2 (k + l1.length) (puts V m l1 k a) := by
              intro l1
              induction l1 with
              | nil => intro l2 k a m; rfl
              | cons x l1 ih => intro l2 k a m; simp only [List.cons_append, puts, List.length_cons]; rw [ih]; congr 1; omega
            rw [app, puts_none, puts_all]
            · intro j hj; simp at hj ⊢; omega
            · intro j hj; simp at hj ⊢; omega
          rw [e1]
          refine puts_tmp V _ _ t (l.take n) 0 a0 a0 rfl rfl fun k ok hk hd => ?_
          have hkn : k < n := by rcases Nat.lt_or_ge k n with h | h; exact h; rw [List.getElem?_eq_none (by rw [htl]; exact h)] at hk; cases hk
          rw [htk k hkn] at hk
          obtain ⟨h1, h2⟩ := (hlk k t hkn (by rw [hk]; exact hd)).1 ht
          obtain ⟨e, he, hek, hb⟩ := waits h2
          have := hdeps e he hb
          rw [hek] at this
          simp only [Nat.zero_add]
          rw [this]; simp [h1]
        have hexec : execOp (puts V (fun k => listed.getD k false) (l.take n) 0 a0).eval o = execOp (putsAll V (l.take i) 0 a0).eval o :=
          execOp_congr o (fun cs b => Region.noSelect_spec hsel i o cs b (by rw [hopl]; exact ho)) fun x hx => by
            cases x with
            | tmp t =>
              have := same t (looks_of hx)
              show Array.getD _ t undef = Array.getD _ t undef
              rw [Array.getD_eq_getD_getElem?, Array.getD_eq_getD_getElem?, this]
            | _ => rfl
        have hwant : Region.wanted o (yielded l.toArray (puts V (fun k => listed.getD k false) (l.take n) 0 a0).tmps) = Region.wanted o (yielded l.toArray (putsAll V (l.take i) 0 a0).tmps) := by
          unfold Region.wanted
          cases hg : o.guard with
          | none => rfl
          | some gb =>
            obtain ⟨g, b⟩ := gb
            simp only []
            congr 1
            unfold yielded
            cases hd : (l.toArray[g]?).bind (·.dst) with
            | none => rfl
            | some t => simp only [Option.bind_some]; rw [same t (looks_guard hg hd)]
        have hst := steps_at (steps V hV) (i := i) (o := o) (by rw [htk i hin]; exact ho) (fun k => listed.getD k false) w (by simpa using hfalse) (factsOn_of fun e he hb => hdeps e (by simpa using he) hb) hBw (factsAt_of fun e he hb => by
          have he' : e ∈ o.after := by simpa using he
          have h1 := hed e he' hb
          exact hF _ (by omega) (hdeps e he' hb))
        rw [List.take_take, Nat.min_eq_left (Nat.le_of_lt hin)] at hst
        rw [← hwant, ← hexec] at hst
        simp only [Nat.zero_add] at hst
        -- and behind it
        have hnext : ∀ v w', (F i v w' ∧ B (fun j => j == i || listed.getD j false) w' ∧ ∀ j u, j ≠ i → listed.getD j false = true → F j u w → F j u w') →
            wpAny P .any l.toArray Q (h + (l.length - n)) (listed.setIfInBounds i true) ((puts V (fun k => listed.getD k false) (l.take n) 0 a0).put o.dst v) w' := by
          intro v w' ⟨h1, h2, h3⟩
          have hput := puts_set V (fun k => listed.getD k false) v (l.take n) 0 a0 i o (by rw [htk i hin]; exact ho) (by simpa using hfalse) (fun j o' ho' hj t ht hd => by
            have hjn : j < n := by rcases Nat.lt_or_ge j n with h | h; exact h; rw [List.getElem?_eq_none (by rw [htl]; exact h)] at ho'; cases ho'
            rw [htk j hjn] at ho'
            rcases (hlk j t hjn (by rw [ho']; exact hd)).2 with h | h
            · exact hj h
            · exact h ht)
          rw [hput]
          simp only [Nat.zero_add]
          have hcongr : puts (fun j => if j = i then v else V j) (fun j => if j = i then true else listed.getD j false) (l.take n) 0 a0 =
              puts (fun j => if j = i then v else V j) (fun k => (listed.setIfInBounds i true).getD k false) (l.take n) 0 a0 := by
            refine puts_congr _ _ _ _ _ _ _ fun j _ => ⟨?_, fun _ => rfl⟩
            simp only [Nat.zero_add]
            by_cases hji : j = i
            · subst hji
              rw [if_pos rfl]
              simp [show j < listed.size by omega]
            · rw [if_neg hji, getD_set_ne false (Ne.symm hji)]
          rw [hcongr]
          refine ih (listed.setIfInBounds i true) w' _ (fun k c hc => by
            by_cases hki : k = i
            · subst hki; rw [if_pos rfl]; exact hex k v w' h1 c hc
            · rw [if_neg hki]; exact hV k c hc) (by have := unl_set (by omega) hfalse n hin; omega) (by simpa using hsz) (inv.set hi hin)
            (fun t ht => by rw [getD_set_ne false (by omega)]; exact hta t ht) (by
              rwa [show (fun k => (listed.setIfInBounds i true).getD k false) = (fun j => j == i || listed.getD j false) from funext fun k => by
                by_cases hki : k = i
                · subst hki; simp [show k < listed.size by omega]
                · rw [getD_set_ne false (Ne.symm hki)]; simp [hki]]) fun k hk hl => ?_
          by_cases hki : k = i
          · subst hki; simpa using h1
          · rw [getD_set_ne false (Ne.symm hki)] at hl
            simp only [if_neg hki]
            exact h3 k _ hki hl (hF k hk hl)
        unfold wpOp
        rw [hopl, ho]
        simp only []
        split
        · rename_i hw
          rw [if_pos hw] at hst
          exact .inl (Oper.wp_of_rel hnext hst)
        · rename_i hw
          rw [if_neg hw] at hst
          exact hnext undef w ⟨hst.1, hst.2, fun _ _ _ _ h => h⟩
  have hu : unl (Array.replicate l.toArray.size false) n = n := by
    have : ∀ k, unl (Array.replicate l.toArray.size false) k = k := by
      intro k
      induction k with
      | zero => rfl
      | succ k ih => simp only [unl]; rw [ih, getD_replicate_false]; simp
    exact this n
  have H := key n (Array.replicate l.toArray.size false) { w0 with drawn := w0.drawn + 1 } (fun k => (ex k).getD undef) (fun k c hc => by simp [hc]) hu (by simp)
    ⟨by simp, fun j oj _ hl => (by rw [getD_replicate_false] at hl; cases hl), fun t _ ht => getD_in (by simpa using ht) (getD_replicate_false _ _)⟩ (fun t _ => getD_replicate_false _ _) (by simpa only [getD_replicate_false] using hb)
    (fun k _ hl => by rw [getD_replicate_false] at hl; cases hl)
  rw [puts_none _ _ _ _ _ (fun i _ => getD_replicate_false _ _)] at H
  rw [show n + (l.length - n) = l.toArray.size by simp; omega] at H
  exact H

/-- **A region that draws its order: its first n operations by their facts, the rest in the order of the text.** -/
theorem wp_region_rel {id : Nat} {Q : Exit → Act → World → Prop} {a0 : Act} {w0 : World} {l : List Oper} (n : Nat) (B : (Nat → Bool) → World → Prop) (F : Nat → Value → World → Prop) (ex : Nat → Option Value)
    (hm : P.follows .mixedOrders = true) (hB : relB l.toArray n = true) (hb : B (fun _ => false) { w0 with drawn := w0.drawn + 1 }) (hex : ∀ k v w, F k v w → ∀ c, ex k = some c → v = c)
    (steps : ∀ V, (∀ k c, ex k = some c → V k = c) → Steps P l.toArray B F V (l.take n) 0 a0)
    (tail : ∀ V w, (∀ k c, ex k = some c → V k = c) → B (fun k => decide (k < n)) w → FactsTo F V w n → wpList P l.toArray Q (l.drop n) (putsAll V (l.take n) 0 a0) w) : (Code.region id l.toArray true).wp P Q a0 w0 :=
  wp_region_any hm (any_rel n B F ex hB hb hex steps tail)
end
end Go.Proofs.YtgiiedpambimoaaDoor

/- Small words of memory: a slice that reads as a list, kept over new blocks; facts that are kept; a region that draws its order in terms of these. No conditions on a program. -/
namespace Go.Proofs.YtgiiedpambimoaaDoor
open Go Go.RowKit

attribute [go_sem] Instr.field asAgg

@[go_sem high] theorem run_max2 {P : Program} (w : World) (ts : Array TypeId) (t : TypeId) (k k' : IntKind) (x y : Int) : (Builtin.max_ ts t #[.int k x, .int k' y]).run P w = .ok (.int k (max x y)) w := by
  rw [run_max_int2, show (if y > x then y else x) = max x y by omega]
@[go_sem high] theorem run_min2 {P : Program} (w : World) (ts : Array TypeId) (t : TypeId) (k k' : IntKind) (x y : Int) : (Builtin.min_ ts t #[.int k x, .int k' y]).run P w = .ok (.int k (min x y)) w := by
  rw [run_min_int2, show (if y < x then y else x) = min x y by omega]
theorem wrap_eq (n : Int) : IntKind.i64.wrap n = wrap64 n := by rw [IntKind.wrap_i64]; unfold wrap64; rfl

@[simp] theorem cast_beq (m n : Nat) : ((m : Int) == (n : Int)) = (m == n) := by rw [Bool.eq_iff_iff]; simp [Int.natCast_inj]
@[simp] theorem cast_bne (m n : Nat) : ((m : Int) != (n : Int)) = (m != n) := by simp [bne]

theorem mode_text : ((.any : Region.Mode) == .text) = false := rfl
theorem mode_gc : ((.any : Region.Mode) == .gc) = false := rfl

/-- The cells from an address on, as a list; what stands behind is not said. -/
def Row (w : World) (b o : Nat) (xs : List Value) : Prop := b < w.heap.size ∧ ∀ j u, xs[j]? = some u → w.cell? ⟨b, o + j, none⟩ = some u

/-- A slice of n elements of k cells each reads as this list of cells. -/
def Rd (w : World) (k : Nat) (a : Option Addr) (n : Nat) (xs : List Value) : Prop :=
  xs.length = n * k ∧ (0 < n → ∃ b o, a = some ⟨b, o, none⟩ ∧ Row w b o xs)

theorem Row.ext {w w' : World} {b o : Nat} {xs : List Value} (h : Row w b o xs) (hx : Ext w w') : Row w' b o xs :=
  ⟨Nat.lt_of_lt_of_le h.1 hx.size, fun j u hu => (Below.cell hx (p := ⟨b, o + j, none⟩) h.1).trans (h.2 j u hu)⟩
theorem Row.at {w : World} {b o : Nat} {xs : List Value} (h : Row w b o xs) {j : Nat} {u : Value} (hu : xs[j]? = some u) : w.cell? ⟨b, o + j, none⟩ = some u := h.2 j u hu
theorem Row.at' {w : World} {b o : Nat} {xs : List Value} (h : Row w b o xs) {j i : Nat} {u : Value} (hu : xs[j + i]? = some u) : w.cell? ⟨b, o + j + i, none⟩ = some u := by rw [Nat.add_assoc]; exact h.2 _ u hu
theorem Rd.ext {w w' : World} {k : Nat} {a : Option Addr} {n : Nat} {xs : List Value} (h : Rd w k a n xs) (hx : Ext w w') : Rd w' k a n xs :=
  ⟨h.1, fun hn => let ⟨b, o, e, r⟩ := h.2 hn; ⟨b, o, e, r.ext hx⟩⟩
theorem Rd.nil (w : World) (k : Nat) (a : Option Addr) : Rd w k a 0 [] := ⟨by simp, fun h => absurd h (by omega)⟩
theorem Row.new (w : World) (cs : Array Value) (t : TypeId) : Row (w.alloc (.cells cs t)) w.heap.size 0 cs.toList :=
  ⟨by simp, fun j u hu => by
    have : cs[j]? = some u := by simpa using hu
    rw [Nat.zero_add, cell_of_row (w.alloc (.cells cs t)) w.heap.size j cs t (0, 0) (heap_alloc_new w _)]; exact this⟩
theorem Rd.new (w : World) (k n : Nat) (cs : Array Value) (t : TypeId) (h : cs.size = n * k) : Rd (w.alloc (.cells cs t)) k (some ⟨w.heap.size, 0, none⟩) n cs.toList :=
  ⟨by simpa using h, fun _ => ⟨_, 0, rfl, Row.new w cs t⟩⟩

/-- A fact on a value that new blocks do not turn; 'ex': the value that it names. -/
structure SF where
  p : Value → World → Prop
  ex : Option Value
  st : ∀ v w w', Ext w w' → p v w → p v w'
  law : ∀ v w, p v w → ∀ c, ex = some c → v = c

def SF.any : SF := ⟨fun _ _ => True, none, fun _ _ _ _ h => h, fun _ _ _ _ h => by cases h⟩
/-- The value is this one. -/
def SF.is (c : Value) : SF := ⟨fun v _ => v = c, some c, fun _ _ _ _ h => h, fun _ _ h _ hc => by cases hc; exact h⟩
/-- A slice of n elements of k cells that reads as this list. -/
def SF.rd (k n : Nat) (xs : List Value) : SF := ⟨fun v w => ∃ a c, v = .slice a n c ∧ n ≤ c ∧ Rd w k a n xs, none, fun _ _ _ hx ⟨a, c, h, hc, r⟩ => ⟨a, c, h, hc, r.ext hx⟩, fun _ _ _ _ h => by cases h⟩

def Fs (l : List SF) (i : Nat) : Value → World → Prop := (l.getD i SF.any).p
theorem Fs_st (l : List SF) (i : Nat) (v : Value) (w w' : World) (h : Ext w w') (hp : Fs l i v w) : Fs l i v w' := (l.getD i SF.any).st v w w' h hp
/-- The values: those that a fact names, else V's. -/
def val (l : List SF) (V : Nat → Value) (k : Nat) : Value := ((l.getD k SF.any).ex).getD (V k)

/-- What an operation must come to: a value with its fact, new blocks alone. -/
def Post (p : Value → World → Prop) (w : World) (v : Value) (w' : World) : Prop := p v w' ∧ Ext w w'
theorem Post.mk {p : Value → World → Prop} {w w' : World} {v : Value} (h : p v w') (hx : Ext w w') : Post p w v w' := ⟨h, hx⟩
def CallTo (P : Program) (f : FuncId) (args : Array Value) (w : World) (φ : Value → World → Prop) : Prop := Calls P f args w fun e w'' => ∃ u, e = .returned u ∧ φ u w''
attribute [go_sem] RelUpon_value RelUpon_skip
@[go_sem] theorem RelUpon_call {P : Program} {φ : Value → World → Prop} (f : FuncId) (args : Array Value) (w : World) : RelUpon P φ (.ok (.enter f args) w) = CallTo P f args w φ := rfl
theorem CallTo.of {P : Program} {f : FuncId} {args : Array Value} {w : World} {c : Value} {p : Value → World → Prop} (h : Calls P f args w fun e w' => e = .returned c ∧ Ext w w')
    (hp : ∀ w', Ext w w' → p c w') : CallTo P f args w (Post p w) :=
  h.mono fun _ _ ⟨he, hx⟩ => ⟨c, he, hp _ hx, hx⟩
theorem CallTo.same {P : Program} {f : FuncId} {args : Array Value} {w : World} {c : Value} {p : Value → World → Prop} (h : Calls P f args w fun e w' => e = .returned c ∧ w = w')
    (hp : p c w) : CallTo P f args w (Post p w) :=
  h.mono fun _ _ ⟨he, hx⟩ => ⟨c, he, hx ▸ hp, hx ▸ Ext.refl w⟩

/-- 'Steps' for facts that new blocks do not turn, each operation making new blocks alone, none of them guarded. -/
def StepsU (P : Program) (w0 : World) (F : Nat → Value → World → Prop) (V : Nat → Value) : List Oper → Nat → Act → Prop
  | [], _, _ => True
  | o :: l, k, a => (∀ w, Ext w0 w → FactsAt F V w o.after.toList → RelUpon P (Post (F k) w) ((execOp a.eval o).run P w)) ∧ StepsU P w0 F V l (k + 1) (a.put o.dst (V k))

theorem RelUpon.mono {P : Program} {φ ψ : Value → World → Prop} (h : ∀ v w, φ v w → ψ v w) {r : Result Next} (hr : RelUpon P φ r) : RelUpon P ψ r := by
  cases r with
  | ok n w' =>
    cases n <;> simp only [RelUpon] at hr ⊢
    case value u => exact h _ _ hr
    case skip => exact h _ _ hr
    case enter f args => exact Calls.mono hr fun e w'' ⟨u, he, hu⟩ => ⟨u, he, h _ _ hu⟩
  | halt x w' => simp only [RelUpon] at hr

theorem steps_of_ext {P : Program} {ops : Array Oper} {w0 : World} {Fl : List SF} {V : Nat → Value} : ∀ {l : List Oper} {k : Nat} {a : Act}, (∀ o ∈ l, o.guard = none) →
    StepsU P w0 (Fs Fl) V l k a → Steps P ops (fun _ => Ext w0) (Fs Fl) V l k a
  | [], _, _, _, _ => trivial
  | o :: l, k, a, hg, h => ⟨fun _ w _ _ hw hf => by
      have h1 := h.1 w hw hf
      rw [if_pos (by simp [Region.wanted, hg o (by simp)])]
      exact RelUpon.mono (fun v w' ⟨h2, h3⟩ => ⟨h2, hw.trans h3, fun j u _ _ hj => Fs_st Fl j u w w' h3 hj⟩) h1, steps_of_ext (fun o ho => hg o (by simp [ho])) h.2⟩

/-- Likewise, with guards. -/
def StepsG (P : Program) (ops : Array Oper) (w0 : World) (F : Nat → Value → World → Prop) (V : Nat → Value) : List Oper → Nat → Act → Prop
  | [], _, _ => True
  | o :: l, k, a => (∀ w, Ext w0 w → FactsAt F V w o.after.toList → if Region.wanted o (yielded ops a.tmps) then RelUpon P (Post (F k) w) ((execOp a.eval o).run P w) else F k undef w) ∧ StepsG P ops w0 F V l (k + 1) (a.put o.dst (V k))

theorem steps_of_guarded {P : Program} {ops : Array Oper} {w0 : World} {Fl : List SF} {V : Nat → Value} : ∀ {l : List Oper} {k : Nat} {a : Act},
    StepsG P ops w0 (Fs Fl) V l k a → Steps P ops (fun _ => Ext w0) (Fs Fl) V l k a
  | [], _, _, _ => trivial
  | o :: l, k, a, h => ⟨fun _ w _ _ hw hf => by
      have h1 := h.1 w hw hf
      split
      · rename_i hy
        rw [if_pos hy] at h1
        exact RelUpon.mono (fun v w' ⟨h2, h3⟩ => ⟨h2, hw.trans h3, fun j u _ _ hj => Fs_st Fl j u w w' h3 hj⟩) h1
      · rename_i hy
        rw [if_neg hy] at h1
        exact ⟨h1, hw⟩, steps_of_guarded h.2⟩

theorem val_eq {Fl : List SF} {V : Nat → Value} (h : ∀ k c, (Fl.getD k SF.any).ex = some c → V k = c) : val Fl V = V := by
  funext k
  unfold val
  cases he : (Fl.getD k SF.any).ex with
  | none => rfl
  | some c => exact (h k c he).symm

/-- **A region that draws its order, its first n operations (none guarded) by a list of facts.** -/
theorem wp_region_ext {P : Program} {id : Nat} {Q : Exit → Act → World → Prop} {a0 : Act} {w0 : World} {l : List Oper} (n : Nat) (Fl : List SF)
    (hm : P.follows .mixedOrders = true) (hB : relB l.toArray n = true) (hg : ((l.take n).all fun o => o.guard.isNone) = true)
    (steps : ∀ V, StepsU P w0 (Fs Fl) (val Fl V) (l.take n) 0 a0)
    (tail : ∀ V w, Ext w0 w → FactsTo (Fs Fl) (val Fl V) w n → wpList P l.toArray Q (l.drop n) (putsAll (val Fl V) (l.take n) 0 a0) w) : (Code.region id l.toArray true).wp P Q a0 w0 :=
  wp_region_rel n (fun _ => Ext w0) (Fs Fl) (fun k => (Fl.getD k SF.any).ex) hm hB (Ext.one w0) (fun k v w h c hc => (Fl.getD k SF.any).law v w h c hc)
    (fun V hV => steps_of_ext (fun o ho => by have := List.all_eq_true.1 hg o ho; simpa using this) (by have := steps V; rwa [val_eq hV] at this))
    (fun V w hV hw hf => by have := tail V w hw; rw [val_eq hV] at this; exact this hf)

theorem Ext.after' {a b c : World} (h2 : Ext b c) (h1 : Ext a b) : Ext a c := h1.trans h2
theorem Ext.below {w W w1 : World} {B : Nat} (h : Ext w W) (hb : Below B W w1) (hB : w.heap.size ≤ B) : Ext w w1 := Below.trans h (hb.mono hB)
theorem bcell {W w1 : World} (hb : Ext W w1) : (∀ b o, b < W.heap.size → w1.cell? ⟨b, o, none⟩ = W.cell? ⟨b, o, none⟩) ∧ (∀ b o, b < W.heap.size → w1.frozen? ⟨b, o, none⟩ = W.frozen? ⟨b, o, none⟩) :=
  ⟨fun b o h => Below.cell hb (p := ⟨b, o, none⟩) h, fun b o h => Below.frozen hb (p := ⟨b, o, none⟩) h⟩
end Go.Proofs.YtgiiedpambimoaaDoor

/- Variables in boxes: a block of cells that the program writes; no conditions on a program. -/
namespace Go.Proofs.YtgiiedpambimoaaDoor
open Go Go.RowKit

/-- The block B holds these cells, of which none is frozen. -/
def Bx (w : World) (B : Nat) (t : TypeId) (cs : Array Value) : Prop := w.heap[B]? = some (.cells cs t (0, 0))

theorem Bx.lt {w : World} {B : Nat} {t : TypeId} {cs : Array Value} (h : Bx w B t cs) : B < w.heap.size := (Array.getElem?_eq_some_iff.1 h).1
theorem Bx.cell {w : World} {B : Nat} {t : TypeId} {cs : Array Value} (h : Bx w B t cs) (j : Nat) : w.cell? ⟨B, j, none⟩ = cs[j]? := cell_of_row w B j cs t (0, 0) h
theorem Bx.frz {w : World} {B : Nat} {t : TypeId} {cs : Array Value} (h : Bx w B t cs) (j : Nat) : w.frozen? ⟨B, j, none⟩ = false := frozen_of_row w B j cs t h
theorem Bx.new (w : World) (cs : Array Value) (t : TypeId) : Bx (w.alloc (.cells cs t)) w.heap.size t cs := heap_alloc_new w _
theorem Bx.ext {w w' : World} {B : Nat} {t : TypeId} {cs : Array Value} (h : Bx w B t cs) (hx : Ext w w') : Bx w' B t cs := (hx.block B h.lt).trans h
theorem Bx.ext' {w w' : World} {B : Nat} {t : TypeId} {cs : Array Value} (hx : Ext w w') (h : Bx w B t cs) : Bx w' B t cs := h.ext hx
theorem Bx.alloc {w : World} {B : Nat} {t : TypeId} {cs : Array Value} (h : Bx w B t cs) (o : Obj) : Bx (w.alloc o) B t cs := h.ext ((Ext.refl w).alloc o)
theorem Bx.drew {w : World} {B : Nat} {t : TypeId} {cs : Array Value} (h : Bx w B t cs) : Bx w.drew B t cs := h
theorem Bx.other {w : World} {B : Nat} {t : TypeId} {cs : Array Value} (h : Bx w B t cs) {p : Addr} (hp : B ≠ p.block) (v : Value) : Bx (w.setCell p v) B t cs := (heap_setCell_other w p B v hp).trans h
theorem Bx.set2 {w : World} {B : Nat} {t : TypeId} {a b : Value} (h : Bx w B t #[a, b]) (v u : Value) : Bx ((w.setCell ⟨B, 0, none⟩ v).setCell ⟨B, 1, none⟩ u) B t #[v, u] :=
  heap_setCell_same _ B 1 _ t u (heap_setCell_same w B 0 _ t v h)
theorem Bx.set20 {w : World} {B : Nat} {t : TypeId} {a b : Value} (h : Bx w B t #[a, b]) (v : Value) : Bx (w.setCell ⟨B, 0, none⟩ v) B t #[v, b] := heap_setCell_same w B 0 _ t v h
theorem Bx.set21 {w : World} {B : Nat} {t : TypeId} {a b : Value} (h : Bx w B t #[a, b]) (v : Value) : Bx (w.setCell ⟨B, 1, none⟩ v) B t #[a, v] := heap_setCell_same w B 1 _ t v h
theorem Bx.at2 {w : World} {B : Nat} {t : TypeId} {a b : Value} (h : Bx w B t #[a, b]) : w.cell? ⟨B, 0, none⟩ = some a ∧ w.cell? ⟨B, 1, none⟩ = some b ∧ w.frozen? ⟨B, 0, none⟩ = false ∧ w.frozen? ⟨B, 1, none⟩ = false ∧ B < w.heap.size :=
  ⟨h.cell 0, h.cell 1, h.frz 0, h.frz 1, h.lt⟩
/-- A pointer to a box of one's own. -/
def SF.box (B0 : Nat) (t : TypeId) (cs : Array Value) : SF := ⟨fun v w => ∃ B, v = .pointer (some ⟨B, 0, none⟩) ∧ B0 ≤ B ∧ Bx w B t cs, none, fun _ _ _ hx ⟨B, h, hc, r⟩ => ⟨B, h, hc, r.ext hx⟩, fun _ _ _ _ h => by cases h⟩
theorem Bx.new_at {w : World} {B : Nat} (cs : Array Value) (t : TypeId) (h : B = w.heap.size) : Bx (w.alloc (.cells cs t)) B t cs := h ▸ Bx.new w cs t
end Go.Proofs.YtgiiedpambimoaaDoor

/- A region that draws its order, with guards, its values told by a function on slots: for great frames. No conditions on a program. -/
namespace Go.Proofs.YtgiiedpambimoaaDoor
open Go Go.RowKit

def evE (e : Nat → Value) : Operand → Value
  | .tmp t => e t
  | .const v => v
  | .global g => .pointer (some ⟨g, 0, none⟩)
  | .func f => .func (.func f) #[] #[]
def upE (e : Nat → Value) (dst : Option Tmp) (v : Value) : Nat → Value :=
  match dst with
  | some d => fun t => if t = d then v else e t
  | none => e
theorem upE_some (e : Nat → Value) (d : Tmp) (v : Value) (t : Nat) : upE e (some d) v t = if t = d then v else e t := rfl
theorem upE_none (e : Nat → Value) (v : Value) (t : Nat) : upE e none v t = e t := rfl
theorem evE_tmp (e : Nat → Value) (t : Nat) : evE e (.tmp t) = e t := rfl
theorem evE_const (e : Nat → Value) (v : Value) : evE e (.const v) = v := rfl
theorem evE_global (e : Nat → Value) (g : Nat) : evE e (.global g) = .pointer (some ⟨g, 0, none⟩) := rfl
theorem evE_func (e : Nat → Value) (f : FuncId) : evE e (.func f) = .func (.func f) #[] #[] := rfl
attribute [go_sem] evE_tmp evE_const evE_global evE_func upE_some upE_none
theorem eval_evE {a : Act} {e : Nat → Value} (h : ∀ t, e t = a.tmps.getD t undef) : a.eval = evE e := by
  funext x
  cases x with
  | tmp t => exact (h t).symm
  | const v => rfl
  | global g => rfl
  | func f => rfl
def guardV (V : Nat → Value) (o : Oper) : Bool :=
  match o.guard with
  | none => true
  | some (j, b) => match V j with
    | .bool x => x == b
    | _ => false
/-- 'StepsG', the values by slot. -/
def StepsE (P : Program) (w0 : World) (F : Nat → Value → World → Prop) (V : Nat → Value) : List Oper → Nat → (Nat → Value) → Prop
  | [], _, _ => True
  | o :: l, k, e => (∀ w, Ext w0 w → FactsAt F V w o.after.toList → if guardV V o = true then RelUpon P (Post (F k) w) ((execOp (evE e) o).run P w) else F k undef w) ∧ StepsE P w0 F V l (k + 1) (upE e o.dst (V k))

/-- All slots in bounds, no two alike; a guard names an earlier operation that has a slot. -/
def envB (ops : List Oper) : List Oper → Nat → Nat → Bool
  | [], _, _ => true
  | o :: l, k, sz => (match o.dst with | some d => decide (d < sz) && (ops.take k).all (fun p => p.dst != some d) | none => true) &&
      (match o.guard with | none => true | some (j, _) => decide (j < k) && ((ops[j]?).bind (·.dst)).isSome) && envB ops l (k + 1) sz

theorem stepsG_of_env {P : Program} {ops : List Oper} {w0 : World} {F : Nat → Value → World → Prop} {V : Nat → Value} : ∀ {l r : List Oper} {k : Nat} {a : Act} {e : Nat → Value} {sz : Nat}, envB ops l k sz = true → a.tmps.size = sz →
    (∀ t, e t = a.tmps.getD t undef) → ops.drop k = l ++ r → (∀ (j d : Nat), j < k → ((ops[j]?).bind (·.dst)) = some d → d < sz ∧ a.tmps.getD d undef = V j) → StepsE P w0 F V l k e → StepsG P ops.toArray w0 F V l k a
  | [], _, _, _, _, _, _, _, _, _, _, _ => trivial
  | o :: l, r, k, a, e, sz, hB, hs, he, hd, hj, h => by
    simp only [envB, Bool.and_eq_true] at hB
    obtain ⟨⟨h1, h2⟩, h3⟩ := hB
    have hk : k < ops.length := by
      rcases Nat.lt_or_ge k ops.length with hk | hk
      · exact hk
      · rw [List.drop_eq_nil_of_le hk] at hd; cases hd
    have hok : ops[k]? = some o := by
      rw [List.drop_eq_getElem_cons hk] at hd
      rw [List.getElem?_eq_getElem hk, (List.cons.inj hd).1]
    refine ⟨fun w hx hf => ?_, ?_⟩
    · have hw := h.1 w hx hf
      have hg : Region.wanted o (yielded ops.toArray a.tmps) = guardV V o := by
        unfold Region.wanted guardV
        cases hgd : o.guard with
        | none => rfl
        | some g =>
          obtain ⟨j, b⟩ := g
          rw [hgd] at h2
          simp only [Bool.and_eq_true, decide_eq_true_eq] at h2
          obtain ⟨hjk, hsm⟩ := h2
          obtain ⟨d, hd'⟩ := Option.isSome_iff_exists.1 hsm
          obtain ⟨hlt, hv⟩ := hj j d hjk hd'
          have hy : yielded ops.toArray a.tmps j = match V j with | .bool b => some b | _ => none := by
            unfold yielded
            have e1 : ops.toArray[j]? = ops[j]? := by simp
            rw [e1, hd']
            simp only [Option.bind_some]
            have e2 : a.tmps[d]? = some (V j) := by
              rw [← hv, Array.getD_eq_getD_getElem?, Array.getElem?_eq_getElem (by omega)]; rfl
            rw [e2]
            cases V j <;> rfl
          simp only [hy]
          cases V j <;> simp
      rw [← eval_evE he, ← hg] at hw
      exact hw
    · refine stepsG_of_env h3 ?_ ?_ (by rw [← List.drop_drop, hd]; rfl) ?_ h.2
      · cases ho : o.dst <;> simp [Act.put, ho, hs]
      · intro t
        cases ho : o.dst with
        | none => simpa [upE, Act.put] using he t
        | some d =>
          rw [ho] at h1
          simp only [Bool.and_eq_true, decide_eq_true_eq] at h1
          by_cases ht : t = d
          · subst ht
            simp [upE, Act.put, Array.getD_eq_getD_getElem?, hs, h1.1]
          · simp only [upE, Act.put, if_neg ht]
            rw [he t, Array.getD_eq_getD_getElem?, Array.getD_eq_getD_getElem?, Array.getElem?_setIfInBounds_ne (fun h => ht h.symm)]
      · intro j d hjk hd'
        by_cases hjj : j = k
        · subst hjj
          rw [hok] at hd'
          simp only [Option.bind_some] at hd'
          rw [hd'] at h1
          simp only [Bool.and_eq_true, decide_eq_true_eq] at h1
          refine ⟨h1.1, ?_⟩
          simp [hd', Act.put, Array.getD_eq_getD_getElem?, hs, h1.1]
        · obtain ⟨hlt, hv⟩ := hj j d (by omega) hd'
          refine ⟨hlt, ?_⟩
          cases ho : o.dst with
          | none => simpa [Act.put] using hv
          | some d2 =>
            rw [ho] at h1
            simp only [Bool.and_eq_true, decide_eq_true_eq, List.all_eq_true] at h1
            have hjlt : j < ops.length := by omega
            have hmem : ops[j] ∈ ops.take k := List.mem_take_iff_getElem.2 ⟨j, by omega, rfl⟩
            have hne := h1.2 _ hmem
            have hd2 : ops[j].dst = some d := by rw [List.getElem?_eq_getElem hjlt] at hd'; simpa using hd'
            have hdd : d2 ≠ d := by
              intro e'
              rw [hd2, e'] at hne
              simp at hne
            simp only [Act.put]
            rw [Array.getD_eq_getD_getElem?, Array.getElem?_setIfInBounds_ne hdd, ← Array.getD_eq_getD_getElem?]
            exact hv

/-- The values put, by their slots. -/
def putsD (V : Nat → Value) : List (Option Tmp) → Nat → Act → Act
  | [], _, a => a
  | d :: l, k, a => putsD V l (k + 1) (a.put d (V k))
theorem putsAll_D (V : Nat → Value) : ∀ (l : List Oper) (k : Nat) (a : Act), putsAll V l k a = putsD V (l.map (·.dst)) k a
  | [], _, _ => rfl
  | o :: l, k, a => putsAll_D V l (k + 1) _

end Go.Proofs.YtgiiedpambimoaaDoor

/- A region that draws its order, walked operation by operation, each against its own operands alone. No conditions on a program. -/
namespace Go.Proofs.YtgiiedpambimoaaDoor
open Go Go.RowKit

section
variable {P : Program} {w0 : World} {Fl : List SF} {V : Nat → Value} {o : Oper} {l : List Oper} {k : Nat} {e : Nat → Value}
theorem factsAt_get {F : Nat → Value → World → Prop} {w : World} (j : Nat) : ∀ {l : List Edge}, (l.any fun e => Region.binds .any e && e.on == j) = true → FactsAt F V w l → F j (V j) w
  | [], h, _ => by simp at h
  | e :: l, h, hf => by
    simp only [List.any_cons, Bool.or_eq_true, Bool.and_eq_true, beq_iff_eq] at h
    rcases h with ⟨h1, h2⟩ | h
    · have := hf.1; rw [if_pos h1, h2] at this; exact this
    · exact factsAt_get j h hf.2
theorem factsTo_get {F : Nat → Value → World → Prop} {w : World} {j : Nat} : ∀ {n : Nat}, j < n → FactsTo F V w n → F j (V j) w
  | n + 1, h, hf => by
    by_cases e : j = n
    · subst e; exact hf.2
    · exact factsTo_get (by omega) hf.1
end

section
variable {ρ : Operand → Value} {d : Option Tmp} {ty : TypeId} {pos : String} {af : Array Edge} {g : Option (Nat × Bool)} {x y z u : Operand} {a b c f : Value}
theorem ex_pick {q : Bool} (h : ρ x = .bool q) (h1 : ρ y = a) (h2 : ρ z = b) : execOp ρ ⟨d, .pick x y z, ty, pos, af, g⟩ = pure (.value (if q then a else b)) := by
  subst h1; subst h2
  show (do pure (Next.value (if ← asBool (ρ x) then ρ y else ρ z)) : Sem Next) = _
  rw [h]; rfl
theorem ex_alloc {t : TypeId} : execOp ρ ⟨d, .alloc t, ty, pos, af, g⟩ = (do pure (.value (← Instr.alloc t true (.tuple #[])))) := rfl
theorem ex_load {t : TypeId} (h : ρ x = a) : execOp ρ ⟨d, .load t x, ty, pos, af, g⟩ = (do pure (.value (← Instr.loadAt t a))) := by subst h; rfl
theorem ex_binOp {op : BinOp} {t t2 : TypeId} (h : ρ x = a) (h2 : ρ y = b) : execOp ρ ⟨d, .binOp op t x y t2, ty, pos, af, g⟩ = (do pure (.value (← (do eqGuard op t x y a b; binOp op t a b)))) := by subst h; subst h2; rfl
theorem ex_unOp {op : UnOp} {t : TypeId} (h : ρ x = a) : execOp ρ ⟨d, .unOp op t x, ty, pos, af, g⟩ = (do pure (.value (← Op.unary op a))) := by subst h; rfl
theorem ex_fieldAddr {s : TypeId} {i : Nat} (h : ρ x = a) : execOp ρ ⟨d, .fieldAddr s x i, ty, pos, af, g⟩ = (do pure (.value (← Instr.fieldAt s a i))) := by subst h; rfl
theorem ex_field {s : TypeId} {i : Nat} (h : ρ x = a) : execOp ρ ⟨d, .field s x i, ty, pos, af, g⟩ = (do pure (.value (← Instr.field s a i))) := by subst h; rfl
theorem ex_indexAddr {t : TypeId} (h : ρ x = a) (h2 : ρ y = b) : execOp ρ ⟨d, .indexAddr t x y, ty, pos, af, g⟩ = (do pure (.value (← Instr.indexAt t a b))) := by subst h; subst h2; rfl
theorem ex_index {t : TypeId} (h : ρ x = a) (h2 : ρ y = b) : execOp ρ ⟨d, .index t x y, ty, pos, af, g⟩ = (do pure (.value (← Instr.index t a b))) := by subst h; subst h2; rfl
theorem ex_extract {i : Nat} (h : ρ x = a) : execOp ρ ⟨d, .extract x i, ty, pos, af, g⟩ = (do pure (.value (← Instr.extract a i))) := by subst h; rfl
theorem ex_arg0 : ([] : List Operand).map ρ = [] := rfl
theorem ex_arg {l : List Operand} {vs : List Value} (h : ρ x = a) (h2 : l.map ρ = vs) : (x :: l).map ρ = a :: vs := by rw [List.map_cons, h, h2]
theorem ex_pickT (h : ρ x = .bool true) (h1 : ρ y = a) : execOp ρ ⟨d, .pick x y z, ty, pos, af, g⟩ = pure (.value a) := ex_pick h h1 rfl
theorem ex_pickF (h : ρ x = .bool false) (h2 : ρ z = b) : execOp ρ ⟨d, .pick x y z, ty, pos, af, g⟩ = pure (.value b) := ex_pick h rfl h2
theorem ex_call {as : Array Operand} {ts : Array TypeId} {vs : List Value} (h : ρ x = f) (h2 : as.toList.map ρ = vs) : execOp ρ ⟨d, .call ⟨.value x, as, ts⟩, ty, pos, af, g⟩ = (do let q ← Deferred.ofValue f vs.toArray; invoke q.target q.args) := by
  have : as.map ρ = vs.toArray := by apply Array.toList_inj.1; rw [Array.toList_map]; simpa using h2
  subst h
  show (do let q ← (do let args := as.map ρ; Deferred.ofValue (ρ x) args); invoke q.target q.args) = _
  rw [this]
theorem ex_builtin {bi : Builtin} {as : Array Operand} {ts : Array TypeId} {vs : List Value} (h2 : as.toList.map ρ = vs) : execOp ρ ⟨d, .call ⟨.builtin bi, as, ts⟩, ty, pos, af, g⟩ = builtin bi ts ty (as.map fun o => match o with | Operand.const _ => true | _ => false) vs.toArray := by
  have : as.map ρ = vs.toArray := by apply Array.toList_inj.1; rw [Array.toList_map]; simpa using h2
  show (do let q ← (do let args := as.map ρ; (pure { target := .builtin bi ts ty (as.map fun o => match o with | Operand.const _ => true | _ => false), args } : Sem Deferred)); invoke q.target q.args) = _
  rw [this]; rfl
end
theorem rel_call {P : Program} {φ : Value → World → Prop} {w : World} {f : FuncId} {vs : List Value} (hcf : ∀ args w, (callFunc f args).run P w = .ok (.enter f args) w) (h : CallTo P f vs.toArray w φ) :
    RelUpon P φ ((do let q ← Deferred.ofValue (.func (.func f) #[] #[]) vs.toArray; invoke q.target q.args : Sem Next).run P w) := by
  have e : ((do let q ← Deferred.ofValue (.func (.func f) #[] #[]) vs.toArray; invoke q.target q.args : Sem Next).run P w) = (callFunc f (#[] ++ vs.toArray ++ #[])).run P w := rfl
  rw [e, hcf]
  have : (#[] ++ vs.toArray ++ #[] : Array Value) = vs.toArray := by simp
  rw [this]; exact h
end Go.Proofs.YtgiiedpambimoaaDoor

/- append onto a row of the call's own, of whatever can be read; no conditions on a program. -/
namespace Go.Proofs.YtgiiedpambimoaaDoor
open Go Go.RowKit

section
variable {P : Program} {w : World} {base : Nat} {e : TypeId} {k n : Nat} {v : Value} {xs : List Value}

theorem own_form (h : w.ownsRow base e k v n xs) : ∃ A c, v = .slice A n c ∧ n ≤ c := by
  rcases h.2 with ⟨rfl, rfl⟩ | ⟨g, cap, cur, rfl, _, _, hn, _⟩
  · exact ⟨none, 0, rfl, Nat.le_refl _⟩
  · exact ⟨_, _, rfl, hn⟩

theorem Rd.below {B : Nat} {w' : World} {A : Option Addr} (h : Rd w k A n xs) (hb : Below B w w') (hB : 0 < n → ∀ b o, A = some ⟨b, o, none⟩ → b < B) : Rd w' k A n xs :=
  ⟨h.1, fun hn => by
    obtain ⟨b, o, e, r⟩ := h.2 hn
    have hlt := hB hn b o e
    exact ⟨b, o, e, Nat.lt_of_lt_of_le r.1 hb.size, fun j u hu => (Below.cell hb (p := ⟨b, o + j, none⟩) hlt).trans (r.2 j u hu)⟩⟩

theorem run_append_of_nil (t ty : TypeId) (i : TypeInfo) (ht : P.underlying t = some (.slice e)) (hi : P.info? e = some i)
    (hown : w.ownsRow base e k v n xs) (c : Nat) (A : Option Addr) (hc : A = none ∨ True) (hA : A = none) : (Builtin.append_ #[t, t] ty #[v, .slice A 0 c]).run P w = .ok v w := by
  subst hA
  rcases hown.2 with ⟨rfl, rfl⟩ | ⟨g, cap, cur, rfl, _, _, hnc, _⟩
  · simp [Builtin.append_, run_underlying ht, sizeOf, typeInfo, hi, Builtin.lenOf, Builtin.firstCells]
  · simp [Builtin.append_, run_underlying ht, sizeOf, typeInfo, hi, Builtin.lenOf, Builtin.firstCells, hnc, storeCells]

theorem run_append_rd (t ty : TypeId) (i : TypeInfo) (z : Value) (bytes : Nat) (ht : P.underlying t = some (.slice e)) (hi : P.info? e = some i) (hz : i.zero = some z)
    (hsize : i.size = k) (hby : i.bytes = bytes) (hzs : z.cells.size = k) (hsz : 0 < k)
    (hown : w.ownsRow base e k v n xs) (A : Option Addr) (m c : Nat) (news : List Value) (hr : Rd w k A m news) (h1 : ∀ u ∈ news, u.oneCell' = true)
    (h63 : n + m ≤ maxLen) (hbytes : (n + m) * bytes ≤ 140737488355328) (hbase : base ≤ w.heap.size) :
    ∃ v' w', (Builtin.append_ #[t, t] ty #[v, .slice A m c]).run P w = .ok v' w' ∧ w'.ownsRow base e k v' (n + m) (xs ++ news) ∧ w.grownBy w' v.ownBlock ∧
      (v'.ownBlock = v.ownBlock ∨ v'.ownBlock = some w.heap.size) := by
  rcases A with _ | ad
  · have hm : m = 0 := by
      rcases Nat.eq_zero_or_pos m with h0 | h0
      · exact h0
      · obtain ⟨_, _, h, _⟩ := hr.2 h0
        cases h
    subst hm
    have hn : news = [] := List.eq_nil_of_length_eq_zero (by simpa using hr.1)
    subst hn
    exact ⟨v, w, run_append_of_nil t ty i ht hi hown c none (.inl rfl) rfl, by simpa using hown, World.grownBy.refl w _, .inl rfl⟩
  · have hcells : ∀ j u, news[j]? = some u → w.cell? (ad.add j) = some u := by
      intro j u hu
      rcases Nat.eq_zero_or_pos m with h0 | h0
      · subst h0
        have hn : news = [] := List.eq_nil_of_length_eq_zero (by simpa using hr.1)
        subst hn
        simp at hu
      · obtain ⟨b, o, h, hrow⟩ := hr.2 h0
        injection h with h
        subst h
        rw [Addr.add_lit]
        exact hrow.2 j u hu
    obtain ⟨v', w', hrun, h2, h3, _, h5⟩ := run_append_own_at (P := P) w base t ty e i z k bytes ht hi hz hsize hby hzs hsz v n xs hown ad m c news hr.1 hcells h1 h63 hbytes hbase
    exact ⟨v', w', hrun, h2, h3, h5⟩

end

end Go.Proofs.YtgiiedpambimoaaDoor

/- append in a region that draws its order; rows of one's own beside boxes and rows of other elements. No conditions on a program. -/
namespace Go.Proofs.YtgiiedpambimoaaDoor
open Go Go.RowKit

/-- The row that an append may write is one of elements of this type. -/
def RowOf (w : World) (row : Option Nat) (e : TypeId) : Prop := ∀ g, row = some g → ∃ cur, w.heap[g]? = some (.cells cur e (0, 0))
theorem rowOf_own {w : World} {base n k : Nat} {e : TypeId} {v : Value} {xs : List Value} (h : w.ownsRow base e k v n xs) : RowOf w v.ownBlock e := by
  intro g hg
  rcases h.2 with ⟨rfl, _⟩ | ⟨g', cap, cur, rfl, _, hh, _⟩
  · cases hg
  · cases hg; exact ⟨cur, hh⟩
theorem Bx.grown {w w' : World} {B : Nat} {t e : TypeId} {cs : Array Value} {row : Option Nat} (h : Bx w B t cs) (hg : w.grownBy w' row) (hr : RowOf w row e) (hne : t ≠ e) : Bx w' B t cs :=
  (hg.block B h.lt fun hs => by
    obtain ⟨cur, hc⟩ := hr B hs.symm
    have h' : w.heap[B]? = some (.cells cs t (0, 0)) := h
    rw [h'] at hc; cases hc; exact hne rfl).trans h
theorem Bx.grown_far {w w' : World} {B : Nat} {t : TypeId} {cs : Array Value} {row : Option Nat} (h : Bx w B t cs) (hg : w.grownBy w' row) (hne : some B ≠ row) : Bx w' B t cs := (hg.block B h.lt hne).trans h
theorem own_grown {w w' : World} {base n k : Nat} {e f : TypeId} {v : Value} {xs : List Value} {row : Option Nat} (h : w.ownsRow base e k v n xs) (hg : w.grownBy w' row) (hr : RowOf w row f) (hne : e ≠ f) : w'.ownsRow base e k v n xs :=
  h.kept hg (by
    rcases h.2 with ⟨rfl, _⟩ | ⟨g', cap, cur, rfl, _, hh, _⟩
    · exact .inl rfl
    · refine .inr fun hs => ?_
      obtain ⟨cur', hc⟩ := hr g' hs.symm
      rw [hh] at hc; cases hc; exact hne rfl)
theorem own_setBox {w : World} {base n k : Nat} {e t : TypeId} {v : Value} {xs : List Value} (h : w.ownsRow base e k v n xs) {B : Nat} {cs : Array Value} (hb : Bx w B t cs) (hne : e ≠ t) (o : Nat) (u : Value) : (w.setCell ⟨B, o, none⟩ u).ownsRow base e k v n xs := by
  refine ⟨h.1, ?_⟩
  rcases h.2 with h2 | ⟨g, cap, cur, hv, hg, hh, r⟩
  · exact .inl h2
  · refine .inr ⟨g, cap, cur, hv, hg, ?_, r⟩
    refine (heap_setCell_other w _ g u ?_).trans hh
    intro e'
    have hb' : w.heap[B]? = some (.cells cs t (0, 0)) := hb
    simp only at e'
    subst e'
    rw [hh] at hb'; cases hb'; exact hne rfl

theorem own_ext {w w' : World} {base n k : Nat} {e : TypeId} {v : Value} {xs : List Value} (h : w.ownsRow base e k v n xs) (hx : Ext w w') : w'.ownsRow base e k v n xs := by
  refine ⟨h.1, ?_⟩
  rcases h.2 with h2 | ⟨g, cap, cur, hv, hg, hh, r⟩
  · exact .inl h2
  · exact .inr ⟨g, cap, cur, hv, hg, (hx.block g (Array.getElem?_eq_some_iff.1 hh).1).trans hh, r⟩

/-- append, as an operation of a drawn region. -/
theorem rel_app {P : Program} {w : World} {base : Nat} {e : TypeId} {k n : Nat} {v : Value} {xs : List Value} {φ : Value → World → Prop} {o : Oper} {a : Act} (s x : Operand) (t : TypeId)
    (ho : o.op = .call { callee := .builtin .append, args := #[s, x], argTypes := #[t, t] })
    (i : TypeInfo) (z : Value) (bytes : Nat) (ht : P.underlying t = some (.slice e)) (hi : P.info? e = some i) (hz : i.zero = some z)
    (hsize : i.size = k) (hby : i.bytes = bytes) (hzs : z.cells.size = k) (hsz : 0 < k)
    (hs : a.eval s = v) (hown : w.ownsRow base e k v n xs) (A : Option Addr) (m c : Nat) (news : List Value) (hx : a.eval x = .slice A m c) (hr : Rd w k A m news) (h1 : ∀ u ∈ news, u.oneCell' = true)
    (h63 : n + m ≤ maxLen) (hbytes : (n + m) * bytes ≤ 140737488355328) (hbase : base ≤ w.heap.size)
    (h : ∀ A' c' w', n + m ≤ c' → w'.ownsRow base e k (.slice A' (n + m) c') (n + m) (xs ++ news) → Below base w w' → w.grownBy w' v.ownBlock → φ (.slice A' (n + m) c') w') :
    RelUpon P φ ((execOp a.eval o).run P w) := by
  obtain ⟨v', w', hrun, h2, h3, h4⟩ := run_append_rd (P := P) t o.type i z bytes ht hi hz hsize hby hzs hsz hown A m c news hr h1 h63 hbytes hbase
  obtain ⟨A', c', rfl, hc'⟩ := own_form h2
  unfold execOp
  simp only [ho, resolve, invoke, builtin, Sem.run_bind, Sem.run_pure, Result.andThen_ok, List.map_toArray, List.map_cons, List.map_nil, hs, hx, hrun]
  exact h A' c' w' hc' h2 ((Below.refl _ _).grown h3 hbase fun g hg => (hown.lt g hg).1) h3
theorem Bx.rd {w : World} {B : Nat} {t : TypeId} {cs : Array Value} (h : Bx w B t cs) (k n : Nat) (hn : cs.size = n * k) : Rd w k (some ⟨B, 0, none⟩) n cs.toList :=
  ⟨by simpa using hn, fun _ => ⟨B, 0, rfl, h.lt, fun j u hu => by rw [Nat.zero_add, h.cell j]; simpa using hu⟩⟩
theorem Rd.new_at {w : World} {A : Nat} (k n : Nat) (cs : Array Value) (t : TypeId) (hA : A = w.heap.size) (h : cs.size = n * k) : Rd (w.alloc (.cells cs t)) k (some ⟨A, 0, none⟩) n cs.toList := hA ▸ Rd.new w k n cs t h
end Go.Proofs.YtgiiedpambimoaaDoor

/- An abstract machine: values without addresses, what they stand for in a world, and what keeps that. No conditions on a program. -/
namespace Go.Proofs.YtgiiedpambimoaaDoor
open Go Go.RowKit

/-- A value without addresses. 'row': a slice that is read alone; 'ref': a pointer to cells that are read alone; 'own', 'ptr': a slice or a pointer into an object of the call's own; 'emp': a slice without room. -/
inductive AV where
  | any
  | v (x : Value)
  | row (k : Nat) (els : List (List AV))
  | ref (cells : List AV)
  | agg (l : List AV)
  | tuple (l : List AV)
  | clo (fn : Fn) (first caps : List AV)
  | own (j : Nat)
  | ptr (j off : Nat)
  | emp

/-- What is read alone: the blocks of 'pr' apart. -/
inductive R0 (pr : Nat → Prop) (w : World) : AV → Value → Prop
  | any (x : Value) : R0 pr w .any x
  | v (x : Value) : R0 pr w (.v x) x
  | nil (k c : Nat) (A : Option Addr) : R0 pr w (.row k []) (.slice A 0 c)
  | emp (A : Option Addr) : R0 pr w .emp (.slice A 0 0)
  | row (k : Nat) (els : List (List AV)) (b o c : Nat) (f : Nat → Value) : els ≠ [] → els.length ≤ c → (∀ l ∈ els, l.length = k) → b < w.heap.size → ¬ pr b →
      (∀ (i : Nat) (a : AV), els.flatten[i]? = some a → w.cell? ⟨b, o + i, none⟩ = some (f i)) → (∀ (i : Nat) (a : AV), els.flatten[i]? = some a → R0 pr w a (f i)) → R0 pr w (.row k els) (.slice (some ⟨b, o, none⟩) els.length c)
  | ref (cells : List AV) (b o : Nat) (f : Nat → Value) : b < w.heap.size → ¬ pr b →
      (∀ (i : Nat) (a : AV), cells[i]? = some a → w.cell? ⟨b, o + i, none⟩ = some (f i)) → (∀ (i : Nat) (a : AV), cells[i]? = some a → R0 pr w a (f i)) → R0 pr w (.ref cells) (.pointer (some ⟨b, o, none⟩))
  | agg (l : List AV) (xs : List Value) : xs.length = l.length → (∀ (i : Nat) (a : AV) (x : Value), l[i]? = some a → xs[i]? = some x → R0 pr w a x) → R0 pr w (.agg l) (.agg xs.toArray)
  | tuple (l : List AV) (xs : List Value) : xs.length = l.length → (∀ (i : Nat) (a : AV) (x : Value), l[i]? = some a → xs[i]? = some x → R0 pr w a x) → R0 pr w (.tuple l) (.tuple xs.toArray)
  | clo (fn : Fn) (l m : List AV) (xs ys : List Value) : xs.length = l.length → (∀ (i : Nat) (a : AV) (x : Value), l[i]? = some a → xs[i]? = some x → R0 pr w a x) →
      ys.length = m.length → (∀ (i : Nat) (a : AV) (x : Value), m[i]? = some a → ys[i]? = some x → R0 pr w a x) → R0 pr w (.clo fn l m) (.func fn xs.toArray ys.toArray)

theorem cell_of_heap {w w' : World} {b : Nat} (h : w'.heap[b]? = w.heap[b]?) (o : Nat) : w'.cell? ⟨b, o, none⟩ = w.cell? ⟨b, o, none⟩ := World.cell?_of_block (w := w) h
theorem R0.mono {pr pr' : Nat → Prop} {w w' : World} (hs : w.heap.size ≤ w'.heap.size) (hw : ∀ b, b < w.heap.size → ¬ pr b → w'.heap[b]? = w.heap[b]?) (hp : ∀ b, b < w.heap.size → ¬ pr b → ¬ pr' b)
    {a : AV} {x : Value} (h : R0 pr w a x) : R0 pr' w' a x := by
  induction h with
  | any x => exact .any x
  | v x => exact .v x
  | nil k c A => exact .nil k c A
  | emp A => exact .emp A
  | row k els b o c f h1 h2 h3 h4 h5 h6 _ ih => exact .row k els b o c f h1 h2 h3 (Nat.lt_of_lt_of_le h4 hs) (hp b h4 h5) (fun i a hi => by rw [cell_of_heap (hw b h4 h5)]; exact h6 i a hi) ih
  | ref cells b o f h4 h5 h6 _ ih => exact .ref cells b o f (Nat.lt_of_lt_of_le h4 hs) (hp b h4 h5) (fun i a hi => by rw [cell_of_heap (hw b h4 h5)]; exact h6 i a hi) ih
  | agg l xs h1 _ ih => exact .agg l xs h1 ih
  | tuple l xs h1 _ ih => exact .tuple l xs h1 ih
  | clo fn l m xs ys h1 _ h3 _ ih1 ih2 => exact .clo fn l m xs ys h1 ih1 h3 ih2
theorem R0.ext {pr : Nat → Prop} {w w' : World} (hx : Ext w w') {a : AV} {x : Value} (h : R0 pr w a x) : R0 pr w' a x :=
  h.mono hx.size (fun b hb _ => hx.block b hb) (fun _ _ h => h)

/-- An object of the call's own. -/
inductive Ob where
  | box (t : TypeId) (cells : List AV)
  | row (e : TypeId) (k : Nat) (els : List (List AV))
  | gone
  /-- Variables of packages, which are read alone. -/
  | glob (gs : List (Nat × List AV))

def baseOf : Value → Option Nat
  | .pointer (some a) => some a.block
  | .slice (some a) _ _ => some a.block
  | _ => none

/-- The blocks of the objects that may be written. -/
def Prot (pb : Nat → Prop) (θ : List Value) (mem : List Ob) (b : Nat) : Prop := pb b ∨ ∃ (j : Nat) (o : Ob) (v : Value), mem[j]? = some o ∧ o ≠ .gone ∧ θ[j]? = some v ∧ baseOf v = some b

def isSl : Value → Bool
  | .slice _ _ _ => true
  | _ => false
theorem isSl_nu {x : Value} (h : isSl x = true) : x ≠ undef := by rintro rfl; cases h
/-- What a slot stands for: what is read alone, or a handle. -/
inductive R1 (θ : List Value) (pr : Nat → Prop) (w : World) : AV → Value → Prop
  | ro {a : AV} {x : Value} : R0 pr w a x → R1 θ pr w a x
  | own (j : Nat) (x : Value) : θ[j]? = some x → isSl x = true → R1 θ pr w (.own j) x
  | ptr (j off b : Nat) (x : Value) : θ[j]? = some x → baseOf x = some b → R1 θ pr w (.ptr j off) (.pointer (some ⟨b, off, none⟩))
  | agg (l : List AV) (xs : List Value) : xs.length = l.length → (∀ (i : Nat) (a : AV) (x : Value), l[i]? = some a → xs[i]? = some x → R1 θ pr w a x) → R1 θ pr w (.agg l) (.agg xs.toArray)
  | tuple (l : List AV) (xs : List Value) : xs.length = l.length → (∀ (i : Nat) (a : AV) (x : Value), l[i]? = some a → xs[i]? = some x → R1 θ pr w a x) → R1 θ pr w (.tuple l) (.tuple xs.toArray)
  | clo (fn : Fn) (l m : List AV) (xs ys : List Value) : xs.length = l.length → (∀ (i : Nat) (a : AV) (x : Value), l[i]? = some a → xs[i]? = some x → R1 θ pr w a x) →
      ys.length = m.length → (∀ (i : Nat) (a : AV) (x : Value), m[i]? = some a → ys[i]? = some x → R1 θ pr w a x) → R1 θ pr w (.clo fn l m) (.func fn xs.toArray ys.toArray)

theorem R1.mono' {θ θ' : List Value} {pr pr' : Nat → Prop} {w w' : World} (hθ : ∀ (j : Nat) (x : Value), x ≠ undef → θ[j]? = some x → θ'[j]? = some x) (hs : w.heap.size ≤ w'.heap.size) (hw : ∀ b, b < w.heap.size → ¬ pr b → w'.heap[b]? = w.heap[b]?) (hp : ∀ b, b < w.heap.size → ¬ pr b → ¬ pr' b)
    {a : AV} {x : Value} (h : R1 θ pr w a x) : R1 θ' pr' w' a x := by
  induction h with
  | ro h => exact .ro (h.mono hs hw hp)
  | own j x h h0 => exact .own j x (hθ j x (isSl_nu h0) h) h0
  | ptr j off b x h h2 => exact .ptr j off b x (hθ j x (fun e => by rw [e] at h2; cases h2) h) h2
  | agg l xs h1 _ ih => exact .agg l xs h1 ih
  | tuple l xs h1 _ ih => exact .tuple l xs h1 ih
  | clo fn l m xs ys h1 _ h3 _ ih1 ih2 => exact .clo fn l m xs ys h1 ih1 h3 ih2
theorem R1.mono {θ θ' : List Value} {pr pr' : Nat → Prop} {w w' : World} (hθ : ∀ (j : Nat) (x : Value), θ[j]? = some x → θ'[j]? = some x) (hs : w.heap.size ≤ w'.heap.size) (hw : ∀ b, b < w.heap.size → ¬ pr b → w'.heap[b]? = w.heap[b]?) (hp : ∀ b, b < w.heap.size → ¬ pr b → ¬ pr' b)
    {a : AV} {x : Value} (h : R1 θ pr w a x) : R1 θ' pr' w' a x := h.mono' (fun j x _ => hθ j x) hs hw hp
theorem R1.ext {θ : List Value} {pr : Nat → Prop} {w w' : World} (hx : Ext w w') {a : AV} {x : Value} (h : R1 θ pr w a x) : R1 θ pr w' a x :=
  h.mono (fun _ _ h => h) hx.size (fun b hb _ => hx.block b hb) (fun _ _ h => h)

theorem R1.val {θ : List Value} {pr : Nat → Prop} {w : World} {c x : Value} (h : R1 θ pr w (.v c) x) : x = c := by
  cases h with | ro h => cases h; rfl
theorem R1.getAgg {θ : List Value} {pr : Nat → Prop} {w : World} {l : List AV} {x : Value} (h : R1 θ pr w (.agg l) x) : ∃ xs : List Value, x = .agg xs.toArray ∧ xs.length = l.length ∧ ∀ (i : Nat) (a : AV) (x : Value), l[i]? = some a → xs[i]? = some x → R1 θ pr w a x := by
  cases h with
  | ro h => cases h with | agg _ xs h1 h2 => exact ⟨xs, rfl, h1, fun i a x ha hx => .ro (h2 i a x ha hx)⟩
  | agg _ xs h1 h2 => exact ⟨xs, rfl, h1, h2⟩
theorem R1.getTuple {θ : List Value} {pr : Nat → Prop} {w : World} {l : List AV} {x : Value} (h : R1 θ pr w (.tuple l) x) : ∃ xs : List Value, x = .tuple xs.toArray ∧ xs.length = l.length ∧ ∀ (i : Nat) (a : AV) (x : Value), l[i]? = some a → xs[i]? = some x → R1 θ pr w a x := by
  cases h with
  | ro h => cases h with | tuple _ xs h1 h2 => exact ⟨xs, rfl, h1, fun i a x ha hx => .ro (h2 i a x ha hx)⟩
  | tuple _ xs h1 h2 => exact ⟨xs, rfl, h1, h2⟩
theorem R1.getRow {θ : List Value} {pr : Nat → Prop} {w : World} {k : Nat} {els : List (List AV)} {x : Value} (h : R1 θ pr w (.row k els) x) : R0 pr w (.row k els) x := by
  cases h with | ro h => exact h
theorem R1.getRef {θ : List Value} {pr : Nat → Prop} {w : World} {l : List AV} {x : Value} (h : R1 θ pr w (.ref l) x) : R0 pr w (.ref l) x := by
  cases h with | ro h => exact h
theorem R1.getOwn {θ : List Value} {pr : Nat → Prop} {w : World} {j : Nat} {x : Value} (h : R1 θ pr w (.own j) x) : θ[j]? = some x := by
  cases h with
  | ro h => cases h
  | own _ _ h _ => exact h
theorem R1.getPtr {θ : List Value} {pr : Nat → Prop} {w : World} {j off : Nat} {x : Value} (h : R1 θ pr w (.ptr j off) x) : ∃ b y, θ[j]? = some y ∧ baseOf y = some b ∧ x = .pointer (some ⟨b, off, none⟩) := by
  cases h with
  | ro h => cases h
  | ptr _ _ b y h h2 => exact ⟨b, y, h, h2, rfl⟩

/-- Where a call began: the world, and the blocks of what was lent to it. -/
structure Bs where
  w : World
  lb : Nat → Prop
/-- What may be written: new blocks, and what was lent. -/
def Bs.okb (w0 : Bs) (b : Nat) : Prop := w0.w.heap.size ≤ b ∨ w0.lb b
/-- All blocks of the beginning but those lent are as they were. -/
structure Bel (w0 : Bs) (w : World) : Prop where
  below : Below 0 w0.w w
  block : ∀ b, b < w0.w.heap.size → ¬ w0.lb b → w.heap[b]? = w0.w.heap[b]?
theorem Bel.size {w0 : Bs} {w : World} (h : Bel w0 w) : w0.w.heap.size ≤ w.heap.size := h.below.size
theorem Bel.refl (w : World) (lb : Nat → Prop) : Bel ⟨w, lb⟩ w := ⟨Below.refl _ _, fun _ _ _ => rfl⟩
theorem Bel.ext {w0 : Bs} {w w' : World} (h : Bel w0 w) (hx : Ext w w') : Bel w0 w' :=
  ⟨h.below.trans (hx.mono (Nat.zero_le _)), fun b hb hl => (hx.block b (Nat.lt_of_lt_of_le hb h.size)).trans (h.block b hb hl)⟩
theorem Bel.write {w0 : Bs} {w w' : World} {v : Value} (h : Bel w0 w) (hx : Below 0 w w') (hw : ∀ b, b < w.heap.size → baseOf v ≠ some b → w'.heap[b]? = w.heap[b]?) (hv : ∀ b, baseOf v = some b → w0.okb b) : Bel w0 w' :=
  ⟨h.below.trans hx, fun b hb hl => (hw b (Nat.lt_of_lt_of_le hb h.size) (fun e => by
    rcases hv b e with h1 | h1
    · omega
    · exact hl h1)).trans (h.block b hb hl)⟩
theorem Bel.toExt {w w' : World} (h : Bel ⟨w, fun _ => False⟩ w') : Ext w w' := ⟨h.below.os, h.below.tape, h.below.output, h.below.size, fun b hb => h.block b hb id⟩
/-- An object, in a world. -/
def ObR (θ : List Value) (pr : Nat → Prop) (bs : Nat → Prop) (w : World) (v : Value) : Ob → Prop
  | .box t cells => ∃ (b : Nat) (xs : List Value), bs b ∧ v = .pointer (some ⟨b, 0, none⟩) ∧ w.heap[b]? = some (.cells xs.toArray t (0, 0)) ∧ xs.length = cells.length ∧ ∀ (i : Nat) (a : AV) (x : Value), cells[i]? = some a → xs[i]? = some x → R1 θ pr w a x
  | .row e k els => ∃ xs : List Value, w.ownsRow 0 e k v els.length xs ∧ (∀ b, baseOf v = some b → bs b) ∧ (∀ l ∈ els, l.length = k) ∧ ∀ (i : Nat) (a : AV) (x : Value), els.flatten[i]? = some a → xs[i]? = some x → R0 pr w a x
  | .gone => True
  | .glob gs => v = undef ∧ ∀ x ∈ gs, R0 pr w (.ref x.2) (.pointer (some ⟨x.1, 0, none⟩))

/-- The objects, in a world. -/
structure SimM (pb : Nat → Prop) (w0 : Bs) (w : World) (θ : List Value) (mem : List Ob) : Prop where
  ext : Bel w0 w
  low : ∀ b, pb b → b < w0.w.heap.size ∧ ¬ w0.lb b
  len : θ.length = mem.length
  ob : ∀ (j : Nat) (o : Ob) (v : Value), mem[j]? = some o → θ[j]? = some v → ObR θ (Prot pb θ mem) w0.okb w v o
  dis : ∀ (i j : Nat) (o p : Ob) (v u : Value) (b : Nat), mem[i]? = some o → o ≠ .gone → mem[j]? = some p → p ≠ .gone → θ[i]? = some v → θ[j]? = some u → baseOf v = some b → baseOf u = some b → i = j

theorem own_block {w w' : World} {base n k : Nat} {e : TypeId} {v : Value} {xs : List Value} (h : w.ownsRow base e k v n xs) (hb : ∀ b, baseOf v = some b → w'.heap[b]? = w.heap[b]?) : w'.ownsRow base e k v n xs := by
  refine ⟨h.1, ?_⟩
  rcases h.2 with h2 | ⟨g, cap, cur, hv, hg, hh, r⟩
  · exact .inl h2
  · exact .inr ⟨g, cap, cur, hv, hg, (hb g (by rw [hv]; rfl)).trans hh, r⟩
theorem own_lt {w : World} {base n k : Nat} {e : TypeId} {v : Value} {xs : List Value} (h : w.ownsRow base e k v n xs) {b : Nat} (hb : baseOf v = some b) : base ≤ b ∧ b < w.heap.size := by
  rcases h.2 with ⟨rfl, _⟩ | ⟨g, cap, cur, rfl, hg, hh, r⟩
  · cases hb
  · cases hb; exact ⟨hg, (Array.getElem?_eq_some_iff.1 hh).1⟩
theorem ObR.lt {θ : List Value} {pr : Nat → Prop} {bs : Nat → Prop} {w : World} {v : Value} {o : Ob} (h : ObR θ pr bs w v o) (hg : o ≠ .gone) {b : Nat} (hb : baseOf v = some b) : bs b ∧ b < w.heap.size := by
  cases o with
  | box t cells => obtain ⟨b', xs, h1, rfl, h2, _⟩ := h; cases hb; exact ⟨h1, (Array.getElem?_eq_some_iff.1 h2).1⟩
  | row e k els => obtain ⟨xs, h1, h2, _⟩ := h; exact ⟨h2 b hb, (own_lt h1 hb).2⟩
  | gone => exact absurd rfl hg
  | glob gs => rw [h.1] at hb; cases hb
theorem ObR.mono' {θ θ' : List Value} {pr pr' : Nat → Prop} {bs : Nat → Prop} {w w' : World} {v : Value} {o : Ob} (h : ObR θ pr bs w v o) (hθ : ∀ (j : Nat) (x : Value), x ≠ undef → θ[j]? = some x → θ'[j]? = some x) (hs : w.heap.size ≤ w'.heap.size) (hw : ∀ b, b < w.heap.size → ¬ pr b → w'.heap[b]? = w.heap[b]?)
    (hp : ∀ b, b < w.heap.size → ¬ pr b → ¬ pr' b) (hv : ∀ b, baseOf v = some b → w'.heap[b]? = w.heap[b]?) : ObR θ' pr' bs w' v o := by
  cases o with
  | box t cells => obtain ⟨b', xs, h1, rfl, h2, h3, h4⟩ := h; exact ⟨b', xs, h1, rfl, (hv b' rfl).trans h2, h3, fun i a x ha hx => (h4 i a x ha hx).mono' hθ hs hw hp⟩
  | row e k els => obtain ⟨xs, h1, hbs, h2, h3⟩ := h; exact ⟨xs, own_block h1 hv, hbs, h2, fun i a x ha hx => (h3 i a x ha hx).mono hs hw hp⟩
  | gone => trivial
  | glob gs => exact ⟨h.1, fun x hx => (h.2 x hx).mono hs hw hp⟩
theorem ObR.mono {θ θ' : List Value} {pr pr' : Nat → Prop} {bs : Nat → Prop} {w w' : World} {v : Value} {o : Ob} (h : ObR θ pr bs w v o) (hθ : ∀ (j : Nat) (x : Value), θ[j]? = some x → θ'[j]? = some x) (hs : w.heap.size ≤ w'.heap.size) (hw : ∀ b, b < w.heap.size → ¬ pr b → w'.heap[b]? = w.heap[b]?)
    (hp : ∀ b, b < w.heap.size → ¬ pr b → ¬ pr' b) (hv : ∀ b, baseOf v = some b → w'.heap[b]? = w.heap[b]?) : ObR θ' pr' bs w' v o := h.mono' (fun j x _ => hθ j x) hs hw hp hv
/-- New blocks alone. -/
theorem SimM.ext' {pb : Nat → Prop} {w0 : Bs} {w w' : World} {θ : List Value} {mem : List Ob} (h : SimM pb w0 w θ mem) (hx : Ext w w') : SimM pb w0 w' θ mem :=
  ⟨h.ext.ext hx, h.low, h.len, fun j o v hm hv => by
    by_cases hg : o = .gone
    · subst hg; trivial
    · exact (h.ob j o v hm hv).mono (fun _ _ h => h) hx.size (fun b hb _ => hx.block b hb) (fun _ _ h => h) (fun b hb => hx.block b ((h.ob j o v hm hv).lt hg hb).2), h.dis⟩

/-- What a step does to the objects and what it keeps. -/
structure Step (pb : Nat → Prop) (w0 : Bs) (θ : List Value) (mem : List Ob) (w : World) (θ' : List Value) (mem' : List Ob) (w' : World) : Prop where
  sim : SimM pb w0 w' θ' mem'
  keep : ∀ a x, R1 θ (Prot pb θ mem) w a x → R1 θ' (Prot pb θ' mem') w' a x
  sz : w.heap.size ≤ w'.heap.size
  same : ∀ b, b < w.heap.size → ¬ Prot pb θ mem b → w'.heap[b]? = w.heap[b]?
  np : ∀ b, b < w.heap.size → ¬ Prot pb θ mem b → ¬ Prot pb θ' mem' b

theorem Step.ext {pb : Nat → Prop} {w0 : Bs} {w w' : World} {θ : List Value} {mem : List Ob} (h : SimM pb w0 w θ mem) (hx : Ext w w') : Step pb w0 θ mem w θ mem w' := ⟨h.ext' hx, fun _ _ h => h.ext hx, hx.size, fun b hb _ => hx.block b hb, fun _ _ h => h⟩

/-- An object more, in a new block (or none). -/
theorem Step.new {pb : Nat → Prop} {w0 : Bs} {w w' : World} {θ : List Value} {mem : List Ob} (h : SimM pb w0 w θ mem) (hx : Ext w w') (v : Value) (o : Ob) (hb : ∀ b, baseOf v = some b → w.heap.size ≤ b)
    (ho : ∀ θ' pr, (∀ a x, R1 θ (Prot pb θ mem) w a x → R1 θ' pr w' a x) → ObR θ' pr w0.okb w' v o) : Step pb w0 θ mem w (θ ++ [v]) (mem ++ [o]) w' := by
  have hθ : ∀ (j : Nat) (x : Value), θ[j]? = some x → (θ ++ [v])[j]? = some x := fun j x hj => by rw [List.getElem?_append_left (List.getElem?_eq_some_iff.1 hj).1]; exact hj
  have split : ∀ {j : Nat} {p : Ob} {u : Value}, (mem ++ [o])[j]? = some p → (θ ++ [v])[j]? = some u → (mem[j]? = some p ∧ θ[j]? = some u) ∨ (j = mem.length ∧ p = o ∧ u = v) := by
    intro j p u hm hu
    rcases Nat.lt_or_ge j mem.length with hj | hj
    · rw [List.getElem?_append_left hj] at hm
      rw [List.getElem?_append_left (by rw [h.len]; exact hj)] at hu
      exact .inl ⟨hm, hu⟩
    · rw [List.getElem?_append_right hj] at hm
      rw [List.getElem?_append_right (by rw [h.len]; exact hj), h.len] at hu
      have hj0 : j - mem.length = 0 := by
        have := (List.getElem?_eq_some_iff.1 hm).1; simp at this; omega
      rw [hj0] at hm hu
      simp at hm hu
      exact .inr ⟨by omega, hm.symm, hu.symm⟩
  have hp : ∀ b, b < w.heap.size → ¬ Prot pb θ mem b → ¬ Prot pb (θ ++ [v]) (mem ++ [o]) b := by
    intro b hlt hn hq
    rcases hq with hq | ⟨j, p, u, h1, h2, h3, h4⟩
    · exact hn (.inl hq)
    rcases split h1 h3 with ⟨h5, h6⟩ | ⟨rfl, rfl, rfl⟩
    · exact hn (.inr ⟨j, p, u, h5, h2, h6, h4⟩)
    · exact absurd (hb b h4) (by omega)
  have keep : ∀ a x, R1 θ (Prot pb θ mem) w a x → R1 (θ ++ [v]) (Prot pb (θ ++ [v]) (mem ++ [o])) w' a x := fun a x hr => hr.mono hθ hx.size (fun b hb _ => hx.block b hb) hp
  refine ⟨⟨h.ext.ext hx, h.low, by simp [h.len], fun j p u hm hu => ?_, fun i j p q u u' b h1 h2 h3 h4 h5 h6 h7 h8 => ?_⟩, keep, hx.size, fun b hb _ => hx.block b hb, hp⟩
  · rcases split hm hu with ⟨h5, h6⟩ | ⟨rfl, rfl, rfl⟩
    · by_cases hg : p = .gone
      · subst hg; trivial
      · exact (h.ob j p u h5 h6).mono hθ hx.size (fun b hb _ => hx.block b hb) hp (fun b hb => hx.block b ((h.ob j p u h5 h6).lt hg hb).2)
    · exact ho _ _ keep
  · rcases split h1 h5 with ⟨a1, a2⟩ | ⟨rfl, rfl, rfl⟩ <;> rcases split h3 h6 with ⟨a3, a4⟩ | ⟨rfl, rfl, rfl⟩
    · exact h.dis i j p q u u' b a1 h2 a3 h4 a2 a4 h7 h8
    · have := ((h.ob i p u a1 a2).lt h2 h7).2; have := hb b h8; omega
    · have := ((h.ob j q u' a3 a4).lt h4 h8).2; have := hb b h7; omega
    · rfl

/-- An object in a place that was kept free for it. -/
theorem Step.fill {pb : Nat → Prop} {w0 : Bs} {w w' : World} {θ : List Value} {mem : List Ob} (h : SimM pb w0 w θ mem) {k : Nat} (hmk : mem[k]? = some .gone) (hvk : θ[k]? = some undef) (hx : Ext w w') (v : Value) (o : Ob) (hb : ∀ b, baseOf v = some b → w.heap.size ≤ b)
    (ho : ∀ θ' pr, (∀ a x, R1 θ (Prot pb θ mem) w a x → R1 θ' pr w' a x) → ObR θ' pr w0.okb w' v o) : Step pb w0 θ mem w (θ.set k v) (mem.set k o) w' := by
  have hkm : k < mem.length := (List.getElem?_eq_some_iff.1 hmk).1
  have hkt : k < θ.length := (List.getElem?_eq_some_iff.1 hvk).1
  have hθ : ∀ (j : Nat) (x : Value), x ≠ undef → θ[j]? = some x → (θ.set k v)[j]? = some x := fun j x hx hj => by
    by_cases hjk : k = j
    · subst hjk; rw [hvk] at hj; cases hj; exact absurd rfl hx
    · rw [List.getElem?_set_ne hjk]; exact hj
  have split : ∀ {j : Nat} {p : Ob} {u : Value}, (mem.set k o)[j]? = some p → (θ.set k v)[j]? = some u → (mem[j]? = some p ∧ θ[j]? = some u ∧ j ≠ k) ∨ (j = k ∧ p = o ∧ u = v) := by
    intro j p u hm hu
    by_cases hjk : k = j
    · subst hjk
      rw [List.getElem?_set_self hkm] at hm
      rw [List.getElem?_set_self hkt] at hu
      cases hm; cases hu
      exact .inr ⟨rfl, rfl, rfl⟩
    · rw [List.getElem?_set_ne hjk] at hm hu
      exact .inl ⟨hm, hu, fun e => hjk e.symm⟩
  have hp : ∀ b, b < w.heap.size → ¬ Prot pb θ mem b → ¬ Prot pb (θ.set k v) (mem.set k o) b := by
    intro b hlt hn hq
    rcases hq with hq | ⟨j, p, u, h1, h2, h3, h4⟩
    · exact hn (.inl hq)
    rcases split h1 h3 with ⟨h5, h6, _⟩ | ⟨rfl, rfl, rfl⟩
    · exact hn (.inr ⟨j, p, u, h5, h2, h6, h4⟩)
    · exact absurd (hb b h4) (by omega)
  have keep : ∀ a x, R1 θ (Prot pb θ mem) w a x → R1 (θ.set k v) (Prot pb (θ.set k v) (mem.set k o)) w' a x := fun a x hr => hr.mono' hθ hx.size (fun b hb _ => hx.block b hb) hp
  refine ⟨⟨h.ext.ext hx, h.low, by simp [h.len], fun j p u hm hu => ?_, fun i j p q u u' b h1 h2 h3 h4 h5 h6 h7 h8 => ?_⟩, keep, hx.size, fun b hb _ => hx.block b hb, hp⟩
  · rcases split hm hu with ⟨h5, h6, _⟩ | ⟨rfl, rfl, rfl⟩
    · by_cases hg : p = .gone
      · subst hg; trivial
      · exact (h.ob j p u h5 h6).mono' hθ hx.size (fun b hb _ => hx.block b hb) hp (fun b hb => hx.block b ((h.ob j p u h5 h6).lt hg hb).2)
    · exact ho _ _ keep
  · rcases split h1 h5 with ⟨a1, a2, a5⟩ | ⟨rfl, rfl, rfl⟩ <;> rcases split h3 h6 with ⟨a3, a4, a6⟩ | ⟨rfl, rfl, rfl⟩
    · exact h.dis i j p q u u' b a1 h2 a3 h4 a2 a4 h7 h8
    · have := ((h.ob i p u a1 a2).lt h2 h7).2; have := hb b h8; omega
    · have := ((h.ob j q u' a3 a4).lt h4 h8).2; have := hb b h7; omega
    · rfl

/-- One object written. -/
theorem Step.write {pb : Nat → Prop} {w0 : Bs} {w w' : World} {θ : List Value} {mem : List Ob} (h : SimM pb w0 w θ mem) {j : Nat} {o o' : Ob} {v : Value} (hm : mem[j]? = some o) (hg : o ≠ .gone) (hv : θ[j]? = some v) (hx : Below 0 w w')
    (hw : ∀ b, b < w.heap.size → baseOf v ≠ some b → w'.heap[b]? = w.heap[b]?)
    (ho : ∀ pr, (∀ a x, R1 θ (Prot pb θ mem) w a x → R1 θ pr w' a x) → ObR θ pr w0.okb w' v o') : Step pb w0 θ mem w θ (mem.set j o') w' := by
  have hj : j < mem.length := (List.getElem?_eq_some_iff.1 hm).1
  have hset : ∀ {i : Nat} {p : Ob}, (mem.set j o')[i]? = some p → (i = j ∧ p = o') ∨ (i ≠ j ∧ mem[i]? = some p) := by
    intro i p hp
    by_cases hij : j = i
    · subst hij; rw [List.getElem?_set_self hj] at hp; exact .inl ⟨rfl, by simpa using hp.symm⟩
    · rw [List.getElem?_set_ne hij] at hp; exact .inr ⟨fun h => hij h.symm, hp⟩
  have hpj : ∀ b, baseOf v = some b → Prot pb θ mem b := fun b hb => .inr ⟨j, o, v, hm, hg, hv, hb⟩
  have hp : ∀ b, ¬ Prot pb θ mem b → ¬ Prot pb θ (mem.set j o') b := by
    intro b hn hq
    rcases hq with hq | ⟨i, p, u, h1, h2, h3, h4⟩
    · exact hn (.inl hq)
    rcases hset h1 with ⟨rfl, rfl⟩ | ⟨_, h5⟩
    · rw [hv] at h3; cases h3; exact hn (hpj b h4)
    · exact hn (.inr ⟨i, p, u, h5, h2, h3, h4⟩)
  have hw' : ∀ b, b < w.heap.size → ¬ Prot pb θ mem b → w'.heap[b]? = w.heap[b]? := fun b hb hn => hw b hb fun he => hn (hpj b he)
  have keep : ∀ a x, R1 θ (Prot pb θ mem) w a x → R1 θ (Prot pb θ (mem.set j o')) w' a x := fun a x hr => hr.mono (fun _ _ h => h) hx.size hw' (fun b _ => hp b)
  refine ⟨⟨h.ext.write hx hw (fun b hb => ((h.ob j o v hm hv).lt hg hb).1), h.low, by simp [h.len], fun i p u hm' hu => ?_, fun i i2 p q u u' b h1 h2 h3 h4 h5 h6 h7 h8 => ?_⟩, keep, hx.size, hw', fun b _ => hp b⟩
  · rcases hset hm' with ⟨rfl, rfl⟩ | ⟨hne, h5⟩
    · rw [hv] at hu; cases hu; exact ho _ keep
    · by_cases hgp : p = .gone
      · subst hgp; trivial
      · refine (h.ob i p u h5 hu).mono (fun _ _ h => h) hx.size hw' (fun b _ => hp b) fun b hb => ?_
        have hlt := ((h.ob i p u h5 hu).lt hgp hb).2
        exact hw b hlt fun he => hne (h.dis i j p o u v b h5 hgp hm hg hu hv hb he)
  · have live : ∀ {i : Nat} {p : Ob} {u : Value}, (mem.set j o')[i]? = some p → p ≠ .gone → θ[i]? = some u → ∃ p', mem[i]? = some p' ∧ p' ≠ .gone := by
      intro i p u h1 h2 _
      rcases hset h1 with ⟨rfl, rfl⟩ | ⟨_, h5⟩
      · exact ⟨o, hm, hg⟩
      · exact ⟨p, h5, h2⟩
    obtain ⟨p', a1, a2⟩ := live h1 h2 h5
    obtain ⟨q', a3, a4⟩ := live h3 h4 h6
    exact h.dis i i2 p' q' u u' b a1 a2 a3 a4 h5 h6 h7 h8

/-- One object given up: it is read alone from here on. -/
theorem Step.drop {pb : Nat → Prop} {w0 : Bs} {w : World} {θ : List Value} {mem : List Ob} (h : SimM pb w0 w θ mem) (j : Nat) : Step pb w0 θ mem w θ (mem.set j .gone) w := by
  have hset : ∀ {i : Nat} {p : Ob}, (mem.set j .gone)[i]? = some p → p = .gone ∨ mem[i]? = some p := by
    intro i p hp
    by_cases hij : j = i
    · subst hij
      have hj : j < mem.length := by have := (List.getElem?_eq_some_iff.1 hp).1; simpa using this
      rw [List.getElem?_set_self hj] at hp; exact .inl (by simpa using hp.symm)
    · rw [List.getElem?_set_ne hij] at hp; exact .inr hp
  have hp : ∀ b, ¬ Prot pb θ mem b → ¬ Prot pb θ (mem.set j .gone) b := by
    intro b hn hq
    rcases hq with hq | ⟨i, p, u, h1, h2, h3, h4⟩
    · exact hn (.inl hq)
    rcases hset h1 with rfl | h5
    · exact h2 rfl
    · exact hn (.inr ⟨i, p, u, h5, h2, h3, h4⟩)
  refine ⟨⟨h.ext, h.low, by simp [h.len], fun i p u hm' hu => ?_, fun i i2 p q u u' b h1 h2 h3 h4 h5 h6 h7 h8 => ?_⟩, fun a x hr => hr.mono (fun _ _ h => h) (Nat.le_refl _) (fun _ _ _ => rfl) (fun b _ => hp b), Nat.le_refl _, fun _ _ _ => rfl, fun b _ => hp b⟩
  · rcases hset hm' with rfl | h5
    · trivial
    · exact (h.ob i p u h5 hu).mono (fun _ _ h => h) (Nat.le_refl _) (fun _ _ _ => rfl) (fun b _ => hp b) (fun _ _ => rfl)
  · exact h.dis i i2 p q u u' b ((hset h1).resolve_left h2) h2 ((hset h3).resolve_left h4) h4 h5 h6 h7 h8
theorem Prot.dropped {pb : Nat → Prop} {w0 : Bs} {w : World} {θ : List Value} {mem : List Ob} (h : SimM pb w0 w θ mem) {j : Nat} {o : Ob} {v : Value} (hm : mem[j]? = some o) (hg : o ≠ .gone) (hv : θ[j]? = some v) {b : Nat} (hb : baseOf v = some b) : ¬ Prot pb θ (mem.set j .gone) b := by
  intro hq
  rcases hq with hq | ⟨i, p, u, h1, h2, h3, h4⟩
  · have h1 := h.low b hq
    rcases ((h.ob j o v hm hv).lt hg hb).1 with h2 | h2
    · omega
    · exact h1.2 h2
  by_cases hij : j = i
  · subst hij
    have hj : j < mem.length := (List.getElem?_eq_some_iff.1 hm).1
    rw [List.getElem?_set_self hj] at h1
    simp at h1; exact h2 h1.symm
  · rw [List.getElem?_set_ne hij] at h1
    exact hij (h.dis j i o p v u b hm hg h1 h2 hv h3 hb h4)
/-- The marks that loops over functions have left on the way out. -/
def Mks (B : Nat) (pr : Nat → Prop) (w : World) (ds : List Deferred) : Prop := (∀ d ∈ ds, ∃ D, d.target = .collected D ∧ D < w.heap.size ∧ ¬ pr D ∧ w.heap[D]? = some (.deferred (some [])) ∧ B ≤ D) ∧ ds.Pairwise (fun d d' => d.target ≠ d'.target)
theorem Mks.nil (B : Nat) (pr : Nat → Prop) (w : World) : Mks B pr w [] := ⟨(fun _ h => (by cases h)), List.Pairwise.nil⟩
theorem Mks.mono {B : Nat} {pr pr' : Nat → Prop} {w w' : World} {ds : List Deferred} (h : Mks B pr w ds) (hs : w.heap.size ≤ w'.heap.size) (hw : ∀ b, b < w.heap.size → ¬ pr b → w'.heap[b]? = w.heap[b]?) (hp : ∀ b, b < w.heap.size → ¬ pr b → ¬ pr' b) : Mks B pr' w' ds :=
  ⟨fun d hd => by
    obtain ⟨D, h1, h2, h3, h4, h5⟩ := h.1 d hd
    exact ⟨D, h1, Nat.lt_of_lt_of_le h2 hs, hp D h2 h3, (hw D h2 h3).trans h4, h5⟩, h.2⟩
theorem Mks.step {B : Nat} {pb : Nat → Prop} {w0 : Bs} {w w' : World} {θ θ' : List Value} {mem mem' : List Ob} {ds : List Deferred} (h : Mks B (Prot pb θ mem) w ds) (hs : Step pb w0 θ mem w θ' mem' w') : Mks B (Prot pb θ' mem') w' ds := h.mono hs.sz hs.same hs.np
end Go.Proofs.YtgiiedpambimoaaDoor

