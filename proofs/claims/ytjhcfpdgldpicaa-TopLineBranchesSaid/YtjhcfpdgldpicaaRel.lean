/- Lemmas for the statement. -/
import Derived.StillTail
import Derived.Below
namespace Go.Proofs.Ytjhcfpdgldpicaa
open Go Go.RowKit
def Ext (w w' : World) : Prop := Below w.heap.size w w'
theorem Ext.refl (w : World) : Ext w w := Below.refl _ w
theorem Ext.trans {a b c : World} (h : Ext a b) (k : Ext b c) : Ext a c := Below.trans h (k.mono h.size)
theorem Ext.drew {a b : World} (h : Ext a b) : Ext a b.drew := Below.drew h
theorem Ext.alloc {a b : World} (h : Ext a b) (o : Obj) : Ext a (b.alloc o) := Below.alloc h h.size o
theorem Ext.setCell {a b : World} (h : Ext a b) {p : Addr} (hp : a.heap.size ≤ p.block) (v : Value) : Ext a (b.setCell p v) := Below.setCell h hp v
theorem Ext.one (w : World) : Ext w { w with drawn := w.drawn + 1 } := ⟨rfl, rfl, rfl, Nat.le_refl _, fun _ _ => rfl⟩
def RelUpon (P : Program) (φ : Value → World → Prop) : Result Next → Prop
 | .ok (.value u) w' => φ u w'
 | .ok .skip w' => φ undef w'
 | .ok (.enter f args) w' => Calls P f args w' fun e w'' => ∃ u, e = .returned u ∧ φ u w''
 | _ => False
theorem RelUpon_value {P : Program} {φ : Value → World → Prop} (u : Value) (w : World) : RelUpon P φ (.ok (.value u) w) = φ u w := rfl
theorem RelUpon_skip {P : Program} {φ : Value → World → Prop} (w : World) : RelUpon P φ (.ok .skip w) = φ undef w := rfl
section
variable {P : Program} {ops : Array Oper}
theorem Oper.wp_of_rel {o : Oper} {a : Act} {w : World} {φ : Value → World → Prop} {K : Act → World → Prop} {Q : Exit → Act → World → Prop}
 (hK : ∀ v w', φ v w' → K (a.put o.dst v) w') (h : RelUpon P φ ((execOp a.eval o).run P w)) : o.wp P a w K Q := by
 unfold Oper.wp
 generalize (execOp a.eval o).run P w = r at *
 cases r with
 | ok n w' =>
  cases n <;> simp only [RelUpon] at h <;> simp only [Oper.upon]
  case value u => exact hK _ _ h
  case skip => exact hK _ _ h
  case enter f args =>
   exact h.mono fun e w'' ⟨u, he, hu⟩ => by subst he; exact hK _ _ hu
 | halt x w' => simp only [RelUpon] at h
def puts (V : Nat → Value) (m : Nat → Bool) : List Oper → Nat → Act → Act
 | [], _, a => a
 | o :: l, k, a => puts V m l (k + 1) (if m k then a.put o.dst (V k) else a)
def putsAll (V : Nat → Value) : List Oper → Nat → Act → Act
 | [], _, a => a
 | o :: l, k, a => putsAll V l (k + 1) (a.put o.dst (V k))
theorem puts_all (V : Nat → Value) (m : Nat → Bool) : ∀ (l : List Oper) (k : Nat) (a : Act), (∀ i, i < l.length → m (k + i) = true) → puts V m l k a = putsAll V l k a
 | [], _, _, _ => rfl
 | o :: l, k, a, h => by
  have h0 : m k = true := by simpa using h 0 (by simp)
  simp only [puts, putsAll, h0, if_true]
  exact puts_all V m l (k + 1) _ fun i hi => by have := h (i + 1) (by simp; omega); rwa [Nat.add_assoc, Nat.add_comm 1 i]
theorem puts_none (V : Nat → Value) (m : Nat → Bool) : ∀ (l : List Oper) (k : Nat) (a : Act), (∀ i, i < l.length → m (k + i) = false) → puts V m l k a = a
 | [], _, _, _ => rfl
 | o :: l, k, a, h => by
  have h0 : m k = false := by simpa using h 0 (by simp)
  simp only [puts, h0]
  exact puts_none V m l (k + 1) _ fun i hi => by have := h (i + 1) (by simp; omega); rwa [Nat.add_assoc, Nat.add_comm 1 i]
theorem put_swap (a : Act) {x y : Option Tmp} (v u : Value) (h : ∀ d, x = some d → y ≠ some d) : (a.put x v).put y u = (a.put y u).put x v := Act.put_comm a v u h
theorem puts_put (V : Nat → Value) (m : Nat → Bool) (d : Option Tmp) (v : Value) : ∀ (l : List Oper) (k : Nat) (a : Act),
 (∀ (i : Nat) (o : Oper), l[i]? = some o → ∀ t, d = some t → o.dst ≠ some t) → (puts V m l k a).put d v = puts V m l k (a.put d v)
 | [], _, _, _ => rfl
 | o :: l, k, a, h => by
  have h0 := h 0 o rfl
  have ih := fun b => puts_put V m d v l (k + 1) b fun i o' ho => h (i + 1) o' (by simpa using ho)
  simp only [puts]
  cases m k
  ·exact ih a
  ·simp only [if_true]
   rw [ih, put_swap a (V k) v fun t ht hd => h0 t hd ht]
theorem puts_congr (V V' : Nat → Value) (m m' : Nat → Bool) : ∀ (l : List Oper) (k : Nat) (a : Act), (∀ i, i < l.length → m (k + i) = m' (k + i) ∧ (m (k + i) = true → V (k + i) = V' (k + i))) →
 puts V m l k a = puts V' m' l k a
 | [], _, _, _ => rfl
 | o :: l, k, a, h => by
  have h0 := h 0 (by simp)
  simp only [Nat.add_zero] at h0
  have ih := fun b => puts_congr V V' m m' l (k + 1) b fun i hi => by have := h (i + 1) (by simp; omega); rwa [Nat.add_assoc, Nat.add_comm 1 i]
  simp only [puts]
  rw [← h0.1]
  cases hm : m k
  ·exact ih a
  ·simp only [if_true]; rw [h0.2 hm]; exact ih _
theorem puts_set (V : Nat → Value) (m : Nat → Bool) (v : Value) : ∀ (l : List Oper) (k : Nat) (a : Act) (i : Nat) (o : Oper), l[i]? = some o → m (k + i) = false →
 (∀ (j : Nat) (o' : Oper), l[j]? = some o' → j ≠ i → ∀ t, o.dst = some t → o'.dst ≠ some t) →
 (puts V m l k a).put o.dst v = puts (fun j => if j = k + i then v else V j) (fun j => if j = k + i then true else m j) l k a
 | [], _, _, _, _, hi, _, _ => by simp at hi
 | o1 :: l, k, a, 0, o, hi, hm, hd => by
  have : o1 = o := by simpa using hi
  subst this
  simp only [Nat.add_zero] at hm ⊢
  simp only [puts, hm, if_true, Bool.false_eq_true, if_false]
  rw [puts_put V m o1.dst v l (k + 1) _ fun i o' ho => hd (i + 1) o' (by simpa using ho) (by omega)]
  refine puts_congr _ _ _ _ l (k + 1) _ fun i hi => ?_
  have : k + 1 + i ≠ k := by omega
  simp [this]
 | o1 :: l, k, a, i + 1, o, hi, hm, hd => by
  have hk : k ≠ k + (i + 1) := by omega
  simp only [puts, if_neg hk]
  have := puts_set V m v l (k + 1) (if m k = true then a.put o1.dst (V k) else a) i o (by simpa using hi) (by rw [← hm]; congr 1; omega)
   (fun j o' ho hj => hd (j + 1) o' (by simpa using ho) (by omega))
  rw [this]
  refine puts_congr _ _ _ _ l (k + 1) _ fun j _ => ?_
  have e : (k + 1 + i) = (k + (i + 1)) := by omega
  rw [e]; simp
theorem tmp_put_ne {a : Act} {d : Option Tmp} {v : Value} {t : Tmp} (h : d ≠ some t) : (a.put d v).tmps[t]? = a.tmps[t]? := by
 cases d with
 | none => rfl
 | some d => exact Array.getElem?_setIfInBounds_ne (fun e => h (by rw [e]))
theorem puts_tmp (V : Nat → Value) (m m' : Nat → Bool) (t : Tmp) : ∀ (l : List Oper) (k : Nat) (a b : Act), a.tmps.size = b.tmps.size → a.tmps[t]? = b.tmps[t]? →
 (∀ (i : Nat) (o : Oper), l[i]? = some o → o.dst = some t → m (k + i) = m' (k + i)) → (puts V m l k a).tmps[t]? = (puts V m' l k b).tmps[t]?
 | [], _, _, _, _, h, _ => h
 | o :: l, k, a, b, hs, h, hm => by
  have h0 := hm 0 o rfl
  simp only [Nat.add_zero] at h0
  have ih := fun a b hs h => puts_tmp V m m' t l (k + 1) a b hs h fun i o' ho hd => by have := hm (i + 1) o' (by simpa using ho) hd; rwa [Nat.add_assoc, Nat.add_comm 1 i]
  have size : ∀ (c : Act) (x : Bool), (if x = true then c.put o.dst (V k) else c).tmps.size = c.tmps.size := fun c x => by
   cases x <;> cases ho : o.dst <;> simp [Act.put]
  simp only [puts]
  refine ih _ _ (by rw [size, size]; exact hs) ?_
  by_cases hd : o.dst = some t
  ·rw [h0 hd]
   cases m' k
   ·exact h
   ·simp only [if_true, hd, Act.put]
    simp [Array.getElem?_setIfInBounds, hs]
  ·have hne : ∀ (c : Act) (x : Bool), (if x = true then c.put o.dst (V k) else c).tmps[t]? = c.tmps[t]? := fun c x => by
    cases x
    ·rfl
    ·exact tmp_put_ne hd
   rw [hne, hne]; exact h
def FactsAt (F : Nat → Value → World → Prop) (V : Nat → Value) (w : World) : List Edge → Prop
 | [] => True
 | e :: l => (if Region.binds .any e = true then F e.on (V e.on) w else True) ∧ FactsAt F V w l
theorem factsAt_of {F : Nat → Value → World → Prop} {V : Nat → Value} {w : World} : ∀ {l : List Edge}, (∀ e ∈ l, Region.binds .any e = true → F e.on (V e.on) w) → FactsAt F V w l
 | [], _ => trivial
 | e :: l, h => ⟨by split; exact h e (by simp) (by assumption); trivial, factsAt_of fun e' he hb => h e' (by simp [he]) hb⟩
def FactsOn (m : Nat → Bool) : List Edge → Prop
 | [] => True
 | e :: l => (if Region.binds .any e = true then m e.on = true else True) ∧ FactsOn m l
theorem factsOn_of {m : Nat → Bool} : ∀ {l : List Edge}, (∀ e ∈ l, Region.binds .any e = true → m e.on = true) → FactsOn m l
 | [], _ => trivial
 | e :: l, h => ⟨by split; exact h e (by simp) (by assumption); trivial, factsOn_of fun e' he hb => h e' (by simp [he]) hb⟩
def FactsTo (F : Nat → Value → World → Prop) (V : Nat → Value) (w : World) : Nat → Prop
 | 0 => True
 | n + 1 => FactsTo F V w n ∧ F n (V n) w
theorem factsTo_of {F : Nat → Value → World → Prop} {V : Nat → Value} {w : World} : ∀ {n : Nat}, (∀ k, k < n → F k (V k) w) → FactsTo F V w n
 | 0, _ => trivial
 | n + 1, h => ⟨factsTo_of fun k hk => h k (by omega), h n (by omega)⟩
def Steps (P : Program) (ops : Array Oper) (B : (Nat → Bool) → World → Prop) (F : Nat → Value → World → Prop) (V : Nat → Value) : List Oper → Nat → Act → Prop
 | [], _, _ => True
 | o :: l, k, a => (∀ m w, m k = false → FactsOn m o.after.toList → B m w → FactsAt F V w o.after.toList →
  if Region.wanted o (yielded ops a.tmps) then RelUpon P (fun v w' => F k v w' ∧ B (fun j => j == k || m j) w' ∧ ∀ j u, j ≠ k → m j = true → F j u w → F j u w') ((execOp a.eval o).run P w) else F k undef w ∧ B (fun j => j == k || m j) w) ∧
  Steps P ops B F V l (k + 1) (a.put o.dst (V k))
def waitsB (o : Oper) (k : Nat) : Bool := o.after.toList.any fun e => e.on == k && Region.binds .any e
def waitsK (ops : Array Oper) (k i : Nat) : Bool := match ops[k]? with
 | none => false
 | some o => waitsB o i
def edgesB (o : Oper) (i : Nat) : Bool := o.after.toList.all fun e => !Region.binds .any e || decide (e.on < i)
def relB (ops : Array Oper) (n : Nat) : Bool :=
 Region.noSelect ops && decide (n ≤ ops.size) &&
 ((List.range n).all fun i => match ops[i]? with
  | none => false
  | some o => edgesB o i && (match o.guard with | none => true | some (g, _) => waitsB o g) &&
   ((List.range n).all fun k => match (ops[k]?).bind (·.dst) with
    | none => true
    | some t => (!(o.looksAt ops).contains t || (decide (k < i) && waitsB o k) || (decide (i < k) && waitsK ops k i)) && (k == i || o.dst != some t))) &&
 (decide (n = ops.size) || (decide (n < ops.size) && Region.sinkB .any ops n && Region.chainB .any ops n)) &&
 Region.seqB .any ops (ops.size - n) n ((List.range n).foldl (fun l i => l.setIfInBounds i true) (Array.replicate ops.size false))
def unl (listed : Array Bool) : Nat → Nat
 | 0 => 0
 | n + 1 => unl listed n + (if listed.getD n false then 0 else 1)
theorem unl_set {listed : Array Bool} {i : Nat} (hs : i < listed.size) (h : listed.getD i false = false) : ∀ n, i < n → unl (listed.setIfInBounds i true) n + 1 = unl listed n := by
 have far : ∀ n, n ≤ i → unl (listed.setIfInBounds i true) n = unl listed n := by
  intro n
  induction n with
  | zero => intro _; rfl
  | succ n ih =>
   intro hn
   simp only [unl]
   rw [ih (by omega), getD_set_ne false (by omega)]
 intro n
 induction n with
 | zero => intro h; omega
 | succ n ih =>
  intro hn
  simp only [unl]
  by_cases hin : i = n
  ·subst hin
   rw [far i (Nat.le_refl _), h]
   have : (listed.setIfInBounds i true).getD i false = true := by simp [hs]
   rw [this]; simp
  ·have := ih (by omega)
   rw [getD_set_ne false hin]; omega
theorem unl_zero {listed : Array Bool} : ∀ {n : Nat}, unl listed n = 0 → ∀ i, i < n → listed.getD i false = true
 | 0, _, _, hi => by omega
 | n + 1, h, i, hi => by
  simp only [unl] at h
  by_cases hin : i = n
  ·subst hin
   cases hb : listed.getD i false with
   | true => rfl
   | false => rw [hb] at h; simp at h
  ·exact unl_zero (n := n) (by omega) i (by omega)
theorem unl_pos {listed : Array Bool} : ∀ {n : Nat}, unl listed n ≠ 0 → ∃ i, i < n ∧ listed.getD i false = false ∧ ∀ j, j < i → listed.getD j false = true
 | 0, h => absurd rfl h
 | n + 1, h => by
  by_cases h0 : unl listed n = 0
  ·refine ⟨n, by omega, ?_, fun j hj => unl_zero h0 j hj⟩
   simp only [unl, h0] at h
   cases hb : listed.getD n false with
   | true => rw [hb] at h; simp at h
   | false => rfl
  ·obtain ⟨i, hi, h1, h2⟩ := unl_pos h0
   exact ⟨i, by omega, h1, h2⟩
theorem steps_at {B : (Nat → Bool) → World → Prop} {F : Nat → Value → World → Prop} {V : Nat → Value} : ∀ {l : List Oper} {k : Nat} {a : Act}, Steps P ops B F V l k a → ∀ {i : Nat} {o : Oper}, l[i]? = some o →
 ∀ m w, m (k + i) = false → FactsOn m o.after.toList → B m w → FactsAt F V w o.after.toList →
  if Region.wanted o (yielded ops (putsAll V (l.take i) k a).tmps) then RelUpon P (fun v w' => F (k + i) v w' ∧ B (fun j => j == k + i || m j) w' ∧ ∀ j u, j ≠ k + i → m j = true → F j u w → F j u w') ((execOp (putsAll V (l.take i) k a).eval o).run P w)
  else F (k + i) undef w ∧ B (fun j => j == k + i || m j) w
 | [], _, _, _, _, _, hi => by simp at hi
 | o1 :: l, k, a, h, 0, o, hi => by
  have : o1 = o := by simpa using hi
  subst this
  exact h.1
 | o1 :: l, k, a, h, i + 1, o, hi => by
  have := steps_at h.2 (i := i) (o := o) (by simpa using hi)
  simpa [putsAll, Nat.add_assoc, Nat.add_comm 1 i] using this
theorem foldl_set_size (n m : Nat) : ((List.range n).foldl (fun l i => l.setIfInBounds i true) (Array.replicate m false)).size = m := by
 induction n with
 | zero => simp
 | succ n ih => rw [List.range_succ, List.foldl_append]; simpa using ih
theorem foldl_set_get (n m j : Nat) (hj : j < m) : ((List.range n).foldl (fun l i => l.setIfInBounds i true) (Array.replicate m false)).getD j false = decide (j < n) := by
 induction n with
 | zero => simp [hj]
 | succ n ih =>
  rw [List.range_succ, List.foldl_append]
  simp only [List.foldl_cons, List.foldl_nil]
  by_cases h : n = j
  ·subst h
   have := foldl_set_size n m
   simp [this, hj]
  ·rw [getD_set_ne false h, ih]
   simp; omega
theorem looks_of {o : Oper} {t : Tmp} (h : Operand.tmp t ∈ o.op.operands) : (o.looksAt ops).contains t = true := by
 have : t ∈ o.looksAt ops := List.mem_append_left _ (List.mem_filterMap.2 ⟨.tmp t, by simpa using h, rfl⟩)
 simpa using this
theorem looks_guard {o : Oper} {g : Nat} {b : Bool} {t : Tmp} (hg : o.guard = some (g, b)) (h : (ops[g]?).bind (·.dst) = some t) : (o.looksAt ops).contains t = true := by
 have : t ∈ o.looksAt ops := by
  unfold Oper.looksAt
  rw [hg]
  exact List.mem_append_right _ (by simp [h])
 simpa using this
theorem any_rel {Q : Exit → Act → World → Prop} {a0 : Act} {w0 : World} {l : List Oper} (n : Nat) (B : (Nat → Bool) → World → Prop) (F : Nat → Value → World → Prop) (ex : Nat → Option Value)
 (hB : relB l.toArray n = true) (hb : B (fun _ => false) { w0 with drawn := w0.drawn + 1 }) (hex : ∀ k v w, F k v w → ∀ c, ex k = some c → v = c)
 (steps : ∀ V, (∀ k c, ex k = some c → V k = c) → Steps P l.toArray B F V (l.take n) 0 a0)
 (tail : ∀ V w, (∀ k c, ex k = some c → V k = c) → B (fun k => decide (k < n)) w → FactsTo F V w n → wpList P l.toArray Q (l.drop n) (putsAll V (l.take n) 0 a0) w) : wpAny P .any l.toArray Q l.toArray.size (Array.replicate l.toArray.size false) a0 { w0 with drawn := w0.drawn + 1 } := by
 simp only [relB, Bool.and_eq_true, decide_eq_true_eq] at hB
 obtain ⟨⟨⟨⟨hsel, hn⟩, hheads⟩, htails⟩, hseq⟩ := hB
 have hn' : n ≤ l.length := by simpa using hn
 have htl : (l.take n).length = n := by simp; omega
 have hopl : ∀ i : Nat, l.toArray[i]? = l[i]? := fun i => by simp
 have htk : ∀ i : Nat, i < n → (l.take n)[i]? = l[i]? := fun i hi => by simp [hi]
 -- what the Bool says of a head
 have head : ∀ i o, i < n → l[i]? = some o → (∀ e ∈ o.after, Region.binds .any e = true → e.on < i) ∧ (∀ g b, o.guard = some (g, b) → waitsB o g = true) ∧
  ∀ k t, k < n → (l[k]?).bind (·.dst) = some t → ((o.looksAt l.toArray).contains t = true → (k < i ∧ waitsB o k = true) ∨ (i < k ∧ waitsK l.toArray k i = true)) ∧ (k = i ∨ o.dst ≠ some t) := by
  intro i o hi ho
  have h1 := List.all_eq_true.1 hheads i (List.mem_range.2 hi)
  rw [hopl, ho] at h1
  simp only [Bool.and_eq_true] at h1
  obtain ⟨⟨h1, h2⟩, h3⟩ := h1
  refine ⟨fun e he hb => ?_, fun g b hg => ?_, fun k t hk ht => ?_⟩
  ·have := List.all_eq_true.1 h1 e (by simpa using he)
   simpa [hb] using this
  ·rw [hg] at h2; exact h2
  ·have := List.all_eq_true.1 h3 k (List.mem_range.2 hk)
   rw [hopl, ht] at this
   simp only [Bool.and_eq_true, Bool.or_eq_true, Bool.not_eq_true', decide_eq_true_eq, beq_iff_eq, bne_iff_ne, ne_eq] at this
   exact ⟨fun hc => by
    rcases this.1 with (h | h) | h
    ·exact absurd h (by rw [hc]; simp)
    ·exact .inl h
    ·exact .inr h, this.2⟩
 have waits : ∀ {o : Oper} {k : Nat}, waitsB o k = true → ∃ e ∈ o.after, e.on = k ∧ Region.binds .any e = true := fun {o k} h => by
  obtain ⟨e, he, hk⟩ := List.any_eq_true.1 h
  exact ⟨e, by simpa using he, by simpa using hk⟩
 -- a tail waits
 have tails : ∀ (i0 : Nat), i0 < n → ∀ listed : Array Bool, HeadInv .any l.toArray n listed → listed.getD i0 true = false → ∀ t, n ≤ t → t < l.length → t ∉ Region.ready .any l.toArray listed := by
  intro i0 hi0 listed inv hun t ht htlt
  simp only [Bool.or_eq_true, Bool.and_eq_true, decide_eq_true_eq] at htails
  rcases htails with he | ⟨⟨h1, h2⟩, h3⟩
  ·simp only [List.size_toArray] at he; omega
  ·exact tail_waits h2 h3 h1 inv _ i0 rfl hi0 hun t ht
 -- the run
 have key : ∀ (h : Nat) (listed : Array Bool) (w : World) (V : Nat → Value), (∀ k c, ex k = some c → V k = c) → unl listed n = h → listed.size = l.length → HeadInv .any l.toArray n listed → (∀ t, n ≤ t → listed.getD t false = false) → B (fun k => listed.getD k false) w →
  (∀ k, k < n → listed.getD k false = true → F k (V k) w) →
  wpAny P .any l.toArray Q (h + (l.length - n)) listed (puts V (fun k => listed.getD k false) (l.take n) 0 a0) w := by
  intro h
  induction h with
  | zero =>
   intro listed w V hV hu hsz inv hta hBw hF
   have hall := unl_zero hu
   have hcan : listed = (List.range n).foldl (fun l i => l.setIfInBounds i true) (Array.replicate l.toArray.size false) := by
    refine Array.ext (by rw [foldl_set_size]; simpa using hsz) fun j h1 h2 => ?_
    have e1 : listed.getD j false = listed[j] := by simp [h1]
    have e2 := foldl_set_get n l.toArray.size j (by rw [foldl_set_size] at h2; exact h2)
    rw [Array.getD_eq_getD_getElem?, Array.getElem?_eq_getElem h2, Option.getD_some] at e2
    rw [e2, ← e1]
    by_cases hjn : j < n
    ·rw [hall j hjn]; simp [hjn]
    ·rw [hta j (by omega)]; simp [hjn]
   rw [puts_all V _ (l.take n) 0 a0 fun i hi => by rw [Nat.zero_add]; exact hall i (by rw [htl] at hi; exact hi)]
   have hdl : (l.drop n).length = l.toArray.size - n := by simp
   have := wpAny_of_seq (P := P) (md := .any) (Q' := Q) (l.drop n) n listed (putsAll V (l.take n) 0 a0) w (fun j => by simp [List.getElem?_drop]) (by rw [hdl, hcan]; exact hseq)
    (tail V w hV (by rwa [show (fun k => listed.getD k false) = (fun k => decide (k < n)) from funext fun k => by
     by_cases hk : k < n
     ·rw [hall k hk]; simp [hk]
     ·rw [hta k (by omega)]; simp [hk]] at hBw) (factsTo_of fun k hk => hF k hk (hall k hk)))
   rw [Nat.zero_add]
   simpa using this
  | succ h ih =>
   intro listed w V hV hu hsz inv hta hBw hF
   rw [show h + 1 + (l.length - n) = (h + (l.length - n)) + 1 by omega]
   obtain ⟨i0, hi0, hi1, hi2⟩ := unl_pos (listed := listed) (n := n) (by omega)
   refine ⟨fun h0 => ?_, fun i hi => ?_⟩
   ·
    obtain ⟨o, ho⟩ : ∃ o, l[i0]? = some o := ⟨l[i0]'(by omega), List.getElem?_eq_getElem _⟩
    have : i0 ∈ Region.ready .any l.toArray listed := mem_ready.2 ⟨getD_in (by omega) hi1, o, by rw [hopl]; exact ho, fun e he hb => hi2 _ ((head i0 o hi0 ho).1 e he hb)⟩
    rw [h0] at this; cases this
   ·obtain ⟨hun, o, ho, hall⟩ := mem_ready.1 hi
    rw [hopl] at ho
    have hlt : i < l.length := by rcases Nat.lt_or_ge i l.length with h | h; exact h; rw [List.getElem?_eq_none h] at ho; cases ho
    have hin : i < n := by
     rcases Nat.lt_or_ge i n with h | h
     ·exact h
     ·exact absurd hi (tails i0 hi0 listed inv (getD_in (by omega) hi1) i h hlt)
    obtain ⟨hed, hgd, hlk⟩ := head i o hin ho
    have hdeps : ∀ e ∈ o.after, Region.binds .any e = true → listed.getD e.on false = true := fun e he hb => hall e he hb
    have hfalse : listed.getD i false = false := getD_both hun
    -- the frame as the text has it looks the same to this operation
    have same : ∀ t, (o.looksAt l.toArray).contains t = true → (puts V (fun k => listed.getD k false) (l.take n) 0 a0).tmps[t]? = (putsAll V (l.take i) 0 a0).tmps[t]? := by
     intro t ht
     have e1 : putsAll V (l.take i) 0 a0 = puts V (fun k => decide (k < i)) (l.take n) 0 a0 := by
      have : l.take n = l.take i ++ (l.take n).drop i := by
       conv => lhs; rw [← List.take_append_drop i (l.take n)]
       rw [List.take_take, Nat.min_eq_left (by omega)]
      rw [this]
      have app : ∀ (l1 l2 : List Oper) (k : Nat) (a : Act) (m : Nat → Bool), puts V m (l1 ++ l2) k a = puts V m l2 (k + l1.length) (puts V m l1 k a) := by
       intro l1
       induction l1 with
       | nil => intro l2 k a m; rfl
       | cons x l1 ih => intro l2 k a m; simp only [List.cons_append, puts, List.length_cons]; rw [ih]; congr 1; omega
      rw [app, puts_none, puts_all]
      ·intro j hj; simp at hj ⊢; omega
      ·intro j hj; simp at hj ⊢; omega
     rw [e1]
     refine puts_tmp V _ _ t (l.take n) 0 a0 a0 rfl rfl fun k ok hk hd => ?_
     have hkn : k < n := by rcases Nat.lt_or_ge k n with h | h; exact h; rw [List.getElem?_eq_none (by rw [htl]; exact h)] at hk; cases hk
     rw [htk k hkn] at hk
     rcases (hlk k t hkn (by rw [hk]; exact hd)).1 ht with ⟨h1, h2⟩ | ⟨h1, h2⟩
     ·obtain ⟨e, he, hek, hb⟩ := waits h2
      have := hdeps e he hb
      rw [hek] at this
      simp only [Nat.zero_add]
      rw [this]; simp [h1]
     ·have hkf : listed.getD k false = false := by
       cases hbk : listed.getD k false with
       | false => rfl
       | true =>
        have hk' : l.toArray[k]? = some ok := by rw [hopl]; exact hk
        unfold waitsK at h2
        rw [hk'] at h2
        obtain ⟨e, he, hek, hb⟩ := waits h2
        have := inv.closed k ok hk' hbk e he hb
        rw [hek, hfalse] at this; cases this
      simp only [Nat.zero_add]
      rw [hkf]; simp; omega
    have hexec : execOp (puts V (fun k => listed.getD k false) (l.take n) 0 a0).eval o = execOp (putsAll V (l.take i) 0 a0).eval o :=
     execOp_congr o (fun cs b => Region.noSelect_spec hsel i o cs b (by rw [hopl]; exact ho)) fun x hx => by
      cases x with
      | tmp t =>
       have := same t (looks_of hx)
       show Array.getD _ t undef = Array.getD _ t undef
       rw [Array.getD_eq_getD_getElem?, Array.getD_eq_getD_getElem?, this]
      | _ => rfl
    have hwant : Region.wanted o (yielded l.toArray (puts V (fun k => listed.getD k false) (l.take n) 0 a0).tmps) = Region.wanted o (yielded l.toArray (putsAll V (l.take i) 0 a0).tmps) := by
     unfold Region.wanted
     cases hg : o.guard with
     | none => rfl
     | some gb =>
      obtain ⟨g, b⟩ := gb
      simp only []
      congr 1
      unfold yielded
      cases hd : (l.toArray[g]?).bind (·.dst) with
      | none => rfl
      | some t => simp only [Option.bind_some]; rw [same t (looks_guard hg hd)]
    have hst := steps_at (steps V hV) (i := i) (o := o) (by rw [htk i hin]; exact ho) (fun k => listed.getD k false) w (by simpa using hfalse) (factsOn_of fun e he hb => hdeps e (by simpa using he) hb) hBw (factsAt_of fun e he hb => by
     have he' : e ∈ o.after := by simpa using he
     have h1 := hed e he' hb
     exact hF _ (by omega) (hdeps e he' hb))
    rw [List.take_take, Nat.min_eq_left (Nat.le_of_lt hin)] at hst
    rw [← hwant, ← hexec] at hst
    simp only [Nat.zero_add] at hst
    -- and behind it
    have hnext : ∀ v w', (F i v w' ∧ B (fun j => j == i || listed.getD j false) w' ∧ ∀ j u, j ≠ i → listed.getD j false = true → F j u w → F j u w') →
     wpAny P .any l.toArray Q (h + (l.length - n)) (listed.setIfInBounds i true) ((puts V (fun k => listed.getD k false) (l.take n) 0 a0).put o.dst v) w' := by
     intro v w' ⟨h1, h2, h3⟩
     have hput := puts_set V (fun k => listed.getD k false) v (l.take n) 0 a0 i o (by rw [htk i hin]; exact ho) (by simpa using hfalse) (fun j o' ho' hj t ht hd => by
      have hjn : j < n := by rcases Nat.lt_or_ge j n with h | h; exact h; rw [List.getElem?_eq_none (by rw [htl]; exact h)] at ho'; cases ho'
      rw [htk j hjn] at ho'
      rcases (hlk j t hjn (by rw [ho']; exact hd)).2 with h | h
      ·exact hj h
      ·exact h ht)
     rw [hput]
     simp only [Nat.zero_add]
     have hcongr : puts (fun j => if j = i then v else V j) (fun j => if j = i then true else listed.getD j false) (l.take n) 0 a0 =
      puts (fun j => if j = i then v else V j) (fun k => (listed.setIfInBounds i true).getD k false) (l.take n) 0 a0 := by
      refine puts_congr _ _ _ _ _ _ _ fun j _ => ⟨?_, fun _ => rfl⟩
      simp only [Nat.zero_add]
      by_cases hji : j = i
      ·subst hji
       rw [if_pos rfl]
       simp [show j < listed.size by omega]
      ·rw [if_neg hji, getD_set_ne false (Ne.symm hji)]
     rw [hcongr]
     refine ih (listed.setIfInBounds i true) w' _ (fun k c hc => by
      by_cases hki : k = i
      ·subst hki; rw [if_pos rfl]; exact hex k v w' h1 c hc
      ·rw [if_neg hki]; exact hV k c hc) (by have := unl_set (by omega) hfalse n hin; omega) (by simpa using hsz) (inv.set hi hin)
      (fun t ht => by rw [getD_set_ne false (by omega)]; exact hta t ht) (by
       rwa [show (fun k => (listed.setIfInBounds i true).getD k false) = (fun j => j == i || listed.getD j false) from funext fun k => by
        by_cases hki : k = i
        ·subst hki; simp [show k < listed.size by omega]
        ·rw [getD_set_ne false (Ne.symm hki)]; simp [hki]]) fun k hk hl => ?_
     by_cases hki : k = i
     ·subst hki; simpa using h1
     ·rw [getD_set_ne false (Ne.symm hki)] at hl
      simp only [if_neg hki]
      exact h3 k _ hki hl (hF k hk hl)
    unfold wpOp
    rw [hopl, ho]
    simp only []
    split
    ·rename_i hw
     rw [if_pos hw] at hst
     exact .inl (Oper.wp_of_rel hnext hst)
    ·rename_i hw
     rw [if_neg hw] at hst
     exact hnext undef w ⟨hst.1, hst.2, fun _ _ _ _ h => h⟩
 have hu : unl (Array.replicate l.toArray.size false) n = n := by
  have : ∀ k, unl (Array.replicate l.toArray.size false) k = k := by
   intro k
   induction k with
   | zero => rfl
   | succ k ih => simp only [unl]; rw [ih, getD_replicate_false]; simp
  exact this n
 have H := key n (Array.replicate l.toArray.size false) { w0 with drawn := w0.drawn + 1 } (fun k => (ex k).getD undef) (fun k c hc => by simp [hc]) hu (by simp)
  ⟨by simp, fun j oj _ hl => (by rw [getD_replicate_false] at hl; cases hl), fun t _ ht => getD_in (by simpa using ht) (getD_replicate_false _ _)⟩ (fun t _ => getD_replicate_false _ _) (by simpa only [getD_replicate_false] using hb)
  (fun k _ hl => by rw [getD_replicate_false] at hl; cases hl)
 rw [puts_none _ _ _ _ _ (fun i _ => getD_replicate_false _ _)] at H
 rw [show n + (l.length - n) = l.toArray.size by simp; omega] at H
 exact H
end
end Go.Proofs.Ytjhcfpdgldpicaa
