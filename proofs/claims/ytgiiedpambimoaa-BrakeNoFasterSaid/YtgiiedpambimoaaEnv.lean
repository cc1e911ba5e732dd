/- A region that draws its order, with guards, its values told by a function on slots: for great frames. No conditions on a program. -/
import Derived.Test.YtgiiedpambimoaaBox
namespace Go.Proofs.Ytgiiedpambimoaa
open Go Go.RowKit

def evE (e : Nat → Value) : Operand → Value
  | .tmp t => e t
  | .const v => v
  | .global g => .pointer (some ⟨g, 0, none⟩)
  | .func f => .func (.func f) #[] #[]
def upE (e : Nat → Value) (dst : Option Tmp) (v : Value) : Nat → Value :=
  match dst with
  | some d => fun t => if t = d then v else e t
  | none => e
theorem upE_some (e : Nat → Value) (d : Tmp) (v : Value) (t : Nat) : upE e (some d) v t = if t = d then v else e t := rfl
theorem upE_none (e : Nat → Value) (v : Value) (t : Nat) : upE e none v t = e t := rfl
theorem evE_tmp (e : Nat → Value) (t : Nat) : evE e (.tmp t) = e t := rfl
theorem evE_const (e : Nat → Value) (v : Value) : evE e (.const v) = v := rfl
theorem evE_global (e : Nat → Value) (g : Nat) : evE e (.global g) = .pointer (some ⟨g, 0, none⟩) := rfl
theorem evE_func (e : Nat → Value) (f : FuncId) : evE e (.func f) = .func (.func f) #[] #[] := rfl
attribute [go_sem] evE_tmp evE_const evE_global evE_func upE_some upE_none
theorem eval_evE {a : Act} {e : Nat → Value} (h : ∀ t, e t = a.tmps.getD t undef) : a.eval = evE e := by
  funext x
  cases x with
  | tmp t => exact (h t).symm
  | const v => rfl
  | global g => rfl
  | func f => rfl
def guardV (V : Nat → Value) (o : Oper) : Bool :=
  match o.guard with
  | none => true
  | some (j, b) => match V j with
    | .bool x => x == b
    | _ => false
/-- 'StepsG', the values by slot. -/
def StepsE (P : Program) (w0 : World) (F : Nat → Value → World → Prop) (V : Nat → Value) : List Oper → Nat → (Nat → Value) → Prop
  | [], _, _ => True
  | o :: l, k, e => (∀ w, Ext w0 w → FactsAt F V w o.after.toList → if guardV V o = true then RelUpon P (Post (F k) w) ((execOp (evE e) o).run P w) else F k undef w) ∧ StepsE P w0 F V l (k + 1) (upE e o.dst (V k))

/-- All slots in bounds, no two alike; a guard names an earlier operation that has a slot. -/
def envB (ops : List Oper) : List Oper → Nat → Nat → Bool
  | [], _, _ => true
  | o :: l, k, sz => (match o.dst with | some d => decide (d < sz) && (ops.take k).all (fun p => p.dst != some d) | none => true) &&
      (match o.guard with | none => true | some (j, _) => decide (j < k) && ((ops[j]?).bind (·.dst)).isSome) && envB ops l (k + 1) sz

theorem stepsG_of_env {P : Program} {ops : List Oper} {w0 : World} {F : Nat → Value → World → Prop} {V : Nat → Value} : ∀ {l r : List Oper} {k : Nat} {a : Act} {e : Nat → Value} {sz : Nat}, envB ops l k sz = true → a.tmps.size = sz →
    (∀ t, e t = a.tmps.getD t undef) → ops.drop k = l ++ r → (∀ (j d : Nat), j < k → ((ops[j]?).bind (·.dst)) = some d → d < sz ∧ a.tmps.getD d undef = V j) → StepsE P w0 F V l k e → StepsG P ops.toArray w0 F V l k a
  | [], _, _, _, _, _, _, _, _, _, _, _ => trivial
  | o :: l, r, k, a, e, sz, hB, hs, he, hd, hj, h => by
    simp only [envB, Bool.and_eq_true] at hB
    obtain ⟨⟨h1, h2⟩, h3⟩ := hB
    have hk : k < ops.length := by
      rcases Nat.lt_or_ge k ops.length with hk | hk
      · exact hk
      · rw [List.drop_eq_nil_of_le hk] at hd; cases hd
    have hok : ops[k]? = some o := by
      rw [List.drop_eq_getElem_cons hk] at hd
      rw [List.getElem?_eq_getElem hk, (List.cons.inj hd).1]
    refine ⟨fun w hx hf => ?_, ?_⟩
    · have hw := h.1 w hx hf
      have hg : Region.wanted o (yielded ops.toArray a.tmps) = guardV V o := by
        unfold Region.wanted guardV
        cases hgd : o.guard with
        | none => rfl
        | some g =>
          obtain ⟨j, b⟩ := g
          rw [hgd] at h2
          simp only [Bool.and_eq_true, decide_eq_true_eq] at h2
          obtain ⟨hjk, hsm⟩ := h2
          obtain ⟨d, hd'⟩ := Option.isSome_iff_exists.1 hsm
          obtain ⟨hlt, hv⟩ := hj j d hjk hd'
          have hy : yielded ops.toArray a.tmps j = match V j with | .bool b => some b | _ => none := by
            unfold yielded
            have e1 : ops.toArray[j]? = ops[j]? := by simp
            rw [e1, hd']
            simp only [Option.bind_some]
            have e2 : a.tmps[d]? = some (V j) := by
              rw [← hv, Array.getD_eq_getD_getElem?, Array.getElem?_eq_getElem (by omega)]; rfl
            rw [e2]
            cases V j <;> rfl
          simp only [hy]
          cases V j <;> simp
      rw [← eval_evE he, ← hg] at hw
      exact hw
    · refine stepsG_of_env h3 ?_ ?_ (by rw [← List.drop_drop, hd]; rfl) ?_ h.2
      · cases ho : o.dst <;> simp [Act.put, ho, hs]
      · intro t
        cases ho : o.dst with
        | none => simpa [upE, Act.put] using he t
        | some d =>
          rw [ho] at h1
          simp only [Bool.and_eq_true, decide_eq_true_eq] at h1
          by_cases ht : t = d
          · subst ht
            simp [upE, Act.put, Array.getD_eq_getD_getElem?, hs, h1.1]
          · simp only [upE, Act.put, if_neg ht]
            rw [he t, Array.getD_eq_getD_getElem?, Array.getD_eq_getD_getElem?, Array.getElem?_setIfInBounds_ne (fun h => ht h.symm)]
      · intro j d hjk hd'
        by_cases hjj : j = k
        · subst hjj
          rw [hok] at hd'
          simp only [Option.bind_some] at hd'
          rw [hd'] at h1
          simp only [Bool.and_eq_true, decide_eq_true_eq] at h1
          refine ⟨h1.1, ?_⟩
          simp [hd', Act.put, Array.getD_eq_getD_getElem?, hs, h1.1]
        · obtain ⟨hlt, hv⟩ := hj j d (by omega) hd'
          refine ⟨hlt, ?_⟩
          cases ho : o.dst with
          | none => simpa [Act.put] using hv
          | some d2 =>
            rw [ho] at h1
            simp only [Bool.and_eq_true, decide_eq_true_eq, List.all_eq_true] at h1
            have hjlt : j < ops.length := by omega
            have hmem : ops[j] ∈ ops.take k := List.mem_take_iff_getElem.2 ⟨j, by omega, rfl⟩
            have hne := h1.2 _ hmem
            have hd2 : ops[j].dst = some d := by rw [List.getElem?_eq_getElem hjlt] at hd'; simpa using hd'
            have hdd : d2 ≠ d := by
              intro e'
              rw [hd2, e'] at hne
              simp at hne
            simp only [Act.put]
            rw [Array.getD_eq_getD_getElem?, Array.getElem?_setIfInBounds_ne hdd, ← Array.getD_eq_getD_getElem?]
            exact hv

/-- The values put, by their slots. -/
def putsD (V : Nat → Value) : List (Option Tmp) → Nat → Act → Act
  | [], _, a => a
  | d :: l, k, a => putsD V l (k + 1) (a.put d (V k))
theorem putsAll_D (V : Nat → Value) : ∀ (l : List Oper) (k : Nat) (a : Act), putsAll V l k a = putsD V (l.map (·.dst)) k a
  | [], _, _ => rfl
  | o :: l, k, a => putsAll_D V l (k + 1) _

/-- **A region that draws its order, values by slots.** -/
theorem wp_region_env {P : Program} {id : Nat} {Q : Exit → Act → World → Prop} {a0 : Act} {w0 : World} {l : List Oper} (n : Nat) (Fl : List SF) (ds : List (Option Tmp))
    (hm : P.follows .mixedOrders = true) (hB : relB l.toArray n = true) (hE : envB l (l.take n) 0 a0.tmps.size = true) (hds : (l.take n).map (·.dst) = ds)
    (steps : ∀ V e0, (∀ t, e0 t = a0.tmps.getD t undef) → StepsE P w0 (Fs Fl) (val Fl V) (l.take n) 0 e0)
    (tail : ∀ V w, Ext w0 w → FactsTo (Fs Fl) (val Fl V) w n → wpList P l.toArray Q (l.drop n) (putsD (val Fl V) ds 0 a0) w) : (Code.region id l.toArray true).wp P Q a0 w0 :=
  wp_region_guard n Fl hm hB
    (fun V => stepsG_of_env (ops := l) (r := l.drop n) hE rfl (fun _ => rfl) (by simp) (fun _ _ h => absurd h (Nat.not_lt_zero _)) (steps V (fun t => a0.tmps.getD t undef) (fun _ => rfl)))
    (fun V w hx hf => by rw [putsAll_D, hds]; exact tail V w hx hf)

/-- In the order of the text: the operations of a list by their facts. -/
theorem wpList_seq {P : Program} {ops : Array Oper} {Q : Exit → Act → World → Prop} {w0 : World} (Fl : List SF) : ∀ (l r : List Oper) (k : Nat) (V : Nat → Value) (a : Act) (w : World), Ext w0 w → (∀ j, j < k → Fs Fl j (V j) w) →
    (∀ j c, j < k → (Fl.getD j SF.any).ex = some c → V j = c) → (∀ i o, l[i]? = some o → edgesB o (k + i) = true) →
    (∀ V', (∀ j, j < k → V' j = V j) → (∀ j c, (Fl.getD j SF.any).ex = some c → V' j = c) → StepsG P ops w0 (Fs Fl) V' l k a) →
    (∀ V' w', (∀ j, j < k → V' j = V j) → (∀ j c, (Fl.getD j SF.any).ex = some c → V' j = c) → Ext w0 w' → FactsTo (Fs Fl) V' w' (k + l.length) → wpList P ops Q r (putsAll V' l k a) w') →
    wpList P ops Q (l ++ r) a w
  | [], r, k, V, a, w, hx, hf, hc, _, _, ht => by
    refine ht (fun j => if j < k then V j else ((Fl.getD j SF.any).ex).getD undef) w (fun j hj => if_pos hj) (fun j c hj => ?_) hx (factsTo_of fun j hj => ?_)
    · by_cases h : j < k
      · simp only [if_pos h]; exact hc j c h hj
      · simp only [if_neg h, hj]; rfl
    · simp only [List.length_nil, Nat.add_zero] at hj
      simp only [if_pos hj]; exact hf j hj
  | o :: l, r, k, V, a, w, hx, hf, hc, he, hs, ht => by
    have hV0 : ∀ j c, (Fl.getD j SF.any).ex = some c → (fun j => if j < k then V j else ((Fl.getD j SF.any).ex).getD undef) j = c := fun j c hj => by
      by_cases h : j < k
      · simp only [if_pos h]; exact hc j c h hj
      · simp only [if_neg h, hj]; rfl
    have h0 := (hs (fun j => if j < k then V j else ((Fl.getD j SF.any).ex).getD undef) (fun j hj => if_pos hj) hV0).1 w hx
      (factsAt_of fun e hem hb => by
        have h1 := he 0 o rfl
        simp only [edgesB, List.all_eq_true, Bool.or_eq_true, Bool.not_eq_true', decide_eq_true_eq] at h1
        have h2 := (h1 e (by simpa using hem)).resolve_left (by simp [hb])
        rw [Nat.add_zero] at h2
        simp only [if_pos h2]
        exact hf _ h2)
    have next : ∀ v w', Ext w w' → Fs Fl k v w' → wpList P ops Q (l ++ r) (a.put o.dst v) w' := fun v w' hxx hv => by
      have agree : ∀ {V' : Nat → Value}, (∀ j, j < k + 1 → V' j = if j = k then v else V j) → (∀ j, j < k → V' j = V j) ∧ V' k = v := fun h =>
        ⟨fun j hj => by rw [h j (by omega), if_neg (by omega)], by rw [h k (by omega), if_pos rfl]⟩
      refine wpList_seq Fl l r (k + 1) (fun j => if j = k then v else V j) (a.put o.dst v) w' (hx.trans hxx) (fun j hj => ?_) (fun j c hj hjc => ?_) (fun i o' hi => ?_) (fun V' h1 h2 => ?_) (fun V' w2 h1 h2 h3 h4 => ?_)
      · by_cases e : j = k
        · subst e; simpa using hv
        · simp only [if_neg e]; exact Fs_st Fl j _ w w' hxx (hf j (by omega))
      · by_cases e : j = k
        · subst e; simp only [if_pos rfl]; exact (Fl.getD j SF.any).law v w' hv c hjc
        · simp only [if_neg e]; exact hc j c (by omega) hjc
      · have := he (i + 1) o' hi
        rwa [show k + 1 + i = k + (i + 1) by omega]
      · obtain ⟨a1, a2⟩ := agree h1
        have h := (hs V' a1 h2).2
        rwa [a2] at h
      · obtain ⟨a1, a2⟩ := agree h1
        have h := ht V' w2 a1 h2 h3 (by rw [List.length_cons, show k + (l.length + 1) = k + 1 + l.length by omega]; exact h4)
        simp only [putsAll, a2] at h
        exact h
    show (if Region.wanted o (yielded ops a.tmps) then o.wp P a w (wpList P ops Q (l ++ r)) Q ∨ (o.asks P a w ∧ LetsOut Q) else wpList P ops Q (l ++ r) (a.put o.dst undef) w)
    by_cases hw : Region.wanted o (yielded ops a.tmps) = true
    · rw [if_pos hw] at h0 ⊢
      exact .inl (Oper.wp_of_rel (fun v w' ⟨h1, h2⟩ => next v w' h2 h1) h0)
    · rw [if_neg hw] at h0 ⊢
      exact next undef w (Ext.refl w) h0

/-- **A region in the order of the text, values by slots.** -/
theorem wp_region_text {P : Program} {id : Nat} {Q : Exit → Act → World → Prop} {a0 : Act} {w0 : World} {l : List Oper} (n : Nat) (Fl : List SF) (ds : List (Option Tmp))
    (hB : ((List.range n).all fun i => match l[i]? with | some o => edgesB o i | none => false) = true) (hE : envB l (l.take n) 0 a0.tmps.size = true) (hds : (l.take n).map (·.dst) = ds)
    (steps : ∀ V e0, (∀ t, e0 t = a0.tmps.getD t undef) → StepsE P w0 (Fs Fl) (val Fl V) (l.take n) 0 e0)
    (tail : ∀ V w, Ext w0 w → FactsTo (Fs Fl) (val Fl V) w n → wpList P l.toArray Q (l.drop n) (putsD (val Fl V) ds 0 a0) w) : (Code.region id l.toArray false).wp P Q a0 w0 := by
  have hn : n ≤ l.length := by
    rcases Nat.eq_zero_or_pos n with h | h
    · omega
    · have := List.all_eq_true.1 hB (n - 1) (by simp; omega)
      rcases Nat.lt_or_ge (n - 1) l.length with h1 | h1
      · omega
      · rw [List.getElem?_eq_none h1] at this; cases this
  have h := wpList_seq (P := P) (ops := l.toArray) (Q := Q) (w0 := w0) Fl (l.take n) (l.drop n) 0 (fun _ => undef) a0 w0 (Ext.refl w0) (fun _ h => absurd h (Nat.not_lt_zero _)) (fun _ _ h => absurd h (Nat.not_lt_zero _))
    (fun i o hi => by
      have hin : i < n := by
        have := (List.getElem?_eq_some_iff.1 hi).1
        simp at this; omega
      have := List.all_eq_true.1 hB i (by simpa using hin)
      rw [List.getElem?_take_of_lt hin] at hi
      rw [hi] at this
      rwa [Nat.zero_add])
    (fun V' _ h2 => by
      have := stepsG_of_env (ops := l) (r := l.drop n) hE rfl (fun _ => rfl) (by simp) (fun _ _ h => absurd h (Nat.not_lt_zero _)) (steps V' (fun t => a0.tmps.getD t undef) (fun _ => rfl))
      rwa [val_eq h2] at this)
    (fun V' w' _ h2 hx hf => by
      have := tail V' w' hx
      rw [val_eq h2] at this
      rw [putsAll_D, hds]
      refine this ?_
      have e : 0 + (l.take n).length = n := by simp; omega
      rwa [e] at hf)
  rw [List.take_append_drop] at h
  refine wp_region ?_
  rw [List.range_eq_range', show l.toArray.size = l.length by simp, wpOps_eq_wpList l 0 (by simp)]
  exact h
end Go.Proofs.Ytgiiedpambimoaa
