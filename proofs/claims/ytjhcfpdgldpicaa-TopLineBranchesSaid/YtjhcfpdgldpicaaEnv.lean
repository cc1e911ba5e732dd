/- Lemmas for the statement. -/
import Derived.Test.YtjhcfpdgldpicaaBox
namespace Go.Proofs.Ytjhcfpdgldpicaa
open Go Go.RowKit
def evE (e : Nat → Value) : Operand → Value
 | .tmp t => e t
 | .const v => v
 | .global g => .pointer (some ⟨g, 0, none⟩)
 | .func f => .func (.func f) #[] #[]
def upE (e : Nat → Value) (dst : Option Tmp) (v : Value) : Nat → Value :=
 match dst with
 | some d => fun t => if t = d then v else e t
 | none => e
theorem upE_some (e : Nat → Value) (d : Tmp) (v : Value) (t : Nat) : upE e (some d) v t = if t = d then v else e t := rfl
theorem upE_none (e : Nat → Value) (v : Value) (t : Nat) : upE e none v t = e t := rfl
theorem evE_tmp (e : Nat → Value) (t : Nat) : evE e (.tmp t) = e t := rfl
theorem evE_const (e : Nat → Value) (v : Value) : evE e (.const v) = v := rfl
theorem evE_global (e : Nat → Value) (g : Nat) : evE e (.global g) = .pointer (some ⟨g, 0, none⟩) := rfl
theorem evE_func (e : Nat → Value) (f : FuncId) : evE e (.func f) = .func (.func f) #[] #[] := rfl
attribute [go_sem] evE_tmp evE_const evE_global evE_func upE_some upE_none
theorem eval_evE {a : Act} {e : Nat → Value} (h : ∀ t, e t = a.tmps.getD t undef) : a.eval = evE e := by
 funext x
 cases x with
 | tmp t => exact (h t).symm
 | const v => rfl
 | global g => rfl
 | func f => rfl
def guardV (V : Nat → Value) (o : Oper) : Bool :=
 match o.guard with
 | none => true
 | some (j, b) => match V j with
  | .bool x => x == b
  | _ => false
def StepsE (P : Program) (w0 : World) (F : Nat → Value → World → Prop) (V : Nat → Value) : List Oper → Nat → (Nat → Value) → Prop
 | [], _, _ => True
 | o :: l, k, e => (∀ w, Ext w0 w → FactsAt F V w o.after.toList → if guardV V o = true then RelUpon P (Post (F k) w) ((execOp (evE e) o).run P w) else F k undef w) ∧ StepsE P w0 F V l (k + 1) (upE e o.dst (V k))
def envB (ops : List Oper) : List Oper → Nat → Nat → Bool
 | [], _, _ => true
 | o :: l, k, sz => (match o.dst with | some d => decide (d < sz) && (ops.take k).all (fun p => p.dst != some d) | none => true) &&
  (match o.guard with | none => true | some (j, _) => decide (j < k) && ((ops[j]?).bind (·.dst)).isSome) && envB ops l (k + 1) sz
theorem stepsG_of_env {P : Program} {ops : List Oper} {w0 : World} {F : Nat → Value → World → Prop} {V : Nat → Value} : ∀ {l r : List Oper} {k : Nat} {a : Act} {e : Nat → Value} {sz : Nat}, envB ops l k sz = true → a.tmps.size = sz →
 (∀ t, e t = a.tmps.getD t undef) → ops.drop k = l ++ r → (∀ (j d : Nat), j < k → ((ops[j]?).bind (·.dst)) = some d → d < sz ∧ a.tmps.getD d undef = V j) → StepsE P w0 F V l k e → StepsG P ops.toArray w0 F V l k a
 | [], _, _, _, _, _, _, _, _, _, _, _ => trivial
 | o :: l, r, k, a, e, sz, hB, hs, he, hd, hj, h => by
  simp only [envB, Bool.and_eq_true] at hB
  obtain ⟨⟨h1, h2⟩, h3⟩ := hB
  have hk : k < ops.length := by
   rcases Nat.lt_or_ge k ops.length with hk | hk
   ·exact hk
   ·rw [List.drop_eq_nil_of_le hk] at hd; cases hd
  have hok : ops[k]? = some o := by
   rw [List.drop_eq_getElem_cons hk] at hd
   rw [List.getElem?_eq_getElem hk, (List.cons.inj hd).1]
  refine ⟨fun w hx hf => ?_, ?_⟩
  ·have hw := h.1 w hx hf
   have hg : Region.wanted o (yielded ops.toArray a.tmps) = guardV V o := by
    unfold Region.wanted guardV
    cases hgd : o.guard with
    | none => rfl
    | some g =>
     obtain ⟨j, b⟩ := g
     rw [hgd] at h2
     simp only [Bool.and_eq_true, decide_eq_true_eq] at h2
     obtain ⟨hjk, hsm⟩ := h2
     obtain ⟨d, hd'⟩ := Option.isSome_iff_exists.1 hsm
     obtain ⟨hlt, hv⟩ := hj j d hjk hd'
     have hy : yielded ops.toArray a.tmps j = match V j with | .bool b => some b | _ => none := by
      unfold yielded
      have e1 : ops.toArray[j]? = ops[j]? := by simp
      rw [e1, hd']
      simp only [Option.bind_some]
      have e2 : a.tmps[d]? = some (V j) := by
       rw [← hv, Array.getD_eq_getD_getElem?, Array.getElem?_eq_getElem (by omega)]; rfl
      rw [e2]
      cases V j <;> rfl
     simp only [hy]
     cases V j <;> simp
   rw [← eval_evE he, ← hg] at hw
   exact hw
  ·refine stepsG_of_env h3 ?_ ?_ (by rw [← List.drop_drop, hd]; rfl) ?_ h.2
   ·cases ho : o.dst <;> simp [Act.put, ho, hs]
   ·intro t
    cases ho : o.dst with
    | none => simpa [upE, Act.put] using he t
    | some d =>
     rw [ho] at h1
     simp only [Bool.and_eq_true, decide_eq_true_eq] at h1
     by_cases ht : t = d
     ·subst ht
      simp [upE, Act.put, Array.getD_eq_getD_getElem?, hs, h1.1]
     ·simp only [upE, Act.put, if_neg ht]
      rw [he t, Array.getD_eq_getD_getElem?, Array.getD_eq_getD_getElem?, Array.getElem?_setIfInBounds_ne (fun h => ht h.symm)]
   ·intro j d hjk hd'
    by_cases hjj : j = k
    ·subst hjj
     rw [hok] at hd'
     simp only [Option.bind_some] at hd'
     rw [hd'] at h1
     simp only [Bool.and_eq_true, decide_eq_true_eq] at h1
     refine ⟨h1.1, ?_⟩
     simp [hd', Act.put, Array.getD_eq_getD_getElem?, hs, h1.1]
    ·obtain ⟨hlt, hv⟩ := hj j d (by omega) hd'
     refine ⟨hlt, ?_⟩
     cases ho : o.dst with
     | none => simpa [Act.put] using hv
     | some d2 =>
      rw [ho] at h1
      simp only [Bool.and_eq_true, decide_eq_true_eq, List.all_eq_true] at h1
      have hjlt : j < ops.length := by omega
      have hmem : ops[j] ∈ ops.take k := List.mem_take_iff_getElem.2 ⟨j, by omega, rfl⟩
      have hne := h1.2 _ hmem
      have hd2 : ops[j].dst = some d := by rw [List.getElem?_eq_getElem hjlt] at hd'; simpa using hd'
      have hdd : d2 ≠ d := by
       intro e'
       rw [hd2, e'] at hne
       simp at hne
      simp only [Act.put]
      rw [Array.getD_eq_getD_getElem?, Array.getElem?_setIfInBounds_ne hdd, ← Array.getD_eq_getD_getElem?]
      exact hv
def putsD (V : Nat → Value) : List (Option Tmp) → Nat → Act → Act
 | [], _, a => a
 | d :: l, k, a => putsD V l (k + 1) (a.put d (V k))
theorem putsAll_D (V : Nat → Value) : ∀ (l : List Oper) (k : Nat) (a : Act), putsAll V l k a = putsD V (l.map (·.dst)) k a
 | [], _, _ => rfl
 | o :: l, k, a => putsAll_D V l (k + 1) _
end Go.Proofs.Ytjhcfpdgldpicaa
