/- Lemmas for the statement. -/
import Derived.Test.YtjhcfpdgldpicaaGreatDoorA14
namespace Go.Proofs.YtjhcfpdgldpicaaGreatDoor
open Go Go.RowKit Go.Proofs
set_option linter.unusedSimpArgs false
set_option linter.unusedVariables false
section
variable {P : Program} {ops : Array Oper}
theorem anyIn_of_seq {md : Region.Mode} {Q' : Exit → Act → World → Prop} : ∀ (l : List Oper) (k : Nat) (listed : Array Bool) (a : Act) (w : World), (∀ j, l[j]? = ops[k + j]?) →
 Region.seqB md ops l.length k listed = true → wpListIn Fence.wide 8 P ops Q' l a w → wpAnyIn Fence.wide 8 P md ops Q' l.length listed a w
 | [], _, _, _, _, _, hB, h => ⟨by simpa [Region.seqB] using hB, h⟩
 | o :: l, k, listed, a, w, hl, hB, h => by
  have h0 : ops[k]? = some o := by simpa using (hl 0).symm
  simp only [List.length_cons, Region.seqB, Bool.and_eq_true, decide_eq_true_eq] at hB
  refine ⟨fun h1 => (by rw [hB.1] at h1; cases h1), fun i hi => ?_⟩
  rw [hB.1] at hi
  have hik : i = k := by simpa using hi
  subst hik
  have hw : wpOpIn Fence.wide 8 P ops Q' i (wpListIn Fence.wide 8 P ops Q' l) a w := by unfold wpOpIn; simp only [h0]; exact h
  exact wpOpIn_mono (fun a' w' h' => anyIn_of_seq l (i + 1) _ a' w' (fun j => by have := hl (j + 1); simpa [Nat.add_assoc, Nat.add_comm 1 j] using this) hB.2 h') hw
theorem anyIn_rel {Q : Exit → Act → World → Prop} {a0 : Act} {w0 : World} {l : List Oper} (n : Nat) (B : (Nat → Bool) → World → Prop) (F : Nat → Value → World → Prop) (ex : Nat → Option Value)
 (hdf : noDefer l = true) (hB : relB l.toArray n = true) (hb : B (fun _ => false) { w0 with drawn := w0.drawn + 1 }) (hex : ∀ k v w, F k v w → ∀ c, ex k = some c → v = c)
 (steps : ∀ V, (∀ k c, ex k = some c → V k = c) → Steps P l.toArray B F V (l.take n) 0 a0)
 (tail : ∀ V w, (∀ k c, ex k = some c → V k = c) → B (fun k => decide (k < n)) w → FactsTo F V w n → wpListIn Fence.wide 8 P l.toArray Q (l.drop n) (putsAll V (l.take n) 0 a0) w) : wpAnyIn Fence.wide 8 P .any l.toArray Q l.toArray.size (Array.replicate l.toArray.size false) a0 { w0 with drawn := w0.drawn + 1 } := by
 simp only [relB, Bool.and_eq_true, decide_eq_true_eq] at hB
 obtain ⟨⟨⟨⟨hsel, hn⟩, hheads⟩, htails⟩, hseq⟩ := hB
 have hn' : n ≤ l.length := by simpa using hn
 have htl : (l.take n).length = n := by simp; omega
 have hopl : ∀ i : Nat, l.toArray[i]? = l[i]? := fun i => by simp
 have htk : ∀ i : Nat, i < n → (l.take n)[i]? = l[i]? := fun i hi => by simp [hi]
 -- what the Bool says of a head
 have head : ∀ i o, i < n → l[i]? = some o → (∀ e ∈ o.after, Region.binds .any e = true → e.on < i) ∧ (∀ g b, o.guard = some (g, b) → waitsB o g = true) ∧
  ∀ k t, k < n → (l[k]?).bind (·.dst) = some t → ((o.looksAt l.toArray).contains t = true → (k < i ∧ waitsB o k = true) ∨ (i < k ∧ waitsK l.toArray k i = true)) ∧ (k = i ∨ o.dst ≠ some t) := by
  intro i o hi ho
  have h1 := List.all_eq_true.1 hheads i (List.mem_range.2 hi)
  rw [hopl, ho] at h1
  simp only [Bool.and_eq_true] at h1
  obtain ⟨⟨h1, h2⟩, h3⟩ := h1
  refine ⟨fun e he hb => ?_, fun g b hg => ?_, fun k t hk ht => ?_⟩
  ·have := List.all_eq_true.1 h1 e (by simpa using he)
   simpa [hb] using this
  ·rw [hg] at h2; exact h2
  ·have := List.all_eq_true.1 h3 k (List.mem_range.2 hk)
   rw [hopl, ht] at this
   simp only [Bool.and_eq_true, Bool.or_eq_true, Bool.not_eq_true', decide_eq_true_eq, beq_iff_eq, bne_iff_ne, ne_eq] at this
   exact ⟨fun hc => by
    rcases this.1 with (h | h) | h
    ·exact absurd h (by rw [hc]; simp)
    ·exact .inl h
    ·exact .inr h, this.2⟩
 have waits : ∀ {o : Oper} {k : Nat}, waitsB o k = true → ∃ e ∈ o.after, e.on = k ∧ Region.binds .any e = true := fun {o k} h => by
  obtain ⟨e, he, hk⟩ := List.any_eq_true.1 h
  exact ⟨e, by simpa using he, by simpa using hk⟩
 -- a tail waits
 have tails : ∀ (i0 : Nat), i0 < n → ∀ listed : Array Bool, HeadInv .any l.toArray n listed → listed.getD i0 true = false → ∀ t, n ≤ t → t < l.length → t ∉ Region.ready .any l.toArray listed := by
  intro i0 hi0 listed inv hun t ht htlt
  simp only [Bool.or_eq_true, Bool.and_eq_true, decide_eq_true_eq] at htails
  rcases htails with he | ⟨⟨h1, h2⟩, h3⟩
  ·simp only [List.size_toArray] at he; omega
  ·exact tail_waits h2 h3 h1 inv _ i0 rfl hi0 hun t ht
 -- the run
 have key : ∀ (h : Nat) (listed : Array Bool) (w : World) (V : Nat → Value), (∀ k c, ex k = some c → V k = c) → unl listed n = h → listed.size = l.length → HeadInv .any l.toArray n listed → (∀ t, n ≤ t → listed.getD t false = false) → B (fun k => listed.getD k false) w →
  (∀ k, k < n → listed.getD k false = true → F k (V k) w) →
  wpAnyIn Fence.wide 8 P .any l.toArray Q (h + (l.length - n)) listed (puts V (fun k => listed.getD k false) (l.take n) 0 a0) w := by
  intro h
  induction h with
  | zero =>
   intro listed w V hV hu hsz inv hta hBw hF
   have hall := unl_zero hu
   have hcan : listed = (List.range n).foldl (fun l i => l.setIfInBounds i true) (Array.replicate l.toArray.size false) := by
    refine Array.ext (by rw [foldl_set_size]; simpa using hsz) fun j h1 h2 => ?_
    have e1 : listed.getD j false = listed[j] := by simp [h1]
    have e2 := foldl_set_get n l.toArray.size j (by rw [foldl_set_size] at h2; exact h2)
    rw [Array.getD_eq_getD_getElem?, Array.getElem?_eq_getElem h2, Option.getD_some] at e2
    rw [e2, ← e1]
    by_cases hjn : j < n
    ·rw [hall j hjn]; simp [hjn]
    ·rw [hta j (by omega)]; simp [hjn]
   rw [puts_all V _ (l.take n) 0 a0 fun i hi => by rw [Nat.zero_add]; exact hall i (by rw [htl] at hi; exact hi)]
   have hdl : (l.drop n).length = l.toArray.size - n := by simp
   have := anyIn_of_seq (P := P) (md := .any) (Q' := Q) (l.drop n) n listed (putsAll V (l.take n) 0 a0) w (fun j => by simp [List.getElem?_drop]) (by rw [hdl, hcan]; exact hseq)
    (tail V w hV (by rwa [show (fun k => listed.getD k false) = (fun k => decide (k < n)) from funext fun k => by
     by_cases hk : k < n
     ·rw [hall k hk]; simp [hk]
     ·rw [hta k (by omega)]; simp [hk]] at hBw) (factsTo_of fun k hk => hF k hk (hall k hk)))
   rw [Nat.zero_add]
   simpa using this
  | succ h ih =>
   intro listed w V hV hu hsz inv hta hBw hF
   rw [show h + 1 + (l.length - n) = (h + (l.length - n)) + 1 by omega]
   obtain ⟨i0, hi0, hi1, hi2⟩ := unl_pos (listed := listed) (n := n) (by omega)
   refine ⟨fun h0 => ?_, fun i hi => ?_⟩
   ·
    obtain ⟨o, ho⟩ : ∃ o, l[i0]? = some o := ⟨l[i0]'(by omega), List.getElem?_eq_getElem _⟩
    have : i0 ∈ Region.ready .any l.toArray listed := mem_ready.2 ⟨getD_in (by omega) hi1, o, by rw [hopl]; exact ho, fun e he hb => hi2 _ ((head i0 o hi0 ho).1 e he hb)⟩
    rw [h0] at this; cases this
   ·obtain ⟨hun, o, ho, hall⟩ := mem_ready.1 hi
    rw [hopl] at ho
    have hlt : i < l.length := by rcases Nat.lt_or_ge i l.length with h | h; exact h; rw [List.getElem?_eq_none h] at ho; cases ho
    have hin : i < n := by
     rcases Nat.lt_or_ge i n with h | h
     ·exact h
     ·exact absurd hi (tails i0 hi0 listed inv (getD_in (by omega) hi1) i h hlt)
    obtain ⟨hed, hgd, hlk⟩ := head i o hin ho
    have hdeps : ∀ e ∈ o.after, Region.binds .any e = true → listed.getD e.on false = true := fun e he hb => hall e he hb
    have hfalse : listed.getD i false = false := getD_both hun
    -- the frame as the text has it looks the same to this operation
    have same : ∀ t, (o.looksAt l.toArray).contains t = true → (puts V (fun k => listed.getD k false) (l.take n) 0 a0).tmps[t]? = (putsAll V (l.take i) 0 a0).tmps[t]? := by
     intro t ht
     have e1 : putsAll V (l.take i) 0 a0 = puts V (fun k => decide (k < i)) (l.take n) 0 a0 := by
      have : l.take n = l.take i ++ (l.take n).drop i := by
       conv => lhs; rw [← List.take_append_drop i (l.take n)]
       rw [List.take_take, Nat.min_eq_left (by omega)]
      rw [this]
      have app : ∀ (l1 l2 : List Oper) (k : Nat) (a : Act) (m : Nat → Bool), puts V m (l1 ++ l2) k a = puts V m l2 (k + l1.length) (puts V m l1 k a) := by
       intro l1
       induction l1 with
       | nil => intro l2 k a m; rfl
       | cons x l1 ih => intro l2 k a m; simp only [List.cons_append, puts, List.length_cons]; rw [ih]; congr 1; omega
      rw [app, puts_none, puts_all]
      ·intro j hj; simp at hj ⊢; omega
      ·intro j hj; simp at hj ⊢; omega
     rw [e1]
     refine puts_tmp V _ _ t (l.take n) 0 a0 a0 rfl rfl fun k ok hk hd => ?_
     have hkn : k < n := by rcases Nat.lt_or_ge k n with h | h; exact h; rw [List.getElem?_eq_none (by rw [htl]; exact h)] at hk; cases hk
     rw [htk k hkn] at hk
     rcases (hlk k t hkn (by rw [hk]; exact hd)).1 ht with ⟨h1, h2⟩ | ⟨h1, h2⟩
     ·obtain ⟨e, he, hek, hb⟩ := waits h2
      have := hdeps e he hb
      rw [hek] at this
      simp only [Nat.zero_add]
      rw [this]; simp [h1]
     ·have hkf : listed.getD k false = false := by
       cases hbk : listed.getD k false with
       | false => rfl
       | true =>
        have hk' : l.toArray[k]? = some ok := by rw [hopl]; exact hk
        unfold waitsK at h2
        rw [hk'] at h2
        obtain ⟨e, he, hek, hb⟩ := waits h2
        have := inv.closed k ok hk' hbk e he hb
        rw [hek, hfalse] at this; cases this
      simp only [Nat.zero_add]
      rw [hkf]; simp; omega
    have hexec : execOp (puts V (fun k => listed.getD k false) (l.take n) 0 a0).eval o = execOp (putsAll V (l.take i) 0 a0).eval o :=
     execOp_congr o (fun cs b => Region.noSelect_spec hsel i o cs b (by rw [hopl]; exact ho)) fun x hx => by
      cases x with
      | tmp t =>
       have := same t (looks_of hx)
       show Array.getD _ t undef = Array.getD _ t undef
       rw [Array.getD_eq_getD_getElem?, Array.getD_eq_getD_getElem?, this]
      | _ => rfl
    have hwant : Region.wanted o (yielded l.toArray (puts V (fun k => listed.getD k false) (l.take n) 0 a0).tmps) = Region.wanted o (yielded l.toArray (putsAll V (l.take i) 0 a0).tmps) := by
     unfold Region.wanted
     cases hg : o.guard with
     | none => rfl
     | some gb =>
      obtain ⟨g, b⟩ := gb
      simp only []
      congr 1
      unfold yielded
      cases hd : (l.toArray[g]?).bind (·.dst) with
      | none => rfl
      | some t => simp only [Option.bind_some]; rw [same t (looks_guard hg hd)]
    have hst := steps_at (steps V hV) (i := i) (o := o) (by rw [htk i hin]; exact ho) (fun k => listed.getD k false) w (by simpa using hfalse) (factsOn_of fun e he hb => hdeps e (by simpa using he) hb) hBw (factsAt_of fun e he hb => by
     have he' : e ∈ o.after := by simpa using he
     have h1 := hed e he' hb
     exact hF _ (by omega) (hdeps e he' hb))
    rw [List.take_take, Nat.min_eq_left (Nat.le_of_lt hin)] at hst
    rw [← hwant, ← hexec] at hst
    simp only [Nat.zero_add] at hst
    -- and behind it
    have hnext : ∀ v w', (F i v w' ∧ B (fun j => j == i || listed.getD j false) w' ∧ ∀ j u, j ≠ i → listed.getD j false = true → F j u w → F j u w') →
     wpAnyIn Fence.wide 8 P .any l.toArray Q (h + (l.length - n)) (listed.setIfInBounds i true) ((puts V (fun k => listed.getD k false) (l.take n) 0 a0).put o.dst v) w' := by
     intro v w' ⟨h1, h2, h3⟩
     have hput := puts_set V (fun k => listed.getD k false) v (l.take n) 0 a0 i o (by rw [htk i hin]; exact ho) (by simpa using hfalse) (fun j o' ho' hj t ht hd => by
      have hjn : j < n := by rcases Nat.lt_or_ge j n with h | h; exact h; rw [List.getElem?_eq_none (by rw [htl]; exact h)] at ho'; cases ho'
      rw [htk j hjn] at ho'
      rcases (hlk j t hjn (by rw [ho']; exact hd)).2 with h | h
      ·exact hj h
      ·exact h ht)
     rw [hput]
     simp only [Nat.zero_add]
     have hcongr : puts (fun j => if j = i then v else V j) (fun j => if j = i then true else listed.getD j false) (l.take n) 0 a0 =
      puts (fun j => if j = i then v else V j) (fun k => (listed.setIfInBounds i true).getD k false) (l.take n) 0 a0 := by
      refine puts_congr _ _ _ _ _ _ _ fun j _ => ⟨?_, fun _ => rfl⟩
      simp only [Nat.zero_add]
      by_cases hji : j = i
      ·subst hji
       rw [if_pos rfl]
       simp [show j < listed.size by omega]
      ·rw [if_neg hji, getD_set_ne false (Ne.symm hji)]
     rw [hcongr]
     refine ih (listed.setIfInBounds i true) w' _ (fun k c hc => by
      by_cases hki : k = i
      ·subst hki; rw [if_pos rfl]; exact hex k v w' h1 c hc
      ·rw [if_neg hki]; exact hV k c hc) (by have := unl_set (by omega) hfalse n hin; omega) (by simpa using hsz) (inv.set hi hin)
      (fun t ht => by rw [getD_set_ne false (by omega)]; exact hta t ht) (by
       rwa [show (fun k => (listed.setIfInBounds i true).getD k false) = (fun j => j == i || listed.getD j false) from funext fun k => by
        by_cases hki : k = i
        ·subst hki; simp [show k < listed.size by omega]
        ·rw [getD_set_ne false (Ne.symm hki)]; simp [hki]]) fun k hk hl => ?_
     by_cases hki : k = i
     ·subst hki; simpa using h1
     ·rw [getD_set_ne false (Ne.symm hki)] at hl
      simp only [if_neg hki]
      exact h3 k _ hki hl (hF k hk hl)
    have hnd : ∀ c, o.op ≠ .defer c := fun c hc => by
     have := List.all_eq_true.1 hdf o (List.mem_of_getElem? ho)
     rw [hc] at this; cases this
    unfold wpOpIn
    rw [hopl, ho]
    simp only []
    split
    ·rename_i hw
     rw [if_pos hw] at hst
     exact opIn_rel hnd hnext hst
    ·rename_i hw
     rw [if_neg hw] at hst
     exact ⟨fun f _ => trivial, hnext undef w ⟨hst.1, hst.2, fun _ _ _ _ h => h⟩⟩
 have hu : unl (Array.replicate l.toArray.size false) n = n := by
  have : ∀ k, unl (Array.replicate l.toArray.size false) k = k := by
   intro k
   induction k with
   | zero => rfl
   | succ k ih => simp only [unl]; rw [ih, getD_replicate_false]; simp
  exact this n
 have H := key n (Array.replicate l.toArray.size false) { w0 with drawn := w0.drawn + 1 } (fun k => (ex k).getD undef) (fun k c hc => by simp [hc]) hu (by simp)
  ⟨by simp, fun j oj _ hl => (by rw [getD_replicate_false] at hl; cases hl), fun t _ ht => getD_in (by simpa using ht) (getD_replicate_false _ _)⟩ (fun t _ => getD_replicate_false _ _) (by simpa only [getD_replicate_false] using hb)
  (fun k _ hl => by rw [getD_replicate_false] at hl; cases hl)
 rw [puts_none _ _ _ _ _ (fun i _ => getD_replicate_false _ _)] at H
 rw [show n + (l.length - n) = l.toArray.size by simp; omega] at H
 exact H
theorem anyIn_env {a0 : Act} {w0 : World} {l : List Oper} {Q : Exit → Act → World → Prop} (n : Nat) (Fl : List SF) (ds : List (Option Tmp))
 (hdf : noDefer l = true) (hB : relB l.toArray n = true) (hE : envB l (l.take n) 0 a0.tmps.size = true) (hds : (l.take n).map (·.dst) = ds)
 (steps : ∀ V e0, (∀ t, e0 t = a0.tmps.getD t undef) → StepsE P w0 (Fs Fl) (val Fl V) (l.take n) 0 e0)
 (tail : ∀ V w, Ext w0 w → FactsTo (Fs Fl) (val Fl V) w n → wpListIn Fence.wide 8 P l.toArray Q (l.drop n) (putsD (val Fl V) ds 0 a0) w) : wpAnyIn Fence.wide 8 P .any l.toArray Q l.toArray.size (Array.replicate l.toArray.size false) a0 { w0 with drawn := w0.drawn + 1 } :=
 anyIn_rel n (fun _ => Ext w0) (Fs Fl) (fun k => (Fl.getD k SF.any).ex) hdf hB (Ext.one w0) (fun k v w h c hc => (Fl.getD k SF.any).law v w h c hc)
  (fun V hV => steps_of_guarded (by
   have := stepsG_of_env (ops := l) (r := l.drop n) hE rfl (fun _ => rfl) (by simp) (fun _ _ h => absurd h (Nat.not_lt_zero _)) (steps V (fun t => a0.tmps.getD t undef) (fun _ => rfl))
   rwa [val_eq hV] at this))
  (fun V w hV hw hf => by have := tail V w hw; rw [val_eq hV] at this; rw [putsAll_D, hds]; exact this hf)
end
section
variable {lb : Nat} {ys : List (List AV)} {P : Program} {N : Nat} {Q : IQ} {e : Nat → AV} {b : Bool} {i : Nat}
end
end Go.Proofs.YtjhcfpdgldpicaaGreatDoor
