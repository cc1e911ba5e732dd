/- Lemmas for the statement. -/
import Derived.Test.YtjhcfpdgldpicaaGreatDoorA11
import Derived.Laws.Cover1
namespace Go.Proofs.YtjhcfpdgldpicaaGreatDoor
open Go Go.RowKit Go.Proofs
set_option linter.unusedSimpArgs false
set_option linter.unusedVariables false
section
variable {P : Program} {ops : Array Oper}
theorem any_relV {Q : Exit → Act → World → Prop} {a0 : Act} {w0 : World} {l : List Oper} (n : Nat) (B : (Nat → Bool) → (Nat → Value) → World → Prop)
 (hB : relB l.toArray n = true) (hb : B (fun _ => false) (fun _ => undef) { w0 with drawn := w0.drawn + 1 })
 (steps : ∀ V i o m w, i < n → l[i]? = some o → m i = false → (∀ e ∈ o.after, Region.binds .any e = true → m e.on = true) → B m V w →
  if Region.wanted o (yielded l.toArray (putsAll V (l.take i) 0 a0).tmps) then RelUpon P (fun v w' => B (fun j => j == i || m j) (fun j => if j = i then v else V j) w') ((execOp (putsAll V (l.take i) 0 a0).eval o).run P w)
  else B (fun j => j == i || m j) (fun j => if j = i then undef else V j) w)
 (tail : ∀ V w, B (fun k => decide (k < n)) V w → wpList P l.toArray Q (l.drop n) (putsAll V (l.take n) 0 a0) w) : wpAny P .any l.toArray Q l.toArray.size (Array.replicate l.toArray.size false) a0 { w0 with drawn := w0.drawn + 1 } := by
 simp only [relB, Bool.and_eq_true, decide_eq_true_eq] at hB
 obtain ⟨⟨⟨⟨hsel, hn⟩, hheads⟩, htails⟩, hseq⟩ := hB
 have hn' : n ≤ l.length := by simpa using hn
 have htl : (l.take n).length = n := by simp; omega
 have hopl : ∀ i : Nat, l.toArray[i]? = l[i]? := fun i => by simp
 have htk : ∀ i : Nat, i < n → (l.take n)[i]? = l[i]? := fun i hi => by simp [hi]
 -- what the Bool says of a head
 have head : ∀ i o, i < n → l[i]? = some o → (∀ e ∈ o.after, Region.binds .any e = true → e.on < i) ∧ (∀ g b, o.guard = some (g, b) → waitsB o g = true) ∧
  ∀ k t, k < n → (l[k]?).bind (·.dst) = some t → ((o.looksAt l.toArray).contains t = true → (k < i ∧ waitsB o k = true) ∨ (i < k ∧ waitsK l.toArray k i = true)) ∧ (k = i ∨ o.dst ≠ some t) := by
  intro i o hi ho
  have h1 := List.all_eq_true.1 hheads i (List.mem_range.2 hi)
  rw [hopl, ho] at h1
  simp only [Bool.and_eq_true] at h1
  obtain ⟨⟨h1, h2⟩, h3⟩ := h1
  refine ⟨fun e he hb => ?_, fun g b hg => ?_, fun k t hk ht => ?_⟩
  ·have := List.all_eq_true.1 h1 e (by simpa using he)
   simpa [hb] using this
  ·rw [hg] at h2; exact h2
  ·have := List.all_eq_true.1 h3 k (List.mem_range.2 hk)
   rw [hopl, ht] at this
   simp only [Bool.and_eq_true, Bool.or_eq_true, Bool.not_eq_true', decide_eq_true_eq, beq_iff_eq, bne_iff_ne, ne_eq] at this
   exact ⟨fun hc => by
    rcases this.1 with (h | h) | h
    ·exact absurd h (by rw [hc]; simp)
    ·exact .inl h
    ·exact .inr h, this.2⟩
 have waits : ∀ {o : Oper} {k : Nat}, waitsB o k = true → ∃ e ∈ o.after, e.on = k ∧ Region.binds .any e = true := fun {o k} h => by
  obtain ⟨e, he, hk⟩ := List.any_eq_true.1 h
  exact ⟨e, by simpa using he, by simpa using hk⟩
 -- a tail waits
 have tails : ∀ (i0 : Nat), i0 < n → ∀ listed : Array Bool, HeadInv .any l.toArray n listed → listed.getD i0 true = false → ∀ t, n ≤ t → t < l.length → t ∉ Region.ready .any l.toArray listed := by
  intro i0 hi0 listed inv hun t ht htlt
  simp only [Bool.or_eq_true, Bool.and_eq_true, decide_eq_true_eq] at htails
  rcases htails with he | ⟨⟨h1, h2⟩, h3⟩
  ·simp only [List.size_toArray] at he; omega
  ·exact tail_waits h2 h3 h1 inv _ i0 rfl hi0 hun t ht
 -- the run
 have key : ∀ (h : Nat) (listed : Array Bool) (w : World) (V : Nat → Value), unl listed n = h → listed.size = l.length → HeadInv .any l.toArray n listed → (∀ t, n ≤ t → listed.getD t false = false) → B (fun k => listed.getD k false) V w →
  wpAny P .any l.toArray Q (h + (l.length - n)) listed (puts V (fun k => listed.getD k false) (l.take n) 0 a0) w := by
  intro h
  induction h with
  | zero =>
   intro listed w V hu hsz inv hta hBw
   have hall := unl_zero hu
   have hcan : listed = (List.range n).foldl (fun l i => l.setIfInBounds i true) (Array.replicate l.toArray.size false) := by
    refine Array.ext (by rw [foldl_set_size]; simpa using hsz) fun j h1 h2 => ?_
    have e1 : listed.getD j false = listed[j] := by simp [h1]
    have e2 := foldl_set_get n l.toArray.size j (by rw [foldl_set_size] at h2; exact h2)
    rw [Array.getD_eq_getD_getElem?, Array.getElem?_eq_getElem h2, Option.getD_some] at e2
    rw [e2, ← e1]
    by_cases hjn : j < n
    ·rw [hall j hjn]; simp [hjn]
    ·rw [hta j (by omega)]; simp [hjn]
   rw [puts_all V _ (l.take n) 0 a0 fun i hi => by rw [Nat.zero_add]; exact hall i (by rw [htl] at hi; exact hi)]
   have hdl : (l.drop n).length = l.toArray.size - n := by simp
   have := wpAny_of_seq (P := P) (md := .any) (Q' := Q) (l.drop n) n listed (putsAll V (l.take n) 0 a0) w (fun j => by simp [List.getElem?_drop]) (by rw [hdl, hcan]; exact hseq)
    (tail V w (by rwa [show (fun k => listed.getD k false) = (fun k => decide (k < n)) from funext fun k => by
     by_cases hk : k < n
     ·rw [hall k hk]; simp [hk]
     ·rw [hta k (by omega)]; simp [hk]] at hBw))
   rw [Nat.zero_add]
   simpa using this
  | succ h ih =>
   intro listed w V hu hsz inv hta hBw
   rw [show h + 1 + (l.length - n) = (h + (l.length - n)) + 1 by omega]
   obtain ⟨i0, hi0, hi1, hi2⟩ := unl_pos (listed := listed) (n := n) (by omega)
   refine ⟨fun h0 => ?_, fun i hi => ?_⟩
   ·
    obtain ⟨o, ho⟩ : ∃ o, l[i0]? = some o := ⟨l[i0]'(by omega), List.getElem?_eq_getElem _⟩
    have : i0 ∈ Region.ready .any l.toArray listed := mem_ready.2 ⟨getD_in (by omega) hi1, o, by rw [hopl]; exact ho, fun e he hb => hi2 _ ((head i0 o hi0 ho).1 e he hb)⟩
    rw [h0] at this; cases this
   ·obtain ⟨hun, o, ho, hall⟩ := mem_ready.1 hi
    rw [hopl] at ho
    have hlt : i < l.length := by rcases Nat.lt_or_ge i l.length with h | h; exact h; rw [List.getElem?_eq_none h] at ho; cases ho
    have hin : i < n := by
     rcases Nat.lt_or_ge i n with h | h
     ·exact h
     ·exact absurd hi (tails i0 hi0 listed inv (getD_in (by omega) hi1) i h hlt)
    obtain ⟨hed, hgd, hlk⟩ := head i o hin ho
    have hdeps : ∀ e ∈ o.after, Region.binds .any e = true → listed.getD e.on false = true := fun e he hb => hall e he hb
    have hfalse : listed.getD i false = false := getD_both hun
    -- the frame as the text has it looks the same to this operation
    have same : ∀ t, (o.looksAt l.toArray).contains t = true → (puts V (fun k => listed.getD k false) (l.take n) 0 a0).tmps[t]? = (putsAll V (l.take i) 0 a0).tmps[t]? := by
     intro t ht
     have e1 : putsAll V (l.take i) 0 a0 = puts V (fun k => decide (k < i)) (l.take n) 0 a0 := by
      have : l.take n = l.take i ++ (l.take n).drop i := by
       conv => lhs; rw [← List.take_append_drop i (l.take n)]
       rw [List.take_take, Nat.min_eq_left (by omega)]
      rw [this]
      have app : ∀ (l1 l2 : List Oper) (k : Nat) (a : Act) (m : Nat → Bool), puts V m (l1 ++ l2) k a = puts V m l2 (k + l1.length) (puts V m l1 k a) := by
       intro l1
       induction l1 with
       | nil => intro l2 k a m; rfl
       | cons x l1 ih => intro l2 k a m; simp only [List.cons_append, puts, List.length_cons]; rw [ih]; congr 1; omega
      rw [app, puts_none, puts_all]
      ·intro j hj; simp at hj ⊢; omega
      ·intro j hj; simp at hj ⊢; omega
     rw [e1]
     refine puts_tmp V _ _ t (l.take n) 0 a0 a0 rfl rfl fun k ok hk hd => ?_
     have hkn : k < n := by rcases Nat.lt_or_ge k n with h | h; exact h; rw [List.getElem?_eq_none (by rw [htl]; exact h)] at hk; cases hk
     rw [htk k hkn] at hk
     rcases (hlk k t hkn (by rw [hk]; exact hd)).1 ht with ⟨h1, h2⟩ | ⟨h1, h2⟩
     ·obtain ⟨e, he, hek, hb⟩ := waits h2
      have := hdeps e he hb
      rw [hek] at this
      simp only [Nat.zero_add]
      rw [this]; simp [h1]
     ·have hkf : listed.getD k false = false := by
       cases hbk : listed.getD k false with
       | false => rfl
       | true =>
        have hk' : l.toArray[k]? = some ok := by rw [hopl]; exact hk
        unfold waitsK at h2
        rw [hk'] at h2
        obtain ⟨e, he, hek, hb⟩ := waits h2
        have := inv.closed k ok hk' hbk e he hb
        rw [hek, hfalse] at this; cases this
      simp only [Nat.zero_add]
      rw [hkf]; simp; omega
    have hexec : execOp (puts V (fun k => listed.getD k false) (l.take n) 0 a0).eval o = execOp (putsAll V (l.take i) 0 a0).eval o :=
     execOp_congr o (fun cs b => Region.noSelect_spec hsel i o cs b (by rw [hopl]; exact ho)) fun x hx => by
      cases x with
      | tmp t =>
       have := same t (looks_of hx)
       show Array.getD _ t undef = Array.getD _ t undef
       rw [Array.getD_eq_getD_getElem?, Array.getD_eq_getD_getElem?, this]
      | _ => rfl
    have hwant : Region.wanted o (yielded l.toArray (puts V (fun k => listed.getD k false) (l.take n) 0 a0).tmps) = Region.wanted o (yielded l.toArray (putsAll V (l.take i) 0 a0).tmps) := by
     unfold Region.wanted
     cases hg : o.guard with
     | none => rfl
     | some gb =>
      obtain ⟨g, b⟩ := gb
      simp only []
      congr 1
      unfold yielded
      cases hd : (l.toArray[g]?).bind (·.dst) with
      | none => rfl
      | some t => simp only [Option.bind_some]; rw [same t (looks_guard hg hd)]
    have hst := steps V i o (fun k => listed.getD k false) w hin ho (by simpa using hfalse) (fun e he hb => hdeps e he hb) hBw
    rw [← hwant, ← hexec] at hst
    -- and behind it
    have hnext : ∀ v w', B (fun j => j == i || listed.getD j false) (fun j => if j = i then v else V j) w' →
     wpAny P .any l.toArray Q (h + (l.length - n)) (listed.setIfInBounds i true) ((puts V (fun k => listed.getD k false) (l.take n) 0 a0).put o.dst v) w' := by
     intro v w' h2
     have hput := puts_set V (fun k => listed.getD k false) v (l.take n) 0 a0 i o (by rw [htk i hin]; exact ho) (by simpa using hfalse) (fun j o' ho' hj t ht hd => by
      have hjn : j < n := by rcases Nat.lt_or_ge j n with h | h; exact h; rw [List.getElem?_eq_none (by rw [htl]; exact h)] at ho'; cases ho'
      rw [htk j hjn] at ho'
      rcases (hlk j t hjn (by rw [ho']; exact hd)).2 with h | h
      ·exact hj h
      ·exact h ht)
     rw [hput]
     simp only [Nat.zero_add]
     have hcongr : puts (fun j => if j = i then v else V j) (fun j => if j = i then true else listed.getD j false) (l.take n) 0 a0 =
      puts (fun j => if j = i then v else V j) (fun k => (listed.setIfInBounds i true).getD k false) (l.take n) 0 a0 := by
      refine puts_congr _ _ _ _ _ _ _ fun j _ => ⟨?_, fun _ => rfl⟩
      simp only [Nat.zero_add]
      by_cases hji : j = i
      ·subst hji
       rw [if_pos rfl]
       simp [show j < listed.size by omega]
      ·rw [if_neg hji, getD_set_ne false (Ne.symm hji)]
     rw [hcongr]
     refine ih (listed.setIfInBounds i true) w' _ (by have := unl_set (by omega) hfalse n hin; omega) (by simpa using hsz) (inv.set hi hin)
      (fun t ht => by rw [getD_set_ne false (by omega)]; exact hta t ht) (by
       rwa [show (fun k => (listed.setIfInBounds i true).getD k false) = (fun j => j == i || listed.getD j false) from funext fun k => by
        by_cases hki : k = i
        ·subst hki; simp [show k < listed.size by omega]
        ·rw [getD_set_ne false (Ne.symm hki)]; simp [hki]])
    unfold wpOp
    rw [hopl, ho]
    simp only []
    split
    ·rename_i hw
     rw [if_pos hw] at hst
     exact .inl (Oper.wp_of_rel hnext hst)
    ·rename_i hw
     rw [if_neg hw] at hst
     exact hnext undef w hst
 have hu : unl (Array.replicate l.toArray.size false) n = n := by
  have : ∀ k, unl (Array.replicate l.toArray.size false) k = k := by
   intro k
   induction k with
   | zero => rfl
   | succ k ih => simp only [unl]; rw [ih, getD_replicate_false]; simp
  exact this n
 have H := key n (Array.replicate l.toArray.size false) { w0 with drawn := w0.drawn + 1 } (fun _ => undef) hu (by simp)
  ⟨by simp, fun j oj _ hl => (by rw [getD_replicate_false] at hl; cases hl), fun t _ ht => getD_in (by simpa using ht) (getD_replicate_false _ _)⟩ (fun t _ => getD_replicate_false _ _) (by simpa only [getD_replicate_false] using hb)
 rw [puts_none _ _ _ _ _ (fun i _ => getD_replicate_false _ _)] at H
 rw [show n + (l.length - n) = l.toArray.size by simp; omega] at H
 exact H
end
structure Eff where
 op : Nat
 idx : Nat
 ob : Ob
def meM (base : List Ob) (m : Nat → Bool) : List Eff → List Ob
 | [] => base
 | q :: l => meM (if m q.op = true then base.set q.idx q.ob else base) m l
theorem meM_len (m : Nat → Bool) : ∀ (l : List Eff) (base : List Ob), (meM base m l).length = base.length
 | [], _ => rfl
 | q :: l, base => by
  simp only [meM]
  rw [meM_len m l]
  split <;> simp
theorem meM_app (m : Nat → Bool) : ∀ (l l' : List Eff) (base : List Ob), meM base m (l ++ l') = meM (meM base m l) m l'
 | [], _, _ => rfl
 | q :: l, l', base => meM_app m l l' _
theorem meM_get {m m' : Nat → Bool} {j : Nat} : ∀ {l : List Eff} {base base' : List Ob}, base.length = base'.length → base[j]? = base'[j]? → (∀ q ∈ l, q.idx = j → m q.op = m' q.op) → (meM base m l)[j]? = (meM base' m' l)[j]?
 | [], _, _, _, h, _ => h
 | q :: l, base, base', hl, h, hq => by
  simp only [meM]
  have hq0 := hq q (by simp)
  refine meM_get ?_ ?_ fun q' hq' => hq q' (by simp [hq'])
  ·split <;> split <;> simp [hl]
  ·by_cases hj : q.idx = j
   ·rw [hq0 hj]
    split
    ·subst hj
     by_cases hlt : q.idx < base.length
     ·rw [List.getElem?_set_self hlt, List.getElem?_set_self (by omega)]
     ·rw [List.getElem?_eq_none (by simp; omega), List.getElem?_eq_none (by simp; omega)]
    ·exact h
   ·have e : ∀ (b : Bool) (M : List Ob), (if b = true then M.set q.idx q.ob else M)[j]? = M[j]? := fun b M => by
     split
     ·rw [List.getElem?_set_ne hj]
     ·rfl
    rw [e, e]; exact h
theorem meM_none {m : Nat → Bool} {j : Nat} {l : List Eff} {base : List Ob} (hq : ∀ q ∈ l, q.idx = j → m q.op = false) : (meM base m l)[j]? = base[j]? := by
 have h := meM_get (m := m) (m' := fun _ => false) (j := j) (l := l) (base := base) (base' := base) rfl rfl hq
 rw [h]
 have : ∀ (l : List Eff) (base : List Ob), meM base (fun _ => false) l = base := by
  intro l
  induction l with
  | nil => intro _; rfl
  | cons q l ih => intro base; simp only [meM]; rw [ih]; simp
 rw [this]
section
variable {M : Mode} {P : Program} {N : Nat} {Q : AQ} {mem : List Ob} {ops : List Oper} {tail : List Oper}
inductive Wt (ops : List Oper) : Nat → Nat → Prop
 | one {i k : Nat} {o : Oper} : ops[i]? = some o → waitsB o k = true → Wt ops i k
 | trans {i k l : Nat} : Wt ops i k → Wt ops k l → Wt ops i l
def Agr (R : List Nat) (mt M : List Ob) : Prop := ∀ j ∈ R, M[j]? = mt[j]?
theorem agr {R : List Nat} {mt M : List Ob} {j : Nat} {o : Option Ob} (h : Agr R mt M) (hm : mt[j]? = o) (hj : j ∈ R) : M[j]? = o := (h j hj).trans hm
def Chk (ops : List Oper) (k : Nat) (R : List Nat) : List Eff → Prop
 | [] => True
 | q :: l => (q.idx ∉ R ∨ Wt ops k q.op) ∧ Chk ops k R l
theorem Chk.at {k : Nat} {R : List Nat} : ∀ {l : List Eff}, Chk ops k R l → ∀ q ∈ l, q.idx ∈ R → Wt ops k q.op
 | _ :: _, h, q, hq, hR => by
  rcases List.mem_cons.1 hq with rfl | hq
  ·exact h.1.resolve_left (fun hn => hn hR)
  ·exact h.2.at q hq hR
theorem chk_nil {k : Nat} : ∀ {l : List Eff}, Chk ops k [] l
 | [] => trivial
 | _ :: _ => ⟨.inl (by simp), chk_nil⟩
def Chk2 (ops : List Oper) (k j : Nat) : List (Nat × List Nat) → Prop
 | [] => True
 | q :: l => (j ∉ q.2 ∨ Wt ops k q.1) ∧ Chk2 ops k j l
theorem Chk2.at {k j : Nat} : ∀ {l : List (Nat × List Nat)}, Chk2 ops k j l → ∀ q ∈ l, j ∈ q.2 → Wt ops k q.1
 | _ :: _, h, q, hq, hR => by
  rcases List.mem_cons.1 hq with rfl | hq
  ·exact h.1.resolve_left (fun hn => hn hR)
  ·exact h.2.at q hq hR
structure One where
 r : AV
 R : List Nat
 eff : Option (Nat × Ob)
 new : Bool
 old : Option (Nat × Ob)
 pj : Option ((Value → Value) × (Value → Value))
def One.effs (k : Nat) (x : One) : List Eff := match x.eff with | some (j, ob) => (match x.old with | some (i, oi) => [⟨k, i, oi⟩, ⟨k, j, ob⟩] | none => [⟨k, j, ob⟩]) | none => []
def One.wr (x : One) (j : Nat) : Prop := (∃ ob, x.eff = some (j, ob)) ∨ ((∃ oi, x.old = some (j, oi)) ∧ x.eff ≠ none)
def One.acc (k : Nat) (x : One) : List (Nat × List Nat) := if x.R = [] then [] else [(k, x.R)]
def One.nws (k : Nat) (x : One) : List (Nat × (Value → Value)) := if x.new = true then (match x.pj with | none => [(k, fun v => v)] | some (p1, p2) => [(k, p1), (k, p2)]) else []
def One.mt (x : One) (mt : List Ob) : List Ob := match x.eff with | some (j, ob) => (match x.old with | some (i, oi) => (mt.set i oi).set j ob | none => mt.set j ob) | none => mt
theorem One.mt_len (x : One) (mt : List Ob) : (x.mt mt).length = mt.length := by
 unfold One.mt
 split
 ·split <;> simp
 ·rfl
theorem One.mt_ne {x : One} {j : Nat} (mt : List Ob) (h : ¬ x.wr j) : (x.mt mt)[j]? = mt[j]? := by
 unfold One.mt
 split
 ·rename_i j' ob he
  have h1 : j' ≠ j := fun e => h (.inl ⟨ob, by rw [he, e]⟩)
  split
  ·rename_i i oi ho
   have h2 : i ≠ j := fun e => h (.inr ⟨⟨oi, by rw [ho, e]⟩, by rw [he]; simp⟩)
   rw [List.getElem?_set_ne h1, List.getElem?_set_ne h2]
  ·rw [List.getElem?_set_ne h1]
 ·rfl
theorem One.mt_at {x : One} {j : Nat} {mt mt' : List Ob} (hl : mt.length = mt'.length) (h : x.wr j) : (x.mt mt)[j]? = (x.mt mt')[j]? := by
 have same : ∀ (i : Nat) (o : Ob) (a b : List Ob), a.length = b.length → (a.set i o)[i]? = (b.set i o)[i]? := fun i o a b hab => by
  by_cases hi : i < a.length
  ·rw [List.getElem?_set_self hi, List.getElem?_set_self (by omega)]
  ·rw [List.getElem?_eq_none (by simp; omega), List.getElem?_eq_none (by simp; omega)]
 unfold One.mt
 split
 ·rename_i j' ob he
  split
  ·rename_i i oi ho
   by_cases hj : j' = j
   ·subst hj; exact same _ _ _ _ (by simp [hl])
   ·rw [List.getElem?_set_ne hj, List.getElem?_set_ne hj]
    rcases h with ⟨ob', h⟩ | ⟨⟨_, h⟩, _⟩
    ·rw [he] at h; cases h; exact absurd rfl hj
    ·rw [ho] at h; cases h; exact same _ _ _ _ hl
  ·rename_i ho
   rcases h with ⟨ob', h⟩ | ⟨⟨_, h⟩, _⟩
   ·rw [he] at h; cases h; exact same _ _ _ _ hl
   ·rw [ho] at h; cases h
 ·rename_i he
  rcases h with ⟨ob', h⟩ | ⟨_, h⟩
  ·rw [he] at h; cases h
  ·exact absurd he h
theorem One.mt_true (x : One) (k : Nat) (mt : List Ob) (m : Nat → Bool) (hm : m k = true) : meM mt m (x.effs k) = x.mt mt := by
 unfold One.effs One.mt
 split
 ·split <;> simp [meM, hm]
 ·rfl
theorem One.mt_false (x : One) (k : Nat) (mt : List Ob) (m : Nat → Bool) (hm : m k = false) : meM mt m (x.effs k) = mt := by
 unfold One.effs
 split
 ·split <;> simp [meM, hm]
 ·rfl
def OpTW (P : Program) (o : Oper) (e : Nat → AV) (mem : List Ob) (ob1 ob2 : Ob) (p1 p2 : Value → Value) (h : Nat → Nat → AV) : Prop :=
 ∀ (pb : Nat → Prop) (w0 : Bs) (θ : List Value) (w : World) (ev : Nat → Value), SimM pb w0 w θ mem → (∀ x ∈ o.op.operands, R1 θ (Prot pb θ mem) w (evA e x) (evE ev x)) →
  RelUpon P (fun v w' => Ext w w' ∧ (∀ b, baseOf (p1 v) = some b → w.heap.size ≤ b) ∧ (∀ b, baseOf (p2 v) = some b → w.heap.size ≤ b) ∧ (∀ b, baseOf (p1 v) = some b → baseOf (p2 v) = some b → False) ∧
   (∀ θ' pr, (∀ a x, R1 θ (Prot pb θ mem) w a x → R1 θ' pr w' a x) → ObR θ' pr w0.okb w' (p1 v) ob1 ∧ ObR θ' pr w0.okb w' (p2 v) ob2) ∧
   ∀ θ' (pr : Nat → Prop) i j, (∀ b, b < w'.heap.size → pr b → (Prot pb θ mem b ∧ b < w.heap.size) ∨ baseOf (p1 v) = some b ∨ baseOf (p2 v) = some b) → θ'[i]? = some (p1 v) → θ'[j]? = some (p2 v) → R1 θ' pr w' (h i j) v) ((execOp (evE ev) o).run P w)
theorem Step.fill2 {pb : Nat → Prop} {w0 : Bs} {w w' : World} {θ : List Value} {mem : List Ob} (h : SimM pb w0 w θ mem) {k1 k2 : Nat} (hne : k1 ≠ k2) (hm1 : mem[k1]? = some .gone) (hv1 : θ[k1]? = some undef) (hm2 : mem[k2]? = some .gone) (hv2 : θ[k2]? = some undef) (hx : Ext w w') (v1 v2 : Value) (o1 o2 : Ob)
 (hb1 : ∀ b, baseOf v1 = some b → w.heap.size ≤ b) (hb2 : ∀ b, baseOf v2 = some b → w.heap.size ≤ b) (hd : ∀ b, baseOf v1 = some b → baseOf v2 = some b → False)
 (ho : ∀ θ' pr, (∀ a x, R1 θ (Prot pb θ mem) w a x → R1 θ' pr w' a x) → ObR θ' pr w0.okb w' v1 o1 ∧ ObR θ' pr w0.okb w' v2 o2) : Step pb w0 θ mem w ((θ.set k1 v1).set k2 v2) ((mem.set k1 o1).set k2 o2) w' := by
 have hk1m : k1 < mem.length := (List.getElem?_eq_some_iff.1 hm1).1
 have hk1t : k1 < θ.length := (List.getElem?_eq_some_iff.1 hv1).1
 have hk2m : k2 < mem.length := (List.getElem?_eq_some_iff.1 hm2).1
 have hk2t : k2 < θ.length := (List.getElem?_eq_some_iff.1 hv2).1
 have hθ : ∀ (j : Nat) (x : Value), x ≠ undef → θ[j]? = some x → ((θ.set k1 v1).set k2 v2)[j]? = some x := fun j x hx hj => by
  by_cases hj1 : k1 = j
  ·subst hj1; rw [hv1] at hj; cases hj; exact absurd rfl hx
  ·by_cases hj2 : k2 = j
   ·subst hj2; rw [hv2] at hj; cases hj; exact absurd rfl hx
   ·rw [List.getElem?_set_ne hj2, List.getElem?_set_ne hj1]; exact hj
 have split : ∀ {j : Nat} {p : Ob} {u : Value}, ((mem.set k1 o1).set k2 o2)[j]? = some p → ((θ.set k1 v1).set k2 v2)[j]? = some u → (mem[j]? = some p ∧ θ[j]? = some u) ∨ (j = k1 ∧ p = o1 ∧ u = v1) ∨ (j = k2 ∧ p = o2 ∧ u = v2) := by
  intro j p u hm hu
  by_cases hj2 : k2 = j
  ·subst hj2
   rw [List.getElem?_set_self (by simpa using hk2m)] at hm
   rw [List.getElem?_set_self (by simpa using hk2t)] at hu
   cases hm; cases hu
   exact .inr (.inr ⟨rfl, rfl, rfl⟩)
  ·rw [List.getElem?_set_ne hj2] at hm hu
   by_cases hj1 : k1 = j
   ·subst hj1
    rw [List.getElem?_set_self hk1m] at hm
    rw [List.getElem?_set_self hk1t] at hu
    cases hm; cases hu
    exact .inr (.inl ⟨rfl, rfl, rfl⟩)
   ·rw [List.getElem?_set_ne hj1] at hm hu
    exact .inl ⟨hm, hu⟩
 have hp : ∀ b, b < w.heap.size → ¬ Prot pb θ mem b → ¬ Prot pb ((θ.set k1 v1).set k2 v2) ((mem.set k1 o1).set k2 o2) b := by
  intro b hlt hn hq
  rcases hq with hq | ⟨j, p, u, h1, h2, h3, h4⟩
  ·exact hn (.inl hq)
  rcases split h1 h3 with ⟨h5, h6⟩ | ⟨rfl, rfl, rfl⟩ | ⟨rfl, rfl, rfl⟩
  ·exact hn (.inr ⟨j, p, u, h5, h2, h6, h4⟩)
  ·exact absurd (hb1 b h4) (by omega)
  ·exact absurd (hb2 b h4) (by omega)
 have keep : ∀ a x, R1 θ (Prot pb θ mem) w a x → R1 ((θ.set k1 v1).set k2 v2) (Prot pb ((θ.set k1 v1).set k2 v2) ((mem.set k1 o1).set k2 o2)) w' a x := fun a x hr => hr.mono' hθ hx.size (fun b hb _ => hx.block b hb) hp
 refine ⟨⟨h.ext.ext hx, h.low, by simp [h.len], fun j p u hm hu => ?_, fun i j p q u u' b h1 h2 h3 h4 h5 h6 h7 h8 => ?_⟩, keep, hx.size, fun b hb _ => hx.block b hb, hp⟩
 ·rcases split hm hu with ⟨h5, h6⟩ | ⟨rfl, rfl, rfl⟩ | ⟨rfl, rfl, rfl⟩
  ·by_cases hg : p = .gone
   ·subst hg; trivial
   ·exact (h.ob j p u h5 h6).mono' hθ hx.size (fun b hb _ => hx.block b hb) hp (fun b hb => hx.block b ((h.ob j p u h5 h6).lt hg hb).2)
  ·exact (ho _ _ keep).1
  ·exact (ho _ _ keep).2
 ·rcases split h1 h5 with ⟨a1, a2⟩ | ⟨rfl, rfl, rfl⟩ | ⟨rfl, rfl, rfl⟩ <;> rcases split h3 h6 with ⟨a3, a4⟩ | ⟨rfl, rfl, rfl⟩ | ⟨rfl, rfl, rfl⟩
  ·exact h.dis i j p q u u' b a1 h2 a3 h4 a2 a4 h7 h8
  ·have := ((h.ob i p u a1 a2).lt h2 h7).2; have := hb1 b h8; omega
  ·have := ((h.ob i p u a1 a2).lt h2 h7).2; have := hb2 b h8; omega
  ·have := ((h.ob j q u' a3 a4).lt h4 h8).2; have := hb1 b h7; omega
  ·rfl
  ·exact (hd b h7 h8).elim
  ·have := ((h.ob j q u' a3 a4).lt h4 h8).2; have := hb2 b h7; omega
  ·exact (hd b h8 h7).elim
  ·rfl
def Does (P : Program) (ops : List Oper) (n0 : Nat) (o : Oper) (k : Nat) (e : Nat → AV) (mt : List Ob) (c : Nat) (x : One) : Prop :=
 match x.eff with
 | none => x.new = false ∧ ((Gd ops.toArray o e ∧ ∀ M, Agr x.R mt M → OpRO P o e M x.r) ∨ (Ng ops.toArray o e ∧ x.r = .v undef))
 | some (j, ob) => j ∈ x.R ∧ (∀ i oi, x.old = some (i, oi) → i ∈ x.R) ∧ Gd ops.toArray o e ∧ (if x.new = true then (match x.pj with
  | none => mt[j]? = some .gone ∧ j = n0 + c ∧ ∃ h : Nat → AV, x.r = h j ∧ ∀ M, Agr x.R mt M → (match x.old with | some (i, oi) => oi = .gone ∧ OpSW P o e M i ob h | none => OpNW P o e M ob h)
  | some (p1, p2) => ∃ i oi, x.old = some (i, oi) ∧ mt[i]? = some .gone ∧ mt[j]? = some .gone ∧ i = n0 + c ∧ j = n0 + c + 1 ∧ ∃ h : Nat → Nat → AV, x.r = h i j ∧ ∀ M, Agr x.R mt M → OpTW P o e M oi ob p1 p2 h)
  else x.old = none ∧ x.r = .any ∧ ∀ M, Agr x.R mt M → OpSET P o e M j ob)
def DH (P : Program) (N : Nat) (ops : List Oper) (tail : List Oper) (Q : AQ) (n0 K : Nat) : List Oper → Nat → (Nat → AV) → List Ob → Nat → List Eff → List (Nat × List Nat) → Prop
 | [], _, e, mt, c, _, _ => c = K ∧ AL P N ops.toArray tail Q e mt
 | o :: l, k, e, mt, c, E, A => ∃ x : One, Does P ops n0 o k e mt c x ∧ Chk ops k x.R E ∧ (∀ j, x.wr j → Chk2 ops k j A) ∧ ∀ mt', mt' = x.mt mt → DH P N ops tail Q n0 K l (k + 1) (upA e o.dst x.r) mt' (c + (x.nws k).length) (E ++ x.effs k) (A ++ x.acc k)
def DHl (P : Program) (ops : List Oper) (n0 : Nat) : List Oper → Nat → (Nat → AV) → List Ob → Nat → List Eff → List (Nat × List Nat) → List One → Prop
 | [], _, _, _, _, _, _, xs => xs = []
 | o :: l, k, e, mt, c, E, A, xs => ∃ x xs', xs = x :: xs' ∧ Does P ops n0 o k e mt c x ∧ Chk ops k x.R E ∧ (∀ j, x.wr j → Chk2 ops k j A) ∧ DHl P ops n0 l (k + 1) (upA e o.dst x.r) (x.mt mt) (c + (x.nws k).length) (E ++ x.effs k) (A ++ x.acc k) xs'
def mtL : List One → List Ob → List Ob
 | [], mt => mt
 | x :: l, mt => mtL l (x.mt mt)
def effL : Nat → List One → List Eff
 | _, [] => []
 | k, x :: l => x.effs k ++ effL (k + 1) l
def nwL : Nat → List One → List (Nat × (Value → Value))
 | _, [] => []
 | k, x :: l => x.nws k ++ nwL (k + 1) l
theorem dh_list {n0 K : Nat} : ∀ {l : List Oper} {k : Nat} {e : Nat → AV} {mt : List Ob} {c : Nat} {E : List Eff} {A : List (Nat × List Nat)}, DH P N ops tail Q n0 K l k e mt c E A →
 ∃ xs, xs.length = l.length ∧ DHl P ops n0 l k e mt c E A xs ∧ c + (nwL k xs).length = K ∧ AL P N ops.toArray tail Q (upL l e (xs.map (·.r))) (mtL xs mt)
 | [], _, e, mt, c, E, A, ⟨h1, h2⟩ => ⟨[], rfl, rfl, h1, h2⟩
 | o :: l, k, e, mt, c, E, A, ⟨x, h1, h2, h3, h4⟩ => by
  obtain ⟨xs, g1, g2, g3, g4⟩ := dh_list (h4 _ rfl)
  exact ⟨x :: xs, by simp [g1], ⟨x, xs, rfl, h1, h2, h3, g2⟩, by simp only [nwL, List.length_append]; omega, g4⟩
theorem eff_op {x : One} {k : Nat} {q : Eff} (h : q ∈ x.effs k) : q.op = k ∧ x.wr q.idx := by
 unfold One.effs at h
 cases hx : x.eff with
 | none => rw [hx] at h; simp at h
 | some p =>
  obtain ⟨j, ob⟩ := p
  rw [hx] at h
  cases ho : x.old with
  | none => rw [ho] at h; simp at h; subst h; exact ⟨rfl, .inl ⟨ob, hx⟩⟩
  | some p =>
   obtain ⟨i, oi⟩ := p
   rw [ho] at h; simp at h
   rcases h with rfl | rfl
   ·exact ⟨rfl, .inr ⟨⟨oi, ho⟩, by rw [hx]; simp⟩⟩
   ·exact ⟨rfl, .inl ⟨ob, hx⟩⟩
theorem effL_at : ∀ {xs : List One} {k : Nat} {q : Eff}, q ∈ effL k xs → ∃ i x, xs[i]? = some x ∧ q.op = k + i ∧ x.wr q.idx
 | x :: l, k, q, h => by
  rcases List.mem_append.1 h with h | h
  ·exact ⟨0, x, rfl, (eff_op h).1, (eff_op h).2⟩
  ·obtain ⟨i, y, h1, h2, h3⟩ := effL_at h
   exact ⟨i + 1, y, h1, by omega, h3⟩
theorem nws_at {x : One} {k : Nat} {q : Nat × (Value → Value)} (h : q ∈ x.nws k) : q.1 = k ∧ x.new = true := by
 unfold One.nws at h
 by_cases hx : x.new = true
 ·rw [if_pos hx] at h
  cases hp : x.pj with
  | none => rw [hp] at h; simp at h; subst h; exact ⟨rfl, hx⟩
  | some p =>
   rw [hp] at h; simp at h
   rcases h with rfl | rfl
   ·exact ⟨rfl, hx⟩
   ·exact ⟨rfl, hx⟩
 ·rw [if_neg hx] at h; simp at h
theorem nwL_at : ∀ {xs : List One} {k : Nat} {q : Nat × (Value → Value)}, q ∈ nwL k xs → ∃ i x, xs[i]? = some x ∧ q.1 = k + i ∧ x.new = true
 | x :: l, k, q, h => by
  rcases List.mem_append.1 h with h | h
  ·obtain ⟨h1, h2⟩ := nws_at h
   exact ⟨0, x, rfl, by omega, h2⟩
  ·obtain ⟨i, y, h1, h2, h3⟩ := nwL_at h
   exact ⟨i + 1, y, h1, by omega, h3⟩
theorem dhl_at {n0 : Nat} : ∀ {l : List Oper} {k : Nat} {e : Nat → AV} {mt : List Ob} {c : Nat} {E : List Eff} {A : List (Nat × List Nat)} {xs : List One}, DHl P ops n0 l k e mt c E A xs → ∀ {i : Nat} {o : Oper}, l[i]? = some o →
 ∃ x, xs[i]? = some x ∧ Does P ops n0 o (k + i) (upL (l.take i) e (xs.map (·.r))) (mtL (xs.take i) mt) (c + (nwL k (xs.take i)).length) x ∧ Chk ops (k + i) x.R (E ++ effL k (xs.take i)) ∧
  (∀ j, x.wr j → (∀ i' y, i' < i → xs[i']? = some y → j ∈ y.R → Wt ops (k + i) (k + i')) ∧ ∀ q ∈ A, j ∈ q.2 → Wt ops (k + i) q.1)
 | [], _, _, _, _, _, _, _, _, i, o, hi => by simp at hi
 | o1 :: l, k, e, mt, c, E, A, xs, ⟨x, xs', h1, h2, h3, h4, h5⟩, 0, o, ho => by
  subst h1
  obtain rfl : o1 = o := by simpa using ho
  exact ⟨x, rfl, h2, by simpa [effL] using h3, fun j hx => ⟨fun i' y h => by omega, (h4 j hx).at⟩⟩
 | o1 :: l, k, e, mt, c, E, A, xs, ⟨x, xs', h1, h2, h3, h4, h5⟩, i + 1, o, ho => by
  subst h1
  obtain ⟨y, g1, g2, g3, g4⟩ := dhl_at h5 (show l[i]? = some o from by simpa using ho)
  have hk : k + 1 + i = k + (i + 1) := by omega
  rw [hk] at g2 g3 g4
  refine ⟨y, g1, ?_, by simpa [effL] using g3, fun j hx => ⟨fun i' z hi' hz hj => ?_, fun q hq => (g4 j hx).2 q (by simp [hq])⟩⟩
  ·have e1 : c + (nwL k ((x :: xs').take (i + 1))).length = c + (x.nws k).length + (nwL (k + 1) (xs'.take i)).length := by simp [nwL]; omega
   rw [e1]
   exact g2
  ·cases i' with
   | zero =>
    obtain rfl : x = z := by simpa using hz
    have : (k, x.R) ∈ A ++ x.acc k := by
     unfold One.acc
     rw [if_neg (fun e => by rw [e] at hj; simp at hj)]; simp
    exact (g4 j hx).2 (k, x.R) this hj
   | succ i' =>
    have := (g4 j hx).1 i' z (by omega) (by simpa using hz) hj
    rwa [show k + 1 + i' = k + (i' + 1) by omega] at this
theorem mtL_meM : ∀ (xs : List One) (k : Nat) (mt : List Ob), mtL xs mt = meM mt (fun _ => true) (effL k xs)
 | [], _, _ => rfl
 | x :: l, k, mt => by
  simp only [mtL, effL]
  rw [meM_app, mtL_meM l (k + 1)]
  congr 1
  exact (One.mt_true x k mt _ rfl).symm
theorem effL_app : ∀ (xs ys : List One) (k : Nat), effL k (xs ++ ys) = effL k xs ++ effL (k + xs.length) ys
 | [], _, _ => by simp [effL]
 | x :: l, ys, k => by simp only [List.cons_append, effL, effL_app l ys, List.append_assoc, List.length_cons]; rw [show k + 1 + l.length = k + (l.length + 1) by omega]
theorem nwL_app : ∀ (xs ys : List One) (k : Nat), nwL k (xs ++ ys) = nwL k xs ++ nwL (k + xs.length) ys
 | [], _, _ => by simp [nwL]
 | x :: l, ys, k => by simp only [List.cons_append, nwL, nwL_app l ys, List.append_assoc, List.length_cons]; rw [show k + 1 + l.length = k + (l.length + 1) by omega]
theorem SimM.room {pb : Nat → Prop} {w0 : Bs} {w : World} : ∀ (K : Nat) {θ : List Value} {mem : List Ob}, SimM pb w0 w θ mem → Step pb w0 θ mem w (θ ++ List.replicate K undef) (mem ++ List.replicate K .gone) w
 | 0, θ, mem, h => by simp only [List.replicate_zero, List.append_nil]; exact Step.refl h
 | K + 1, θ, mem, h => by
  have s := Step.new h (Ext.refl w) undef .gone (fun b hb => by cases hb) (fun _ _ _ => trivial)
  have h1 := SimM.room K s.sim
  simp only [List.append_assoc, List.singleton_append, ← List.replicate_succ] at h1
  exact s.trans h1
theorem map_setN {β γ : Type} {sf : List γ} {p : Nat} {q : γ} {f g : γ → β} (A : List β) (hp : sf[p]? = some q) (hfg : ∀ p' q', sf[p']? = some q' → p' ≠ p → g q' = f q') : (A ++ sf.map f).set (A.length + p) (g q) = A ++ sf.map g := by
 have hlt := (List.getElem?_eq_some_iff.1 hp).1
 refine List.ext_getElem? fun i => ?_
 by_cases hi : A.length + p = i
 ·subst hi
  rw [List.getElem?_set_self (by simp; exact hlt), List.getElem?_append_right (by omega), show A.length + p - A.length = p by omega, List.getElem?_map, hp]; rfl
 ·rw [List.getElem?_set_ne hi]
  rcases Nat.lt_or_ge i A.length with h | h
  ·rw [List.getElem?_append_left h, List.getElem?_append_left h]
  ·rw [List.getElem?_append_right h, List.getElem?_append_right h, List.getElem?_map, List.getElem?_map]
   cases hq : sf[i - A.length]? with
   | none => rfl
   | some q' => simp only [Option.map_some]; rw [hfg _ q' hq (by omega)]
theorem map_set2 {β γ : Type} {sf : List γ} {p : Nat} {q1 q2 : γ} {f g : γ → β} (A : List β) (hp1 : sf[p]? = some q1) (hp2 : sf[p + 1]? = some q2) (hfg : ∀ p' q', sf[p']? = some q' → p' ≠ p → p' ≠ p + 1 → g q' = f q') : ((A ++ sf.map f).set (A.length + p) (g q1)).set (A.length + p + 1) (g q2) = A ++ sf.map g := by
 have hlt := (List.getElem?_eq_some_iff.1 hp1).1
 have hlt2 := (List.getElem?_eq_some_iff.1 hp2).1
 refine List.ext_getElem? fun i => ?_
 by_cases hi2 : A.length + p + 1 = i
 ·subst hi2
  rw [List.getElem?_set_self (by simp; omega), List.getElem?_append_right (by omega), show A.length + p + 1 - A.length = p + 1 by omega, List.getElem?_map, hp2]; rfl
 ·rw [List.getElem?_set_ne hi2]
  by_cases hi : A.length + p = i
  ·subst hi
   rw [List.getElem?_set_self (by simp; omega), List.getElem?_append_right (by omega), show A.length + p - A.length = p by omega, List.getElem?_map, hp1]; rfl
  ·rw [List.getElem?_set_ne hi]
   rcases Nat.lt_or_ge i A.length with h | h
   ·rw [List.getElem?_append_left h, List.getElem?_append_left h]
   ·rw [List.getElem?_append_right h, List.getElem?_append_right h, List.getElem?_map, List.getElem?_map]
    cases hq : sf[i - A.length]? with
    | none => rfl
    | some q' => simp only [Option.map_some]; rw [hfg _ q' hq (by omega) (by omega)]
theorem rep_map {α β : Type} (l : List α) (b : β) : (l.map fun _ => b) = List.replicate l.length b := by
 induction l with
 | nil => rfl
 | cons x l ih => simp [List.replicate_succ, ih]
theorem aw_drawH {id : Nat} {l : List Oper} {e : Nat → AV} (n K : Nat) (hm : P.follows .mixedOrders = true) (hd : noDefer l = true) (hB : relB l.toArray n = true) (hE : envB l (l.take n) 0 N = true)
 (h : ∀ mt, mt = mem ++ List.replicate K .gone → DH P N l (l.drop n) Q mem.length K (l.take n) 0 e mt 0 [] []) : AW M P N (.region id l.toArray true) Q e mem := by
 refine aw_any hm hd fun pb w0 θ a w hf => ?_
 obtain ⟨xs, h1, h2, hK, h3⟩ := dh_list (h _ rfl)
 rw [Nat.zero_add] at hK
 have hn : n ≤ l.length := by
  simp only [relB, Bool.and_eq_true, decide_eq_true_eq] at hB
  simpa using hB.1.1.1.2
 have hlen : xs.length = n := by rw [h1]; simp; omega
 have hrl : (xs.map (·.r)).length = n := by simp [hlen]
 have hsz : ∀ i, i ≤ n → ((l.take i).map (·.dst)).all (fun d => dstB N d) = true := by
  intro i hi
  have key : ∀ (m : List Oper) (k : Nat), envB l m k N = true → (m.map (·.dst)).all (fun d => dstB N d) = true := by
   intro m
   induction m with
   | nil => intro _ _; rfl
   | cons o m ih =>
    intro k hk
    simp only [envB, Bool.and_eq_true] at hk
    simp only [List.map_cons, List.all_cons, Bool.and_eq_true]
    refine ⟨?_, ih _ hk.2⟩
    have := hk.1.1
    cases hd : o.dst with
    | none => rfl
    | some d => rw [hd] at this; simp only [Bool.and_eq_true] at this; exact this.1
  have := key _ _ hE
  rw [List.all_eq_true] at this ⊢
  intro d hd
  obtain ⟨o, ho, rfl⟩ := List.mem_map.1 hd
  refine this _ (List.mem_map.2 ⟨o, ?_, rfl⟩)
  have e1 : l.take i = (l.take n).take i := by rw [List.take_take, Nat.min_eq_left hi]
  rw [e1] at ho
  exact List.mem_of_mem_take ho
 -- the slots in the order of the text
 have fits : ∀ V i, i ≤ n → Fits l (xs.map (·.r)) V e (fun t => a.tmps.getD t undef) i (upL ((l.take n).take i) e (xs.map (·.r))) (fun t => (putsAll V (l.take i) 0 a).tmps.getD t undef) := by
  intro V i hi
  obtain ⟨a1, a2, a3⟩ := env_putsD V N ((l.take i).map (·.dst)) 0 a hf.size (hsz i hi)
  have h0 : Fits l ((xs.map (·.r)).take i) V e (fun t => a.tmps.getD t undef) 0 e (fun t => a.tmps.getD t undef) := fun t => .inr ⟨fun j o hj _ => absurd hj (Nat.not_lt_zero _), rfl, rfl⟩
  have hfit := upL_fit (l := l) (n := i) (rs := (xs.map (·.r)).take i) (V := V) (e0 := e) (v0 := fun t => a.tmps.getD t undef) (by omega) (by simp; omega) (m := l.take i) (k := 0) (rs' := (xs.map (·.r)).take i) rfl rfl h0 (Nat.zero_le _)
  have e2 : ∀ (m : List Oper) (rs : List AV) (e : Nat → AV), upL m e (rs.take m.length) = upL m e rs := by
   intro m
   induction m with
   | nil => intro rs e; cases rs <;> rfl
   | cons o m ih => intro rs e; cases rs with
    | nil => rfl
    | cons r rs => exact ih rs _
  have e3 : (l.take i).length = i := by simp; omega
  have e4 : upL (l.take i) e ((xs.map (·.r)).take i) = upL (l.take i) e (xs.map (·.r)) := by
   have := e2 (l.take i) (xs.map (·.r)) e; rwa [e3] at this
  rw [List.take_take, Nat.min_eq_left hi]
  intro t
  have := hfit t
  rw [e4] at this
  rw [putsAll_D]
  simp only [a3 t]
  rcases this with ⟨j, o, x, b1, b2, b3, b4, b5, b6⟩ | ⟨b1, b2, b3⟩
  ·exact .inl ⟨j, o, x, b1, b2, b3, by rw [List.getElem?_take_of_lt b1] at b4; exact b4, b5, b6⟩
  ·exact .inr ⟨b1, b2, b3⟩
 let base := mem ++ List.replicate K Ob.gone
 let th : (Nat → Bool) → (Nat → Value) → List Value := fun m V => θ ++ (nwL 0 xs).map fun q => if m q.1 = true then q.2 (V q.1) else undef
 let me : (Nat → Bool) → List Ob := fun m => meM base m (effL 0 xs)
 let BB : (Nat → Bool) → (Nat → Value) → World → Prop := fun m V w' => Step pb w0 θ mem w (th m V) (me m) w' ∧
  (∀ k x, k < n → m k = true → xs[k]? = some x → R1 (th m V) (Prot pb (th m V) (me m)) w' x.r (V k)) ∧ ∀ k o, m k = true → l[k]? = some o → ∀ ed ∈ o.after, Region.binds .any ed = true → m ed.on = true
 have wtm : ∀ {m : Nat → Bool}, (∀ k o, m k = true → l[k]? = some o → ∀ ed ∈ o.after, Region.binds .any ed = true → m ed.on = true) → ∀ {i k : Nat}, Wt l i k → m i = true → m k = true := by
  intro m hcl i k hw
  induction hw with
  | one ho hw =>
   intro hi
   unfold waitsB at hw
   rw [List.any_eq_true] at hw
   obtain ⟨ed, he, hk⟩ := hw
   simp only [Bool.and_eq_true, beq_iff_eq] at hk
   rw [← hk.1]
   exact hcl _ _ hi ho ed (by simpa using he) hk.2
  | trans _ _ ih1 ih2 => exact fun hi => ih2 (ih1 hi)
 refine any_relV n BB hB ?_ ?_ ?_
 ·have g1 := (Step.ext hf.sim (Ext.one w)).trans (SimM.room K (hf.sim.ext' (Ext.one w)))
  have e1 : th (fun _ => false) (fun _ => undef) = θ ++ List.replicate K undef := by
   simp only [th, Bool.false_eq_true, if_false, rep_map, hK]
  have e2 : me (fun _ => false) = base := by
   have : ∀ (l : List Eff) (base : List Ob), meM base (fun _ => false) l = base := by
    intro l
    induction l with
    | nil => intro _; rfl
    | cons q l ih => intro base; simp only [meM]; rw [ih]; simp
   exact this _ _
  refine ⟨by rw [e1, e2]; exact g1, ?_, ?_⟩
  ·intro k x _ hk; cases hk
  ·intro k o hk; cases hk
 ·intro V i o m w1 hin hok hmi hdep ⟨hst0, hrs, hcl⟩
  have hs := hst0.sim
  have h0 : ∀ t, R1 (th m V) (Prot pb (th m V) (me m)) w1 (e t) (a.tmps.getD t undef) := fun t => hst0.keep _ _ (hf.sl t)
  have hio : (l.take n)[i]? = some o := by rw [List.getElem?_take_of_lt hin]; exact hok
  obtain ⟨x, hx, hdo, hchk, hchk2⟩ := dhl_at h2 hio
  simp only [Nat.zero_add, List.nil_append] at hdo hchk hchk2
  have hfit := fits V i (Nat.le_of_lt hin)
  obtain ⟨hedge, hgw, hlk⟩ := rel_head hB hin hok
  -- those that it waits for are through, and those that wait for it are not
  have wt0 : ∀ {k : Nat}, waitsB o k = true → m k = true := fun {k} hw => by
   unfold waitsB at hw
   rw [List.any_eq_true] at hw
   obtain ⟨ed, he, hk⟩ := hw
   simp only [Bool.and_eq_true, beq_iff_eq] at hk
   rw [← hk.1]
   exact hdep ed (by simpa using he) hk.2
  have wt1 : ∀ {k : Nat}, Wt l i k → m k = true := by
   have key : ∀ {j k : Nat}, Wt l j k → j = i → m k = true := by
    intro j k hw
    induction hw with
    | one ho hw => rintro rfl; rw [hok] at ho; cases ho; exact wt0 hw
    | trans _ h2 ih1 _ => exact fun hj => wtm hcl h2 (ih1 hj)
   exact fun {_} hw => key hw rfl
  have wt2 : ∀ {k : Nat}, Wt l k i → m k = false := fun {k} hw => by
   cases hk : m k with
   | false => rfl
   | true => have := wtm hcl hw hk; rw [hmi] at this; cases this
  have slot : ∀ t, (o.looksAt l.toArray).contains t = true → R1 (th m V) (Prot pb (th m V) (me m)) w1 (upL ((l.take n).take i) e (xs.map (·.r)) t) ((putsAll V (l.take i) 0 a).tmps.getD t undef) := by
   intro t ht
   rcases hfit t with ⟨j, o', y, a1, a2, a3, a4, a5, a6⟩ | ⟨a1, a2, a3⟩
   ·have := ((hlk j t (by omega) (by rw [a2]; exact a3)).1 ht).resolve_right (fun h => absurd h.1 (by omega))
    rw [a5, show (putsAll V (l.take i) 0 a).tmps.getD t undef = V j from a6]
    rw [List.getElem?_map] at a4
    cases hy : xs[j]? with
    | none => rw [hy] at a4; cases a4
    | some z =>
     rw [hy] at a4
     obtain rfl : z.r = y := by simpa using a4
     exact hrs j z (by omega) (wt0 this.2) hy
   ·rw [a2, show (putsAll V (l.take i) 0 a).tmps.getD t undef = a.tmps.getD t undef from a3]; exact h0 t
  have opr : ∀ y ∈ o.op.operands, R1 (th m V) (Prot pb (th m V) (me m)) w1 (evA (upL ((l.take n).take i) e (xs.map (·.r))) y) (evE (fun t => (putsAll V (l.take i) 0 a).tmps.getD t undef) y) := by
   intro y hym
   cases y with
   | tmp t => exact slot t (looks_of hym)
   | const v => exact .ro (.v v)
   | global g => exact .ro (.v _)
   | func f => exact .ro (.v _)
  have wtd : Gd l.toArray o (upL ((l.take n).take i) e (xs.map (·.r))) → Region.wanted o (yielded l.toArray (putsAll V (l.take i) 0 a).tmps) = true := by
   intro hg
   unfold Region.wanted
   unfold Gd at hg
   cases hgd : o.guard with
   | none => rfl
   | some g =>
    obtain ⟨j, b⟩ := g
    rw [hgd] at hg
    obtain ⟨d, g1, g2⟩ := hg
    have hv := slot d (looks_guard hgd g1)
    rw [show upL ((l.take n).take i) e (xs.map (·.r)) d = _ from g2] at hv
    simp [yielded_of g1 hv.val]
  have uwd : Ng l.toArray o (upL ((l.take n).take i) e (xs.map (·.r))) → Region.wanted o (yielded l.toArray (putsAll V (l.take i) 0 a).tmps) = false := by
   intro hg
   unfold Region.wanted
   unfold Ng at hg
   cases hgd : o.guard with
   | none => rw [hgd] at hg; exact hg.elim
   | some g =>
    obtain ⟨j, b⟩ := g
    rw [hgd] at hg
    obtain ⟨d, g1, g2⟩ := hg
    have hv := slot d (looks_guard hgd g1)
    rcases g2 with g2 | g2
    ·rw [show upL ((l.take n).take i) e (xs.map (·.r)) d = _ from g2] at hv
     simp [yielded_of g1 hv.val]
    ·rw [show upL ((l.take n).take i) e (xs.map (·.r)) d = _ from g2] at hv
     simp [yielded_undef g1 hv.val]
  have hsplit : xs = xs.take i ++ x :: xs.drop (i + 1) := by
   have := List.take_append_drop i xs
   rw [List.drop_eq_getElem_cons (by omega)] at this
   have e : xs[i]'(by omega) = x := by rw [List.getElem?_eq_getElem (by omega)] at hx; simpa using hx
   rw [e] at this
   exact this.symm
  have htk : (xs.take i).length = i := by simp; omega
  have heff : effL 0 xs = effL 0 (xs.take i) ++ (x.effs i ++ effL (i + 1) (xs.drop (i + 1))) := by
   have := effL_app (xs.take i) (x :: xs.drop (i + 1)) 0
   rw [← hsplit, htk, Nat.zero_add] at this
   exact this
  have hnws : nwL 0 xs = nwL 0 (xs.take i) ++ (x.nws i ++ nwL (i + 1) (xs.drop (i + 1))) := by
   have := nwL_app (xs.take i) (x :: xs.drop (i + 1)) 0
   rw [← hsplit, htk, Nat.zero_add] at this
   exact this
  -- the places that it asks for are as the text has them
  have hagr : Agr x.R (mtL (xs.take i) base) (me m) := by
   intro j hj
   have hmt : mtL (xs.take i) base = meM base (fun _ => true) (effL 0 (xs.take i)) := mtL_meM _ 0 _
   rw [hmt]
   show (meM base m (effL 0 xs))[j]? = _
   rw [heff, meM_app]
   have late : ∀ q ∈ x.effs i ++ effL (i + 1) (xs.drop (i + 1)), q.idx = j → m q.op = false := by
    intro q hq hqj
    rcases List.mem_append.1 hq with hq | hq
    ·rw [(eff_op hq).1]; exact hmi
    ·obtain ⟨k, y, h5, h6, h7⟩ := effL_at hq
     rw [List.getElem?_drop] at h5
     obtain ⟨ok, hok'⟩ : ∃ ok, (l.take n)[i + 1 + k]? = some ok := by
      have : i + 1 + k < xs.length := (List.getElem?_eq_some_iff.1 h5).1
      exact ⟨_, List.getElem?_eq_getElem (by simp; omega)⟩
     obtain ⟨y', g1, _, _, g4⟩ := dhl_at h2 hok'
     rw [h5] at g1; cases g1
     simp only [Nat.zero_add] at g4
     have := (g4 q.idx h7).1 i x (by omega) hx (by rw [hqj]; exact hj)
     rw [h6]
     exact wt2 this
   rw [meM_none late]
   refine meM_get rfl rfl fun q hq hqj => ?_
   exact (wt1 (hchk.at q hq (by rw [hqj]; exact hj)))
  have hcl' : ∀ k o', (k == i || m k) = true → l[k]? = some o' → ∀ ed ∈ o'.after, Region.binds .any ed = true → (ed.on == i || m ed.on) = true := by
   intro k o' hk ho' ed hed hb
   by_cases hki : k = i
   ·subst hki; rw [hok] at ho'; cases ho'
    simp [hdep ed hed hb]
   ·simp [hcl k o' (by simpa [hki] using hk) ho' ed hed hb]
  have thn : x.new = false → ∀ v, th (fun j => j == i || m j) (fun j => if j = i then v else V j) = th m V := fun hnew v => by
   show θ ++ _ = θ ++ _
   congr 1
   refine List.map_congr_left fun q hq => ?_
   have : q.1 ≠ i := by
    rintro rfl
    obtain ⟨k, y, h5, h6, h7⟩ := nwL_at hq
    rw [Nat.zero_add] at h6; rw [← h6] at h5
    rw [hx] at h5; cases h5
    rw [hnew] at h7; cases h7
   simp [this]
  unfold Does at hdo
  cases hxe : x.eff with
  | none =>
   rw [hxe] at hdo
   obtain ⟨hnew, hdo⟩ := hdo
   have e2 : me (fun j => j == i || m j) = me m := by
    show meM base _ _ = meM base _ _
    refine List.ext_getElem? fun j => meM_get rfl rfl fun q hq _ => ?_
    obtain ⟨k, y, h5, h6, h7⟩ := effL_at hq
    have : q.op ≠ i := by
     intro e'
     have : k = i := by omega
     subst this
     rw [hx] at h5; cases h5
     rcases h7 with ⟨ob, h7⟩ | ⟨_, h7⟩
     ·rw [hxe] at h7; cases h7
     ·exact h7 hxe
    simp [this]
   have fin : ∀ v w', R1 (th m V) (Prot pb (th m V) (me m)) w' x.r v → Ext w1 w' → BB (fun j => j == i || m j) (fun j => if j = i then v else V j) w' := by
    intro v w' hv hxt
    refine ⟨by rw [thn hnew, e2]; exact hst0.trans (Step.ext hs hxt), fun k y hk hmk hyk => ?_, hcl'⟩
    rw [thn hnew, e2]
    by_cases hki : k = i
    ·subst hki; rw [hx] at hyk; cases hyk; simpa using hv
    ·simp only [if_neg hki]
     exact (hrs k y hk (by simpa [hki] using hmk) hyk).ext hxt
   rcases hdo with ⟨hg, hro⟩ | ⟨hg, hr⟩
   ·rw [if_pos (wtd hg), evE_of]
    exact RelUpon.mono (fun v w' ⟨g1, g2⟩ => fin v w' g1 g2) (hro _ hagr pb w0 _ w1 _ hs opr)
   ·rw [if_neg (by rw [uwd hg]; exact Bool.false_ne_true)]
    exact fin undef w1 (by rw [hr]; exact .ro (.v _)) (Ext.refl _)
  | some p =>
   obtain ⟨j, ob⟩ := p
   rw [hxe] at hdo
   obtain ⟨hjR, hiR, hg, hdo⟩ := hdo
   have hthlen : (th m V).length = mem.length + K := by
    show (θ ++ _).length = _
    rw [List.length_append, List.length_map, hK, hf.sim.len]
   have hwR : ∀ j, x.wr j → j ∈ x.R := fun j' h => by
    rcases h with ⟨ob', h⟩ | ⟨⟨oi, h⟩, _⟩
    ·rw [hxe] at h; cases h; exact hjR
    ·exact hiR _ _ h
   -- the objects with this one written
   have e2 : x.mt (me m) = me (fun k => k == i || m k) := by
    show x.mt (meM base m (effL 0 xs)) = meM base _ (effL 0 xs)
    rw [heff, meM_app, meM_app, meM_app, meM_app, One.mt_false x i _ m hmi, One.mt_true x i _ (fun k => k == i || m k) (by simp)]
    have e3 : meM base (fun k => k == i || m k) (effL 0 (xs.take i)) = meM base m (effL 0 (xs.take i)) := by
     refine List.ext_getElem? fun j' => meM_get rfl rfl fun q hq _ => ?_
     obtain ⟨k, y, h5, h6, h7⟩ := effL_at hq
     have h8 := (List.getElem?_eq_some_iff.1 h5).1
     have : q.op ≠ i := by rw [htk] at h8; omega
     simp [this]
    rw [e3]
    generalize meM base m (effL 0 (xs.take i)) = B0
    have late : ∀ q ∈ effL (i + 1) (xs.drop (i + 1)), (x.wr q.idx → (q.op == i || m q.op) = false ∧ m q.op = false) ∧ (q.op == i || m q.op) = m q.op := by
     intro q hq
     obtain ⟨k, y, h5, h6, h7⟩ := effL_at hq
     have h9 : q.op ≠ i := by omega
     refine ⟨fun hwr => ?_, by simp [h9]⟩
     rw [List.getElem?_drop] at h5
     obtain ⟨ok, hok'⟩ : ∃ ok, (l.take n)[i + 1 + k]? = some ok := by
      have : i + 1 + k < xs.length := (List.getElem?_eq_some_iff.1 h5).1
      exact ⟨_, List.getElem?_eq_getElem (by simp; omega)⟩
     obtain ⟨y', g1, _, _, g4⟩ := dhl_at h2 hok'
     rw [h5] at g1; cases g1
     simp only [Nat.zero_add] at g4
     have := (g4 q.idx h7).1 i x (by omega) hx (hwR _ hwr)
     have h8 : m q.op = false := by rw [h6]; exact wt2 this
     simp [h8, h9]
    refine List.ext_getElem? fun j' => ?_
    by_cases hwr : x.wr j'
    ·rw [meM_none (fun q hq hqj => ((late q hq).1 (by rw [hqj]; exact hwr)).1)]
     exact One.mt_at (meM_len _ _ _) hwr
    ·rw [One.mt_ne _ hwr]
     refine meM_get (One.mt_len x B0).symm (One.mt_ne _ hwr).symm fun q hq _ => ?_
     exact ((late q hq).2).symm
   cases hnew : x.new with
   | false =>
    rw [hnew] at hdo
    simp only [Bool.false_eq_true, if_false] at hdo
    obtain ⟨hold, hr, hst⟩ := hdo
    rw [if_pos (wtd hg), evE_of]
    refine RelUpon.mono (fun v w' ⟨_, st⟩ => ?_) (hst _ hagr pb w0 _ w1 _ hs opr)
    have e4 : (me m).set j ob = x.mt (me m) := by simp only [One.mt, hxe, hold]
    rw [e4, e2] at st
    refine ⟨by rw [thn hnew]; exact hst0.trans st, fun k y hk hmk hyk => ?_, hcl'⟩
    rw [thn hnew]
    by_cases hki : k = i
    ·subst hki; rw [hx] at hyk; cases hyk; rw [hr]; exact .ro (.any _)
    ·simp only [if_neg hki]
     exact st.keep _ _ (hrs k y hk (by simpa [hki] using hmk) hyk)
   | true =>
    rw [hnew] at hdo
    simp only [if_true] at hdo
    have other : ∀ p' q', (nwL 0 xs)[p']? = some q' → (p' < (nwL 0 (xs.take i)).length ∨ (nwL 0 (xs.take i)).length + (x.nws i).length ≤ p') → q'.1 ≠ i := by
     intro p' q' hp' hne e'
     rw [hnws] at hp'
     rcases hne with hlt | hge
     ·rw [List.getElem?_append_left hlt] at hp'
      obtain ⟨k, y, h5, h6, h7⟩ := nwL_at (List.mem_of_getElem? hp')
      have := (List.getElem?_eq_some_iff.1 h5).1
      simp at this; omega
     ·rw [List.getElem?_append_right (by omega), List.getElem?_append_right (by omega)] at hp'
      obtain ⟨k, y, h5, h6, h7⟩ := nwL_at (List.mem_of_getElem? hp')
      omega
    cases hpj : x.pj with
    | none =>
     rw [hpj] at hdo
     obtain ⟨hgone, hj0, hh, hr, hnw⟩ := hdo
     have hxn : x.nws i = [(i, fun v => v)] := by simp [One.nws, hnew, hpj]
     have hjK : j < mem.length + K := by
      rw [hj0, ← hK, hnws, hxn]; simp
     have hpos : (nwL 0 xs)[j - mem.length]? = some (i, fun v => v) := by
      rw [hnws, hxn, hj0, List.getElem?_append_right (by omega)]
      simp
     have hvk : (th m V)[j]? = some undef := by
      show (θ ++ _)[j]? = _
      rw [List.getElem?_append_right (by rw [hf.sim.len]; omega), hf.sim.len, List.getElem?_map, hpos]
      simp [hmi]
     have hmk : (me m)[j]? = some .gone := (hagr j hjR).trans hgone
     rw [if_pos (wtd hg), evE_of]
     have hnw' : RelUpon P (fun v w' => Step pb w0 (th m V) (me m) w1 ((th m V).set j v) (x.mt (me m)) w' ∧ ∀ θ' pr j, θ'[j]? = some v → R1 θ' pr w' (hh j) v) ((execOp (evE fun t => (putsAll V (l.take i) 0 a).tmps.getD t undef) o).run P w1) := by
      have hnw := hnw _ hagr
      cases hold : x.old with
      | none =>
       rw [hold] at hnw
       refine RelUpon.mono (fun v w' ⟨g1, g2, g3, g4⟩ => ⟨?_, g4⟩) (hnw pb w0 _ w1 _ hs opr)
       have e4 : x.mt (me m) = (me m).set j ob := by simp only [One.mt, hxe, hold]
       rw [e4]
       exact Step.fill hs hmk hvk g1 v ob g2 g3
      | some q0 =>
       obtain ⟨i0, oi⟩ := q0
       rw [hold] at hnw
       obtain ⟨hoi, hnw⟩ := hnw
       subst hoi
       refine RelUpon.mono (fun v w' ⟨o0, v0, f1, f2, f3, f4, f5, f6, f7, f8⟩ => ⟨?_, f8⟩) (hnw pb w0 _ w1 _ hs opr)
       have e4 : x.mt (me m) = ((me m).set i0 .gone).set j ob := by simp only [One.mt, hxe, hold]
       rw [e4]
       exact Step.swapF hs f1 f2 f3 hmk hvk f4 f5 v ob f6 f7
     refine RelUpon.mono (fun v w' ⟨st, g4⟩ => ?_) hnw'
     have e1 : (th m V).set j v = th (fun k => k == i || m k) (fun k => if k = i then v else V k) := by
      have := map_setN (f := fun q : Nat × (Value → Value) => if m q.1 = true then q.2 (V q.1) else undef) (g := fun q : Nat × (Value → Value) => if (q.1 == i || m q.1) = true then q.2 (if q.1 = i then v else V q.1) else undef) θ hpos (fun p' q' hp' hne => by
       have := other p' q' hp' (by rw [hxn]; simp; omega)
       simp [this])
      simp only [beq_self_eq_true, Bool.true_or, if_true] at this
      rw [show θ.length + (j - mem.length) = j by rw [hf.sim.len]; omega] at this
      exact this
     rw [e1, e2] at st
     refine ⟨hst0.trans st, fun k y hk hmk' hyk => ?_, hcl'⟩
     by_cases hki : k = i
     ·subst hki
      rw [hx] at hyk; cases hyk
      simp only [if_true]
      rw [hr]
      refine g4 _ _ _ ?_
      rw [← e1, List.getElem?_set_self (List.getElem?_eq_some_iff.1 hvk).1]
     ·simp only [if_neg hki]
      exact st.keep _ _ (hrs k y hk (by simpa [hki] using hmk') hyk)
    | some pp =>
     obtain ⟨p1, p2⟩ := pp
     rw [hpj] at hdo
     obtain ⟨i0, oi, hold, hgone1, hgone2, hi0, hj0, hh, hr, hnw⟩ := hdo
     have hxn : x.nws i = [(i, p1), (i, p2)] := by simp [One.nws, hnew, hpj]
     have hjK : j < mem.length + K := by
      rw [hj0, ← hK, hnws, hxn]; simp; omega
     have hpos1 : (nwL 0 xs)[i0 - mem.length]? = some (i, p1) := by
      rw [hnws, hxn, hi0, List.getElem?_append_right (by omega)]
      simp
     have hpos2 : (nwL 0 xs)[i0 - mem.length + 1]? = some (i, p2) := by
      rw [hnws, hxn, hi0, List.getElem?_append_right (by omega), show mem.length + (nwL 0 (xs.take i)).length - mem.length + 1 - (nwL 0 (xs.take i)).length = 1 by omega]
      rfl
     have hvk1 : (th m V)[i0]? = some undef := by
      show (θ ++ _)[i0]? = _
      rw [List.getElem?_append_right (by rw [hf.sim.len]; omega), hf.sim.len, List.getElem?_map, hpos1]
      simp [hmi]
     have hvk2 : (th m V)[j]? = some undef := by
      show (θ ++ _)[j]? = _
      rw [List.getElem?_append_right (by rw [hf.sim.len]; omega), hf.sim.len, List.getElem?_map, show j - mem.length = i0 - mem.length + 1 by omega, hpos2]
      simp [hmi]
     have hmk1 : (me m)[i0]? = some .gone := (hagr i0 (hiR _ _ hold)).trans hgone1
     have hmk2 : (me m)[j]? = some .gone := (hagr j hjR).trans hgone2
     rw [if_pos (wtd hg), evE_of]
     refine RelUpon.mono (fun v w' ⟨g1, g2, g2', gd, g3, g4⟩ => ?_) (hnw _ hagr pb w0 _ w1 _ hs opr)
     have e4 : x.mt (me m) = ((me m).set i0 oi).set j ob := by simp only [One.mt, hxe, hold]
     have st := Step.fill2 hs (show i0 ≠ j by omega) hmk1 hvk1 hmk2 hvk2 g1 (p1 v) (p2 v) oi ob g2 g2' gd g3
     have e1 : ((th m V).set i0 (p1 v)).set j (p2 v) = th (fun k => k == i || m k) (fun k => if k = i then v else V k) := by
      have := map_set2 (f := fun q : Nat × (Value → Value) => if m q.1 = true then q.2 (V q.1) else undef) (g := fun q : Nat × (Value → Value) => if (q.1 == i || m q.1) = true then q.2 (if q.1 = i then v else V q.1) else undef) θ hpos1 hpos2 (fun p' q' hp' hne hne2 => by
       have := other p' q' hp' (by rw [hxn]; simp; omega)
       simp [this])
      simp only [beq_self_eq_true, Bool.true_or, if_true] at this
      rw [show θ.length + (i0 - mem.length) = i0 by rw [hf.sim.len]; omega, show i0 + 1 = j by omega] at this
      exact this
     have h1θ : (((th m V).set i0 (p1 v)).set j (p2 v))[i0]? = some (p1 v) := by
      rw [List.getElem?_set_ne (by omega), List.getElem?_set_self (List.getElem?_eq_some_iff.1 hvk1).1]
     have h2θ : (((th m V).set i0 (p1 v)).set j (p2 v))[j]? = some (p2 v) := by
      rw [List.getElem?_set_self (by simpa using (List.getElem?_eq_some_iff.1 hvk2).1)]
     have hR := g4 (((th m V).set i0 (p1 v)).set j (p2 v)) (Prot pb (((th m V).set i0 (p1 v)).set j (p2 v)) (((me m).set i0 oi).set j ob)) i0 j (fun b hb hp => by
      rcases hp with hp | ⟨q, oo, u, q1, q2, q3, q4⟩
      ·exact .inl ⟨.inl hp, by have := (hs.low b hp).1; have := hs.ext.size; omega⟩
      ·by_cases hq2 : j = q
       ·subst hq2; rw [h2θ] at q3; cases q3; exact .inr (.inr q4)
       ·by_cases hq1 : i0 = q
        ·subst hq1; rw [h1θ] at q3; cases q3; exact .inr (.inl q4)
        ·rw [List.getElem?_set_ne hq2, List.getElem?_set_ne hq1] at q1 q3
         exact .inl ⟨.inr ⟨q, oo, u, q1, q2, q3, q4⟩, ((hs.ob q oo u q1 q3).lt q2 q4).2⟩) h1θ h2θ
     rw [← e4] at st hR
     rw [e1, e2] at st hR
     refine ⟨hst0.trans st, fun k y hk hmk' hyk => ?_, hcl'⟩
     by_cases hki : k = i
     ·subst hki
      rw [hx] at hyk; cases hyk
      simp only [if_true]
      rw [hr]
      exact hR
     ·simp only [if_neg hki]
      exact st.keep _ _ (hrs k y hk (by simpa [hki] using hmk') hyk)
 ·intro V w' ⟨hst0, hrs, _⟩
  have e2 : me (fun k => decide (k < n)) = mtL xs base := by
   rw [mtL_meM xs 0]
   refine List.ext_getElem? fun j => meM_get rfl rfl fun q hq _ => ?_
   obtain ⟨k, y, h5, h6, h7⟩ := effL_at hq
   have := (List.getElem?_eq_some_iff.1 h5).1
   simp; omega
  obtain ⟨a1, a2, a3⟩ := env_putsD V N ((l.take n).map (·.dst)) 0 a hf.size (hsz n (Nat.le_refl _))
  rw [← putsAll_D] at a1 a2
  rw [e2] at hst0 hrs
  have h0 : ∀ t, R1 (th (fun k => decide (k < n)) V) (Prot pb (th (fun k => decide (k < n)) V) (mtL xs base)) w' (e t) (a.tmps.getD t undef) := fun t => hst0.keep _ _ (hf.sl t)
  refine wpList_mono (fun _ _ hq => hq.after hst0) (h3 pb w0 (th (fun k => decide (k < n)) V) _ w' ⟨a1, by rw [a2]; exact hf.dfr.step hst0, fun t => ?_, hst0.sim⟩)
  have hfit := fits V n (Nat.le_refl _)
  rw [List.take_take, Nat.min_self] at hfit
  rcases hfit t with ⟨j, o, y, b1, b2, b3, b4, b5, b6⟩ | ⟨b1, b2, b3⟩
  ·rw [List.getElem?_map] at b4
   cases hy : xs[j]? with
   | none => rw [hy] at b4; cases b4
   | some z =>
    rw [hy] at b4
    obtain rfl : z.r = y := by simpa using b4
    rw [b5, show (putsAll V (l.take n) 0 a).tmps.getD t undef = V j from b6]; exact hrs j z b1 (by simpa using b1) hy
  ·rw [b2, show (putsAll V (l.take n) 0 a).tmps.getD t undef = a.tmps.getD t undef from b3]; exact h0 t
end
section
variable {M : Mode} {P : Program} {N : Nat} {Q : AQ} {ops l tail : List Oper} {n0 K k c : Nat} {e : Nat → AV} {mt : List Ob} {E : List Eff} {A : List (Nat × List Nat)} {o : Oper} {d : Option Tmp} {ty : TypeId} {pos : String} {af : Array Edge} {g : Option (Nat × Bool)} {op : Op}
theorem dh_ro {r : AV} (ho : ∀ M, Agr [] mt M → OpRO P ⟨d, op, ty, pos, af, g⟩ e M r) (hg : Gd ops.toArray ⟨d, op, ty, pos, af, g⟩ e) (h : DH P N ops tail Q n0 K l (k + 1) (upA e d r) mt c E A) : DH P N ops tail Q n0 K (⟨d, op, ty, pos, af, g⟩ :: l) k e mt c E A :=
 ⟨⟨r, [], none, false, none, none⟩, ⟨rfl, .inl ⟨hg, ho⟩⟩, chk_nil, fun _ h => (by rcases h with ⟨_, h⟩ | ⟨⟨_, h⟩, _⟩ <;> cases h), fun mt' hm => by cases hm; simpa [One.effs, One.acc, One.nws, One.mt] using h⟩
theorem dh_ld {r : AV} (j : Nat) (ho : ∀ M, Agr [j] mt M → OpRO P ⟨d, op, ty, pos, af, g⟩ e M r) (hg : Gd ops.toArray ⟨d, op, ty, pos, af, g⟩ e) (hc : Chk ops k [j] E) (h : DH P N ops tail Q n0 K l (k + 1) (upA e d r) mt c E (A ++ [(k, [j])])) : DH P N ops tail Q n0 K (⟨d, op, ty, pos, af, g⟩ :: l) k e mt c E A :=
 ⟨⟨r, [j], none, false, none, none⟩, ⟨rfl, .inl ⟨hg, ho⟩⟩, hc, fun _ h => (by rcases h with ⟨_, h⟩ | ⟨⟨_, h⟩, _⟩ <;> cases h), fun mt' hm => by cases hm; simpa [One.effs, One.acc, One.nws, One.mt] using h⟩
theorem dh_set {ob : Ob} (j : Nat) (ho : ∀ M, Agr [j] mt M → OpSET P ⟨d, op, ty, pos, af, g⟩ e M j ob) (hg : Gd ops.toArray ⟨d, op, ty, pos, af, g⟩ e) (hc : Chk ops k [j] E) (hc2 : Chk2 ops k j A) (h : ∀ m, m = mt.set j ob → DH P N ops tail Q n0 K l (k + 1) (upA e d .any) m c (E ++ [⟨k, j, ob⟩]) (A ++ [(k, [j])])) :
 DH P N ops tail Q n0 K (⟨d, op, ty, pos, af, g⟩ :: l) k e mt c E A :=
 ⟨⟨.any, [j], some (j, ob), false, none, none⟩, ⟨List.mem_singleton.2 rfl, fun _ _ h => (by cases h), hg, by simpa using ho⟩, hc, fun _ h => (by rcases h with ⟨_, h⟩ | ⟨⟨_, h⟩, _⟩ <;> cases h; exact hc2), fun mt' hm => by have := h mt' hm; simpa [One.effs, One.acc, One.nws] using this⟩
theorem dh_sw {ob : Ob} {hh : Nat → AV} (j i : Nat) (ho : ∀ M, Agr [j, i] mt M → OpSW P ⟨d, op, ty, pos, af, g⟩ e M i ob hh) (hg : Gd ops.toArray ⟨d, op, ty, pos, af, g⟩ e) (hgo : mt[j]? = some .gone) (hj : j = n0 + c) (hc : Chk ops k [j, i] E) (hc2 : Chk2 ops k j A) (hc3 : Chk2 ops k i A)
 (h : ∀ m, m = (mt.set i .gone).set j ob → DH P N ops tail Q n0 K l (k + 1) (upA e d (hh j)) m (c + 1) (E ++ [⟨k, i, .gone⟩, ⟨k, j, ob⟩]) (A ++ [(k, [j, i])])) : DH P N ops tail Q n0 K (⟨d, op, ty, pos, af, g⟩ :: l) k e mt c E A :=
 ⟨⟨hh j, [j, i], some (j, ob), true, some (i, .gone), none⟩, ⟨by simp, fun _ _ h => (by cases h; simp), hg, by simpa using ⟨hgo, hj, hh, rfl, ho⟩⟩, hc, fun _ h => (by
  rcases h with ⟨_, h⟩ | ⟨⟨_, h⟩, _⟩
  ·cases h; exact hc2
  ·cases h; exact hc3), fun mt' hm => by have := h mt' hm; simpa [One.effs, One.acc, One.nws] using this⟩
theorem dh_nil (hc : c = K) (h : AL P N ops.toArray tail Q e mt) : DH P N ops tail Q n0 K [] k e mt c E A := ⟨hc, h⟩
theorem aw_drawK {mem : List Ob} {id : Nat} (n K : Nat) (hl : mem.length = n0) (hm : P.follows .mixedOrders = true) (hd : noDefer l = true) (hB : relB l.toArray n = true) (hE : envB l (l.take n) 0 N = true)
 (h : ∀ mt, mt = mem ++ List.replicate K .gone → DH P N l (l.drop n) Q n0 K (l.take n) 0 e mt 0 [] []) : AW M P N (.region id l.toArray true) Q e mem := aw_drawH n K hm hd hB hE (by rw [hl]; exact h)
end
section
variable {mem m : List Ob} {o : Ob} {q : Option Ob} {i j n K : Nat}
theorem m_room_o (h : m = mem ++ List.replicate K .gone) (hi : mem[i]? = some o) : m[i]? = some o := by subst h; rw [List.getElem?_append_left (List.getElem?_eq_some_iff.1 hi).1]; exact hi
theorem m_room_g (h : m = mem ++ List.replicate K .gone) (hl : mem.length = n) (p : Nat) (hp : (decide (p < K)) = true) (hj : j = n + p) : m[j]? = some .gone := by
 subst h; subst hj; subst hl
 rw [List.getElem?_append_right (by omega), List.getElem?_replicate_of_lt (by simp at hp; omega)]
theorem m_sw (h : m = (mem.set i .gone).set j o) (hj : mem[j]? = some .gone) : m[j]? = some o := by subst h; rw [List.getElem?_set_self (by have := (List.getElem?_eq_some_iff.1 hj).1; simpa using this)]
theorem m_sw_o {l : Nat} (h : m = (mem.set i .gone).set j o) (hl : mem[l]? = q) (h1 : l ≠ i) (h2 : l ≠ j) : m[l]? = q := by subst h; rw [List.getElem?_set_ne (Ne.symm h2), List.getElem?_set_ne (Ne.symm h1)]; exact hl
theorem m_sw_l (h : m = (mem.set i .gone).set j o) (hl : mem.length = n) : m.length = n := by subst h; simpa using hl
theorem m_room_l (h : m = mem ++ List.replicate K .gone) (hl : mem.length = n) : m.length = n + K := by subst h; subst hl; simp
end
section
variable {P : Program} {e : Nat → AV} {mem : List Ob} {d : Option Tmp} {ty t t2 : TypeId} {pos : String} {af : Array Edge} {g : Option (Nat × Bool)} {x y z : Operand}
end
end Go.Proofs.YtjhcfpdgldpicaaGreatDoor
