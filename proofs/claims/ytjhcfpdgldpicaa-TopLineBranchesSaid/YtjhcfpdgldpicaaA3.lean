/- Lemmas for the statement. -/
import Derived.Test.YtjhcfpdgldpicaaA2
namespace Go.Proofs.Ytjhcfpdgldpicaa
open Go Go.RowKit
set_option linter.unusedVariables false
section
variable {M : Mode} {P : Program} {N : Nat} {Q : AQ} {mem : List Ob} {ops : Array Oper} {tail : List Oper}
def DS (P : Program) (N : Nat) (ops : Array Oper) (tail : List Oper) (Q : AQ) (mem : List Ob) : List Oper → (Nat → AV) → Prop
 | [], e => AL P N ops tail Q e mem
 | o :: l, e => ∃ r, ((Gd ops o e ∧ OpRO P o e mem r) ∨ (Ng ops o e ∧ r = .v undef)) ∧ DS P N ops tail Q mem l (upA e o.dst r)
theorem ds_nil {e : Nat → AV} (h : AL P N ops tail Q e mem) : DS P N ops tail Q mem [] e := h
theorem ds_ro {e : Nat → AV} {o : Oper} {l : List Oper} {r : AV} (ho : OpRO P o e mem r) (hg : Gd ops o e) (_hd : dstB N o.dst = true) (h : DS P N ops tail Q mem l (upA e o.dst r)) : DS P N ops tail Q mem (o :: l) e := ⟨r, .inl ⟨hg, ho⟩, h⟩
theorem ds_skip {e : Nat → AV} {o : Oper} {l : List Oper} (hg : Ng ops o e) (_hd : dstB N o.dst = true) (h : DS P N ops tail Q mem l (upA e o.dst (.v undef))) : DS P N ops tail Q mem (o :: l) e := ⟨_, .inr ⟨hg, rfl⟩, h⟩
def sfR (θ : List Value) (pr : Nat → Prop) (a : AV) : SF := ⟨fun v w => R1 θ pr w a v, none, fun _ _ _ hx h => h.ext hx, fun _ _ _ _ h => by cases h⟩
def DSl (P : Program) (ops : Array Oper) (mem : List Ob) : List Oper → (Nat → AV) → List AV → Prop
 | [], _, rs => rs = []
 | o :: l, e, rs => ∃ r rs', rs = r :: rs' ∧ ((Gd ops o e ∧ OpRO P o e mem r) ∨ (Ng ops o e ∧ r = .v undef)) ∧ DSl P ops mem l (upA e o.dst r) rs'
def upL : List Oper → (Nat → AV) → List AV → (Nat → AV)
 | o :: l, e, r :: rs => upL l (upA e o.dst r) rs
 | _, e, _ => e
theorem ds_list : ∀ {l : List Oper} {e : Nat → AV}, DS P N ops tail Q mem l e → ∃ rs, rs.length = l.length ∧ DSl P ops mem l e rs ∧ AL P N ops tail Q (upL l e rs) mem
 | [], e, h => ⟨[], rfl, rfl, h⟩
 | o :: l, e, ⟨r, h1, h2⟩ => by
  obtain ⟨rs, h3, h4, h5⟩ := ds_list h2
  exact ⟨r :: rs, by simp [h3], ⟨r, rs, rfl, h1, h4⟩, h5⟩
def updE (V : Nat → Value) : List (Option Tmp) → Nat → (Nat → Value) → (Nat → Value)
 | [], _, e => e
 | d :: l, k, e => updE V l (k + 1) (upE e d (V k))
def Fits (ops : List Oper) (rs : List AV) (V : Nat → Value) (e0 : Nat → AV) (v0 : Nat → Value) (k : Nat) (e : Nat → AV) (ev : Nat → Value) : Prop :=
 ∀ t, (∃ j o a, j < k ∧ ops[j]? = some o ∧ o.dst = some t ∧ rs[j]? = some a ∧ e t = a ∧ ev t = V j) ∨ ((∀ j o, j < k → ops[j]? = some o → o.dst ≠ some t) ∧ e t = e0 t ∧ ev t = v0 t)
theorem Fits.step {ops : List Oper} {rs : List AV} {V : Nat → Value} {e0 : Nat → AV} {v0 : Nat → Value} {k : Nat} {e : Nat → AV} {ev : Nat → Value} (h : Fits ops rs V e0 v0 k e ev) {o : Oper} {r : AV} (ho : ops[k]? = some o) (hr : rs[k]? = some r) :
 Fits ops rs V e0 v0 (k + 1) (upA e o.dst r) (upE ev o.dst (V k)) := by
 intro t
 by_cases ht : o.dst = some t
 ·refine .inl ⟨k, o, r, by omega, ho, ht, hr, ?_, ?_⟩
  ·rw [ht]; simp [upA]
  ·rw [ht]; simp [upE]
 ·have e1 : upA e o.dst r t = e t := by
   cases hd : o.dst with
   | none => rfl
   | some d => simp only [upA]; rw [if_neg (fun e => ht (by rw [hd, e]))]
  have e2 : upE ev o.dst (V k) t = ev t := by
   cases hd : o.dst with
   | none => rfl
   | some d => simp only [upE]; rw [if_neg (fun e => ht (by rw [hd, e]))]
  rw [e1, e2]
  rcases h t with ⟨j, o', a, h1, h2, h3, h4, h5, h6⟩ | ⟨h1, h2, h3⟩
  ·exact .inl ⟨j, o', a, by omega, h2, h3, h4, h5, h6⟩
  ·refine .inr ⟨fun j o' hj ho' => ?_, h2, h3⟩
   by_cases hjk : j = k
   ·subst hjk; rw [ho] at ho'; cases ho'; exact ht
   ·exact h1 j o' (by omega) ho'
theorem rel_head {l : List Oper} {n : Nat} (h : relB l.toArray n = true) {i : Nat} {o : Oper} (hi : i < n) (ho : l[i]? = some o) :
 edgesB o i = true ∧ (∀ g b, o.guard = some (g, b) → waitsB o g = true) ∧ ∀ k t, k < n → (l[k]?).bind (·.dst) = some t → ((o.looksAt l.toArray).contains t = true → (k < i ∧ waitsB o k = true) ∨ (i < k ∧ waitsK l.toArray k i = true)) ∧ (k = i ∨ o.dst ≠ some t) := by
 simp only [relB, Bool.and_eq_true] at h
 obtain ⟨⟨⟨⟨_, _⟩, h1⟩, _⟩, _⟩ := h
 have h2 := List.all_eq_true.1 h1 i (List.mem_range.2 hi)
 have e : ∀ i : Nat, l.toArray[i]? = l[i]? := fun i => by simp
 rw [e, ho] at h2
 simp only [Bool.and_eq_true] at h2
 obtain ⟨⟨h2, h3⟩, h4⟩ := h2
 refine ⟨h2, fun g b hg => by rw [hg] at h3; exact h3, fun k t hk ht => ?_⟩
 have := List.all_eq_true.1 h4 k (List.mem_range.2 hk)
 rw [e, ht] at this
 simp only [Bool.and_eq_true, Bool.or_eq_true, Bool.not_eq_true', decide_eq_true_eq, beq_iff_eq, bne_iff_ne, ne_eq] at this
 exact ⟨fun hc => by
  rcases this.1 with (h | h) | h
  ·exact absurd h (by rw [hc]; simp)
  ·exact .inl h
  ·exact .inr h, this.2⟩
theorem waits_lt {o : Oper} {k i : Nat} (h : waitsB o k = true) (he : edgesB o i = true) : k < i := by
 unfold waitsB at h
 rw [List.any_eq_true] at h
 obtain ⟨e, h1, h2⟩ := h
 unfold edgesB at he
 have := List.all_eq_true.1 he e h1
 simp only [Bool.and_eq_true, beq_iff_eq, Bool.or_eq_true, Bool.not_eq_true', decide_eq_true_eq] at h2 this
 rcases this with h3 | h3
 ·rw [h2.2] at h3; cases h3
 ·omega
theorem waits_fact {F : Nat → Value → World → Prop} {V : Nat → Value} {w : World} {o : Oper} {k : Nat} (h : waitsB o k = true) (hf : FactsAt F V w o.after.toList) : F k (V k) w := by
 refine factsAt_get k ?_ hf
 unfold waitsB at h
 rw [List.any_eq_true] at h ⊢
 obtain ⟨e, h1, h2⟩ := h
 exact ⟨e, h1, by rw [Bool.and_comm]; exact h2⟩
theorem steps_of_ds {pb : Nat → Prop} {w0 : Bs} {w1 : World} {θ : List Value} {l : List Oper} {n : Nat} {rs : List AV} {V : Nat → Value} {e0 : Nat → AV} {v0 : Nat → Value} (hB : relB l.toArray n = true) (hs : SimM pb w0 w1 θ mem) (h0 : ∀ t, R1 θ (Prot pb θ mem) w1 (e0 t) (v0 t)) (hn : n ≤ l.length) (hlen : rs.length = n) :
 ∀ {m : List Oper} {k : Nat} {e : Nat → AV} {ev : Nat → Value} {rs' : List AV}, (l.take n).drop k = m → rs.drop k = rs' → DSl P l.toArray mem m e rs' → Fits l rs V e0 v0 k e ev →
  StepsE P w1 (Fs (rs.map (sfR θ (Prot pb θ mem)))) V m k ev
 | [], _, _, _, _, _, _, _, _ => trivial
 | o :: m, k, e, ev, rs', hm, hrs, hd, hfit => by
  obtain ⟨r, rs'', rfl, h1, h2⟩ := hd
  have hk : k < n := by
   rcases Nat.lt_or_ge k n with h | h
   ·exact h
   ·rw [List.drop_eq_nil_of_le (by simp; omega)] at hm; cases hm
  have hok : l[k]? = some o := by
   have : ((l.take n).drop k)[0]? = some o := by rw [hm]; rfl
   rw [List.getElem?_drop, List.getElem?_take_of_lt (by omega)] at this
   simpa using this
  have hrk : rs[k]? = some r := by
   have : (rs.drop k)[0]? = some r := by rw [hrs]; rfl
   rw [List.getElem?_drop] at this
   simpa using this
  have hFk : Fs (rs.map (sfR θ (Prot pb θ mem))) k = fun v w => R1 θ (Prot pb θ mem) w r v := by
   unfold Fs
   rw [List.getD_eq_getElem?_getD, List.getElem?_map, hrk]
   rfl
  obtain ⟨hedge, hgw, hlk⟩ := rel_head hB hk hok
  -- a slot that the operation looks at
  have slot : ∀ w, Ext w1 w → FactsAt (Fs (rs.map (sfR θ (Prot pb θ mem)))) V w o.after.toList → ∀ t, (o.looksAt l.toArray).contains t = true → R1 θ (Prot pb θ mem) w (e t) (ev t) := by
   intro w hx hf t ht
   rcases hfit t with ⟨j, o', a, a1, a2, a3, a4, a5, a6⟩ | ⟨a1, a2, a3⟩
   ·have hjn : j < n := by omega
    have := ((hlk j t hjn (by rw [a2]; exact a3)).1 ht).resolve_right (fun h => absurd h.1 (by omega))
    have hF := waits_fact this.2 hf
    rw [a5, a6]
    unfold Fs at hF
    rw [List.getD_eq_getElem?_getD, List.getElem?_map, a4] at hF
    exact hF
   ·rw [a2, a3]; exact (h0 t).ext hx
  refine ⟨fun w hx hf => ?_, ?_⟩
  ·rw [hFk]
   have hguard : ∀ (g : Nat) (b : Bool), o.guard = some (g, b) → ∀ d, (l.toArray[g]?).bind (·.dst) = some d → ∀ q, e d = .v q → V g = q := by
    intro g b hg d hd q hq
    have ht : (o.looksAt l.toArray).contains d = true := looks_guard hg hd
    have hv := slot w hx hf d ht
    rw [hq] at hv
    have hd' : (l[g]?).bind (·.dst) = some d := by simpa using hd
    have hgk : g < k := waits_lt (hgw g b hg) hedge
    obtain ⟨og, h3⟩ : ∃ og, l[g]? = some og := ⟨l[g]'(by omega), List.getElem?_eq_getElem _⟩
    have h3d : og.dst = some d := by rw [h3] at hd'; exact hd'
    rcases hfit d with ⟨j, o', a, a1, a2, a3, a4, a5, a6⟩ | ⟨a1, a2, a3⟩
    ·have hjg : g = j := ((rel_head hB (by omega) a2).2.2 g d (by omega) hd').2.resolve_right (fun h => h a3)
     subst hjg
     rw [← a6]; exact hv.val
    ·exact absurd h3d (a1 g og hgk h3)
   rcases h1 with ⟨h1, h3⟩ | ⟨h1, h3⟩
   ·have hgd : guardV V o = true := by
     unfold guardV
     unfold Gd at h1
     cases hg : o.guard with
     | none => rfl
     | some q =>
      obtain ⟨g, b⟩ := q
      rw [hg] at h1
      obtain ⟨d, h4, h5⟩ := h1
      simp [hguard g b hg d h4 (.bool b) h5]
    rw [if_pos hgd]
    refine RelUpon.mono (fun v w' ⟨h4, h5⟩ => ⟨h4, h5⟩) (h3 pb w0 θ w ev (hs.ext' hx) fun x hxm => ?_)
    cases x with
    | tmp t => exact slot w hx hf t (looks_of hxm)
    | const v => exact .ro (.v v)
    | global g => exact .ro (.v _)
    | func f => exact .ro (.v _)
   ·have hgd : guardV V o = false := by
     unfold guardV
     unfold Ng at h1
     cases hg : o.guard with
     | none => rw [hg] at h1; exact h1.elim
     | some q =>
      obtain ⟨g, b⟩ := q
      rw [hg] at h1
      obtain ⟨d, h4, h5⟩ := h1
      rcases h5 with h5 | h5
      ·simp [hguard g b hg d h4 (.bool (!b)) h5]
      ·simp [hguard g b hg d h4 undef h5, undef]
    rw [if_neg (by rw [hgd]; exact Bool.false_ne_true), h3]
    exact .ro (.v undef)
  ·refine steps_of_ds hB hs h0 hn hlen (by rw [← List.drop_drop, hm]; rfl) (by rw [← List.drop_drop, hrs]; rfl) h2 (hfit.step hok hrk)
theorem upL_fit {l : List Oper} {n : Nat} {rs : List AV} {V : Nat → Value} {e0 : Nat → AV} {v0 : Nat → Value} (hn : n ≤ l.length) (hlen : rs.length = n) : ∀ {m : List Oper} {k : Nat} {e : Nat → AV} {ev : Nat → Value} {rs' : List AV}, (l.take n).drop k = m → rs.drop k = rs' → Fits l rs V e0 v0 k e ev → k ≤ n →
 Fits l rs V e0 v0 n (upL m e rs') (updE V (m.map (·.dst)) k ev)
 | [], k, e, ev, rs', hm, hrs, hfit, hkn => by
  have : n ≤ k := by
   have := congrArg List.length hm
   simp at this; omega
  obtain rfl : k = n := by omega
  simpa [upL, updE] using hfit
 | o :: m, k, e, ev, rs', hm, hrs, hfit, hkn => by
  have hk : k < n := by
   rcases Nat.lt_or_ge k n with h | h
   ·exact h
   ·rw [List.drop_eq_nil_of_le (by simp; omega)] at hm; cases hm
  have hok : l[k]? = some o := by
   have : ((l.take n).drop k)[0]? = some o := by rw [hm]; rfl
   rw [List.getElem?_drop, List.getElem?_take_of_lt (by omega)] at this
   simpa using this
  obtain ⟨r, rs'', rfl⟩ : ∃ r rs'', rs' = r :: rs'' := by
   rw [← hrs, List.drop_eq_getElem_cons (by omega)]; exact ⟨_, _, rfl⟩
  have hrk : rs[k]? = some r := by
   have : (rs.drop k)[0]? = some r := by rw [hrs]; rfl
   rw [List.getElem?_drop] at this
   simpa using this
  have := upL_fit hn hlen (m := m) (k := k + 1) (rs' := rs'') (by rw [← List.drop_drop, hm]; rfl) (by rw [← List.drop_drop, hrs]; rfl) (hfit.step hok hrk) (by omega)
  exact this
theorem env_putsD (V : Nat → Value) (N : Nat) : ∀ (ds : List (Option Tmp)) (k : Nat) (a : Act), a.tmps.size = N → (ds.all fun d => dstB N d) = true →
 (putsD V ds k a).tmps.size = N ∧ (putsD V ds k a).defers = a.defers ∧ ∀ t, (putsD V ds k a).tmps.getD t undef = updE V ds k (fun t => a.tmps.getD t undef) t
 | [], k, a, hs, _ => ⟨hs, rfl, fun _ => rfl⟩
 | d :: ds, k, a, hs, hd => by
  simp only [List.all_cons, Bool.and_eq_true] at hd
  have hput : (fun t => (a.put d (V k)).tmps.getD t undef) = upE (fun t => a.tmps.getD t undef) d (V k) := by
   funext t
   cases d with
   | none => rfl
   | some d =>
    have hlt : d < N := by simpa [dstB] using hd.1
    by_cases ht : t = d
    ·subst ht
     simp [upE, Act.put, Array.getD_eq_getD_getElem?, hs, hlt]
    ·simp only [upE, Act.put, if_neg ht]
     rw [Array.getD_eq_getD_getElem?, Array.getElem?_setIfInBounds_ne (fun h => ht h.symm), ← Array.getD_eq_getD_getElem?]
  obtain ⟨h1, h2, h3⟩ := env_putsD V N ds (k + 1) (a.put d (V k)) (by cases d <;> simp [Act.put, hs]) hd.2
  refine ⟨h1, h2.trans (by cases d <;> rfl), fun t => ?_⟩
  show (putsD V ds (k + 1) (a.put d (V k))).tmps.getD t undef = updE V ds (k + 1) (upE (fun t => a.tmps.getD t undef) d (V k)) t
  rw [h3 t, hput]
theorem any_env {a0 : Act} {w0 : World} {l : List Oper} {Q : Exit → Act → World → Prop} (n : Nat) (Fl : List SF) (ds : List (Option Tmp))
 (hB : relB l.toArray n = true) (hE : envB l (l.take n) 0 a0.tmps.size = true) (hds : (l.take n).map (·.dst) = ds)
 (steps : ∀ V e0, (∀ t, e0 t = a0.tmps.getD t undef) → StepsE P w0 (Fs Fl) (val Fl V) (l.take n) 0 e0)
 (tail : ∀ V w, Ext w0 w → FactsTo (Fs Fl) (val Fl V) w n → wpList P l.toArray Q (l.drop n) (putsD (val Fl V) ds 0 a0) w) : wpAny P .any l.toArray Q l.toArray.size (Array.replicate l.toArray.size false) a0 { w0 with drawn := w0.drawn + 1 } :=
 any_rel n (fun _ => Ext w0) (Fs Fl) (fun k => (Fl.getD k SF.any).ex) hB (Ext.one w0) (fun k v w h c hc => (Fl.getD k SF.any).law v w h c hc)
  (fun V hV => steps_of_guarded (by
   have := stepsG_of_env (ops := l) (r := l.drop n) hE rfl (fun _ => rfl) (by simp) (fun _ _ h => absurd h (Nat.not_lt_zero _)) (steps V (fun t => a0.tmps.getD t undef) (fun _ => rfl))
   rwa [val_eq hV] at this))
  (fun V w hV hw hf => by have := tail V w hw; rw [val_eq hV] at this; rw [putsAll_D, hds]; exact this hf)
theorem aw_draw {id : Nat} {l : List Oper} {e : Nat → AV} (n : Nat) (hm : P.follows .mixedOrders = true) (hd : noDefer l = true) (hB : relB l.toArray n = true) (hE : envB l (l.take n) 0 N = true) (h : DS P N l.toArray (l.drop n) Q mem (l.take n) e) : AW M P N (.region id l.toArray true) Q e mem := by
 refine aw_any hm hd fun pb w0 θ a w hf => ?_
 obtain ⟨rs, h1, h2, h3⟩ := ds_list h
 have hn : n ≤ l.length := by
  simp only [relB, Bool.and_eq_true, decide_eq_true_eq] at hB
  simpa using hB.1.1.1.2
 have hlen : rs.length = n := by rw [h1]; simp; omega
 have hsz : ((l.take n).map (·.dst)).all (fun d => dstB N d) = true := by
  have key : ∀ (m : List Oper) (k : Nat), envB l m k N = true → (m.map (·.dst)).all (fun d => dstB N d) = true := by
   intro m
   induction m with
   | nil => intro _ _; rfl
   | cons o m ih =>
    intro k hk
    simp only [envB, Bool.and_eq_true] at hk
    simp only [List.map_cons, List.all_cons, Bool.and_eq_true]
    refine ⟨?_, ih _ hk.2⟩
    have := hk.1.1
    cases hd : o.dst with
    | none => rfl
    | some d => rw [hd] at this; simp only [Bool.and_eq_true] at this; exact this.1
  exact key _ _ hE
 have hfit0 : ∀ V, Fits l rs V e (fun t => a.tmps.getD t undef) 0 e (fun t => a.tmps.getD t undef) := fun V t => .inr ⟨fun j o hj _ => absurd hj (Nat.not_lt_zero _), rfl, rfl⟩
 have hex : ∀ k c, ((rs.map (sfR θ (Prot pb θ mem))).getD k SF.any).ex ≠ some c := by
  intro k c hc
  rw [List.getD_eq_getElem?_getD, List.getElem?_map] at hc
  cases hr : rs[k]? with
  | none => rw [hr] at hc; cases hc
  | some r => rw [hr] at hc; cases hc
 have hval : ∀ V, val (rs.map (sfR θ (Prot pb θ mem))) V = V := fun V => val_eq fun k c hc => absurd hc (hex k c)
 refine any_env n (rs.map (sfR θ (Prot pb θ mem))) ((l.take n).map (·.dst)) hB (by rw [hf.size]; exact hE) rfl (fun V e0 he0 => ?_) (fun V w' hx hft => ?_)
 ·rw [hval]
  have he : e0 = fun t => a.tmps.getD t undef := funext he0
  subst he
  exact steps_of_ds hB hf.sim hf.sl hn hlen rfl rfl h2 (hfit0 V)
 ·rw [hval] at hft ⊢
  obtain ⟨a1, a2, a3⟩ := env_putsD V N ((l.take n).map (·.dst)) 0 a hf.size hsz
  have hfit := upL_fit (l := l) (rs := rs) (V := V) (e0 := e) (v0 := fun t => a.tmps.getD t undef) hn hlen rfl rfl (hfit0 V) (Nat.zero_le _)
  refine wpList_mono (fun _ _ hq => hq.after (Step.ext hf.sim hx)) (h3 pb w0 θ _ w' ⟨a1, by rw [a2]; exact hf.dfr.step (Step.ext hf.sim hx), fun t => ?_, hf.sim.ext' hx⟩)
  rw [a3 t]
  simp only [List.drop_zero] at hfit
  rcases hfit t with ⟨j, o, r, b1, b2, b3, b4, b5, b6⟩ | ⟨b1, b2, b3⟩
  ·rw [b5, b6]
   have hF := factsTo_get b1 hft
   unfold Fs at hF
   rw [List.getD_eq_getElem?_getD, List.getElem?_map, b4] at hF
   exact hF
  ·rw [b2, b3]; exact (hf.sl t).ext hx
end
end Go.Proofs.Ytjhcfpdgldpicaa
