/- Lemmas for the statement. -/
import Derived.Test.YtjhcfpdgldpicaaGreatDoorA13
import Derived.Test.YtjhcfpdgldpicaaGreatDoorRange
namespace Go.Proofs.YtjhcfpdgldpicaaGreatDoor
open Go Go.RowKit Go.Proofs
set_option linter.unusedSimpArgs false
set_option linter.unusedVariables false
def FitI (N : Nat) (pb : Nat → Prop) (w0 : Bs) (e : Nat → AV) (mem : List Ob) (θ : List Value) (a : Act) (w : World) : Prop := Fit N pb w0 e mem θ a w ∧ a.defers = []
theorem put_dfr {a : Act} (d : Option Tmp) (v : Value) (h : a.defers = []) : (a.put d v).defers = [] := by cases d <;> exact h
abbrev IQ := Exit → (Nat → AV) → Bool → Nat → Prop
section
variable {lb : Nat} {ys : List (List AV)} {P : Program} {N : Nat} {Q : IQ} {e : Nat → AV} {b : Bool} {i : Nat}
theorem opIn_rel {n : Nat} {o : Oper} {a : Act} {w : World} {φ : Value → World → Prop} {K : Act → World → Prop} {R : Exit → Act → World → Prop} (hnd : ∀ c, o.op ≠ .defer c) (hK : ∀ v w', φ v w' → K (a.put o.dst v) w') (h : RelUpon P φ ((execOp a.eval o).run P w)) : o.wpIn Fence.wide n P a w K R := by
 refine ⟨fun f _ => trivial, ?_⟩
 rw [Oper.semAt_eq _ _ _ hnd]
 generalize (execOp a.eval o).run P w = r at *
 cases r with
 | ok x w' =>
  cases x <;> simp only [RelUpon] at h <;> simp only [Oper.uponIn]
  case value v => exact hK _ _ h
  case skip => exact hK _ _ h
  case enter f args => exact ⟨fun hn => (by cases hn), callsIn_wide.2 (h.mono fun e w'' ⟨u, he, hu⟩ => by subst he; exact hK _ _ hu)⟩
 | halt x w' => simp only [RelUpon] at h
def ndB (op : Op) : Bool := match op with | .defer _ => false | _ => true
theorem ndB_ne {op : Op} (h : ndB op = true) : ∀ c, op ≠ .defer c := fun c hc => by rw [hc] at h; cases h
section
variable {ops : Array Oper} {l : List Oper} {d : Option Tmp} {ty : TypeId} {pos : String} {af : Array Edge} {g : Option (Nat × Bool)} {op : Op}
end
end
theorem CalmA.putL {B L : Nat} {w : World} {st : Loop} (o' : Obj) (hB : B ≤ L) (h : w.heap[L]? = some (.loop st)) : CalmA B w (w.putObj L o') :=
 ⟨(Below.refl B w).grown (grownBy_putObj' w L o') (by have := (Array.getElem?_eq_some_iff.1 h).1; omega) (fun k e => by cases e; omega), fun b c t f hk => by
  by_cases e : b = L
  ·subst e; rw [h] at hk; cases hk
  ·exact (World.putObj_heap_other e).trans hk⟩
structure KeepL (pb : Nat → Prop) (L : Nat) (θ : List Value) (mem : List Ob) (w : World) (θ' : List Value) (mem' : List Ob) (w' : World) : Prop where
 keep : ∀ a x, R1 θ (Prot pb θ mem) w a x → R1 θ' (Prot pb θ' mem') w' a x
 sz : w.heap.size ≤ w'.heap.size
 same : ∀ b, b < w.heap.size → ¬ Prot pb θ mem b → b ≠ L → w'.heap[b]? = w.heap[b]?
 np : ∀ b, b < w.heap.size → ¬ Prot pb θ mem b → ¬ Prot pb θ' mem' b
section
variable {pb : Nat → Prop} {L : Nat} {w0 : Bs} {θ θ' θ'' : List Value} {mem mem' mem'' : List Ob} {w w' w'' : World}
theorem KeepL.of (h : Step pb w0 θ mem w θ' mem' w') : KeepL pb L θ mem w θ' mem' w' := ⟨h.keep, h.sz, fun b hb hn _ => h.same b hb hn, h.np⟩
theorem KeepL.trans (h : KeepL pb L θ mem w θ' mem' w') (k : KeepL pb L θ' mem' w' θ'' mem'' w'') : KeepL pb L θ mem w θ'' mem'' w'' :=
 ⟨fun a x hr => k.keep a x (h.keep a x hr), Nat.le_trans h.sz k.sz, fun b hb hn hL => (k.same b (Nat.lt_of_lt_of_le hb h.sz) (h.np b hb hn) hL).trans (h.same b hb hn hL), fun b hb hn => k.np b (Nat.lt_of_lt_of_le hb h.sz) (h.np b hb hn)⟩
theorem KeepL.put {st : Loop} (o' : Obj) (h : w.heap[L]? = some (.loop st)) : KeepL pb L θ mem w θ mem (w.putObj L o') :=
 ⟨fun _ _ hr => hr.calm (CalmA.putL (B := L) o' (Nat.le_refl _) h), by simp, fun _ _ _ hL => World.putObj_heap_other hL, fun _ _ hn => hn⟩
theorem Mks.keepL {B : Nat} {st : Loop} {ds : List Deferred} (h : Mks B (Prot pb θ mem) w ds) (k : KeepL pb L θ mem w θ' mem' w') (hL : w.heap[L]? = some (.loop st)) : Mks B (Prot pb θ' mem') w' ds :=
 ⟨fun d hd => by
  obtain ⟨D, h1, h2, h3, h4, h5⟩ := h.1 d hd
  have hne : D ≠ L := fun e => by rw [e, hL] at h4; cases h4
  exact ⟨D, h1, Nat.lt_of_lt_of_le h2 k.sz, k.np D h2 h3, (k.same D h2 h3 hne).trans h4, h5⟩, h.2⟩
end
def upZ : (Nat → AV) → List (Tmp × AV) → Nat → AV
 | e, [] => e
 | e, (p, a) :: l => upZ (upA e (some p) a) l
theorem upZ_fit {N : Nat} {pr : Nat → Prop} {θ : List Value} {w : World} : ∀ (qs : List (Tmp × AV)) (zs : List (Tmp × Value)) (e : Nat → AV) (ts : Array Value), zs.length = qs.length → (∀ (k : Nat) (p : Tmp) (a : AV), qs[k]? = some (p, a) → p < N ∧ ∃ x, zs[k]? = some (p, x) ∧ R1 θ pr w a x) → ts.size = N → (∀ t, R1 θ pr w (e t) (ts.getD t undef)) →
 (zs.foldl (fun t (q : Tmp × Value) => t.setIfInBounds q.1 q.2) ts).size = N ∧ ∀ t, R1 θ pr w (upZ e qs t) ((zs.foldl (fun t (q : Tmp × Value) => t.setIfInBounds q.1 q.2) ts).getD t undef)
 | [], [], e, ts, _, _, hs, h => ⟨hs, h⟩
 | [], z :: zs, _, _, hl, _, _, _ => by simp at hl
 | q :: qs, [], _, _, hl, _, _, _ => by simp at hl
 | (p, a) :: qs, z :: zs, e, ts, hl, hq, hs, h => by
  obtain ⟨hp, x, hx, hr⟩ := hq 0 p a rfl
  simp at hx
  subst hx
  refine upZ_fit qs zs _ _ (by simpa using hl) (fun k p' a' hk => hq (k + 1) p' a' hk) (by simp [hs]) fun t => ?_
  by_cases ht : t = p
  ·subst ht
   have : (ts.setIfInBounds t x).getD t undef = x := by simp [Array.getD_eq_getD_getElem?, hs, hp]
   rw [this]; simp only [upA, if_true]; exact hr
  ·have : (ts.setIfInBounds p x).getD t undef = ts.getD t undef := by
    rw [Array.getD_eq_getD_getElem?, Array.getElem?_setIfInBounds_ne (fun h => ht h.symm), ← Array.getD_eq_getD_getElem?]
   rw [this]; simp only [upA, if_neg ht]; exact h t
def FallB (K : (Nat → AV) → List Ob → Prop) : AQ
 | .normal, e, m => K e m
 | _, _, _ => False
section
variable {lb : Nat} {ys : List (List AV)} {P : Program} {N : Nat} {Q : IQ} {e : Nat → AV} {b : Bool} {i : Nat} {ops : Array Oper} {l : List Oper} {d : Option Tmp} {ty : TypeId} {pos : String} {af : Array Edge} {g : Option (Nat × Bool)}
end
theorem fallb_n {K : (Nat → AV) → List Ob → Prop} {e : Nat → AV} {m : List Ob} (h : K e m) : FallB K .normal e m := h
section
variable {P : Program} {N : Nat} {Q : AQ} {e : Nat → AV} {mem : List Ob} {g : Operand} {assign body : Code} {gf : FuncId} {l m : List AV}
end
theorem aw_adoptC {M : Mode} {P : Program} {N : Nat} {Q : AQ} {e : Nat → AV} {mem : List Ob} {c : Code} {j m : Nat} {T : TypeId} {cells : List AV} (eT k o : Nat) (hm : mem[j]? = some (.box T cells)) (ho : cells[o]? = some (.v (.slice none 0 0))) (hl : mem.length = m)
 (h : ∀ m0 m1, m0 = mem ++ [.row eT k []] → m1 = m0.set j (.box T (cells.set o (.own m))) → AW M P N c Q e m1) : AW M P N c Q e mem := by
 refine fun F n hF pb w0 θ a w hf => ?_
 subst hl
 have st : Step pb w0 θ mem w (θ ++ [.slice none 0 0]) (mem ++ [.row eT k []]) w := Step.new hf.sim (Ext.refl w) _ _ (fun b hb => by cases hb) fun θ' pr _ =>
  ⟨[], World.ownsRow_nil w _ eT k, (fun b hb => by cases hb), by simp, fun i a u h => by simp at h⟩
 have hjl : j < mem.length := (List.getElem?_eq_some_iff.1 hm).1
 have hm' : (mem ++ [Ob.row eT k []])[j]? = some (.box T cells) := by rw [List.getElem?_append_left hjl]; exact hm
 obtain ⟨v, hv⟩ : ∃ v, (θ ++ [Value.slice none 0 0])[j]? = some v := ⟨_, List.getElem?_eq_getElem (by simp [hf.sim.len]; omega)⟩
 obtain ⟨b', xs, hb1, hb2, hb3, hb4, hb5⟩ := st.sim.ob j _ v hm' hv
 have st2 : Step pb w0 (θ ++ [.slice none 0 0]) (mem ++ [.row eT k []]) w (θ ++ [.slice none 0 0]) ((mem ++ [Ob.row eT k []]).set j (Ob.box T (cells.set o (.own mem.length)))) w :=
  Step.write (o' := Ob.box T (cells.set o (.own mem.length))) st.sim hm' (by simp) hv (Below.refl 0 w) (fun _ _ _ => rfl) fun pr keep => ⟨b', xs, hb1, hb2, hb3, by simpa using hb4, fun i a x ha hx => by
   by_cases hi : o = i
   ·subst hi
    have hlt : o < cells.length := (List.getElem?_eq_some_iff.1 ho).1
    rw [List.getElem?_set_self hlt] at ha
    cases ha
    have := hb5 o _ x ho hx
    rw [this.val]
    exact .own _ _ (by rw [← hf.sim.len]; simp) rfl
   ·rw [List.getElem?_set_ne hi] at ha
    exact keep _ _ (hb5 i a x ha hx)⟩
 have st3 := st.trans st2
 exact wpIn_mono (h _ _ rfl rfl F n hF pb w0 (θ ++ [.slice none 0 0]) a w ⟨hf.size, hf.dfr.step st3, fun t => st3.keep _ _ (hf.sl t), st3.sim⟩) fun _ _ _ hq => hq.after st3
theorem aw_env {M : Mode} {P : Program} {N : Nat} {Q : AQ} {e : Nat → AV} {mem : List Ob} {c : Code} (h : ∀ e1, e1 = e → AW M P N c Q e1 mem) : AW M P N c Q e mem := h e rfl
end Go.Proofs.YtjhcfpdgldpicaaGreatDoor
