/- The abstract machine: functions that loops over functions call (iterators). No conditions on a program. -/
import Derived.Test.YtfmjmngkgmlghaaDoorA13
import Derived.Test.YtfmjmngkgmlghaaDoorRange
namespace Go.Proofs.YtfmjmngkgmlghaaDoor
open Go Go.RowKit Go.Proofs
set_option linter.unusedSimpArgs false
set_option linter.unusedVariables false

abbrev IQ := Exit → (Nat → AV) → Bool → Nat → Prop
section
variable {lb : Nat} {ys : List (List AV)} {P : Program} {N : Nat} {Q : IQ} {e : Nat → AV} {b : Bool} {i : Nat}
section
variable {ops : Array Oper} {l : List Oper} {d : Option Tmp} {ty : TypeId} {pos : String} {af : Array Edge} {g : Option (Nat × Bool)} {op : Op}
end
end
/-! ### The caller -/
theorem CalmA.putL {B L : Nat} {w : World} {st : Loop} (o' : Obj) (hB : B ≤ L) (h : w.heap[L]? = some (.loop st)) : CalmA B w (w.putObj L o') :=
  ⟨(Below.refl B w).grown (grownBy_putObj' w L o') (by have := (Array.getElem?_eq_some_iff.1 h).1; omega) (fun k e => by cases e; omega), fun b c t f hk => by
    by_cases e : b = L
    · subst e; rw [h] at hk; cases hk
    · exact (World.putObj_heap_other e).trans hk⟩
/-- What is kept beside the block L. -/
structure KeepL (pb : Nat → Prop) (L : Nat) (θ : List Value) (mem : List Ob) (w : World) (θ' : List Value) (mem' : List Ob) (w' : World) : Prop where
  keep : ∀ a x, R1 θ (Prot pb θ mem) w a x → R1 θ' (Prot pb θ' mem') w' a x
  sz : w.heap.size ≤ w'.heap.size
  same : ∀ b, b < w.heap.size → ¬ Prot pb θ mem b → b ≠ L → w'.heap[b]? = w.heap[b]?
  np : ∀ b, b < w.heap.size → ¬ Prot pb θ mem b → ¬ Prot pb θ' mem' b
section
variable {pb : Nat → Prop} {L : Nat} {w0 : Bs} {θ θ' θ'' : List Value} {mem mem' mem'' : List Ob} {w w' w'' : World}
theorem KeepL.of (h : Step pb w0 θ mem w θ' mem' w') : KeepL pb L θ mem w θ' mem' w' := ⟨h.keep, h.sz, fun b hb hn _ => h.same b hb hn, h.np⟩
theorem KeepL.trans (h : KeepL pb L θ mem w θ' mem' w') (k : KeepL pb L θ' mem' w' θ'' mem'' w'') : KeepL pb L θ mem w θ'' mem'' w'' :=
  ⟨fun a x hr => k.keep a x (h.keep a x hr), Nat.le_trans h.sz k.sz, fun b hb hn hL => (k.same b (Nat.lt_of_lt_of_le hb h.sz) (h.np b hb hn) hL).trans (h.same b hb hn hL), fun b hb hn => k.np b (Nat.lt_of_lt_of_le hb h.sz) (h.np b hb hn)⟩
theorem KeepL.put {st : Loop} (o' : Obj) (h : w.heap[L]? = some (.loop st)) : KeepL pb L θ mem w θ mem (w.putObj L o') :=
  ⟨fun _ _ hr => hr.calm (CalmA.putL (B := L) o' (Nat.le_refl _) h), by simp, fun _ _ _ hL => World.putObj_heap_other hL, fun _ _ hn => hn⟩
end
/-! ### Forms that am.py prints -/
section
variable {lb : Nat} {ys : List (List AV)} {P : Program} {N : Nat} {Q : IQ} {e : Nat → AV} {b : Bool} {i : Nat} {ops : Array Oper} {l : List Oper} {d : Option Tmp} {ty : TypeId} {pos : String} {af : Array Edge} {g : Option (Nat × Bool)}
end
section
variable {P : Program} {N : Nat} {Q : AQ} {e : Nat → AV} {mem : List Ob} {g : Operand} {assign body : Code} {gf : FuncId} {l m : List AV}
end
end Go.Proofs.YtfmjmngkgmlghaaDoor
