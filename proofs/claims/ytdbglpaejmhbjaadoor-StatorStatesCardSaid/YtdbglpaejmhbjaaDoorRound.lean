/- A region that draws its order within a round of a loop over a function: as everywhere, if no operation of it is a defer statement. No conditions on a program. -/
import Derived.Test.YtdbglpaejmhbjaaDoorLib
import Derived.Test.YtdbglpaejmhbjaaDoorRange
import Derived.OrdersIn
namespace Go.Proofs.YtdbglpaejmhbjaaDoor
open Go Go.RowKit

/-- An ending that falls through to K alone. -/
def Falls (K : Act → World → Prop) : Exit → Act → World → Prop
  | .normal, a, w => K a w
  | _, _, _ => False

theorem rowsIn_round {n l0 : Nat} {P : Program} {row : String} {args : Array Value} {w : World} {R : Value → World → Prop} (h : Rows P row args w R) : RowsIn (Fence.wide.inRound l0) n P row args w R :=
  fun c cs _ => let ⟨v, w', r, s⟩ := h c cs; ⟨v, w', r, by rw [fenced_inRound]; exact stepsIn_wide.2 s⟩

theorem opIn_of_op {n l0 : Nat} {P : Program} {ops : Array Oper} {Q : Exit → Act → World → Prop} {K : Act → World → Prop} (hQ : ∀ a w, K a w → Q .normal a w)
    (hd : (ops.toList.all fun o => match o.op with | .defer _ => false | _ => true) = true) {i : Nat} {X X' : Act → World → Prop} (hX : ∀ a w, X a w → X' a w) {a : Act} {w : World} (h : wpOp P ops (Falls K) i X a w) : wpOpIn (Fence.wide.inRound l0) n P ops Q i X' a w := by
  unfold wpOp at h
  unfold wpOpIn
  cases ho : ops[i]? with
  | none => simp only [ho] at h ⊢; exact hX _ _ h
  | some o =>
    simp only [ho] at h ⊢
    have hnd : ∀ c, o.op ≠ .defer c := fun c hc => by
      have := List.all_eq_true.1 hd o (by have := Array.mem_of_getElem? ho; simpa using this)
      rw [hc] at this; cases this
    split
    · rename_i hw
      rw [if_pos hw] at h
      rcases h with h | ⟨_, ⟨a', w', hf⟩⟩
      · refine ⟨fun f _ => trivial, ?_⟩
        rw [Oper.semAt_eq _ _ _ hnd]
        unfold Oper.wp at h
        generalize (execOp a.eval o).run P w = r at *
        cases r with
        | ok x w' =>
          cases x <;> simp only [Oper.upon] at h <;> simp only [Oper.uponIn]
          case value v => exact hX _ _ h
          case skip => exact hX _ _ h
          case defer d => exact hX _ _ h
          case enter f args =>
            refine ⟨fun hn => (by cases hn), CallsIn.inRound l0 (callsIn_wide.2 (h.mono fun e w'' he => ?_))⟩
            cases e with
            | returned v => exact hX _ _ he
            | panicked ch => exact he.elim
            | outgrown => obtain ⟨_, _, hf⟩ := he; exact hf.elim
          case row row args => exact ⟨fun hn => (by cases hn), rowsIn_round (h.mono fun v w'' he => hX _ _ he)⟩
        | halt x w' => cases x <;> simp only [Oper.upon] at h <;> exact h.elim
      · exact hf.elim
    · rename_i hw
      rw [if_neg hw] at h
      exact ⟨fun f _ => trivial, hX _ _ h⟩

theorem anyIn_of_any {n l0 : Nat} {P : Program} {md : Region.Mode} {ops : Array Oper} {Q : Exit → Act → World → Prop} {K : Act → World → Prop} (hQ : ∀ a w, K a w → Q .normal a w)
    (hd : (ops.toList.all fun o => match o.op with | .defer _ => false | _ => true) = true) : ∀ {m : Nat} {listed : Array Bool} {a : Act} {w : World}, wpAny P md ops (Falls K) m listed a w → wpAnyIn (Fence.wide.inRound l0) n P md ops Q m listed a w
  | 0, _, _, _, h => ⟨h.1, hQ _ _ h.2⟩
  | m + 1, _, _, _, h => ⟨fun e => hQ _ _ (h.1 e), fun i hi => opIn_of_op hQ hd (fun _ _ hx => anyIn_of_any hQ hd hx) (h.2 i hi)⟩

/-- **A region that draws its order, in a round: its first n operations (none guarded) by a list of facts.** -/
theorem wpIn_region_ext {P : Program} {l0 d : Nat} {id : Nat} {Q : Exit → Act → World → Prop} {a0 : Act} {w0 : World} {l : List Oper} (n : Nat) (Fl : List SF)
    (hm : P.follows .mixedOrders = true) (hB : relB l.toArray n = true) (hg : ((l.take n).all fun o => o.guard.isNone) = true) (hd : (l.all fun o => match o.op with | .defer _ => false | _ => true) = true)
    (steps : ∀ V, StepsU P w0 (Fs Fl) (val Fl V) (l.take n) 0 a0)
    (tail : ∀ V w, Ext w0 w → FactsTo (Fs Fl) (val Fl V) w n → wpList P l.toArray (Falls (Q .normal)) (l.drop n) (putsAll (val Fl V) (l.take n) 0 a0) w) : (Code.region id l.toArray true).wpIn (Fence.wide.inRound l0) d P Q a0 w0 :=
  wpIn_region_any hm (anyIn_of_any (K := Q .normal) (fun _ _ h => h) (by simpa using hd) (any_rel n (fun _ => Ext w0) (Fs Fl) (fun k => (Fl.getD k SF.any).ex) hB (Ext.one w0) (fun k v w h c hc => (Fl.getD k SF.any).law v w h c hc)
    (fun V hV => steps_of_ext (fun o ho => by have := List.all_eq_true.1 hg o ho; simpa using this) (by have := steps V; rwa [val_eq hV] at this))
    (fun V w hV hw hf => by have := tail V w hw; rw [val_eq hV] at this; exact this hf)))
end Go.Proofs.YtdbglpaejmhbjaaDoor
