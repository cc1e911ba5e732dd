/- Lemmas for the statement. -/
import Derived.Test.YtjhcfpdgldpicaaEnv
namespace Go.Proofs.Ytjhcfpdgldpicaa
open Go Go.RowKit
section
variable {P : Program} {w0 : World} {Fl : List SF} {V : Nat → Value} {o : Oper} {l : List Oper} {k : Nat} {e : Nat → Value}
theorem factsAt_get {F : Nat → Value → World → Prop} {w : World} (j : Nat) : ∀ {l : List Edge}, (l.any fun e => Region.binds .any e && e.on == j) = true → FactsAt F V w l → F j (V j) w
 | [], h, _ => by simp at h
 | e :: l, h, hf => by
  simp only [List.any_cons, Bool.or_eq_true, Bool.and_eq_true, beq_iff_eq] at h
  rcases h with ⟨h1, h2⟩ | h
  ·have := hf.1; rw [if_pos h1, h2] at this; exact this
  ·exact factsAt_get j h hf.2
theorem factsTo_get {F : Nat → Value → World → Prop} {w : World} {j : Nat} : ∀ {n : Nat}, j < n → FactsTo F V w n → F j (V j) w
 | n + 1, h, hf => by
  by_cases e : j = n
  ·subst e; exact hf.2
  ·exact factsTo_get (by omega) hf.1
end
section
variable {ρ : Operand → Value} {d : Option Tmp} {ty : TypeId} {pos : String} {af : Array Edge} {g : Option (Nat × Bool)} {x y z u : Operand} {a b c f : Value}
theorem ex_pick {q : Bool} (h : ρ x = .bool q) (h1 : ρ y = a) (h2 : ρ z = b) : execOp ρ ⟨d, .pick x y z, ty, pos, af, g⟩ = pure (.value (if q then a else b)) := by
 subst h1; subst h2
 show (do pure (Next.value (if ← asBool (ρ x) then ρ y else ρ z)) : Sem Next) = _
 rw [h]; rfl
theorem ex_alloc {t : TypeId} : execOp ρ ⟨d, .alloc t, ty, pos, af, g⟩ = (do pure (.value (← Instr.alloc t true (.tuple #[])))) := rfl
theorem ex_load {t : TypeId} (h : ρ x = a) : execOp ρ ⟨d, .load t x, ty, pos, af, g⟩ = (do pure (.value (← Instr.loadAt t a))) := by subst h; rfl
theorem ex_binOp {op : BinOp} {t t2 : TypeId} (h : ρ x = a) (h2 : ρ y = b) : execOp ρ ⟨d, .binOp op t x y t2, ty, pos, af, g⟩ = (do pure (.value (← (do eqGuard op t x y a b; binOp op t a b)))) := by subst h; subst h2; rfl
theorem ex_unOp {op : UnOp} {t : TypeId} (h : ρ x = a) : execOp ρ ⟨d, .unOp op t x, ty, pos, af, g⟩ = (do pure (.value (← Op.unary op a))) := by subst h; rfl
theorem ex_convert {s t : TypeId} (h : ρ x = a) : execOp ρ ⟨d, .convert s t x, ty, pos, af, g⟩ = (do pure (.value (← convert s t a))) := by subst h; rfl
theorem ex_fieldAddr {s : TypeId} {i : Nat} (h : ρ x = a) : execOp ρ ⟨d, .fieldAddr s x i, ty, pos, af, g⟩ = (do pure (.value (← Instr.fieldAt s a i))) := by subst h; rfl
theorem ex_indexAddr {t : TypeId} (h : ρ x = a) (h2 : ρ y = b) : execOp ρ ⟨d, .indexAddr t x y, ty, pos, af, g⟩ = (do pure (.value (← Instr.indexAt t a b))) := by subst h; subst h2; rfl
theorem ex_index {t : TypeId} (h : ρ x = a) (h2 : ρ y = b) : execOp ρ ⟨d, .index t x y, ty, pos, af, g⟩ = (do pure (.value (← Instr.index t a b))) := by subst h; subst h2; rfl
theorem ex_extract {i : Nat} (h : ρ x = a) : execOp ρ ⟨d, .extract x i, ty, pos, af, g⟩ = (do pure (.value (← Instr.extract a i))) := by subst h; rfl
theorem ex_slice01 {t : TypeId} (h : ρ x = a) (h2 : ρ y = b) : execOp ρ ⟨d, .slice t x none (some y) none, ty, pos, af, g⟩ = (do pure (.value (← Instr.sliceAt t a none (some b) none))) := by subst h; subst h2; rfl
theorem ex_arg0 : ([] : List Operand).map ρ = [] := rfl
theorem ex_arg {l : List Operand} {vs : List Value} (h : ρ x = a) (h2 : l.map ρ = vs) : (x :: l).map ρ = a :: vs := by rw [List.map_cons, h, h2]
theorem ex_pickT (h : ρ x = .bool true) (h1 : ρ y = a) : execOp ρ ⟨d, .pick x y z, ty, pos, af, g⟩ = pure (.value a) := ex_pick h h1 rfl
theorem ex_pickF (h : ρ x = .bool false) (h2 : ρ z = b) : execOp ρ ⟨d, .pick x y z, ty, pos, af, g⟩ = pure (.value b) := ex_pick h rfl h2
theorem ex_call {as : Array Operand} {ts : Array TypeId} {vs : List Value} (h : ρ x = f) (h2 : as.toList.map ρ = vs) : execOp ρ ⟨d, .call ⟨.value x, as, ts⟩, ty, pos, af, g⟩ = (do let q ← Deferred.ofValue f vs.toArray; invoke q.target q.args) := by
 have : as.map ρ = vs.toArray := by apply Array.toList_inj.1; rw [Array.toList_map]; simpa using h2
 subst h
 show (do let q ← (do let args := as.map ρ; Deferred.ofValue (ρ x) args); invoke q.target q.args) = _
 rw [this]
theorem ex_builtin {bi : Builtin} {as : Array Operand} {ts : Array TypeId} {vs : List Value} (h2 : as.toList.map ρ = vs) : execOp ρ ⟨d, .call ⟨.builtin bi, as, ts⟩, ty, pos, af, g⟩ = builtin bi ts ty (as.map fun o => match o with | Operand.const _ => true | _ => false) vs.toArray := by
 have : as.map ρ = vs.toArray := by apply Array.toList_inj.1; rw [Array.toList_map]; simpa using h2
 show (do let q ← (do let args := as.map ρ; (pure { target := .builtin bi ts ty (as.map fun o => match o with | Operand.const _ => true | _ => false), args } : Sem Deferred)); invoke q.target q.args) = _
 rw [this]; rfl
end
theorem rel_call {P : Program} {φ : Value → World → Prop} {w : World} {f : FuncId} {vs : List Value} (hcf : ∀ args w, (callFunc f args).run P w = .ok (.enter f args) w) (h : CallTo P f vs.toArray w φ) :
 RelUpon P φ ((do let q ← Deferred.ofValue (.func (.func f) #[] #[]) vs.toArray; invoke q.target q.args : Sem Next).run P w) := by
 have e : ((do let q ← Deferred.ofValue (.func (.func f) #[] #[]) vs.toArray; invoke q.target q.args : Sem Next).run P w) = (callFunc f (#[] ++ vs.toArray ++ #[])).run P w := rfl
 rw [e, hcf]
 have : (#[] ++ vs.toArray ++ #[] : Array Value) = vs.toArray := by simp
 rw [this]; exact h
end Go.Proofs.Ytjhcfpdgldpicaa
