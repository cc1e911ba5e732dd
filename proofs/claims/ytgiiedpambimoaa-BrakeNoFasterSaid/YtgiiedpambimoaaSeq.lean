/- A region that draws its order, walked operation by operation, each against its own operands alone. No conditions on a program. -/
import Derived.Test.YtgiiedpambimoaaEnv
namespace Go.Proofs.Ytgiiedpambimoaa
open Go Go.RowKit

section
variable {P : Program} {w0 : World} {Fl : List SF} {V : Nat → Value} {o : Oper} {l : List Oper} {k : Nat} {e : Nat → Value}
/-- An operation that hands back this value. -/
theorem stepE_is (c : Value) {S : Sem Next} (hF : Fl.getD k SF.any = SF.is c) (hg : guardV (val Fl V) o = true) (hE : execOp (evE e) o = S)
    (hs : ∀ w, Ext w0 w → RelUpon P (Post (fun v _ => v = c) w) (S.run P w))
    (hl : StepsE P w0 (Fs Fl) (val Fl V) l (k + 1) (upE e o.dst c)) : StepsE P w0 (Fs Fl) (val Fl V) (o :: l) k e := by
  have hp : (Fs Fl k) = fun v _ => v = c := by unfold Fs; rw [hF]; rfl
  have hv : val Fl V k = c := by unfold val; rw [hF]; rfl
  refine ⟨fun w hx _ => ?_, by rw [hv]; exact hl⟩
  rw [if_pos hg, hp, hE]; exact hs w hx
/-- One whose value stands there. -/
theorem stepE_val {c : Value} (hF : Fl.getD k SF.any = SF.is c) (hg : guardV (val Fl V) o = true) (hE : execOp (evE e) o = pure (.value c))
    (hl : StepsE P w0 (Fs Fl) (val Fl V) l (k + 1) (upE e o.dst c)) : StepsE P w0 (Fs Fl) (val Fl V) (o :: l) k e :=
  stepE_is c hF hg hE (fun w _ => ⟨rfl, Ext.refl w⟩) hl
/-- Likewise, by facts on those that it waits for. -/
theorem stepE_isF (c : Value) {S : Sem Next} (hF : Fl.getD k SF.any = SF.is c) (hg : guardV (val Fl V) o = true) (hE : execOp (evE e) o = S)
    (hs : ∀ w, Ext w0 w → FactsAt (Fs Fl) (val Fl V) w o.after.toList → RelUpon P (Post (fun v _ => v = c) w) (S.run P w))
    (hl : StepsE P w0 (Fs Fl) (val Fl V) l (k + 1) (upE e o.dst c)) : StepsE P w0 (Fs Fl) (val Fl V) (o :: l) k e := by
  have hp : (Fs Fl k) = fun v _ => v = c := by unfold Fs; rw [hF]; rfl
  have hv : val Fl V k = c := by unfold val; rw [hF]; rfl
  refine ⟨fun w hx hf => ?_, by rw [hv]; exact hl⟩
  rw [if_pos hg, hp, hE]; exact hs w hx hf
/-- One that is left out. -/
theorem stepE_skip (hF : Fl.getD k SF.any = SF.is undef) (hg : guardV (val Fl V) o = false)
    (hl : StepsE P w0 (Fs Fl) (val Fl V) l (k + 1) (upE e o.dst undef)) : StepsE P w0 (Fs Fl) (val Fl V) (o :: l) k e := by
  have hp : (Fs Fl k) = fun v _ => v = undef := by unfold Fs; rw [hF]; rfl
  have hv : val Fl V k = undef := by unfold val; rw [hF]; rfl
  refine ⟨fun w hx _ => ?_, by rw [hv]; exact hl⟩
  rw [if_neg (by rw [hg]; exact Bool.false_ne_true), hp]
/-- One that hands back a value with a fact. -/
theorem stepE_fact (F : SF) {S : Sem Next} (hF : Fl.getD k SF.any = F) (hn : F.ex = none) (hg : guardV (val Fl V) o = true) (hE : execOp (evE e) o = S)
    (hs : ∀ w, Ext w0 w → FactsAt (Fs Fl) (val Fl V) w o.after.toList → RelUpon P (Post F.p w) (S.run P w))
    (hl : StepsE P w0 (Fs Fl) (val Fl V) l (k + 1) (upE e o.dst (V k))) : StepsE P w0 (Fs Fl) (val Fl V) (o :: l) k e := by
  have hp : (Fs Fl k) = F.p := by unfold Fs; rw [hF]
  have hv : val Fl V k = V k := by unfold val; rw [hF, hn]; rfl
  refine ⟨fun w hx hf => ?_, by rw [hv]; exact hl⟩
  rw [if_pos hg, hp, hE]; exact hs w hx hf
theorem factsAt_get {F : Nat → Value → World → Prop} {w : World} (j : Nat) : ∀ {l : List Edge}, (l.any fun e => Region.binds .any e && e.on == j) = true → FactsAt F V w l → F j (V j) w
  | [], h, _ => by simp at h
  | e :: l, h, hf => by
    simp only [List.any_cons, Bool.or_eq_true, Bool.and_eq_true, beq_iff_eq] at h
    rcases h with ⟨h1, h2⟩ | h
    · have := hf.1; rw [if_pos h1, h2] at this; exact this
    · exact factsAt_get j h hf.2
theorem factsTo_get {F : Nat → Value → World → Prop} {w : World} {j : Nat} : ∀ {n : Nat}, j < n → FactsTo F V w n → F j (V j) w
  | n + 1, h, hf => by
    by_cases e : j = n
    · subst e; exact hf.2
    · exact factsTo_get (by omega) hf.1
end

section
variable {ρ : Operand → Value} {d : Option Tmp} {ty : TypeId} {pos : String} {af : Array Edge} {g : Option (Nat × Bool)} {x y z u : Operand} {a b c f : Value}
theorem ex_move (h : ρ x = a) : execOp ρ ⟨d, .move x, ty, pos, af, g⟩ = pure (.value a) := by subst h; rfl
theorem ex_assign (h : ρ x = a) : execOp ρ ⟨d, .assign x, ty, pos, af, g⟩ = pure (.value a) := by subst h; rfl
theorem ex_pick {q : Bool} (h : ρ x = .bool q) (h1 : ρ y = a) (h2 : ρ z = b) : execOp ρ ⟨d, .pick x y z, ty, pos, af, g⟩ = pure (.value (if q then a else b)) := by
  subst h1; subst h2
  show (do pure (Next.value (if ← asBool (ρ x) then ρ y else ρ z)) : Sem Next) = _
  rw [h]; rfl
theorem ex_alloc {t : TypeId} : execOp ρ ⟨d, .alloc t, ty, pos, af, g⟩ = (do pure (.value (← Instr.alloc t true (.tuple #[])))) := rfl
theorem ex_load {t : TypeId} (h : ρ x = a) : execOp ρ ⟨d, .load t x, ty, pos, af, g⟩ = (do pure (.value (← Instr.loadAt t a))) := by subst h; rfl
theorem ex_binOp {op : BinOp} {t t2 : TypeId} (h : ρ x = a) (h2 : ρ y = b) : execOp ρ ⟨d, .binOp op t x y t2, ty, pos, af, g⟩ = (do pure (.value (← (do eqGuard op t x y a b; binOp op t a b)))) := by subst h; subst h2; rfl
theorem ex_unOp {op : UnOp} {t : TypeId} (h : ρ x = a) : execOp ρ ⟨d, .unOp op t x, ty, pos, af, g⟩ = (do pure (.value (← Op.unary op a))) := by subst h; rfl
theorem ex_convert {s t : TypeId} (h : ρ x = a) : execOp ρ ⟨d, .convert s t x, ty, pos, af, g⟩ = (do pure (.value (← convert s t a))) := by subst h; rfl
theorem ex_fieldAddr {s : TypeId} {i : Nat} (h : ρ x = a) : execOp ρ ⟨d, .fieldAddr s x i, ty, pos, af, g⟩ = (do pure (.value (← Instr.fieldAt s a i))) := by subst h; rfl
theorem ex_field {s : TypeId} {i : Nat} (h : ρ x = a) : execOp ρ ⟨d, .field s x i, ty, pos, af, g⟩ = (do pure (.value (← Instr.field s a i))) := by subst h; rfl
theorem ex_indexAddr {t : TypeId} (h : ρ x = a) (h2 : ρ y = b) : execOp ρ ⟨d, .indexAddr t x y, ty, pos, af, g⟩ = (do pure (.value (← Instr.indexAt t a b))) := by subst h; subst h2; rfl
theorem ex_index {t : TypeId} (h : ρ x = a) (h2 : ρ y = b) : execOp ρ ⟨d, .index t x y, ty, pos, af, g⟩ = (do pure (.value (← Instr.index t a b))) := by subst h; subst h2; rfl
theorem ex_extract {i : Nat} (h : ρ x = a) : execOp ρ ⟨d, .extract x i, ty, pos, af, g⟩ = (do pure (.value (← Instr.extract a i))) := by subst h; rfl
theorem ex_slice {t : TypeId} (h : ρ x = a) : execOp ρ ⟨d, .slice t x none none none, ty, pos, af, g⟩ = (do pure (.value (← Instr.sliceAt t a none none none))) := by subst h; rfl
theorem ex_slice10 {t : TypeId} (h : ρ x = a) (h2 : ρ y = b) : execOp ρ ⟨d, .slice t x (some y) none none, ty, pos, af, g⟩ = (do pure (.value (← Instr.sliceAt t a (some b) none none))) := by subst h; subst h2; rfl
theorem ex_slice01 {t : TypeId} (h : ρ x = a) (h2 : ρ y = b) : execOp ρ ⟨d, .slice t x none (some y) none, ty, pos, af, g⟩ = (do pure (.value (← Instr.sliceAt t a none (some b) none))) := by subst h; subst h2; rfl
theorem ex_slice11 {t : TypeId} (h : ρ x = a) (h2 : ρ y = b) (h3 : ρ z = c) : execOp ρ ⟨d, .slice t x (some y) (some z) none, ty, pos, af, g⟩ = (do pure (.value (← Instr.sliceAt t a (some b) (some c) none))) := by subst h; subst h2; subst h3; rfl
theorem ex_build {t : TypeId} {ps : Array (Nat × Operand)} {vs : List (Nat × Value)} (h : (ps.toList.map fun (i, x) => (i, ρ x)) = vs) : execOp ρ ⟨d, .build t ps, ty, pos, af, g⟩ = (do pure (.value (← Instr.build t vs.toArray))) := by
  have : ps.map (fun (i, x) => (i, ρ x)) = vs.toArray := by apply Array.toList_inj.1; rw [Array.toList_map]; simpa using h
  rw [← this]; rfl
theorem ex_buildSlice {t n : Nat} {ps : Array (Nat × Operand)} {vs : List (Nat × Value)} (h : (ps.toList.map fun (i, x) => (i, ρ x)) = vs) : execOp ρ ⟨d, .buildSlice t n ps, ty, pos, af, g⟩ = (do pure (.value (← Instr.buildSlice t n vs.toArray))) := by
  have : ps.map (fun (i, x) => (i, ρ x)) = vs.toArray := by apply Array.toList_inj.1; rw [Array.toList_map]; simpa using h
  rw [← this]; rfl
theorem ex_arg0 : ([] : List Operand).map ρ = [] := rfl
theorem ex_arg {l : List Operand} {vs : List Value} (h : ρ x = a) (h2 : l.map ρ = vs) : (x :: l).map ρ = a :: vs := by rw [List.map_cons, h, h2]
theorem ex_part0 : (([] : List (Nat × Operand)).map fun (i, x) => (i, ρ x)) = [] := rfl
theorem ex_part {i : Nat} {l : List (Nat × Operand)} {vs : List (Nat × Value)} (h : ρ x = a) (h2 : (l.map fun (i, x) => (i, ρ x)) = vs) : (((i, x) :: l).map fun (i, x) => (i, ρ x)) = (i, a) :: vs := by subst h; subst h2; rfl
theorem ex_pickT (h : ρ x = .bool true) (h1 : ρ y = a) : execOp ρ ⟨d, .pick x y z, ty, pos, af, g⟩ = pure (.value a) := ex_pick h h1 rfl
theorem ex_pickF (h : ρ x = .bool false) (h2 : ρ z = b) : execOp ρ ⟨d, .pick x y z, ty, pos, af, g⟩ = pure (.value b) := ex_pick h rfl h2
theorem ex_call {as : Array Operand} {ts : Array TypeId} {vs : List Value} (h : ρ x = f) (h2 : as.toList.map ρ = vs) : execOp ρ ⟨d, .call ⟨.value x, as, ts⟩, ty, pos, af, g⟩ = (do let q ← Deferred.ofValue f vs.toArray; invoke q.target q.args) := by
  have : as.map ρ = vs.toArray := by apply Array.toList_inj.1; rw [Array.toList_map]; simpa using h2
  subst h
  show (do let q ← (do let args := as.map ρ; Deferred.ofValue (ρ x) args); invoke q.target q.args) = _
  rw [this]
theorem ex_builtin {bi : Builtin} {as : Array Operand} {ts : Array TypeId} {vs : List Value} (h2 : as.toList.map ρ = vs) : execOp ρ ⟨d, .call ⟨.builtin bi, as, ts⟩, ty, pos, af, g⟩ = builtin bi ts ty (as.map fun o => match o with | Operand.const _ => true | _ => false) vs.toArray := by
  have : as.map ρ = vs.toArray := by apply Array.toList_inj.1; rw [Array.toList_map]; simpa using h2
  show (do let q ← (do let args := as.map ρ; (pure { target := .builtin bi ts ty (as.map fun o => match o with | Operand.const _ => true | _ => false), args } : Sem Deferred)); invoke q.target q.args) = _
  rw [this]; rfl
end
theorem ev_h {e : Nat → Value} {t : Tmp} {v : Value} : evE (upE e (some t) v) (.tmp t) = v := if_pos rfl
theorem ev_m {e : Nat → Value} {t d : Tmp} {v a : Value} (hd : (t == d) = false) (h : evE e (.tmp t) = a) : evE (upE e (some d) v) (.tmp t) = a := by
  have : t ≠ d := by simpa using hd
  show (if t = d then v else e t) = a
  rw [if_neg this]; exact h
theorem ev_n {e : Nat → Value} {t : Tmp} {v a : Value} (h : evE e (.tmp t) = a) : evE (upE e none v) (.tmp t) = a := h
theorem rel_call {P : Program} {φ : Value → World → Prop} {w : World} {f : FuncId} {vs : List Value} (hcf : ∀ args w, (callFunc f args).run P w = .ok (.enter f args) w) (h : CallTo P f vs.toArray w φ) :
    RelUpon P φ ((do let q ← Deferred.ofValue (.func (.func f) #[] #[]) vs.toArray; invoke q.target q.args : Sem Next).run P w) := by
  have e : ((do let q ← Deferred.ofValue (.func (.func f) #[] #[]) vs.toArray; invoke q.target q.args : Sem Next).run P w) = (callFunc f (#[] ++ vs.toArray ++ #[])).run P w := rfl
  rw [e, hcf]
  have : (#[] ++ vs.toArray ++ #[] : Array Value) = vs.toArray := by simp
  rw [this]; exact h
theorem val_is {Fl : List SF} {V : Nat → Value} (k : Nat) {c : Value} (hF : Fl.getD k SF.any = SF.is c) : val Fl V k = c := by unfold val; rw [hF]; rfl
theorem val_ex {Fl : List SF} {V : Nat → Value} (k : Nat) (hF : (Fl.getD k SF.any).ex = none) : val Fl V k = V k := by unfold val; rw [hF]; rfl
theorem isF {w w' : World} {c : Value} (hx : Ext w w') : Post (fun v _ => v = c) w c w' := ⟨rfl, hx⟩
end Go.Proofs.Ytgiiedpambimoaa
