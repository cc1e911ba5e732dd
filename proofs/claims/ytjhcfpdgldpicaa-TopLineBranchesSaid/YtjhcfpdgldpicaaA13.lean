/- Lemmas for the statement. -/
import Derived.Test.YtjhcfpdgldpicaaA12
namespace Go.Proofs.Ytjhcfpdgldpicaa
open Go Go.RowKit Go.Proofs
set_option linter.unusedSimpArgs false
set_option linter.unusedVariables false
section
variable {P : Program}
def EqV (P : Program) (h : Nat) (T : TypeId) (x y : Value) (b : Bool) : Prop := ∀ (d : Nat) (w : World), (Op.equalIn (d + h) T x y).run P w = .ok b w
theorem eqv_int {T : TypeId} {k k' : IntKind} (hu : P.underlying T = some (.int k)) (a b : Int) : EqV P 1 T (.int k' a) (.int k' b) (decide (a = b)) := fun d w => by
 unfold Op.equalIn
 simp [Sem.run_bind, run_underlying hu, beq_dec]
inductive EqF (P : Program) (h : Nat) (xs ys : Array Value) : List Field → Bool → Prop
 | nil : EqF P h xs ys [] true
 | cons {f : Field} {l : List Field} {x y : Value} {b c : Bool} : (f.name != "_") = true → (∀ w, (part f.type xs f.offset).run P w = .ok x w) → (∀ w, (part f.type ys f.offset).run P w = .ok y w) → EqV P h f.type x y b → EqF P h xs ys l c → EqF P h xs ys (f :: l) (b && c)
theorem eqv_struct {T : TypeId} {fs : Array Field} {h : Nat} {xs ys : Array Value} {b : Bool} (hu : P.underlying T = some (.struct fs)) (hst : P.stoodInHeld T = false) (hf : EqF P h xs ys fs.toList b) : EqV P (h + 1) T (.agg xs) (.agg ys) b := fun d w => by
 rw [show d + (h + 1) = (d + h) + 1 by omega, Op.equalIn]
 simp only [Sem.run_bind, run_underlying hu, Result.andThen_ok]
 have hpr : (program).run P w = .ok P w := rfl
 simp only [hpr, Result.andThen_ok, hst, Bool.false_eq_true, if_false]
 clear hu hst
 obtain ⟨l⟩ := fs
 simp only [List.forIn_toArray] at hf ⊢
 induction hf with
 | nil => rfl
 | cons h1 h2 h3 h4 h5 ih =>
  rename_i f l x y b c
  have hn : f.name ≠ "_" := by simpa using h1
  simp only [List.forIn_cons, Sem.run_bind, hn, h2, h3, h4 d, ne_eq, not_false_eq_true, if_true, Result.andThen_ok]
  cases b
  ·simp [Sem.run_bind, Sem.run_pure]
  ·simp [Sem.run_bind, Sem.run_pure]
   have := ih
   simp [Sem.run_bind, Sem.run_pure] at this
   exact this
inductive EqS (P : Program) (h : Nat) (xs ys : Array Value) : List (TypeId × Nat) → Bool → Prop
 | nil : EqS P h xs ys [] true
 | cons {t o : Nat} {l : List (TypeId × Nat)} {x y : Value} {b c : Bool} : (∀ w, (part t xs o).run P w = .ok x w) → (∀ w, (part t ys o).run P w = .ok y w) → EqV P h t x y b → EqS P h xs ys l c → EqS P h xs ys ((t, o) :: l) (b && c)
theorem EqS.fields {h : Nat} {xs ys : Array Value} : ∀ {fs : List Field} {b : Bool}, EqS P h xs ys (fs.map fun f => (f.type, f.offset)) b → (fs.all fun f => f.name != "_") = true → EqF P h xs ys fs b
 | [], _, hs, _ => by cases hs; exact .nil
 | f :: l, _, hs, hn => by
  simp only [List.all_cons, Bool.and_eq_true] at hn
  cases hs with
  | cons h2 h3 h4 h5 => exact .cons hn.1 h2 h3 h4 (EqS.fields h5 hn.2)
theorem EqV.up {h : Nat} {T : TypeId} {x y : Value} {b : Bool} (hv : EqV P h T x y b) (k : Nat) : EqV P (h + k) T x y b := fun d w => by
 rw [show d + (h + k) = (d + k) + h by omega]; exact hv _ w
theorem eqs_struct {T : TypeId} {h : Nat} {xs ys : Array Value} {b : Bool} (sp : List (TypeId × Nat)) (hu : P.underlying T = some (.struct (fsOf P T))) (hst : P.stoodInHeld T = false) (hs : ((fsOf P T).toList.map fun f => (f.type, f.offset)) = sp) (hn : ((fsOf P T).toList.all fun f => f.name != "_") = true) (hf : EqS P h xs ys sp b) : EqV P (h + 1) T (.agg xs) (.agg ys) b := by
 subst hs
 exact eqv_struct hu hst (hf.fields hn)
section
variable {e : Nat → AV} {mem : List Ob} {d : Option Tmp} {ty t t2 : TypeId} {pos : String} {af : Array Edge} {g : Option (Nat × Bool)} {x y : Operand}
theorem run_ne_agg {h : Nat} {xs ys : Array Value} {b : Bool} (hg : P.eqGuardType P.depth t = false) (hv : EqV P h t (.agg xs) (.agg ys) b) (hh : h ≤ Op.maxDepth) (w : World) : (do eqGuard .neq t x y (.agg xs) (.agg ys); binOp .neq t (.agg xs) (.agg ys) : Sem Value).run P w = .ok (.bool (!b)) w := by
 have hpr : (program).run P w = .ok P w := rfl
 have h1 := hv (Op.maxDepth - h) w
 rw [Nat.sub_add_cancel hh] at h1
 simp [eqGuard, binOp, Op.equal, Sem.run_bind, hpr, hg, h1]
theorem ro_sqneq {h : Nat} {l m : List AV} {xs ys : List Value} {b : Bool} (hx : evA e x = .agg l) (hy : evA e y = .agg m) (hl : l = xs.map AV.v) (hm : m = ys.map AV.v) (hg : P.eqGuardType P.depth t = false) (hv : EqV P h t (.agg xs.toArray) (.agg ys.toArray) b) (hh : h ≤ Op.maxDepth) : OpRO P ⟨d, .binOp .neq t x y t2, ty, pos, af, g⟩ e mem (.v (.bool (!b))) := by
 intro pb w0 θ w ev hs h
 have h1 := h x (by simp [Op.operands])
 have h2 := h y (by simp [Op.operands])
 rw [hx] at h1; rw [hy] at h2
 rw [ex_binOp (r1_vals h1 hl) (r1_vals h2 hm), Sem.run_bind, run_ne_agg hg hv hh]
 exact ⟨.ro (.v _), Ext.refl w⟩
end
end
end Go.Proofs.Ytjhcfpdgldpicaa
