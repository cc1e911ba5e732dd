/- Lemmas for the statement. -/
import Derived.Test.YtjhcfpdgldpicaaRel
import Derived.WalkKit
import Derived.WalkSpells
import Derived.WalkLawsBesides
import Derived.Maps.AppendAt
namespace Go.Proofs.Ytjhcfpdgldpicaa
open Go Go.RowKit
attribute [go_sem] Instr.field asAgg
@[go_sem high] theorem run_max2 {P : Program} (w : World) (ts : Array TypeId) (t : TypeId) (k k' : IntKind) (x y : Int) : (Builtin.max_ ts t #[.int k x, .int k' y]).run P w = .ok (.int k (max x y)) w := by
 rw [run_max_int2, show (if y > x then y else x) = max x y by omega]
@[go_sem high] theorem run_min2 {P : Program} (w : World) (ts : Array TypeId) (t : TypeId) (k k' : IntKind) (x y : Int) : (Builtin.min_ ts t #[.int k x, .int k' y]).run P w = .ok (.int k (min x y)) w := by
 rw [run_min_int2, show (if y < x then y else x) = min x y by omega]
theorem wrap_eq (n : Int) : IntKind.i64.wrap n = wrap64 n := by rw [IntKind.wrap_i64]; unfold wrap64; rfl
@[simp] theorem cast_beq (m n : Nat) : ((m : Int) == (n : Int)) = (m == n) := by rw [Bool.eq_iff_iff]; simp [Int.natCast_inj]
@[simp] theorem cast_bne (m n : Nat) : ((m : Int) != (n : Int)) = (m != n) := by simp [bne]
def Row (w : World) (b o : Nat) (xs : List Value) : Prop := b < w.heap.size ∧ ∀ j u, xs[j]? = some u → w.cell? ⟨b, o + j, none⟩ = some u
def Rd (w : World) (k : Nat) (a : Option Addr) (n : Nat) (xs : List Value) : Prop :=
 xs.length = n * k ∧ (0 < n → ∃ b o, a = some ⟨b, o, none⟩ ∧ Row w b o xs)
theorem Row.ext {w w' : World} {b o : Nat} {xs : List Value} (h : Row w b o xs) (hx : Ext w w') : Row w' b o xs :=
 ⟨Nat.lt_of_lt_of_le h.1 hx.size, fun j u hu => (Below.cell hx (p := ⟨b, o + j, none⟩) h.1).trans (h.2 j u hu)⟩
theorem Row.at {w : World} {b o : Nat} {xs : List Value} (h : Row w b o xs) {j : Nat} {u : Value} (hu : xs[j]? = some u) : w.cell? ⟨b, o + j, none⟩ = some u := h.2 j u hu
theorem Rd.ext {w w' : World} {k : Nat} {a : Option Addr} {n : Nat} {xs : List Value} (h : Rd w k a n xs) (hx : Ext w w') : Rd w' k a n xs :=
 ⟨h.1, fun hn => let ⟨b, o, e, r⟩ := h.2 hn; ⟨b, o, e, r.ext hx⟩⟩
theorem Rd.nil (w : World) (k : Nat) (a : Option Addr) : Rd w k a 0 [] := ⟨by simp, fun h => absurd h (by omega)⟩
theorem Row.new (w : World) (cs : Array Value) (t : TypeId) : Row (w.alloc (.cells cs t)) w.heap.size 0 cs.toList :=
 ⟨by simp, fun j u hu => by
  have : cs[j]? = some u := by simpa using hu
  rw [Nat.zero_add, cell_of_row (w.alloc (.cells cs t)) w.heap.size j cs t (0, 0) (heap_alloc_new w _)]; exact this⟩
theorem Rd.new (w : World) (k n : Nat) (cs : Array Value) (t : TypeId) (h : cs.size = n * k) : Rd (w.alloc (.cells cs t)) k (some ⟨w.heap.size, 0, none⟩) n cs.toList :=
 ⟨by simpa using h, fun _ => ⟨_, 0, rfl, Row.new w cs t⟩⟩
structure SF where
 p : Value → World → Prop
 ex : Option Value
 st : ∀ v w w', Ext w w' → p v w → p v w'
 law : ∀ v w, p v w → ∀ c, ex = some c → v = c
def SF.any : SF := ⟨fun _ _ => True, none, fun _ _ _ _ h => h, fun _ _ _ _ h => by cases h⟩
def SF.is (c : Value) : SF := ⟨fun v _ => v = c, some c, fun _ _ _ _ h => h, fun _ _ h _ hc => by cases hc; exact h⟩
def Fs (l : List SF) (i : Nat) : Value → World → Prop := (l.getD i SF.any).p
theorem Fs_st (l : List SF) (i : Nat) (v : Value) (w w' : World) (h : Ext w w') (hp : Fs l i v w) : Fs l i v w' := (l.getD i SF.any).st v w w' h hp
def val (l : List SF) (V : Nat → Value) (k : Nat) : Value := ((l.getD k SF.any).ex).getD (V k)
def Post (p : Value → World → Prop) (w : World) (v : Value) (w' : World) : Prop := p v w' ∧ Ext w w'
theorem Post.mk {p : Value → World → Prop} {w w' : World} {v : Value} (h : p v w') (hx : Ext w w') : Post p w v w' := ⟨h, hx⟩
def CallTo (P : Program) (f : FuncId) (args : Array Value) (w : World) (φ : Value → World → Prop) : Prop := Calls P f args w fun e w'' => ∃ u, e = .returned u ∧ φ u w''
attribute [go_sem] RelUpon_value RelUpon_skip
@[go_sem] theorem RelUpon_call {P : Program} {φ : Value → World → Prop} (f : FuncId) (args : Array Value) (w : World) : RelUpon P φ (.ok (.enter f args) w) = CallTo P f args w φ := rfl
theorem CallTo.of {P : Program} {f : FuncId} {args : Array Value} {w : World} {c : Value} {p : Value → World → Prop} (h : Calls P f args w fun e w' => e = .returned c ∧ Ext w w')
 (hp : ∀ w', Ext w w' → p c w') : CallTo P f args w (Post p w) :=
 h.mono fun _ _ ⟨he, hx⟩ => ⟨c, he, hp _ hx, hx⟩
theorem CallTo.same {P : Program} {f : FuncId} {args : Array Value} {w : World} {c : Value} {p : Value → World → Prop} (h : Calls P f args w fun e w' => e = .returned c ∧ w = w')
 (hp : p c w) : CallTo P f args w (Post p w) :=
 h.mono fun _ _ ⟨he, hx⟩ => ⟨c, he, hx ▸ hp, hx ▸ Ext.refl w⟩
theorem RelUpon.mono {P : Program} {φ ψ : Value → World → Prop} (h : ∀ v w, φ v w → ψ v w) {r : Result Next} (hr : RelUpon P φ r) : RelUpon P ψ r := by
 cases r with
 | ok n w' =>
  cases n <;> simp only [RelUpon] at hr ⊢
  case value u => exact h _ _ hr
  case skip => exact h _ _ hr
  case enter f args => exact Calls.mono hr fun e w'' ⟨u, he, hu⟩ => ⟨u, he, h _ _ hu⟩
 | halt x w' => simp only [RelUpon] at hr
def StepsG (P : Program) (ops : Array Oper) (w0 : World) (F : Nat → Value → World → Prop) (V : Nat → Value) : List Oper → Nat → Act → Prop
 | [], _, _ => True
 | o :: l, k, a => (∀ w, Ext w0 w → FactsAt F V w o.after.toList → if Region.wanted o (yielded ops a.tmps) then RelUpon P (Post (F k) w) ((execOp a.eval o).run P w) else F k undef w) ∧ StepsG P ops w0 F V l (k + 1) (a.put o.dst (V k))
theorem steps_of_guarded {P : Program} {ops : Array Oper} {w0 : World} {Fl : List SF} {V : Nat → Value} : ∀ {l : List Oper} {k : Nat} {a : Act},
 StepsG P ops w0 (Fs Fl) V l k a → Steps P ops (fun _ => Ext w0) (Fs Fl) V l k a
 | [], _, _, _ => trivial
 | o :: l, k, a, h => ⟨fun _ w _ _ hw hf => by
  have h1 := h.1 w hw hf
  split
  ·rename_i hy
   rw [if_pos hy] at h1
   exact RelUpon.mono (fun v w' ⟨h2, h3⟩ => ⟨h2, hw.trans h3, fun j u _ _ hj => Fs_st Fl j u w w' h3 hj⟩) h1
  ·rename_i hy
   rw [if_neg hy] at h1
   exact ⟨h1, hw⟩, steps_of_guarded h.2⟩
theorem val_eq {Fl : List SF} {V : Nat → Value} (h : ∀ k c, (Fl.getD k SF.any).ex = some c → V k = c) : val Fl V = V := by
 funext k
 unfold val
 cases he : (Fl.getD k SF.any).ex with
 | none => rfl
 | some c => exact (h k c he).symm
theorem Ext.below {w W w1 : World} {B : Nat} (h : Ext w W) (hb : Below B W w1) (hB : w.heap.size ≤ B) : Ext w w1 := Below.trans h (hb.mono hB)
end Go.Proofs.Ytjhcfpdgldpicaa
