/- The abstract machine: a region that draws its order, with new objects among its first operations. No conditions on a program. -/
import Derived.Test.YtfmjmngkgmlghaaDoorA11
import Derived.Laws.Cover1
namespace Go.Proofs.YtfmjmngkgmlghaaDoor
open Go Go.RowKit Go.Proofs
set_option linter.unusedSimpArgs false
set_option linter.unusedVariables false

section
variable {P : Program} {ops : Array Oper}
end

/-- What an operation does to the objects. -/
structure Eff where
  op : Nat
  idx : Nat
  ob : Ob
section
variable {M : Mode} {P : Program} {N : Nat} {Q : AQ} {mem : List Ob} {ops : List Oper} {tail : List Oper}
/-- An operation waits for another one, over others. -/
inductive Wt (ops : List Oper) : Nat → Nat → Prop
  | one {i k : Nat} {o : Oper} : ops[i]? = some o → waitsB o k = true → Wt ops i k
  | trans {i k l : Nat} : Wt ops i k → Wt ops k l → Wt ops i l
/-- An operation that asks for these places waits for those that write them. -/
def Chk (ops : List Oper) (k : Nat) (R : List Nat) : List Eff → Prop
  | [] => True
  | q :: l => (q.idx ∉ R ∨ Wt ops k q.op) ∧ Chk ops k R l
theorem Chk.at {k : Nat} {R : List Nat} : ∀ {l : List Eff}, Chk ops k R l → ∀ q ∈ l, q.idx ∈ R → Wt ops k q.op
  | _ :: _, h, q, hq, hR => by
    rcases List.mem_cons.1 hq with rfl | hq
    · exact h.1.resolve_left (fun hn => hn hR)
    · exact h.2.at q hq hR
/-- An operation that writes a place waits for those that ask for it. -/
def Chk2 (ops : List Oper) (k j : Nat) : List (Nat × List Nat) → Prop
  | [] => True
  | q :: l => (j ∉ q.2 ∨ Wt ops k q.1) ∧ Chk2 ops k j l
theorem Chk2.at {k j : Nat} : ∀ {l : List (Nat × List Nat)}, Chk2 ops k j l → ∀ q ∈ l, j ∈ q.2 → Wt ops k q.1
  | _ :: _, h, q, hq, hR => by
    rcases List.mem_cons.1 hq with rfl | hq
    · exact h.1.resolve_left (fun hn => hn hR)
    · exact h.2.at q hq hR
/-- What one operation comes to: its value, the places that it asks for, what it writes, whether its object is new. -/
structure One where
  r : AV
  R : List Nat
  eff : Option (Nat × Ob)
  new : Bool
  old : Option (Nat × Ob)
  /-- Two objects at once: what parts of the value they are. -/
  pj : Option ((Value → Value) × (Value → Value))
/-- The place is written. -/
def One.wr (x : One) (j : Nat) : Prop := (∃ ob, x.eff = some (j, ob)) ∨ ((∃ oi, x.old = some (j, oi)) ∧ x.eff ≠ none)
def One.acc (k : Nat) (x : One) : List (Nat × List Nat) := if x.R = [] then [] else [(k, x.R)]
def One.mt (x : One) (mt : List Ob) : List Ob := match x.eff with | some (j, ob) => (match x.old with | some (i, oi) => (mt.set i oi).set j ob | none => mt.set j ob) | none => mt
/-- Room for new objects. -/
theorem SimM.room {pb : Nat → Prop} {w0 : Bs} {w : World} : ∀ (K : Nat) {θ : List Value} {mem : List Ob}, SimM pb w0 w θ mem → Step pb w0 θ mem w (θ ++ List.replicate K undef) (mem ++ List.replicate K .gone) w
  | 0, θ, mem, h => by simp only [List.replicate_zero, List.append_nil]; exact Step.refl h
  | K + 1, θ, mem, h => by
    have s := Step.new h (Ext.refl w) undef .gone (fun b hb => by cases hb) (fun _ _ _ => trivial)
    have h1 := SimM.room K s.sim
    simp only [List.append_assoc, List.singleton_append, ← List.replicate_succ] at h1
    exact s.trans h1
end
section
variable {M : Mode} {P : Program} {N : Nat} {Q : AQ} {ops l tail : List Oper} {n0 K k c : Nat} {e : Nat → AV} {mt : List Ob} {E : List Eff} {A : List (Nat × List Nat)} {o : Oper} {d : Option Tmp} {ty : TypeId} {pos : String} {af : Array Edge} {g : Option (Nat × Bool)} {op : Op}
end
section
variable {mem m : List Ob} {o : Ob} {q : Option Ob} {i j n K : Nat}
end
section
variable {P : Program} {e : Nat → AV} {mem : List Ob} {d : Option Tmp} {ty t t2 : TypeId} {pos : String} {af : Array Edge} {g : Option (Nat × Bool)} {x y z : Operand}
end
end Go.Proofs.YtfmjmngkgmlghaaDoor
