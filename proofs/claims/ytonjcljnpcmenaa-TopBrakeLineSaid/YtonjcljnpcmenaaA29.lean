/- The abstract machine: functions that hand back a struct with two rows of one's own, the rest read alone. No conditions on a program. -/
import Derived.Test.YtonjcljnpcmenaaA26
namespace Go.Proofs.Ytonjcljnpcmenaa
open Go Go.RowKit Go.Proofs
set_option linter.unusedSimpArgs false
set_option linter.unusedVariables false
/-- Some objects more, in new blocks, each in its own. -/
theorem Step.news {pb : Nat → Prop} {w0 : Bs} {w w' : World} {θ : List Value} {mem : List Ob} (h : SimM pb w0 w θ mem) (hx : Ext w w') (vs : List Value) (os : List Ob) (hlen : vs.length = os.length) (hb : ∀ (i : Nat) (v : Value) (b : Nat), vs[i]? = some v → baseOf v = some b → w.heap.size ≤ b)
    (hd : ∀ (i j : Nat) (v u : Value) (b : Nat), vs[i]? = some v → vs[j]? = some u → baseOf v = some b → baseOf u = some b → i = j)
    (ho : ∀ θ' pr, (∀ a x, R1 θ (Prot pb θ mem) w a x → R1 θ' pr w' a x) → ∀ (i : Nat) (v : Value) (o : Ob), vs[i]? = some v → os[i]? = some o → ObR θ' pr w0.okb w' v o) : Step pb w0 θ mem w (θ ++ vs) (mem ++ os) w' := by
  have hθ : ∀ (j : Nat) (x : Value), θ[j]? = some x → (θ ++ vs)[j]? = some x := fun j x hj => by rw [List.getElem?_append_left (List.getElem?_eq_some_iff.1 hj).1]; exact hj
  have split : ∀ {j : Nat} {p : Ob} {u : Value}, (mem ++ os)[j]? = some p → (θ ++ vs)[j]? = some u → (mem[j]? = some p ∧ θ[j]? = some u) ∨ (mem.length ≤ j ∧ os[j - mem.length]? = some p ∧ vs[j - mem.length]? = some u) := by
    intro j p u hm hu
    rcases Nat.lt_or_ge j mem.length with hj | hj
    · rw [List.getElem?_append_left hj] at hm
      rw [List.getElem?_append_left (by rw [h.len]; exact hj)] at hu
      exact .inl ⟨hm, hu⟩
    · rw [List.getElem?_append_right hj] at hm
      rw [List.getElem?_append_right (by rw [h.len]; exact hj), h.len] at hu
      exact .inr ⟨hj, hm, hu⟩
  have hp : ∀ b, b < w.heap.size → ¬ Prot pb θ mem b → ¬ Prot pb (θ ++ vs) (mem ++ os) b := by
    intro b hlt hn hq
    rcases hq with hq | ⟨j, p, u, h1, h2, h3, h4⟩
    · exact hn (.inl hq)
    rcases split h1 h3 with ⟨h5, h6⟩ | ⟨_, _, h6⟩
    · exact hn (.inr ⟨j, p, u, h5, h2, h6, h4⟩)
    · have := hb _ _ b h6 h4; omega
  have keep : ∀ a x, R1 θ (Prot pb θ mem) w a x → R1 (θ ++ vs) (Prot pb (θ ++ vs) (mem ++ os)) w' a x := fun a x hr => hr.mono hθ hx.size (fun b hb _ => hx.block b hb) hp
  refine ⟨⟨h.ext.ext hx, h.low, by simp [h.len, hlen], fun j p u hm hu => ?_, fun i j p q u u' b h1 h2 h3 h4 h5 h6 h7 h8 => ?_⟩, keep, hx.size, fun b hb _ => hx.block b hb, hp⟩
  · rcases split hm hu with ⟨h5, h6⟩ | ⟨_, h5, h6⟩
    · by_cases hg : p = .gone
      · subst hg; trivial
      · exact (h.ob j p u h5 h6).mono hθ hx.size (fun b hb _ => hx.block b hb) hp (fun b hb => hx.block b ((h.ob j p u h5 h6).lt hg hb).2)
    · exact ho _ _ keep _ _ _ h6 h5
  · rcases split h1 h5 with ⟨a1, a2⟩ | ⟨l1, a1, a2⟩ <;> rcases split h3 h6 with ⟨a3, a4⟩ | ⟨l2, a3, a4⟩
    · exact h.dis i j p q u u' b a1 h2 a3 h4 a2 a4 h7 h8
    · have := ((h.ob i p u a1 a2).lt h2 h7).2; have := hb _ _ b a4 h8; omega
    · have := ((h.ob j q u' a3 a4).lt h4 h8).2; have := hb _ _ b a2 h7; omega
    · have := hd _ _ _ _ b a2 a4 h7 h8; omega
section
variable {P : Program} {e : Nat → AV} {mem : List Ob} {d : Option Tmp} {ty t : TypeId} {pos : String} {af : Array Edge} {g : Option (Nat × Bool)} {x y : Operand}
end
end Go.Proofs.Ytonjcljnpcmenaa
