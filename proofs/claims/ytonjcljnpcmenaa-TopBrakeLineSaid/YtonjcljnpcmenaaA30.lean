/- The abstract machine: a row held against nil; a row in a field of a box given up. No conditions on a program. -/
import Derived.Test.YtonjcljnpcmenaaA26
import Derived.Test.YtonjcljnpcmenaaA29
import Derived.Test.YtonjcljnpcmenaaA22
namespace Go.Proofs.Ytonjcljnpcmenaa
open Go Go.RowKit Go.Proofs
set_option linter.unusedSimpArgs false
set_option linter.unusedVariables false
section
variable {P : Program} {e : Nat → AV} {mem : List Ob} {d : Option Tmp} {ty t t2 : TypeId} {pos : String} {af : Array Edge} {g : Option (Nat × Bool)} {x y z : Operand}
end
section
variable {P : Program} {N : Nat} {Q : AQ} {e : Nat → AV} {mem : List Ob}
/-- A row of one's own in a field of a box of one's own: from here on it is read alone. -/
theorem aw_freezeF {M : Mode} {c : Code} {j k eT kk : Nat} {T : TypeId} {cells : List AV} {els : List (List AV)} (o : Nat) (hm : mem[j]? = some (.box T cells)) (hk : mem[k]? = some (.row eT kk els)) (hjk : k ≠ j) (ho : cells[o]? = some (.own k))
    (h : ∀ m1, m1 = (mem.set k .gone).set j (.box T (cells.set o (.row kk els))) → AW M P N c Q e m1) : AW M P N c Q e mem := by
  refine fun F n hF pb w0 θ a w hf => ?_
  have hsim := hf.sim
  have D1 := Step.drop hsim k
  have hm2 : (mem.set k .gone)[j]? = some (.box T cells) := by rw [List.getElem?_set_ne hjk]; exact hm
  obtain ⟨v, hv⟩ : ∃ v, θ[j]? = some v := ⟨_, List.getElem?_eq_getElem (by rw [hsim.len]; exact (List.getElem?_eq_some_iff.1 hm).1)⟩
  obtain ⟨b', xs, hb1, hb2, hb3, hb4, hb5⟩ := hsim.ob j _ v hm hv
  obtain ⟨b2, xs2, c1, c2, c3, c4, c5⟩ := D1.sim.ob j _ v hm2 hv
  have st2 : Step pb w0 θ (mem.set k .gone) w θ ((mem.set k .gone).set j (.box T (cells.set o (.row kk els)))) w :=
    Step.write (o' := Ob.box T (cells.set o (.row kk els))) D1.sim hm2 (by simp) hv (Below.refl 0 w) (fun _ _ _ => rfl) fun pr keep => ⟨b2, xs2, c1, c2, c3, by simpa using c4, fun i a x ha hx => by
      by_cases hi : o = i
      · subst hi
        have hlt : o < cells.length := (List.getElem?_eq_some_iff.1 ho).1
        rw [List.getElem?_set_self hlt] at ha
        cases ha
        have hx2 := (c5 o _ x ho hx).getOwn
        exact keep _ _ (.ro (row_given hsim hk hx2))
      · rw [List.getElem?_set_ne hi] at ha
        exact keep _ _ (c5 i a x ha hx)⟩
  have st3 := D1.trans st2
  exact wpIn_mono (h _ rfl F n hF pb w0 θ a w ⟨hf.size, hf.dfr.step st3, fun t => st3.keep _ _ (hf.sl t), st3.sim⟩) fun _ _ _ hq => hq.after st3
end
end Go.Proofs.Ytonjcljnpcmenaa
