/- The abstract machine: a row held against nil; a row in a field of a box given up. No conditions on a program. -/
import Derived.Test.YtonjcljnpcmenaaA26
import Derived.Test.YtonjcljnpcmenaaA29
import Derived.Test.YtonjcljnpcmenaaA22
namespace Go.Proofs.Ytonjcljnpcmenaa
open Go Go.RowKit Go.Proofs
set_option linter.unusedSimpArgs false
set_option linter.unusedVariables false
section
variable {P : Program} {e : Nat → AV} {mem : List Ob} {d : Option Tmp} {ty t t2 : TypeId} {pos : String} {af : Array Edge} {g : Option (Nat × Bool)} {x y z : Operand}
/-- A row of some elements is not nil. -/
theorem ro_rowne {els : List (List AV)} {k bytes eT : Nat} {zv : Value} (hty : SlIs P t eT k bytes zv) (hg : P.eqGuardType P.depth t = false) (hx : evA e x = .row k els) (hy : evA e y = .v (.slice none 0 0)) (hne : els ≠ []) :
    OpRO P ⟨d, .binOp .eql t x y t2, ty, pos, af, g⟩ e mem (.v (.bool false)) := by
  intro pb w0 θ w ev hs h
  have h1' := h x (by simp [Op.operands])
  have h2' := h y (by simp [Op.operands])
  rw [hx] at h1'; rw [hy] at h2'
  have hpr : (program).run P w = .ok P w := rfl
  have hu := hty.1
  cases hv : evE ev x with
  | slice A n c =>
    rw [hv] at h1'
    cases A with
    | none =>
      cases h1'.getRow with
      | nil => exact absurd rfl hne
    | some A =>
      rw [ex_binOp hv h2'.val, Sem.run_bind]
      have hrun : (do eqGuard .eql t x y (.slice (some A) n c) (.slice none 0 0); binOp .eql t (.slice (some A) n c) (.slice none 0 0) : Sem Value).run P w = .ok (.bool false) w := by
        have h1 : ∀ d, (Op.equalIn (d + 1) t (.slice (some A) n c) (.slice none 0 0)).run P w = .ok false w := fun d => by
          unfold Op.equalIn; simp [Sem.run_bind, run_underlying hu]
        have h2 := h1 (Op.maxDepth - 1)
        rw [Nat.sub_add_cancel (by decide)] at h2
        simp [eqGuard, binOp, Op.equal, Sem.run_bind, hpr, hg, h2]
      rw [hrun]
      exact ⟨.ro (.v _), Ext.refl w⟩
  | _ => rw [hv] at h1'; cases h1'.getRow
end
section
variable {P : Program} {N : Nat} {Q : AQ} {e : Nat → AV} {mem : List Ob}
/-- A row of one's own in a field of a box of one's own: from here on it is read alone. -/
theorem aw_freezeF {M : Mode} {c : Code} {j k eT kk : Nat} {T : TypeId} {cells : List AV} {els : List (List AV)} (o : Nat) (hm : mem[j]? = some (.box T cells)) (hk : mem[k]? = some (.row eT kk els)) (hjk : k ≠ j) (ho : cells[o]? = some (.own k))
    (h : ∀ m1, m1 = (mem.set k .gone).set j (.box T (cells.set o (.row kk els))) → AW M P N c Q e m1) : AW M P N c Q e mem := by
  refine fun F n hF pb w0 θ a w hf => ?_
  have hsim := hf.sim
  have D1 := Step.drop hsim k
  have hm2 : (mem.set k .gone)[j]? = some (.box T cells) := by rw [List.getElem?_set_ne hjk]; exact hm
  obtain ⟨v, hv⟩ : ∃ v, θ[j]? = some v := ⟨_, List.getElem?_eq_getElem (by rw [hsim.len]; exact (List.getElem?_eq_some_iff.1 hm).1)⟩
  obtain ⟨b', xs, hb1, hb2, hb3, hb4, hb5⟩ := hsim.ob j _ v hm hv
  obtain ⟨b2, xs2, c1, c2, c3, c4, c5⟩ := D1.sim.ob j _ v hm2 hv
  have st2 : Step pb w0 θ (mem.set k .gone) w θ ((mem.set k .gone).set j (.box T (cells.set o (.row kk els)))) w :=
    Step.write (o' := Ob.box T (cells.set o (.row kk els))) D1.sim hm2 (by simp) hv (Below.refl 0 w) (fun _ _ _ => rfl) fun pr keep => ⟨b2, xs2, c1, c2, c3, by simpa using c4, fun i a x ha hx => by
      by_cases hi : o = i
      · subst hi
        have hlt : o < cells.length := (List.getElem?_eq_some_iff.1 ho).1
        rw [List.getElem?_set_self hlt] at ha
        cases ha
        have hx2 := (c5 o _ x ho hx).getOwn
        exact keep _ _ (.ro (row_given hsim hk hx2))
      · rw [List.getElem?_set_ne hi] at ha
        exact keep _ _ (c5 i a x ha hx)⟩
  have st3 := D1.trans st2
  exact wpIn_mono (h _ rfl F n hF pb w0 θ a w ⟨hf.size, hf.dfr.step st3, fun t => st3.keep _ _ (hf.sl t), st3.sim⟩) fun _ _ _ hq => hq.after st3
end
end Go.Proofs.Ytonjcljnpcmenaa
