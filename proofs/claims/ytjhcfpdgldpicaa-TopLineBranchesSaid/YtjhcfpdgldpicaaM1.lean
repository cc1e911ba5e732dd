/- Texts of this claim, one behind the other: lemmas for the statement. -/
import Derived.Test.YtjhcfpdgldpicaaA16
set_option linter.unusedSimpArgs false
set_option linter.unusedVariables false
namespace Go.Proofs.Ytjhcfpdgldpicaa
open Go Go.RowKit Go.Proofs
set_option maxRecDepth 100000
set_option maxHeartbeats 1000000
section
variable {P : Program} {e : Nat → AV} {mem : List Ob} {d : Option Tmp} {ty t : TypeId} {pos : String} {af : Array Edge} {g : Option (Nat × Bool)} {x y : Operand}
theorem ro_slh {els : List (List AV)} {k bytes eT : Nat} {zv : Value} {n : Int} {kn : IntKind} (hty : SlIs P t eT k bytes zv) (hx : evA e x = .row k els) (hy : evA e y = .v (.int kn n)) (h0 : 0 ≤ n) (hn : n ≤ els.length) :
 OpRO P ⟨d, .slice t x none (some y) none, ty, pos, af, g⟩ e mem (.row k (els.take n.toNat)) := by
 obtain ⟨row, ht⟩ := hty.tyIs
 have hu := hty.1
 obtain ⟨b, rfl⟩ : ∃ q : Nat, n = q := ⟨n.toNat, by omega⟩
 obtain ⟨a, ha0⟩ : ∃ a, a = 0 := ⟨0, rfl⟩
 have h1 : a ≤ b := by omega
 have h2 : b ≤ els.length := by omega
 simp only [Int.toNat_natCast]
 rw [show els.take b = (els.take b).drop a by rw [ha0, List.drop_zero]]
 intro pb w0 θ w ev hs h
 have h1' := h x (by simp [Op.operands])
 have h2' := h y (by simp [Op.operands])
 rw [hx] at h1'; rw [hy] at h2'
 generalize hv : evE ev x = p at h1'
 rw [ex_slice01 hv h2'.val, Sem.run_bind]
 have run : ∀ (A : Option Addr) (c : Nat), els.length ≤ c → (Instr.sliceAt t (.slice A els.length c) none (some (.int kn (b : Int))) none).run P w = .ok (.slice (if c = a then A else A.map (·.add (a * k))) (b - a) (c - a)) w := by
  intro A c hc
  have hb : b ≤ c := by omega
  subst ha0
  simp [Instr.sliceAt, run_underlying hu, Instr.slice, Instr.sliceBounds, Instr.sliceBound, asIntOf, hb, h1, ht.sizeOf, Sem.run_bind]
  try (cases A <;> simp [Addr.add])
 cases h1'.getRow with
 | nil =>
  have ha : a = 0 := by simp at h2; omega
  have hb : b = 0 := by simp at h2; omega
  subst ha hb
  have := run (by assumption) (by assumption) (by simp)
  simp only [List.length_nil] at this
  rw [this]
  refine ⟨.ro ?_, Ext.refl w⟩
  simp
  exact .nil _ _ _
 | row _ _ bb o c f hne hc hk hb hp hcell hr =>
  rw [run _ _ hc]
  refine ⟨.ro ?_, Ext.refl w⟩
  have hlen : ((els.take b).drop a).length = b - a := by simp; omega
  have key : ∀ i a', ((els.take b).drop a).flatten[i]? = some a' → els.flatten[a * k + i]? = some a' := by
   intro i a' hi
   have e1 : els = els.take a ++ ((els.take b).drop a ++ els.drop b) := by
    have e2 : els.take a = (els.take b).take a := by rw [List.take_take, Nat.min_eq_left (by omega)]
    rw [e2, ← List.append_assoc, List.take_append_drop, List.take_append_drop]
   rw [e1, List.flatten_append, List.getElem?_append_right (by rw [flatten_length (fun l hl => hk l (List.mem_of_mem_take hl))]; simp; rw [Nat.min_eq_left (by omega)]; omega),
    flatten_length (fun l hl => hk l (List.mem_of_mem_take hl)), List.flatten_append]
   have e3 : a * k + i - (els.take a).length * k = i := by
    rw [List.length_take, Nat.min_eq_left (by omega)]; omega
   rw [e3, List.getElem?_append_left (List.getElem?_eq_some_iff.1 hi).1]
   exact hi
  by_cases hempty : b - a = 0
  ·have : (els.take b).drop a = [] := List.eq_nil_of_length_eq_zero (by omega)
   rw [this, hempty]; exact .nil _ _ _
  ·rw [if_neg (by omega), ← hlen]
   show R0 _ _ _ (.slice (some ((⟨bb, o, none⟩ : Addr).add (a * k))) _ _)
   rw [add_ne]
   refine .row k _ bb (o + a * k) _ (fun i => f (a * k + i)) (fun h0 => by rw [h0] at hlen; simp at hlen; omega) (by omega) (fun l hl => hk l (List.mem_of_mem_take (List.mem_of_mem_drop hl))) hb hp (fun i a' hi => ?_) (fun i a' hi => ?_)
   ·rw [Nat.add_assoc]; exact hcell _ a' (key i a' hi)
   ·exact hr _ a' (key i a' hi)
end
end Go.Proofs.Ytjhcfpdgldpicaa
namespace Go.Proofs.Ytjhcfpdgldpicaa
open Go Go.RowKit Go.Proofs
section
variable {P : Program} {N : Nat} {Q : AQ} {e : Nat → AV} {mem : List Ob}
end
end Go.Proofs.Ytjhcfpdgldpicaa
