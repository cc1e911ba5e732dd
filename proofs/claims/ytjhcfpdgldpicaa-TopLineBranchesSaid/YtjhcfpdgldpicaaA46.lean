/- Lemmas for the statement. -/
import Derived.Test.YtjhcfpdgldpicaaM2
namespace Go.Proofs.Ytjhcfpdgldpicaa
open Go Go.RowKit Go.Proofs
set_option linter.unusedSimpArgs false
set_option linter.unusedVariables false
section
variable {P : Program} {N : Nat} {Q : AQ} {e : Nat → AV} {mem : List Ob}
theorem aw_toH {M : Mode} {c : Code} {k eT kk : Nat} {els : List (List AV)} (hk : mem[k]? = some (.row eT kk els)) (h : ∀ m1, m1 = mem.set k (.rowH eT kk els) → AW M P N c Q e m1) : AW M P N c Q e mem := by
 refine fun F n hF pb w0 θ a w hf => ?_
 have hsim := hf.sim
 obtain ⟨v, hv⟩ : ∃ v, θ[k]? = some v := ⟨_, List.getElem?_eq_getElem (by rw [hsim.len]; exact (List.getElem?_eq_some_iff.1 hk).1)⟩
 obtain ⟨xs, h1, h2, h3, h4⟩ := hsim.ob k _ v hk hv
 have st : Step pb w0 θ mem w θ (mem.set k (.rowH eT kk els)) w :=
  Step.write (o' := Ob.rowH eT kk els) hsim hk (by simp) hv (Below.refl 0 w) (fun _ _ _ => rfl) fun pr keep => ⟨xs, h1, h2, h3, fun i a x ha hx => keep _ _ (.ro (h4 i a x ha hx))⟩
 exact wpIn_mono (h _ rfl F n hF pb w0 θ a w ⟨hf.size, hf.dfr.step st, fun t => st.keep _ _ (hf.sl t), st.sim⟩) fun _ _ _ hq => hq.after st
def setF (els : List (List AV)) (p : Nat) (a : AV) : List (List AV) := match els with
 | [] => []
 | l :: els => if p < l.length then l.set p a :: els else l :: setF els (p - l.length) a
theorem setF_flat : ∀ (els : List (List AV)) (p : Nat) (a : AV), (setF els p a).flatten = els.flatten.set p a
 | [], p, a => by simp [setF]
 | l :: els, p, a => by
  unfold setF
  split
  ·rename_i h
   rw [List.flatten_cons, List.flatten_cons, List.set_append_left _ _ h]
  ·rename_i h
   rw [List.flatten_cons, List.flatten_cons, setF_flat els, List.set_append_right _ _ (by omega)]
theorem setF_len : ∀ (els : List (List AV)) (p : Nat) (a : AV), (setF els p a).length = els.length
 | [], p, a => rfl
 | l :: els, p, a => by
  unfold setF
  split
  ·rfl
  ·rw [List.length_cons, setF_len els, List.length_cons]
theorem setF_all : ∀ (els : List (List AV)) (p : Nat) (a : AV) (k : Nat), (∀ l ∈ els, l.length = k) → ∀ l ∈ setF els p a, l.length = k
 | [], p, a, k, h => h
 | l :: els, p, a, k, h => by
  unfold setF
  split
  ·intro x hx
   rcases List.mem_cons.1 hx with rfl | hx
   ·rw [List.length_set]; exact h l (List.mem_cons_self ..)
   ·exact h x (List.mem_cons_of_mem _ hx)
  ·intro x hx
   rcases List.mem_cons.1 hx with rfl | hx
   ·exact h x (List.mem_cons_self ..)
   ·exact setF_all els _ a k (fun y hy => h y (List.mem_cons_of_mem _ hy)) x hx
theorem aw_freezeH {M : Mode} {c : Code} {j k eT kk eT2 k2 p : Nat} {els els2 : List (List AV)} (hk : mem[k]? = some (.rowH eT kk els)) (hj : mem[j]? = some (.row eT2 k2 els2)) (hjk : j ≠ k) (hp : els.flatten[p]? = some (.own j))
 (h : ∀ m1, m1 = (mem.set j .gone).set k (.rowH eT kk (setF els p (.row k2 els2))) → AW M P N c Q e m1) : AW M P N c Q e mem := by
 refine fun F n hF pb w0 θ a w hf => ?_
 have hsim := hf.sim
 have D1 := Step.drop hsim j
 have hm2 : (mem.set j .gone)[k]? = some (.rowH eT kk els) := by rw [List.getElem?_set_ne hjk]; exact hk
 obtain ⟨v, hv⟩ : ∃ v, θ[k]? = some v := ⟨_, List.getElem?_eq_getElem (by rw [hsim.len]; exact (List.getElem?_eq_some_iff.1 hk).1)⟩
 obtain ⟨xs, c1, c2, c3, c4⟩ := D1.sim.ob k _ v hm2 hv
 have st2 : Step pb w0 θ (mem.set j .gone) w θ ((mem.set j .gone).set k (.rowH eT kk (setF els p (.row k2 els2)))) w :=
  Step.write (o' := Ob.rowH eT kk (setF els p (.row k2 els2))) D1.sim hm2 (by simp) hv (Below.refl 0 w) (fun _ _ _ => rfl) fun pr keep => ⟨xs, by rw [setF_len]; exact c1, c2, setF_all els _ _ _ c3, fun i a x ha hx => by
   rw [setF_flat] at ha
   by_cases hi : p = i
   ·subst hi
    rw [List.getElem?_set_self (List.getElem?_eq_some_iff.1 hp).1] at ha
    cases ha
    have hx2 := (c4 p _ x hp hx).getOwn
    exact keep _ _ (.ro (row_given hsim hj hx2))
   ·rw [List.getElem?_set_ne hi] at ha
    exact keep _ _ (c4 i a x ha hx)⟩
 have st3 := D1.trans st2
 exact wpIn_mono (h _ rfl F n hF pb w0 θ a w ⟨hf.size, hf.dfr.step st3, fun t => st3.keep _ _ (hf.sl t), st3.sim⟩) fun _ _ _ hq => hq.after st3
theorem aw_fromH {M : Mode} {c : Code} {k eT kk : Nat} {els : List (List AV)} (hk : mem[k]? = some (.rowH eT kk els)) (hro : roO.roL els.flatten = true) (h : ∀ m1, m1 = mem.set k (.row eT kk els) → AW M P N c Q e m1) : AW M P N c Q e mem := by
 refine fun F n hF pb w0 θ a w hf => ?_
 have hsim := hf.sim
 obtain ⟨v, hv⟩ : ∃ v, θ[k]? = some v := ⟨_, List.getElem?_eq_getElem (by rw [hsim.len]; exact (List.getElem?_eq_some_iff.1 hk).1)⟩
 obtain ⟨xs, h1, h2, h3, h4⟩ := hsim.ob k _ v hk hv
 have st : Step pb w0 θ mem w θ (mem.set k (.row eT kk els)) w :=
  Step.write (o' := Ob.row eT kk els) hsim hk (by simp) hv (Below.refl 0 w) (fun _ _ _ => rfl) fun pr keep => ⟨xs, h1, h2, h3, fun i a x ha hx => (keep _ _ (h4 i a x ha hx)).ro0 (roL_get hro ha)⟩
 exact wpIn_mono (h _ rfl F n hF pb w0 θ a w ⟨hf.size, hf.dfr.step st, fun t => st.keep _ _ (hf.sl t), st.sim⟩) fun _ _ _ hq => hq.after st
end
end Go.Proofs.Ytjhcfpdgldpicaa
