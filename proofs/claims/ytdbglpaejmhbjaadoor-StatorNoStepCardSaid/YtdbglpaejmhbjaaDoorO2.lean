/- Walks: overlaps in the program. -/
import Derived.Test.YtdbglpaejmhbjaaDoorO1
namespace Go.Proofs.YtdbglpaejmhbjaaDoor
open Go Go.RowKit Go.Proofs
set_option linter.unusedSimpArgs false
set_option linter.unusedVariables false
attribute [local go_sem] Oper.semAt_some

theorem own_calm {w w' : World} {B base n k : Nat} {e : TypeId} {v : Value} {xs : List Value} (h : w.ownsRow base e k v n xs) (hx : Calm B w w') : w'.ownsRow base e k v n xs := by
  refine ⟨h.1, ?_⟩
  rcases h.2 with h2 | ⟨g, cap, cur, hv, hg, hh, r⟩
  · exact .inl h2
  · exact .inr ⟨g, cap, cur, hv, hg, hx.same g _ _ _ hh, r⟩
theorem one_at (w : World) (A : Nat) (v : Value) (t : TypeId) (hA : A = w.heap.size) : ∀ j u, [v][j]? = some u → (w.alloc (.cells #[v] t)).cell? (Addr.add ⟨A, 0, none⟩ j) = some u := by
  subst hA
  intro j u hu
  rw [Addr.add_lit]
  exact (Row.new w #[v] t).2 j u hu
def tTwo : TypeId → Bool := fun t => t == 3 || t == 40
/-- What Overlaps hands back. -/
theorem keeps_app {T : TypeId → Bool} {n0 base k n : Nat} {A B C : World} {e : TypeId} {v : Value} {xs : List Value} (h : Keeps T n0 A B) (hown : B.ownsRow base e k v n xs) (hg : B.grownBy C v.ownBlock) (hb : n0 ≤ base) (hn : n0 ≤ A.heap.size) (hT : T e = true) : Keeps T n0 A C :=
  h.grown hg hn (fun g hg' => ⟨Nat.le_trans hb (hown.lt g hg').1, by obtain ⟨cur, hc⟩ := rowOf_own hown g hg'; exact ⟨cur, e, (0, 0), hc, hT⟩⟩)
def RetOver (w : World) (E : Int) (n : Nat) (xs : List Value) (e : Ending) (w' : World) : Prop :=
  ∃ A m c, e = .returned (.tuple #[.slice A m c, .int .i64 E]) ∧ m = (if E = 0 then n else 0) ∧ m ≤ c ∧ Rd w' 1 A m (if E = 0 then xs else []) ∧ Ext w w'

set_option maxRecDepth 100000 in
set_option maxHeartbeats 1000000 in
theorem overlaps_any (ls : List Int) (a : Option Addr) (n c : Nat) (p q : Int) (w : World) (hl : ls.length = n) (hn : n ≤ 1000) (hr : Rd w 1 a n (ints ls)) :
    Calls Tryd.prog 29 #[.agg #[.slice a n c], .agg #[.int .i64 p, .int .i64 q]] w (RetOver w (openE n ls p q) n (ints (overL p q 0 ls))) := by
  have HO := Lib.hid (fun w1 (h : Ext w w1) => (open_any ls a n c p q w1 hl hn (hr.ext h)))
  obtain ⟨i1, hi1, hz10, hz11, hz12⟩ := info_parts info1
  have HL := Lib.hid hl
  clear hl
  refine (callsIn_wide (n := 9)).1 ?_
  refine callsIn_of_wp_marks Tryd.func29 rfl trivial ?_ rfl
  simp only [Tryd.ntmps29, List.size_toArray, List.length_cons, List.length_nil, Nat.reduceAdd, Nat.reduceSub, Array.replicate_succ, Array.replicate_zero, List.push_toArray, List.append_toArray, List.nil_append, List.cons_append]
  by_cases hE : openE n ls p q = 0
  · rw [hE] at HO ⊢
    clear hE
    gi_wp2_with (refine ⟨trivial, ?_⟩; gi_at_call 95; (refine CallsIn.mono (callsIn_wide.2 (HO.out _ (by ((repeat' (first | with_reducible exact Ext.refl _ | assumption | with_reducible exact Ext.one _ | with_reducible refine Ext.alloc ?_ _ | with_reducible refine Ext.setCell ?_ ?_ _ | with_reducible refine Ext.drew ?_ | refine Ext.trans ?_ (by assumption))) <;> (try simp) <;> omega)))) ?_); rintro e w1 ⟨rfl, hx1⟩; obtain ⟨hc1, hf1⟩ := bcell hx1; have hzw1_0 : w.heap.size < w1.heap.size := (by have := hx1.size; (try simp at this); omega); have hzw1_1 : w.heap.size + 1 < w1.heap.size := (by have := hx1.size; (try simp at this); omega))
    obtain ⟨W0, hW0⟩ : ∃ W0, ((w1.alloc (.cells #[.slice a n c, .int .i64 p, .int .i64 q] 129)).alloc (.cells #[.slice none 0 0] 40)) = W0 := ⟨_, rfl⟩
    rw [hW0]
    have hx0 : Ext w W0 := by rw [← hW0]; ((repeat' (first | with_reducible exact Ext.refl _ | assumption | with_reducible exact Ext.one _ | with_reducible refine Ext.alloc ?_ _ | with_reducible refine Ext.setCell ?_ ?_ _ | with_reducible refine Ext.drew ?_ | refine Ext.trans ?_ (by assumption))) <;> (try simp) <;> omega)
    have hs0 : W0.heap.size = w1.heap.size + 2 := by rw [← hW0]; simp
    have hB2 : Bx W0 (w1.heap.size + 1) 40 #[.slice none 0 0] := by rw [← hW0]; exact Bx.new_at _ _ (by simp)
    clear hW0
    apply wpIn_range (gf := 96) (first := #[dV a n c p q]) (lb := #[]) (T := tTwo) (n0 := w.heap.size) rfl (fun _ _ => by kernel_rfl) (overlaps_gives ls a n c p q tTwo w.heap.size w W0 rfl HL.out hn hr rfl hx0) hx0.size
      (fun y hy => by obtain ⟨i, hi⟩ := List.getElem?_of_mem hy; obtain ⟨v, _, rfl⟩ := overY_at hi; rfl)
      (fun i W => ∃ v, Bx W (w1.heap.size + 1) 40 #[v] ∧ W.ownsRow W0.heap.size 3 1 v i (ints ((overL p q 0 ls).take i)) ∧ Ext w W ∧ W0.heap.size ≤ W.heap.size)
      (fun _ _ _ => False)
      (fun i A B ⟨s, h1, h2, h4, h5⟩ hc => ⟨s, hc.same _ _ _ _ h1, own_calm h2 hc, h4.below hc.below hx0.size, Nat.le_trans h5 hc.below.size⟩)
      (fun _ _ _ _ h _ => h) (fun _ _ ⟨_, _, _, _, h⟩ => h) (fun _ _ _ h => h.elim)
      ⟨_, hB2, ⟨by simp [ints], .inl ⟨rfl, rfl⟩⟩, hx0, Nat.le_refl _⟩
      _ ?assign ?body ?done ?stop
    case assign =>
      intro l i y W K hy hK
      obtain ⟨v, hv, rfl⟩ := overY_at hy
      have hv' : v = (overL p q 0 ls).getD i 0 := by simp [hv]
      subst hv'
      simp only [List.zip_toArray, List.zip_cons_cons, List.zip_nil_left, List.zip_nil_right, List.foldl_toArray, List.foldl_toArray', List.foldl_cons, List.foldl_nil, List.setIfInBounds_toArray, List.set_cons_zero, List.set_cons_succ]
      gi_wp2
      exact hK
    case body =>
      rintro l i y W hy ⟨v, hbx, hown, hxW, hsz⟩
      obtain ⟨o, ho, rfl⟩ := overY_at hy
      have ho' : (overL p q 0 ls).getD i 0 = o := by simp [ho]
      have hil : i < (overL p q 0 ls).length := (List.getElem?_eq_some_iff.1 ho).1
      have hin : i < n := by rw [overL_length, HL.out] at hil; exact hil
      rw [ho']
      have HO := Lib.hid ho
      obtain ⟨e0, e1, e2⟩ := hbx.at1
      clear ho hy ho' hil
      gi_wp2_with ((gi_at_builtin; refine wpListIn_append_own _ rfl (.tmp 24) (.tmp 26) 40 rfl _ 3 i1 (.int .i64 0) 1 8 Tryd.underlying40 hi1 hz10 hz11 hz12 rfl (by decide) _ _ _ rfl (hown.alloc _) _ 1 1 [.int .i64 o] rfl rfl (one_at _ _ _ _ rfl) (one_ints [_]) (by simp only [maxLen]; omega) (by omega) (by have := hsz; (try simp); omega) ?_; intro v2 w2 hown2 hgr2 _); have hownA := hown.alloc (.cells #[.int .i64 o] 3); have hrow := rowOf_own hownA; have hbx2 := (hbx.alloc (.cells #[.int .i64 o] 3)).grown hgr2 hrow (by decide); obtain ⟨A2, c2, rfl, hcc2⟩ := own_form hown2; obtain ⟨y0, y1, y2⟩ := hbx2.at1)
      have hset := hbx2.set1 (.slice A2 (i + 1) c2)
      refine ⟨Keeps.setCell (p := ⟨w1.heap.size + 1, 0, none⟩) (keeps_app (((Keeps.refl tTwo w.heap.size W).ext ((Ext.refl W).alloc _) hxW.size)) hownA hgr2 hx0.size hxW.size rfl) (by have := hx1.size; simp at this; simp; omega) hbx2 rfl _, _, hset, ?_, ?_, ?_⟩
      · rw [ints_take_snoc HO.out]; exact own_setBox hown2 hbx2 (by decide) _ _
      · have hE : Ext w w2 := Below.trans hxW ((((Ext.refl W).alloc _).mono hxW.size).trans ((Below.refl _ _).grown hgr2 (by have := hxW.size; simp; omega) (fun g hg => Nat.le_trans hx0.size (hownA.lt g hg).1)))
        exact hE.setCell (by have := hx1.size; simp at this; simp; omega) _
      · have := hgr2.size; simp at this; simp; omega
    case stop =>
      intro D c i W _ h
      exact h.elim
    case done =>
      rintro D W hD ⟨v, hbx, hown, hxW, hsz⟩ hK
      obtain ⟨e0, e1, e2⟩ := hbx.at1
      gi_wp2
      obtain ⟨A, c', rfl, hc'⟩ := own_form hown
      refine ⟨by simp, .inl ⟨_, _, rfl, run_takeDeferred hK, ?_⟩⟩
      refine ⟨_, results_tmp2 rfl _ _ _, ?_⟩
      have e1 : (overL p q 0 ls).take (overY p q ls).length = overL p q 0 ls := List.take_of_length_le (by rw [overL_length, overY_length]; exact Nat.le_refl _)
      have e2 : (overY p q ls).length = n := by rw [overY_length, HL.out]
      rw [e1] at hown
      refine ⟨A, _, c', rfl, by rw [e2]; rfl, hc', Rd.of_own (own_calm hown (Calm.putObj (B := W0.heap.size) _ hD hK rfl)), hxW.below (Calm.putObj (B := W0.heap.size) _ hD hK rfl).below hx0.size⟩
  · have hE' : (openE n ls p q != 0) = true := by simp [hE]
    generalize hEe : openE n ls p q = E at *
    have HEe := Lib.hid hE
    clear hE hEe
    gi_wp2_with (refine ⟨trivial, ?_⟩; gi_at_call 95; (refine CallsIn.mono (callsIn_wide.2 (HO.out _ (by ((repeat' (first | with_reducible exact Ext.refl _ | assumption | with_reducible exact Ext.one _ | with_reducible refine Ext.alloc ?_ _ | with_reducible refine Ext.setCell ?_ ?_ _ | with_reducible refine Ext.drew ?_ | refine Ext.trans ?_ (by assumption))) <;> (try simp) <;> omega)))) ?_); rintro e w1 ⟨rfl, hx1⟩; obtain ⟨hc1, hf1⟩ := bcell hx1; have hzw1_0 : w.heap.size < w1.heap.size := (by have := hx1.size; (try simp at this); omega); have hzw1_1 : w.heap.size + 1 < w1.heap.size := (by have := hx1.size; (try simp at this); omega))
    refine ⟨_, results_tmp2 rfl _ _ _, ?_⟩
    exact ⟨none, 0, 0, rfl, by rw [if_neg HEe.out], Nat.le_refl _, by rw [if_neg HEe.out]; exact Rd.nil _ _ _, by ((repeat' (first | with_reducible exact Ext.refl _ | assumption | with_reducible exact Ext.one _ | with_reducible refine Ext.alloc ?_ _ | with_reducible refine Ext.setCell ?_ ?_ _ | with_reducible refine Ext.drew ?_ | refine Ext.trans ?_ (by assumption))) <;> (try simp) <;> omega)⟩
end Go.Proofs.YtdbglpaejmhbjaaDoor
