/- Lemmas for the statement. -/
import Derived.Test.YtjhcfpdgldpicaaA15
namespace Go.Proofs.Ytjhcfpdgldpicaa
open Go Go.RowKit
set_option linter.unusedVariables false
set_option linter.unusedSimpArgs false
def GlobR (pr : Nat → Prop) (w : World) (gs : List (Nat × List AV)) : Prop := ∀ x ∈ gs, R0 pr w (.ref x.2) (.pointer (some ⟨x.1, 0, none⟩)) ∧ ExN w x.1 x.2.length
def FnOkG (P : Program) (gs : List (Nat × List AV)) (f : FuncId) (args : List AV) (ψ : AV → Prop) : Prop :=
 ∀ (pr : Nat → Prop) (w : World) (vs : List Value), vs.length = args.length → (∀ (i : Nat) (a : AV) (x : Value), args[i]? = some a → vs[i]? = some x → R0 pr w a x) → GlobR pr w gs →
  Calls P f vs.toArray w fun en w' => ∃ r v, en = .returned v ∧ ψ r ∧ R0 (fun b => pr b ∧ b < w.heap.size) w' r v ∧ Ext w w'
theorem FnOkG.mono {P : Program} {gs : List (Nat × List AV)} {f : FuncId} {args : List AV} {ψ ψ' : AV → Prop} (h : FnOkG P gs f args ψ) (hp : ∀ r, ψ r → ψ' r) : FnOkG P gs f args ψ' := fun pr w vs h1 h2 h3 =>
 (h pr w vs h1 h2 h3).mono fun _ _ ⟨r, v, h3, h4, h5⟩ => ⟨r, v, h3, hp r h4, h5⟩
theorem FnOkG.wide {P : Program} {gs gs' : List (Nat × List AV)} {f : FuncId} {args : List AV} {ψ : AV → Prop} (h : FnOkG P gs f args ψ) (hs : ∀ x ∈ gs, x ∈ gs') : FnOkG P gs' f args ψ := fun pr w vs h1 h2 h3 => h pr w vs h1 h2 fun x hx => h3 x (hs x hx)
section
variable {P : Program} {N : Nat} {Q : AQ} {e : Nat → AV} {mem : List Ob} {d : Option Tmp} {ty t t2 : TypeId} {pos : String} {af : Array Edge} {g : Option (Nat × Bool)} {x y z : Operand}
theorem SimM.glob {pb : Nat → Prop} {w0 : Bs} {w : World} {θ : List Value} (hs : SimM pb w0 w θ mem) {j : Nat} {gs : List (Nat × List AV)} (hm : mem[j]? = some (.glob gs)) : GlobR (Prot pb θ mem) w gs := by
 have hj : j < θ.length := by rw [hs.len]; exact (List.getElem?_eq_some_iff.1 hm).1
 exact (hs.ob j _ _ hm (List.getElem?_eq_getElem hj)).2
theorem aw_freeze {M : Mode} {c : Code} {s j : Nat} {T : TypeId} {cells : List AV} (hs : evA e (.tmp s) = .ptr j 0) (hm : mem[j]? = some (.box T cells)) (hro : roO.roL cells = true) (h : ∀ m1 e1, m1 = mem.set j .gone → e1 = upA e (some s) (.ref cells) → AW M P N c Q e1 m1) : AW M P N c Q e mem := by
 refine aw_turn (fun pb w0 θ w hsim => ⟨θ, Step.drop hsim j, fun t x hr => ?_⟩) (h _ _ rfl rfl)
 by_cases ht : t = s
 ·subst ht
  rw [show e t = .ptr j 0 from hs] at hr
  simp only [upA, if_true]
  obtain ⟨b, y, hθ, hbase, rfl⟩ := hr.getPtr
  obtain ⟨b', xs, h1, rfl, h2, h3, h4⟩ := hsim.ob j _ y hm hθ
  cases hbase
  refine .ro (.ref cells b' 0 (fun i => xs.getD i undef) (Array.getElem?_eq_some_iff.1 h2).1 (Prot.dropped hsim hm (by simp) hθ rfl) (fun i a ha => ?_) fun i a ha => ?_)
  ·have hi : i < xs.length := by rw [h3]; exact (List.getElem?_eq_some_iff.1 ha).1
   rw [Nat.zero_add, cell_of_row w b' i xs.toArray T (0, 0) h2]
   simp [hi, List.getD_eq_getElem?_getD]
  ·have hi : i < xs.length := by rw [h3]; exact (List.getElem?_eq_some_iff.1 ha).1
   have := h4 i a (xs.getD i undef) ha (by simp [hi, List.getD_eq_getElem?_getD])
   exact ((Step.drop hsim j).keep _ _ this).ro0 (roL_get hro ha)
 ·simp only [upA, if_neg ht]
  exact (Step.drop hsim j).keep _ _ hr
end
theorem roL_app : ∀ {l m : List AV}, roO.roL l = true → roO.roL m = true → roO.roL (l ++ m) = true
 | [], _, _, h => h
 | a :: l, m, h, h2 => by
  simp only [List.cons_append, roO.roL, Bool.and_eq_true] at h ⊢; exact ⟨h.1, roL_app h.2 h2⟩
theorem roL_flat {α : Type} {f : α → List AV} (h : ∀ a, roO.roL (f a) = true) : ∀ xs : List α, roO.roL (xs.map f).flatten = true
 | [] => rfl
 | a :: xs => by rw [List.map_cons, List.flatten_cons]; exact roL_app (h a) (roL_flat h xs)
theorem FnOk.sub {P : Program} {f : FuncId} {args args' : List AV} {ψ : AV → Prop} (hc : FnOk P f args ψ) (hl : args'.length = args.length) (h : ∀ (pr : Nat → Prop) (w : World) (i : Nat) (a : AV) (x : Value), args[i]? = some a → ∃ a', args'[i]? = some a' ∧ (R0 pr w a' x → R0 pr w a x)) : FnOk P f args' ψ :=
 fun pr w vs h1 h2 => hc pr w vs (by omega) fun i a x ha hx => by
  obtain ⟨a', h3, h4⟩ := h pr w i a x ha
  exact h4 (h2 i a' x h3 hx)
theorem ro_boxR {P : Program} {e : Nat → AV} {mem : List Ob} {d : Option Tmp} {ty : TypeId} {pos : String} {af : Array Edge} {g : Option (Nat × Bool)} {x : Operand} {l : List AV} {T : TypeId} {a : AV} (hx : evA e x = a) (hc : cellsA a = some l) (hro : roO.roL l = true) :
 OpRO P ⟨d, .box T x, ty, pos, af, g⟩ e mem (.ref l) := by
 intro pb w0 θ w ev hs h
 refine RelUpon.mono (fun v w' ⟨h1, h2, h3, _⟩ => ?_) (nw_box (P := P) (d := d) (ty := ty) (pos := pos) (af := af) (g := g) (T := T) hx hc pb w0 θ w ev hs h)
 obtain ⟨b, xs, h4, rfl, h5, h6, h7⟩ := h3 θ (Prot pb θ mem) (fun a x hr => hr.ext h1)
 have hb := h2 b rfl
 refine ⟨.ro (.ref l b 0 (fun i => xs.getD i undef) (Array.getElem?_eq_some_iff.1 h5).1 (notProt_new hs hb) (fun i a ha => ?_) fun i a ha => ?_), h1⟩
 ·have hi : i < xs.length := by rw [h6]; exact (List.getElem?_eq_some_iff.1 ha).1
  rw [Nat.zero_add, cell_of_row w' b i xs.toArray T (0, 0) h5]
  simp [hi, List.getD_eq_getElem?_getD]
 ·have hi : i < xs.length := by rw [h6]; exact (List.getElem?_eq_some_iff.1 ha).1
  exact (h7 i a (xs.getD i undef) ha (by simp [hi, List.getD_eq_getElem?_getD])).ro0 (roL_get hro ha)
end Go.Proofs.Ytjhcfpdgldpicaa
