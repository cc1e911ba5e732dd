/- Lemmas for the statement. -/
import Derived.Test.YtjhcfpdgldpicaaM2
namespace Go.Proofs.Ytjhcfpdgldpicaa
open Go Go.RowKit Go.Proofs
set_option linter.unusedSimpArgs false
set_option linter.unusedVariables false
section
variable {P : Program} {e : Nat → AV} {mem : List Ob} {d : Option Tmp} {ty t : TypeId} {pos : String} {af : Array Edge} {g : Option (Nat × Bool)} {x y : Operand}
end
theorem own_r0 {w : World} {base k : Nat} {pr : Nat → Prop} {et : TypeId} {u : Value} {els : List (List AV)} {xs : List Value} (h : w.ownsRow base et k u els.length xs) (hk : ∀ l ∈ els, l.length = k) (hfl : els.flatten = xs.map AV.v) (hp : ∀ b, base ≤ b → ¬ pr b) : R0 pr w (.row k els) u := by
 rcases id h.2 with ⟨hx, h0⟩ | ⟨g, cap, cur, hx, hg, hh, hn, hr2⟩
 ·have : els = [] := List.eq_nil_of_length_eq_zero h0
  subst this; subst hx
  exact (.nil _ _ _)
 ·subst hx
  by_cases hne : els = []
  ·subst hne; exact (.nil _ _ _)
  ·have hfl2 : els.flatten.length = els.length * k := flatten_length hk
   have hxl := h.1
   refine (.row k els g 0 cap (fun i => xs.getD i undef) hne hn hk (Array.getElem?_eq_some_iff.1 hh).1 (hp g hg) (fun i a ha => ?_) fun i a ha => ?_)
   ·have hi : i < xs.length := by rw [hxl, ← hfl2]; exact (List.getElem?_eq_some_iff.1 ha).1
    have := own_cells h (b := g) rfl i (xs.getD i undef) (by simp [hi, List.getD_eq_getElem?_getD])
    rwa [Nat.zero_add]
   ·have hi : i < xs.length := by rw [hxl, ← hfl2]; exact (List.getElem?_eq_some_iff.1 ha).1
    rw [hfl, List.getElem?_map, List.getElem?_eq_getElem hi] at ha
    simp at ha; subst ha
    rw [show xs.getD i undef = xs[i] by simp [hi, List.getD_eq_getElem?_getD]]
    exact .v _
theorem FnRowL.ok {P : Program} {f : FuncId} {args : List AV} {eT : TypeId} {k : Nat} {els : List (List AV)} {hl : List (Option AV)} (h : FnRowL P f args eT k els hl) (hro : hl.all hoR = true) : FnOk P f args (fun q => q = .agg (hl.map fun o => o.getD (.row k els))) := by
 intro pr w vs h1 h2
 refine (h pr w vs h1 h2).mono ?_
 rintro en w' ⟨v, u, xs, he, hx, h9, hk, hfl, hv⟩
 have hR := hv [u] (fun b => pr b ∧ b < w.heap.size) 0 (fun b _ hb => .inl hb) rfl
 obtain ⟨cs, rfl, hcl, hce⟩ := hR.getAgg
 refine ⟨_, _, he, rfl, .agg _ _ (by simpa using hcl) fun i a x ha hx2 => ?_, hx⟩
 rw [List.getElem?_map] at ha
 cases ho : hl[i]? with
 | none => rw [ho] at ha; cases ha
 | some o =>
  rw [ho] at ha
  have h3 := hce i (hoA 0 o) x (by rw [List.getElem?_map, ho]; rfl) hx2
  cases o with
  | none =>
   simp only [Option.map_some, Option.getD_none, Option.some.injEq] at ha; subst ha
   have h4 := (show R1 _ _ _ (.own 0) x from h3).getOwn
   simp at h4; subst h4
   exact own_r0 h9 hk hfl fun b hb hp => by omega
  | some b =>
   simp only [Option.map_some, Option.getD_some, Option.some.injEq] at ha; subst ha
   have hr : roO b = true := List.all_eq_true.1 hro _ (List.mem_of_getElem? ho)
   exact (show R1 _ _ _ b x from h3).ro0 hr
end Go.Proofs.Ytjhcfpdgldpicaa
