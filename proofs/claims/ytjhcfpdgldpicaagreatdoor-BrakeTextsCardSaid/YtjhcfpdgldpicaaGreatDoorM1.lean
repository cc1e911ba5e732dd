/- Texts of this claim, one behind the other: lemmas for the statement. -/
import Derived.Test.YtjhcfpdgldpicaaGreatDoorA16
set_option linter.unusedSimpArgs false
set_option linter.unusedVariables false
namespace Go.Proofs.YtjhcfpdgldpicaaGreatDoor
open Go Go.RowKit Go.Proofs
section
variable {P : Program} {N : Nat} {Q : AQ} {e : Nat → AV} {mem : List Ob}
theorem aw_freezeR {M : Mode} {c : Code} {s j : Nat} {eT k : Nat} {els : List (List AV)} (hs : evA e (.tmp s) = .own j) (hm : mem[j]? = some (.row eT k els)) (h : ∀ m1 e1, m1 = mem.set j .gone → e1 = upA e (some s) (.row k els) → AW M P N c Q e1 m1) : AW M P N c Q e mem := by
 refine aw_turn (fun pb w0 θ w hsim => ⟨θ, Step.drop hsim j, fun t x hr => ?_⟩) (h _ _ rfl rfl)
 by_cases ht : t = s
 ·subst ht
  rw [show e t = .own j from hs] at hr
  simp only [upA, if_true]
  have hθ := hr.getOwn
  obtain ⟨xs, h1, h2, h3, h4⟩ := hsim.ob j _ x hm hθ
  rcases id h1.2 with ⟨hx, h0⟩ | ⟨g, cap, cur, hx, hg, hh, hn, hr2⟩
  ·have : els = [] := List.eq_nil_of_length_eq_zero h0
   subst this; subst hx
   exact .ro (.nil _ _ _)
  ·subst hx
   by_cases hne : els = []
   ·subst hne; exact .ro (.nil _ _ _)
   ·have hfl : els.flatten.length = els.length * k := flatten_length h3
    have hxl := h1.1
    refine .ro (.row k els g 0 cap (fun i => xs.getD i undef) hne hn h3 (Array.getElem?_eq_some_iff.1 hh).1 (Prot.dropped hsim hm (by simp) hθ rfl) (fun i a ha => ?_) fun i a ha => ?_)
    ·have hi : i < xs.length := by rw [hxl, ← hfl]; exact (List.getElem?_eq_some_iff.1 ha).1
     have := own_cells h1 (b := g) rfl i (xs.getD i undef) (by simp [hi, List.getD_eq_getElem?_getD])
     rwa [Nat.zero_add]
    ·have hi : i < xs.length := by rw [hxl, ← hfl]; exact (List.getElem?_eq_some_iff.1 ha).1
     have := h4 i a (xs.getD i undef) ha (by simp [hi, List.getD_eq_getElem?_getD])
     exact this.mono (Nat.le_refl _) (fun _ _ _ => rfl) (Step.drop hsim j).np
 ·simp only [upA, if_neg ht]
  exact (Step.drop hsim j).keep _ _ hr
end
end Go.Proofs.YtjhcfpdgldpicaaGreatDoor
namespace Go.Proofs.YtjhcfpdgldpicaaGreatDoor
open Go Go.RowKit Go.Proofs
section
variable {P : Program} {N : Nat} {Q : AQ} {e : Nat → AV} {mem : List Ob}
theorem row_given {pb : Nat → Prop} {w0 : Bs} {w : World} {θ : List Value} (hsim : SimM pb w0 w θ mem) {j eT k : Nat} {els : List (List AV)} {x : Value} (hm : mem[j]? = some (.row eT k els)) (hθ : θ[j]? = some x) : R0 (Prot pb θ (mem.set j .gone)) w (.row k els) x := by
 obtain ⟨xs, h1, h2, h3, h4⟩ := hsim.ob j _ x hm hθ
 rcases id h1.2 with ⟨hx, h0⟩ | ⟨g, cap, cur, hx, hg, hh, hn, hr2⟩
 ·have : els = [] := List.eq_nil_of_length_eq_zero h0
  subst this; subst hx
  exact (.nil _ _ _)
 ·subst hx
  by_cases hne : els = []
  ·subst hne; exact (.nil _ _ _)
  ·have hfl : els.flatten.length = els.length * k := flatten_length h3
   have hxl := h1.1
   refine (.row k els g 0 cap (fun i => xs.getD i undef) hne hn h3 (Array.getElem?_eq_some_iff.1 hh).1 (Prot.dropped hsim hm (by simp) hθ rfl) (fun i a ha => ?_) fun i a ha => ?_)
   ·have hi : i < xs.length := by rw [hxl, ← hfl]; exact (List.getElem?_eq_some_iff.1 ha).1
    have := own_cells h1 (b := g) rfl i (xs.getD i undef) (by simp [hi, List.getD_eq_getElem?_getD])
    rwa [Nat.zero_add]
   ·have hi : i < xs.length := by rw [hxl, ← hfl]; exact (List.getElem?_eq_some_iff.1 ha).1
    have := h4 i a (xs.getD i undef) ha (by simp [hi, List.getD_eq_getElem?_getD])
    exact this.mono (Nat.le_refl _) (fun _ _ _ => rfl) (Step.drop hsim j).np
end
end Go.Proofs.YtjhcfpdgldpicaaGreatDoor
namespace Go.Proofs.YtjhcfpdgldpicaaGreatDoor
open Go Go.RowKit Go.Proofs
section
variable {P : Program} {e : Nat → AV} {mem : List Ob} {d : Option Tmp} {x : Operand} {ty : TypeId} {pos : String} {af : Array Edge} {g : Option (Nat × Bool)}
theorem ro_nilP {j o : Nat} (hx : evA e x = .ptr j o) : OpRO P ⟨d, .nilCheck x, ty, pos, af, g⟩ e mem (.ptr j o) := by
 intro pb w0 θ w ev hs h
 have h1 := h x (by simp [Op.operands])
 rw [hx] at h1
 have h2 := h1
 obtain ⟨b, y, hθ, hbase, hy⟩ := h1.getPtr
 rw [hy] at h2
 unfold execOp; simp only [hy]
 exact ⟨h2, Ext.refl w⟩
end
end Go.Proofs.YtjhcfpdgldpicaaGreatDoor
namespace Go.Proofs.YtjhcfpdgldpicaaGreatDoor
open Go Go.RowKit Go.Proofs
def InU64 (n : Int) : Prop := 0 ≤ n ∧ n < 18446744073709551616
section
variable {P : Program} {e : Nat → AV} {mem : List Ob} {d : Option Tmp} {x y : Operand} {t t2 ty : TypeId} {pos : String} {af : Array Edge} {g : Option (Nat × Bool)} {k k' : IntKind} {m n : Int}
theorem ro_cv (hx : evA e x = .v (.int k m)) (hs : (P.underlying t).isSome = true) (hd : P.underlying t2 = some (.int k')) : OpRO P ⟨d, .convert t t2 x, ty, pos, af, g⟩ e mem (.v (.int k' (k'.wrap m))) :=
 ro_conv hx t t2 fun w => by
  have hk : P.intKind t2 = k' := by unfold Program.intKind; rw [hd]
  have := run_convert_int (P := P) w t t2 k m hs (by rw [hk]; exact hd)
  rwa [hk] at this
theorem ro_cvI (hx : evA e x = .v (.int k m)) (hs : (P.underlying t).isSome = true) (hd : P.underlying t2 = some (.int .i64)) (h : In64 m) : OpRO P ⟨d, .convert t t2 x, ty, pos, af, g⟩ e mem (.v (.int .i64 m)) := by
 have := ro_cv (mem := mem) (d := d) (ty := ty) (pos := pos) (af := af) (g := g) hx hs hd; rwa [wrap_in h] at this
end
end Go.Proofs.YtjhcfpdgldpicaaGreatDoor
