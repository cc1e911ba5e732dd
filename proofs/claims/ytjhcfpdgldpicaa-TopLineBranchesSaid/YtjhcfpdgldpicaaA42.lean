/- Lemmas for the statement. -/
import Derived.Test.YtjhcfpdgldpicaaA41
import Derived.Lib.AppendStr
import Derived.Lib.UnsafeStr
namespace Go.Proofs.Ytjhcfpdgldpicaa
open Go Go.RowKit
set_option linter.unusedVariables false
set_option linter.unusedSimpArgs false
section
variable {m mem : List Ob} {a b c d e f g : Ob} {l : List Ob}
theorem m_in0 (h : m = a :: l) : m[0]? = some a := by subst h; rfl
theorem m_in1 (h : m = a :: b :: l) : m[1]? = some b := by subst h; rfl
theorem lt_nil : ∀ s ∈ ([] : List Nat), s < mem.length := by simp
theorem lt_cons {t : Nat} {ts : List Nat} {o : Ob} (h : mem[t]? = some o) (hr : ∀ s ∈ ts, s < mem.length) : ∀ s ∈ t :: ts, s < mem.length := fun s hs => by
 rcases List.mem_cons.1 hs with rfl | hs
 ·exact (List.getElem?_eq_some_iff.1 h).1
 ·exact hr s hs
theorem m_ups_o {ts : List Nat} {xs : List Ob} {i : Nat} {o : Ob} (h : m = ups ts xs mem) (hl : ts.length ≤ xs.length) (hi : mem[i]? = some o) (hn : i ∉ ts) : m[i]? = some o := by
 subst h; rw [ups_o ts xs mem i hl hn (List.getElem?_eq_some_iff.1 hi).1]; exact hi
theorem m_ups_t {ts : List Nat} {xs : List Ob} {t : Nat} {o : Ob} (h : m = ups ts xs mem) (hl : ts.length ≤ xs.length) (hnd : ts.Nodup) (hlt : ∀ s ∈ ts, s < mem.length) (i : Nat) (ht : ts[i]? = some t) (hx : xs[i]? = some o) : m[t]? = some o := by
 subst h; rw [ups_t ts xs mem i t hl hnd hlt ht]; exact hx
theorem m_ups_n {ts : List Nat} {xs : List Ob} {n : Nat} {o : Ob} (h : m = ups ts xs mem) (hl : ts.length ≤ xs.length) (hn : mem.length = n) (i : Nat) (hx : xs[ts.length + i]? = some o) : m[n + i]? = some o := by
 subst h; subst hn; rw [ups_n ts xs mem i hl]; exact hx
theorem m_ups_l {ts : List Nat} {xs : List Ob} {n : Nat} (h : m = ups ts xs mem) (hn : mem.length = n) (k : Nat) (hx : xs.length = ts.length + k) : m.length = n + k := by
 subst h; subst hn; rw [ups_len ts xs mem (by omega)]; omega
end
section
variable {P : Program} {e : Nat → AV} {mem : List Ob} {fn : Func}
theorem muQ_eq {gs : List (Nat × List AV)} {m0 m1 : List Ob} {x : Exit} {n : Nat} {r q : AV} (hx : x = .normal ∨ x = .ret) (ts : List Nat) (hl : mem.length = n) (hg : mem[0]? = some (.glob gs)) (hnd : ts.Nodup) (hpre : ts.take m0.length = List.range' 1 m0.length) (hr : ResM P fn e mem q) (hE : EmbL (rho ts n) mem ts m1) (hq : q = rn (rho ts n) r) : MuQ P fn gs m0 (fun q m => q = r ∧ m = m1) x e mem := by
 subst hl; subst hq; exact ⟨hx, ts, r, m1, ⟨rfl, rfl⟩, hg, hnd, hpre, hE, hr⟩
theorem emb_ob {ρ : Nat → Nat} {t : Nat} {ts : List Nat} {o p : Ob} {os : List Ob} (h : mem[t]? = some p) (hp : p = o.rn ρ) (hr : EmbL ρ mem ts os) : EmbL ρ mem (t :: ts) (o :: os) := .ob (by rw [h, hp]) hr
end
section
variable {P : Program} {e : Nat → AV} {mem : List Ob} {d : Option Tmp} {ty t : TypeId} {pos : String} {af : Array Edge} {g : Option (Nat × Bool)} {x y : Operand}
theorem st_mu' {n : Nat} {gs : List (Nat × List AV)} {f : FuncId} {as : Array Operand} {tys : Array TypeId} {args : List AV} {m0 m1 : List Ob} {r : AV} (hc : FnMu P gs f args m0 r m1) (ts : List Nat) (hl : mem.length = n) (hargs : evL e as.toList = rn.rnL (rho ts n) args) (hgl : GlOf mem gs) (hnd : ts.Nodup) (hE : EmbL (rho ts n) mem ts m0) (hlv : liveB m0 = true) (hcf : ∀ args w, (callFunc f args).run P w = .ok (.enter f args) w) :
 OpST P ⟨d, .call ⟨.value (.func f), as, tys⟩, ty, pos, af, g⟩ e mem (rn (rho ts n) r) (ups ts (m1.map (Ob.rn (rho ts n))) mem) := st_mu ts hl hargs hc hgl hnd hE hlv hcf
theorem rn_ro {ρ : Nat → Nat} : ∀ {a : AV}, roO a = true → rn ρ a = a := by
 have key : ∀ a : AV, (roO a = true → rn ρ a = a) := by
  intro a
  refine AV.rec (motive_1 := fun a => roO a = true → rn ρ a = a) (motive_2 := fun _ => True) (motive_3 := fun l => roO.roL l = true → rn.rnL ρ l = l) ?_ ?_ ?_ ?_ ?_ ?_ ?_ ?_ ?_ ?_ ?_ ?_ ?_ ?_ a
  ·intro _; rfl
  ·intro _ _; rfl
  ·intro _ _ _ _; rfl
  ·intro _ _ _; rfl
  ·intro l ih h; simp only [rn]; rw [ih (by simpa [roO] using h)]
  ·intro l ih h; simp only [rn]; rw [ih (by simpa [roO] using h)]
  ·intro f l k ih1 ih2 h; simp only [roO, Bool.and_eq_true] at h; simp only [rn]; rw [ih1 h.1, ih2 h.2]
  ·intro _ h; simp [roO] at h
  ·intro _ _ h; simp [roO] at h
  ·intro _; rfl
  ·trivial
  ·intros; trivial
  ·intro _; rfl
  ·intro a l ih1 ih2 h; simp only [roO.roL, Bool.and_eq_true] at h; simp only [rn.rnL]; rw [ih1 h.1, ih2 h.2]
 exact fun {a} => key a
theorem st_muE {o : Oper} {r r' : AV} {mem' : List Ob} (h : OpST P o e mem r mem') (hr : r = r') : OpST P o e mem r' mem' := hr ▸ h
end
end Go.Proofs.Ytjhcfpdgldpicaa
