/- The abstract machine: calls that hand back structs with rows of one's own, within a drawn region. No conditions on a program. -/
import Derived.Test.YtonjcljnpcmenaaA29
import Derived.Test.YtonjcljnpcmenaaA30
namespace Go.Proofs.Ytonjcljnpcmenaa
open Go Go.RowKit Go.Proofs
set_option linter.unusedSimpArgs false
set_option linter.unusedVariables false
section
variable {P : Program} {e : Nat → AV} {mem : List Ob} {d : Option Tmp} {ty t : TypeId} {pos : String} {af : Array Edge} {g : Option (Nat × Bool)} {x y : Operand}
/-- A cell of a struct. -/
def pjF (i : Nat) : Value → Value
  | .agg xs => xs.getD i undef
  | _ => undef
theorem pj_at {θ : List Value} {pr : Nat → Prop} {w : World} {l : List AV} {cs : List Value} {i j : Nat} {u : Value} (hcl : cs.length = l.length) (hce : ∀ (i : Nat) (a : AV) (x : Value), l[i]? = some a → cs[i]? = some x → R1 θ pr w a x) (hi : l[i]? = some (.own j)) (hu : θ[j]? = some u) : pjF i (.agg cs.toArray) = u := by
  have hlt : i < cs.length := by rw [hcl]; exact (List.getElem?_eq_some_iff.1 hi).1
  have h1 := (hce i _ cs[i] hi (List.getElem?_eq_getElem hlt)).getOwn
  rw [hu] at h1; cases h1
  show cs.toArray.getD i undef = cs[i]
  simp [hlt]
theorem tw_args {θ : List Value} {pb : Nat → Prop} {w : World} {ev : Nat → Value} {as : Array Operand} {args : List AV} (hargs : evL e as.toList = args) (hro : roO.roL args = true) (h : ∀ x ∈ as, R1 θ (Prot pb θ mem) w (evA e x) (evE ev x)) :
    (as.toList.map (evE ev)).length = args.length ∧ ∀ (i : Nat) (a : AV) (v : Value), args[i]? = some a → (as.toList.map (evE ev))[i]? = some v → R0 (Prot pb θ mem) w a v := by
  refine ⟨by rw [← hargs]; simp [evL], fun i a v ha hv => ?_⟩
  have ha' := ha
  rw [← hargs, evL, List.getElem?_map] at ha'
  rw [List.getElem?_map] at hv
  cases hx : as.toList[i]? with
  | none => rw [hx] at hv; cases hv
  | some x =>
    rw [hx] at ha' hv
    simp at ha' hv
    subst ha' hv
    have hmem : x ∈ as := by have := List.mem_of_getElem? hx; simpa using this
    exact (h x hmem).ro0 (roL_get hro ha)
theorem tw_fin {θ' : List Value} {pr : Nat → Prop} {w0 : Bs} {w w' : World} (hs : w0.w.heap.size ≤ w.heap.size) {et : TypeId} {k : Nat} {els : List (List AV)} {u : Value} {xs : List Value} (h9 : w'.ownsRow w.heap.size et k u els.length xs) (hk : ∀ l ∈ els, l.length = k) (hfl : els.flatten = xs.map AV.v) : ObR θ' pr w0.okb w' u (.row et k els) := by
  refine ⟨xs, h9.mono_base (Nat.zero_le _), (fun b hb => .inl (Nat.le_trans hs (own_lt h9 hb).1)), hk, fun n a u ha hu => ?_⟩
  rw [hfl, List.getElem?_map, hu] at ha
  simp at ha
  subst ha
  exact .v _
theorem tw_call2 {hl0 : List C2} {f : FuncId} {as : Array Operand} {ts : Array TypeId} {args : List AV} {e1 e2 : TypeId} {k1 k2 : Nat} {els1 els2 : List (List AV)} (i1 i2 : Nat) (ho1 : hl0[i1]? = some .one) (ho2 : hl0[i2]? = some .two) (hargs : evL e as.toList = args) (hro : roO.roL args = true) (hc : FnRow2 P f args e1 k1 els1 e2 k2 els2 hl0) (hcf : ∀ args w, (callFunc f args).run P w = .ok (.enter f args) w) :
    OpTW P ⟨d, .call ⟨.value (.func f), as, ts⟩, ty, pos, af, g⟩ e mem (.row e1 k1 els1) (.row e2 k2 els2) (pjF i1) (pjF i2) (sh2 hl0) := by
  intro pb w0 θ w ev hs h
  obtain ⟨hvs, hva⟩ := tw_args hargs hro (fun x hx => h x (by simp [Op.operands, Call.operands, hx]))
  rw [ex_call (f := .func (.func f) #[] #[]) rfl rfl]
  refine rel_call hcf ((hc (Prot pb θ mem) w _ hvs hva).mono ?_)
  rintro en w' ⟨v, u1, u2, xs1, xs2, he, hx, ⟨h9, hk, hfl⟩, ⟨g9, gk, gfl⟩, hdis, hv⟩
  have hR := hv [u1, u2] (fun _ => False) 0 1 (fun b _ h => h.elim) rfl rfl
  obtain ⟨cs, rfl, hcl, hce⟩ := hR.getAgg
  have q1 : pjF i1 (.agg cs.toArray) = u1 := pj_at hcl hce (by rw [List.getElem?_map, ho1]; rfl) rfl
  have q2 : pjF i2 (.agg cs.toArray) = u2 := pj_at hcl hce (by rw [List.getElem?_map, ho2]; rfl) rfl
  refine ⟨_, he, hx, ?_⟩
  rw [q1, q2]
  exact ⟨fun b hb => (own_lt h9 hb).1, fun b hb => (own_lt g9 hb).1, hdis, fun θ' pr kp => ⟨tw_fin hs.ext.size h9 hk hfl, tw_fin hs.ext.size g9 gk gfl⟩, fun θ' pr i j hp h1 h2 => hv θ' pr i j hp h1 h2⟩
theorem tw_callL {hl0 : List (Option AV)} {f : FuncId} {as : Array Operand} {ts : Array TypeId} {args : List AV} {eT : TypeId} {k : Nat} {els : List (List AV)} (i1 : Nat) (ho1 : hl0[i1]? = some none) (hargs : evL e as.toList = args) (hro : roO.roL args = true) (hc : FnRowL P f args eT k els hl0) (hcf : ∀ args w, (callFunc f args).run P w = .ok (.enter f args) w) :
    OpTW P ⟨d, .call ⟨.value (.func f), as, ts⟩, ty, pos, af, g⟩ e mem (.row eT k els) .gone (pjF i1) (fun _ => undef) (fun i _ => shL hl0 i) := by
  intro pb w0 θ w ev hs h
  obtain ⟨hvs, hva⟩ := tw_args hargs hro (fun x hx => h x (by simp [Op.operands, Call.operands, hx]))
  rw [ex_call (f := .func (.func f) #[] #[]) rfl rfl]
  refine rel_call hcf ((hc (Prot pb θ mem) w _ hvs hva).mono ?_)
  rintro en w' ⟨v, u1, xs1, he, hx, h9, hk, hfl, hv⟩
  have hR := hv [u1] (fun _ => False) 0 (fun b _ h => h.elim) rfl
  obtain ⟨cs, rfl, hcl, hce⟩ := hR.getAgg
  have q1 : pjF i1 (.agg cs.toArray) = u1 := pj_at hcl hce (by rw [List.getElem?_map, ho1]; rfl) rfl
  refine ⟨_, he, hx, ?_⟩
  rw [q1]
  exact ⟨fun b hb => (own_lt h9 hb).1, fun b hb => (by cases hb), fun b _ hb => (by cases hb), fun θ' pr kp => ⟨tw_fin hs.ext.size h9 hk hfl, trivial⟩, fun θ' pr i j hp h1 _ => hv θ' pr i (fun b hb hq => (hp b hb hq).imp id fun h => h.elim id fun h => (by cases h)) h1⟩
end
theorem own_r0 {w : World} {base k : Nat} {pr : Nat → Prop} {et : TypeId} {u : Value} {els : List (List AV)} {xs : List Value} (h : w.ownsRow base et k u els.length xs) (hk : ∀ l ∈ els, l.length = k) (hfl : els.flatten = xs.map AV.v) (hp : ∀ b, base ≤ b → ¬ pr b) : R0 pr w (.row k els) u := by
  rcases id h.2 with ⟨hx, h0⟩ | ⟨g, cap, cur, hx, hg, hh, hn, hr2⟩
  · have : els = [] := List.eq_nil_of_length_eq_zero h0
    subst this; subst hx
    exact (.nil _ _ _)
  · subst hx
    by_cases hne : els = []
    · subst hne; exact (.nil _ _ _)
    · have hfl2 : els.flatten.length = els.length * k := flatten_length hk
      have hxl := h.1
      refine (.row k els g 0 cap (fun i => xs.getD i undef) hne hn hk (Array.getElem?_eq_some_iff.1 hh).1 (hp g hg) (fun i a ha => ?_) fun i a ha => ?_)
      · have hi : i < xs.length := by rw [hxl, ← hfl2]; exact (List.getElem?_eq_some_iff.1 ha).1
        have := own_cells h (b := g) rfl i (xs.getD i undef) (by simp [hi, List.getD_eq_getElem?_getD])
        rwa [Nat.zero_add]
      · have hi : i < xs.length := by rw [hxl, ← hfl2]; exact (List.getElem?_eq_some_iff.1 ha).1
        rw [hfl, List.getElem?_map, List.getElem?_eq_getElem hi] at ha
        simp at ha; subst ha
        rw [show xs.getD i undef = xs[i] by simp [hi, List.getD_eq_getElem?_getD]]
        exact .v _
/-- A struct with a row of one's own, all of it read alone. -/
theorem FnRowL.ok {P : Program} {f : FuncId} {args : List AV} {eT : TypeId} {k : Nat} {els : List (List AV)} {hl : List (Option AV)} (h : FnRowL P f args eT k els hl) (hro : hl.all hoR = true) : FnOk P f args (fun q => q = .agg (hl.map fun o => o.getD (.row k els))) := by
  intro pr w vs h1 h2
  refine (h pr w vs h1 h2).mono ?_
  rintro en w' ⟨v, u, xs, he, hx, h9, hk, hfl, hv⟩
  have hR := hv [u] (fun b => pr b ∧ b < w.heap.size) 0 (fun b _ hb => .inl hb) rfl
  obtain ⟨cs, rfl, hcl, hce⟩ := hR.getAgg
  refine ⟨_, _, he, rfl, .agg _ _ (by simpa using hcl) fun i a x ha hx2 => ?_, hx⟩
  rw [List.getElem?_map] at ha
  cases ho : hl[i]? with
  | none => rw [ho] at ha; cases ha
  | some o =>
    rw [ho] at ha
    have h3 := hce i (hoA 0 o) x (by rw [List.getElem?_map, ho]; rfl) hx2
    cases o with
    | none =>
      simp only [Option.map_some, Option.getD_none, Option.some.injEq] at ha; subst ha
      have h4 := (show R1 _ _ _ (.own 0) x from h3).getOwn
      simp at h4; subst h4
      exact own_r0 h9 hk hfl fun b hb hp => by omega
    | some b =>
      simp only [Option.map_some, Option.getD_some, Option.some.injEq] at ha; subst ha
      have hr : roO b = true := List.all_eq_true.1 hro _ (List.mem_of_getElem? ho)
      exact (show R1 _ _ _ b x from h3).ro0 hr
theorem m_tw1 {m mt : List Ob} {i j : Nat} {o1 o2 : Ob} (h : m = (mt.set i o1).set j o2) (hi : mt[i]? = some .gone) (hne : i ≠ j) : m[i]? = some o1 := by
  subst h; rw [List.getElem?_set_ne (Ne.symm hne), List.getElem?_set_self (List.getElem?_eq_some_iff.1 hi).1]
theorem m_tw2 {m mt : List Ob} {i j : Nat} {o1 o2 : Ob} (h : m = (mt.set i o1).set j o2) (hj : mt[j]? = some .gone) : m[j]? = some o2 := by
  subst h; rw [List.getElem?_set_self (by simpa using (List.getElem?_eq_some_iff.1 hj).1)]
theorem m_tw_o {m mt : List Ob} {i j q : Nat} {o1 o2 : Ob} {o : Option Ob} (h : m = (mt.set i o1).set j o2) (hq : mt[q]? = o) (h1 : q ≠ i) (h2 : q ≠ j) : m[q]? = o := by
  subst h; rw [List.getElem?_set_ne (Ne.symm h2), List.getElem?_set_ne (Ne.symm h1)]; exact hq
theorem m_tw_l {m mt : List Ob} {i j n : Nat} {o1 o2 : Ob} (h : m = (mt.set i o1).set j o2) (hl : mt.length = n) : m.length = n := by
  subst h; simpa using hl
end Go.Proofs.Ytonjcljnpcmenaa
