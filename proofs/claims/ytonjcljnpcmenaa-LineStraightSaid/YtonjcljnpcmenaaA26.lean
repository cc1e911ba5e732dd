/- The abstract machine: functions that hand back a struct with one row of one's own, the rest read alone. No conditions on a program. -/
import Derived.Test.YtonjcljnpcmenaaA25
import Derived.Test.YtonjcljnpcmenaaA15
namespace Go.Proofs.Ytonjcljnpcmenaa
open Go Go.RowKit Go.Proofs
set_option linter.unusedSimpArgs false
set_option linter.unusedVariables false
section
variable {P : Program} {e : Nat → AV} {mem : List Ob} {d : Option Tmp} {ty t : TypeId} {pos : String} {af : Array Edge} {g : Option (Nat × Bool)} {x y : Operand}
/-- A struct of these, one's own row where there is none. -/
def hoA (j : Nat) : Option AV → AV
  | some a => a
  | none => .own j
def hoR : Option AV → Bool
  | some a => roO a
  | none => true
def shL (hl : List (Option AV)) (j : Nat) : AV := .agg (hl.map (hoA j))
theorem shL_ok {θ θ2 : List Value} {pr pr2 : Nat → Prop} {w : World} {hl : List (Option AV)} {j q : Nat} {v u : Value} (hro : hl.all hoR = true) (hv : R1 θ pr w (shL hl j) v) (hu : θ[j]? = some u)
    (hp : ∀ b, b < w.heap.size → ¬ pr b → ¬ pr2 b) (hq : θ2[q]? = some u) (hne : isSl u = true) : R1 θ2 pr2 w (shL hl q) v := by
  obtain ⟨xs, rfl, h1, h2⟩ := hv.getAgg
  refine .agg _ _ (by simpa using h1) fun i a x ha hx => ?_
  rw [List.getElem?_map] at ha
  cases ho : hl[i]? with
  | none => rw [ho] at ha; cases ha
  | some o =>
    rw [ho] at ha
    have h3 := h2 i (hoA j o) x (by rw [List.getElem?_map, ho]; rfl) hx
    cases o with
    | none =>
      simp only [Option.map_some, hoA, Option.some.injEq] at ha; subst ha
      have := h3.getOwn
      rw [hu] at this; cases this
      exact .own _ _ hq hne
    | some b =>
      simp only [Option.map_some, hoA, Option.some.injEq] at ha; subst ha
      have hr : roO b = true := List.all_eq_true.1 hro _ (List.mem_of_getElem? ho)
      exact .ro ((h3.ro0 hr).mono (Nat.le_refl _) (fun _ _ _ => rfl) hp)
def FnRowL (P : Program) (f : FuncId) (args : List AV) (eT : TypeId) (k : Nat) (els : List (List AV)) (hl : List (Option AV)) : Prop :=
  ∀ (pr : Nat → Prop) (w : World) (vs : List Value), vs.length = args.length → (∀ (i : Nat) (a : AV) (x : Value), args[i]? = some a → vs[i]? = some x → R0 pr w a x) →
    Calls P f vs.toArray w fun en w' => ∃ v u xs, en = .returned v ∧ Ext w w' ∧ w'.ownsRow w.heap.size eT k u els.length xs ∧ (∀ l ∈ els, l.length = k) ∧ els.flatten = xs.map AV.v ∧ ∀ θ (pr2 : Nat → Prop) j, (∀ b, b < w'.heap.size → pr2 b → (pr b ∧ b < w.heap.size) ∨ baseOf u = some b) → θ[j]? = some u → R1 θ pr2 w' (shL hl j) v
theorem ro_fld_el {j o i n off k ix : Nat} {row : Bool} (hF : FldIs P t i off row n) (h0 : (n != 0) = true) (hx : evA e x = .ptr j (ix * k)) : OpRO P ⟨d, .fieldAddr t x i, ty, pos, af, g⟩ e mem (.ptr j (ix * k + off)) := ro_fld_ptr hF h0 hx
def RowLQ (P : Program) (fn : Func) (eT : TypeId) (k : Nat) (els : List (List AV)) (hl : List (Option AV)) : AQ := fun x e mem => (x = .normal ∨ x = .ret) ∧ ∃ rv j, fn.results = #[rv] ∧ mem[j]? = some (.row eT k els) ∧ ResV P e mem rv (shL hl j)
theorem retRowL {fn : Func} {eT : TypeId} {k : Nat} {els els' : List (List AV)} {hl : List (Option AV)} {x : Exit} {rv : ResultVar} {j : Nat} {r : AV} (hx : x = .normal ∨ x = .ret) (hr : fn.results = #[rv]) (hm : mem[j]? = some (.row eT k els')) (h1 : ResV P e mem rv r) (hr2 : r = shL hl j) (he : els' = els) : RowLQ P fn eT k els hl x e mem := by
  subst he; subst hr2; exact ⟨hx, rv, j, hr, hm, h1⟩
theorem fnRowL_of {hl : List (Option AV)} {f : FuncId} {fn : Func} {c : Code} {args : List AV} {eT : TypeId} {k : Nat} {els : List (List AV)} (N : Nat) (hf : P.funcs[f]? = some fn) (hb : fn.body = some c) (hn : fn.ntmps = N) (hN : args.length ≤ N) (hpl : els.flatten.all plainA = true) (hro : hl.all hoR = true)
    (hA : ∀ e m, (∀ (t : Nat) (a : AV), args[t]? = some a → evA e (.tmp t) = a) → m = [] → AW .top P N c (RowLQ P fn eT k els hl) e m) : FnRowL P f args eT k els hl := by
  subst hn
  have h := hA (ent args) [] (fun t a ha => by show args.getD t _ = a; rw [List.getD_eq_getElem?_getD, ha]; rfl) rfl
  intro pr w vs h1 h2
  refine (callsIn_wide (n := 9)).1 (callsIn_of_wp_marks hf hb trivial (wpIn_mono (h Fence.wide 9 rfl (fun b => pr b ∧ b < w.heap.size) ⟨w, fun _ => False⟩ [] { tmps := vs.toArray ++ Array.replicate (fn.ntmps - vs.toArray.size) undef, defers := [] } w ⟨?_, Mks.nil _ _ _, fun t => ?_, ?_⟩) ?_))
  · simp; omega
  · show R1 _ _ _ (args.getD t (.v undef)) ((vs.toArray ++ Array.replicate (fn.ntmps - vs.toArray.size) undef).getD t undef)
    by_cases ht : t < args.length
    · have e1 : args.getD t (.v undef) = args[t] := by simp [List.getD_eq_getElem?_getD, ht]
      have ht' : t < vs.length := by omega
      have e2 : (vs.toArray ++ Array.replicate (fn.ntmps - vs.toArray.size) undef).getD t undef = vs[t] := by
        rw [Array.getD_eq_getD_getElem?, Array.getElem?_append_left (by simpa using ht')]; simp [ht']
      rw [e1, e2]
      refine .ro ((h2 t _ _ (List.getElem?_eq_getElem ht) (List.getElem?_eq_getElem ht')).mono (Nat.le_refl _) (fun _ _ _ => rfl) fun b _ hn hp => ?_)
      rcases hp with hp | ⟨j, o, v, q, _⟩
      · exact hn hp.1
      · simp at q
    · have e1 : args.getD t (.v undef) = .v undef := by simp [List.getD_eq_getElem?_getD, List.getElem?_eq_none (Nat.le_of_not_lt ht)]
      have e2 : (vs.toArray ++ Array.replicate (fn.ntmps - vs.toArray.size) undef).getD t undef = undef := by
        rw [Array.getD_eq_getD_getElem?, Array.getElem?_append_right (by simp; omega), Array.getElem?_replicate]
        split <;> rfl
      rw [e1, e2]; exact .ro (.v _)
  · exact ⟨Bel.refl w _, fun b hb => ⟨hb.2, id⟩, rfl, fun j o v hm => by simp at hm, fun i j o p v u b hm => by simp at hm⟩
  · rintro x a w' ⟨e', mem', θ', hfit, -, hx, rv, j, hr, hm, hres⟩
    have fin : LeavesInM Fence.wide 9 P fn a.tmps (fun en w' => ∃ v u xs, en = .returned v ∧ Ext w w' ∧ w'.ownsRow w.heap.size eT k u els.length xs ∧ (∀ l ∈ els, l.length = k) ∧ els.flatten = xs.map AV.v ∧ ∀ θ (pr2 : Nat → Prop) q, (∀ b, b < w'.heap.size → pr2 b → (pr b ∧ b < w.heap.size) ∨ baseOf u = some b) → θ[q]? = some u → R1 θ pr2 w' (shL hl q) v) a.defers .returning w' := by
      refine leave_marks hfit.dfr fun w2 hc => ?_
      have hs2 := hfit.sim.calm hc
      obtain ⟨v, hrun, hv⟩ := resV_run (⟨hfit.size, Mks.nil _ _ _, fun t => (hfit.sl t).calm hc, hs2⟩ : Fit fn.ntmps _ _ e' mem' θ' { a with defers := [] } w2) hres
      obtain ⟨u, hθ⟩ : ∃ u, θ'[j]? = some u := ⟨_, List.getElem?_eq_getElem (by rw [hs2.len]; exact (List.getElem?_eq_some_iff.1 hm).1)⟩
      obtain ⟨xs, h3, hbs, h4, h5⟩ := hs2.ob j _ _ hm hθ
      refine ⟨v, results_one (rv := rv) hr _ hrun, v, u, xs, rfl, hs2.ext.toExt, ?_, h4, ?_, fun θ2 pr2 q hp2 hq => shL_ok hro hv hθ (fun b hb hn hp => (hp2 b hb hp).elim (fun h => hn (.inl h)) (fun h => hn (.inr ⟨j, _, u, hm, by simp, hθ, h⟩))) hq (own_nu h3)⟩
      · refine ⟨h3.1, ?_⟩
        rcases h3.2 with h6 | ⟨gg, cap, cur, he, hg, rest⟩
        · exact .inl h6
        · have := hbs gg (by rw [he]; rfl)
          rcases this with h7 | h7
          · exact .inr ⟨gg, cap, cur, he, h7, rest⟩
          · exact h7.elim
      · have hlen : els.flatten.length = xs.length := by rw [flatten_length h4, h3.1]
        refine List.ext_getElem? fun n => ?_
        rw [List.getElem?_map]
        by_cases hlt : n < xs.length
        · rw [List.getElem?_eq_getElem hlt, List.getElem?_eq_getElem (by omega)]
          have h6 := h5 n _ _ (List.getElem?_eq_getElem (by omega : n < els.flatten.length)) (List.getElem?_eq_getElem hlt)
          have h7 := List.all_eq_true.1 hpl _ (List.getElem_mem (by omega : n < els.flatten.length))
          cases hq : els.flatten[n]'(by omega) with
          | v c => rw [hq] at h6; cases h6; rfl
          | _ => rw [hq] at h7; cases h7
        · rw [List.getElem?_eq_none (by omega), List.getElem?_eq_none (by omega)]; rfl
    rcases hx with rfl | rfl
    · exact fin
    · exact fin
end
end Go.Proofs.Ytonjcljnpcmenaa
