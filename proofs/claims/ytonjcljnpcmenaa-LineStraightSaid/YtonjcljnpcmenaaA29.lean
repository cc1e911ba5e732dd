/- The abstract machine: functions that hand back a struct with two rows of one's own, the rest read alone. No conditions on a program. -/
import Derived.Test.YtonjcljnpcmenaaA26
namespace Go.Proofs.Ytonjcljnpcmenaa
open Go Go.RowKit Go.Proofs
set_option linter.unusedSimpArgs false
set_option linter.unusedVariables false
/-- Some objects more, in new blocks, each in its own. -/
theorem Step.news {pb : Nat → Prop} {w0 : Bs} {w w' : World} {θ : List Value} {mem : List Ob} (h : SimM pb w0 w θ mem) (hx : Ext w w') (vs : List Value) (os : List Ob) (hlen : vs.length = os.length) (hb : ∀ (i : Nat) (v : Value) (b : Nat), vs[i]? = some v → baseOf v = some b → w.heap.size ≤ b)
    (hd : ∀ (i j : Nat) (v u : Value) (b : Nat), vs[i]? = some v → vs[j]? = some u → baseOf v = some b → baseOf u = some b → i = j)
    (ho : ∀ θ' pr, (∀ a x, R1 θ (Prot pb θ mem) w a x → R1 θ' pr w' a x) → ∀ (i : Nat) (v : Value) (o : Ob), vs[i]? = some v → os[i]? = some o → ObR θ' pr w0.okb w' v o) : Step pb w0 θ mem w (θ ++ vs) (mem ++ os) w' := by
  have hθ : ∀ (j : Nat) (x : Value), θ[j]? = some x → (θ ++ vs)[j]? = some x := fun j x hj => by rw [List.getElem?_append_left (List.getElem?_eq_some_iff.1 hj).1]; exact hj
  have split : ∀ {j : Nat} {p : Ob} {u : Value}, (mem ++ os)[j]? = some p → (θ ++ vs)[j]? = some u → (mem[j]? = some p ∧ θ[j]? = some u) ∨ (mem.length ≤ j ∧ os[j - mem.length]? = some p ∧ vs[j - mem.length]? = some u) := by
    intro j p u hm hu
    rcases Nat.lt_or_ge j mem.length with hj | hj
    · rw [List.getElem?_append_left hj] at hm
      rw [List.getElem?_append_left (by rw [h.len]; exact hj)] at hu
      exact .inl ⟨hm, hu⟩
    · rw [List.getElem?_append_right hj] at hm
      rw [List.getElem?_append_right (by rw [h.len]; exact hj), h.len] at hu
      exact .inr ⟨hj, hm, hu⟩
  have hp : ∀ b, b < w.heap.size → ¬ Prot pb θ mem b → ¬ Prot pb (θ ++ vs) (mem ++ os) b := by
    intro b hlt hn hq
    rcases hq with hq | ⟨j, p, u, h1, h2, h3, h4⟩
    · exact hn (.inl hq)
    rcases split h1 h3 with ⟨h5, h6⟩ | ⟨_, _, h6⟩
    · exact hn (.inr ⟨j, p, u, h5, h2, h6, h4⟩)
    · have := hb _ _ b h6 h4; omega
  have keep : ∀ a x, R1 θ (Prot pb θ mem) w a x → R1 (θ ++ vs) (Prot pb (θ ++ vs) (mem ++ os)) w' a x := fun a x hr => hr.mono hθ hx.size (fun b hb _ => hx.block b hb) hp
  refine ⟨⟨h.ext.ext hx, h.low, by simp [h.len, hlen], fun j p u hm hu => ?_, fun i j p q u u' b h1 h2 h3 h4 h5 h6 h7 h8 => ?_⟩, keep, hx.size, fun b hb _ => hx.block b hb, hp⟩
  · rcases split hm hu with ⟨h5, h6⟩ | ⟨_, h5, h6⟩
    · by_cases hg : p = .gone
      · subst hg; trivial
      · exact (h.ob j p u h5 h6).mono hθ hx.size (fun b hb _ => hx.block b hb) hp (fun b hb => hx.block b ((h.ob j p u h5 h6).lt hg hb).2)
    · exact ho _ _ keep _ _ _ h6 h5
  · rcases split h1 h5 with ⟨a1, a2⟩ | ⟨l1, a1, a2⟩ <;> rcases split h3 h6 with ⟨a3, a4⟩ | ⟨l2, a3, a4⟩
    · exact h.dis i j p q u u' b a1 h2 a3 h4 a2 a4 h7 h8
    · have := ((h.ob i p u a1 a2).lt h2 h7).2; have := hb _ _ b a4 h8; omega
    · have := ((h.ob j q u' a3 a4).lt h4 h8).2; have := hb _ _ b a2 h7; omega
    · have := hd _ _ _ _ b a2 a4 h7 h8; omega
section
variable {P : Program} {e : Nat → AV} {mem : List Ob} {d : Option Tmp} {ty t : TypeId} {pos : String} {af : Array Edge} {g : Option (Nat × Bool)} {x y : Operand}
/-- A struct of these: what is read alone, the first row of one's own, the second. -/
inductive C2 where
  | a (v : AV)
  | one
  | two
def c2A (j1 j2 : Nat) : C2 → AV
  | .a v => v
  | .one => .own j1
  | .two => .own j2
def c2R : C2 → Bool
  | .a v => roO v
  | _ => true
def sh2 (hl : List C2) (j1 j2 : Nat) : AV := .agg (hl.map (c2A j1 j2))
theorem sh2_ok {θ θ2 : List Value} {pr pr2 : Nat → Prop} {w : World} {hl : List C2} {j1 j2 q1 q2 : Nat} {v u1 u2 : Value} (hro : hl.all c2R = true) (hv : R1 θ pr w (sh2 hl j1 j2) v) (hu1 : θ[j1]? = some u1) (hu2 : θ[j2]? = some u2)
    (hp : ∀ b, b < w.heap.size → ¬ pr b → ¬ pr2 b) (hq1 : θ2[q1]? = some u1) (hq2 : θ2[q2]? = some u2) (hn1 : isSl u1 = true) (hn2 : isSl u2 = true) : R1 θ2 pr2 w (sh2 hl q1 q2) v := by
  obtain ⟨xs, rfl, h1, h2⟩ := hv.getAgg
  refine .agg _ _ (by simpa using h1) fun i a x ha hx => ?_
  rw [List.getElem?_map] at ha
  cases ho : hl[i]? with
  | none => rw [ho] at ha; cases ha
  | some o =>
    rw [ho] at ha
    have h3 := h2 i (c2A j1 j2 o) x (by rw [List.getElem?_map, ho]; rfl) hx
    cases o with
    | one =>
      simp only [Option.map_some, c2A, Option.some.injEq] at ha; subst ha
      have := h3.getOwn
      rw [hu1] at this; cases this
      exact .own _ _ hq1 hn1
    | two =>
      simp only [Option.map_some, c2A, Option.some.injEq] at ha; subst ha
      have := h3.getOwn
      rw [hu2] at this; cases this
      exact .own _ _ hq2 hn2
    | a b =>
      simp only [Option.map_some, c2A, Option.some.injEq] at ha; subst ha
      have hr : roO b = true := List.all_eq_true.1 hro _ (List.mem_of_getElem? ho)
      exact .ro ((h3.ro0 hr).mono (Nat.le_refl _) (fun _ _ _ => rfl) hp)
def FnRow2 (P : Program) (f : FuncId) (args : List AV) (e1 : TypeId) (k1 : Nat) (els1 : List (List AV)) (e2 : TypeId) (k2 : Nat) (els2 : List (List AV)) (hl : List C2) : Prop :=
  ∀ (pr : Nat → Prop) (w : World) (vs : List Value), vs.length = args.length → (∀ (i : Nat) (a : AV) (x : Value), args[i]? = some a → vs[i]? = some x → R0 pr w a x) →
    Calls P f vs.toArray w fun en w' => ∃ v u1 u2 xs1 xs2, en = .returned v ∧ Ext w w' ∧ (w'.ownsRow w.heap.size e1 k1 u1 els1.length xs1 ∧ (∀ l ∈ els1, l.length = k1) ∧ els1.flatten = xs1.map AV.v) ∧ (w'.ownsRow w.heap.size e2 k2 u2 els2.length xs2 ∧ (∀ l ∈ els2, l.length = k2) ∧ els2.flatten = xs2.map AV.v) ∧
      (∀ b, baseOf u1 = some b → baseOf u2 = some b → False) ∧ ∀ θ (pr2 : Nat → Prop) j1 j2, (∀ b, b < w'.heap.size → pr2 b → (pr b ∧ b < w.heap.size) ∨ baseOf u1 = some b ∨ baseOf u2 = some b) → θ[j1]? = some u1 → θ[j2]? = some u2 → R1 θ pr2 w' (sh2 hl j1 j2) v
def Row2Q (P : Program) (fn : Func) (e1 : TypeId) (k1 : Nat) (els1 : List (List AV)) (e2 : TypeId) (k2 : Nat) (els2 : List (List AV)) (hl : List C2) : AQ := fun x e mem => (x = .normal ∨ x = .ret) ∧ ∃ rv j1 j2, fn.results = #[rv] ∧ j1 ≠ j2 ∧ mem[j1]? = some (.row e1 k1 els1) ∧ mem[j2]? = some (.row e2 k2 els2) ∧ ResV P e mem rv (sh2 hl j1 j2)
theorem retRow2 {fn : Func} {e1 e2 : TypeId} {k1 k2 : Nat} {els1 els1' els2 els2' : List (List AV)} {hl : List C2} {x : Exit} {rv : ResultVar} {j1 j2 : Nat} {r : AV} (hx : x = .normal ∨ x = .ret) (hr : fn.results = #[rv]) (hj : j1 ≠ j2) (hm1 : mem[j1]? = some (.row e1 k1 els1')) (hm2 : mem[j2]? = some (.row e2 k2 els2')) (h1 : ResV P e mem rv r) (hr2 : r = sh2 hl j1 j2) (he : els1' = els1 ∧ els2' = els2) : Row2Q P fn e1 k1 els1 e2 k2 els2 hl x e mem := by
  obtain ⟨he, he2⟩ := he
  subst he; subst he2; subst hr2; exact ⟨hx, rv, j1, j2, hr, hj, hm1, hm2, h1⟩
theorem own_rebase {w w0 : World} {P' : Nat → Prop} {e k n : Nat} {v : Value} {xs : List Value} (h3 : w.ownsRow 0 e k v n xs) (hbs : ∀ b, baseOf v = some b → Bs.okb ⟨w0, fun _ => False⟩ b) : w.ownsRow w0.heap.size e k v n xs := by
  refine ⟨h3.1, ?_⟩
  rcases h3.2 with h6 | ⟨gg, cap, cur, he, hg, rest⟩
  · exact .inl h6
  · rcases hbs gg (by rw [he]; rfl) with h7 | h7
    · exact .inr ⟨gg, cap, cur, he, h7, rest⟩
    · exact h7.elim
theorem own_plain {θ : List Value} {pr : Nat → Prop} {w : World} {k : Nat} {els : List (List AV)} {xs : List Value} (hpl : els.flatten.all plainA = true) (hl : xs.length = els.length * k) (h4 : ∀ l ∈ els, l.length = k) (h5 : ∀ (i : Nat) (a : AV) (x : Value), els.flatten[i]? = some a → xs[i]? = some x → R0 pr w a x) : els.flatten = xs.map AV.v := by
  have hlen : els.flatten.length = xs.length := by rw [flatten_length h4, hl]
  refine List.ext_getElem? fun n => ?_
  rw [List.getElem?_map]
  by_cases hlt : n < xs.length
  · rw [List.getElem?_eq_getElem hlt, List.getElem?_eq_getElem (by omega)]
    have h6 := h5 n _ _ (List.getElem?_eq_getElem (by omega : n < els.flatten.length)) (List.getElem?_eq_getElem hlt)
    have h7 := List.all_eq_true.1 hpl _ (List.getElem_mem (by omega : n < els.flatten.length))
    cases hq : els.flatten[n]'(by omega) with
    | v c => rw [hq] at h6; cases h6; rfl
    | _ => rw [hq] at h7; cases h7
  · rw [List.getElem?_eq_none (by omega), List.getElem?_eq_none (by omega)]; rfl
theorem fnRow2_of {hl : List C2} {f : FuncId} {fn : Func} {c : Code} {args : List AV} {e1 e2 : TypeId} {k1 k2 : Nat} {els1 els2 : List (List AV)} (N : Nat) (hf : P.funcs[f]? = some fn) (hb : fn.body = some c) (hn : fn.ntmps = N) (hN : args.length ≤ N) (hpl : els1.flatten.all plainA = true ∧ els2.flatten.all plainA = true) (hro : hl.all c2R = true)
    (hA : ∀ e m, (∀ (t : Nat) (a : AV), args[t]? = some a → evA e (.tmp t) = a) → m = [] → AW .top P N c (Row2Q P fn e1 k1 els1 e2 k2 els2 hl) e m) : FnRow2 P f args e1 k1 els1 e2 k2 els2 hl := by
  subst hn
  have h := hA (ent args) [] (fun t a ha => by show args.getD t _ = a; rw [List.getD_eq_getElem?_getD, ha]; rfl) rfl
  intro pr w vs h1 h2
  refine (callsIn_wide (n := 9)).1 (callsIn_of_wp_marks hf hb trivial (wpIn_mono (h Fence.wide 9 rfl (fun b => pr b ∧ b < w.heap.size) ⟨w, fun _ => False⟩ [] { tmps := vs.toArray ++ Array.replicate (fn.ntmps - vs.toArray.size) undef, defers := [] } w ⟨?_, Mks.nil _ _ _, fun t => ?_, ?_⟩) ?_))
  · simp; omega
  · show R1 _ _ _ (args.getD t (.v undef)) ((vs.toArray ++ Array.replicate (fn.ntmps - vs.toArray.size) undef).getD t undef)
    by_cases ht : t < args.length
    · have e1 : args.getD t (.v undef) = args[t] := by simp [List.getD_eq_getElem?_getD, ht]
      have ht' : t < vs.length := by omega
      have e2 : (vs.toArray ++ Array.replicate (fn.ntmps - vs.toArray.size) undef).getD t undef = vs[t] := by
        rw [Array.getD_eq_getD_getElem?, Array.getElem?_append_left (by simpa using ht')]; simp [ht']
      rw [e1, e2]
      refine .ro ((h2 t _ _ (List.getElem?_eq_getElem ht) (List.getElem?_eq_getElem ht')).mono (Nat.le_refl _) (fun _ _ _ => rfl) fun b _ hn hp => ?_)
      rcases hp with hp | ⟨j, o, v, q, _⟩
      · exact hn hp.1
      · simp at q
    · have e1 : args.getD t (.v undef) = .v undef := by simp [List.getD_eq_getElem?_getD, List.getElem?_eq_none (Nat.le_of_not_lt ht)]
      have e2 : (vs.toArray ++ Array.replicate (fn.ntmps - vs.toArray.size) undef).getD t undef = undef := by
        rw [Array.getD_eq_getD_getElem?, Array.getElem?_append_right (by simp; omega), Array.getElem?_replicate]
        split <;> rfl
      rw [e1, e2]; exact .ro (.v _)
  · exact ⟨Bel.refl w _, fun b hb => ⟨hb.2, id⟩, rfl, fun j o v hm => by simp at hm, fun i j o p v u b hm => by simp at hm⟩
  · rintro x a w' ⟨e', mem', θ', hfit, -, hx, rv, j1, j2, hr, hj, hm1, hm2, hres⟩
    have fin : LeavesInM Fence.wide 9 P fn a.tmps (fun en w' => ∃ v u1 u2 xs1 xs2, en = .returned v ∧ Ext w w' ∧ (w'.ownsRow w.heap.size e1 k1 u1 els1.length xs1 ∧ (∀ l ∈ els1, l.length = k1) ∧ els1.flatten = xs1.map AV.v) ∧ (w'.ownsRow w.heap.size e2 k2 u2 els2.length xs2 ∧ (∀ l ∈ els2, l.length = k2) ∧ els2.flatten = xs2.map AV.v) ∧
      (∀ b, baseOf u1 = some b → baseOf u2 = some b → False) ∧ ∀ θ (pr2 : Nat → Prop) j1 j2, (∀ b, b < w'.heap.size → pr2 b → (pr b ∧ b < w.heap.size) ∨ baseOf u1 = some b ∨ baseOf u2 = some b) → θ[j1]? = some u1 → θ[j2]? = some u2 → R1 θ pr2 w' (sh2 hl j1 j2) v) a.defers .returning w' := by
      refine leave_marks hfit.dfr fun w2 hc => ?_
      have hs2 := hfit.sim.calm hc
      obtain ⟨v, hrun, hv⟩ := resV_run (⟨hfit.size, Mks.nil _ _ _, fun t => (hfit.sl t).calm hc, hs2⟩ : Fit fn.ntmps _ _ e' mem' θ' { a with defers := [] } w2) hres
      obtain ⟨u1, hθ1⟩ : ∃ u, θ'[j1]? = some u := ⟨_, List.getElem?_eq_getElem (by rw [hs2.len]; exact (List.getElem?_eq_some_iff.1 hm1).1)⟩
      obtain ⟨u2, hθ2⟩ : ∃ u, θ'[j2]? = some u := ⟨_, List.getElem?_eq_getElem (by rw [hs2.len]; exact (List.getElem?_eq_some_iff.1 hm2).1)⟩
      obtain ⟨xs1, a3, abs, a4, a5⟩ := hs2.ob j1 _ _ hm1 hθ1
      obtain ⟨xs2, b3, bbs, b4, b5⟩ := hs2.ob j2 _ _ hm2 hθ2
      refine ⟨v, results_one (rv := rv) hr _ hrun, v, u1, u2, xs1, xs2, rfl, hs2.ext.toExt, ⟨own_rebase (P' := pr) a3 abs, a4, own_plain (θ := θ') hpl.1 a3.1 a4 a5⟩, ⟨own_rebase (P' := pr) b3 bbs, b4, own_plain (θ := θ') hpl.2 b3.1 b4 b5⟩,
        fun b c1 c2 => hj (hs2.dis j1 j2 _ _ u1 u2 b hm1 (by simp) hm2 (by simp) hθ1 hθ2 c1 c2), fun θ2 pr2 q1 q2 hp2 hq1 hq2 => sh2_ok hro hv hθ1 hθ2 (fun b hb hn hp => (hp2 b hb hp).elim (fun h => hn (.inl h)) (fun h => h.elim (fun h => hn (.inr ⟨j1, _, u1, hm1, by simp, hθ1, h⟩)) (fun h => hn (.inr ⟨j2, _, u2, hm2, by simp, hθ2, h⟩)))) hq1 hq2 (own_nu a3) (own_nu b3)⟩
    rcases hx with rfl | rfl
    · exact fin
    · exact fin
end
end Go.Proofs.Ytonjcljnpcmenaa
