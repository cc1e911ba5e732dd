/- Texts of this claim, one behind the other: lemmas for the statement. -/
import Derived.Test.YtjhcfpdgldpicaaA25
import Derived.Test.YtjhcfpdgldpicaaA15
import Derived.Test.YtjhcfpdgldpicaaM1
set_option linter.unusedSimpArgs false
set_option linter.unusedVariables false
namespace Go.Proofs.Ytjhcfpdgldpicaa
open Go Go.RowKit Go.Proofs
section
variable {P : Program} {e : Nat → AV} {mem : List Ob} {d : Option Tmp} {ty t : TypeId} {pos : String} {af : Array Edge} {g : Option (Nat × Bool)} {x y : Operand}
def hoA (j : Nat) : Option AV → AV
 | some a => a
 | none => .own j
def hoR : Option AV → Bool
 | some a => roO a
 | none => true
def shL (hl : List (Option AV)) (j : Nat) : AV := .agg (hl.map (hoA j))
theorem shL_ok {θ θ2 : List Value} {pr pr2 : Nat → Prop} {w : World} {hl : List (Option AV)} {j q : Nat} {v u : Value} (hro : hl.all hoR = true) (hv : R1 θ pr w (shL hl j) v) (hu : θ[j]? = some u)
 (hp : ∀ b, b < w.heap.size → ¬ pr b → ¬ pr2 b) (hq : θ2[q]? = some u) (hne : isSl u = true) : R1 θ2 pr2 w (shL hl q) v := by
 obtain ⟨xs, rfl, h1, h2⟩ := hv.getAgg
 refine .agg _ _ (by simpa using h1) fun i a x ha hx => ?_
 rw [List.getElem?_map] at ha
 cases ho : hl[i]? with
 | none => rw [ho] at ha; cases ha
 | some o =>
  rw [ho] at ha
  have h3 := h2 i (hoA j o) x (by rw [List.getElem?_map, ho]; rfl) hx
  cases o with
  | none =>
   simp only [Option.map_some, hoA, Option.some.injEq] at ha; subst ha
   have := h3.getOwn
   rw [hu] at this; cases this
   exact .own _ _ hq hne
  | some b =>
   simp only [Option.map_some, hoA, Option.some.injEq] at ha; subst ha
   have hr : roO b = true := List.all_eq_true.1 hro _ (List.mem_of_getElem? ho)
   exact .ro ((h3.ro0 hr).mono (Nat.le_refl _) (fun _ _ _ => rfl) hp)
def FnRowL (P : Program) (f : FuncId) (args : List AV) (eT : TypeId) (k : Nat) (els : List (List AV)) (hl : List (Option AV)) : Prop :=
 ∀ (pr : Nat → Prop) (w : World) (vs : List Value), vs.length = args.length → (∀ (i : Nat) (a : AV) (x : Value), args[i]? = some a → vs[i]? = some x → R0 pr w a x) →
  Calls P f vs.toArray w fun en w' => ∃ v u xs, en = .returned v ∧ Ext w w' ∧ w'.ownsRow w.heap.size eT k u els.length xs ∧ (∀ l ∈ els, l.length = k) ∧ els.flatten = xs.map AV.v ∧ ∀ θ (pr2 : Nat → Prop) j, (∀ b, b < w'.heap.size → pr2 b → (pr b ∧ b < w.heap.size) ∨ baseOf u = some b) → θ[j]? = some u → R1 θ pr2 w' (shL hl j) v
theorem st_callL {m : Nat} {hl0 : List (Option AV)} {f : FuncId} {as : Array Operand} {ts : Array TypeId} {args : List AV} {eT : TypeId} {k : Nat} {els : List (List AV)} (hl : mem.length = m) (hargs : evL e as.toList = args) (hro : roO.roL args = true) (hc : FnRowL P f args eT k els hl0) (hcf : ∀ args w, (callFunc f args).run P w = .ok (.enter f args) w) :
 OpST P ⟨d, .call ⟨.value (.func f), as, ts⟩, ty, pos, af, g⟩ e mem (shL hl0 m) (mem ++ [.row eT k els]) := by
 intro pb w0 θ w ev hs h
 have hvs : (as.toList.map (evE ev)).length = args.length := by rw [← hargs]; simp [evL]
 rw [ex_call (f := .func (.func f) #[] #[]) rfl rfl]
 refine rel_call hcf ((hc (Prot pb θ mem) w _ hvs fun i a v ha hv => ?_).mono ?_)
 ·have ha' := ha
  rw [← hargs, evL, List.getElem?_map] at ha'
  rw [List.getElem?_map] at hv
  cases hx : as.toList[i]? with
  | none => rw [hx] at hv; cases hv
  | some x =>
   rw [hx] at ha' hv
   simp at ha' hv
   subst ha' hv
   have hmem : x ∈ as := by have := List.mem_of_getElem? hx; simpa using this
   exact (h x (by simp [Op.operands, Call.operands, hmem])).ro0 (roL_get hro ha)
 ·rintro en w' ⟨v, u, xs, he, hx, h9, hk, hfl, hv⟩
  refine ⟨v, he, θ ++ [u], hv _ _ _ (fun b hb hp => ?_) (by rw [← hl, ← hs.len]; simp), Step.new hs hx u _ (fun b hb => (own_lt h9 hb).1) fun θ' pr k1 => ?_⟩
  ·rcases hp with hp | ⟨j, o, y, q1, q2, q3, q4⟩
   ·exact .inl ⟨.inl hp, by have := (hs.low b hp).1; have := hs.ext.size; omega⟩
   ·rcases Nat.lt_or_ge j mem.length with hj | hj
    ·rw [List.getElem?_append_left hj] at q1
     rw [List.getElem?_append_left (by rw [hs.len]; exact hj)] at q3
     exact .inl ⟨.inr ⟨j, o, y, q1, q2, q3, q4⟩, ((hs.ob j o y q1 q3).lt q2 q4).2⟩
    ·rw [List.getElem?_append_right (by rw [hs.len]; exact hj)] at q3
     have h0 : j - θ.length = 0 := by have := (List.getElem?_eq_some_iff.1 q3).1; simp at this; omega
     rw [h0] at q3
     simp at q3
     exact .inr (by rw [q3]; exact q4)
  refine ⟨xs, h9.mono_base (Nat.zero_le _), (fun b hb => .inl (Nat.le_trans hs.ext.size (own_lt h9 hb).1)), hk, fun n a u ha hu => ?_⟩
  rw [hfl, List.getElem?_map, hu] at ha
  simp at ha
  subst ha
  exact .v _
theorem ro_load_elO {j i n k off o : Nat} {row : Bool} {T : TypeId} {els : List (List AV)} {el : List AV} (hx : evA e x = .ptr j off) (hm : mem[j]? = some (.row T k els)) (ho : off = i * k + o) (hel : els[i]? = some el) (ht : TyIs P t row n) (hn : o + n ≤ k) (h1 : row = true ∨ n = 1) :
 OpRO P ⟨d, .load t x, ty, pos, af, g⟩ e mem (packA row n (el.drop o)) := by
 intro pb w0 θ w ev hs h
 have h1' := h x (by simp [Op.operands])
 rw [hx] at h1'
 generalize hv : evE ev x = p at h1'
 obtain ⟨b, v, hθ, hbase, rfl⟩ := h1'.getPtr
 obtain ⟨xs, h3, _, h4, h5⟩ := hs.ob j _ v hm hθ
 have hk := h4 el (List.mem_of_getElem? hel)
 have hlen : xs.length = els.length * k := h3.1
 have hi : i < els.length := (List.getElem?_eq_some_iff.1 hel).1
 have hle : (i + 1) * k ≤ els.length * k := Nat.mul_le_mul_right k hi
 rw [Nat.succ_mul] at hle
 obtain ⟨v, h2, h3⟩ := run_load_cells (P := P) (t := t) (θ := θ) (pr := Prot pb θ mem) (w := w) (b := b) (o := off) (cells := el.drop o) (f := fun q => xs.getD (i * k + (o + q)) undef) ht (by simp; omega) h1
  (fun q hq => by
   subst ho
   rw [List.length_drop] at hq
   have hlt : i * k + (o + q) < xs.length := by omega
   rw [Nat.add_assoc]
   exact own_cells h3 hbase _ _ (by simp [hlt, List.getD_eq_getElem?_getD]))
  (fun q a ha => by
   rw [List.getElem?_drop] at ha
   have hq := (List.getElem?_eq_some_iff.1 ha).1
   have hlt : i * k + (o + q) < xs.length := by omega
   exact .ro (h5 (i * k + (o + q)) a _ (by rw [flat_get h4 hel (by omega)]; exact ha) (by simp [hlt, List.getD_eq_getElem?_getD])))
 rw [ex_load hv, Sem.run_bind, h2]
 exact ⟨h3, Ext.refl w⟩
theorem ro_ld_elO {j i n k o : Nat} {row : Bool} {T : TypeId} {els : List (List AV)} {el : List AV} (ht : TyIs P t row n) (h1 : (row || n == 1) = true) (hm : mem[j]? = some (.row T k els)) (hx : evA e x = .ptr j (i * k + o)) (hn : o + n ≤ k) (hel : els[i]? = some el) : OpRO P ⟨d, .load t x, ty, pos, af, g⟩ e mem (packA row n (el.drop o)) :=
 ro_load_elO hx hm rfl hel ht hn (by simpa using h1)
theorem ro_fld_el {j o i n off k ix : Nat} {row : Bool} (hF : FldIs P t i off row n) (h0 : (n != 0) = true) (hx : evA e x = .ptr j (ix * k)) : OpRO P ⟨d, .fieldAddr t x i, ty, pos, af, g⟩ e mem (.ptr j (ix * k + off)) := ro_fld_ptr hF h0 hx
theorem ro_fld_elO {j o i n off k ix : Nat} {row : Bool} (hF : FldIs P t i off row n) (h0 : (n != 0) = true) (hx : evA e x = .ptr j (ix * k + o)) : OpRO P ⟨d, .fieldAddr t x i, ty, pos, af, g⟩ e mem (.ptr j (ix * k + (o + off))) := by
 have := ro_fld_ptr (mem := mem) (d := d) (ty := ty) (pos := pos) (af := af) (g := g) hF h0 hx
 rwa [Nat.add_assoc] at this
def RowLQ (P : Program) (fn : Func) (eT : TypeId) (k : Nat) (els : List (List AV)) (hl : List (Option AV)) : AQ := fun x e mem => (x = .normal ∨ x = .ret) ∧ ∃ rv j, fn.results = #[rv] ∧ mem[j]? = some (.row eT k els) ∧ ResV P e mem rv (shL hl j)
theorem retRowL {fn : Func} {eT : TypeId} {k : Nat} {els els' : List (List AV)} {hl : List (Option AV)} {x : Exit} {rv : ResultVar} {j : Nat} {r : AV} (hx : x = .normal ∨ x = .ret) (hr : fn.results = #[rv]) (hm : mem[j]? = some (.row eT k els')) (h1 : ResV P e mem rv r) (hr2 : r = shL hl j) (he : els' = els) : RowLQ P fn eT k els hl x e mem := by
 subst he; subst hr2; exact ⟨hx, rv, j, hr, hm, h1⟩
theorem fnRowL_of {hl : List (Option AV)} {f : FuncId} {fn : Func} {c : Code} {args : List AV} {eT : TypeId} {k : Nat} {els : List (List AV)} (N : Nat) (hf : P.funcs[f]? = some fn) (hb : fn.body = some c) (hn : fn.ntmps = N) (hN : args.length ≤ N) (hpl : els.flatten.all plainA = true) (hro : hl.all hoR = true)
 (hA : ∀ e m, (∀ (t : Nat) (a : AV), args[t]? = some a → evA e (.tmp t) = a) → m = [] → AW .top P N c (RowLQ P fn eT k els hl) e m) : FnRowL P f args eT k els hl := by
 subst hn
 have h := hA (ent args) [] (fun t a ha => by show args.getD t _ = a; rw [List.getD_eq_getElem?_getD, ha]; rfl) rfl
 intro pr w vs h1 h2
 refine (callsIn_wide (n := 9)).1 (callsIn_of_wp_marks hf hb trivial (wpIn_mono (h Fence.wide 9 rfl (fun b => pr b ∧ b < w.heap.size) ⟨w, fun _ => False⟩ [] { tmps := vs.toArray ++ Array.replicate (fn.ntmps - vs.toArray.size) undef, defers := [] } w ⟨?_, Mks.nil _ _ _, fun t => ?_, ?_⟩) ?_))
 ·simp; omega
 ·show R1 _ _ _ (args.getD t (.v undef)) ((vs.toArray ++ Array.replicate (fn.ntmps - vs.toArray.size) undef).getD t undef)
  by_cases ht : t < args.length
  ·have e1 : args.getD t (.v undef) = args[t] := by simp [List.getD_eq_getElem?_getD, ht]
   have ht' : t < vs.length := by omega
   have e2 : (vs.toArray ++ Array.replicate (fn.ntmps - vs.toArray.size) undef).getD t undef = vs[t] := by
    rw [Array.getD_eq_getD_getElem?, Array.getElem?_append_left (by simpa using ht')]; simp [ht']
   rw [e1, e2]
   refine .ro ((h2 t _ _ (List.getElem?_eq_getElem ht) (List.getElem?_eq_getElem ht')).mono (Nat.le_refl _) (fun _ _ _ => rfl) fun b _ hn hp => ?_)
   rcases hp with hp | ⟨j, o, v, q, _⟩
   ·exact hn hp.1
   ·simp at q
  ·have e1 : args.getD t (.v undef) = .v undef := by simp [List.getD_eq_getElem?_getD, List.getElem?_eq_none (Nat.le_of_not_lt ht)]
   have e2 : (vs.toArray ++ Array.replicate (fn.ntmps - vs.toArray.size) undef).getD t undef = undef := by
    rw [Array.getD_eq_getD_getElem?, Array.getElem?_append_right (by simp; omega), Array.getElem?_replicate]
    split <;> rfl
   rw [e1, e2]; exact .ro (.v _)
 ·exact ⟨Bel.refl w _, fun b hb => ⟨hb.2, id⟩, rfl, fun j o v hm => by simp at hm, fun i j o p v u b hm => by simp at hm⟩
 ·rintro x a w' ⟨e', mem', θ', hfit, -, hx, rv, j, hr, hm, hres⟩
  have fin : LeavesInM Fence.wide 9 P fn a.tmps (fun en w' => ∃ v u xs, en = .returned v ∧ Ext w w' ∧ w'.ownsRow w.heap.size eT k u els.length xs ∧ (∀ l ∈ els, l.length = k) ∧ els.flatten = xs.map AV.v ∧ ∀ θ (pr2 : Nat → Prop) q, (∀ b, b < w'.heap.size → pr2 b → (pr b ∧ b < w.heap.size) ∨ baseOf u = some b) → θ[q]? = some u → R1 θ pr2 w' (shL hl q) v) a.defers .returning w' := by
   refine leave_marks hfit.dfr fun w2 hc => ?_
   have hs2 := hfit.sim.calm hc
   obtain ⟨v, hrun, hv⟩ := resV_run (⟨hfit.size, Mks.nil _ _ _, fun t => (hfit.sl t).calm hc, hs2⟩ : Fit fn.ntmps _ _ e' mem' θ' { a with defers := [] } w2) hres
   obtain ⟨u, hθ⟩ : ∃ u, θ'[j]? = some u := ⟨_, List.getElem?_eq_getElem (by rw [hs2.len]; exact (List.getElem?_eq_some_iff.1 hm).1)⟩
   obtain ⟨xs, h3, hbs, h4, h5⟩ := hs2.ob j _ _ hm hθ
   refine ⟨v, results_one (rv := rv) hr _ hrun, v, u, xs, rfl, hs2.ext.toExt, ?_, h4, ?_, fun θ2 pr2 q hp2 hq => shL_ok hro hv hθ (fun b hb hn hp => (hp2 b hb hp).elim (fun h => hn (.inl h)) (fun h => hn (.inr ⟨j, _, u, hm, by simp, hθ, h⟩))) hq (own_nu h3)⟩
   ·refine ⟨h3.1, ?_⟩
    rcases h3.2 with h6 | ⟨gg, cap, cur, he, hg, rest⟩
    ·exact .inl h6
    ·have := hbs gg (by rw [he]; rfl)
     rcases this with h7 | h7
     ·exact .inr ⟨gg, cap, cur, he, h7, rest⟩
     ·exact h7.elim
   ·have hlen : els.flatten.length = xs.length := by rw [flatten_length h4, h3.1]
    refine List.ext_getElem? fun n => ?_
    rw [List.getElem?_map]
    by_cases hlt : n < xs.length
    ·rw [List.getElem?_eq_getElem hlt, List.getElem?_eq_getElem (by omega)]
     have h6 := h5 n _ _ (List.getElem?_eq_getElem (by omega : n < els.flatten.length)) (List.getElem?_eq_getElem hlt)
     have h7 := List.all_eq_true.1 hpl _ (List.getElem_mem (by omega : n < els.flatten.length))
     cases hq : els.flatten[n]'(by omega) with
     | v c => rw [hq] at h6; cases h6; rfl
     | _ => rw [hq] at h7; cases h7
    ·rw [List.getElem?_eq_none (by omega), List.getElem?_eq_none (by omega)]; rfl
  rcases hx with rfl | rfl
  ·exact fin
  ·exact fin
end
end Go.Proofs.Ytjhcfpdgldpicaa
namespace Go.Proofs.Ytjhcfpdgldpicaa
open Go Go.RowKit Go.Proofs
theorem Step.news {pb : Nat → Prop} {w0 : Bs} {w w' : World} {θ : List Value} {mem : List Ob} (h : SimM pb w0 w θ mem) (hx : Ext w w') (vs : List Value) (os : List Ob) (hlen : vs.length = os.length) (hb : ∀ (i : Nat) (v : Value) (b : Nat), vs[i]? = some v → baseOf v = some b → w.heap.size ≤ b)
 (hd : ∀ (i j : Nat) (v u : Value) (b : Nat), vs[i]? = some v → vs[j]? = some u → baseOf v = some b → baseOf u = some b → i = j)
 (ho : ∀ θ' pr, (∀ a x, R1 θ (Prot pb θ mem) w a x → R1 θ' pr w' a x) → ∀ (i : Nat) (v : Value) (o : Ob), vs[i]? = some v → os[i]? = some o → ObR θ' pr w0.okb w' v o) : Step pb w0 θ mem w (θ ++ vs) (mem ++ os) w' := by
 have hθ : ∀ (j : Nat) (x : Value), θ[j]? = some x → (θ ++ vs)[j]? = some x := fun j x hj => by rw [List.getElem?_append_left (List.getElem?_eq_some_iff.1 hj).1]; exact hj
 have split : ∀ {j : Nat} {p : Ob} {u : Value}, (mem ++ os)[j]? = some p → (θ ++ vs)[j]? = some u → (mem[j]? = some p ∧ θ[j]? = some u) ∨ (mem.length ≤ j ∧ os[j - mem.length]? = some p ∧ vs[j - mem.length]? = some u) := by
  intro j p u hm hu
  rcases Nat.lt_or_ge j mem.length with hj | hj
  ·rw [List.getElem?_append_left hj] at hm
   rw [List.getElem?_append_left (by rw [h.len]; exact hj)] at hu
   exact .inl ⟨hm, hu⟩
  ·rw [List.getElem?_append_right hj] at hm
   rw [List.getElem?_append_right (by rw [h.len]; exact hj), h.len] at hu
   exact .inr ⟨hj, hm, hu⟩
 have hp : ∀ b, b < w.heap.size → ¬ Prot pb θ mem b → ¬ Prot pb (θ ++ vs) (mem ++ os) b := by
  intro b hlt hn hq
  rcases hq with hq | ⟨j, p, u, h1, h2, h3, h4⟩
  ·exact hn (.inl hq)
  rcases split h1 h3 with ⟨h5, h6⟩ | ⟨_, _, h6⟩
  ·exact hn (.inr ⟨j, p, u, h5, h2, h6, h4⟩)
  ·have := hb _ _ b h6 h4; omega
 have keep : ∀ a x, R1 θ (Prot pb θ mem) w a x → R1 (θ ++ vs) (Prot pb (θ ++ vs) (mem ++ os)) w' a x := fun a x hr => hr.mono hθ hx.size (fun b hb _ => hx.block b hb) hp
 refine ⟨⟨h.ext.ext hx, h.low, by simp [h.len, hlen], fun j p u hm hu => ?_, fun i j p q u u' b h1 h2 h3 h4 h5 h6 h7 h8 => ?_⟩, keep, hx.size, fun b hb _ => hx.block b hb, hp⟩
 ·rcases split hm hu with ⟨h5, h6⟩ | ⟨_, h5, h6⟩
  ·by_cases hg : p = .gone
   ·subst hg; trivial
   ·exact (h.ob j p u h5 h6).mono hθ hx.size (fun b hb _ => hx.block b hb) hp (fun b hb => hx.block b ((h.ob j p u h5 h6).lt hg hb).2)
  ·exact ho _ _ keep _ _ _ h6 h5
 ·rcases split h1 h5 with ⟨a1, a2⟩ | ⟨l1, a1, a2⟩ <;> rcases split h3 h6 with ⟨a3, a4⟩ | ⟨l2, a3, a4⟩
  ·exact h.dis i j p q u u' b a1 h2 a3 h4 a2 a4 h7 h8
  ·have := ((h.ob i p u a1 a2).lt h2 h7).2; have := hb _ _ b a4 h8; omega
  ·have := ((h.ob j q u' a3 a4).lt h4 h8).2; have := hb _ _ b a2 h7; omega
  ·have := hd _ _ _ _ b a2 a4 h7 h8; omega
section
variable {P : Program} {e : Nat → AV} {mem : List Ob} {d : Option Tmp} {ty t : TypeId} {pos : String} {af : Array Edge} {g : Option (Nat × Bool)} {x y : Operand}
end
end Go.Proofs.Ytjhcfpdgldpicaa
namespace Go.Proofs.Ytjhcfpdgldpicaa
open Go Go.RowKit Go.Proofs
section
variable {P : Program} {N : Nat} {Q : AQ} {e : Nat → AV} {mem : List Ob}
theorem row_given {pb : Nat → Prop} {w0 : Bs} {w : World} {θ : List Value} (hsim : SimM pb w0 w θ mem) {j eT k : Nat} {els : List (List AV)} {x : Value} (hm : mem[j]? = some (.row eT k els)) (hθ : θ[j]? = some x) : R0 (Prot pb θ (mem.set j .gone)) w (.row k els) x := by
 obtain ⟨xs, h1, h2, h3, h4⟩ := hsim.ob j _ x hm hθ
 rcases id h1.2 with ⟨hx, h0⟩ | ⟨g, cap, cur, hx, hg, hh, hn, hr2⟩
 ·have : els = [] := List.eq_nil_of_length_eq_zero h0
  subst this; subst hx
  exact (.nil _ _ _)
 ·subst hx
  by_cases hne : els = []
  ·subst hne; exact (.nil _ _ _)
  ·have hfl : els.flatten.length = els.length * k := flatten_length h3
   have hxl := h1.1
   refine (.row k els g 0 cap (fun i => xs.getD i undef) hne hn h3 (Array.getElem?_eq_some_iff.1 hh).1 (Prot.dropped hsim hm (by simp) hθ rfl) (fun i a ha => ?_) fun i a ha => ?_)
   ·have hi : i < xs.length := by rw [hxl, ← hfl]; exact (List.getElem?_eq_some_iff.1 ha).1
    have := own_cells h1 (b := g) rfl i (xs.getD i undef) (by simp [hi, List.getD_eq_getElem?_getD])
    rwa [Nat.zero_add]
   ·have hi : i < xs.length := by rw [hxl, ← hfl]; exact (List.getElem?_eq_some_iff.1 ha).1
    have := h4 i a (xs.getD i undef) ha (by simp [hi, List.getD_eq_getElem?_getD])
    exact this.mono (Nat.le_refl _) (fun _ _ _ => rfl) (Step.drop hsim j).np
theorem aw_freezeB {M : Mode} {c : Code} {s j k o eT kk : Nat} {T : TypeId} {cells : List AV} {els : List (List AV)} (hs : evA e (.tmp s) = .ptr j 0) (hm : mem[j]? = some (.box T cells)) (hk : mem[k]? = some (.row eT kk els)) (hjk : k ≠ j) (ho : cells[o]? = some (.own k)) (hro : roO.roL (cells.set o (.row kk els)) = true)
 (h : ∀ m1 e1, m1 = (mem.set k .gone).set j .gone → e1 = upA e (some s) (.ref (cells.set o (.row kk els))) → AW M P N c Q e1 m1) : AW M P N c Q e mem := by
 refine aw_turn (fun pb w0 θ w hsim => ?_) (h _ _ rfl rfl)
 have D1 := Step.drop hsim k
 have D2 := Step.drop D1.sim j
 have hm2 : (mem.set k .gone)[j]? = some (.box T cells) := by rw [List.getElem?_set_ne hjk]; exact hm
 refine ⟨θ, ⟨D2.sim, fun a x hr => D2.keep _ _ (D1.keep _ _ hr), Nat.le_refl _, fun _ _ _ => rfl, fun b hb hp => D2.np b hb (D1.np b hb hp)⟩, fun t x hr => ?_⟩
 by_cases ht : t = s
 ·subst ht
  rw [show e t = .ptr j 0 from hs] at hr
  simp only [upA, if_true]
  obtain ⟨b, y, hθ, hbase, rfl⟩ := hr.getPtr
  obtain ⟨b', xs, h1, rfl, h2, h3, h4⟩ := hsim.ob j _ y hm hθ
  cases hbase
  refine .ro (.ref _ b' 0 (fun i => xs.getD i undef) (Array.getElem?_eq_some_iff.1 h2).1 (Prot.dropped D1.sim hm2 (by simp) hθ rfl) (fun i a ha => ?_) fun i a ha => ?_)
  ·have hi : i < xs.length := by rw [h3]; have := (List.getElem?_eq_some_iff.1 ha).1; simpa using this
   rw [Nat.zero_add, cell_of_row w b' i xs.toArray T (0, 0) h2]
   simp [hi, List.getD_eq_getElem?_getD]
  ·have hi : i < xs.length := by rw [h3]; have := (List.getElem?_eq_some_iff.1 ha).1; simpa using this
   by_cases hio : o = i
   ·subst hio
    rw [List.getElem?_set_self (by rw [← h3]; exact hi)] at ha
    cases ha
    have hx := (h4 o _ (xs.getD o undef) ho (by simp [hi, List.getD_eq_getElem?_getD])).getOwn
    exact (row_given hsim hk hx).mono (Nat.le_refl _) (fun _ _ _ => rfl) D2.np
   ·have ha' := ha
    rw [List.getElem?_set_ne hio] at ha
    have := h4 i a (xs.getD i undef) ha (by simp [hi, List.getD_eq_getElem?_getD])
    exact (D2.keep _ _ (D1.keep _ _ this)).ro0 (roL_get hro ha')
 ·simp only [upA, if_neg ht]
  exact D2.keep _ _ (D1.keep _ _ hr)
end
end Go.Proofs.Ytjhcfpdgldpicaa
namespace Go.Proofs.Ytjhcfpdgldpicaa
open Go Go.RowKit Go.Proofs
section
variable {P : Program} {e : Nat → AV} {mem : List Ob} {d : Option Tmp} {ty t t2 : TypeId} {pos : String} {af : Array Edge} {g : Option (Nat × Bool)} {x y z : Operand}
theorem ro_rowne {els : List (List AV)} {k bytes eT : Nat} {zv : Value} (hty : SlIs P t eT k bytes zv) (hg : P.eqGuardType P.depth t = false) (hx : evA e x = .row k els) (hy : evA e y = .v (.slice none 0 0)) (hne : els ≠ []) :
 OpRO P ⟨d, .binOp .eql t x y t2, ty, pos, af, g⟩ e mem (.v (.bool false)) := by
 intro pb w0 θ w ev hs h
 have h1' := h x (by simp [Op.operands])
 have h2' := h y (by simp [Op.operands])
 rw [hx] at h1'; rw [hy] at h2'
 have hpr : (program).run P w = .ok P w := rfl
 have hu := hty.1
 cases hv : evE ev x with
 | slice A n c =>
  rw [hv] at h1'
  cases A with
  | none =>
   cases h1'.getRow with
   | nil => exact absurd rfl hne
  | some A =>
   rw [ex_binOp hv h2'.val, Sem.run_bind]
   have hrun : (do eqGuard .eql t x y (.slice (some A) n c) (.slice none 0 0); binOp .eql t (.slice (some A) n c) (.slice none 0 0) : Sem Value).run P w = .ok (.bool false) w := by
    have h1 : ∀ d, (Op.equalIn (d + 1) t (.slice (some A) n c) (.slice none 0 0)).run P w = .ok false w := fun d => by
     unfold Op.equalIn; simp [Sem.run_bind, run_underlying hu]
    have h2 := h1 (Op.maxDepth - 1)
    rw [Nat.sub_add_cancel (by decide)] at h2
    simp [eqGuard, binOp, Op.equal, Sem.run_bind, hpr, hg, h2]
   rw [hrun]
   exact ⟨.ro (.v _), Ext.refl w⟩
 | _ => rw [hv] at h1'; cases h1'.getRow
end
section
variable {P : Program} {N : Nat} {Q : AQ} {e : Nat → AV} {mem : List Ob}
theorem aw_freezeF {M : Mode} {c : Code} {j k eT kk : Nat} {T : TypeId} {cells : List AV} {els : List (List AV)} (o : Nat) (hm : mem[j]? = some (.box T cells)) (hk : mem[k]? = some (.row eT kk els)) (hjk : k ≠ j) (ho : cells[o]? = some (.own k))
 (h : ∀ m1, m1 = (mem.set k .gone).set j (.box T (cells.set o (.row kk els))) → AW M P N c Q e m1) : AW M P N c Q e mem := by
 refine fun F n hF pb w0 θ a w hf => ?_
 have hsim := hf.sim
 have D1 := Step.drop hsim k
 have hm2 : (mem.set k .gone)[j]? = some (.box T cells) := by rw [List.getElem?_set_ne hjk]; exact hm
 obtain ⟨v, hv⟩ : ∃ v, θ[j]? = some v := ⟨_, List.getElem?_eq_getElem (by rw [hsim.len]; exact (List.getElem?_eq_some_iff.1 hm).1)⟩
 obtain ⟨b', xs, hb1, hb2, hb3, hb4, hb5⟩ := hsim.ob j _ v hm hv
 obtain ⟨b2, xs2, c1, c2, c3, c4, c5⟩ := D1.sim.ob j _ v hm2 hv
 have st2 : Step pb w0 θ (mem.set k .gone) w θ ((mem.set k .gone).set j (.box T (cells.set o (.row kk els)))) w :=
  Step.write (o' := Ob.box T (cells.set o (.row kk els))) D1.sim hm2 (by simp) hv (Below.refl 0 w) (fun _ _ _ => rfl) fun pr keep => ⟨b2, xs2, c1, c2, c3, by simpa using c4, fun i a x ha hx => by
   by_cases hi : o = i
   ·subst hi
    have hlt : o < cells.length := (List.getElem?_eq_some_iff.1 ho).1
    rw [List.getElem?_set_self hlt] at ha
    cases ha
    have hx2 := (c5 o _ x ho hx).getOwn
    exact keep _ _ (.ro (row_given hsim hk hx2))
   ·rw [List.getElem?_set_ne hi] at ha
    exact keep _ _ (c5 i a x ha hx)⟩
 have st3 := D1.trans st2
 exact wpIn_mono (h _ rfl F n hF pb w0 θ a w ⟨hf.size, hf.dfr.step st3, fun t => st3.keep _ _ (hf.sl t), st3.sim⟩) fun _ _ _ hq => hq.after st3
end
end Go.Proofs.Ytjhcfpdgldpicaa
