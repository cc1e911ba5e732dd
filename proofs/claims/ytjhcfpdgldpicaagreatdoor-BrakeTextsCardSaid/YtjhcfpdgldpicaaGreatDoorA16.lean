/- Lemmas for the statement. -/
import Derived.Test.YtjhcfpdgldpicaaGreatDoorA15
namespace Go.Proofs.YtjhcfpdgldpicaaGreatDoor
open Go Go.RowKit
set_option linter.unusedVariables false
set_option linter.unusedSimpArgs false
def GlobR (pr : Nat → Prop) (w : World) (gs : List (Nat × List AV)) : Prop := ∀ x ∈ gs, R0 pr w (.ref x.2) (.pointer (some ⟨x.1, 0, none⟩)) ∧ ExN w x.1 x.2.length
def FnOkG (P : Program) (gs : List (Nat × List AV)) (f : FuncId) (args : List AV) (ψ : AV → Prop) : Prop :=
 ∀ (pr : Nat → Prop) (w : World) (vs : List Value), vs.length = args.length → (∀ (i : Nat) (a : AV) (x : Value), args[i]? = some a → vs[i]? = some x → R0 pr w a x) → GlobR pr w gs →
  Calls P f vs.toArray w fun en w' => ∃ r v, en = .returned v ∧ ψ r ∧ R0 (fun b => pr b ∧ b < w.heap.size) w' r v ∧ Ext w w'
theorem FnOkG.mono {P : Program} {gs : List (Nat × List AV)} {f : FuncId} {args : List AV} {ψ ψ' : AV → Prop} (h : FnOkG P gs f args ψ) (hp : ∀ r, ψ r → ψ' r) : FnOkG P gs f args ψ' := fun pr w vs h1 h2 h3 =>
 (h pr w vs h1 h2 h3).mono fun _ _ ⟨r, v, h3, h4, h5⟩ => ⟨r, v, h3, hp r h4, h5⟩
theorem FnOkG.wide {P : Program} {gs gs' : List (Nat × List AV)} {f : FuncId} {args : List AV} {ψ : AV → Prop} (h : FnOkG P gs f args ψ) (hs : ∀ x ∈ gs, x ∈ gs') : FnOkG P gs' f args ψ := fun pr w vs h1 h2 h3 => h pr w vs h1 h2 fun x hx => h3 x (hs x hx)
section
variable {P : Program} {N : Nat} {Q : AQ} {e : Nat → AV} {mem : List Ob} {d : Option Tmp} {ty t t2 : TypeId} {pos : String} {af : Array Edge} {g : Option (Nat × Bool)} {x y z : Operand}
theorem fnOkG_of {f : FuncId} {fn : Func} {c : Code} {args : List AV} {ψ : AV → Prop} (gs : List (Nat × List AV)) (N : Nat) (hf : P.funcs[f]? = some fn) (hb : fn.body = some c) (hn : fn.ntmps = N) (hN : args.length ≤ N) (hA : ∀ e m, (∀ (t : Nat) (a : AV), args[t]? = some a → evA e (.tmp t) = a) → m = [.glob gs] → AW .top P N c (RetQ P N fn ψ) e m) : FnOkG P gs f args ψ := by
 subst hn
 have h := hA (ent args) [.glob gs] (fun t a ha => by show args.getD t _ = a; rw [List.getD_eq_getElem?_getD, ha]; rfl) rfl
 intro pr w vs h1 h2 hgl
 have hθ : ∀ {j : Nat} {v : Value}, [undef][j]? = some v → v = undef := fun {j v} h => by
  cases j with
  | zero => cases h; rfl
  | succ j => cases h
 have hpr : ∀ b, ¬ pr b → ¬ Prot (fun b => pr b ∧ b < w.heap.size) [undef] [.glob gs] b := fun b hn hp => by
  rcases hp with hp | ⟨j, o, v, _, _, q, q2⟩
  ·exact hn hp.1
  ·rw [hθ q] at q2; cases q2
 refine (callsIn_wide (n := 9)).1 (callsIn_of_wp_marks hf hb trivial (wpIn_mono (h Fence.wide 9 rfl (fun b => pr b ∧ b < w.heap.size) ⟨w, fun _ => False⟩ [undef] { tmps := vs.toArray ++ Array.replicate (fn.ntmps - vs.toArray.size) undef, defers := [] } w ⟨?_, Mks.nil _ _ _, fun t => ?_, ?_⟩) ?_))
 ·simp; omega
 ·show R1 _ _ _ (args.getD t (.v undef)) ((vs.toArray ++ Array.replicate (fn.ntmps - vs.toArray.size) undef).getD t undef)
  by_cases ht : t < args.length
  ·have e1 : args.getD t (.v undef) = args[t] := by simp [List.getD_eq_getElem?_getD, ht]
   have ht' : t < vs.length := by omega
   have e2 : (vs.toArray ++ Array.replicate (fn.ntmps - vs.toArray.size) undef).getD t undef = vs[t] := by
    rw [Array.getD_eq_getD_getElem?, Array.getElem?_append_left (by simpa using ht')]; simp [ht']
   rw [e1, e2]
   exact .ro ((h2 t _ _ (List.getElem?_eq_getElem ht) (List.getElem?_eq_getElem ht')).mono (Nat.le_refl _) (fun _ _ _ => rfl) fun b _ hn => hpr b hn)
  ·have e1 : args.getD t (.v undef) = .v undef := by simp [List.getD_eq_getElem?_getD, List.getElem?_eq_none (Nat.le_of_not_lt ht)]
   have e2 : (vs.toArray ++ Array.replicate (fn.ntmps - vs.toArray.size) undef).getD t undef = undef := by
    rw [Array.getD_eq_getD_getElem?, Array.getElem?_append_right (by simp; omega), Array.getElem?_replicate]
    split <;> rfl
   rw [e1, e2]; exact .ro (.v _)
 ·refine ⟨Bel.refl w _, fun b hb => ⟨hb.2, id⟩, rfl, fun j o v hm hv => ?_, fun i j o p v u b _ _ _ _ hv _ hb _ => by rw [hθ hv] at hb; cases hb⟩
  cases j with
  | zero =>
   cases hm
   exact ⟨hθ hv, fun x hx => ⟨(hgl x hx).1.mono (Nat.le_refl _) (fun _ _ _ => rfl) fun b _ hn => hpr b hn, (hgl x hx).2⟩⟩
  | succ j => cases hm
 ·rintro x a w' ⟨e', mem', θ', hfit, -, hx, r, hψ, hr⟩
  have fin : LeavesInM Fence.wide 9 P fn a.tmps (fun en w' => ∃ r v, en = .returned v ∧ ψ r ∧ R0 (fun b => pr b ∧ b < w.heap.size) w' r v ∧ Ext w w') a.defers .returning w' := by
   refine leave_marks hfit.dfr fun w2 hc => ?_
   obtain ⟨v, h3, h4⟩ := hr _ _ _ w2 { a with defers := [] } ⟨hfit.size, Mks.nil _ _ _, fun t => (hfit.sl t).calm hc, hfit.sim.calm hc⟩
   exact ⟨v, h3, r, v, rfl, hψ, h4, (hfit.sim.calm hc).ext.toExt⟩
  rcases hx with rfl | rfl
  ·exact fin
  ·exact fin
theorem SimM.glob {pb : Nat → Prop} {w0 : Bs} {w : World} {θ : List Value} (hs : SimM pb w0 w θ mem) {j : Nat} {gs : List (Nat × List AV)} (hm : mem[j]? = some (.glob gs)) : GlobR (Prot pb θ mem) w gs := by
 have hj : j < θ.length := by rw [hs.len]; exact (List.getElem?_eq_some_iff.1 hm).1
 exact (hs.ob j _ _ hm (List.getElem?_eq_getElem hj)).2
theorem ro_callG {gs : List (Nat × List AV)} {f : FuncId} {as : Array Operand} {ts : Array TypeId} {args : List AV} {r : AV} (hargs : evL e as.toList = args) (hro : roO.roL args = true) {j : Nat} (hg : mem[j]? = some (.glob gs)) (hc : FnOkG P gs f args (fun q => q = r)) (hcf : ∀ args w, (callFunc f args).run P w = .ok (.enter f args) w) :
 OpRO P ⟨d, .call ⟨.value (.func f), as, ts⟩, ty, pos, af, g⟩ e mem r := by
 intro pb w0 θ w ev hs h
 have hvs : (as.toList.map (evE ev)).length = args.length := by rw [← hargs]; simp [evL]
 rw [ex_call (f := .func (.func f) #[] #[]) rfl rfl]
 refine rel_call hcf ((hc (Prot pb θ mem) w _ hvs (fun i a v ha hv => ?_) (fun x hx => ?_)).mono ?_)
 ·have ha' := ha
  rw [← hargs, evL, List.getElem?_map] at ha'
  rw [List.getElem?_map] at hv
  cases hx : as.toList[i]? with
  | none => rw [hx] at hv; cases hv
  | some x =>
   rw [hx] at ha' hv
   simp at ha' hv
   subst ha' hv
   have hmem : x ∈ as := by have := List.mem_of_getElem? hx; simpa using this
   exact (h x (by simp [Op.operands, Call.operands, hmem])).ro0 (roL_get hro ha)
 ·exact hs.glob hg x hx
 ·rintro en w' ⟨q, v, he, rfl, h4, h5⟩
  exact ⟨v, he, .ro (R0.back hs h4), h5⟩
end
theorem FnOk.sub {P : Program} {f : FuncId} {args args' : List AV} {ψ : AV → Prop} (hc : FnOk P f args ψ) (hl : args'.length = args.length) (h : ∀ (pr : Nat → Prop) (w : World) (i : Nat) (a : AV) (x : Value), args[i]? = some a → ∃ a', args'[i]? = some a' ∧ (R0 pr w a' x → R0 pr w a x)) : FnOk P f args' ψ :=
 fun pr w vs h1 h2 => hc pr w vs (by omega) fun i a x ha hx => by
  obtain ⟨a', h3, h4⟩ := h pr w i a x ha
  exact h4 (h2 i a' x h3 hx)
end Go.Proofs.YtjhcfpdgldpicaaGreatDoor
