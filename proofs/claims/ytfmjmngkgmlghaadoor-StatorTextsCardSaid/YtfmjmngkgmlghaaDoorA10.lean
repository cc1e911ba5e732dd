/- The abstract machine: bytes of strings; equality of bools. No conditions on a program. -/
import Derived.Test.YtfmjmngkgmlghaaDoorA9
import Derived.Laws.IdiomStrings
namespace Go.Proofs.YtfmjmngkgmlghaaDoor
open Go Go.RowKit
set_option linter.unusedVariables false
set_option linter.unusedSimpArgs false
section
variable {P : Program} {N : Nat} {Q : AQ} {e : Nat → AV} {mem : List Ob} {d : Option Tmp} {ty t t2 : TypeId} {pos : String} {af : Array Edge} {g : Option (Nat × Bool)} {x y z : Operand}
/-- A new block beside the objects. -/
theorem notProt_new {pb : Nat → Prop} {w0 : Bs} {w : World} {θ : List Value} (hs : SimM pb w0 w θ mem) {b : Nat} (hb : w.heap.size ≤ b) : ¬ Prot pb θ mem b := by
  rintro (hq | ⟨j, o, v, q1, q2, q3, q4⟩)
  · have := (hs.low _ hq).1; have := hs.ext.size; omega
  · have := ((hs.ob j o v q1 q3).lt q2 q4).2; omega
/-- A call of a function's name that came as a value. -/
theorem ro_callf {f : FuncId} {as : Array Operand} {ts : Array TypeId} {args : List AV} {r : AV} (hx : evA e x = .v (.func (.func f) #[] #[])) (hargs : evL e as.toList = args) (hro : roO.roL args = true) (hc : FnOk P f args (fun q => q = r)) (hcf : ∀ args w, (callFunc f args).run P w = .ok (.enter f args) w) :
    OpRO P ⟨d, .call ⟨.value x, as, ts⟩, ty, pos, af, g⟩ e mem r := by
  intro pb w0 θ w ev hs h
  have hvs : (as.toList.map (evE ev)).length = args.length := by rw [← hargs]; simp [evL]
  have h0 := h x (by simp [Op.operands, Call.operands])
  rw [hx] at h0
  rw [ex_call h0.val rfl]
  refine rel_call hcf ((hc (Prot pb θ mem) w _ hvs fun i a v ha hv => ?_).mono ?_)
  · have ha' := ha
    rw [← hargs, evL, List.getElem?_map] at ha'
    rw [List.getElem?_map] at hv
    cases hx : as.toList[i]? with
    | none => rw [hx] at hv; cases hv
    | some x =>
      rw [hx] at ha' hv
      simp at ha' hv
      subst ha' hv
      have hmem : x ∈ as := by have := List.mem_of_getElem? hx; simpa using this
      exact (h x (by simp [Op.operands, Call.operands, hmem])).ro0 (roL_get hro ha)
  · rintro en w' ⟨q, v, he, rfl, h4, h5⟩
    exact ⟨v, he, .ro (R0.back hs h4), h5⟩
end
end Go.Proofs.YtfmjmngkgmlghaaDoor
