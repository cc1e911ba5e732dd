/- Lemmas for the statement. -/
import Derived.Test.YtjhcfpdgldpicaaGreatDoorM1
import Derived.Test.YtjhcfpdgldpicaaGreatDoorA16
import Derived.Laws.Concat
import Derived.Laws.IdiomStrings
namespace Go.Proofs.YtjhcfpdgldpicaaGreatDoor
open Go Go.RowKit Go.Proofs
set_option linter.unusedSimpArgs false
set_option linter.unusedVariables false
theorem size_mk (l : List UInt8) : (⟨l.toArray⟩ : ByteArray).size = l.length := rfl
def InU8 (n : Int) : Prop := 0 ≤ n ∧ n < 256
theorem wrapB_in {n : Int} (h : InU8 n) : IntKind.u8.wrap n = n := by
 unfold InU8 at h
 show n % (256 : Int) = n
 omega
section
variable {P : Program} {N : Nat} {Q : AQ} {e : Nat → AV} {mem : List Ob} {d : Option Tmp} {ty t t2 : TypeId} {pos : String} {af : Array Edge} {g : Option (Nat × Bool)} {x y z : Operand}
theorem ro_sadd {a b : ByteArray} (hx : evA e x = .v (.string a)) (hy : evA e y = .v (.string b)) (h : a.size + b.size ≤ 9223372036854775807) : OpRO P ⟨d, .binOp .add t x y t2, ty, pos, af, g⟩ e mem (.v (.string (a ++ b))) :=
 ro_str hx hy (fun w => run_string_add_sum w a b h) ⟨by decide, by decide⟩
theorem ro_subB {m n : Int} (hx : evA e x = .v (.int .u8 m)) (hy : evA e y = .v (.int .u8 n)) (h : InU8 (m - n)) : OpRO P ⟨d, .binOp .sub t x y t2, ty, pos, af, g⟩ e mem (.v (.int .u8 (m - n))) := by
 have := ro_sub (P := P) (mem := mem) (d := d) (ty := ty) (t := t) (t2 := t2) (pos := pos) (af := af) (g := g) hx hy; rwa [wrapB_in h] at this
theorem ro_cvB {k : IntKind} {m : Int} (hx : evA e x = .v (.int k m)) (hs : (P.underlying t).isSome = true) (hd : P.underlying t2 = some (.int .u8)) (h : InU8 m) : OpRO P ⟨d, .convert t t2 x, ty, pos, af, g⟩ e mem (.v (.int .u8 m)) := by
 have := ro_cv (mem := mem) (d := d) (ty := ty) (pos := pos) (af := af) (g := g) hx hs hd; rwa [wrapB_in h] at this
theorem ro_b2s {src dst eT : TypeId} {m : Int} (h1 : P.underlying src = some (.slice eT)) (h2 : P.underlying dst = some .string) (h3 : P.underlying eT = some (.int .u8)) (hx : evA e x = .row 1 [[.v (.int .u8 m)]]) (hm : InU8 m) : OpRO P ⟨d, .convert src dst x, ty, pos, af, g⟩ e mem (.v (.string ⟨#[UInt8.ofNat m.toNat]⟩)) := by
 intro pb w0 θ w ev hs h
 have h4 := h x (by simp [Op.operands])
 rw [hx] at h4
 have h5 : R0 (Prot pb θ mem) w (.row 1 [[.v (.int .u8 m)]]) (evE ev x) := by cases h4; assumption
 generalize hv : evE ev x = v at h5
 clear h4
 cases h5 with
 | row _ _ b o cp f q1 q2 q3 q4 q5 q6 q7 =>
  have c0 := q6 0 (.v (.int .u8 m)) rfl
  have r0 := q7 0 (.v (.int .u8 m)) rfl
  have e0 : f 0 = .int .u8 m := by
   generalize f 0 = v at r0
   cases r0; rfl
  rw [ex_convert hv, Sem.run_bind]
  have hb := run_convert_bytes_back (P := P) w src dst eT ⟨b, o, none⟩ cp [UInt8.ofNat m.toNat] h1 h3 h2 (fun j hj => by
   have hj0 : j = 0 := by simpa using hj
   subst hj0
   have : (⟨b, o, none⟩ : Addr).add 0 = ⟨b, o + 0, none⟩ := rfl
   rw [this, c0, e0]
   have hz : ((UInt8.ofNat m.toNat).toNat : Int) = m := by
    rw [UInt8.toNat_ofNat']; unfold InU8 at hm; omega
   show some (Value.int .u8 m) = some (.int .u8 ((UInt8.ofNat m.toNat).toNat : Int))
   rw [hz])
  have : ([[AV.v (.int .u8 m)]] : List (List AV)).length = [UInt8.ofNat m.toNat].length := rfl
  rw [this, hb]
  exact ⟨.ro (.v _), Ext.refl w⟩
theorem ro_sslo {s : ByteArray} {a : Int} {ka : IntKind} (hx : evA e x = .v (.string s)) (hy : evA e y = .v (.int ka a)) (hu : P.underlying t = some .string) (h0 : 0 ≤ a) (h1 : a ≤ s.size) :
 OpRO P ⟨d, .slice t x (some y) none none, ty, pos, af, g⟩ e mem (.v (.string (s.extract a.toNat s.size))) := by
 obtain ⟨a, rfl⟩ : ∃ n : Nat, a = n := ⟨a.toNat, by omega⟩
 have h1 : a ≤ s.size := by omega
 refine ro_pure _ fun ev he w => ?_
 rw [ex_slice10 (he x (by simp [Op.operands]) _ hx) (he y (by simp [Op.operands]) _ hy), Sem.run_bind]
 simp [Instr.sliceAt, run_underlying hu, Instr.slice, Instr.sliceBounds, Instr.sliceBound, asIntOf, h1, Sem.run_bind]
theorem ro_sshi {s : ByteArray} {b : Int} {kb : IntKind} (hx : evA e x = .v (.string s)) (hz : evA e z = .v (.int kb b)) (hu : P.underlying t = some .string) (h0 : 0 ≤ b) (h1 : b ≤ s.size) :
 OpRO P ⟨d, .slice t x none (some z) none, ty, pos, af, g⟩ e mem (.v (.string (s.extract 0 b.toNat))) := by
 obtain ⟨b, rfl⟩ : ∃ n : Nat, b = n := ⟨b.toNat, by omega⟩
 have h1 : b ≤ s.size := by omega
 refine ro_pure _ fun ev he w => ?_
 rw [ex_slice01 (he x (by simp [Op.operands]) _ hx) (he z (by simp [Op.operands]) _ hz), Sem.run_bind]
 simp [Instr.sliceAt, run_underlying hu, Instr.slice, Instr.sliceBounds, Instr.sliceBound, asIntOf, h1, Sem.run_bind]
def isIf : Option TypeDesc → Bool
 | some (.interface _) => true
 | _ => false
theorem isIf_some {o : Option TypeDesc} (h : isIf o = true) : ∃ ms, o = some (.interface ms) := by
 cases o with
 | none => cases h
 | some q => cases q <;> first | exact ⟨_, rfl⟩ | (simp [isIf] at h; done)
theorem ro_ifnil (hx : evA e x = .v .nilIface) (hi : isIf (P.underlying t) = true) : OpRO P ⟨d, .binOp .eql t x (.const .nilIface) t2, ty, pos, af, g⟩ e mem (.v (.bool true)) :=
 ro_bin hx rfl fun w => by
  obtain ⟨ms, hu⟩ := isIf_some hi
  have : (Op.equalIn (Op.maxDepth - 1 + 1) t .nilIface .nilIface).run P w = .ok true w := by
   unfold Op.equalIn; simp [Sem.run_bind, run_underlying hu]
  have h2 : Op.maxDepth - 1 + 1 = Op.maxDepth := rfl
  rw [h2] at this
  simp [eqGuard, binOp, Op.equal, Sem.run_bind, this]
theorem ro_iferr {te : TypeId} {pe : Value} (hx : evA e x = .v (.iface te pe)) (hi : isIf (P.underlying t) = true) : OpRO P ⟨d, .binOp .eql t x (.const .nilIface) t2, ty, pos, af, g⟩ e mem (.v (.bool false)) :=
 ro_bin hx rfl fun w => by
  obtain ⟨ms, hu⟩ := isIf_some hi
  have : (Op.equalIn (Op.maxDepth - 1 + 1) t (.iface te pe) .nilIface).run P w = .ok false w := by
   unfold Op.equalIn; simp [Sem.run_bind, run_underlying hu]
  have h2 : Op.maxDepth - 1 + 1 = Op.maxDepth := rfl
  rw [h2] at this
  simp [eqGuard, binOp, Op.equal, Sem.run_bind, this]
def OpROE (P : Program) (o : Oper) (e : Nat → AV) (mem : List Ob) (Ψ : AV → Prop) : Prop :=
 ∀ (pb : Nat → Prop) (w0 : Bs) (θ : List Value) (w : World) (ev : Nat → Value), SimM pb w0 w θ mem → (∀ x ∈ o.op.operands, R1 θ (Prot pb θ mem) w (evA e x) (evE ev x)) →
  RelUpon P (fun v w' => ∃ r, Ψ r ∧ R1 θ (Prot pb θ mem) w' r v ∧ Ext w w') ((execOp (evE ev) o).run P w)
theorem al_roE {ops : Array Oper} {l : List Oper} {o : Oper} {Ψ : AV → Prop} (ho : OpROE P o e mem Ψ) (hg : Gd ops o e) (hd : dstB N o.dst = true) (h : ∀ r, Ψ r → AL P N ops l Q (upA e o.dst r) mem) : AL P N ops (o :: l) Q e mem := by
 intro pb w0 θ a w hf
 show (if Region.wanted o (yielded ops a.tmps) then _ else _)
 rw [if_pos (wanted_of hf hg)]
 refine .inl (Oper.wp_of_rel (φ := fun v w' => ∃ r, Ψ r ∧ R1 θ (Prot pb θ mem) w' r v ∧ Ext w w') ?_ ?_)
 ·rintro v w' ⟨r, h0, h1, h2⟩
  have hs := Step.ext hf.sim h2
  exact wpList_mono (fun _ _ hq => hq.after hs) (h r h0 pb w0 θ _ w' (hf.put hs hd h1))
 ·rw [evE_of]
  exact ho pb w0 θ w _ hf.sim fun x _ => ops_of hf x
theorem roE_callG {gs : List (Nat × List AV)} {f : FuncId} {as : Array Operand} {ts : Array TypeId} {args : List AV} {Ψ : AV → Prop} (hargs : evL e as.toList = args) (hro : roO.roL args = true) {j : Nat} (hg : mem[j]? = some (.glob gs)) (hc : FnOkG P gs f args Ψ) (hcf : ∀ args w, (callFunc f args).run P w = .ok (.enter f args) w) :
 OpROE P ⟨d, .call ⟨.value (.func f), as, ts⟩, ty, pos, af, g⟩ e mem Ψ := by
 intro pb w0 θ w ev hs h
 have hvs : (as.toList.map (evE ev)).length = args.length := by rw [← hargs]; simp [evL]
 rw [ex_call (f := .func (.func f) #[] #[]) rfl rfl]
 refine rel_call hcf ((hc (Prot pb θ mem) w _ hvs (fun i a v ha hv => ?_) (fun x hx => ?_)).mono ?_)
 ·have ha' := ha
  rw [← hargs, evL, List.getElem?_map] at ha'
  rw [List.getElem?_map] at hv
  cases hx : as.toList[i]? with
  | none => rw [hx] at hv; cases hv
  | some x =>
   rw [hx] at ha' hv
   simp at ha' hv
   subst ha' hv
   have hmem : x ∈ as := by have := List.mem_of_getElem? hx; simpa using this
   exact (h x (by simp [Op.operands, Call.operands, hmem])).ro0 (roL_get hro ha)
 ·exact hs.glob hg x hx
 ·rintro en w' ⟨q, v, he, h3, h4, h5⟩
  exact ⟨v, he, q, h3, .ro (R0.back hs h4), h5⟩
end
end Go.Proofs.YtjhcfpdgldpicaaGreatDoor
