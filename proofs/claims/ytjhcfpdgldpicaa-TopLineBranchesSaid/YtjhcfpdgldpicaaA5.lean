/- Lemmas for the statement. -/
import Derived.Test.YtjhcfpdgldpicaaA4
import Derived.WalkLawsBesides
namespace Go.Proofs.Ytjhcfpdgldpicaa
open Go Go.RowKit
set_option linter.unusedVariables false
set_option linter.unusedSimpArgs false
section
variable {P : Program} {e : Nat → AV} {mem : List Ob} {d : Option Tmp} {ty t t2 : TypeId} {pos : String} {af : Array Edge} {g : Option (Nat × Bool)} {x y z : Operand}
theorem add_ne (b o n : Nat) : (⟨b, o, none⟩ : Addr).add n = ⟨b, o + n, none⟩ := by unfold Addr.add; split <;> simp_all
theorem run_fieldAt {fs : Array Field} {f : Field} {i n : Nat} {row : Bool} {b o : Nat} (hu : P.underlying t = some (.struct fs)) (hf : fs[i]? = some f) (ht : TyIs P f.type row n) (h0 : n ≠ 0) (w : World) :
 (Instr.fieldAt t (.pointer (some ⟨b, o, none⟩)) i).run P w = .ok (.pointer (some ⟨b, o + f.offset, none⟩)) w := by
 unfold Instr.fieldAt
 rw [Sem.run_bind, run_underlying hu]
 simp [hf, Instr.sureAddr, fieldPlace, ht.sizeOf, h0, Sem.run_bind, add_ne]
theorem ro_fieldAddr_ref {cells : List AV} {fs : Array Field} {f : Field} {i n off : Nat} {row : Bool} (hx : evA e x = .ref cells) (hu : P.underlying t = some (.struct fs)) (hf : fs[i]? = some f) (ho : f.offset = off) (ht : TyIs P f.type row n) (h0 : n ≠ 0) :
 OpRO P ⟨d, .fieldAddr t x i, ty, pos, af, g⟩ e mem (.ref (cells.drop off)) := by
 intro pb w0 θ w ev hs h
 have h1' := h x (by simp [Op.operands])
 rw [hx] at h1'
 generalize hv : evE ev x = p at h1'
 cases h1'.getRef with
 | ref _ b o q hb hp hc hr =>
  rw [ex_fieldAddr hv, Sem.run_bind, run_fieldAt hu hf ht h0]
  refine ⟨.ro (.ref _ _ _ (fun i => q (f.offset + i)) hb hp (fun i a ha => ?_) (fun i a ha => ?_)), Ext.refl w⟩
  ·rw [List.getElem?_drop, ← ho] at ha
   rw [Nat.add_assoc]; exact hc _ a ha
  ·rw [List.getElem?_drop, ← ho] at ha
   exact hr _ a ha
theorem ro_fieldAddr_ptr {j o : Nat} {fs : Array Field} {f : Field} {i n off : Nat} {row : Bool} (hx : evA e x = .ptr j o) (hu : P.underlying t = some (.struct fs)) (hf : fs[i]? = some f) (ho : f.offset = off) (ht : TyIs P f.type row n) (h0 : n ≠ 0) :
 OpRO P ⟨d, .fieldAddr t x i, ty, pos, af, g⟩ e mem (.ptr j (o + off)) := by
 intro pb w0 θ w ev hs h
 have h1' := h x (by simp [Op.operands])
 rw [hx] at h1'
 obtain ⟨b, v, hθ, hbase, hp⟩ := h1'.getPtr
 rw [ex_fieldAddr hp, Sem.run_bind, run_fieldAt hu hf ht h0, ho]
 exact ⟨.ptr j _ b v hθ hbase, Ext.refl w⟩
theorem run_indexAt {k len c b o : Nat} {eT : TypeId} {i : Int} {row : Bool} {kk : IntKind} (hu : P.underlying t = some (.slice eT)) (ht : TyIs P eT row k) (h0 : 0 ≤ i) (h1 : i < len) (w : World) :
 (Instr.indexAt t (.slice (some ⟨b, o, none⟩) len c) (.int kk i)).run P w = .ok (.pointer (some ⟨b, o + i.toNat * k, none⟩)) w := by
 unfold Instr.indexAt
 simp [asIntOf, run_underlying hu, h0, h1, ht.sizeOf, Sem.run_bind, add_ne]
theorem ro_indexAddr {els : List (List AV)} {el : List AV} {k : Nat} {eT : TypeId} {i : Int} {row : Bool} {kk : IntKind} (hx : evA e x = .row k els) (hy : evA e y = .v (.int kk i)) (hu : P.underlying t = some (.slice eT)) (ht : TyIs P eT row k) (h0 : 0 ≤ i) (hel : els[i.toNat]? = some el) :
 OpRO P ⟨d, .indexAddr t x y, ty, pos, af, g⟩ e mem (.ref el) := by
 intro pb w0 θ w ev hs h
 have h1' := h x (by simp [Op.operands])
 have h2' := h y (by simp [Op.operands])
 rw [hx] at h1'; rw [hy] at h2'
 have hi : i.toNat < els.length := (List.getElem?_eq_some_iff.1 hel).1
 generalize hv : evE ev x = p at h1'
 cases h1'.getRow with
 | nil => simp at hi
 | row _ _ b o c q hne hc hk hb hp hcell hr =>
  rw [ex_indexAddr hv h2'.val, Sem.run_bind, run_indexAt hu ht h0 (by omega)]
  have hkl := hk el (List.mem_of_getElem? hel)
  refine ⟨.ro (.ref _ _ _ (fun j => q (i.toNat * k + j)) hb hp (fun j a ha => ?_) (fun j a ha => ?_)), Ext.refl w⟩
  ·have hj : j < k := by have := (List.getElem?_eq_some_iff.1 ha).1; omega
   rw [Nat.add_assoc]
   exact hcell _ a (by rw [flat_get hk hel hj]; exact ha)
  ·have hj : j < k := by have := (List.getElem?_eq_some_iff.1 ha).1; omega
   exact hr _ a (by rw [flat_get hk hel hj]; exact ha)
theorem ro_indexAddr_own {j : Nat} {els : List (List AV)} {k : Nat} {eT T : TypeId} {i : Int} {row : Bool} {kk : IntKind} (hx : evA e x = .own j) (hm : mem[j]? = some (.row T k els)) (hy : evA e y = .v (.int kk i)) (hu : P.underlying t = some (.slice eT)) (ht : TyIs P eT row k) (h0 : 0 ≤ i) (h1 : i < els.length) :
 OpRO P ⟨d, .indexAddr t x y, ty, pos, af, g⟩ e mem (.ptr j (i.toNat * k)) := by
 intro pb w0 θ w ev hs h
 have h1' := h x (by simp [Op.operands])
 have h2' := h y (by simp [Op.operands])
 rw [hx] at h1'; rw [hy] at h2'
 generalize hv : evE ev x = p at h1'
 have hθ := h1'.getOwn
 obtain ⟨xs, h3, _, h4, h5⟩ := hs.ob j _ p hm hθ
 rcases h3.2 with ⟨rfl, hn⟩ | ⟨gg, cap, cur, rfl, _⟩
 ·omega
 ·rw [ex_indexAddr hv h2'.val, Sem.run_bind, run_indexAt hu ht h0 h1, Nat.zero_add]
  exact ⟨.ptr j _ gg _ hθ rfl, Ext.refl w⟩
theorem ro_sindex {s : ByteArray} {i : Int} {b : UInt8} {kk : IntKind} (hx : evA e x = .v (.string s)) (hy : evA e y = .v (.int kk i)) (hu : P.underlying t = some .string) (h0 : 0 ≤ i) (hb : s[i.toNat]? = some b) :
 OpRO P ⟨d, .index t x y, ty, pos, af, g⟩ e mem (.v (.int .u8 b.toNat)) :=
 ro_pure _ fun ev he w => by
  rw [ex_index (he x (by simp [Op.operands]) _ hx) (he y (by simp [Op.operands]) _ hy), Sem.run_bind]
  unfold Instr.index
  simp [asIntOf, run_underlying hu, h0, hb, Sem.run_bind]
theorem ro_len_row {els : List (List AV)} {k : Nat} {eT : TypeId} {ts : Array TypeId} (hx : evA e x = .row k els) (hts : ts[0]? = some t) (hu : P.underlying t = some (.slice eT)) : OpRO P ⟨d, .call ⟨.builtin .len, #[x], ts⟩, ty, pos, af, g⟩ e mem (.v (.int .i64 els.length)) := by
 intro pb w0 θ w ev hs h
 have h1' := h x (by simp [Op.operands, Call.operands])
 rw [hx] at h1'
 generalize hv : evE ev x = p at h1'
 rw [ex_builtin (ex_arg hv ex_arg0)]
 cases h1'.getRow <;> · simp [builtin, Builtin.len_, hts, run_underlying hu, goInt]; exact ⟨.ro (.v _), Ext.refl w⟩
theorem ro_len_own {j : Nat} {els : List (List AV)} {k : Nat} {eT T : TypeId} {ts : Array TypeId} (hx : evA e x = .own j) (hm : mem[j]? = some (.row T k els)) (hts : ts[0]? = some t) (hu : P.underlying t = some (.slice eT)) : OpRO P ⟨d, .call ⟨.builtin .len, #[x], ts⟩, ty, pos, af, g⟩ e mem (.v (.int .i64 els.length)) := by
 intro pb w0 θ w ev hs h
 have h1' := h x (by simp [Op.operands, Call.operands])
 rw [hx] at h1'
 generalize hv : evE ev x = p at h1'
 have hθ := h1'.getOwn
 obtain ⟨xs, h3, _, h4, h5⟩ := hs.ob j _ p hm hθ
 obtain ⟨A, c, rfl, hc⟩ := own_form h3
 rw [ex_builtin (ex_arg hv ex_arg0)]
 simp [builtin, Builtin.len_, hts, run_underlying hu, goInt]; exact ⟨.ro (.v _), Ext.refl w⟩
theorem ro_len_str {s : ByteArray} {ts : Array TypeId} (hx : evA e x = .v (.string s)) (hts : ts[0]? = some t) (hu : P.underlying t = some .string) : OpRO P ⟨d, .call ⟨.builtin .len, #[x], ts⟩, ty, pos, af, g⟩ e mem (.v (.int .i64 s.size)) :=
 ro_pure _ fun ev he w => by
  rw [ex_builtin (ex_arg (he x (by simp [Op.operands, Call.operands]) _ hx) ex_arg0)]
  simp [builtin, Builtin.len_, hts, run_underlying hu, goInt]
theorem ro_max {m n : Int} {k : IntKind} {ts : Array TypeId} (hx : evA e x = .v (.int k m)) (hy : evA e y = .v (.int k n)) : OpRO P ⟨d, .call ⟨.builtin .max, #[x, y], ts⟩, ty, pos, af, g⟩ e mem (.v (.int k (max m n))) :=
 ro_pure _ fun ev he w => by
  rw [ex_builtin (ex_arg (he x (by simp [Op.operands, Call.operands]) _ hx) (ex_arg (he y (by simp [Op.operands, Call.operands]) _ hy) ex_arg0))]
  simp only [builtin, Sem.run_bind, run_max2, Result.andThen_ok, Sem.run_pure]
theorem ro_min {m n : Int} {k : IntKind} {ts : Array TypeId} (hx : evA e x = .v (.int k m)) (hy : evA e y = .v (.int k n)) : OpRO P ⟨d, .call ⟨.builtin .min, #[x, y], ts⟩, ty, pos, af, g⟩ e mem (.v (.int k (min m n))) :=
 ro_pure _ fun ev he w => by
  rw [ex_builtin (ex_arg (he x (by simp [Op.operands, Call.operands]) _ hx) (ex_arg (he y (by simp [Op.operands, Call.operands]) _ hy) ex_arg0))]
  simp only [builtin, Sem.run_bind, run_min2, Result.andThen_ok, Sem.run_pure]
def roO : AV → Bool
 | .own _ | .ptr _ _ => false
 | .agg l | .tuple l => roL l
 | .clo _ l m => roL l && roL m
 | _ => true
where roL : List AV → Bool
 | [] => true
 | a :: l => roO a && roL l
theorem roL_get : ∀ {l : List AV} {i : Nat} {a : AV}, roO.roL l = true → l[i]? = some a → roO a = true
 | [], _, _, _, h => by simp at h
 | b :: l, 0, a, h, hi => by simp at hi; subst hi; simp only [roO.roL, Bool.and_eq_true] at h; exact h.1
 | b :: l, i + 1, a, h, hi => by simp only [roO.roL, Bool.and_eq_true] at h; exact roL_get h.2 (by simpa using hi)
theorem R1.ro0 {θ : List Value} {pr : Nat → Prop} {w : World} {a : AV} {x : Value} (h : R1 θ pr w a x) (hr : roO a = true) : R0 pr w a x := by
 induction h with
 | ro h => exact h
 | own j x h _ => simp [roO] at hr
 | ptr j off b x h h2 => simp [roO] at hr
 | agg l xs h1 _ ih => exact .agg l xs h1 fun i a x ha hx => ih i a x ha hx (roL_get (by simpa [roO] using hr) ha)
 | tuple l xs h1 _ ih => exact .tuple l xs h1 fun i a x ha hx => ih i a x ha hx (roL_get (by simpa [roO] using hr) ha)
 | clo fn l m xs ys h1 _ h3 _ ih1 ih2 =>
  simp only [roO, Bool.and_eq_true] at hr
  exact .clo fn l m xs ys h1 (fun i a x ha hx => ih1 i a x ha hx (roL_get hr.1 ha)) h3 (fun i a x ha hx => ih2 i a x ha hx (roL_get hr.2 ha))
theorem R0.back {pb : Nat → Prop} {w0 : Bs} {w w' : World} {θ : List Value} {mem : List Ob} (hs : SimM pb w0 w θ mem) {r : AV} {v : Value} (h : R0 (fun b => Prot pb θ mem b ∧ b < w.heap.size) w' r v) : R0 (Prot pb θ mem) w' r v :=
 h.mono (Nat.le_refl _) (fun _ _ _ => rfl) fun b _ hn hp => hn ⟨hp, by
  rcases hp with hp | ⟨j, o, v, h1, h2, h3, h4⟩
  ·exact Nat.lt_of_lt_of_le (hs.low b hp).1 hs.ext.size
  ·exact ((hs.ob j o v h1 h3).lt h2 h4).2⟩
def evL (e : Nat → AV) (as : List Operand) : List AV := as.map (evA e)
theorem evL_nil : evL e [] = [] := rfl
theorem evL_cons {as : List Operand} {a : AV} {l : List AV} (h : evA e x = a) (h2 : evL e as = l) : evL e (x :: as) = a :: l := by subst h; subst h2; rfl
theorem ro_call {f : FuncId} {as : Array Operand} {ts : Array TypeId} {args : List AV} {r : AV} (hargs : evL e as.toList = args) (hro : roO.roL args = true) (hc : FnOk P f args (fun q => q = r)) (hcf : ∀ args w, (callFunc f args).run P w = .ok (.enter f args) w) :
 OpRO P ⟨d, .call ⟨.value (.func f), as, ts⟩, ty, pos, af, g⟩ e mem r := by
 intro pb w0 θ w ev hs h
 have hvs : (as.toList.map (evE ev)).length = args.length := by rw [← hargs]; simp [evL]
 rw [ex_call (f := .func (.func f) #[] #[]) rfl rfl]
 refine rel_call hcf ((hc (Prot pb θ mem) w _ hvs fun i a v ha hv => ?_).mono ?_)
 ·have ha' := ha
  rw [← hargs, evL, List.getElem?_map] at ha'
  rw [List.getElem?_map] at hv
  cases hx : as.toList[i]? with
  | none => rw [hx] at hv; cases hv
  | some x =>
   rw [hx] at ha' hv
   simp at ha' hv
   subst ha' hv
   have hmem : x ∈ as := by have := List.mem_of_getElem? hx; simpa using this
   exact (h x (by simp [Op.operands, Call.operands, hmem])).ro0 (roL_get hro ha)
 ·rintro en w' ⟨q, v, he, rfl, h4, h5⟩
  exact ⟨v, he, .ro (R0.back hs h4), h5⟩
theorem ro_callv {f : FuncId} {as : Array Operand} {ts : Array TypeId} {l m args : List AV} {r : AV} (hx : evA e x = .clo (.func f) l m) (hargs : evL e as.toList = args) (hro : roO.roL args = true) (hrl : roO.roL l = true) (hrm : roO.roL m = true) (hc : FnOk P f (l ++ args ++ m) (fun q => q = r)) (hcf : ∀ args w, (callFunc f args).run P w = .ok (.enter f args) w) :
 OpRO P ⟨d, .call ⟨.value x, as, ts⟩, ty, pos, af, g⟩ e mem r := by
 intro pb w0 θ w ev hs h
 have h1' := h x (by simp [Op.operands, Call.operands])
 rw [hx] at h1'
 have h1'' := h1'.ro0 (by simp [roO, hrl, hrm])
 generalize hv : evE ev x = p at h1''
 cases h1'' with
 | clo _ _ _ xs ys h2 h3 h4 h5 =>
  have hvs : (as.toList.map (evE ev)).length = args.length := by rw [← hargs]; simp [evL]
  rw [ex_call hv rfl]
  have e1 : ((do let q ← Deferred.ofValue (.func (.func f) xs.toArray ys.toArray) (as.toList.map (evE ev)).toArray; invoke q.target q.args : Sem Next).run P w) = (callFunc f (xs.toArray ++ (as.toList.map (evE ev)).toArray ++ ys.toArray)).run P w := rfl
  rw [e1, hcf]
  have e2 : xs.toArray ++ (as.toList.map (evE ev)).toArray ++ ys.toArray = (xs ++ as.toList.map (evE ev) ++ ys).toArray := by simp
  rw [e2]
  refine (hc (Prot pb θ mem) w _ (by simp only [List.length_append]; omega) fun i a v ha hv => ?_).mono ?_
  ·rcases Nat.lt_or_ge i (l ++ args).length with h6 | h6
   ·rw [List.getElem?_append_left h6] at ha
    rw [List.getElem?_append_left (by simp only [List.length_append] at h6 ⊢; omega)] at hv
    rcases Nat.lt_or_ge i l.length with h7 | h7
    ·rw [List.getElem?_append_left h7] at ha
     rw [List.getElem?_append_left (by omega)] at hv
     exact h3 i a v ha hv
    ·rw [List.getElem?_append_right h7] at ha
     rw [List.getElem?_append_right (by omega), h2] at hv
     have ha' := ha
     rw [← hargs, evL, List.getElem?_map] at ha'
     rw [List.getElem?_map] at hv
     cases hx : as.toList[i - l.length]? with
     | none => rw [hx] at hv; cases hv
     | some x' =>
      rw [hx] at ha' hv
      simp at ha' hv
      subst ha' hv
      have hmem : x' ∈ as := by have := List.mem_of_getElem? hx; simpa using this
      exact (h x' (by simp [Op.operands, Call.operands, hmem])).ro0 (roL_get hro ha)
   ·rw [List.getElem?_append_right h6] at ha
    rw [List.getElem?_append_right (by simp only [List.length_append] at h6 ⊢; omega)] at hv
    have e3 : i - (xs ++ as.toList.map (evE ev)).length = i - (l ++ args).length := by simp only [List.length_append]; omega
    rw [e3] at hv
    exact h5 _ a v ha hv
  ·rintro en w' ⟨q, v, he, rfl, h4, h5⟩
   exact ⟨v, he, .ro (R0.back hs h4), h5⟩
theorem ro_makeFunc {fn : Fn} {fs cs : Array Operand} {l m : List AV} (h1 : evL e fs.toList = l) (h2 : evL e cs.toList = m) : OpRO P ⟨d, .makeFunc fn fs cs, ty, pos, af, g⟩ e mem (.clo fn l m) := by
 intro pb w0 θ w ev hs h
 have e1 : execOp (evE ev) ⟨d, .makeFunc fn fs cs, ty, pos, af, g⟩ = pure (.value (.func fn (fs.toList.map (evE ev)).toArray (cs.toList.map (evE ev)).toArray)) := by
  show (do pure (Next.value (← Instr.makeFunc fn (fs.map (evE ev)) (cs.map (evE ev)))) : Sem Next) = _
  have : ∀ (q : Array Operand), q.map (evE ev) = (q.toList.map (evE ev)).toArray := fun q => by apply Array.toList_inj.1; rw [Array.toList_map]
  rw [this, this]; rfl
 rw [e1]
 have key : ∀ (q : Array Operand), (∀ x ∈ q, R1 θ (Prot pb θ mem) w (evA e x) (evE ev x)) → ∀ (i : Nat) (a : AV) (x : Value), (evL e q.toList)[i]? = some a → (q.toList.map (evE ev))[i]? = some x → R1 θ (Prot pb θ mem) w a x := by
  intro q hq i a v ha hv
  rw [evL, List.getElem?_map] at ha
  rw [List.getElem?_map] at hv
  cases hx : q.toList[i]? with
  | none => rw [hx] at hv; cases hv
  | some x' =>
   rw [hx] at ha hv
   simp at ha hv
   subst ha hv
   exact hq x' (by have := List.mem_of_getElem? hx; simpa using this)
 refine ⟨.clo fn l m _ _ (by rw [← h1]; simp [evL]) ?_ (by rw [← h2]; simp [evL]) ?_, Ext.refl w⟩
 ·rw [← h1]; exact key fs fun x hx => h x (by simp [Op.operands, hx])
 ·rw [← h2]; exact key cs fun x hx => h x (by simp [Op.operands, hx])
def cellsA : AV → Option (List AV)
 | .any | .tuple _ | .emp => none
 | .v (.agg cs) => some (cs.toList.map .v)
 | .agg l => some l
 | a => some [a]
def setAt {α : Type} (cells : List α) (off : Nat) (l : List α) : List α := cells.take off ++ l ++ cells.drop (off + l.length)
def fillA (place : Nat → Option (Nat × Nat)) (cells : List AV) : List (Nat × AV) → Option (List AV)
 | [] => some cells
 | (i, a) :: rest =>
  match place i, cellsA a with
  | some (off, size), some l => if l.length = size ∧ off + size ≤ cells.length then fillA place (setAt cells off l) rest else none
  | _, _ => none
theorem cellsA_ok {θ : List Value} {pr : Nat → Prop} {w : World} {a : AV} {x : Value} {l : List AV} (h : R1 θ pr w a x) (hl : cellsA a = some l) : x.cells.size = l.length ∧ ∀ (i : Nat) (a : AV) (u : Value), l[i]? = some a → x.cells[i]? = some u → R1 θ pr w a u := by
 have one : ∀ (a : AV) (x : Value), R1 θ pr w a x → x.cells = #[x] → l = [a] → x.cells.size = l.length ∧ ∀ (i : Nat) (a : AV) (u : Value), l[i]? = some a → x.cells[i]? = some u → R1 θ pr w a u := by
  intro a x h hc hl
  subst hl
  rw [hc]
  refine ⟨rfl, fun i b u hb hu => ?_⟩
  cases i with
  | zero => simp at hb hu; subst hb hu; exact h
  | succ i => simp at hb
 cases a with
 | any => cases hl
 | emp => cases hl
 | tuple l => cases hl
 | v c =>
  have hx := h.val
  subst hx
  cases x with
  | agg cs =>
   simp only [cellsA, Option.some.injEq] at hl
   subst hl
   refine ⟨by simp [Value.cells], fun i b u hb hu => ?_⟩
   simp [Value.cells] at hb hu
   obtain ⟨y, h1, rfl⟩ := hb
   rw [hu] at h1; cases h1
   exact .ro (.v _)
  | _ => exact one _ _ h rfl (by simpa [cellsA] using hl.symm)
 | agg l' =>
  simp only [cellsA, Option.some.injEq] at hl
  subst hl
  obtain ⟨xs, rfl, h2, h3⟩ := h.getAgg
  exact ⟨by simp [Value.cells, h2], fun i b u hb hu => h3 i b u hb (by simpa [Value.cells] using hu)⟩
 | row k els =>
  refine one _ _ h ?_ (by simpa [cellsA] using hl.symm)
  cases h.getRow <;> rfl
 | ref c =>
  refine one _ _ h ?_ (by simpa [cellsA] using hl.symm)
  cases h.getRef; rfl
 | clo fn l' m' =>
  refine one _ _ h ?_ (by simpa [cellsA] using hl.symm)
  cases h with
  | ro h => cases h; rfl
  | clo => rfl
 | own j =>
  refine one _ _ h ?_ (by simpa [cellsA] using hl.symm)
  cases h with
  | ro h => cases h
  | own _ _ _ h2 => cases x <;> first | rfl | cases h2
 | ptr j o =>
  refine one _ _ h ?_ (by simpa [cellsA] using hl.symm)
  obtain ⟨b, y, _, _, rfl⟩ := h.getPtr; rfl
end
end Go.Proofs.Ytjhcfpdgldpicaa
