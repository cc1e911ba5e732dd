/- Abstract machine: a row laid over an array of one's own; an array cut to its first members. -/
import Derived.Test.YtgiiedpambimoaaA16
import Derived.Laws.CopyRow
import Derived.Laws.IdiomCopy
namespace Go.Proofs.Ytgiiedpambimoaa
open Go Go.RowKit Go.Proofs
set_option linter.unusedSimpArgs false
set_option linter.unusedVariables false
set_option maxRecDepth 100000
set_option maxHeartbeats 1000000
theorem flat_iE (xs : List Int) : (xs.map iE).flatten = xs.map fun n => AV.v (.int .i64 n) := by
  induction xs with
  | nil => rfl
  | cons x xs ih => simp only [List.map_cons, List.flatten_cons, ih]; rfl
theorem put_get {N : Nat} {a : Act} {d : Tmp} {v : Value} (hs : a.tmps.size = N) (hd : dstB N (some d) = true) : (a.put (some d) v).tmps.getD d undef = v := by
  have hlt : d < N := by simpa [dstB] using hd
  simp [Act.put, Array.getD_eq_getD_getElem?, hs, hlt]
theorem put_ne {a : Act} {d t : Tmp} {v : Value} (h : t ≠ d) : (a.put (some d) v).tmps.getD t undef = a.tmps.getD t undef := by
  simp only [Act.put]
  rw [Array.getD_eq_getD_getElem?, Array.getElem?_setIfInBounds_ne (fun e => h e.symm), ← Array.getD_eq_getD_getElem?]
section
variable {P : Program} {N : Nat} {Q : AQ} {e : Nat → AV} {mem : List Ob}
/-- What copying comes to, in the world. -/
theorem copy_into {pb : Nat → Prop} {w0 : Bs} {θ : List Value} {w : World} {dT sT eT ty : TypeId} {T : TypeId} {j len b : Nat} {xs ys : List Int} (hs : SimM pb w0 w θ mem) (hm : mem[j]? = some (.box T (ys.map iE).flatten)) (hθ : θ[j]? = some (.pointer (some ⟨b, 0, none⟩)))
    (hyl : ys.length = len) (hdT : P.underlying dT = some (.slice eT)) (hsz : (P.info? eT).map (·.size) = some 1) (hn : xs.length ≤ len) {sv : Value} (hr : R0 (Prot pb θ mem) w (.row 1 (xs.map iE)) sv) :
    RelUpon P (fun v w' => v = goInt xs.length ∧ Step pb w0 θ mem w θ (mem.set j (.box T ((xs ++ ys.drop xs.length).map iE).flatten)) w') ((do pure (.value (← Builtin.copy_ #[dT, sT] ty #[.slice (some ⟨b, 0, none⟩) len len, sv])) : Sem Next).run P w) := by
  obtain ⟨b', zs, h3, hbb, h4, h5, h6⟩ := hs.ob j _ _ hm hθ
  cases hbb
  rw [flat_iE] at h5 h6
  rw [List.length_map] at h5
  by_cases h0 : xs = []
  · subst h0
    have hset : mem.set j (.box T ((([] : List Int) ++ ys.drop ([] : List Int).length).map iE).flatten) = mem := by
      apply List.ext_getElem?
      intro i
      rw [List.getElem?_set]
      split
      · rename_i hij; subst hij
        split
        · rw [hm]; simp
        · rename_i hlt; rw [List.getElem?_eq_none (by omega)]
      · rfl
    have hsl : ∃ A c, sv = .slice A 0 c := by
      generalize hq : (([] : List Int).map iE) = q at hr
      cases hr with
      | nil _ c A => exact ⟨A, c, rfl⟩
      | row _ _ _ _ _ _ hne => exact absurd hq.symm hne
    obtain ⟨A, c, rfl⟩ := hsl
    rw [hset, Sem.run_bind, run_copy_none w dT sT ty eT _ _ len len 0 c hdT hsz (by simp)]
    exact ⟨rfl, Step.refl hs⟩
  · generalize hq : xs.map iE = q at hr
    cases hr with
    | nil => exact absurd (List.map_eq_nil_iff.1 hq) h0
    | row _ _ b2 o2 c f hne hc hk hb hp hcell hval =>
      subst hq
      rw [List.length_map]
      obtain ⟨cs, hcs⟩ : ∃ cs : List Value, cs = xs.map fun n => Value.int .i64 n := ⟨_, rfl⟩
      have hcl : cs.length = xs.length := by rw [hcs, List.length_map]
      have hzl : zs.length = len := by rw [h5, hyl]
      have hsrc : ∀ i v, cs[i]? = some v → w.cell? ((⟨b2, o2, none⟩ : Addr).add i) = some v := by
        intro i v hi
        rw [hcs, List.getElem?_map] at hi
        cases hx : xs[i]? with
        | none => rw [hx] at hi; cases hi
        | some n =>
          rw [hx] at hi; cases hi
          have ha : (xs.map iE).flatten[i]? = some (AV.v (.int .i64 n)) := by rw [flat_iE, List.getElem?_map, hx]; rfl
          have h1 := hcell i _ ha
          have h2 := hval i _ ha
          rw [Addr.add_lit, h1]
          generalize f i = u at h2
          cases h2
          rfl
      have hrun := run_copy_row (P := P) w dT sT ty eT b 0 len len ⟨b2, o2, none⟩ xs.length c zs.toArray T cs hdT hsz h4 (by rw [hcl]; exact (Nat.min_eq_left hn).symm) hsrc (by simp; omega) (fun v hv => by
        rw [hcs] at hv
        obtain ⟨n, _, rfl⟩ := List.mem_map.1 hv
        rfl)
      rw [Sem.run_bind, hrun]
      refine ⟨by rw [hcl], Step.write hs hm (by simp) hθ (below_setRow (Nat.zero_le _) _) (fun b1 hb1 hne1 => setRow_other w b b1 _ (fun e => hne1 (by rw [e]; rfl))) fun pr k => ?_⟩
      refine ⟨b, zs.take 0 ++ cs ++ zs.drop (0 + cs.length), h3, rfl, setRow_heap w b _ _ T (0, 0) h4, ?_, fun i a u ha hu => ?_⟩
      · rw [flat_iE]; simp; omega
      · rw [flat_iE, List.map_append] at ha
        simp only [List.take_zero, List.nil_append, Nat.zero_add] at hu
        by_cases hi : i < xs.length
        · rw [List.getElem?_append_left (by simpa using hi)] at ha
          rw [List.getElem?_append_left (by omega), hcs] at hu
          rw [List.getElem?_map, List.getElem?_eq_getElem hi] at ha hu
          cases ha; cases hu
          exact .ro (.v _)
        · rw [List.getElem?_append_right (by simpa using hi), List.length_map, List.getElem?_map, List.getElem?_drop] at ha
          rw [List.getElem?_append_right (by omega), List.getElem?_drop] at hu
          rw [show xs.length + (i - xs.length) = i by omega] at ha
          rw [show cs.length + (i - cs.length) = i by omega] at hu
          exact k _ _ (h6 i a u (by rw [List.getElem?_map]; exact ha) hu)
/-- A row laid over the first members of an array of one's own: three operations. -/
theorem al_copyarr {ops : Array Oper} {l : List Oper} {d1 d2 : Tmp} {d3 : Option Tmp} {t dT sT eT eT2 T ty1 ty2 ty3 : TypeId} {p1 p2 p3 : String} {f1 f2 f3 : Array Edge} {j len : Nat} {x s : Operand} {xs ys : List Int}
    (hx : evA e x = .ptr j 0) (hm : mem[j]? = some (.box T (ys.map iE).flatten)) (hyl : ys.length = len) (h0 : len ≠ 0) (ht : ArTy P t len eT false 1) (hdT : P.underlying dT = some (.slice eT2)) (hsz : (P.info? eT2).map (·.size) = some 1)
    (hs : evA (upA e (some d1) .any) s = .row 1 (xs.map iE)) (hn : xs.length ≤ len) (hne : d1 ≠ d2) (hd1 : dstB N (some d1) = true) (hd2 : dstB N (some d2) = true) (hd3 : dstB N d3 = true)
    (h : ∀ m, m = mem.set j (.box T ((xs ++ ys.drop xs.length).map iE).flatten) → AL P N ops l Q (upA (upA (upA e (some d1) .any) (some d2) (.row 1 (xs.map iE))) d3 (.v (.int .i64 xs.length))) m) :
    AL P N ops (⟨some d1, .slice t x none none none, ty1, p1, f1, none⟩ :: ⟨some d2, .move s, ty2, p2, f2, none⟩ :: ⟨d3, .call ⟨.builtin .copy, #[.tmp d1, .tmp d2], #[dT, sT]⟩, ty3, p3, f3, none⟩ :: l) Q e mem := by
  intro pb w0 θ a w hf
  have h1 := ops_of hf x
  rw [hx] at h1
  obtain ⟨b, v, hθ, hbase, hp⟩ := h1.getPtr
  obtain ⟨b', zs, h3, rfl, h4, h5, h6⟩ := hf.sim.ob j _ v hm hθ
  cases hbase
  have hrun : (Instr.sliceAt t (.pointer (some ⟨b', 0, none⟩)) none none none).run P w = .ok (.slice (some ⟨b', 0, none⟩) len len) w := by
    simp [Instr.sliceAt, run_underlying ht.1, Instr.sureAddr, Instr.sliceBounds, ht.2.sizeOf, Sem.run_bind, h0, add_ne]
  show (if Region.wanted _ (yielded ops a.tmps) then _ else _)
  rw [if_pos (by simp [Region.wanted])]
  refine .inl (Oper.wp_of_rel (φ := fun u w' => u = .slice (some ⟨b', 0, none⟩) len len ∧ w' = w) ?_ ?_)
  case refine_2 =>
    rw [evE_of]
    have e1 : execOp (evE fun t => a.tmps.getD t undef) ⟨some d1, .slice t x none none none, ty1, p1, f1, none⟩ = (do pure (.value (← Instr.sliceAt t (evE (fun t => a.tmps.getD t undef) x) none none none))) := rfl
    rw [e1, Sem.run_bind, hp, hrun]
    exact ⟨rfl, rfl⟩
  rintro u w' ⟨rfl, rfl⟩
  have hf1 := hf.put (Step.refl hf.sim) hd1 (r := .any) (v := .slice (some ⟨b', 0, none⟩) len len) (.ro (.any _))
  have hg1 := put_get (v := Value.slice (some ⟨b', 0, none⟩) len len) hf.size hd1
  show wpList P ops _ _ (a.put (some d1) _) w'
  generalize a.put (some d1) (.slice (some ⟨b', 0, none⟩) len len) = a1 at hf1 hg1
  show (if Region.wanted _ (yielded ops a1.tmps) then _ else _)
  rw [if_pos (by simp [Region.wanted])]
  refine .inl (Oper.wp_of_rel (φ := fun u w2 => u = evE (fun t => a1.tmps.getD t undef) s ∧ w2 = w') ?_ ?_)
  case refine_2 =>
    rw [evE_of]
    exact ⟨rfl, rfl⟩
  rintro u w2 ⟨rfl, rfl⟩
  have hrow := ops_of hf1 s
  rw [hs] at hrow
  have hf2 := hf1.put (Step.refl hf1.sim) hd2 hrow
  have hg2 := put_get (v := evE (fun t => a1.tmps.getD t undef) s) hf1.size hd2
  have hg3 := (put_ne (a := a1) (v := evE (fun t => a1.tmps.getD t undef) s) hne).trans hg1
  show wpList P ops _ _ (a1.put (some d2) _) w2
  generalize evE (fun t => a1.tmps.getD t undef) s = sv at hrow hf2 hg2 hg3
  generalize a1.put (some d2) sv = a2 at hf2 hg2 hg3
  show (if Region.wanted _ (yielded ops a2.tmps) then _ else _)
  rw [if_pos (by simp [Region.wanted])]
  have key := copy_into (P := P) (sT := sT) (ty := ty3) hf.sim hm hθ hyl hdT hsz hn hrow.getRow
  refine .inl (Oper.wp_of_rel (φ := fun u w3 => u = goInt xs.length ∧ Step pb w0 θ mem w2 θ (mem.set j (.box T ((xs ++ ys.drop xs.length).map iE).flatten)) w3) ?_ ?_)
  case refine_2 =>
    rw [evE_of]
    have e3 : execOp (evE fun t => a2.tmps.getD t undef) ⟨d3, .call ⟨.builtin .copy, #[.tmp d1, .tmp d2], #[dT, sT]⟩, ty3, p3, f3, none⟩ = (do pure (.value (← Builtin.copy_ #[dT, sT] ty3 #[.slice (some ⟨b', 0, none⟩) len len, sv]))) := by
      have e4 := ex_builtin (ρ := evE fun t => a2.tmps.getD t undef) (bi := .copy) (as := #[.tmp d1, .tmp d2]) (ts := #[dT, sT]) (d := d3) (ty := ty3) (pos := p3) (af := f3) (g := none) (vs := [.slice (some ⟨b', 0, none⟩) len len, sv]) (by
        show [a2.tmps.getD d1 undef, a2.tmps.getD d2 undef] = _
        rw [hg3, hg2])
      rw [e4]; rfl
    rw [e3]
    exact key
  rintro u w3 ⟨rfl, hst⟩
  exact wpList_mono (fun _ _ hq => hq.after hst) (h _ rfl pb w0 θ _ w3 (hf2.put hst hd3 (.ro (.v _))))
theorem ro_slarr3 {d : Option Tmp} {ty t : TypeId} {pos : String} {af : Array Edge} {g : Option (Nat × Bool)} {x y z : Operand} {len eT k : Nat} {row : Bool} {cells : List AV} {els : List (List AV)} {n : Int} {ka kb : IntKind} (ht : ArTy P t len eT row k) (hx : evA e x = .ref cells) (hl : cells = els.flatten) (hk : ∀ l ∈ els, l.length = k) (hlen : els.length = len)
    (hy : evA e y = .v (.int ka n)) (hz : evA e z = .v (.int kb n)) (h0 : 1 ≤ n) (hn : n ≤ len) : OpRO P ⟨d, .slice t x none (some y) (some z), ty, pos, af, g⟩ e mem (.row k (els.take n.toNat)) := by
  obtain ⟨n, rfl⟩ : ∃ q : Nat, n = q := ⟨n.toNat, by omega⟩
  simp only [Int.toNat_natCast]
  have hn : n ≤ len := by omega
  intro pb w0 θ w ev hs h
  have h1' := h x (by simp [Op.operands])
  have h2' := h y (by simp [Op.operands])
  have h3' := h z (by simp [Op.operands])
  rw [hx] at h1'; rw [hy] at h2'; rw [hz] at h3'
  generalize hv : evE ev x = p at h1'
  cases h1'.getRef with
  | ref _ b o f hb hp hc hr =>
    have hz : n ≠ 0 := by omega
    have hrun : (Instr.sliceAt t (.pointer (some ⟨b, o, none⟩)) none (some (.int ka (n : Int))) (some (.int kb (n : Int)))).run P w = .ok (.slice (some ⟨b, o, none⟩) n n) w := by
      simp [Instr.sliceAt, run_underlying ht.1, Instr.sureAddr, Instr.sliceBounds, Instr.sliceBound, asIntOf, ht.2.sizeOf, Sem.run_bind, hn, hz, add_ne]
    have e1 : execOp (evE ev) ⟨d, .slice t x none (some y) (some z), ty, pos, af, g⟩ = (do pure (.value (← Instr.sliceAt t (evE ev x) none (some (evE ev y)) (some (evE ev z))))) := rfl
    rw [e1, Sem.run_bind, hv, h2'.val, h3'.val, hrun]
    refine ⟨.ro ?_, Ext.refl w⟩
    have hlt : (els.take n).length = n := by rw [List.length_take]; omega
    have key : ∀ i a, (els.take n).flatten[i]? = some a → cells[i]? = some a := fun i a hi => by
      rw [hl, ← List.take_append_drop n els, List.flatten_append, List.getElem?_append_left (List.getElem?_eq_some_iff.1 hi).1]; exact hi
    have := R0.row (pr := Prot pb θ mem) (w := w) k (els.take n) b o n f (fun h => hz (by rw [← hlt, h]; rfl)) (by omega) (fun l hl => hk l (List.mem_of_mem_take hl)) hb hp (fun i a ha => hc i a (key i a ha)) (fun i a ha => hr i a (key i a ha))
    rwa [hlt] at this
end
end Go.Proofs.Ytgiiedpambimoaa
