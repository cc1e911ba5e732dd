/- The abstract machine: functions that hand back a row of one's own; slices cut, appends of zeros. No conditions on a program. -/
import Derived.Test.YtgiiedpambimoaaA14
import Derived.Lib.AppendZerosOnto
namespace Go.Proofs.Ytgiiedpambimoaa
open Go Go.RowKit Go.Proofs
set_option linter.unusedSimpArgs false
set_option linter.unusedVariables false

/-- A function that hands back a new row: these members, plain values all. -/
def FnRow (P : Program) (f : FuncId) (args : List AV) (eT : TypeId) (k : Nat) (els : List (List AV)) : Prop :=
  ∀ (pr : Nat → Prop) (w : World) (vs : List Value), vs.length = args.length → (∀ (i : Nat) (a : AV) (x : Value), args[i]? = some a → vs[i]? = some x → R0 pr w a x) →
    Calls P f vs.toArray w fun en w' => ∃ v xs, en = .returned v ∧ Ext w w' ∧ w'.ownsRow w.heap.size eT k v els.length xs ∧ (∀ l ∈ els, l.length = k) ∧ els.flatten = xs.map AV.v
section
variable {P : Program} {e : Nat → AV} {mem : List Ob} {d : Option Tmp} {ty t : TypeId} {pos : String} {af : Array Edge} {g : Option (Nat × Bool)} {x y : Operand}
theorem nw_callrow {f : FuncId} {as : Array Operand} {ts : Array TypeId} {args : List AV} {eT : TypeId} {k : Nat} {els : List (List AV)} (hargs : evL e as.toList = args) (hro : roO.roL args = true) (hc : FnRow P f args eT k els) (hcf : ∀ args w, (callFunc f args).run P w = .ok (.enter f args) w) :
    OpNW P ⟨d, .call ⟨.value (.func f), as, ts⟩, ty, pos, af, g⟩ e mem (.row eT k els) (fun j => .own j) := by
  intro pb w0 θ w ev hs h
  have hvs : (as.toList.map (evE ev)).length = args.length := by rw [← hargs]; simp [evL]
  rw [ex_call (f := .func (.func f) #[] #[]) rfl rfl]
  refine rel_call hcf ((hc (Prot pb θ mem) w _ hvs fun i a v ha hv => ?_).mono ?_)
  · have ha' := ha
    rw [← hargs, evL, List.getElem?_map] at ha'
    rw [List.getElem?_map] at hv
    cases hx : as.toList[i]? with
    | none => rw [hx] at hv; cases hv
    | some x =>
      rw [hx] at ha' hv
      simp at ha' hv
      subst ha' hv
      have hmem : x ∈ as := by have := List.mem_of_getElem? hx; simpa using this
      exact (h x (by simp [Op.operands, Call.operands, hmem])).ro0 (roL_get hro ha)
  · rintro en w' ⟨v, xs, he, hx, h9, hk, hfl⟩
    refine ⟨v, he, hx, (fun b hb => (own_lt h9 hb).1), fun θ' pr k1 => ?_, fun θ' pr j hj => .own j _ hj (own_nu h9)⟩
    refine ⟨xs, h9.mono_base (Nat.zero_le _), (fun b hb => .inl (Nat.le_trans hs.ext.size (own_lt h9 hb).1)), hk, fun n a u ha hu => ?_⟩
    rw [hfl, List.getElem?_map, hu] at ha
    simp at ha
    subst ha
    exact .v _
theorem st_callrow {m : Nat} {f : FuncId} {as : Array Operand} {ts : Array TypeId} {args : List AV} {eT : TypeId} {k : Nat} {els : List (List AV)} (hl : mem.length = m) (hargs : evL e as.toList = args) (hro : roO.roL args = true) (hc : FnRow P f args eT k els) (hcf : ∀ args w, (callFunc f args).run P w = .ok (.enter f args) w) :
    OpST P ⟨d, .call ⟨.value (.func f), as, ts⟩, ty, pos, af, g⟩ e mem (.own m) (mem ++ [.row eT k els]) := nw_st (h := fun j => .own j) (nw_callrow hargs hro hc hcf) hl
theorem ro_cap_nil {n c : Nat} {A : Option Addr} {eT : TypeId} {ts : Array TypeId} (hx : evA e x = .v (.slice A n c)) (hts : ts[0]? = some t) (hu : P.underlying t = some (.slice eT)) : OpRO P ⟨d, .call ⟨.builtin .cap, #[x], ts⟩, ty, pos, af, g⟩ e mem (.v (.int .i64 c)) :=
  ro_pure _ fun ev he w => by
    rw [ex_builtin (ex_arg (he x (by simp [Op.operands, Call.operands]) _ hx) ex_arg0)]
    simp [builtin, Builtin.cap_, hts, run_underlying hu, goInt]
theorem ro_sl_nil {eT k : Nat} {row : Bool} {kn : IntKind} (hx : evA e x = .v (.slice none 0 0)) (hy : evA e y = .v (.int kn 0)) (hu : P.underlying t = some (.slice eT)) (ht : TyIs P eT row k) : OpRO P ⟨d, .slice t x none (some y) none, ty, pos, af, g⟩ e mem (.v (.slice none 0 0)) :=
  ro_pure _ fun ev he w => by
    rw [ex_slice01 (he x (by simp [Op.operands]) _ hx) (he y (by simp [Op.operands]) _ hy), Sem.run_bind]
    simp [Instr.sliceAt, run_underlying hu, Instr.slice, Instr.sliceBounds, Instr.sliceBound, asIntOf, ht.sizeOf, Sem.run_bind]
/-- A row of one's own cut to its first members. -/
theorem st_slown {j m k eT : Nat} {row : Bool} {els : List (List AV)} {n : Int} {kn : IntKind} (hx : evA e x = .own j) (hm : mem[j]? = some (.row eT k els)) (hy : evA e y = .v (.int kn n)) (hu : P.underlying t = some (.slice eT)) (ht : TyIs P eT row k) (hl : mem.length = m) (h0 : 0 ≤ n ∧ n ≤ els.length) :
    OpST P ⟨d, .slice t x none (some y) none, ty, pos, af, g⟩ e mem (.own m) (mem.set j .gone ++ [.row eT k (els.take n.toNat)]) := by
  obtain ⟨n, rfl⟩ : ∃ q : Nat, n = q := ⟨n.toNat, by omega⟩
  simp only [Int.toNat_natCast]
  have hn : n ≤ els.length := by omega
  intro pb w0 θ w ev hs h
  subst hl
  have h1 := h x (by simp [Op.operands])
  have h2 := h y (by simp [Op.operands])
  rw [hx] at h1; rw [hy] at h2
  generalize hv : evE ev x = v at h1
  have hθ := h1.getOwn
  obtain ⟨xs, h3, hbs, h4, h5⟩ := hs.ob j _ v hm hθ
  obtain ⟨A, c, rfl, hc⟩ := own_form h3
  have hA0 : A.map (·.add (0 * k)) = A := by
    cases A with
    | none => rfl
    | some a => simp [Addr.add]
  have hrun : (Instr.sliceAt t (.slice A els.length c) none (some (.int kn (n : Int))) none).run P w = .ok (.slice A n c) w := by
    have hb : n ≤ c := by omega
    simp [Instr.sliceAt, run_underlying hu, Instr.slice, Instr.sliceBounds, Instr.sliceBound, asIntOf, hb, ht.sizeOf, Sem.run_bind]
    cases A <;> simp [Addr.add]
  rw [ex_slice01 hv h2.val, Sem.run_bind, hrun]
  have hbb : baseOf (.slice A n c) = baseOf (.slice A els.length c) := by cases A <;> rfl
  have hxl := h3.1
  have hnx : n * k ≤ xs.length := by rw [hxl]; exact Nat.mul_le_mul_right k hn
  have h9 : w.ownsRow 0 eT k (.slice A n c) n (xs.take (n * k)) := by
    refine ⟨by rw [List.length_take]; omega, ?_⟩
    rcases h3.2 with ⟨he, hz⟩ | ⟨gg, cap, cur, he, hg, hh, hcap, hmax, hcs, htake⟩
    · injection he with e1 e2 e3
      subst e1 e3
      exact .inl ⟨by rw [show n = 0 by omega], by omega⟩
    · injection he with e1 e2 e3
      subst e1 e3
      refine .inr ⟨gg, _, cur, rfl, hg, hh, by omega, hmax, hcs, ?_⟩
      rw [← htake, List.take_take, Nat.min_eq_left (Nat.mul_le_mul_right k hn)]
  refine ⟨θ ++ [.slice A n c], .own _ _ (len_at hs _) rfl, Step.swap hs hm (by simp) hθ (Below.refl 0 _) (fun _ _ _ => rfl) _ _ (.inl hbb) fun θ' pr k1 k0 => ?_⟩
  refine ⟨xs.take (n * k), by rw [List.length_take, Nat.min_eq_left hn]; exact h9, (fun b hb => hbs b (by rw [← hbb]; exact hb)), fun l hl => h4 l (List.mem_of_mem_take hl), fun i a u ha hu => ?_⟩
  have hfl := flatten_length h4
  have hft : (els.take n).flatten = els.flatten.take (n * k) := by
    have e1 : els.flatten = (els.take n).flatten ++ (els.drop n).flatten := by rw [← List.flatten_append, List.take_append_drop]
    have e2 : (els.take n).flatten.length = n * k := by rw [flatten_length (fun l hl => h4 l (List.mem_of_mem_take hl)), List.length_take, Nat.min_eq_left hn]
    rw [e1, List.take_append_of_le_length (Nat.le_of_eq e2.symm), List.take_of_length_le (Nat.le_of_eq e2)]
  rw [hft, List.getElem?_take] at ha
  rw [List.getElem?_take] at hu
  split at ha
  · rename_i hi
    rw [if_pos hi] at hu
    exact k0 a u (h5 i a u ha hu)
  · cases ha
/-- append of zeros onto nil. -/
theorem nw_appmake {k bytes : Nat} {eT tn : TypeId} {i : TypeInfo} {zv : Value} {zs : List AV} {n : Int} {kl kn : IntKind} (hx : evA e x = .v (.slice none 0 0)) (hy : evA e y = .v (.int kl n)) (h0 : 1 ≤ n)
    (ht : P.underlying t = some (.slice eT)) (htn : P.underlying tn = some (.int kn)) (hi : P.info? eT = some i) (hz : i.zero = some zv) (hsz : i.size = k) (hby : i.bytes = bytes) (hzs : zv.cells.toList.map AV.v = zs) (hzl : zv.cells.size = k) (hk0 : 0 < k) (hb0 : 0 < bytes) (hbytes : bytes * n.toNat ≤ 70368744177664) :
    OpNW P ⟨d, .call ⟨.builtin .append, #[x, y], #[t, tn]⟩, ty, pos, af, g⟩ e mem (.row eT k (List.replicate n.toNat zs)) (fun j => .own j) := by
  obtain ⟨n, rfl⟩ : ∃ q : Nat, n = q := ⟨n.toNat, by omega⟩
  simp only [Int.toNat_natCast] at hbytes ⊢
  intro pb w0 θ w ev hs h
  have h1 := h x (by simp [Op.operands, Call.operands])
  have h2 := h y (by simp [Op.operands, Call.operands])
  rw [hx] at h1; rw [hy] at h2
  have hnb : n ≤ bytes * n := Nat.le_mul_of_pos_left n hb0
  have hnx : Builtin.nextslicecap (0 + n) 0 = n := by unfold Builtin.nextslicecap; simp; omega
  have hmk := Go.Lib.run_append_grow_zeros (P := P) w t tn ty eT i zv kl kn ht htn hi hz none 0 0 [] (run_firstCells_none w.drew i.size 0 0 0) n (by omega) (by omega) (by omega) (by omega) (by rw [hby, Nat.mul_comm]; omega) (by rw [hnx, hby, Nat.mul_comm]; omega)
  have hge := grownCap_ge w (0 + n) 0 eT
  have hle := grownCap_le_maxLen w (0 + n) 0 eT (by simp only [maxLen]; omega)
  obtain ⟨cap, hcap⟩ : ∃ cap, cap = grownCap w (0 + n) 0 eT := ⟨_, rfl⟩
  rw [← hcap] at hmk hge hle
  obtain ⟨w', hw'⟩ : ∃ w', w' = w.drew.alloc (.cells (#[] ++ Builtin.zeroCells zv.cells n ++ Builtin.zeroCells zv.cells (cap - (0 + n))) eT) := ⟨_, rfl⟩
  have hmk2 : (Builtin.append_ #[t, tn] ty #[.slice none 0 0, .int kl (n : Int)]).run P w = .ok (.slice (some ⟨w.heap.size, 0, none⟩) n cap) w' := by rw [hmk, hw', Nat.zero_add]
  rw [ex_builtin (ex_arg h1.val (ex_arg h2.val ex_arg0))]
  have e1 : ∀ cs, (builtin .append #[t, tn] ty cs [.slice none 0 0, .int kl (n : Int)].toArray).run P w = .ok (.value (.slice (some ⟨w.heap.size, 0, none⟩) n cap)) w' := by
    intro cs; simp only [builtin, Sem.run_bind, hmk2, Result.andThen_ok, Sem.run_pure]
  rw [e1]
  have hxx : Ext w w' := by rw [hw']; exact (Ext.refl w).drew.alloc _
  have hzc : ∀ q, (Builtin.zeroCells zv.cells q).size = q * k := fun q => by rw [← hzl]; simp [Builtin.zeroCells]
  have h9 : w'.ownsRow w.heap.size eT k (.slice (some ⟨w.heap.size, 0, none⟩) n cap) n (Builtin.zeroCells zv.cells n).toList := by
    refine ⟨by rw [Array.length_toList, hzc], .inr ⟨w.heap.size, cap, #[] ++ Builtin.zeroCells zv.cells n ++ Builtin.zeroCells zv.cells (cap - (0 + n)), rfl, Nat.le_refl _, ?_, by omega, hle, ?_, ?_⟩⟩
    · rw [hw']; exact World.alloc_heap_new w.drew _
    · rw [Array.size_append, Array.size_append, hzc, hzc]
      simp only [Array.size_empty, Nat.zero_add]
      rw [← Nat.add_mul, show n + (cap - n) = cap by omega]
    · simp only [Array.empty_append, Array.toList_append]
      rw [List.take_append_of_le_length (by rw [Array.length_toList, hzc]; exact Nat.le_refl _), List.take_of_length_le (by rw [Array.length_toList, hzc]; exact Nat.le_refl _)]
  have hzl2 : zs.length = k := by rw [← hzs]; simp [hzl]
  refine ⟨hxx, (fun b hb => (own_lt h9 hb).1), fun θ' pr k1 => ?_, fun θ' pr j hj => .own j _ hj (own_nu h9)⟩
  refine ⟨_, by rw [List.length_replicate]; exact h9.mono_base (Nat.zero_le _), (fun b hb => .inl (Nat.le_trans hs.ext.size (own_lt h9 hb).1)), fun l hl => by rw [List.eq_of_mem_replicate hl]; exact hzl2, fun q a u ha hu => ?_⟩
  have hq : q < n * zs.length := by
    have := (List.getElem?_eq_some_iff.1 ha).1
    rwa [flatten_length (k := zs.length) (fun l hl => by rw [List.eq_of_mem_replicate hl]), List.length_replicate] at this
  rw [flatten_replicate_get hq] at ha
  simp only [Builtin.zeroCells, Array.toList_map, List.getElem?_map, Array.toList_range] at hu
  rw [hzl, List.getElem?_range (by rw [← hzl2]; exact hq)] at hu
  simp only [Option.map_some, Option.some.injEq] at hu
  have hlt : q % k < zv.cells.size := by rw [hzl]; exact Nat.mod_lt _ hk0
  rw [hzl2, ← hzs, List.getElem?_map, List.getElem?_eq_getElem (by simpa using hlt)] at ha
  simp only [Option.map_some, Option.some.injEq] at ha
  have : u = zv.cells[q % k] := by
    rw [← hu, getElem!_pos zv.cells (q % k) hlt]
  subst ha
  rw [this]
  simp only [Array.getElem_toList]
  exact .v _
theorem st_appmk {m k bytes eT tn : Nat} {zv : Value} {zs : List AV} {n : Int} {kl kn : IntKind} (ht : SlIs P t eT k bytes zv) (hk : (zv.cells.size == k && decide (0 < k) && decide (0 < bytes)) = true) (htn : P.underlying tn = some (.int kn)) (hzs : zv.cells.toList.map AV.v = zs) (hl : mem.length = m) (hx : evA e x = .v (.slice none 0 0)) (hy : evA e y = .v (.int kl n)) (h0 : 1 ≤ n) (hb : bytes * n.toNat ≤ 70368744177664) :
    OpST P ⟨d, .call ⟨.builtin .append, #[x, y], #[t, tn]⟩, ty, pos, af, g⟩ e mem (.own m) (mem ++ [.row eT k (List.replicate n.toNat zs)]) := by
  obtain ⟨i, h1, h2, h3, h4⟩ := ht.info
  simp only [Bool.and_eq_true, beq_iff_eq, decide_eq_true_eq] at hk
  exact nw_st (h := fun j => .own j) (nw_appmake hx hy h0 ht.1 htn h1 h2 h3 h4 hzs hk.1.1 hk.1.2 hk.2 hb) hl
theorem st_slo {j m k bytes eT : Nat} {zv : Value} {els : List (List AV)} {n : Int} {kn : IntKind} (ht : SlIs P t eT k bytes zv) (hl : mem.length = m) (hm : mem[j]? = some (.row eT k els)) (hx : evA e x = .own j) (hy : evA e y = .v (.int kn n)) (h0 : 0 ≤ n ∧ n ≤ els.length) :
    OpST P ⟨d, .slice t x none (some y) none, ty, pos, af, g⟩ e mem (.own m) (mem.set j .gone ++ [.row eT k (els.take n.toNat)]) := by
  obtain ⟨row, h1⟩ := ht.tyIs
  exact st_slown hx hm hy ht.1 h1 hl h0
theorem ro_slnil {k bytes eT : Nat} {zv : Value} {kn : IntKind} (ht : SlIs P t eT k bytes zv) (hx : evA e x = .v (.slice none 0 0)) (hy : evA e y = .v (.int kn 0)) : OpRO P ⟨d, .slice t x none (some y) none, ty, pos, af, g⟩ e mem (.v (.slice none 0 0)) := by
  obtain ⟨row, h1⟩ := ht.tyIs
  exact ro_sl_nil hx hy ht.1 h1
/-- What such a function comes to. -/
def RowQ (fn : Func) (eT : TypeId) (k : Nat) (els : List (List AV)) : AQ := fun x e mem => (x = .normal ∨ x = .ret) ∧ ∃ t, fn.results = #[.tmp t] ∧ ((∃ j, e t = .own j ∧ mem[j]? = some (.row eT k els)) ∨ (e t = .v (.slice none 0 0) ∧ els = []))
theorem retRow {fn : Func} {eT : TypeId} {k : Nat} {els els' : List (List AV)} {x : Exit} {t j : Nat} (hx : x = .normal ∨ x = .ret) (hr : fn.results = #[.tmp t]) (h1 : evA e (.tmp t) = .own j) (hm : mem[j]? = some (.row eT k els')) (he : els' = els) : RowQ fn eT k els x e mem := by
  subst he; exact ⟨hx, t, hr, .inl ⟨j, h1, hm⟩⟩
theorem retNil {fn : Func} {eT : TypeId} {k : Nat} {els : List (List AV)} {x : Exit} {t : Nat} (hx : x = .normal ∨ x = .ret) (hr : fn.results = #[.tmp t]) (h1 : evA e (.tmp t) = .v (.slice none 0 0)) (he : els = []) : RowQ fn eT k els x e mem := ⟨hx, t, hr, .inr ⟨h1, he⟩⟩
def plainA (a : AV) : Bool := match a with | .v _ => true | _ => false
theorem fnRow_of {f : FuncId} {fn : Func} {c : Code} {args : List AV} {eT : TypeId} {k : Nat} {els : List (List AV)} (N : Nat) (hf : P.funcs[f]? = some fn) (hb : fn.body = some c) (hn : fn.ntmps = N) (hN : args.length ≤ N) (hpl : els.flatten.all plainA = true)
    (hA : ∀ e m, (∀ (t : Nat) (a : AV), args[t]? = some a → evA e (.tmp t) = a) → m = [] → AW .top P N c (RowQ fn eT k els) e m) : FnRow P f args eT k els := by
  subst hn
  have h := hA (ent args) [] (fun t a ha => by show args.getD t _ = a; rw [List.getD_eq_getElem?_getD, ha]; rfl) rfl
  intro pr w vs h1 h2
  refine (callsIn_wide (n := 9)).1 (callsIn_of_wp_marks hf hb trivial (wpIn_mono (h Fence.wide 9 rfl (fun b => pr b ∧ b < w.heap.size) ⟨w, fun _ => False⟩ [] { tmps := vs.toArray ++ Array.replicate (fn.ntmps - vs.toArray.size) undef, defers := [] } w ⟨?_, Mks.nil _ _ _, fun t => ?_, ?_⟩) ?_))
  · simp; omega
  · show R1 _ _ _ (args.getD t (.v undef)) ((vs.toArray ++ Array.replicate (fn.ntmps - vs.toArray.size) undef).getD t undef)
    by_cases ht : t < args.length
    · have e1 : args.getD t (.v undef) = args[t] := by simp [List.getD_eq_getElem?_getD, ht]
      have ht' : t < vs.length := by omega
      have e2 : (vs.toArray ++ Array.replicate (fn.ntmps - vs.toArray.size) undef).getD t undef = vs[t] := by
        rw [Array.getD_eq_getD_getElem?, Array.getElem?_append_left (by simpa using ht')]; simp [ht']
      rw [e1, e2]
      refine .ro ((h2 t _ _ (List.getElem?_eq_getElem ht) (List.getElem?_eq_getElem ht')).mono (Nat.le_refl _) (fun _ _ _ => rfl) fun b _ hn hp => ?_)
      rcases hp with hp | ⟨j, o, v, q, _⟩
      · exact hn hp.1
      · simp at q
    · have e1 : args.getD t (.v undef) = .v undef := by simp [List.getD_eq_getElem?_getD, List.getElem?_eq_none (Nat.le_of_not_lt ht)]
      have e2 : (vs.toArray ++ Array.replicate (fn.ntmps - vs.toArray.size) undef).getD t undef = undef := by
        rw [Array.getD_eq_getD_getElem?, Array.getElem?_append_right (by simp; omega), Array.getElem?_replicate]
        split <;> rfl
      rw [e1, e2]; exact .ro (.v _)
  · exact ⟨Bel.refl w _, fun b hb => ⟨hb.2, id⟩, rfl, fun j o v hm => by simp at hm, fun i j o p v u b hm => by simp at hm⟩
  · rintro x a w' ⟨e', mem', θ', hfit, -, hx, t, hr, hcase⟩
    have fin : LeavesInM Fence.wide 9 P fn a.tmps (fun en w' => ∃ v xs, en = .returned v ∧ Ext w w' ∧ w'.ownsRow w.heap.size eT k v els.length xs ∧ (∀ l ∈ els, l.length = k) ∧ els.flatten = xs.map AV.v) a.defers .returning w' := by
      refine leave_marks hfit.dfr fun w2 hc => ?_
      have hs2 := hfit.sim.calm hc
      have hsl := (hfit.sl t).calm hc
      rcases hcase with ⟨j, hej, hm⟩ | ⟨hej, rfl⟩
      rotate_left
      · rw [hej] at hsl
        exact ⟨_, results_one (rv := .tmp t) hr _ rfl, _, [], rfl, hs2.ext.toExt, by rw [hsl.val]; exact World.ownsRow_nil w2 _ eT k, (fun l hl => by cases hl), rfl⟩
      rw [hej] at hsl
      have hθ := hsl.getOwn
      obtain ⟨xs, h3, hbs, h4, h5⟩ := hs2.ob j _ _ hm hθ
      refine ⟨_, results_one (rv := .tmp t) hr _ rfl, _, xs, rfl, hs2.ext.toExt, ?_, h4, ?_⟩
      · refine ⟨h3.1, ?_⟩
        rcases h3.2 with h6 | ⟨gg, cap, cur, he, hg, rest⟩
        · exact .inl h6
        · have := hbs gg (by rw [he]; rfl)
          rcases this with h7 | h7
          · exact .inr ⟨gg, cap, cur, he, h7, rest⟩
          · exact h7.elim
      · have hlen : els.flatten.length = xs.length := by rw [flatten_length h4, h3.1]
        refine List.ext_getElem? fun n => ?_
        rw [List.getElem?_map]
        by_cases hlt : n < xs.length
        · rw [List.getElem?_eq_getElem hlt, List.getElem?_eq_getElem (by omega)]
          have h6 := h5 n _ _ (List.getElem?_eq_getElem (by omega : n < els.flatten.length)) (List.getElem?_eq_getElem hlt)
          have h7 := List.all_eq_true.1 hpl _ (List.getElem_mem (by omega : n < els.flatten.length))
          cases hq : els.flatten[n]'(by omega) with
          | v c => rw [hq] at h6; cases h6; rfl
          | _ => rw [hq] at h7; cases h7
        · rw [List.getElem?_eq_none (by omega), List.getElem?_eq_none (by omega)]; rfl
    rcases hx with rfl | rfl
    · exact fin
    · exact fin
end
end Go.Proofs.Ytgiiedpambimoaa
