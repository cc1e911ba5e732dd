/- Lemmas for the statement. -/
import Derived.Test.YtjhcfpdgldpicaaA14
import Derived.Lib.AppendZerosOnto
namespace Go.Proofs.Ytjhcfpdgldpicaa
open Go Go.RowKit Go.Proofs
set_option linter.unusedSimpArgs false
set_option linter.unusedVariables false
def FnRow (P : Program) (f : FuncId) (args : List AV) (eT : TypeId) (k : Nat) (els : List (List AV)) : Prop :=
 ∀ (pr : Nat → Prop) (w : World) (vs : List Value), vs.length = args.length → (∀ (i : Nat) (a : AV) (x : Value), args[i]? = some a → vs[i]? = some x → R0 pr w a x) →
  Calls P f vs.toArray w fun en w' => ∃ v xs, en = .returned v ∧ Ext w w' ∧ w'.ownsRow w.heap.size eT k v els.length xs ∧ (∀ l ∈ els, l.length = k) ∧ els.flatten = xs.map AV.v
section
variable {P : Program} {e : Nat → AV} {mem : List Ob} {d : Option Tmp} {ty t : TypeId} {pos : String} {af : Array Edge} {g : Option (Nat × Bool)} {x y : Operand}
theorem nw_callrow {f : FuncId} {as : Array Operand} {ts : Array TypeId} {args : List AV} {eT : TypeId} {k : Nat} {els : List (List AV)} (hargs : evL e as.toList = args) (hro : roO.roL args = true) (hc : FnRow P f args eT k els) (hcf : ∀ args w, (callFunc f args).run P w = .ok (.enter f args) w) :
 OpNW P ⟨d, .call ⟨.value (.func f), as, ts⟩, ty, pos, af, g⟩ e mem (.row eT k els) (fun j => .own j) := by
 intro pb w0 θ w ev hs h
 have hvs : (as.toList.map (evE ev)).length = args.length := by rw [← hargs]; simp [evL]
 rw [ex_call (f := .func (.func f) #[] #[]) rfl rfl]
 refine rel_call hcf ((hc (Prot pb θ mem) w _ hvs fun i a v ha hv => ?_).mono ?_)
 ·have ha' := ha
  rw [← hargs, evL, List.getElem?_map] at ha'
  rw [List.getElem?_map] at hv
  cases hx : as.toList[i]? with
  | none => rw [hx] at hv; cases hv
  | some x =>
   rw [hx] at ha' hv
   simp at ha' hv
   subst ha' hv
   have hmem : x ∈ as := by have := List.mem_of_getElem? hx; simpa using this
   exact (h x (by simp [Op.operands, Call.operands, hmem])).ro0 (roL_get hro ha)
 ·rintro en w' ⟨v, xs, he, hx, h9, hk, hfl⟩
  refine ⟨v, he, hx, (fun b hb => (own_lt h9 hb).1), fun θ' pr k1 => ?_, fun θ' pr j hj => .own j _ hj (own_nu h9)⟩
  refine ⟨xs, h9.mono_base (Nat.zero_le _), (fun b hb => .inl (Nat.le_trans hs.ext.size (own_lt h9 hb).1)), hk, fun n a u ha hu => ?_⟩
  rw [hfl, List.getElem?_map, hu] at ha
  simp at ha
  subst ha
  exact .v _
theorem st_callrow {m : Nat} {f : FuncId} {as : Array Operand} {ts : Array TypeId} {args : List AV} {eT : TypeId} {k : Nat} {els : List (List AV)} (hl : mem.length = m) (hargs : evL e as.toList = args) (hro : roO.roL args = true) (hc : FnRow P f args eT k els) (hcf : ∀ args w, (callFunc f args).run P w = .ok (.enter f args) w) :
 OpST P ⟨d, .call ⟨.value (.func f), as, ts⟩, ty, pos, af, g⟩ e mem (.own m) (mem ++ [.row eT k els]) := nw_st (h := fun j => .own j) (nw_callrow hargs hro hc hcf) hl
def RowQ (fn : Func) (eT : TypeId) (k : Nat) (els : List (List AV)) : AQ := fun x e mem => (x = .normal ∨ x = .ret) ∧ ∃ t, fn.results = #[.tmp t] ∧ ((∃ j, e t = .own j ∧ mem[j]? = some (.row eT k els)) ∨ (e t = .v (.slice none 0 0) ∧ els = []))
theorem retRow {fn : Func} {eT : TypeId} {k : Nat} {els els' : List (List AV)} {x : Exit} {t j : Nat} (hx : x = .normal ∨ x = .ret) (hr : fn.results = #[.tmp t]) (h1 : evA e (.tmp t) = .own j) (hm : mem[j]? = some (.row eT k els')) (he : els' = els) : RowQ fn eT k els x e mem := by
 subst he; exact ⟨hx, t, hr, .inl ⟨j, h1, hm⟩⟩
def plainA (a : AV) : Bool := match a with | .v _ => true | _ => false
theorem fnRow_of {f : FuncId} {fn : Func} {c : Code} {args : List AV} {eT : TypeId} {k : Nat} {els : List (List AV)} (N : Nat) (hf : P.funcs[f]? = some fn) (hb : fn.body = some c) (hn : fn.ntmps = N) (hN : args.length ≤ N) (hpl : els.flatten.all plainA = true)
 (hA : ∀ e m, (∀ (t : Nat) (a : AV), args[t]? = some a → evA e (.tmp t) = a) → m = [] → AW .top P N c (RowQ fn eT k els) e m) : FnRow P f args eT k els := by
 subst hn
 have h := hA (ent args) [] (fun t a ha => by show args.getD t _ = a; rw [List.getD_eq_getElem?_getD, ha]; rfl) rfl
 intro pr w vs h1 h2
 refine (callsIn_wide (n := 9)).1 (callsIn_of_wp_marks hf hb trivial (wpIn_mono (h Fence.wide 9 rfl (fun b => pr b ∧ b < w.heap.size) ⟨w, fun _ => False⟩ [] { tmps := vs.toArray ++ Array.replicate (fn.ntmps - vs.toArray.size) undef, defers := [] } w ⟨?_, Mks.nil _ _ _, fun t => ?_, ?_⟩) ?_))
 ·simp; omega
 ·show R1 _ _ _ (args.getD t (.v undef)) ((vs.toArray ++ Array.replicate (fn.ntmps - vs.toArray.size) undef).getD t undef)
  by_cases ht : t < args.length
  ·have e1 : args.getD t (.v undef) = args[t] := by simp [List.getD_eq_getElem?_getD, ht]
   have ht' : t < vs.length := by omega
   have e2 : (vs.toArray ++ Array.replicate (fn.ntmps - vs.toArray.size) undef).getD t undef = vs[t] := by
    rw [Array.getD_eq_getD_getElem?, Array.getElem?_append_left (by simpa using ht')]; simp [ht']
   rw [e1, e2]
   refine .ro ((h2 t _ _ (List.getElem?_eq_getElem ht) (List.getElem?_eq_getElem ht')).mono (Nat.le_refl _) (fun _ _ _ => rfl) fun b _ hn hp => ?_)
   rcases hp with hp | ⟨j, o, v, q, _⟩
   ·exact hn hp.1
   ·simp at q
  ·have e1 : args.getD t (.v undef) = .v undef := by simp [List.getD_eq_getElem?_getD, List.getElem?_eq_none (Nat.le_of_not_lt ht)]
   have e2 : (vs.toArray ++ Array.replicate (fn.ntmps - vs.toArray.size) undef).getD t undef = undef := by
    rw [Array.getD_eq_getD_getElem?, Array.getElem?_append_right (by simp; omega), Array.getElem?_replicate]
    split <;> rfl
   rw [e1, e2]; exact .ro (.v _)
 ·exact ⟨Bel.refl w _, fun b hb => ⟨hb.2, id⟩, rfl, fun j o v hm => by simp at hm, fun i j o p v u b hm => by simp at hm⟩
 ·rintro x a w' ⟨e', mem', θ', hfit, -, hx, t, hr, hcase⟩
  have fin : LeavesInM Fence.wide 9 P fn a.tmps (fun en w' => ∃ v xs, en = .returned v ∧ Ext w w' ∧ w'.ownsRow w.heap.size eT k v els.length xs ∧ (∀ l ∈ els, l.length = k) ∧ els.flatten = xs.map AV.v) a.defers .returning w' := by
   refine leave_marks hfit.dfr fun w2 hc => ?_
   have hs2 := hfit.sim.calm hc
   have hsl := (hfit.sl t).calm hc
   rcases hcase with ⟨j, hej, hm⟩ | ⟨hej, rfl⟩
   rotate_left
   ·rw [hej] at hsl
    exact ⟨_, results_one (rv := .tmp t) hr _ rfl, _, [], rfl, hs2.ext.toExt, by rw [hsl.val]; exact World.ownsRow_nil w2 _ eT k, (fun l hl => by cases hl), rfl⟩
   rw [hej] at hsl
   have hθ := hsl.getOwn
   obtain ⟨xs, h3, hbs, h4, h5⟩ := hs2.ob j _ _ hm hθ
   refine ⟨_, results_one (rv := .tmp t) hr _ rfl, _, xs, rfl, hs2.ext.toExt, ?_, h4, ?_⟩
   ·refine ⟨h3.1, ?_⟩
    rcases h3.2 with h6 | ⟨gg, cap, cur, he, hg, rest⟩
    ·exact .inl h6
    ·have := hbs gg (by rw [he]; rfl)
     rcases this with h7 | h7
     ·exact .inr ⟨gg, cap, cur, he, h7, rest⟩
     ·exact h7.elim
   ·have hlen : els.flatten.length = xs.length := by rw [flatten_length h4, h3.1]
    refine List.ext_getElem? fun n => ?_
    rw [List.getElem?_map]
    by_cases hlt : n < xs.length
    ·rw [List.getElem?_eq_getElem hlt, List.getElem?_eq_getElem (by omega)]
     have h6 := h5 n _ _ (List.getElem?_eq_getElem (by omega : n < els.flatten.length)) (List.getElem?_eq_getElem hlt)
     have h7 := List.all_eq_true.1 hpl _ (List.getElem_mem (by omega : n < els.flatten.length))
     cases hq : els.flatten[n]'(by omega) with
     | v c => rw [hq] at h6; cases h6; rfl
     | _ => rw [hq] at h7; cases h7
    ·rw [List.getElem?_eq_none (by omega), List.getElem?_eq_none (by omega)]; rfl
  rcases hx with rfl | rfl
  ·exact fin
  ·exact fin
def OneL (mem : List Ob) (l : List AV) : Prop := ∀ a ∈ l, oneA a = true ∨ ∃ j2 T2 k2 els, a = .own j2 ∧ mem[j2]? = some (.row T2 k2 els)
theorem oneL_nil : OneL mem [] := fun a h => by cases h
theorem oneL_c {a : AV} {l : List AV} (h : oneA a = true) (t : OneL mem l) : OneL mem (a :: l) := fun b hb => by
 rcases List.mem_cons.1 hb with rfl | hb
 ·exact .inl h
 ·exact t b hb
theorem oneL_o {j2 k2 T2 : Nat} {els : List (List AV)} {l : List AV} (h : mem[j2]? = some (.row T2 k2 els)) (t : OneL mem l) : OneL mem (.own j2 :: l) := fun b hb => by
 rcases List.mem_cons.1 hb with rfl | hb
 ·exact .inr ⟨_, _, _, _, rfl, h⟩
 ·exact t b hb
theorem se_storeO {j off n : Nat} {T : TypeId} {cells l : List AV} {a : AV} (hx : evA e x = .ptr j off) (hy : evA e y = a) (hc : cellsA a = some l) (hone : OneL mem l) (hm : mem[j]? = some (.box T cells)) (hsz : (P.info? t).map (·.size) = some n) (hn : l.length = n) (ho : off + n ≤ cells.length) :
 OpSET P ⟨d, .store t x y, ty, pos, af, g⟩ e mem j (.box T (setAt cells off l)) := by
 intro pb w0 θ w ev hs h
 have h1 := h x (by simp [Op.operands])
 have h2 := h y (by simp [Op.operands])
 rw [hx] at h1; rw [hy] at h2
 obtain ⟨b, v, hθ, hbase, hp⟩ := h1.getPtr
 obtain ⟨b', xs, h3, rfl, h4, h5, h6⟩ := hs.ob j _ v hm hθ
 cases hbase
 obtain ⟨h7, h8⟩ := cellsA_ok h2 hc
 have hrun := run_store_cells (P := P) (θ := θ) (pr := Prot pb θ mem) (t := t) (off := off) (n := n) (v := evE ev y) h4 hsz (by omega) (by omega) (fun u hu => by
  obtain ⟨i, hi, rfl⟩ := List.getElem_of_mem hu
  have hil : i < l.length := by simp at hi; omega
  have h9 := h8 i l[i] ((evE ev y).cells.toList[i]) (List.getElem?_eq_getElem hil) (by simp at hi; simp [hi])
  rcases hone _ (List.getElem_mem hil) with h10 | ⟨j2, T2, k2, els, h10, h11⟩
  ·exact oneA_ok h9 h10
  ·rw [h10] at h9
   obtain ⟨zs, h12, _⟩ := hs.ob j2 _ _ h11 h9.getOwn
   obtain ⟨A, c, hval, _⟩ := own_form h12
   rw [hval]; rfl)
 have e1 : execOp (evE ev) ⟨d, .store t x y, ty, pos, af, g⟩ = (do Instr.storeAt t (evE ev x) (evE ev y); pure .skip) := rfl
 rw [e1, Sem.run_bind, hp, hrun]
 refine ⟨rfl, Step.write hs hm (by simp) hθ (below_setRow (Nat.zero_le _) _) (fun b hb hne => setRow_other w b' b _ (fun e => hne (by rw [e]; rfl))) fun pr k => ?_⟩
 have hcl : (evE ev y).cells.toList.length = n := by simp; omega
 refine ⟨b', setAt xs off (evE ev y).cells.toList, h3, rfl, setRow_heap w b' _ _ T (0, 0) h4, by rw [setAt_len _ _ _ (by omega), setAt_len _ _ _ (by omega), h5], fun i a u ha hu => ?_⟩
 rw [setAt_get _ _ _ (by omega)] at ha hu
 rw [hcl] at hu
 rw [hn] at ha
 by_cases c1 : i < off
 ·rw [if_pos c1] at ha hu
  exact k _ _ (h6 i a u ha hu)
 ·rw [if_neg c1] at ha hu
  by_cases c2 : i < off + n
  ·rw [if_pos c2] at ha hu
   exact k _ _ (h8 _ a u ha (by simpa using hu))
  ·rw [if_neg c2] at ha hu
   exact k _ _ (h6 i a u ha hu)
theorem st_storeO {j off n : Nat} {T : TypeId} {cells l : List AV} {a : AV} (hx : evA e x = .ptr j off) (hy : evA e y = a) (hc : cellsA a = some l) (hone : OneL mem l) (hm : mem[j]? = some (.box T cells)) (hsz : (P.info? t).map (·.size) = some n) (hn : l.length = n) (ho : off + n ≤ cells.length) :
 OpST P ⟨d, .store t x y, ty, pos, af, g⟩ e mem (.v undef) (mem.set j (.box T (setAt cells off l))) := set_st (se_storeO hx hy hc hone hm hsz hn ho)
theorem nw_ape {k bytes eT : Nat} {zv : Value} {els : List (List AV)} (h0 : els ≠ []) (hpl : els.flatten.all plainA = true) (ht : SlIs P t eT k bytes zv) (hk : (zv.cells.size == k && decide (0 < k) && decide (0 < bytes)) = true) (hx : evA e x = .emp) (hy : evA e y = .row k els) (hb : els.length * bytes ≤ 140737488355328) :
 OpNW P ⟨d, .call ⟨.builtin .append, #[x, y], #[t, t]⟩, ty, pos, af, g⟩ e mem (.row eT k els) (fun j => .own j) := by
 intro pb w0 θ w ev hs h
 simp only [Bool.and_eq_true, decide_eq_true_eq] at hk
 obtain ⟨⟨hks, hk0⟩, hb0⟩ := hk
 simp only [beq_iff_eq] at hks
 obtain ⟨i, hi, hz, hsz, hby⟩ := ht.info
 have h1 := h x (by simp [Op.operands, Call.operands])
 have h2 := h y (by simp [Op.operands, Call.operands])
 rw [hx] at h1; rw [hy] at h2
 generalize hv : evE ev x = v at h1
 generalize hu : evE ev y = u at h2
 have h1' : ∃ A, v = .slice A 0 0 := by
  cases h1 with | ro h1 => cases h1 with | emp A => exact ⟨A, rfl⟩
 obtain ⟨B, rfl⟩ := h1'
 obtain ⟨A, c, news, rfl, h6, h7, h8⟩ := row_rd h2.getRow
 have hfl := flatten_length h7
 have h63 : els.length ≤ 140737488355328 := by
  have := Nat.le_mul_of_pos_right els.length hb0
  omega
 rw [ex_builtin (ex_arg hv (ex_arg hu ex_arg0))]
 have hpos : 0 < els.length := List.length_pos_iff.2 h0
 obtain ⟨b, o, rfl, hrow⟩ := h6.2 hpos
 have hcells : ∀ j u, news[j]? = some u → w.cell? ((⟨b, o, none⟩ : Addr).add j) = some u := fun j u hj => by rw [Addr.add_lit]; exact hrow.2 j u hj
 have hnl : news.length = els.length * i.size := by rw [hsz]; exact h6.1
 have hA : ∃ cap, els.length ≤ cap ∧ cap = grownCap w els.length 0 eT ∧ (Builtin.append_ #[t, t] ty #[.slice B 0 0, .slice (some ⟨b, o, none⟩) els.length c]).run P w = .ok (.slice (some ⟨w.heap.size, 0, none⟩) els.length cap) (w.drew.alloc (.cells (news.toArray ++ Builtin.zeroCells zv.cells (cap - els.length)) eT)) := by
  refine ⟨grownCap w els.length 0 eT, grownCap_ge w els.length 0 eT, rfl, ?_⟩
  cases B with
  | none => exact run_append_nil (P := P) (w := w) t ty eT i zv ht.1 hi hz _ _ _ news hnl hcells hpos (by omega) (by rw [hby]; omega)
  | some B =>
   have := run_append_grow (P := P) (w := w) t ty eT i zv ht.1 hi hz B 0 0 [] (by simp) (by intro j v hj; simp at hj) ⟨b, o, none⟩ els.length c news hnl hcells (by omega) (by omega) (growslice_fits (by omega) (by rw [hby, Nat.zero_add]; exact hb))
   simpa using this
 obtain ⟨cap, hcap, hcapE, hA⟩ := hA
 have e1 : ∀ cs, (builtin .append #[t, t] ty cs [.slice B 0 0, .slice (some ⟨b, o, none⟩) els.length c].toArray).run P w = .ok (.value (.slice (some ⟨w.heap.size, 0, none⟩) els.length cap)) (w.drew.alloc (.cells (news.toArray ++ Builtin.zeroCells zv.cells (cap - els.length)) eT)) := by
  intro cs; simp only [builtin, Sem.run_bind, hA, Result.andThen_ok, Sem.run_pure]
 rw [e1]
 have hmax : cap ≤ maxLen := by rw [hcapE]; exact grownCap_le_maxLen w els.length 0 eT (by simp only [maxLen]; omega)
 have hxx : Ext w (w.drew.alloc (.cells (news.toArray ++ Builtin.zeroCells zv.cells (cap - els.length)) eT)) := (Ext.refl w).drew.alloc _
 have hnk : news.length = els.length * k := h6.1
 have h9 : (w.drew.alloc (.cells (news.toArray ++ Builtin.zeroCells zv.cells (cap - els.length)) eT)).ownsRow w.heap.size eT k (.slice (some ⟨w.heap.size, 0, none⟩) els.length cap) els.length news := by
  refine ⟨hnk, .inr ⟨w.heap.size, cap, _, rfl, Nat.le_refl _, World.alloc_heap_new w.drew _, hcap, hmax, ?_, ?_⟩⟩
  ·rw [Array.size_append, size_zeroCells, hks]
   simp only [List.size_toArray]
   rw [hnk, ← Nat.add_mul, show els.length + (cap - els.length) = cap by omega]
  ·rw [Array.toList_append]
   rw [List.take_append_of_le_length (by simp [hnk])]
   exact List.take_of_length_le (by simp [hnk])
 refine ⟨hxx, (fun b hb => (own_lt h9 hb).1), fun θ' pr k1 => ?_, fun θ' pr j hj => .own j _ hj (own_nu h9)⟩
 refine ⟨news, h9.mono_base (Nat.zero_le _), (fun b hb => .inl (Nat.le_trans hs.ext.size (own_lt h9 hb).1)), h7, fun n a u ha hu => ?_⟩
 have := k1 a u (.ro (h8 n a u ha hu))
 refine this.ro0 ?_
 have hpa := List.all_eq_true.1 hpl a (List.mem_of_getElem? ha)
 cases a with
 | v c => rfl
 | _ => cases hpa
theorem st_ape {m k bytes eT : Nat} {zv : Value} {els : List (List AV)} (h0 : els ≠ []) (hpl : els.flatten.all plainA = true) (hl : mem.length = m) (ht : SlIs P t eT k bytes zv) (hk : (zv.cells.size == k && decide (0 < k) && decide (0 < bytes)) = true) (hx : evA e x = .emp) (hy : evA e y = .row k els) (hb : els.length * bytes ≤ 140737488355328) :
 OpST P ⟨d, .call ⟨.builtin .append, #[x, y], #[t, t]⟩, ty, pos, af, g⟩ e mem (.own m) (mem ++ [.row eT k els]) := nw_st (h := fun j => .own j) (nw_ape h0 hpl ht hk hx hy hb) hl
end
end Go.Proofs.Ytjhcfpdgldpicaa
