/- Lemmas for the statement. -/
import Derived.Test.YtjhcfpdgldpicaaA46
namespace Go.Proofs.Ytjhcfpdgldpicaa
open Go Go.RowKit Go.Proofs
set_option linter.unusedSimpArgs false
set_option linter.unusedVariables false
section
variable {P : Program} {e : Nat → AV} {mem : List Ob} {d : Option Tmp} {ty t t2 : TypeId} {pos : String} {af : Array Edge} {g : Option (Nat × Bool)} {x y z : Operand}
def oneH : AV → Bool
 | .own _ => true
 | a => oneA a
theorem oneH_ok {θ : List Value} {pr : Nat → Prop} {w : World} {a : AV} {x : Value} (h : R1 θ pr w a x) (ha : oneH a = true) : x.oneCell' = true := by
 cases a with
 | own j =>
  cases h with
  | ro h => cases h
  | own _ _ _ h0 => cases x <;> simp [isSl] at h0; rfl
 | _ => exact oneA_ok h ha
theorem ro_indexAddr_H {j : Nat} {els : List (List AV)} {k : Nat} {eT T : TypeId} {i : Int} {row : Bool} {kk : IntKind} (hx : evA e x = .own j) (hm : mem[j]? = some (.rowH T k els)) (hy : evA e y = .v (.int kk i)) (hu : P.underlying t = some (.slice eT)) (ht : TyIs P eT row k) (h0 : 0 ≤ i) (h1 : i < els.length) :
 OpRO P ⟨d, .indexAddr t x y, ty, pos, af, g⟩ e mem (.ptr j (i.toNat * k)) := by
 intro pb w0 θ w ev hs h
 have h1' := h x (by simp [Op.operands])
 have h2' := h y (by simp [Op.operands])
 rw [hx] at h1'; rw [hy] at h2'
 generalize hv : evE ev x = p at h1'
 have hθ := h1'.getOwn
 obtain ⟨xs, h3, _, h4, h5⟩ := hs.ob j _ p hm hθ
 rcases h3.2 with ⟨rfl, hn⟩ | ⟨gg, cap, cur, rfl, _⟩
 ·omega
 ·rw [ex_indexAddr hv h2'.val, Sem.run_bind, run_indexAt hu ht h0 h1, Nat.zero_add]
  exact ⟨.ptr j _ gg _ hθ rfl, Ext.refl w⟩
theorem ro_len_H {j : Nat} {els : List (List AV)} {k : Nat} {eT T : TypeId} {ts : Array TypeId} (hx : evA e x = .own j) (hm : mem[j]? = some (.rowH T k els)) (hts : ts[0]? = some t) (hu : P.underlying t = some (.slice eT)) : OpRO P ⟨d, .call ⟨.builtin .len, #[x], ts⟩, ty, pos, af, g⟩ e mem (.v (.int .i64 els.length)) := by
 intro pb w0 θ w ev hs h
 have h1' := h x (by simp [Op.operands, Call.operands])
 rw [hx] at h1'
 generalize hv : evE ev x = p at h1'
 have hθ := h1'.getOwn
 obtain ⟨xs, h3, _, h4, h5⟩ := hs.ob j _ p hm hθ
 obtain ⟨A, c, rfl, hc⟩ := own_form h3
 rw [ex_builtin (ex_arg hv ex_arg0)]
 simp [builtin, Builtin.len_, hts, run_underlying hu, goInt]; exact ⟨.ro (.v _), Ext.refl w⟩
theorem ro_load_elH {j i n k off o : Nat} {row : Bool} {T : TypeId} {els : List (List AV)} {el : List AV} (hx : evA e x = .ptr j off) (hm : mem[j]? = some (.rowH T k els)) (ho : off = i * k + o) (hel : els[i]? = some el) (ht : TyIs P t row n) (hn : o + n ≤ k) (h1 : row = true ∨ n = 1) :
 OpRO P ⟨d, .load t x, ty, pos, af, g⟩ e mem (packA row n (el.drop o)) := by
 intro pb w0 θ w ev hs h
 have h1' := h x (by simp [Op.operands])
 rw [hx] at h1'
 generalize hv : evE ev x = p at h1'
 obtain ⟨b, v, hθ, hbase, rfl⟩ := h1'.getPtr
 obtain ⟨xs, h3, _, h4, h5⟩ := hs.ob j _ v hm hθ
 have hk := h4 el (List.mem_of_getElem? hel)
 have hlen : xs.length = els.length * k := h3.1
 have hi : i < els.length := (List.getElem?_eq_some_iff.1 hel).1
 have hle : (i + 1) * k ≤ els.length * k := Nat.mul_le_mul_right k hi
 rw [Nat.succ_mul] at hle
 obtain ⟨v, h2, h3⟩ := run_load_cells (P := P) (t := t) (θ := θ) (pr := Prot pb θ mem) (w := w) (b := b) (o := off) (cells := el.drop o) (f := fun q => xs.getD (i * k + (o + q)) undef) ht (by simp; omega) h1
  (fun q hq => by
   subst ho
   rw [List.length_drop] at hq
   have hlt : i * k + (o + q) < xs.length := by omega
   rw [Nat.add_assoc]
   exact own_cells h3 hbase _ _ (by simp [hlt, List.getD_eq_getElem?_getD]))
  (fun q a ha => by
   rw [List.getElem?_drop] at ha
   have hq := (List.getElem?_eq_some_iff.1 ha).1
   have hlt : i * k + (o + q) < xs.length := by omega
   exact h5 (i * k + (o + q)) a _ (by rw [flat_get h4 hel (by omega)]; exact ha) (by simp [hlt, List.getD_eq_getElem?_getD]))
 rw [ex_load hv, Sem.run_bind, h2]
 exact ⟨h3, Ext.refl w⟩
theorem nw_litH {ps : Array (Nat × Operand)} {pl : List (Nat × AV)} {n k bytes eT : Nat} {zv : Value} {els : List (List AV)} (ht : SlIs P t eT k bytes zv) (hps : evP e ps.toList = pl) (hn : pl.length = n) (hsm : (decide (n * k ≤ 2 ^ 24) && decide (0 < n * k)) = true) (hel : litA k 0 pl = some els) :
 OpNW P ⟨d, .buildSlice t n ps, ty, pos, af, g⟩ e mem (.rowH eT k els) (fun j => .own j) := by
 obtain ⟨ie, hie, hz, hk, _⟩ := ht.info
 simp only [Bool.and_eq_true, decide_eq_true_eq] at hsm
 intro pb w0 θ w ev hs h
 subst hps
 have hpl : ps.toList.length = n := by rw [← hn]; simp [evP]
 obtain ⟨cs', h1, h2, h3, h4⟩ := fill_lit (θ := θ) (pr := Prot pb θ mem) (w := w) (ev := ev) (k := k) (n := 0) (cs := (Array.range (n * k)).map (zv.cells[· % zv.cells.size]!)) (fun q hq => h q.2 (by
  simp only [Op.operands, List.mem_toArray, List.mem_map]; exact ⟨q, hq, rfl⟩)) (by rw [Nat.zero_add, hpl]; simp) hel
 have hrun := run_buildSlice (P := P) w t eT n (ps.map fun (i, x) => (i, evE ev x)) cs' ie zv ht.1 hie hz (by rw [hk]; omega) (by rw [hk]; omega) (by
  rw [hk, parts_map]; simpa using h1)
 have e1 : execOp (evE ev) ⟨d, .buildSlice t n ps, ty, pos, af, g⟩ = (do pure (.value (← Instr.buildSlice t n (ps.map fun (i, x) => (i, evE ev x))))) := rfl
 rw [e1, Sem.run_bind, hrun]
 obtain ⟨hl1, hl2⟩ := litA_len hel
 have hlen : els.length = n := by rw [hl1]; exact hn
 have hfl := flatten_length hl2
 have hsz : cs'.size = n * k := by rw [h2]; simp
 have hmax : n ≤ maxLen := by
  have : 0 < k := Nat.pos_of_ne_zero (fun h => by rw [h] at hsm; simp at hsm)
  have := Nat.le_mul_of_pos_right n this
  simp only [maxLen]; omega
 refine ⟨(Ext.refl w).alloc _, (fun b hb => by have hb' : some w.heap.size = some b := hb; cases hb'; exact Nat.le_refl _), fun θ' pr k1 => ?_, fun θ' pr j hj => .own j _ hj rfl⟩
 refine ⟨cs'.toList, by rw [hlen]; exact World.ownsRow_lit w cs' n (Nat.zero_le _) hmax hsz, (fun b hb => by have hb' : some w.heap.size = some b := hb; cases hb'; exact .inl hs.base), hl2, fun i a u ha hu => ?_⟩
 have := h4 i a u ha (by rw [Nat.zero_mul, Nat.zero_add]; exact hu)
 exact k1 a u this
theorem se_store_elH {j i off o n k : Nat} {T : TypeId} {els : List (List AV)} {el l : List AV} {a : AV} (hx : evA e x = .ptr j off) (hy : evA e y = a) (hc : cellsA a = some l) (hone : l.all oneH = true) (hm : mem[j]? = some (.rowH T k els)) (hoff : off = i * k + o)
 (hel : els[i]? = some el) (hsz : (P.info? t).map (·.size) = some n) (hn : l.length = n) (ho : o + n ≤ k) :
 OpSET P ⟨d, .store t x y, ty, pos, af, g⟩ e mem j (.rowH T k (els.set i (setAt el o l))) := by
 intro pb w0 θ w ev hs h
 have h1 := h x (by simp [Op.operands])
 have h2 := h y (by simp [Op.operands])
 rw [hx] at h1; rw [hy] at h2
 obtain ⟨b, v, hθ, hbase, hp⟩ := h1.getPtr
 obtain ⟨xs, h3, hbs, h4, h5⟩ := hs.ob j _ v hm hθ
 have hi : i < els.length := (List.getElem?_eq_some_iff.1 hel).1
 have hkl := h4 el (List.mem_of_getElem? hel)
 rcases h3.2 with ⟨rfl, hn0⟩ | ⟨gg, cap, cur, rfl, hgb, hh, hcap, hmax, hcs, htake⟩
 ·omega
 cases hbase
 obtain ⟨h7, h8⟩ := cellsA_ok h2 hc
 have hle : (i + 1) * k ≤ els.length * k := Nat.mul_le_mul_right k hi
 rw [Nat.succ_mul] at hle
 have hle2 : els.length * k ≤ cap * k := Nat.mul_le_mul_right k hcap
 have hcur : cur.toList.length = cap * k := by simpa using hcs
 have hrun := run_store_cells (P := P) (θ := θ) (pr := Prot pb θ mem) (t := t) (off := off) (n := n) (v := evE ev y) (cur := cur.toList) (by simpa using hh) hsz (by omega) (by omega) (fun u hu => by
  obtain ⟨q, hq, rfl⟩ := List.getElem_of_mem hu
  have hil : q < l.length := by simp at hq; omega
  exact oneH_ok (h8 q l[q] _ (List.getElem?_eq_getElem hil) (by simp at hq; simp [hq])) (List.all_eq_true.1 hone _ (List.getElem_mem hil)))
 have e1 : execOp (evE ev) ⟨d, .store t x y, ty, pos, af, g⟩ = (do Instr.storeAt t (evE ev x) (evE ev y); pure .skip) := rfl
 rw [e1, Sem.run_bind, hp, hrun]
 have hcl : (evE ev y).cells.toList.length = n := by simp; omega
 have hset : (setAt el o l).length = k := by simp [setAt]; omega
 refine ⟨rfl, Step.write hs hm (by simp) hθ (below_setRow (Nat.zero_le _) _) (fun b hb hne => setRow_other w gg b _ (fun e => hne (by rw [e]; rfl))) fun pr kp => ?_⟩
 have hxs : xs.length = els.length * k := h3.1
 refine ⟨setAt xs off (evE ev y).cells.toList, ⟨?_, .inr ⟨gg, cap, (setAt cur.toList off (evE ev y).cells.toList).toArray, by simp, hgb, setRow_heap w gg cur _ T (0, 0) hh, by simpa using hcap, hmax, ?_, ?_⟩⟩, hbs, ?_, fun q a u ha hu => ?_⟩
 ·rw [setAt_len _ _ _ (by omega), List.length_set]; exact hxs
 ·rw [List.size_toArray, setAt_len _ _ _ (by omega), hcur]
 ·simp only [List.length_set]
  rw [← htake]
  apply List.ext_getElem?
  intro q
  rw [setAt_get _ _ _ (by simp; omega)]
  by_cases hq : q < els.length * k
  ·rw [List.getElem?_take_of_lt hq, setAt_get _ _ _ (by omega), List.getElem?_take_of_lt hq]
  ·rw [List.getElem?_eq_none (by simp; omega), if_neg (by omega), if_neg (by omega), List.getElem?_eq_none (by simp; omega)]
 ·intro l' hl'
  rcases List.mem_or_eq_of_mem_set hl' with h | rfl
  ·exact h4 l' h
  ·exact hset
 ·rw [flatten_set h4 hset hi] at ha
  have hfl := flatten_length h4
  have r0 : ∀ {a : AV} {u : Value}, R0 (Prot pb θ mem) w a u → R0 pr (w.setRow gg (setAt cur.toList off (evE ev y).cells.toList).toArray) a u := by
   intro a u hr
   cases hz : roO a with
   | true => exact (kp a u (.ro hr)).ro0 hz
   | false =>
    exfalso
    rw [ro_of_R0 hr] at hz; cases hz
  rw [setAt_get _ _ _ (by omega), hcl] at hu
  by_cases c1 : q < i * k
  ·rw [List.append_assoc, List.getElem?_append_left (by simp only [List.length_take, hfl]; omega), List.getElem?_take_of_lt c1] at ha
   rw [if_pos (by omega)] at hu
   exact kp _ _ (h5 q a u ha hu)
  ·by_cases c2 : q < i * k + k
   ·have ht : (els.flatten.take (i * k)).length = i * k := by simp only [List.length_take, hfl]; omega
    rw [List.append_assoc, List.getElem?_append_right (by omega), List.getElem?_append_left (by omega), ht, setAt_get _ _ _ (by omega), hn] at ha
    have old : ∀ {a : AV} {u : Value}, el[q - i * k]? = some a → xs[q]? = some u → R1 θ (Prot pb θ mem) w a u := fun h1 h2 => h5 q _ _ (by
     have := flat_get (i := i) (j := q - i * k) h4 hel (by omega)
     rw [show i * k + (q - i * k) = q by omega] at this
     rw [this]; exact h1) h2
    by_cases d1 : q - i * k < o
    ·rw [if_pos d1] at ha
     rw [if_pos (by omega)] at hu
     exact kp _ _ (old ha hu)
    ·rw [if_neg d1] at ha
     rw [if_neg (by omega)] at hu
     by_cases d2 : q - i * k < o + n
     ·rw [if_pos d2] at ha
      rw [if_pos (by omega)] at hu
      have e3 : q - off = q - i * k - o := by omega
      rw [e3] at hu
      exact kp a u (h8 _ a u ha (by simpa using hu))
     ·rw [if_neg d2] at ha
      rw [if_neg (by omega)] at hu
      exact kp _ _ (old ha hu)
   ·rw [List.getElem?_append_right (by simp only [List.length_append, List.length_take, hset, hfl]; omega), List.getElem?_drop] at ha
    have e4 : i * k + k + (q - (els.flatten.take (i * k) ++ setAt el o l).length) = q := by
     simp only [List.length_append, List.length_take, hset, hfl]; omega
    rw [e4] at ha
    rw [if_neg (by omega), if_neg (by omega)] at hu
    exact kp _ _ (h5 q a u ha hu)
theorem sw_appendH {j j2 k bytes : Nat} {eT eT2 : TypeId} {i : TypeInfo} {z : Value} {els els2 : List (List AV)} (hx : evA e x = .own j) (hm : mem[j]? = some (.rowH eT k els)) (hy : evA e y = .own j2) (hm2 : mem[j2]? = some (.rowH eT2 k els2)) (hone : els2.flatten.all oneH = true)
 (ht : P.underlying t = some (.slice eT)) (hi : P.info? eT = some i) (hz : i.zero = some z) (hsz : i.size = k) (hby : i.bytes = bytes) (hzs : z.cells.size = k) (hk0 : 0 < k) (hb0 : 0 < bytes) (hbytes : (els.length + els2.length) * bytes ≤ 140737488355328) :
 OpSW P ⟨d, .call ⟨.builtin .append, #[x, y], #[t, t]⟩, ty, pos, af, g⟩ e mem j (.rowH eT k (els ++ els2)) (fun j => .own j) := by
 intro pb w0 θ w ev hs h
 have h1 := h x (by simp [Op.operands, Call.operands])
 have h2 := h y (by simp [Op.operands, Call.operands])
 rw [hx] at h1; rw [hy] at h2
 generalize hv : evE ev x = v at h1
 generalize hu : evE ev y = u at h2
 have hθ := h1.getOwn
 obtain ⟨xs, h3, hbs, h4, h5⟩ := hs.ob j _ v hm hθ
 obtain ⟨news, g3, _, h7, h8⟩ := hs.ob j2 _ u hm2 h2.getOwn
 obtain ⟨A, c, rfl, _⟩ := own_form g3
 have h6 := Rd.of_own g3
 have h63 : els.length + els2.length ≤ maxLen := by
  have := Nat.le_mul_of_pos_right (els.length + els2.length) hb0
  simp only [maxLen]; omega
 have hfl2 := flatten_length h7
 obtain ⟨v', w', hrun, h9, h10, h11⟩ := run_append_rd (P := P) t ty i z bytes ht hi hz hsz hby hzs hk0 h3 A els2.length c news h6 (fun q hq => by
  obtain ⟨n, hn, rfl⟩ := List.getElem_of_mem hq
  have hn2 : n < els2.flatten.length := by rw [hfl2, ← h6.1]; exact hn
  exact oneH_ok (h8 n _ _ (List.getElem?_eq_getElem hn2) (List.getElem?_eq_getElem hn)) (List.all_eq_true.1 hone _ (List.getElem_mem hn2))) h63 hbytes (Nat.zero_le _)
 rw [ex_builtin (ex_arg hv (ex_arg hu ex_arg0))]
 have e1 : ∀ cs, (builtin .append #[t, t] ty cs [v, .slice A els2.length c].toArray).run P w = .ok (.value v') w' := by
  intro cs; simp only [builtin, Sem.run_bind, hrun, Result.andThen_ok, Sem.run_pure]
 rw [e1]
 have hbase : ∀ q : Value, q.ownBlock = baseOf q ∨ ∃ a, q = .pointer a := fun q => by
  cases q with
  | slice A n c => cases A <;> exact .inl rfl
  | pointer a => exact .inr ⟨_, rfl⟩
  | _ => exact .inl rfl
 have hbv : v.ownBlock = baseOf v := (hbase v).resolve_right (fun ⟨a, e⟩ => by
  obtain ⟨A, c, hv', _⟩ := own_form h3; rw [hv'] at e; cases e)
 have hbv' : v'.ownBlock = baseOf v' := (hbase v').resolve_right (fun ⟨a, e⟩ => by
  obtain ⟨A, c, hv', _⟩ := own_form h9; rw [hv'] at e; cases e)
 rw [hbv, hbv'] at h11
 refine ⟨_, _, hm, by simp, hθ, (Below.refl 0 _).grown h10 (Nat.zero_le _) (fun q hq => Nat.zero_le _), (fun b hb hne => h10.block b hb (fun e => hne (by rw [← hbv, ← e]))), ?_, fun θ' pr k1 k0 => ?_, fun θ' pr j hj => .own _ _ hj (own_nu h9)⟩
 ·rcases h11 with h | h
  ·exact .inl h
  ·exact .inr fun b hb => by rw [h] at hb; cases hb; exact Nat.le_refl _
 ·refine ⟨xs ++ news, by rw [List.length_append]; exact h9, (fun b hb => by
   rcases h11 with h | h
   ·rw [h] at hb; exact hbs b hb
   ·rw [h] at hb; cases hb; exact .inl hs.base), fun l hl => ?_, fun n a u ha hu => ?_⟩
  ·rcases List.mem_append.1 hl with h | h
   ·exact h4 l h
   ·exact h7 l h
  ·rw [List.flatten_append] at ha
   have hfl := flatten_length h4
   have hxl : xs.length = els.length * k := h3.1
   rcases Nat.lt_or_ge n els.flatten.length with hn | hn
   ·rw [List.getElem?_append_left hn] at ha
    rw [List.getElem?_append_left (by omega)] at hu
    exact k1 a u (h5 n a u ha hu)
   ·rw [List.getElem?_append_right hn] at ha
    rw [List.getElem?_append_right (by omega), hxl, ← hfl] at hu
    exact k1 a u (h8 _ a u ha hu)
end
end Go.Proofs.Ytjhcfpdgldpicaa
