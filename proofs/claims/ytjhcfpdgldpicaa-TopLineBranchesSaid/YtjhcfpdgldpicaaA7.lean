/- Lemmas for the statement. -/
import Derived.Test.YtjhcfpdgldpicaaA6
import Derived.Test.YtjhcfpdgldpicaaA3
namespace Go.Proofs.Ytjhcfpdgldpicaa
open Go Go.RowKit
set_option linter.unusedVariables false
set_option linter.unusedSimpArgs false
section
variable {P : Program} {e : Nat → AV} {mem : List Ob} {d : Option Tmp} {ty t t2 : TypeId} {pos : String} {af : Array Edge} {g : Option (Nat × Bool)} {x y z : Operand}
theorem row_rd {pr : Nat → Prop} {w : World} {k : Nat} {els : List (List AV)} {v : Value} (h : R0 pr w (.row k els) v) : ∃ (A : Option Addr) (c : Nat) (news : List Value), v = .slice A els.length c ∧ Rd w k A els.length news ∧ (∀ l ∈ els, l.length = k) ∧ ∀ (i : Nat) (a : AV) (u : Value), els.flatten[i]? = some a → news[i]? = some u → R0 pr w a u := by
 cases h with
 | nil k c A => exact ⟨A, c, [], rfl, Rd.nil w k A, by simp, fun i a u h => by simp at h⟩
 | row _ _ b o c f hne hc hk hb hp hcell hr =>
  have hfl := flatten_length hk
  refine ⟨_, c, (List.range els.flatten.length).map f, rfl, ⟨by simp only [List.length_map, List.length_range]; exact hfl, fun _ => ⟨b, o, rfl, hb, fun j u hu => ?_⟩⟩, hk, fun i a u ha hu => ?_⟩
  ·have hj : j < els.flatten.length := by have := (List.getElem?_eq_some_iff.1 hu).1; simpa using this
   rw [List.getElem?_map, List.getElem?_range hj] at hu
   simp at hu; subst hu
   exact hcell j _ (List.getElem?_eq_getElem hj)
  ·have hj : i < els.flatten.length := (List.getElem?_eq_some_iff.1 ha).1
   rw [List.getElem?_map, List.getElem?_range hj] at hu
   simp at hu; subst hu
   exact hr i a ha
theorem own_nu {w : World} {base n k : Nat} {eT : TypeId} {v : Value} {xs : List Value} (h : w.ownsRow base eT k v n xs) : isSl v = true := by
 obtain ⟨A, c, rfl, _⟩ := own_form h
 rfl
theorem sw_append {j k bytes : Nat} {eT : TypeId} {i : TypeInfo} {z : Value} {els els2 : List (List AV)} (hx : evA e x = .own j) (hm : mem[j]? = some (.row eT k els)) (hy : evA e y = .row k els2) (hone : els2.flatten.all oneA = true)
 (ht : P.underlying t = some (.slice eT)) (hi : P.info? eT = some i) (hz : i.zero = some z) (hsz : i.size = k) (hby : i.bytes = bytes) (hzs : z.cells.size = k) (hk0 : 0 < k) (hb0 : 0 < bytes) (hbytes : (els.length + els2.length) * bytes ≤ 140737488355328) :
 OpSW P ⟨d, .call ⟨.builtin .append, #[x, y], #[t, t]⟩, ty, pos, af, g⟩ e mem j (.row eT k (els ++ els2)) (fun j => .own j) := by
 intro pb w0 θ w ev hs h
 have h1 := h x (by simp [Op.operands, Call.operands])
 have h2 := h y (by simp [Op.operands, Call.operands])
 rw [hx] at h1; rw [hy] at h2
 generalize hv : evE ev x = v at h1
 generalize hu : evE ev y = u at h2
 have hθ := h1.getOwn
 obtain ⟨xs, h3, hbs, h4, h5⟩ := hs.ob j _ v hm hθ
 obtain ⟨A, c, news, rfl, h6, h7, h8⟩ := row_rd h2.getRow
 have h63 : els.length + els2.length ≤ maxLen := by
  have := Nat.le_mul_of_pos_right (els.length + els2.length) hb0
  simp only [maxLen]; omega
 have hfl2 := flatten_length h7
 obtain ⟨v', w', hrun, h9, h10, h11⟩ := run_append_rd (P := P) t ty i z bytes ht hi hz hsz hby hzs hk0 h3 A els2.length c news h6 (fun q hq => by
  obtain ⟨n, hn, rfl⟩ := List.getElem_of_mem hq
  have hn2 : n < els2.flatten.length := by rw [hfl2, ← h6.1]; exact hn
  exact oneA_ok (θ := θ) (.ro (h8 n _ _ (List.getElem?_eq_getElem hn2) (List.getElem?_eq_getElem hn))) (List.all_eq_true.1 hone _ (List.getElem_mem hn2))) h63 hbytes (Nat.zero_le _)
 rw [ex_builtin (ex_arg hv (ex_arg hu ex_arg0))]
 have e1 : ∀ cs, (builtin .append #[t, t] ty cs [v, .slice A els2.length c].toArray).run P w = .ok (.value v') w' := by
  intro cs; simp only [builtin, Sem.run_bind, hrun, Result.andThen_ok, Sem.run_pure]
 rw [e1]
 have hbase : ∀ q : Value, q.ownBlock = baseOf q ∨ ∃ a, q = .pointer a := fun q => by
  cases q with
  | slice A n c => cases A <;> exact .inl rfl
  | pointer a => exact .inr ⟨_, rfl⟩
  | _ => exact .inl rfl
 have hbv : v.ownBlock = baseOf v := (hbase v).resolve_right (fun ⟨a, e⟩ => by
  obtain ⟨A, c, hv', _⟩ := own_form h3; rw [hv'] at e; cases e)
 have hbv' : v'.ownBlock = baseOf v' := (hbase v').resolve_right (fun ⟨a, e⟩ => by
  obtain ⟨A, c, hv', _⟩ := own_form h9; rw [hv'] at e; cases e)
 rw [hbv, hbv'] at h11
 refine ⟨_, _, hm, by simp, hθ, (Below.refl 0 _).grown h10 (Nat.zero_le _) (fun q hq => Nat.zero_le _), (fun b hb hne => h10.block b hb (fun e => hne (by rw [← hbv, ← e]))), ?_, fun θ' pr k1 k0 => ?_, fun θ' pr j hj => .own _ _ hj (own_nu h9)⟩
 ·rcases h11 with h | h
  ·exact .inl h
  ·exact .inr fun b hb => by rw [h] at hb; cases hb; exact Nat.le_refl _
 ·refine ⟨xs ++ news, by rw [List.length_append]; exact h9, (fun b hb => by
   rcases h11 with h | h
   ·rw [h] at hb; exact hbs b hb
   ·rw [h] at hb; cases hb; exact .inl hs.base), fun l hl => ?_, fun n a u ha hu => ?_⟩
  ·rcases List.mem_append.1 hl with h | h
   ·exact h4 l h
   ·exact h7 l h
  ·rw [List.flatten_append] at ha
   have hfl := flatten_length h4
   have hxl : xs.length = els.length * k := h3.1
   rcases Nat.lt_or_ge n els.flatten.length with hn | hn
   ·rw [List.getElem?_append_left hn] at ha
    rw [List.getElem?_append_left (by omega)] at hu
    exact k0 a u (h5 n a u ha hu)
   ·rw [List.getElem?_append_right hn] at ha
    rw [List.getElem?_append_right (by omega), hxl, ← hfl] at hu
    exact k0 a u (h8 _ a u ha hu)
theorem flatten_replicate_get {zs : List AV} {n i : Nat} (h : i < n * zs.length) : (List.replicate n zs).flatten[i]? = zs[i % zs.length]? := by
 have hz : 0 < zs.length := by
  rcases Nat.eq_zero_or_pos zs.length with h0 | h0
  ·rw [h0] at h; omega
  ·exact h0
 have hi : i / zs.length < n := (Nat.div_lt_iff_lt_mul hz).2 h
 have h1 : i = i / zs.length * zs.length + i % zs.length := by rw [Nat.mul_comm]; exact (Nat.div_add_mod i zs.length).symm
 have := flat_get (els := List.replicate n zs) (i := i / zs.length) (j := i % zs.length) (el := zs) (k := zs.length) (fun l hl => by rw [List.eq_of_mem_replicate hl]) (by rw [List.getElem?_replicate]; simp [hi]) (Nat.mod_lt _ hz)
 rwa [← h1] at this
theorem nw_make {k bytes : Nat} {eT : TypeId} {i : TypeInfo} {zv : Value} {zs : List AV} {n : Int} {kl : IntKind} (hx : evA e x = .v (.int kl n)) (hy : evA e y = .v (.int kl n)) (h0 : 0 ≤ n)
 (ht : P.underlying t = some (.slice eT)) (hi : P.info? eT = some i) (hz : i.zero = some zv) (hsz : i.size = k) (hby : i.bytes = bytes) (hzs : zv.cells.toList.map AV.v = zs) (hzl : zv.cells.size = k) (hb0 : 0 < bytes) (hbytes : bytes * n.toNat ≤ 281474976710656) :
 OpNW P ⟨d, .makeSlice t x y, ty, pos, af, g⟩ e mem (.row eT k (List.replicate n.toNat zs)) (fun j => .own j) := by
 intro pb w0 θ w ev hs h
 have h1 := h x (by simp [Op.operands])
 have h2 := h y (by simp [Op.operands])
 rw [hx] at h1; rw [hy] at h2
 have hn : ((n.toNat : Nat) : Int) = n := Int.toNat_of_nonneg h0
 have h63 : n.toNat ≤ maxLen := by
  have := Nat.le_mul_of_pos_left n.toNat hb0
  simp only [maxLen]; omega
 obtain ⟨w', hrun, h9, h10⟩ := run_make_full (P := P) w w.heap.size t eT i zv k ht hi hz hsz kl kl n.toNat (by rw [hby]; exact hbytes) h63 (Nat.le_refl _)
 rw [hn] at hrun
 have e1 : execOp (evE ev) ⟨d, .makeSlice t x y, ty, pos, af, g⟩ = (do pure (.value (← Instr.makeSlice t (evE ev x) (evE ev y)))) := rfl
 rw [e1, Sem.run_bind, h1.val, h2.val, hrun]
 have hzl2 : zs.length = k := by rw [← hzs]; simp [hzl]
 refine ⟨(Below.refl _ _).grown h10 (Nat.le_refl _) fun q hq => (by cases hq), (fun b hb => by have hb' : some w.heap.size = some b := hb; cases hb'; exact Nat.le_refl _), fun θ' pr k1 => ?_, fun θ' pr j hj => .own j _ hj (own_nu h9)⟩
 refine ⟨_, by rw [List.length_replicate]; exact h9.mono_base (Nat.zero_le _), (fun b hb => .inl (Nat.le_trans hs.base (own_lt h9 hb).1)), fun l hl => by rw [List.eq_of_mem_replicate hl]; exact hzl2, fun q a u ha hu => ?_⟩
 have hq : q < n.toNat * zs.length := by
  have := (List.getElem?_eq_some_iff.1 ha).1
  rwa [flatten_length (k := zs.length) (fun l hl => by rw [List.eq_of_mem_replicate hl]), List.length_replicate] at this
 rw [flatten_replicate_get hq] at ha
 have hk0 : 0 < k := by
  rcases Nat.eq_zero_or_pos k with h | h
  ·rw [hzl2, h] at hq; omega
  ·exact h
 simp only [madeCells, Array.toList_map, List.getElem?_map, Array.toList_range] at hu
 rw [List.getElem?_range (by rw [← hzl2]; exact hq)] at hu
 simp only [Option.map_some, Option.some.injEq] at hu
 have hlt : q % k < zv.cells.size := by rw [hzl]; exact Nat.mod_lt _ hk0
 rw [hzl2, ← hzs, List.getElem?_map, List.getElem?_eq_getElem (by simpa using hlt)] at ha
 simp only [Option.map_some, Option.some.injEq] at ha
 have : u = zv.cells[q % k] := by
  rw [← hu, hzl, getElem!_pos zv.cells (q % k) hlt]
 subst ha
 rw [this]
 simp only [Array.getElem_toList]
 exact .v _
def evP (e : Nat → AV) (ps : List (Nat × Operand)) : List (Nat × AV) := ps.map fun q => (q.1, evA e q.2)
theorem evP_nil : evP e [] = [] := rfl
theorem evP_cons {i : Nat} {ps : List (Nat × Operand)} {a : AV} {l : List (Nat × AV)} (h : evA e x = a) (h2 : evP e ps = l) : evP e ((i, x) :: ps) = (i, a) :: l := by subst h; subst h2; rfl
theorem fold_setAt : ∀ (vs : List Value) (cs : Array Value) (off k : Nat), off + k + vs.length ≤ cs.size → ((vs.zipIdx k).foldl (fun cs (c, j) => cs.setIfInBounds (off + j) c) cs).toList = setAt cs.toList (off + k) vs
 | [], cs, off, k, h => by simp [setAt]
 | v :: vs, cs, off, k, h => by
  simp only [List.zipIdx_cons, List.foldl_cons]
  rw [fold_setAt vs _ off (k + 1) (by simp at h ⊢; omega)]
  apply List.ext_getElem?
  intro q
  rw [setAt_get _ _ _ (by simp at h ⊢; omega), setAt_get _ _ _ (by simp at h ⊢; omega)]
  simp only [Array.toList_setIfInBounds, List.getElem?_set, List.length_cons]
  by_cases h1 : q < off + k
  ·rw [if_pos (by omega), if_pos h1, if_neg (by omega)]
  ·by_cases h2 : q = off + k
   ·subst h2
    rw [if_pos (by omega), if_pos rfl, if_pos (by simp at h; simp; omega), if_neg (by omega), if_pos (by omega)]; simp
   ·by_cases h3 : q < off + k + (vs.length + 1)
    ·rw [if_neg (by omega), if_pos (by omega), if_neg h1, if_pos h3, show q - (off + k) = (q - (off + (k + 1))) + 1 by omega, List.getElem?_cons_succ]
    ·rw [if_neg (by omega), if_neg (by omega), if_neg (by omega), if_neg h1, if_neg h3]
theorem fold_arr (cs : Array Value) (v : Array Value) (off : Nat) (h : off + v.size ≤ cs.size) : (v.zipIdx.foldl (fun cs (c, j) => cs.setIfInBounds (off + j) c) cs).toList = setAt cs.toList off v.toList := by
 have := fold_setAt v.toList cs off 0 (by simpa using h)
 rw [Nat.add_zero] at this
 rw [← this, ← Array.foldl_toList]
 simp
theorem fill_ok {θ : List Value} {pr : Nat → Prop} {w : World} {ev : Nat → Value} {place : Nat → Option (Nat × Nat)} : ∀ {ps : List (Nat × Operand)} {cs : Array Value} {l l' : List AV}, (∀ q ∈ ps, R1 θ pr w (evA e q.2) (evE ev q.2)) → cs.size = l.length → (∀ (i : Nat) (a : AV) (u : Value), l[i]? = some a → cs.toList[i]? = some u → R1 θ pr w a u) →
 fillA place l (evP e ps) = some l' → ∃ cs', Instr.fill place cs (ps.map fun (i, x) => (i, evE ev x)) = some cs' ∧ cs'.size = l'.length ∧ ∀ (i : Nat) (a : AV) (u : Value), l'[i]? = some a → cs'.toList[i]? = some u → R1 θ pr w a u
 | [], cs, l, l', _, h1, h2, h => by
  simp only [evP, List.map_nil, fillA, Option.some.injEq] at h
  subst h
  exact ⟨cs, rfl, h1, h2⟩
 | (i, x) :: ps, cs, l, l', hp, h1, h2, h => by
  simp only [evP, List.map_cons, fillA] at h
  have hx : R1 θ pr w (evA e x) (evE ev x) := hp (i, x) (by simp)
  cases hpl : place i with
  | none => rw [hpl] at h; cases h
  | some os =>
   obtain ⟨off, size⟩ := os
   cases hc : cellsA (evA e x) with
   | none => rw [hpl, hc] at h; cases h
   | some q =>
    rw [hpl, hc] at h
    simp only at h
    split at h
    ·rename_i hb
     obtain ⟨hb1, hb2⟩ := hb
     obtain ⟨h3, h4⟩ := cellsA_ok hx hc
     have hf := fold_arr cs (evE ev x).cells off (by omega)
     have hsz : ((evE ev x).cells.zipIdx.foldl (fun cs (c, j) => cs.setIfInBounds (off + j) c) cs).size = (setAt l off q).length := by
      have := congrArg List.length hf
      rw [Array.length_toList] at this
      rw [this, setAt_len _ _ _ (by simp; omega), setAt_len _ _ _ (by omega)]; simpa using h1
     obtain ⟨cs', h5, h6, h7⟩ := fill_ok (fun q hq => hp q (by simp [hq])) hsz (fun j a u ha hu => by
      rw [hf, setAt_get _ _ _ (by simp; omega)] at hu
      rw [setAt_get _ _ _ (by omega)] at ha
      by_cases c1 : j < off
      ·rw [if_pos c1] at ha hu; exact h2 j a u ha hu
      ·rw [if_neg c1] at ha hu
       by_cases c2 : j < off + q.length
       ·rw [if_pos c2] at ha; rw [if_pos (by simp; omega)] at hu
        exact h4 _ a u ha (by simpa using hu)
       ·rw [if_neg c2] at ha; rw [if_neg (by simp; omega)] at hu
        exact h2 j a u ha hu) h
     refine ⟨cs', ?_, h6, h7⟩
     simp only [List.map_cons, Instr.fill, hpl]
     rw [if_neg (by simp; omega)]
     exact h5
    ·cases h
theorem parts_map (ev : Nat → Value) (ps : Array (Nat × Operand)) : (ps.map fun (i, x) => (i, evE ev x)) = (ps.toList.map fun (i, x) => (i, evE ev x)).toArray := by
 apply Array.toList_inj.1; rw [Array.toList_map]
theorem ro_build {ps : Array (Nat × Operand)} {pl : List (Nat × AV)} {fs : Array Field} {places : Array (Nat × Nat)} {zv : Value} {l : List AV} (hps : evP e ps.toList = pl) (hz : (P.info? t).bind (·.zero) = some zv) (hu : P.underlying t = some (.struct fs))
 (hpl : ∀ w, (fs.mapM fun f => Prod.mk f.offset <$> sizeOf f.type : Sem (Array (Nat × Nat))).run P w = .ok places w) (hl : fillA (places[·]?) (zv.cells.toList.map .v) pl = some l) : OpRO P ⟨d, .build t ps, ty, pos, af, g⟩ e mem (.agg l) := by
 intro pb w0 θ w ev hs h
 subst hps
 obtain ⟨cs', h1, h2, h3⟩ := fill_ok (θ := θ) (pr := Prot pb θ mem) (w := w) (ev := ev) (cs := zv.cells) (fun q hq => h q.2 (by
  simp only [Op.operands, List.mem_toArray, List.mem_map]; exact ⟨q, hq, rfl⟩)) (by simp) (fun i a u ha hu => by
   rw [List.getElem?_map, hu] at ha; simp at ha; subst ha; exact .ro (.v _)) hl
 have hrun : (Instr.build t (ps.map fun (i, x) => (i, evE ev x))).run P w = .ok (.agg cs') w := by
  cases hq : P.info? t with
  | none => rw [hq] at hz; cases hz
  | some i =>
   rw [hq] at hz; simp at hz
   unfold Instr.build
   rw [parts_map]
   simp [Sem.run_bind, zeroValue, typeInfo, hq, hz, run_underlying hu, hpl]
   simp at h1
   simp [h1]
 have e1 : execOp (evE ev) ⟨d, .build t ps, ty, pos, af, g⟩ = (do pure (.value (← Instr.build t (ps.map fun (i, x) => (i, evE ev x))))) := rfl
 rw [e1, Sem.run_bind, hrun]
 exact ⟨.agg _ cs'.toList (by simpa using h2) h3, Ext.refl w⟩
theorem ro_buildA {ps : Array (Nat × Operand)} {pl : List (Nat × AV)} {n k : Nat} {eT : TypeId} {zv : Value} {l : List AV} (hps : evP e ps.toList = pl) (hz : (P.info? t).bind (·.zero) = some zv) (hu : P.underlying t = some (.array n eT)) (hk : (P.info? eT).map (·.size) = some k)
 (hl : fillA (fun i => some (i * k, k)) (zv.cells.toList.map .v) pl = some l) : OpRO P ⟨d, .build t ps, ty, pos, af, g⟩ e mem (.agg l) := by
 intro pb w0 θ w ev hs h
 subst hps
 obtain ⟨cs', h1, h2, h3⟩ := fill_ok (θ := θ) (pr := Prot pb θ mem) (w := w) (ev := ev) (cs := zv.cells) (fun q hq => h q.2 (by
  simp only [Op.operands, List.mem_toArray, List.mem_map]; exact ⟨q, hq, rfl⟩)) (by simp) (fun i a u ha hu => by
   rw [List.getElem?_map, hu] at ha; simp at ha; subst ha; exact .ro (.v _)) hl
 have hrun : (Instr.build t (ps.map fun (i, x) => (i, evE ev x))).run P w = .ok (.agg cs') w := by
  cases hq : P.info? t with
  | none => rw [hq] at hz; cases hz
  | some i =>
   rw [hq] at hz; simp at hz
   cases hq2 : P.info? eT with
   | none => rw [hq2] at hk; cases hk
   | some i2 =>
    rw [hq2] at hk; simp at hk
    unfold Instr.build
    rw [parts_map]
    simp [Sem.run_bind, zeroValue, typeInfo, sizeOf, hq, hq2, hk, hz, run_underlying hu, h1]
 have e1 : execOp (evE ev) ⟨d, .build t ps, ty, pos, af, g⟩ = (do pure (.value (← Instr.build t (ps.map fun (i, x) => (i, evE ev x))))) := rfl
 rw [e1, Sem.run_bind, hrun]
 exact ⟨.agg _ cs'.toList (by simpa using h2) h3, Ext.refl w⟩
end
end Go.Proofs.Ytjhcfpdgldpicaa
