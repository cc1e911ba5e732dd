/- Lemmas for the statement. -/
import Derived.Test.YtjhcfpdgldpicaaA49
namespace Go.Proofs.Ytjhcfpdgldpicaa
open Go Go.RowKit Go.Proofs
set_option linter.unusedSimpArgs false
set_option linter.unusedVariables false
section
variable {P : Program} {e : Nat → AV} {mem : List Ob} {d : Option Tmp} {ty t t2 : TypeId} {pos : String} {af : Array Edge} {g : Option (Nat × Bool)} {x y z : Operand}
theorem ro_ix_H {j : Nat} {els : List (List AV)} {k bytes eT T : Nat} {zv : Value} {i : Int} {kk : IntKind} (ht : SlIs P t eT k bytes zv) (hm : mem[j]? = some (.rowH T k els)) (hx : evA e x = .own j) (hy : evA e y = .v (.int kk i)) (h0 : 0 ≤ i) (h1 : i < els.length) : OpRO P ⟨d, .indexAddr t x y, ty, pos, af, g⟩ e mem (.ptr j (i.toNat * k)) :=
 let ⟨_, h⟩ := ht.tyIs; ro_indexAddr_H hx hm hy ht.1 h h0 h1
theorem ro_ld_elH {j i n k o : Nat} {row : Bool} {T : TypeId} {els : List (List AV)} {el : List AV} (ht : TyIs P t row n) (h1 : (row || n == 1) = true) (hm : mem[j]? = some (.rowH T k els)) (hx : evA e x = .ptr j (i * k + o)) (hn : o + n ≤ k) (hel : els[i]? = some el) : OpRO P ⟨d, .load t x, ty, pos, af, g⟩ e mem (packA row n (el.drop o)) :=
 ro_load_elH hx hm rfl hel ht hn (by simpa using h1)
theorem st_litH {ps : Array (Nat × Operand)} {pl : List (Nat × AV)} {n k bytes eT m : Nat} {zv : Value} {els : List (List AV)} (ht : SlIs P t eT k bytes zv) (hl : mem.length = m) (hps : evP e ps.toList = pl) (hn : pl.length = n) (hsm : (decide (n * k ≤ 2 ^ 24) && decide (0 < n * k)) = true) (hel : litA k 0 pl = some els) :
 OpST P ⟨d, .buildSlice t n ps, ty, pos, af, g⟩ e mem (.own m) (mem ++ [.rowH eT k els]) := nw_st (h := fun j => .own j) (nw_litH ht hps hn hsm hel) hl
theorem st_appH {j j2 m k bytes eT eT2 : Nat} {zv : Value} {els els2 : List (List AV)} (ht : SlIs P t eT k bytes zv) (hk : (zv.cells.size == k && decide (0 < k) && decide (0 < bytes)) = true) (hl : mem.length = m) (hm : mem[j]? = some (.rowH eT k els)) (hm2 : mem[j2]? = some (.rowH eT2 k els2)) (hx : evA e x = .own j) (hy : evA e y = .own j2) (hone : els2.flatten.all oneH = true) (hb : (els.length + els2.length) * bytes ≤ 140737488355328) :
 OpST P ⟨d, .call ⟨.builtin .append, #[x, y], #[t, t]⟩, ty, pos, af, g⟩ e mem (.own m) (mem.set j .gone ++ [.rowH eT k (els ++ els2)]) := by
 obtain ⟨i, h1, h2, h3, h4⟩ := ht.info
 simp only [Bool.and_eq_true, beq_iff_eq, decide_eq_true_eq] at hk
 exact sw_st (h := fun j => .own j) (sw_appendH hx hm hy hm2 hone ht.1 h1 h2 h3 h4 hk.1.1 hk.1.2 hk.2 hb) hl
theorem st_store_elH {j i off o n k : Nat} {T : TypeId} {els : List (List AV)} {el l : List AV} {a : AV} (hx : evA e x = .ptr j off) (hy : evA e y = a) (hc : cellsA a = some l) (hone : l.all oneH = true) (hm : mem[j]? = some (.rowH T k els)) (hoff : off = i * k + o)
 (hel : els[i]? = some el) (hsz : (P.info? t).map (·.size) = some n) (hn : l.length = n) (ho : o + n ≤ k) :
 OpST P ⟨d, .store t x y, ty, pos, af, g⟩ e mem (.v undef) (mem.set j (.rowH T k (els.set i (setAt el o l)))) := set_st (se_store_elH hx hy hc hone hm hoff hel hsz hn ho)
theorem se_storeX {j off n : Nat} {T : TypeId} {cells l : List AV} {a : AV} (hx : evA e x = .ptr j off) (hy : evA e y = a) (hc : cellsA a = some l) (hone : l.all oneH = true) (hm : mem[j]? = some (.box T cells)) (hsz : (P.info? t).map (·.size) = some n) (hn : l.length = n) (ho : off + n ≤ cells.length) :
 OpSET P ⟨d, .store t x y, ty, pos, af, g⟩ e mem j (.box T (setAt cells off l)) := by
 intro pb w0 θ w ev hs h
 have h1 := h x (by simp [Op.operands])
 have h2 := h y (by simp [Op.operands])
 rw [hx] at h1; rw [hy] at h2
 obtain ⟨b, v, hθ, hbase, hp⟩ := h1.getPtr
 obtain ⟨b', xs, h3, rfl, h4, h5, h6⟩ := hs.ob j _ v hm hθ
 cases hbase
 obtain ⟨h7, h8⟩ := cellsA_ok h2 hc
 have hrun := run_store_cells (P := P) (θ := θ) (pr := Prot pb θ mem) (t := t) (off := off) (n := n) (v := evE ev y) h4 hsz (by omega) (by omega) (fun u hu => by
  obtain ⟨i, hi, rfl⟩ := List.getElem_of_mem hu
  have hil : i < l.length := by simp at hi; omega
  have h9 := h8 i l[i] ((evE ev y).cells.toList[i]) (List.getElem?_eq_getElem hil) (by simp at hi; simp [hi])
  exact oneH_ok h9 (List.all_eq_true.1 hone _ (List.getElem_mem hil)))
 have e1 : execOp (evE ev) ⟨d, .store t x y, ty, pos, af, g⟩ = (do Instr.storeAt t (evE ev x) (evE ev y); pure .skip) := rfl
 rw [e1, Sem.run_bind, hp, hrun]
 refine ⟨rfl, Step.write hs hm (by simp) hθ (below_setRow (Nat.zero_le _) _) (fun b hb hne => setRow_other w b' b _ (fun e => hne (by rw [e]; rfl))) fun pr k => ?_⟩
 have hcl : (evE ev y).cells.toList.length = n := by simp; omega
 refine ⟨b', setAt xs off (evE ev y).cells.toList, h3, rfl, setRow_heap w b' _ _ T (0, 0) h4, by rw [setAt_len _ _ _ (by omega), setAt_len _ _ _ (by omega), h5], fun i a u ha hu => ?_⟩
 rw [setAt_get _ _ _ (by omega)] at ha hu
 rw [hcl] at hu
 rw [hn] at ha
 by_cases c1 : i < off
 ·rw [if_pos c1] at ha hu
  exact k _ _ (h6 i a u ha hu)
 ·rw [if_neg c1] at ha hu
  by_cases c2 : i < off + n
  ·rw [if_pos c2] at ha hu
   exact k _ _ (h8 _ a u ha (by simpa using hu))
  ·rw [if_neg c2] at ha hu
   exact k _ _ (h6 i a u ha hu)
theorem st_storeX {j off n : Nat} {T : TypeId} {cells l : List AV} {a : AV} (hx : evA e x = .ptr j off) (hy : evA e y = a) (hc : cellsA a = some l) (hone : l.all oneH = true) (hm : mem[j]? = some (.box T cells)) (hsz : (P.info? t).map (·.size) = some n) (hn : l.length = n) (ho : off + n ≤ cells.length) :
 OpST P ⟨d, .store t x y, ty, pos, af, g⟩ e mem (.v undef) (mem.set j (.box T (setAt cells off l))) := set_st (se_storeX hx hy hc hone hm hsz hn ho)
end
end Go.Proofs.Ytjhcfpdgldpicaa
