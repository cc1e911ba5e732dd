/- The abstract machine: functions that hand back a row of one's own; slices cut, appends of zeros. No conditions on a program. -/
import Derived.Test.YtonjcljnpcmenaaA14
import Derived.Lib.AppendZerosOnto
namespace Go.Proofs.Ytonjcljnpcmenaa
open Go Go.RowKit Go.Proofs
set_option linter.unusedSimpArgs false
set_option linter.unusedVariables false

section
variable {P : Program} {e : Nat → AV} {mem : List Ob} {d : Option Tmp} {ty t : TypeId} {pos : String} {af : Array Edge} {g : Option (Nat × Bool)} {x y : Operand}
/-- Values of one cell each, handles on rows among them. -/
def OneL (mem : List Ob) (l : List AV) : Prop := ∀ a ∈ l, oneA a = true ∨ ∃ j2 T2 k2 els, a = .own j2 ∧ mem[j2]? = some (.row T2 k2 els)
theorem oneL_nil : OneL mem [] := fun a h => by cases h
theorem oneL_c {a : AV} {l : List AV} (h : oneA a = true) (t : OneL mem l) : OneL mem (a :: l) := fun b hb => by
  rcases List.mem_cons.1 hb with rfl | hb
  · exact .inl h
  · exact t b hb
theorem oneL_o {j2 k2 T2 : Nat} {els : List (List AV)} {l : List AV} (h : mem[j2]? = some (.row T2 k2 els)) (t : OneL mem l) : OneL mem (.own j2 :: l) := fun b hb => by
  rcases List.mem_cons.1 hb with rfl | hb
  · exact .inr ⟨_, _, _, _, rfl, h⟩
  · exact t b hb
theorem se_storeO {j off n : Nat} {T : TypeId} {cells l : List AV} {a : AV} (hx : evA e x = .ptr j off) (hy : evA e y = a) (hc : cellsA a = some l) (hone : OneL mem l) (hm : mem[j]? = some (.box T cells)) (hsz : (P.info? t).map (·.size) = some n) (hn : l.length = n) (ho : off + n ≤ cells.length) :
    OpSET P ⟨d, .store t x y, ty, pos, af, g⟩ e mem j (.box T (setAt cells off l)) := by
  intro pb w0 θ w ev hs h
  have h1 := h x (by simp [Op.operands])
  have h2 := h y (by simp [Op.operands])
  rw [hx] at h1; rw [hy] at h2
  obtain ⟨b, v, hθ, hbase, hp⟩ := h1.getPtr
  obtain ⟨b', xs, h3, rfl, h4, h5, h6⟩ := hs.ob j _ v hm hθ
  cases hbase
  obtain ⟨h7, h8⟩ := cellsA_ok h2 hc
  have hrun := run_store_cells (P := P) (θ := θ) (pr := Prot pb θ mem) (t := t) (off := off) (n := n) (v := evE ev y) h4 hsz (by omega) (by omega) (fun u hu => by
    obtain ⟨i, hi, rfl⟩ := List.getElem_of_mem hu
    have hil : i < l.length := by simp at hi; omega
    have h9 := h8 i l[i] ((evE ev y).cells.toList[i]) (List.getElem?_eq_getElem hil) (by simp at hi; simp [hi])
    rcases hone _ (List.getElem_mem hil) with h10 | ⟨j2, T2, k2, els, h10, h11⟩
    · exact oneA_ok h9 h10
    · rw [h10] at h9
      obtain ⟨zs, h12, _⟩ := hs.ob j2 _ _ h11 h9.getOwn
      obtain ⟨A, c, hval, _⟩ := own_form h12
      rw [hval]; rfl)
  have e1 : execOp (evE ev) ⟨d, .store t x y, ty, pos, af, g⟩ = (do Instr.storeAt t (evE ev x) (evE ev y); pure .skip) := rfl
  rw [e1, Sem.run_bind, hp, hrun]
  refine ⟨rfl, Step.write hs hm (by simp) hθ (below_setRow (Nat.zero_le _) _) (fun b hb hne => setRow_other w b' b _ (fun e => hne (by rw [e]; rfl))) fun pr k => ?_⟩
  have hcl : (evE ev y).cells.toList.length = n := by simp; omega
  refine ⟨b', setAt xs off (evE ev y).cells.toList, h3, rfl, setRow_heap w b' _ _ T (0, 0) h4, by rw [setAt_len _ _ _ (by omega), setAt_len _ _ _ (by omega), h5], fun i a u ha hu => ?_⟩
  rw [setAt_get _ _ _ (by omega)] at ha hu
  rw [hcl] at hu
  rw [hn] at ha
  by_cases c1 : i < off
  · rw [if_pos c1] at ha hu
    exact k _ _ (h6 i a u ha hu)
  · rw [if_neg c1] at ha hu
    by_cases c2 : i < off + n
    · rw [if_pos c2] at ha hu
      exact k _ _ (h8 _ a u ha (by simpa using hu))
    · rw [if_neg c2] at ha hu
      exact k _ _ (h6 i a u ha hu)
theorem st_storeO {j off n : Nat} {T : TypeId} {cells l : List AV} {a : AV} (hx : evA e x = .ptr j off) (hy : evA e y = a) (hc : cellsA a = some l) (hone : OneL mem l) (hm : mem[j]? = some (.box T cells)) (hsz : (P.info? t).map (·.size) = some n) (hn : l.length = n) (ho : off + n ≤ cells.length) :
    OpST P ⟨d, .store t x y, ty, pos, af, g⟩ e mem (.v undef) (mem.set j (.box T (setAt cells off l))) := set_st (se_storeO hx hy hc hone hm hsz hn ho)
end
end Go.Proofs.Ytonjcljnpcmenaa
