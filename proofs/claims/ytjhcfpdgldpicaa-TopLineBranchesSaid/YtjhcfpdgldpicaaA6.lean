/- Lemmas for the statement. -/
import Derived.Test.YtjhcfpdgldpicaaA5
import Derived.Laws.MakeOwn
import Derived.Laws.OwnMore
import Derived.Laws.Tables
import Derived.Laws.CopyRow
namespace Go.Proofs.Ytjhcfpdgldpicaa
open Go Go.RowKit
set_option linter.unusedVariables false
set_option linter.unusedSimpArgs false
theorem Step.swap {pb : Nat → Prop} {w0 : Bs} {w w' : World} {θ : List Value} {mem : List Ob} (h : SimM pb w0 w θ mem) {j : Nat} {o : Ob} {v : Value} (hm : mem[j]? = some o) (hg : o ≠ .gone) (hv : θ[j]? = some v) (hx : Below 0 w w')
 (hw : ∀ b, b < w.heap.size → baseOf v ≠ some b → w'.heap[b]? = w.heap[b]?) (v' : Value) (o' : Ob) (hb : baseOf v' = baseOf v ∨ ∀ b, baseOf v' = some b → w.heap.size ≤ b)
 (ho : ∀ θ' pr, (∀ a x, R1 θ (Prot pb θ mem) w a x → R1 θ' pr w' a x) → (∀ a x, R0 (Prot pb θ mem) w a x → R0 pr w' a x) → ObR θ' pr w0.okb w' v' o') : Step pb w0 θ mem w (θ ++ [v']) (mem.set j .gone ++ [o']) w' := by
 have hj : j < mem.length := (List.getElem?_eq_some_iff.1 hm).1
 have hθ : ∀ (i : Nat) (x : Value), θ[i]? = some x → (θ ++ [v'])[i]? = some x := fun i x hi => by rw [List.getElem?_append_left (List.getElem?_eq_some_iff.1 hi).1]; exact hi
 have split : ∀ {i : Nat} {p : Ob} {u : Value}, (mem.set j .gone ++ [o'])[i]? = some p → (θ ++ [v'])[i]? = some u → p = .gone ∨ (i ≠ j ∧ mem[i]? = some p ∧ θ[i]? = some u) ∨ (i = mem.length ∧ p = o' ∧ u = v') := by
  intro i p u hp hu
  rcases Nat.lt_or_ge i mem.length with hi | hi
  ·rw [List.getElem?_append_left (by simpa using hi)] at hp
   rw [List.getElem?_append_left (by rw [h.len]; exact hi)] at hu
   by_cases hij : j = i
   ·subst hij; rw [List.getElem?_set_self hj] at hp; exact .inl (by simpa using hp.symm)
   ·rw [List.getElem?_set_ne hij] at hp; exact .inr (.inl ⟨fun e => hij e.symm, hp, hu⟩)
  ·rw [List.getElem?_append_right (by simpa using hi)] at hp
   rw [List.getElem?_append_right (by rw [h.len]; exact hi), h.len] at hu
   have h0 : i - mem.length = 0 := by have := (List.getElem?_eq_some_iff.1 hp).1; simp at this; omega
   simp only [List.length_set, h0] at hp
   rw [h0] at hu
   simp at hp hu
   exact .inr (.inr ⟨by omega, hp.symm, hu.symm⟩)
 have hpj : ∀ b, baseOf v = some b → Prot pb θ mem b := fun b hb => .inr ⟨j, o, v, hm, hg, hv, hb⟩
 have hp : ∀ b, b < w.heap.size → ¬ Prot pb θ mem b → ¬ Prot pb (θ ++ [v']) (mem.set j .gone ++ [o']) b := by
  intro b hlt hn hq
  rcases hq with hq | ⟨i, p, u, h1, h2, h3, h4⟩
  ·exact hn (.inl hq)
  rcases split h1 h3 with h5 | ⟨_, h5, h6⟩ | ⟨rfl, rfl, rfl⟩
  ·exact h2 h5
  ·exact hn (.inr ⟨i, p, u, h5, h2, h6, h4⟩)
  ·rcases hb with hb | hb
   ·exact hn (hpj b (by rw [← hb]; exact h4))
   ·have := hb b h4; omega
 have hw' : ∀ b, b < w.heap.size → ¬ Prot pb θ mem b → w'.heap[b]? = w.heap[b]? := fun b hb hn => hw b hb fun he => hn (hpj b he)
 have keep : ∀ a x, R1 θ (Prot pb θ mem) w a x → R1 (θ ++ [v']) (Prot pb (θ ++ [v']) (mem.set j .gone ++ [o'])) w' a x := fun a x hr => hr.mono hθ hx.size hw' hp
 refine ⟨⟨h.ext.write hx hw (fun b hb => ((h.ob j o v hm hv).lt hg hb).1), h.low, by simp [h.len], fun i p u hm' hu => ?_, fun i i2 p q u u' b h1 h2 h3 h4 h5 h6 h7 h8 => ?_⟩, keep, hx.size, hw', hp⟩
 ·rcases split hm' hu with rfl | ⟨hne, h5, h6⟩ | ⟨rfl, rfl, rfl⟩
  ·trivial
  ·by_cases hgp : p = .gone
   ·subst hgp; trivial
   ·refine (h.ob i p u h5 h6).mono hθ hx.size hw' hp fun b hb => ?_
    exact hw b ((h.ob i p u h5 h6).lt hgp hb).2 fun he => hne (h.dis i j p o u v b h5 hgp hm hg h6 hv hb he)
  ·exact ho _ _ keep (fun a x hr => hr.mono hx.size hw' hp)
 ·have far : ∀ {i : Nat} {p : Ob} {u : Value}, i ≠ j → mem[i]? = some p → p ≠ .gone → θ[i]? = some u → baseOf u = some b → baseOf v' ≠ some b := by
   intro i p u hne a1 a2 a3 a4 a5
   rcases hb with hb | hb
   ·exact hne (h.dis i j p o u v b a1 a2 hm hg a3 hv a4 (by rw [← hb]; exact a5))
   ·have := hb b a5; have := ((h.ob i p u a1 a3).lt a2 a4).2; omega
  rcases split h1 h5 with e1 | ⟨n1, a1, a2⟩ | ⟨rfl, rfl, rfl⟩
  ·exact absurd e1 h2
  ·rcases split h3 h6 with e2 | ⟨n2, a3, a4⟩ | ⟨rfl, rfl, rfl⟩
   ·exact absurd e2 h4
   ·exact h.dis i i2 p q u u' b a1 h2 a3 h4 a2 a4 h7 h8
   ·exact absurd h8 (far n1 a1 h2 a2 h7)
  ·rcases split h3 h6 with e2 | ⟨n2, a3, a4⟩ | ⟨rfl, rfl, rfl⟩
   ·exact absurd e2 h4
   ·exact absurd h7 (far n2 a3 h4 a4 h8)
   ·rfl
theorem Step.swapF {pb : Nat → Prop} {w0 : Bs} {w w' : World} {θ : List Value} {mem : List Ob} (h : SimM pb w0 w θ mem) {j k : Nat} {o : Ob} {v : Value} (hm : mem[j]? = some o) (hg : o ≠ .gone) (hv : θ[j]? = some v) (hmk : mem[k]? = some .gone) (hvk : θ[k]? = some undef) (hx : Below 0 w w')
 (hw : ∀ b, b < w.heap.size → baseOf v ≠ some b → w'.heap[b]? = w.heap[b]?) (v' : Value) (o' : Ob) (hb : baseOf v' = baseOf v ∨ ∀ b, baseOf v' = some b → w.heap.size ≤ b)
 (ho : ∀ θ' pr, (∀ a x, R1 θ (Prot pb θ mem) w a x → R1 θ' pr w' a x) → (∀ a x, R0 (Prot pb θ mem) w a x → R0 pr w' a x) → ObR θ' pr w0.okb w' v' o') : Step pb w0 θ mem w (θ.set k v') ((mem.set j .gone).set k o') w' := by
 have hj : j < mem.length := (List.getElem?_eq_some_iff.1 hm).1
 have hkm : k < mem.length := (List.getElem?_eq_some_iff.1 hmk).1
 have hkt : k < θ.length := (List.getElem?_eq_some_iff.1 hvk).1
 have hθ : ∀ (i : Nat) (x : Value), x ≠ undef → θ[i]? = some x → (θ.set k v')[i]? = some x := fun i x hx hi => by
  by_cases hik : k = i
  ·subst hik; rw [hvk] at hi; cases hi; exact absurd rfl hx
  ·rw [List.getElem?_set_ne hik]; exact hi
 have split : ∀ {i : Nat} {p : Ob} {u : Value}, ((mem.set j .gone).set k o')[i]? = some p → (θ.set k v')[i]? = some u → p = .gone ∨ (i ≠ j ∧ mem[i]? = some p ∧ θ[i]? = some u) ∨ (i = k ∧ p = o' ∧ u = v') := by
  intro i p u hp hu
  by_cases hik : k = i
  ·subst hik
   rw [List.getElem?_set_self (by simpa using hkm)] at hp
   rw [List.getElem?_set_self hkt] at hu
   cases hp; cases hu
   exact .inr (.inr ⟨rfl, rfl, rfl⟩)
  ·rw [List.getElem?_set_ne hik] at hp hu
   by_cases hij : j = i
   ·subst hij; rw [List.getElem?_set_self hj] at hp; exact .inl (by simpa using hp.symm)
   ·rw [List.getElem?_set_ne hij] at hp; exact .inr (.inl ⟨fun e => hij e.symm, hp, hu⟩)
 have hpj : ∀ b, baseOf v = some b → Prot pb θ mem b := fun b hb => .inr ⟨j, o, v, hm, hg, hv, hb⟩
 have hp : ∀ b, b < w.heap.size → ¬ Prot pb θ mem b → ¬ Prot pb (θ.set k v') ((mem.set j .gone).set k o') b := by
  intro b hlt hn hq
  rcases hq with hq | ⟨i, p, u, h1, h2, h3, h4⟩
  ·exact hn (.inl hq)
  rcases split h1 h3 with h5 | ⟨_, h5, h6⟩ | ⟨rfl, rfl, rfl⟩
  ·exact h2 h5
  ·exact hn (.inr ⟨i, p, u, h5, h2, h6, h4⟩)
  ·rcases hb with hb | hb
   ·exact hn (hpj b (by rw [← hb]; exact h4))
   ·have := hb b h4; omega
 have hw' : ∀ b, b < w.heap.size → ¬ Prot pb θ mem b → w'.heap[b]? = w.heap[b]? := fun b hb hn => hw b hb fun he => hn (hpj b he)
 have keep : ∀ a x, R1 θ (Prot pb θ mem) w a x → R1 (θ.set k v') (Prot pb (θ.set k v') ((mem.set j .gone).set k o')) w' a x := fun a x hr => hr.mono' hθ hx.size hw' hp
 refine ⟨⟨h.ext.write hx hw (fun b hb => ((h.ob j o v hm hv).lt hg hb).1), h.low, by simp [h.len], fun i p u hm' hu => ?_, fun i i2 p q u u' b h1 h2 h3 h4 h5 h6 h7 h8 => ?_⟩, keep, hx.size, hw', hp⟩
 ·rcases split hm' hu with rfl | ⟨hne, h5, h6⟩ | ⟨rfl, rfl, rfl⟩
  ·trivial
  ·by_cases hgp : p = .gone
   ·subst hgp; trivial
   ·refine (h.ob i p u h5 h6).mono' hθ hx.size hw' hp fun b hb => ?_
    exact hw b ((h.ob i p u h5 h6).lt hgp hb).2 fun he => hne (h.dis i j p o u v b h5 hgp hm hg h6 hv hb he)
  ·exact ho _ _ keep (fun a x hr => hr.mono hx.size hw' hp)
 ·have far : ∀ {i : Nat} {p : Ob} {u : Value}, i ≠ j → mem[i]? = some p → p ≠ .gone → θ[i]? = some u → baseOf u = some b → baseOf v' ≠ some b := by
   intro i p u hne a1 a2 a3 a4 a5
   rcases hb with hb | hb
   ·exact hne (h.dis i j p o u v b a1 a2 hm hg a3 hv a4 (by rw [← hb]; exact a5))
   ·have := hb b a5; have := ((h.ob i p u a1 a3).lt a2 a4).2; omega
  rcases split h1 h5 with e1 | ⟨n1, a1, a2⟩ | ⟨rfl, rfl, rfl⟩
  ·exact absurd e1 h2
  ·rcases split h3 h6 with e2 | ⟨n2, a3, a4⟩ | ⟨rfl, rfl, rfl⟩
   ·exact absurd e2 h4
   ·exact h.dis i i2 p q u u' b a1 h2 a3 h4 a2 a4 h7 h8
   ·exact absurd h8 (far n1 a1 h2 a2 h7)
  ·rcases split h3 h6 with e2 | ⟨n2, a3, a4⟩ | ⟨rfl, rfl, rfl⟩
   ·exact absurd e2 h4
   ·exact absurd h7 (far n2 a3 h4 a4 h8)
   ·rfl
def OpSW (P : Program) (o : Oper) (e : Nat → AV) (mem : List Ob) (i : Nat) (ob : Ob) (h : Nat → AV) : Prop :=
 ∀ (pb : Nat → Prop) (w0 : Bs) (θ : List Value) (w : World) (ev : Nat → Value), SimM pb w0 w θ mem → (∀ x ∈ o.op.operands, R1 θ (Prot pb θ mem) w (evA e x) (evE ev x)) →
  RelUpon P (fun v w' => ∃ o0 v0, mem[i]? = some o0 ∧ o0 ≠ .gone ∧ θ[i]? = some v0 ∧ Below 0 w w' ∧ (∀ b, b < w.heap.size → baseOf v0 ≠ some b → w'.heap[b]? = w.heap[b]?) ∧ (baseOf v = baseOf v0 ∨ ∀ b, baseOf v = some b → w.heap.size ≤ b) ∧
   (∀ θ' pr, (∀ a x, R1 θ (Prot pb θ mem) w a x → R1 θ' pr w' a x) → (∀ a x, R0 (Prot pb θ mem) w a x → R0 pr w' a x) → ObR θ' pr w0.okb w' v ob) ∧ ∀ θ' pr j, θ'[j]? = some v → R1 θ' pr w' (h j) v) ((execOp (evE ev) o).run P w)
theorem sw_st {P : Program} {o : Oper} {e : Nat → AV} {mem : List Ob} {i : Nat} {ob : Ob} {h : Nat → AV} {m : Nat} (hn : OpSW P o e mem i ob h) (hl : mem.length = m) : OpST P o e mem (h m) (mem.set i .gone ++ [ob]) := fun pb w0 θ w ev hs hx =>
 RelUpon.mono (fun v w' ⟨o0, v0, h1, h2, h3, h4, h5, h6, h7, h8⟩ => ⟨θ ++ [v], h8 _ _ _ (by rw [← hl, ← hs.len]; simp), Step.swap hs h1 h2 h3 h4 h5 v ob h6 h7⟩) (hn pb w0 θ w ev hs hx)
theorem roL_all : ∀ {l : List AV}, (∀ (i : Nat) (a : AV), l[i]? = some a → roO a = true) → roO.roL l = true
 | [], _ => rfl
 | a :: l, h => by simp only [roO.roL, Bool.and_eq_true]; exact ⟨h 0 a rfl, roL_all fun i b hb => h (i + 1) b (by simpa using hb)⟩
theorem ro_of_R0 {pr : Nat → Prop} {w : World} {a : AV} {u : Value} (hr : R0 pr w a u) : roO a = true := by
 have lt : ∀ {l : List AV} {xs : List Value} {i : Nat} {a : AV}, xs.length = l.length → l[i]? = some a → i < xs.length := fun h1 ha => by rw [h1]; exact (List.getElem?_eq_some_iff.1 ha).1
 induction hr with
 | agg l xs h1 h2 ih => exact roL_all fun i a ha => ih i a _ ha (List.getElem?_eq_getElem (lt h1 ha))
 | tuple l xs h1 h2 ih => exact roL_all fun i a ha => ih i a _ ha (List.getElem?_eq_getElem (lt h1 ha))
 | clo fn l m xs ys h1 h2 h3 h4 ih1 ih2 =>
  simp only [roO, Bool.and_eq_true]
  exact ⟨roL_all fun i a ha => ih1 i a _ ha (List.getElem?_eq_getElem (lt h1 ha)), roL_all fun i a ha => ih2 i a _ ha (List.getElem?_eq_getElem (lt h3 ha))⟩
 | _ => rfl
section
variable {P : Program} {e : Nat → AV} {mem : List Ob} {d : Option Tmp} {ty t t2 : TypeId} {pos : String} {af : Array Edge} {g : Option (Nat × Bool)} {x y z : Operand}
theorem SimM.base {pb : Nat → Prop} {w0 : Bs} {w : World} {θ : List Value} (h : SimM pb w0 w θ mem) : w0.w.heap.size ≤ w.heap.size := h.ext.size
theorem len_at {pb : Nat → Prop} {w0 : Bs} {w : World} {θ : List Value} (h : SimM pb w0 w θ mem) (v : Value) : (θ ++ [v])[mem.length]? = some v := by
 rw [← h.len]; simp
theorem nw_alloc {zv : Value} {zs : List AV} {T : TypeId} (hz : (P.info? T).bind (·.zero) = some zv) (hzs : zv.cells.toList.map AV.v = zs) : OpNW P ⟨d, .alloc T, ty, pos, af, g⟩ e mem (.box T zs) (fun j => .ptr j 0) := by
 intro pb w0 θ w ev hs h
 rw [ex_alloc, Sem.run_bind]
 have hrun : (Instr.alloc T true (.tuple #[])).run P w = .ok (.pointer (some ⟨w.heap.size, 0, none⟩)) (w.alloc (.cells zv.cells T)) := by
  cases hq : P.info? T with
  | none => rw [hq] at hz; cases hz
  | some i => rw [hq] at hz; simp at hz; simp [Instr.alloc, zeroValue, typeInfo, hq, hz, newVar, newRow]
 rw [hrun]
 refine ⟨(Ext.refl w).alloc _, (fun b hb => by have hb' : some w.heap.size = some b := hb; cases hb'; exact Nat.le_refl _), fun θ' pr _ => ?_, fun θ' pr j hj => .ptr j 0 w.heap.size _ hj rfl⟩
 refine ⟨w.heap.size, zv.cells.toList, .inl hs.base, rfl, by simpa using heap_alloc_new w _, by rw [← hzs]; simp, fun i a u ha hu => ?_⟩
 rw [← hzs, List.getElem?_map, hu] at ha
 simp at ha; subst ha
 exact .ro (.v _)
theorem st_alloc {zv : Value} {zs : List AV} {m : Nat} {T : TypeId} (hz : (P.info? T).bind (·.zero) = some zv) (hzs : zv.cells.toList.map AV.v = zs) (hl : mem.length = m) : OpST P ⟨d, .alloc T, ty, pos, af, g⟩ e mem (.ptr m 0) (mem ++ [.box T zs]) := nw_st (h := fun j => .ptr j 0) (nw_alloc hz hzs) hl
theorem nw_box {l : List AV} {T : TypeId} {a : AV} (hx : evA e x = a) (hc : cellsA a = some l) : OpNW P ⟨d, .box T x, ty, pos, af, g⟩ e mem (.box T l) (fun j => .ptr j 0) := by
 intro pb w0 θ w ev hs h
 have h1 := h x (by simp [Op.operands])
 rw [hx] at h1
 obtain ⟨h2, h3⟩ := cellsA_ok h1 hc
 have e1 : execOp (evE ev) ⟨d, .box T x, ty, pos, af, g⟩ = (do pure (.value (← Instr.box T (evE ev x)))) := rfl
 have hrun : (Instr.box T (evE ev x)).run P w = .ok (.pointer (some ⟨w.heap.size, 0, none⟩)) (w.alloc (.cells (evE ev x).cells T)) := by simp [Instr.box, newVar, newRow]
 rw [e1, Sem.run_bind, hrun]
 refine ⟨(Ext.refl w).alloc _, (fun b hb => by have hb' : some w.heap.size = some b := hb; cases hb'; exact Nat.le_refl _), fun θ' pr k => ?_, fun θ' pr j hj => .ptr j 0 w.heap.size _ hj rfl⟩
 exact ⟨w.heap.size, (evE ev x).cells.toList, .inl hs.base, rfl, by simpa using heap_alloc_new w _, by simpa using h2, fun i a u ha hu => k _ _ (h3 i a u ha (by simpa using hu))⟩
theorem st_box {l : List AV} {m : Nat} {T : TypeId} {a : AV} (hx : evA e x = a) (hc : cellsA a = some l) (hl : mem.length = m) : OpST P ⟨d, .box T x, ty, pos, af, g⟩ e mem (.ptr m 0) (mem ++ [.box T l]) := nw_st (h := fun j => .ptr j 0) (nw_box hx hc) hl
def oneA : AV → Bool
 | .v x => x.oneCell'
 | .row _ _ | .ref _ | .clo _ _ _ | .ptr _ _ => true
 | _ => false
theorem oneA_ok {θ : List Value} {pr : Nat → Prop} {w : World} {a : AV} {x : Value} (h : R1 θ pr w a x) (ha : oneA a = true) : x.oneCell' = true := by
 cases a with
 | v c => rw [h.val]; exact ha
 | row k els => cases h.getRow <;> rfl
 | ref c => cases h.getRef; rfl
 | clo fn l m => cases h with
  | ro h => cases h; rfl
  | clo => rfl
 | ptr j o => obtain ⟨b, y, _, _, rfl⟩ := h.getPtr; rfl
 | _ => cases ha
theorem setAt_len {α : Type} (cells l : List α) (off : Nat) (ho : off + l.length ≤ cells.length) : (setAt cells off l).length = cells.length := by simp [setAt]; omega
theorem setAt_get {α : Type} (cells l : List α) (off : Nat) (ho : off ≤ cells.length) (i : Nat) : (setAt cells off l)[i]? = if i < off then cells[i]? else if i < off + l.length then l[i - off]? else cells[i]? := by
 unfold setAt
 have h1 : (cells.take off).length = off := by simp; omega
 by_cases a : i < off
 ·rw [if_pos a, List.append_assoc, List.getElem?_append_left (by omega), List.getElem?_take_of_lt a]
 ·rw [if_neg a]
  by_cases b : i < off + l.length
  ·rw [if_pos b, List.append_assoc, List.getElem?_append_right (by omega), h1, List.getElem?_append_left (by omega)]
  ·rw [if_neg b, List.getElem?_append_right (by simp; omega), List.getElem?_drop]
   congr 1; simp; omega
theorem run_store_cells {θ : List Value} {pr : Nat → Prop} {w : World} {T : TypeId} {b off n : Nat} {cur : List Value} {v : Value} (hh : w.heap[b]? = some (.cells cur.toArray T (0, 0))) (hsz : (P.info? t).map (·.size) = some n) (hn : v.cells.size = n) (ho : off + n ≤ cur.length) (h1 : ∀ u ∈ v.cells.toList, u.oneCell' = true) :
 (Instr.storeAt t (.pointer (some ⟨b, off, none⟩)) v).run P w = .ok () (w.setRow b (setAt cur off v.cells.toList).toArray) := by
 have := run_storeCells_at (P := P) b off T v.cells.toList 0 cur.toArray w hh (by simp; omega) h1
 cases hq : P.info? t with
 | none => rw [hq] at hsz; cases hsz
 | some i =>
  rw [hq] at hsz; simp at hsz
  simp only [Nat.add_zero, Array.length_toList, hn] at this
  have e : (setAt cur off v.cells.toList) = cur.take off ++ v.cells.toList ++ cur.drop (off + n) := by unfold setAt; rw [Array.length_toList, hn]
  rw [e]
  simp [Instr.storeAt, Instr.sureAddr, storeVar, sizeOf, typeInfo, hq, hsz, hn, Sem.run_bind, this]
theorem below_setRow {B b : Nat} {w : World} (h : B ≤ b) (cs : Array Value) : Below B w (w.setRow b cs) := ⟨rfl, rfl, rfl, by simp, fun k hk => setRow_other w b k cs (by omega)⟩
theorem se_store {j off n : Nat} {T : TypeId} {cells l : List AV} {a : AV} (hx : evA e x = .ptr j off) (hy : evA e y = a) (hc : cellsA a = some l) (hone : l.all oneA = true) (hm : mem[j]? = some (.box T cells)) (hsz : (P.info? t).map (·.size) = some n) (hn : l.length = n) (ho : off + n ≤ cells.length) :
 OpSET P ⟨d, .store t x y, ty, pos, af, g⟩ e mem j (.box T (setAt cells off l)) := by
 intro pb w0 θ w ev hs h
 have h1 := h x (by simp [Op.operands])
 have h2 := h y (by simp [Op.operands])
 rw [hx] at h1; rw [hy] at h2
 obtain ⟨b, v, hθ, hbase, hp⟩ := h1.getPtr
 obtain ⟨b', xs, h3, rfl, h4, h5, h6⟩ := hs.ob j _ v hm hθ
 cases hbase
 obtain ⟨h7, h8⟩ := cellsA_ok h2 hc
 have hrun := run_store_cells (P := P) (θ := θ) (pr := Prot pb θ mem) (t := t) (off := off) (n := n) (v := evE ev y) h4 hsz (by omega) (by omega) (fun u hu => by
  obtain ⟨i, hi, rfl⟩ := List.getElem_of_mem hu
  have hil : i < l.length := by simp at hi; omega
  exact oneA_ok (h8 i l[i] _ (List.getElem?_eq_getElem hil) (by simp at hi; simp [hi])) (List.all_eq_true.1 hone _ (List.getElem_mem hil)))
 have e1 : execOp (evE ev) ⟨d, .store t x y, ty, pos, af, g⟩ = (do Instr.storeAt t (evE ev x) (evE ev y); pure .skip) := rfl
 rw [e1, Sem.run_bind, hp, hrun]
 refine ⟨rfl, Step.write hs hm (by simp) hθ (below_setRow (Nat.zero_le _) _) (fun b hb hne => setRow_other w b' b _ (fun e => hne (by rw [e]; rfl))) fun pr k => ?_⟩
 have hcl : (evE ev y).cells.toList.length = n := by simp; omega
 refine ⟨b', setAt xs off (evE ev y).cells.toList, h3, rfl, setRow_heap w b' _ _ T (0, 0) h4, by rw [setAt_len _ _ _ (by omega), setAt_len _ _ _ (by omega), h5], fun i a u ha hu => ?_⟩
 rw [setAt_get _ _ _ (by omega)] at ha hu
 rw [hcl] at hu
 rw [hn] at ha
 by_cases c1 : i < off
 ·rw [if_pos c1] at ha hu
  exact k _ _ (h6 i a u ha hu)
 ·rw [if_neg c1] at ha hu
  by_cases c2 : i < off + n
  ·rw [if_pos c2] at ha hu
   exact k _ _ (h8 _ a u ha (by simpa using hu))
  ·rw [if_neg c2] at ha hu
   exact k _ _ (h6 i a u ha hu)
theorem st_store {j off n : Nat} {T : TypeId} {cells l : List AV} {a : AV} (hx : evA e x = .ptr j off) (hy : evA e y = a) (hc : cellsA a = some l) (hone : l.all oneA = true) (hm : mem[j]? = some (.box T cells)) (hsz : (P.info? t).map (·.size) = some n) (hn : l.length = n) (ho : off + n ≤ cells.length) :
 OpST P ⟨d, .store t x y, ty, pos, af, g⟩ e mem (.v undef) (mem.set j (.box T (setAt cells off l))) := set_st (se_store hx hy hc hone hm hsz hn ho)
theorem se_store_own {j off j2 k2 : Nat} {T T2 : TypeId} {cells : List AV} {els : List (List AV)} (hx : evA e x = .ptr j off) (hy : evA e y = .own j2) (hm : mem[j]? = some (.box T cells)) (hm2 : mem[j2]? = some (.row T2 k2 els)) (hsz : (P.info? t).map (·.size) = some 1) (ho : off + 1 ≤ cells.length) :
 OpSET P ⟨d, .store t x y, ty, pos, af, g⟩ e mem j (.box T (setAt cells off [.own j2])) := by
 intro pb w0 θ w ev hs h
 have h1 := h x (by simp [Op.operands])
 have h2 := h y (by simp [Op.operands])
 rw [hx] at h1; rw [hy] at h2
 obtain ⟨b, v, hθ, hbase, hp⟩ := h1.getPtr
 obtain ⟨b', xs, h3, rfl, h4, h5, h6⟩ := hs.ob j _ v hm hθ
 cases hbase
 have hθ2 := h2.getOwn
 obtain ⟨zs, h7, _⟩ := hs.ob j2 _ _ hm2 hθ2
 obtain ⟨A, c, hval, _⟩ := own_form h7
 have hcl : (evE ev y).cells = #[evE ev y] := by rw [hval]; rfl
 have hrun := run_store_cells (P := P) (θ := θ) (pr := Prot pb θ mem) (t := t) (off := off) (n := 1) (v := evE ev y) h4 hsz (by rw [hcl]; rfl) (by omega) (fun u hu => by
  rw [hcl] at hu; simp at hu; subst hu; rw [hval]; rfl)
 have e1 : execOp (evE ev) ⟨d, .store t x y, ty, pos, af, g⟩ = (do Instr.storeAt t (evE ev x) (evE ev y); pure .skip) := rfl
 rw [e1, Sem.run_bind, hp, hrun]
 refine ⟨rfl, Step.write hs hm (by simp) hθ (below_setRow (Nat.zero_le _) _) (fun b hb hne => setRow_other w b' b _ (fun e => hne (by rw [e]; rfl))) fun pr k => ?_⟩
 have hcl2 : (evE ev y).cells.toList = [evE ev y] := by rw [hcl]
 refine ⟨b', setAt xs off (evE ev y).cells.toList, h3, rfl, setRow_heap w b' _ _ T (0, 0) h4, by rw [hcl2, setAt_len _ _ _ (by simp; omega), setAt_len _ _ _ (by simp; omega), h5], fun i a u ha hu => ?_⟩
 rw [hcl2] at hu
 rw [setAt_get _ _ _ (by omega)] at ha hu
 by_cases c1 : i < off
 ·rw [if_pos c1] at ha hu
  exact k _ _ (h6 i a u ha hu)
 ·rw [if_neg c1] at ha hu
  by_cases c2 : i < off + 1
  ·have hi : i = off := by omega
   subst hi
   simp at ha hu
   subst ha hu
   exact k _ _ h2
  ·rw [if_neg (by simpa using c2)] at ha hu
   exact k _ _ (h6 i a u ha hu)
theorem st_store_own {j off j2 k2 : Nat} {T T2 : TypeId} {cells : List AV} {els : List (List AV)} (hx : evA e x = .ptr j off) (hy : evA e y = .own j2) (hm : mem[j]? = some (.box T cells)) (hm2 : mem[j2]? = some (.row T2 k2 els)) (hsz : (P.info? t).map (·.size) = some 1) (ho : off + 1 ≤ cells.length) :
 OpST P ⟨d, .store t x y, ty, pos, af, g⟩ e mem (.v undef) (mem.set j (.box T (setAt cells off [.own j2]))) := set_st (se_store_own hx hy hm hm2 hsz ho)
theorem flatten_length {α : Type} {k : Nat} : ∀ {els : List (List α)}, (∀ l ∈ els, l.length = k) → els.flatten.length = els.length * k
 | [], _ => by simp
 | l :: els, h => by
  rw [List.flatten_cons, List.length_append, h l (by simp), flatten_length (fun l hl => h l (by simp [hl])), List.length_cons, Nat.succ_mul]; omega
theorem flatten_set {α : Type} {k : Nat} : ∀ {els : List (List α)} {i : Nat} {el : List α}, (∀ l ∈ els, l.length = k) → el.length = k → i < els.length → (els.set i el).flatten = els.flatten.take (i * k) ++ el ++ els.flatten.drop (i * k + k)
 | [], i, el, _, _, h => by simp at h
 | l :: els, 0, el, hk, he, h => by
  have := hk l (by simp)
  simp [this]
 | l :: els, i + 1, el, hk, he, h => by
  have hl := hk l (by simp)
  rw [List.set_cons_succ, List.flatten_cons, List.flatten_cons, flatten_set (fun l hm => hk l (by simp [hm])) he (by simpa using h)]
  have e1 : (i + 1) * k = l.length + i * k := by rw [hl, Nat.succ_mul]; omega
  rw [e1, Nat.add_assoc, List.take_length_add_append, List.drop_length_add_append]
  simp only [List.append_assoc]
theorem se_store_el {j i off o n k : Nat} {T : TypeId} {els : List (List AV)} {el l : List AV} {a : AV} (hx : evA e x = .ptr j off) (hy : evA e y = a) (hc : cellsA a = some l) (hro : roO.roL l = true) (hone : l.all oneA = true) (hm : mem[j]? = some (.row T k els)) (hoff : off = i * k + o)
 (hel : els[i]? = some el) (hsz : (P.info? t).map (·.size) = some n) (hn : l.length = n) (ho : o + n ≤ k) :
 OpSET P ⟨d, .store t x y, ty, pos, af, g⟩ e mem j (.row T k (els.set i (setAt el o l))) := by
 intro pb w0 θ w ev hs h
 have h1 := h x (by simp [Op.operands])
 have h2 := h y (by simp [Op.operands])
 rw [hx] at h1; rw [hy] at h2
 obtain ⟨b, v, hθ, hbase, hp⟩ := h1.getPtr
 obtain ⟨xs, h3, hbs, h4, h5⟩ := hs.ob j _ v hm hθ
 have hi : i < els.length := (List.getElem?_eq_some_iff.1 hel).1
 have hkl := h4 el (List.mem_of_getElem? hel)
 rcases h3.2 with ⟨rfl, hn0⟩ | ⟨gg, cap, cur, rfl, hgb, hh, hcap, hmax, hcs, htake⟩
 ·omega
 cases hbase
 obtain ⟨h7, h8⟩ := cellsA_ok h2 hc
 have hle : (i + 1) * k ≤ els.length * k := Nat.mul_le_mul_right k hi
 rw [Nat.succ_mul] at hle
 have hle2 : els.length * k ≤ cap * k := Nat.mul_le_mul_right k hcap
 have hcur : cur.toList.length = cap * k := by simpa using hcs
 have hrun := run_store_cells (P := P) (θ := θ) (pr := Prot pb θ mem) (t := t) (off := off) (n := n) (v := evE ev y) (cur := cur.toList) (by simpa using hh) hsz (by omega) (by omega) (fun u hu => by
  obtain ⟨q, hq, rfl⟩ := List.getElem_of_mem hu
  have hil : q < l.length := by simp at hq; omega
  exact oneA_ok (h8 q l[q] _ (List.getElem?_eq_getElem hil) (by simp at hq; simp [hq])) (List.all_eq_true.1 hone _ (List.getElem_mem hil)))
 have e1 : execOp (evE ev) ⟨d, .store t x y, ty, pos, af, g⟩ = (do Instr.storeAt t (evE ev x) (evE ev y); pure .skip) := rfl
 rw [e1, Sem.run_bind, hp, hrun]
 have hcl : (evE ev y).cells.toList.length = n := by simp; omega
 have hset : (setAt el o l).length = k := by simp [setAt]; omega
 refine ⟨rfl, Step.write hs hm (by simp) hθ (below_setRow (Nat.zero_le _) _) (fun b hb hne => setRow_other w gg b _ (fun e => hne (by rw [e]; rfl))) fun pr kp => ?_⟩
 have hxs : xs.length = els.length * k := h3.1
 refine ⟨setAt xs off (evE ev y).cells.toList, ⟨?_, .inr ⟨gg, cap, (setAt cur.toList off (evE ev y).cells.toList).toArray, by simp, hgb, setRow_heap w gg cur _ T (0, 0) hh, by simpa using hcap, hmax, ?_, ?_⟩⟩, hbs, ?_, fun q a u ha hu => ?_⟩
 ·rw [setAt_len _ _ _ (by omega), List.length_set]; exact hxs
 ·rw [List.size_toArray, setAt_len _ _ _ (by omega), hcur]
 ·simp only [List.length_set]
  rw [← htake]
  apply List.ext_getElem?
  intro q
  rw [setAt_get _ _ _ (by simp; omega)]
  by_cases hq : q < els.length * k
  ·rw [List.getElem?_take_of_lt hq, setAt_get _ _ _ (by omega), List.getElem?_take_of_lt hq]
  ·rw [List.getElem?_eq_none (by simp; omega), if_neg (by omega), if_neg (by omega), List.getElem?_eq_none (by simp; omega)]
 ·intro l' hl'
  rcases List.mem_or_eq_of_mem_set hl' with h | rfl
  ·exact h4 l' h
  ·exact hset
 ·rw [flatten_set h4 hset hi] at ha
  have hfl := flatten_length h4
  have r0 : ∀ {a : AV} {u : Value}, R0 (Prot pb θ mem) w a u → R0 pr (w.setRow gg (setAt cur.toList off (evE ev y).cells.toList).toArray) a u := by
   intro a u hr
   cases hz : roO a with
   | true => exact (kp a u (.ro hr)).ro0 hz
   | false =>
    exfalso
    rw [ro_of_R0 hr] at hz; cases hz
  rw [setAt_get _ _ _ (by omega), hcl] at hu
  by_cases c1 : q < i * k
  ·rw [List.append_assoc, List.getElem?_append_left (by simp only [List.length_take, hfl]; omega), List.getElem?_take_of_lt c1] at ha
   rw [if_pos (by omega)] at hu
   exact r0 (h5 q a u ha hu)
  ·by_cases c2 : q < i * k + k
   ·have ht : (els.flatten.take (i * k)).length = i * k := by simp only [List.length_take, hfl]; omega
    rw [List.append_assoc, List.getElem?_append_right (by omega), List.getElem?_append_left (by omega), ht, setAt_get _ _ _ (by omega), hn] at ha
    have old : ∀ {a : AV} {u : Value}, el[q - i * k]? = some a → xs[q]? = some u → R0 (Prot pb θ mem) w a u := fun h1 h2 => h5 q _ _ (by
     have := flat_get (i := i) (j := q - i * k) h4 hel (by omega)
     rw [show i * k + (q - i * k) = q by omega] at this
     rw [this]; exact h1) h2
    by_cases d1 : q - i * k < o
    ·rw [if_pos d1] at ha
     rw [if_pos (by omega)] at hu
     exact r0 (old ha hu)
    ·rw [if_neg d1] at ha
     rw [if_neg (by omega)] at hu
     by_cases d2 : q - i * k < o + n
     ·rw [if_pos d2] at ha
      rw [if_pos (by omega)] at hu
      have e3 : q - off = q - i * k - o := by omega
      rw [e3] at hu
      exact (kp a u (h8 _ a u ha (by simpa using hu))).ro0 (roL_get hro ha)
     ·rw [if_neg d2] at ha
      rw [if_neg (by omega)] at hu
      exact r0 (old ha hu)
   ·rw [List.getElem?_append_right (by simp only [List.length_append, List.length_take, hset, hfl]; omega), List.getElem?_drop] at ha
    have e4 : i * k + k + (q - (els.flatten.take (i * k) ++ setAt el o l).length) = q := by
     simp only [List.length_append, List.length_take, hset, hfl]; omega
    rw [e4] at ha
    rw [if_neg (by omega), if_neg (by omega)] at hu
    exact r0 (h5 q a u ha hu)
theorem st_store_el {j i off o n k : Nat} {T : TypeId} {els : List (List AV)} {el l : List AV} {a : AV} (hx : evA e x = .ptr j off) (hy : evA e y = a) (hc : cellsA a = some l) (hro : roO.roL l = true) (hone : l.all oneA = true) (hm : mem[j]? = some (.row T k els)) (hoff : off = i * k + o)
 (hel : els[i]? = some el) (hsz : (P.info? t).map (·.size) = some n) (hn : l.length = n) (ho : o + n ≤ k) :
 OpST P ⟨d, .store t x y, ty, pos, af, g⟩ e mem (.v undef) (mem.set j (.row T k (els.set i (setAt el o l)))) := set_st (se_store_el hx hy hc hro hone hm hoff hel hsz hn ho)
end
end Go.Proofs.Ytjhcfpdgldpicaa
