/- The abstract machine's rules for operations that make or write objects; literals; what a function hands back. No conditions on a program. -/
import Derived.Test.YtfmjmngkgmlghaaDoorA5
import Derived.Laws.MakeOwn
import Derived.Laws.OwnMore
import Derived.Laws.Tables
import Derived.Laws.CopyRow
namespace Go.Proofs.YtfmjmngkgmlghaaDoor
open Go Go.RowKit
set_option linter.unusedVariables false
set_option linter.unusedSimpArgs false

/-- An append: the row is gone, a longer one stands in its block or in a new one. -/
theorem Step.swap {pb : Nat → Prop} {w0 : Bs} {w w' : World} {θ : List Value} {mem : List Ob} (h : SimM pb w0 w θ mem) {j : Nat} {o : Ob} {v : Value} (hm : mem[j]? = some o) (hg : o ≠ .gone) (hv : θ[j]? = some v) (hx : Below 0 w w')
    (hw : ∀ b, b < w.heap.size → baseOf v ≠ some b → w'.heap[b]? = w.heap[b]?) (v' : Value) (o' : Ob) (hb : baseOf v' = baseOf v ∨ ∀ b, baseOf v' = some b → w.heap.size ≤ b)
    (ho : ∀ θ' pr, (∀ a x, R1 θ (Prot pb θ mem) w a x → R1 θ' pr w' a x) → (∀ a x, R0 (Prot pb θ mem) w a x → R0 pr w' a x) → ObR θ' pr w0.okb w' v' o') : Step pb w0 θ mem w (θ ++ [v']) (mem.set j .gone ++ [o']) w' := by
  have hj : j < mem.length := (List.getElem?_eq_some_iff.1 hm).1
  have hθ : ∀ (i : Nat) (x : Value), θ[i]? = some x → (θ ++ [v'])[i]? = some x := fun i x hi => by rw [List.getElem?_append_left (List.getElem?_eq_some_iff.1 hi).1]; exact hi
  have split : ∀ {i : Nat} {p : Ob} {u : Value}, (mem.set j .gone ++ [o'])[i]? = some p → (θ ++ [v'])[i]? = some u → p = .gone ∨ (i ≠ j ∧ mem[i]? = some p ∧ θ[i]? = some u) ∨ (i = mem.length ∧ p = o' ∧ u = v') := by
    intro i p u hp hu
    rcases Nat.lt_or_ge i mem.length with hi | hi
    · rw [List.getElem?_append_left (by simpa using hi)] at hp
      rw [List.getElem?_append_left (by rw [h.len]; exact hi)] at hu
      by_cases hij : j = i
      · subst hij; rw [List.getElem?_set_self hj] at hp; exact .inl (by simpa using hp.symm)
      · rw [List.getElem?_set_ne hij] at hp; exact .inr (.inl ⟨fun e => hij e.symm, hp, hu⟩)
    · rw [List.getElem?_append_right (by simpa using hi)] at hp
      rw [List.getElem?_append_right (by rw [h.len]; exact hi), h.len] at hu
      have h0 : i - mem.length = 0 := by have := (List.getElem?_eq_some_iff.1 hp).1; simp at this; omega
      simp only [List.length_set, h0] at hp
      rw [h0] at hu
      simp at hp hu
      exact .inr (.inr ⟨by omega, hp.symm, hu.symm⟩)
  have hpj : ∀ b, baseOf v = some b → Prot pb θ mem b := fun b hb => .inr ⟨j, o, v, hm, hg, hv, hb⟩
  have hp : ∀ b, b < w.heap.size → ¬ Prot pb θ mem b → ¬ Prot pb (θ ++ [v']) (mem.set j .gone ++ [o']) b := by
    intro b hlt hn hq
    rcases hq with hq | ⟨i, p, u, h1, h2, h3, h4⟩
    · exact hn (.inl hq)
    rcases split h1 h3 with h5 | ⟨_, h5, h6⟩ | ⟨rfl, rfl, rfl⟩
    · exact h2 h5
    · exact hn (.inr ⟨i, p, u, h5, h2, h6, h4⟩)
    · rcases hb with hb | hb
      · exact hn (hpj b (by rw [← hb]; exact h4))
      · have := hb b h4; omega
  have hw' : ∀ b, b < w.heap.size → ¬ Prot pb θ mem b → w'.heap[b]? = w.heap[b]? := fun b hb hn => hw b hb fun he => hn (hpj b he)
  have keep : ∀ a x, R1 θ (Prot pb θ mem) w a x → R1 (θ ++ [v']) (Prot pb (θ ++ [v']) (mem.set j .gone ++ [o'])) w' a x := fun a x hr => hr.mono hθ hx.size hw' hp
  refine ⟨⟨h.ext.write hx hw (fun b hb => ((h.ob j o v hm hv).lt hg hb).1), h.low, by simp [h.len], fun i p u hm' hu => ?_, fun i i2 p q u u' b h1 h2 h3 h4 h5 h6 h7 h8 => ?_⟩, keep, hx.size, hw', hp⟩
  · rcases split hm' hu with rfl | ⟨hne, h5, h6⟩ | ⟨rfl, rfl, rfl⟩
    · trivial
    · by_cases hgp : p = .gone
      · subst hgp; trivial
      · refine (h.ob i p u h5 h6).mono hθ hx.size hw' hp fun b hb => ?_
        exact hw b ((h.ob i p u h5 h6).lt hgp hb).2 fun he => hne (h.dis i j p o u v b h5 hgp hm hg h6 hv hb he)
    · exact ho _ _ keep (fun a x hr => hr.mono hx.size hw' hp)
  · have far : ∀ {i : Nat} {p : Ob} {u : Value}, i ≠ j → mem[i]? = some p → p ≠ .gone → θ[i]? = some u → baseOf u = some b → baseOf v' ≠ some b := by
      intro i p u hne a1 a2 a3 a4 a5
      rcases hb with hb | hb
      · exact hne (h.dis i j p o u v b a1 a2 hm hg a3 hv a4 (by rw [← hb]; exact a5))
      · have := hb b a5; have := ((h.ob i p u a1 a3).lt a2 a4).2; omega
    rcases split h1 h5 with e1 | ⟨n1, a1, a2⟩ | ⟨rfl, rfl, rfl⟩
    · exact absurd e1 h2
    · rcases split h3 h6 with e2 | ⟨n2, a3, a4⟩ | ⟨rfl, rfl, rfl⟩
      · exact absurd e2 h4
      · exact h.dis i i2 p q u u' b a1 h2 a3 h4 a2 a4 h7 h8
      · exact absurd h8 (far n1 a1 h2 a2 h7)
    · rcases split h3 h6 with e2 | ⟨n2, a3, a4⟩ | ⟨rfl, rfl, rfl⟩
      · exact absurd e2 h4
      · exact absurd h7 (far n2 a3 h4 a4 h8)
      · rfl

/-- An operation that takes an object's place by a new one, its value the new one's handle. -/
def OpSW (P : Program) (o : Oper) (e : Nat → AV) (mem : List Ob) (i : Nat) (ob : Ob) (h : Nat → AV) : Prop :=
  ∀ (pb : Nat → Prop) (w0 : Bs) (θ : List Value) (w : World) (ev : Nat → Value), SimM pb w0 w θ mem → (∀ x ∈ o.op.operands, R1 θ (Prot pb θ mem) w (evA e x) (evE ev x)) →
    RelUpon P (fun v w' => ∃ o0 v0, mem[i]? = some o0 ∧ o0 ≠ .gone ∧ θ[i]? = some v0 ∧ Below 0 w w' ∧ (∀ b, b < w.heap.size → baseOf v0 ≠ some b → w'.heap[b]? = w.heap[b]?) ∧ (baseOf v = baseOf v0 ∨ ∀ b, baseOf v = some b → w.heap.size ≤ b) ∧
      (∀ θ' pr, (∀ a x, R1 θ (Prot pb θ mem) w a x → R1 θ' pr w' a x) → (∀ a x, R0 (Prot pb θ mem) w a x → R0 pr w' a x) → ObR θ' pr w0.okb w' v ob) ∧ ∀ θ' pr j, θ'[j]? = some v → R1 θ' pr w' (h j) v) ((execOp (evE ev) o).run P w)
theorem sw_st {P : Program} {o : Oper} {e : Nat → AV} {mem : List Ob} {i : Nat} {ob : Ob} {h : Nat → AV} {m : Nat} (hn : OpSW P o e mem i ob h) (hl : mem.length = m) : OpST P o e mem (h m) (mem.set i .gone ++ [ob]) := fun pb w0 θ w ev hs hx =>
  RelUpon.mono (fun v w' ⟨o0, v0, h1, h2, h3, h4, h5, h6, h7, h8⟩ => ⟨θ ++ [v], h8 _ _ _ (by rw [← hl, ← hs.len]; simp), Step.swap hs h1 h2 h3 h4 h5 v ob h6 h7⟩) (hn pb w0 θ w ev hs hx)

section
variable {P : Program} {e : Nat → AV} {mem : List Ob} {d : Option Tmp} {ty t t2 : TypeId} {pos : String} {af : Array Edge} {g : Option (Nat × Bool)} {x y z : Operand}

theorem SimM.base {pb : Nat → Prop} {w0 : Bs} {w : World} {θ : List Value} (h : SimM pb w0 w θ mem) : w0.w.heap.size ≤ w.heap.size := h.ext.size
theorem len_at {pb : Nat → Prop} {w0 : Bs} {w : World} {θ : List Value} (h : SimM pb w0 w θ mem) (v : Value) : (θ ++ [v])[mem.length]? = some v := by
  rw [← h.len]; simp

/-- A variable of its own, at zero. -/
theorem nw_alloc {zv : Value} {zs : List AV} {T : TypeId} (hz : (P.info? T).bind (·.zero) = some zv) (hzs : zv.cells.toList.map AV.v = zs) : OpNW P ⟨d, .alloc T, ty, pos, af, g⟩ e mem (.box T zs) (fun j => .ptr j 0) := by
  intro pb w0 θ w ev hs h
  rw [ex_alloc, Sem.run_bind]
  have hrun : (Instr.alloc T true (.tuple #[])).run P w = .ok (.pointer (some ⟨w.heap.size, 0, none⟩)) (w.alloc (.cells zv.cells T)) := by
    cases hq : P.info? T with
    | none => rw [hq] at hz; cases hz
    | some i => rw [hq] at hz; simp at hz; simp [Instr.alloc, zeroValue, typeInfo, hq, hz, newVar, newRow]
  rw [hrun]
  refine ⟨(Ext.refl w).alloc _, (fun b hb => by have hb' : some w.heap.size = some b := hb; cases hb'; exact Nat.le_refl _), fun θ' pr _ => ?_, fun θ' pr j hj => .ptr j 0 w.heap.size _ hj rfl⟩
  refine ⟨w.heap.size, zv.cells.toList, .inl hs.base, rfl, by simpa using heap_alloc_new w _, by rw [← hzs]; simp, fun i a u ha hu => ?_⟩
  rw [← hzs, List.getElem?_map, hu] at ha
  simp at ha; subst ha
  exact .ro (.v _)
theorem st_alloc {zv : Value} {zs : List AV} {m : Nat} {T : TypeId} (hz : (P.info? T).bind (·.zero) = some zv) (hzs : zv.cells.toList.map AV.v = zs) (hl : mem.length = m) : OpST P ⟨d, .alloc T, ty, pos, af, g⟩ e mem (.ptr m 0) (mem ++ [.box T zs]) := nw_st (h := fun j => .ptr j 0) (nw_alloc hz hzs) hl
/-- A parameter's variable. -/
theorem nw_box {l : List AV} {T : TypeId} {a : AV} (hx : evA e x = a) (hc : cellsA a = some l) : OpNW P ⟨d, .box T x, ty, pos, af, g⟩ e mem (.box T l) (fun j => .ptr j 0) := by
  intro pb w0 θ w ev hs h
  have h1 := h x (by simp [Op.operands])
  rw [hx] at h1
  obtain ⟨h2, h3⟩ := cellsA_ok h1 hc
  have e1 : execOp (evE ev) ⟨d, .box T x, ty, pos, af, g⟩ = (do pure (.value (← Instr.box T (evE ev x)))) := rfl
  have hrun : (Instr.box T (evE ev x)).run P w = .ok (.pointer (some ⟨w.heap.size, 0, none⟩)) (w.alloc (.cells (evE ev x).cells T)) := by simp [Instr.box, newVar, newRow]
  rw [e1, Sem.run_bind, hrun]
  refine ⟨(Ext.refl w).alloc _, (fun b hb => by have hb' : some w.heap.size = some b := hb; cases hb'; exact Nat.le_refl _), fun θ' pr k => ?_, fun θ' pr j hj => .ptr j 0 w.heap.size _ hj rfl⟩
  exact ⟨w.heap.size, (evE ev x).cells.toList, .inl hs.base, rfl, by simpa using heap_alloc_new w _, by simpa using h2, fun i a u ha hu => k _ _ (h3 i a u ha (by simpa using hu))⟩
theorem st_box {l : List AV} {m : Nat} {T : TypeId} {a : AV} (hx : evA e x = a) (hc : cellsA a = some l) (hl : mem.length = m) : OpST P ⟨d, .box T x, ty, pos, af, g⟩ e mem (.ptr m 0) (mem ++ [.box T l]) := nw_st (h := fun j => .ptr j 0) (nw_box hx hc) hl

/-- What may be stored in one cell. -/
def oneA : AV → Bool
  | .v x => x.oneCell'
  | .row _ _ | .ref _ | .clo _ _ _ | .ptr _ _ => true
  | _ => false
theorem oneA_ok {θ : List Value} {pr : Nat → Prop} {w : World} {a : AV} {x : Value} (h : R1 θ pr w a x) (ha : oneA a = true) : x.oneCell' = true := by
  cases a with
  | v c => rw [h.val]; exact ha
  | row k els => cases h.getRow <;> rfl
  | ref c => cases h.getRef; rfl
  | clo fn l m => cases h with
    | ro h => cases h; rfl
    | clo => rfl
  | ptr j o => obtain ⟨b, y, _, _, rfl⟩ := h.getPtr; rfl
  | _ => cases ha
theorem setAt_len {α : Type} (cells l : List α) (off : Nat) (ho : off + l.length ≤ cells.length) : (setAt cells off l).length = cells.length := by simp [setAt]; omega
theorem setAt_get {α : Type} (cells l : List α) (off : Nat) (ho : off ≤ cells.length) (i : Nat) : (setAt cells off l)[i]? = if i < off then cells[i]? else if i < off + l.length then l[i - off]? else cells[i]? := by
  unfold setAt
  have h1 : (cells.take off).length = off := by simp; omega
  by_cases a : i < off
  · rw [if_pos a, List.append_assoc, List.getElem?_append_left (by omega), List.getElem?_take_of_lt a]
  · rw [if_neg a]
    by_cases b : i < off + l.length
    · rw [if_pos b, List.append_assoc, List.getElem?_append_right (by omega), h1, List.getElem?_append_left (by omega)]
    · rw [if_neg b, List.getElem?_append_right (by simp; omega), List.getElem?_drop]
      congr 1; simp; omega
theorem run_store_cells {θ : List Value} {pr : Nat → Prop} {w : World} {T : TypeId} {b off n : Nat} {cur : List Value} {v : Value} (hh : w.heap[b]? = some (.cells cur.toArray T (0, 0))) (hsz : (P.info? t).map (·.size) = some n) (hn : v.cells.size = n) (ho : off + n ≤ cur.length) (h1 : ∀ u ∈ v.cells.toList, u.oneCell' = true) :
    (Instr.storeAt t (.pointer (some ⟨b, off, none⟩)) v).run P w = .ok () (w.setRow b (setAt cur off v.cells.toList).toArray) := by
  have := run_storeCells_at (P := P) b off T v.cells.toList 0 cur.toArray w hh (by simp; omega) h1
  cases hq : P.info? t with
  | none => rw [hq] at hsz; cases hsz
  | some i =>
    rw [hq] at hsz; simp at hsz
    simp only [Nat.add_zero, Array.length_toList, hn] at this
    have e : (setAt cur off v.cells.toList) = cur.take off ++ v.cells.toList ++ cur.drop (off + n) := by unfold setAt; rw [Array.length_toList, hn]
    rw [e]
    simp [Instr.storeAt, Instr.sureAddr, storeVar, sizeOf, typeInfo, hq, hsz, hn, Sem.run_bind, this]
theorem below_setRow {B b : Nat} {w : World} (h : B ≤ b) (cs : Array Value) : Below B w (w.setRow b cs) := ⟨rfl, rfl, rfl, by simp, fun k hk => setRow_other w b k cs (by omega)⟩
/-- A store into a variable of one's own. -/
theorem se_store {j off n : Nat} {T : TypeId} {cells l : List AV} {a : AV} (hx : evA e x = .ptr j off) (hy : evA e y = a) (hc : cellsA a = some l) (hone : l.all oneA = true) (hm : mem[j]? = some (.box T cells)) (hsz : (P.info? t).map (·.size) = some n) (hn : l.length = n) (ho : off + n ≤ cells.length) :
    OpSET P ⟨d, .store t x y, ty, pos, af, g⟩ e mem j (.box T (setAt cells off l)) := by
  intro pb w0 θ w ev hs h
  have h1 := h x (by simp [Op.operands])
  have h2 := h y (by simp [Op.operands])
  rw [hx] at h1; rw [hy] at h2
  obtain ⟨b, v, hθ, hbase, hp⟩ := h1.getPtr
  obtain ⟨b', xs, h3, rfl, h4, h5, h6⟩ := hs.ob j _ v hm hθ
  cases hbase
  obtain ⟨h7, h8⟩ := cellsA_ok h2 hc
  have hrun := run_store_cells (P := P) (θ := θ) (pr := Prot pb θ mem) (t := t) (off := off) (n := n) (v := evE ev y) h4 hsz (by omega) (by omega) (fun u hu => by
    obtain ⟨i, hi, rfl⟩ := List.getElem_of_mem hu
    have hil : i < l.length := by simp at hi; omega
    exact oneA_ok (h8 i l[i] _ (List.getElem?_eq_getElem hil) (by simp at hi; simp [hi])) (List.all_eq_true.1 hone _ (List.getElem_mem hil)))
  have e1 : execOp (evE ev) ⟨d, .store t x y, ty, pos, af, g⟩ = (do Instr.storeAt t (evE ev x) (evE ev y); pure .skip) := rfl
  rw [e1, Sem.run_bind, hp, hrun]
  refine ⟨rfl, Step.write hs hm (by simp) hθ (below_setRow (Nat.zero_le _) _) (fun b hb hne => setRow_other w b' b _ (fun e => hne (by rw [e]; rfl))) fun pr k => ?_⟩
  have hcl : (evE ev y).cells.toList.length = n := by simp; omega
  refine ⟨b', setAt xs off (evE ev y).cells.toList, h3, rfl, setRow_heap w b' _ _ T (0, 0) h4, by rw [setAt_len _ _ _ (by omega), setAt_len _ _ _ (by omega), h5], fun i a u ha hu => ?_⟩
  rw [setAt_get _ _ _ (by omega)] at ha hu
  rw [hcl] at hu
  rw [hn] at ha
  by_cases c1 : i < off
  · rw [if_pos c1] at ha hu
    exact k _ _ (h6 i a u ha hu)
  · rw [if_neg c1] at ha hu
    by_cases c2 : i < off + n
    · rw [if_pos c2] at ha hu
      exact k _ _ (h8 _ a u ha (by simpa using hu))
    · rw [if_neg c2] at ha hu
      exact k _ _ (h6 i a u ha hu)
theorem st_store {j off n : Nat} {T : TypeId} {cells l : List AV} {a : AV} (hx : evA e x = .ptr j off) (hy : evA e y = a) (hc : cellsA a = some l) (hone : l.all oneA = true) (hm : mem[j]? = some (.box T cells)) (hsz : (P.info? t).map (·.size) = some n) (hn : l.length = n) (ho : off + n ≤ cells.length) :
    OpST P ⟨d, .store t x y, ty, pos, af, g⟩ e mem (.v undef) (mem.set j (.box T (setAt cells off l))) := set_st (se_store hx hy hc hone hm hsz hn ho)
theorem flatten_length {α : Type} {k : Nat} : ∀ {els : List (List α)}, (∀ l ∈ els, l.length = k) → els.flatten.length = els.length * k
  | [], _ => by simp
  | l :: els, h => by
    rw [List.flatten_cons, List.length_append, h l (by simp), flatten_length (fun l hl => h l (by simp [hl])), List.length_cons, Nat.succ_mul]; omega
end
end Go.Proofs.YtfmjmngkgmlghaaDoor
