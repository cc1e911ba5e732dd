/- Texts of this claim, one behind the other: lemmas for the statement. -/
import Derived.Test.YtgiiedpambimoaaDoorM2
import Derived.Laws.IdiomStrings
import Derived.Laws.Cover1
import Derived.Test.YtgiiedpambimoaaDoorProg
import Derived.Test.YtgiiedpambimoaaDoorM1
import Derived.RangeFuncNested
import Derived.RangeFuncBound
import Derived.RangeFuncCalls
import Derived.RangeFuncLeaves
import Derived.OwnWalkIn
import Derived.TacticsInMore
import Derived.LoopNIn
import Derived.LoopIn
import Derived.Lib.AppendZerosOnto
/- The abstract machine: bytes of strings; equality of bools. No conditions on a program. -/
namespace Go.Proofs.YtgiiedpambimoaaDoor
open Go Go.RowKit
set_option linter.unusedVariables false
set_option linter.unusedSimpArgs false
section
variable {P : Program} {N : Nat} {Q : AQ} {e : Nat → AV} {mem : List Ob} {d : Option Tmp} {ty t t2 : TypeId} {pos : String} {af : Array Edge} {g : Option (Nat × Bool)} {x y z : Operand}
/-- A new block beside the objects. -/
theorem notProt_new {pb : Nat → Prop} {w0 : Bs} {w : World} {θ : List Value} (hs : SimM pb w0 w θ mem) {b : Nat} (hb : w.heap.size ≤ b) : ¬ Prot pb θ mem b := by
  rintro (hq | ⟨j, o, v, q1, q2, q3, q4⟩)
  · have := (hs.low _ hq).1; have := hs.ext.size; omega
  · have := ((hs.ob j o v q1 q3).lt q2 q4).2; omega
/-- A call of a function's name that came as a value. -/
theorem ro_callf {f : FuncId} {as : Array Operand} {ts : Array TypeId} {args : List AV} {r : AV} (hx : evA e x = .v (.func (.func f) #[] #[])) (hargs : evL e as.toList = args) (hro : roO.roL args = true) (hc : FnOk P f args (fun q => q = r)) (hcf : ∀ args w, (callFunc f args).run P w = .ok (.enter f args) w) :
    OpRO P ⟨d, .call ⟨.value x, as, ts⟩, ty, pos, af, g⟩ e mem r := by
  intro pb w0 θ w ev hs h
  have hvs : (as.toList.map (evE ev)).length = args.length := by rw [← hargs]; simp [evL]
  have h0 := h x (by simp [Op.operands, Call.operands])
  rw [hx] at h0
  rw [ex_call h0.val rfl]
  refine rel_call hcf ((hc (Prot pb θ mem) w _ hvs fun i a v ha hv => ?_).mono ?_)
  · have ha' := ha
    rw [← hargs, evL, List.getElem?_map] at ha'
    rw [List.getElem?_map] at hv
    cases hx : as.toList[i]? with
    | none => rw [hx] at hv; cases hv
    | some x =>
      rw [hx] at ha' hv
      simp at ha' hv
      subst ha' hv
      have hmem : x ∈ as := by have := List.mem_of_getElem? hx; simpa using this
      exact (h x (by simp [Op.operands, Call.operands, hmem])).ro0 (roL_get hro ha)
  · rintro en w' ⟨q, v, he, rfl, h4, h5⟩
    exact ⟨v, he, .ro (R0.back hs h4), h5⟩
end
end Go.Proofs.YtgiiedpambimoaaDoor

/- The abstract machine: literals without elements, appended to; values compared part by part. No conditions on a program. -/
namespace Go.Proofs.YtgiiedpambimoaaDoor
open Go Go.RowKit Go.Proofs
set_option linter.unusedSimpArgs false
set_option linter.unusedVariables false
section
variable {P : Program} {e : Nat → AV} {mem : List Ob} {d : Option Tmp} {ty t t2 : TypeId} {pos : String} {af : Array Edge} {g : Option (Nat × Bool)} {x y z : Operand}

theorem r1_vals {θ : List Value} {pr : Nat → Prop} {w : World} {l : List AV} {xs : List Value} {v : Value} (h : R1 θ pr w (.agg l) v) (hl : l = xs.map AV.v) : v = .agg xs.toArray := by
  subst hl
  obtain ⟨ys, rfl, h1, h2⟩ := h.getAgg
  congr 2
  apply List.ext_getElem (by simpa using h1)
  intro j a1 a2
  exact (h2 j (.v xs[j]) ys[j] (by simp [a2]) (by simp [a1])).val
/-- Two structs compared. -/
theorem ro_aeql {l m : List AV} {xs ys : List Value} {b : Bool} (hx : evA e x = .agg l) (hy : evA e y = .agg m) (hl : l = xs.map AV.v ∧ m = ys.map AV.v ∧ ∀ w, (do eqGuard .eql t x y (.agg xs.toArray) (.agg ys.toArray); binOp .eql t (.agg xs.toArray) (.agg ys.toArray) : Sem Value).run P w = .ok (.bool b) w) : OpRO P ⟨d, .binOp .eql t x y t2, ty, pos, af, g⟩ e mem (.v (.bool b)) := by
  intro pb w0 θ w ev hs h
  have h1 := h x (by simp [Op.operands])
  have h2 := h y (by simp [Op.operands])
  rw [hx] at h1; rw [hy] at h2
  rw [ex_binOp (r1_vals h1 hl.1) (r1_vals h2 hl.2.1), Sem.run_bind, hl.2.2]
  exact ⟨.ro (.v _), Ext.refl w⟩
end
/-- Lengths, in one. -/
theorem lnS : (∀ {α β : Type} (f : α → β) (l : List α), (l.map f).length = l.length) ∧ (∀ {α : Type} (l : List α) (i : Nat) (a : α), (l.set i a).length = l.length) ∧ (∀ {α : Type} (l m : List α), (l ++ m).length = l.length + m.length) ∧ (∀ {α : Type} (n : Nat) (a : α), (List.replicate n a).length = n) ∧
    (∀ {α : Type} (a : α) (l : List α), (a :: l).length = l.length + 1) ∧ (∀ {α : Type}, ([] : List α).length = 0) ∧ (∀ {α : Type} (n : Nat) (l : List α), (l.drop n).length = l.length - n) ∧ (∀ {α : Type} (n : Nat) (l : List α), (l.take n).length = min n l.length) ∧ (∀ {α : Type} (l : List α), l.reverse.length = l.length) :=
  ⟨fun f l => List.length_map f, fun _ _ _ => List.length_set .., fun _ _ => List.length_append, fun _ _ => List.length_replicate, fun _ _ => rfl, rfl, fun _ _ => List.length_drop, fun _ _ => List.length_take, fun _ => List.length_reverse⟩
theorem qS : (∀ {α : Type} (a : α) (l : List α), (a :: l).length = l.length + 1) ∧ (∀ {α : Type}, ([] : List α).length = 0) ∧ (∀ n : Nat, 0 + n = n) ∧ (∀ {α : Type} (a : α) (n : Nat) (l : List α), (a :: l).take (n + 1) = a :: l.take n) ∧ (∀ {α : Type} (l : List α), l.take 0 = []) ∧ (∀ {α : Type} (n : Nat), ([] : List α).take n = []) ∧
    (∀ {α : Type} (a : α) (n : Nat) (l : List α), (a :: l).drop (n + 1) = l.drop n) ∧ (∀ {α : Type} (l : List α), l.drop 0 = l) ∧ (∀ {α : Type} (n : Nat), ([] : List α).drop n = []) ∧ (∀ {α : Type} (a : α) (l m : List α), a :: l ++ m = a :: (l ++ m)) ∧ (∀ {α : Type} (l : List α), [] ++ l = l) ∧ (∀ {α : Type} (l : List α), l ++ [] = l) ∧
    (∀ {α : Type} (a b : α) (l : List α), (a :: l).headD b = a) ∧ (∀ {α : Type} (a b : α) (l : List α), (a :: l).set 0 b = b :: l) ∧ (∀ {α : Type} (a b : α) (n : Nat) (l : List α), (a :: l).set (n + 1) b = a :: l.set n b) :=
  ⟨fun _ _ => rfl, rfl, Nat.zero_add, fun _ _ _ => rfl, fun _ => rfl, fun _ => List.take_nil, fun _ _ _ => rfl, fun _ => rfl, fun _ => List.drop_nil, fun _ _ _ => rfl, fun _ => rfl, List.append_nil, fun _ _ _ => rfl, fun _ _ _ => rfl, fun _ _ _ _ => rfl⟩
end Go.Proofs.YtgiiedpambimoaaDoor

/- The abstract machine: a region that draws its order, with new objects among its first operations. No conditions on a program. -/
namespace Go.Proofs.YtgiiedpambimoaaDoor
open Go Go.RowKit Go.Proofs
set_option linter.unusedSimpArgs false
set_option linter.unusedVariables false

section
variable {P : Program} {ops : Array Oper}
end

/-- What an operation does to the objects. -/
structure Eff where
  op : Nat
  idx : Nat
  ob : Ob
section
variable {M : Mode} {P : Program} {N : Nat} {Q : AQ} {mem : List Ob} {ops : List Oper} {tail : List Oper}
/-- An operation waits for another one, over others. -/
inductive Wt (ops : List Oper) : Nat → Nat → Prop
  | one {i k : Nat} {o : Oper} : ops[i]? = some o → waitsB o k = true → Wt ops i k
  | trans {i k l : Nat} : Wt ops i k → Wt ops k l → Wt ops i l
/-- An operation that asks for these places waits for those that write them. -/
def Chk (ops : List Oper) (k : Nat) (R : List Nat) : List Eff → Prop
  | [] => True
  | q :: l => (q.idx ∉ R ∨ Wt ops k q.op) ∧ Chk ops k R l
theorem Chk.at {k : Nat} {R : List Nat} : ∀ {l : List Eff}, Chk ops k R l → ∀ q ∈ l, q.idx ∈ R → Wt ops k q.op
  | _ :: _, h, q, hq, hR => by
    rcases List.mem_cons.1 hq with rfl | hq
    · exact h.1.resolve_left (fun hn => hn hR)
    · exact h.2.at q hq hR
/-- An operation that writes a place waits for those that ask for it. -/
def Chk2 (ops : List Oper) (k j : Nat) : List (Nat × List Nat) → Prop
  | [] => True
  | q :: l => (j ∉ q.2 ∨ Wt ops k q.1) ∧ Chk2 ops k j l
theorem Chk2.at {k j : Nat} : ∀ {l : List (Nat × List Nat)}, Chk2 ops k j l → ∀ q ∈ l, j ∈ q.2 → Wt ops k q.1
  | _ :: _, h, q, hq, hR => by
    rcases List.mem_cons.1 hq with rfl | hq
    · exact h.1.resolve_left (fun hn => hn hR)
    · exact h.2.at q hq hR
/-- What one operation comes to: its value, the places that it asks for, what it writes, whether its object is new. -/
structure One where
  r : AV
  R : List Nat
  eff : Option (Nat × Ob)
  new : Bool
def One.mt (x : One) (mt : List Ob) : List Ob := match x.eff with | some (j, ob) => mt.set j ob | none => mt
/-- Room for new objects. -/
theorem SimM.room {pb : Nat → Prop} {w0 : Bs} {w : World} : ∀ (K : Nat) {θ : List Value} {mem : List Ob}, SimM pb w0 w θ mem → Step pb w0 θ mem w (θ ++ List.replicate K undef) (mem ++ List.replicate K .gone) w
  | 0, θ, mem, h => by simp only [List.replicate_zero, List.append_nil]; exact Step.refl h
  | K + 1, θ, mem, h => by
    have s := Step.new h (Ext.refl w) undef .gone (fun b hb => by cases hb) (fun _ _ _ => trivial)
    have h1 := SimM.room K s.sim
    simp only [List.append_assoc, List.singleton_append, ← List.replicate_succ] at h1
    exact s.trans h1
end
section
variable {M : Mode} {P : Program} {N : Nat} {Q : AQ} {ops l tail : List Oper} {n0 K k c : Nat} {e : Nat → AV} {mt : List Ob} {E : List Eff} {A : List (Nat × List Nat)} {o : Oper} {d : Option Tmp} {ty : TypeId} {pos : String} {af : Array Edge} {g : Option (Nat × Bool)} {op : Op}
end
section
variable {mem m : List Ob} {o : Ob} {q : Option Ob} {i j n K : Nat}
end
section
variable {P : Program} {e : Nat → AV} {mem : List Ob} {d : Option Tmp} {ty t t2 : TypeId} {pos : String} {af : Array Edge} {g : Option (Nat × Bool)} {x y z : Operand}
end
end Go.Proofs.YtgiiedpambimoaaDoor

/- Contracts of the lowest functions of chapter 5. No conditions on a program. -/
namespace Go.Proofs.YtgiiedpambimoaaDoor
open Go Go.RowKit Go.Proofs
set_option linter.unusedSimpArgs false
set_option linter.unusedVariables false
def withinB (n lo hi : Int) : Bool := decide (lo ≤ n) && decide (n ≤ hi)
set_option maxRecDepth 100000 in
set_option maxHeartbeats 1000000 in
theorem bWithin_ok (n lo hi : Int) : FnOk Tryd.prog 18 [.v (.int .i64 n), .v (.int .i64 lo), .v (.int .i64 hi)] (fun q => q = .v (.bool (withinB n lo hi))) := by
  refine fnOk_of (fn := Tryd.f18) 15 (by kernel_rfl) rfl (by kernel_rfl) (Nat.le_of_ble_eq_true rfl) ?_
  intro e_0 m_0 hA hm_0
  have s0_0 : evA e_0 (.tmp 0) = _ := hA 0 _ rfl
  have s1_0 : evA e_0 (.tmp 1) = _ := hA 1 _ rfl
  have s2_0 : evA e_0 (.tmp 2) = _ := hA 2 _ rfl
  have ml_0 : m_0.length = 0 := by rw [hm_0]; rfl
  clear hA hm_0
  refine aw_seq ?_
  refine aw_text (by kernel_rfl) ?_
  refine al_ro' (ro_assign ev_c) trivial rfl ?_
  refine al_end (fun e_1 he_1 => ?_)
  have s0_1 := ef 0 he_1 (up_m rfl s0_0)
  have s1_1 := ef 1 he_1 (up_m rfl s1_0)
  have s2_1 := ef 2 he_1 (up_m rfl s2_0)
  clear he_1 s0_0 s1_0 s2_0
  refine then_n ?_
  refine aw_seq ?_
  refine aw_text (by kernel_rfl) ?_
  refine al_ro' (ro_move s1_1) trivial rfl ?_
  refine al_ro' (ro_move (up_m rfl s0_1)) trivial rfl ?_
  refine al_ro' (ro_leq (up_m rfl up_h) up_h) trivial rfl ?_
  refine al_ro' (ro_move up_h) trivial rfl ?_
  refine al_case up_h (fun hb_2 hq_2 => ?_) (fun hb_2 hq_2 => ?_)
  · (first | replace hq_2 := bnt hq_2 | replace hq_2 := bnf hq_2 | replace hq_2 := bt hq_2 | replace hq_2 := bf hq_2 | replace hq_2 := bt' hq_2 | replace hq_2 := bf' hq_2 | skip)
    first
    | (cases hq_2; done) | (exfalso; omega)
    | (
       refine al_ro' (ro_move (u4 rfl s0_1)) ⟨_, rfl, hb_2⟩ rfl ?_
       refine al_ro' (ro_move (up_m rfl (u4 rfl s2_1))) ⟨_, rfl, (up_m rfl hb_2)⟩ rfl ?_
       refine al_ro' (ro_leq (up_m rfl up_h) up_h) ⟨_, rfl, (u2 rfl hb_2)⟩ rfl ?_
       refine al_ro' (ro_pickT (up_m rfl (u2 rfl hb_2)) up_h) trivial rfl ?_
       refine al_ro' (ro_assign up_h) trivial rfl ?_
       refine al_end (fun e_3 he_3 => ?_)
       have s6_3 := ef 6 he_3 up_h
       clear he_3 hb_2 s0_1 s1_1 s2_1
       refine then_n ?_
       refine aw_ret ?_
       refine ret1 (.inr rfl) (by kernel_rfl) (resV_tmp s6_3) (.ro _ rfl) ?_
       clear s6_3  ml_0
       (first | rfl | (simp [withinB, *]; done) | (simp [withinB, *] <;> omega) | (simp_all [withinB]; done) | (simp_all [withinB] <;> omega)))
  · (first | replace hq_2 := bnt hq_2 | replace hq_2 := bnf hq_2 | replace hq_2 := bt hq_2 | replace hq_2 := bf hq_2 | replace hq_2 := bt' hq_2 | replace hq_2 := bf' hq_2 | skip)
    first
    | (cases hq_2; done) | (exfalso; omega)
    | (
       refine al_skip' ⟨_, rfl, .inl hb_2⟩ rfl ?_
       refine al_skip' ⟨_, rfl, .inl (up_m rfl hb_2)⟩ rfl ?_
       refine al_skip' ⟨_, rfl, .inl (u2 rfl hb_2)⟩ rfl ?_
       refine al_ro' (ro_pickF (up_m rfl (u2 rfl hb_2)) ev_c) trivial rfl ?_
       refine al_ro' (ro_assign up_h) trivial rfl ?_
       refine al_end (fun e_4 he_4 => ?_)
       have s6_4 := ef 6 he_4 up_h
       clear he_4 hb_2 s0_1 s1_1 s2_1
       refine then_n ?_
       refine aw_ret ?_
       refine ret1 (.inr rfl) (by kernel_rfl) (resV_tmp s6_4) (.ro _ rfl) ?_
       clear s6_4  ml_0
       (first | rfl | (simp [withinB, *]; done) | (simp [withinB, *] <;> omega) | (simp_all [withinB]; done) | (simp_all [withinB] <;> omega)))
def unlessE (ok : Bool) (e : Int) : Int := if ok then 0 else e
def firstE : List Int → Int
  | [] => 0
  | e :: l => if e = 0 then firstE l else e
theorem firstE_drop {l : List Int} {i : Nat} (h : i < l.length) : firstE (l.drop i) = if l.getD i 0 = 0 then firstE (l.drop (i + 1)) else l.getD i 0 := by
  rw [List.drop_eq_getElem_cons h]
  simp [firstE, List.getD_eq_getElem?_getD, h]
end Go.Proofs.YtgiiedpambimoaaDoor

/- The abstract machine: structs compared. No conditions on a program. -/
namespace Go.Proofs.YtgiiedpambimoaaDoor
open Go Go.RowKit Go.Proofs
set_option linter.unusedSimpArgs false
set_option linter.unusedVariables false

section
variable {P : Program}
/-- Two values of a type are alike, or not. -/
def EqV (P : Program) (h : Nat) (T : TypeId) (x y : Value) (b : Bool) : Prop := ∀ (d : Nat) (w : World), (Op.equalIn (d + h) T x y).run P w = .ok b w
theorem eqv_int {T : TypeId} {k k' : IntKind} (hu : P.underlying T = some (.int k)) (a b : Int) : EqV P 1 T (.int k' a) (.int k' b) (decide (a = b)) := fun d w => by
  unfold Op.equalIn
  simp [Sem.run_bind, run_underlying hu, beq_dec]
/-- Fields compared, one by one. -/
inductive EqF (P : Program) (h : Nat) (xs ys : Array Value) : List Field → Bool → Prop
  | nil : EqF P h xs ys [] true
  | cons {f : Field} {l : List Field} {x y : Value} {b c : Bool} : (f.name != "_") = true → (∀ w, (part f.type xs f.offset).run P w = .ok x w) → (∀ w, (part f.type ys f.offset).run P w = .ok y w) → EqV P h f.type x y b → EqF P h xs ys l c → EqF P h xs ys (f :: l) (b && c)
theorem eqv_struct {T : TypeId} {fs : Array Field} {h : Nat} {xs ys : Array Value} {b : Bool} (hu : P.underlying T = some (.struct fs)) (hst : P.stoodInHeld T = false) (hf : EqF P h xs ys fs.toList b) : EqV P (h + 1) T (.agg xs) (.agg ys) b := fun d w => by
  rw [show d + (h + 1) = (d + h) + 1 by omega, Op.equalIn]
  simp only [Sem.run_bind, run_underlying hu, Result.andThen_ok]
  have hpr : (program).run P w = .ok P w := rfl
  simp only [hpr, Result.andThen_ok, hst, Bool.false_eq_true, if_false]
  clear hu hst
  obtain ⟨l⟩ := fs
  simp only [List.forIn_toArray] at hf ⊢
  induction hf with
  | nil => rfl
  | cons h1 h2 h3 h4 h5 ih =>
    rename_i f l x y b c
    have hn : f.name ≠ "_" := by simpa using h1
    simp only [List.forIn_cons, Sem.run_bind, hn, h2, h3, h4 d, ne_eq, not_false_eq_true, if_true, Result.andThen_ok]
    cases b
    · simp [Sem.run_bind, Sem.run_pure]
    · simp [Sem.run_bind, Sem.run_pure]
      have := ih
      simp [Sem.run_bind, Sem.run_pure] at this
      exact this
/-- Fields compared, by their types and places. -/
inductive EqS (P : Program) (h : Nat) (xs ys : Array Value) : List (TypeId × Nat) → Bool → Prop
  | nil : EqS P h xs ys [] true
  | cons {t o : Nat} {l : List (TypeId × Nat)} {x y : Value} {b c : Bool} : (∀ w, (part t xs o).run P w = .ok x w) → (∀ w, (part t ys o).run P w = .ok y w) → EqV P h t x y b → EqS P h xs ys l c → EqS P h xs ys ((t, o) :: l) (b && c)
theorem EqS.fields {h : Nat} {xs ys : Array Value} : ∀ {fs : List Field} {b : Bool}, EqS P h xs ys (fs.map fun f => (f.type, f.offset)) b → (fs.all fun f => f.name != "_") = true → EqF P h xs ys fs b
  | [], _, hs, _ => by cases hs; exact .nil
  | f :: l, _, hs, hn => by
    simp only [List.all_cons, Bool.and_eq_true] at hn
    cases hs with
    | cons h2 h3 h4 h5 => exact .cons hn.1 h2 h3 h4 (EqS.fields h5 hn.2)
theorem EqV.up {h : Nat} {T : TypeId} {x y : Value} {b : Bool} (hv : EqV P h T x y b) (k : Nat) : EqV P (h + k) T x y b := fun d w => by
  rw [show d + (h + k) = (d + k) + h by omega]; exact hv _ w
theorem eqs_struct {T : TypeId} {h : Nat} {xs ys : Array Value} {b : Bool} (sp : List (TypeId × Nat)) (hu : P.underlying T = some (.struct (fsOf P T))) (hst : P.stoodInHeld T = false) (hs : ((fsOf P T).toList.map fun f => (f.type, f.offset)) = sp) (hn : ((fsOf P T).toList.all fun f => f.name != "_") = true) (hf : EqS P h xs ys sp b) : EqV P (h + 1) T (.agg xs) (.agg ys) b := by
  subst hs
  exact eqv_struct hu hst (hf.fields hn)
section
variable {e : Nat → AV} {mem : List Ob} {d : Option Tmp} {ty t t2 : TypeId} {pos : String} {af : Array Edge} {g : Option (Nat × Bool)} {x y : Operand}
theorem run_eq_agg {h : Nat} {xs ys : Array Value} {b : Bool} (hg : P.eqGuardType P.depth t = false) (hv : EqV P h t (.agg xs) (.agg ys) b) (hh : h ≤ Op.maxDepth) (w : World) : (do eqGuard .eql t x y (.agg xs) (.agg ys); binOp .eql t (.agg xs) (.agg ys) : Sem Value).run P w = .ok (.bool b) w := by
  have hpr : (program).run P w = .ok P w := rfl
  have h1 := hv (Op.maxDepth - h) w
  rw [Nat.sub_add_cancel hh] at h1
  simp [eqGuard, binOp, Op.equal, Sem.run_bind, hpr, hg, h1]
theorem ro_sqeql {h : Nat} {l m : List AV} {xs ys : List Value} {b : Bool} (hx : evA e x = .agg l) (hy : evA e y = .agg m) (hl : l = xs.map AV.v) (hm : m = ys.map AV.v) (hg : P.eqGuardType P.depth t = false) (hv : EqV P h t (.agg xs.toArray) (.agg ys.toArray) b) (hh : h ≤ Op.maxDepth) : OpRO P ⟨d, .binOp .eql t x y t2, ty, pos, af, g⟩ e mem (.v (.bool b)) :=
  ro_aeql hx hy ⟨hl, hm, fun w => run_eq_agg hg hv hh w⟩
theorem run_ne_agg {h : Nat} {xs ys : Array Value} {b : Bool} (hg : P.eqGuardType P.depth t = false) (hv : EqV P h t (.agg xs) (.agg ys) b) (hh : h ≤ Op.maxDepth) (w : World) : (do eqGuard .neq t x y (.agg xs) (.agg ys); binOp .neq t (.agg xs) (.agg ys) : Sem Value).run P w = .ok (.bool (!b)) w := by
  have hpr : (program).run P w = .ok P w := rfl
  have h1 := hv (Op.maxDepth - h) w
  rw [Nat.sub_add_cancel hh] at h1
  simp [eqGuard, binOp, Op.equal, Sem.run_bind, hpr, hg, h1]
theorem ro_sqneq {h : Nat} {l m : List AV} {xs ys : List Value} {b : Bool} (hx : evA e x = .agg l) (hy : evA e y = .agg m) (hl : l = xs.map AV.v) (hm : m = ys.map AV.v) (hg : P.eqGuardType P.depth t = false) (hv : EqV P h t (.agg xs.toArray) (.agg ys.toArray) b) (hh : h ≤ Op.maxDepth) : OpRO P ⟨d, .binOp .neq t x y t2, ty, pos, af, g⟩ e mem (.v (.bool (!b))) := by
  intro pb w0 θ w ev hs h
  have h1 := h x (by simp [Op.operands])
  have h2 := h y (by simp [Op.operands])
  rw [hx] at h1; rw [hy] at h2
  rw [ex_binOp (r1_vals h1 hl) (r1_vals h2 hm), Sem.run_bind, run_ne_agg hg hv hh]
  exact ⟨.ro (.v _), Ext.refl w⟩
end
end
end Go.Proofs.YtgiiedpambimoaaDoor

/- A range over a function whose rounds are known: the iterator hands over the members of a list, one by one. No conditions on a program. -/
namespace Go.Proofs.YtgiiedpambimoaaDoor
open Go Go.RowKit

/-- Cells of one of these element types. -/
def inT (T : TypeId → Bool) : Obj → Bool
  | .cells _ t _ => T t
  | _ => false

/-- What a round keeps: all below n0, and every block but for those of cells of these types. -/
structure Keeps (T : TypeId → Bool) (n0 : Nat) (W W' : World) : Prop where
  below : Below n0 W W'
  same : ∀ (k : Nat) (o : Obj), W.heap[k]? = some o → inT T o = false → W'.heap[k]? = some o

/-- What happens beside: cells stay as they are. -/
structure Calm (B : Nat) (W W' : World) : Prop where
  below : Below B W W'
  same : ∀ (k : Nat) (c : Array Value) (t : TypeId) (f : Nat × Nat), W.heap[k]? = some (.cells c t f) → W'.heap[k]? = some (.cells c t f)

theorem ext_block {W W' : World} (h : Ext W W') {k : Nat} {o : Obj} (hk : W.heap[k]? = some o) : W'.heap[k]? = some o := (h.block k (Array.getElem?_eq_some_iff.1 hk).1).trans hk
theorem Calm.putObj {B : Nat} {W : World} {l : Nat} {o : Obj} (o' : Obj) (hB : B ≤ l) (h : W.heap[l]? = some o) (ho : o.isCells = false) : Calm B W (W.putObj l o') :=
  ⟨(Below.refl B W).grown (grownBy_putObj' W l o') (by have := (Array.getElem?_eq_some_iff.1 h).1; omega) (fun k e => by cases e; omega), fun k c t f hk => by
    by_cases e : k = l
    · subst e; rw [h] at hk; cases hk; cases ho
    · exact (World.putObj_heap_other e).trans hk⟩
theorem Keeps.refl (T : TypeId → Bool) (n0 : Nat) (W : World) : Keeps T n0 W W := ⟨Below.refl _ _, fun _ _ h _ => h⟩
theorem Keeps.trans {T : TypeId → Bool} {n0 : Nat} {A B C : World} (h : Keeps T n0 A B) (k : Keeps T n0 B C) : Keeps T n0 A C := ⟨h.below.trans k.below, fun i o hi ho => k.same i o (h.same i o hi ho) ho⟩
theorem Keeps.ext {T : TypeId → Bool} {n0 : Nat} {A B C : World} (h : Keeps T n0 A B) (k : Ext B C) (hn : n0 ≤ A.heap.size) : Keeps T n0 A C :=
  h.trans ⟨k.mono (Nat.le_trans hn h.below.size), fun _ _ hk _ => ext_block k hk⟩
theorem Keeps.setCell {T : TypeId → Bool} {n0 : Nat} {A B : World} (h : Keeps T n0 A B) {p : Addr} (hp : n0 ≤ p.block) {c : Array Value} {t : TypeId} {f : Nat × Nat} (hb : B.heap[p.block]? = some (.cells c t f)) (ht : T t = true) (v : Value) : Keeps T n0 A (B.setCell p v) :=
  ⟨h.below.setCell hp v, fun k o hk ho => by
    have h1 := h.same k o hk ho
    refine (Below.heap_setCell B p v k ?_).trans h1
    rintro rfl
    rw [hb] at h1
    cases h1
    simp only [inT] at ho
    rw [ht] at ho; cases ho⟩
theorem Keeps.grown {T : TypeId → Bool} {n0 : Nat} {A B C : World} (h : Keeps T n0 A B) {row : Option Nat} (hg : B.grownBy C row) (hn : n0 ≤ A.heap.size) (hr : ∀ g, row = some g → n0 ≤ g ∧ ∃ c t f, B.heap[g]? = some (.cells c t f) ∧ T t = true) : Keeps T n0 A C :=
  ⟨h.below.grown hg (Nat.le_trans hn h.below.size) (fun g e => (hr g e).1), fun k o hk ho => by
    have h1 := h.same k o hk ho
    refine (hg.block k (Array.getElem?_eq_some_iff.1 h1).1 ?_).trans h1
    intro e
    obtain ⟨_, c, t, f, hb, ht⟩ := hr k e.symm
    rw [hb] at h1
    cases h1
    simp only [inT] at ho
    rw [ht] at ho; cases ho⟩

end Go.Proofs.YtgiiedpambimoaaDoor

/- The abstract machine: functions that loops over functions call (iterators). No conditions on a program. -/
namespace Go.Proofs.YtgiiedpambimoaaDoor
open Go Go.RowKit Go.Proofs
set_option linter.unusedSimpArgs false
set_option linter.unusedVariables false

/-- What holds between rounds: whether the loop still wants more, how many members were handed over, the objects, the world. -/
abbrev JJ := Bool → Nat → List Value → List Ob → World → Prop
/-- A round, as the iterator sees it. -/
def YS (P : Program) (lb : Nat) (pb : Nat → Prop) (w0 : Bs) (ys : List (List AV)) (J : JJ) : Prop :=
  ∀ (i : Nat) (y : List AV) (θ : List Value) (mem : List Ob) (w : World) (ws : List Value), ys[i]? = some y → ws.length = y.length → (∀ (k : Nat) (a : AV) (x : Value), y[k]? = some a → ws[k]? = some x → R0 (Prot pb θ mem) w a x) → SimM pb w0 w θ mem → J true i θ mem w →
    YieldAt Fence.wide 7 P lb ws.toArray w fun en w2 => ∃ (b : Bool) (θ2 : List Value) (mem2 : List Ob), en = .returned (.bool b) ∧ SimM pb w0 w2 θ2 mem2 ∧ (∀ a x, R1 θ (Prot pb θ mem) w a x → R1 θ2 (Prot pb θ2 mem2) w2 a x) ∧ (∀ ds, Mks w0.w.heap.size (Prot pb θ mem) w ds → Mks w0.w.heap.size (Prot pb θ2 mem2) w2 ds) ∧ J b (i + 1) θ2 mem2 w2
/-- New blocks alone change nothing of it. -/
def JSt (pb : Nat → Prop) (w0 : Bs) (J : JJ) : Prop := ∀ b i θ mem A B, SimM pb w0 A θ mem → J b i θ mem A → Ext A B → J b i θ mem B
/-- An iterator that hands over these. -/
def GenOk (P : Program) (f : FuncId) (l m : List AV) (ys : List (List AV)) : Prop :=
  ∀ (lb : Nat) (pb : Nat → Prop) (w0 : Bs) (θ : List Value) (mem : List Ob) (w : World) (vs us : List Value) (J : JJ), vs.length = l.length → us.length = m.length → (∀ (i : Nat) (a : AV) (x : Value), l[i]? = some a → vs[i]? = some x → R1 θ (Prot pb θ mem) w a x) → (∀ (i : Nat) (a : AV) (x : Value), m[i]? = some a → us[i]? = some x → R1 θ (Prot pb θ mem) w a x) →
    JSt pb w0 J → YS P lb pb w0 ys J → SimM pb w0 w θ mem → J true 0 θ mem w →
    CallsIn Fence.wide 8 P f (vs ++ .func (.yield lb) #[] #[] :: us).toArray w fun en w' => (∃ v, en = .returned v) ∧ ∃ b i θ' mem', SimM pb w0 w' θ' mem' ∧ J b i θ' mem' w' ∧ (b = true → i = ys.length)

/-- A frame without marks. -/
def FitI (N : Nat) (pb : Nat → Prop) (w0 : Bs) (e : Nat → AV) (mem : List Ob) (θ : List Value) (a : Act) (w : World) : Prop := Fit N pb w0 e mem θ a w ∧ a.defers = []
theorem put_dfr {a : Act} (d : Option Tmp) (v : Value) (h : a.defers = []) : (a.put d v).defers = [] := by cases d <;> exact h
abbrev IQ := Exit → (Nat → AV) → Bool → Nat → Prop
/-- Where an iterator's code comes to. -/
def LI (N : Nat) (pb : Nat → Prop) (w0 : Bs) (J : JJ) (Q : IQ) : Exit → Act → World → Prop := fun x a w => ∃ e b i θ mem, FitI N pb w0 e mem θ a w ∧ J b i θ mem w ∧ Q x e b i
def IW (lb : Nat) (ys : List (List AV)) (P : Program) (N : Nat) (c : Code) (Q : IQ) (e : Nat → AV) (b : Bool) (i : Nat) : Prop :=
  ∀ pb w0 J, JSt pb w0 J → YS P lb pb w0 ys J → ∀ θ mem a w, FitI N pb w0 e mem θ a w → J b i θ mem w → c.wpIn Fence.wide 8 P (LI N pb w0 J Q) a w
def IL (lb : Nat) (ys : List (List AV)) (P : Program) (N : Nat) (ops : Array Oper) (l : List Oper) (Q : IQ) (e : Nat → AV) (b : Bool) (i : Nat) : Prop :=
  ∀ pb w0 J, JSt pb w0 J → YS P lb pb w0 ys J → ∀ θ mem a w, FitI N pb w0 e mem θ a w → J b i θ mem w → wpListIn Fence.wide 8 P ops (LI N pb w0 J Q) l a w
section
variable {lb : Nat} {ys : List (List AV)} {P : Program} {N : Nat} {Q : IQ} {e : Nat → AV} {b : Bool} {i : Nat}
def ThenI (K : (Nat → AV) → Bool → Nat → Prop) (Q : IQ) : IQ
  | .normal, e, b, i => K e b i
  | x, e, b, i => Q x e b i
theorem iw_seq {x y : Code} (h : IW lb ys P N x (ThenI (IW lb ys P N y Q) Q) e b i) : IW lb ys P N (.seq x y) Q e b i := by
  intro pb w0 J hJ hY θ mem a w hf hj
  refine wpIn_seq (wpIn_mono (h pb w0 J hJ hY θ mem a w hf hj) ?_)
  rintro x a' w' ⟨e', b', i', θ', mem', h1, h2, h3⟩
  cases x with
  | normal => exact h3 pb w0 J hJ hY θ' mem' a' w' h1 h2
  | _ => exact ⟨e', b', i', θ', mem', h1, h2, h3⟩
theorem iw_case {c : Operand} {x y : Code} {t : Bool} (hc : evA e c = .v (.bool t)) (ht : t = true → IW lb ys P N x Q e b i) (hf : t = false → IW lb ys P N y Q e b i) : IW lb ys P N (.cond c x y) Q e b i := by
  intro pb w0 J hJ hY θ mem a w hfit hj
  have hv : a.eval c = .bool t := by
    cases c with
    | tmp s => have := hfit.1.sl s; rw [show e s = .v (.bool t) from hc] at this; exact this.val
    | const v => exact (show v = .bool t by simpa [evA] using hc)
    | global g => cases hc
    | func f => cases hc
  refine wpIn_cond_split hv (fun h => ht h pb w0 J hJ hY θ mem a w hfit hj) (fun h => hf h pb w0 J hJ hY θ mem a w hfit hj)
theorem iw_true {c : Operand} {x y : Code} (hc : evA e c = .v (.bool true)) (h : IW lb ys P N x Q e b i) : IW lb ys P N (.cond c x y) Q e b i := iw_case hc (fun _ => h) (fun h => by cases h)
theorem iw_false {c : Operand} {x y : Code} (hc : evA e c = .v (.bool false)) (h : IW lb ys P N y Q e b i) : IW lb ys P N (.cond c x y) Q e b i := iw_case hc (fun h => by cases h) (fun _ => h)
theorem iw_skip (h : Q .normal e b i) : IW lb ys P N .skip Q e b i := fun _ _ _ _ _ θ mem _ _ hf hj => wpIn_skip ⟨e, b, i, θ, mem, hf, hj, h⟩
theorem iw_exit {id : Nat} (h : Q (.exit id) e b i) : IW lb ys P N (.exit id) Q e b i := fun _ _ _ _ _ θ mem _ _ hf hj => wpIn_exit ⟨e, b, i, θ, mem, hf, hj, h⟩
theorem iw_ret (h : Q .ret e b i) : IW lb ys P N .ret Q e b i := fun _ _ _ _ _ θ mem _ _ hf hj => wpIn_ret ⟨e, b, i, θ, mem, hf, hj, h⟩
def BlockI (id : Nat) (Q : IQ) : IQ
  | .exit k, e, b, i => if k = id then Q .normal e b i else Q (.exit k) e b i
  | x, e, b, i => Q x e b i
theorem iw_block {id : Nat} {c : Code} (h : IW lb ys P N c (BlockI id Q) e b i) : IW lb ys P N (.block id c) Q e b i := by
  intro pb w0 J hJ hY θ mem a w hf hj
  refine wpIn_block (wpIn_mono (h pb w0 J hJ hY θ mem a w hf hj) ?_)
  rintro x a' w' ⟨e', b', i', θ', mem', h1, h2, h3⟩
  cases x with
  | exit k =>
    simp only [BlockI] at h3
    simp only [Exit.inBlock]
    by_cases hi : k = id
    · rw [if_pos hi] at h3 ⊢; exact ⟨e', b', i', θ', mem', h1, h2, h3⟩
    · rw [if_neg hi] at h3 ⊢; exact ⟨e', b', i', θ', mem', h1, h2, h3⟩
  | _ => exact ⟨e', b', i', θ', mem', h1, h2, h3⟩
theorem iw_loop {S : Type} {c : Code} (I : S → (Nat → AV) → Bool → Nat → Prop) (μ : S → Nat) (s0 : S) (h0 : I s0 e b i)
    (round : ∀ s e b i, I s e b i → IW lb ys P N c (ThenI (fun e' b' i' => ∃ s', I s' e' b' i' ∧ μ s' < μ s) Q) e b i) : IW lb ys P N (.loop c) Q e b i := by
  intro pb w0 J hJ hY θ mem a w hf hj
  let p : Act → World → Nat → Prop := fun a w n => ∃ s e b i θ mem, FitI N pb w0 e mem θ a w ∧ J b i θ mem w ∧ I s e b i ∧ μ s = n
  refine wpIn_loop (fun a w => ∃ n, p a w n) (fun a w => leastN (p a w)) ⟨_, s0, e, b, i, θ, mem, hf, hj, h0, rfl⟩ ?_
  rintro a w ⟨n, hn⟩
  obtain ⟨⟨s, e, b, i, θ, mem, h1, h2, h3, h4⟩, -⟩ := leastN_spec hn
  refine wpIn_mono (round s e b i h3 pb w0 J hJ hY θ mem a w h1 h2) ?_
  rintro x a' w' ⟨e', b', i', θ', mem', h5, h6, h7⟩
  cases x with
  | normal =>
    obtain ⟨s', h8, h9⟩ := h7
    have hp : p a' w' (μ s') := ⟨s', e', b', i', θ', mem', h5, h6, h8, rfl⟩
    have := (leastN_spec hp).2 _ hp
    exact ⟨⟨_, hp⟩, by omega⟩
  | _ => exact ⟨e', b', i', θ', mem', h5, h6, h7⟩
theorem iw_text {id : Nat} {l : List Oper} (h : IL lb ys P N l.toArray l Q e b i) : IW lb ys P N (.region id l.toArray false) Q e b i := fun pb w0 J hJ hY θ mem a w hf hj => wpIn_region_lit (h pb w0 J hJ hY θ mem a w hf hj)
theorem theni_n {K : (Nat → AV) → Bool → Nat → Prop} (h : K e b i) : ThenI K Q .normal e b i := h
theorem theni_x {K : (Nat → AV) → Bool → Nat → Prop} {id : Nat} (h : Q (.exit id) e b i) : ThenI K Q (.exit id) e b i := h
theorem theni_r {K : (Nat → AV) → Bool → Nat → Prop} (h : Q .ret e b i) : ThenI K Q .ret e b i := h
theorem blocki_n {id : Nat} (h : Q .normal e b i) : BlockI id Q .normal e b i := h
theorem blocki_r {id : Nat} (h : Q .ret e b i) : BlockI id Q .ret e b i := h
theorem blocki_hit {id : Nat} (h : Q .normal e b i) : BlockI id Q (.exit id) e b i := by show (if id = id then _ else _); rw [if_pos rfl]; exact h
/-- An operation, in a frame of its own. -/
theorem opIn_rel {n : Nat} {o : Oper} {a : Act} {w : World} {φ : Value → World → Prop} {K : Act → World → Prop} {R : Exit → Act → World → Prop} (hnd : ∀ c, o.op ≠ .defer c) (hK : ∀ v w', φ v w' → K (a.put o.dst v) w') (h : RelUpon P φ ((execOp a.eval o).run P w)) : o.wpIn Fence.wide n P a w K R := by
  refine ⟨fun f _ => trivial, ?_⟩
  rw [Oper.semAt_eq _ _ _ hnd]
  generalize (execOp a.eval o).run P w = r at *
  cases r with
  | ok x w' =>
    cases x <;> simp only [RelUpon] at h <;> simp only [Oper.uponIn]
    case value v => exact hK _ _ h
    case skip => exact hK _ _ h
    case enter f args => exact ⟨fun hn => (by cases hn), callsIn_wide.2 (h.mono fun e w'' ⟨u, he, hu⟩ => by subst he; exact hK _ _ hu)⟩
  | halt x w' => simp only [RelUpon] at h
def ndB (op : Op) : Bool := match op with | .defer _ => false | _ => true
theorem ndB_ne {op : Op} (h : ndB op = true) : ∀ c, op ≠ .defer c := fun c hc => by rw [hc] at h; cases h
section
variable {ops : Array Oper} {l : List Oper} {d : Option Tmp} {ty : TypeId} {pos : String} {af : Array Edge} {g : Option (Nat × Bool)} {op : Op}
theorem il_ro {r : AV} (ho : ∀ mem, OpRO P ⟨d, op, ty, pos, af, g⟩ e mem r) (hg : Gd ops ⟨d, op, ty, pos, af, g⟩ e) (hd : (dstB N d && ndB op) = true) (h : IL lb ys P N ops l Q (upA e d r) b i) : IL lb ys P N ops (⟨d, op, ty, pos, af, g⟩ :: l) Q e b i := by
  simp only [Bool.and_eq_true] at hd
  intro pb w0 J hJ hY θ mem a w hf hj
  show (if Region.wanted _ (yielded ops a.tmps) then _ else _)
  rw [if_pos (wanted_of hf.1 hg)]
  refine opIn_rel (φ := fun v w' => R1 θ (Prot pb θ mem) w' r v ∧ Ext w w') (ndB_ne hd.2) ?_ ?_
  · rintro v w' ⟨h1, h2⟩
    exact h pb w0 J hJ hY θ mem _ w' ⟨hf.1.put (Step.ext hf.1.sim h2) hd.1 h1, put_dfr _ _ hf.2⟩ (hJ _ _ _ _ _ _ hf.1.sim hj h2)
  · rw [evE_of]
    exact ho mem pb w0 θ w _ hf.1.sim fun x _ => ops_of hf.1 x
theorem il_end (h : ∀ e1, e1 = e → Q .normal e1 b i) : IL lb ys P N ops [] Q e b i := fun _ _ _ _ _ θ mem _ _ hf hj => ⟨e, b, i, θ, mem, hf, hj, h e rfl⟩
/-- yield. -/
theorem il_yield {x : Operand} {as : Array Operand} {ts : Array TypeId} {y : List AV} (hx : evA e x = .v (.func (.yield lb) #[] #[])) (hargs : evL e as.toList = y) (hro : roO.roL y = true) (hg : Gd ops ⟨d, .call ⟨.value x, as, ts⟩, ty, pos, af, g⟩ e) (hd : dstB N d = true) (hb : b = true) (hy : ys[i]? = some y)
    (h : ∀ b', IL lb ys P N ops l Q (upA e d (.v (.bool b'))) b' (i + 1)) : IL lb ys P N ops (⟨d, .call ⟨.value x, as, ts⟩, ty, pos, af, g⟩ :: l) Q e b i := by
  subst hb
  intro pb w0 J hJ hY θ mem a w hf hj
  show (if Region.wanted _ (yielded ops a.tmps) then _ else _)
  rw [if_pos (wanted_of hf.1 hg)]
  have hws : (as.toList.map (evE fun t => a.tmps.getD t undef)).length = y.length := by rw [← hargs]; simp [evL]
  obtain ⟨fn, tmps, assign, body, h1, h2⟩ := hY i y θ mem w (as.toList.map (evE fun t => a.tmps.getD t undef)) hy hws (fun k v u ha hv => by
    have ha' := ha
    rw [← hargs, evL, List.getElem?_map] at ha'
    rw [List.getElem?_map] at hv
    cases hq : as.toList[k]? with
    | none => rw [hq] at hv; cases hv
    | some q =>
      rw [hq] at ha' hv
      simp only [Option.map_some, Option.some.injEq] at ha' hv
      subst ha' hv
      exact (ops_of hf.1 q).ro0 (roL_get hro ha)) hf.1.sim hj
  refine ⟨fun f _ => trivial, ?_⟩
  rw [Oper.semAt_eq _ _ _ (fun c hc => by cases hc), evE_of]
  have hxv := ops_of hf.1 x
  rw [hx] at hxv
  rw [ex_call hxv.val rfl]
  have e1 : (do let q ← Deferred.ofValue (.func (.yield lb) #[] #[]) (as.toList.map (evE fun t => a.tmps.getD t undef)).toArray; invoke q.target q.args : Sem Next).run P w = (Instr.yield lb (as.toList.map (evE fun t => a.tmps.getD t undef)).toArray).run P w := by
    simp [Deferred.ofValue, Sem.run_bind, invoke]
  rw [e1, h1]
  refine ⟨fun hn => (by cases hn), h2.mono ?_⟩
  rintro en w2 ⟨b', θ2, mem2, rfl, g1, g2, g3, g4⟩
  refine h b' pb w0 J hJ hY θ2 mem2 _ w2 ?_ g4
  have hf2 : Fit N pb w0 e mem2 θ2 a w2 := ⟨hf.1.size, g3 _ hf.1.dfr, fun t => g2 _ _ (hf.1.sl t), g1⟩
  exact ⟨hf2.put (Step.refl g1) hd (.ro (.v _)), put_dfr _ _ hf.2⟩
end
end
/-- What an iterator's body comes to. -/
def GenQ (n : Nat) : IQ := fun x _ b i => (x = .normal ∨ x = .ret) ∧ (b = true → i = n)
theorem gen_n {n : Nat} {e : Nat → AV} {b : Bool} {i : Nat} (h : b = true → i = n) : GenQ n .normal e b i := ⟨.inl rfl, h⟩
theorem gen_r {n : Nat} {e : Nat → AV} {b : Bool} {i : Nat} (h : b = true → i = n) : GenQ n .ret e b i := ⟨.inr rfl, h⟩
/-- **An iterator's contract, by its body.** -/
theorem gen_of {P : Program} {f : FuncId} {fn : Func} {c : Code} {l m : List AV} {ys : List (List AV)} (N : Nat) (hf : P.funcs[f]? = some fn) (hb : fn.body = some c) (hn : fn.ntmps = N) (hN : l.length + 1 + m.length ≤ N) (hres : ∀ tmps w, ∃ v, (results fn tmps).run P w = .ok v w)
    (hA : ∀ lb e, (∀ (t : Nat) (a : AV), (l ++ .v (.func (.yield lb) #[] #[]) :: m)[t]? = some a → evA e (.tmp t) = a) → IW lb ys P N c (GenQ ys.length) e true 0) : GenOk P f l m ys := by
  subst hn
  intro lb pb w0 θ mem w vs us J hvl hul hvr hur hJ hY hs hj
  obtain ⟨as, has⟩ : ∃ as, as = l ++ .v (.func (.yield lb) #[] #[]) :: m := ⟨_, rfl⟩
  obtain ⟨zs, hzs⟩ : ∃ zs, zs = vs ++ .func (.yield lb) #[] #[] :: us := ⟨_, rfl⟩
  have hlen : zs.length = as.length := by rw [has, hzs]; simp [hvl, hul]
  have hasl : as.length = l.length + 1 + m.length := by rw [has]; simp; omega
  have hR : ∀ (t : Nat) (a : AV) (x : Value), as[t]? = some a → zs[t]? = some x → R1 θ (Prot pb θ mem) w a x := by
    intro t a x ha hx
    rw [has] at ha; rw [hzs] at hx
    by_cases h1 : t < l.length
    · rw [List.getElem?_append_left h1] at ha
      rw [List.getElem?_append_left (by omega)] at hx
      exact hvr t a x ha hx
    · rw [List.getElem?_append_right (by omega)] at ha
      rw [List.getElem?_append_right (by omega), hvl] at hx
      cases hk : t - l.length with
      | zero => rw [hk] at ha hx; simp at ha hx; subst ha hx; exact .ro (.v _)
      | succ k => rw [hk] at ha hx; exact hur k a x (by simpa using ha) (by simpa using hx)
  rw [← hzs]
  refine callsIn_of_wp hf hb trivial (wpIn_mono (hA lb (fun t => as.getD t (.v undef)) (fun t a ha => by rw [← has] at ha; show as.getD t _ = a; rw [List.getD_eq_getElem?_getD, ha]; rfl) pb w0 J hJ hY θ mem { tmps := zs.toArray ++ Array.replicate (fn.ntmps - zs.toArray.size) undef, defers := [] } w ⟨⟨?_, Mks.nil _ _ _, fun t => ?_, hs⟩, rfl⟩ hj) ?_) rfl
  · simp; omega
  · show R1 _ _ _ (as.getD t (.v undef)) ((zs.toArray ++ Array.replicate (fn.ntmps - zs.toArray.size) undef).getD t undef)
    by_cases ht : t < as.length
    · have e1 : as.getD t (.v undef) = as[t] := by simp [List.getD_eq_getElem?_getD, ht]
      have ht' : t < zs.length := by omega
      have e2 : (zs.toArray ++ Array.replicate (fn.ntmps - zs.toArray.size) undef).getD t undef = zs[t] := by
        rw [Array.getD_eq_getD_getElem?, Array.getElem?_append_left (by simpa using ht')]; simp [ht']
      rw [e1, e2]
      exact hR t _ _ (List.getElem?_eq_getElem ht) (List.getElem?_eq_getElem ht')
    · have e1 : as.getD t (.v undef) = .v undef := by simp [List.getD_eq_getElem?_getD, List.getElem?_eq_none (Nat.le_of_not_lt ht)]
      have e2 : (zs.toArray ++ Array.replicate (fn.ntmps - zs.toArray.size) undef).getD t undef = undef := by
        rw [Array.getD_eq_getD_getElem?, Array.getElem?_append_right (by simp; omega)]
        by_cases h3 : t - zs.length < fn.ntmps - zs.length
        · simp [h3]
        · simp [h3]
      rw [e1, e2]; exact .ro (.v _)
  · rintro x a w' ⟨e, b, i, θ', mem', hf', hj', hx, hbi⟩
    obtain ⟨v, hv⟩ := hres a.tmps w'
    rcases hx with rfl | rfl
    · exact ⟨hf'.2, v, hv, ⟨v, rfl⟩, b, i, θ', mem', hf'.1.sim, hj', hbi⟩
    · exact ⟨hf'.2, v, hv, ⟨v, rfl⟩, b, i, θ', mem', hf'.1.sim, hj', hbi⟩
/-! ### The caller -/
theorem CalmA.putL {B L : Nat} {w : World} {st : Loop} (o' : Obj) (hB : B ≤ L) (h : w.heap[L]? = some (.loop st)) : CalmA B w (w.putObj L o') :=
  ⟨(Below.refl B w).grown (grownBy_putObj' w L o') (by have := (Array.getElem?_eq_some_iff.1 h).1; omega) (fun k e => by cases e; omega), fun b c t f hk => by
    by_cases e : b = L
    · subst e; rw [h] at hk; cases hk
    · exact (World.putObj_heap_other e).trans hk⟩
/-- What is kept beside the block L. -/
structure KeepL (pb : Nat → Prop) (L : Nat) (θ : List Value) (mem : List Ob) (w : World) (θ' : List Value) (mem' : List Ob) (w' : World) : Prop where
  keep : ∀ a x, R1 θ (Prot pb θ mem) w a x → R1 θ' (Prot pb θ' mem') w' a x
  sz : w.heap.size ≤ w'.heap.size
  same : ∀ b, b < w.heap.size → ¬ Prot pb θ mem b → b ≠ L → w'.heap[b]? = w.heap[b]?
  np : ∀ b, b < w.heap.size → ¬ Prot pb θ mem b → ¬ Prot pb θ' mem' b
section
variable {pb : Nat → Prop} {L : Nat} {w0 : Bs} {θ θ' θ'' : List Value} {mem mem' mem'' : List Ob} {w w' w'' : World}
theorem KeepL.of (h : Step pb w0 θ mem w θ' mem' w') : KeepL pb L θ mem w θ' mem' w' := ⟨h.keep, h.sz, fun b hb hn _ => h.same b hb hn, h.np⟩
theorem KeepL.trans (h : KeepL pb L θ mem w θ' mem' w') (k : KeepL pb L θ' mem' w' θ'' mem'' w'') : KeepL pb L θ mem w θ'' mem'' w'' :=
  ⟨fun a x hr => k.keep a x (h.keep a x hr), Nat.le_trans h.sz k.sz, fun b hb hn hL => (k.same b (Nat.lt_of_lt_of_le hb h.sz) (h.np b hb hn) hL).trans (h.same b hb hn hL), fun b hb hn => k.np b (Nat.lt_of_lt_of_le hb h.sz) (h.np b hb hn)⟩
theorem KeepL.put {st : Loop} (o' : Obj) (h : w.heap[L]? = some (.loop st)) : KeepL pb L θ mem w θ mem (w.putObj L o') :=
  ⟨fun _ _ hr => hr.calm (CalmA.putL (B := L) o' (Nat.le_refl _) h), by simp, fun _ _ _ hL => World.putObj_heap_other hL, fun _ _ hn => hn⟩
theorem Mks.keepL {B : Nat} {st : Loop} {ds : List Deferred} (h : Mks B (Prot pb θ mem) w ds) (k : KeepL pb L θ mem w θ' mem' w') (hL : w.heap[L]? = some (.loop st)) : Mks B (Prot pb θ' mem') w' ds :=
  ⟨fun d hd => by
    obtain ⟨D, h1, h2, h3, h4, h5⟩ := h.1 d hd
    have hne : D ≠ L := fun e => by rw [e, hL] at h4; cases h4
    exact ⟨D, h1, Nat.lt_of_lt_of_le h2 k.sz, k.np D h2 h3, (k.same D h2 h3 hne).trans h4, h5⟩, h.2⟩
end
def upZ : (Nat → AV) → List (Tmp × AV) → Nat → AV
  | e, [] => e
  | e, (p, a) :: l => upZ (upA e (some p) a) l
theorem upZ_fit {N : Nat} {pr : Nat → Prop} {θ : List Value} {w : World} : ∀ (qs : List (Tmp × AV)) (zs : List (Tmp × Value)) (e : Nat → AV) (ts : Array Value), zs.length = qs.length → (∀ (k : Nat) (p : Tmp) (a : AV), qs[k]? = some (p, a) → p < N ∧ ∃ x, zs[k]? = some (p, x) ∧ R1 θ pr w a x) → ts.size = N → (∀ t, R1 θ pr w (e t) (ts.getD t undef)) →
    (zs.foldl (fun t (q : Tmp × Value) => t.setIfInBounds q.1 q.2) ts).size = N ∧ ∀ t, R1 θ pr w (upZ e qs t) ((zs.foldl (fun t (q : Tmp × Value) => t.setIfInBounds q.1 q.2) ts).getD t undef)
  | [], [], e, ts, _, _, hs, h => ⟨hs, h⟩
  | [], z :: zs, _, _, hl, _, _, _ => by simp at hl
  | q :: qs, [], _, _, hl, _, _, _ => by simp at hl
  | (p, a) :: qs, z :: zs, e, ts, hl, hq, hs, h => by
    obtain ⟨hp, x, hx, hr⟩ := hq 0 p a rfl
    simp at hx
    subst hx
    refine upZ_fit qs zs _ _ (by simpa using hl) (fun k p' a' hk => hq (k + 1) p' a' hk) (by simp [hs]) fun t => ?_
    by_cases ht : t = p
    · subst ht
      have : (ts.setIfInBounds t x).getD t undef = x := by simp [Array.getD_eq_getD_getElem?, hs, hp]
      rw [this]; simp only [upA, if_true]; exact hr
    · have : (ts.setIfInBounds p x).getD t undef = ts.getD t undef := by
        rw [Array.getD_eq_getD_getElem?, Array.getElem?_setIfInBounds_ne (fun h => ht h.symm), ← Array.getD_eq_getD_getElem?]
      rw [this]; simp only [upA, if_neg ht]; exact h t
/-- How a round may be left. -/
def RndQ (I : Nat → List Ob → Prop) (Q : AQ) (e : Nat → AV) (i : Nat) : AQ
  | .normal, _, m => I (i + 1) m
  | .ret, _, m => Q .ret e m
  | .exit id, _, m => Q (.exit id) e m
  | _, _, _ => False
def FallB (K : (Nat → AV) → List Ob → Prop) : AQ
  | .normal, e, m => K e m
  | _, _, _ => False
/-- **A loop over a function.** -/
theorem aw_range {P : Program} {N : Nat} {Q : AQ} {e : Nat → AV} {mem : List Ob} {g : Operand} {ps : Array Tmp} {assign body : Code} {gf : FuncId} {l m : List AV} {ys : List (List AV)} (hg : evA e g = .clo (.func gf) l m) (gen : GenOk P gf l m ys)
    (eg : ∀ args w, (callFunc gf args).run P w = .ok (.enter gf args) w) (hps : ∀ y ∈ ys, y.length = ps.size) (hN : ∀ p ∈ ps.toList, p < N) (I : Nat → List Ob → Prop) (h0 : I 0 mem)
    (round : ∀ i y m', ys[i]? = some y → I i m' → AW .rnd P N assign (FallB fun e' m'' => AW .rnd P N body (RndQ I Q e i) e' m'') (upZ e (ps.toList.zip y)) m') (done : ∀ m', I ys.length m' → Q .normal e m') : AW .top P N (.rangeFunc g ps assign body) Q e mem := by
  intro F n hF pb w0 θ a w hf
  cases hF
  refine wpIn_rangeFunc ?_
  intro fn hfn
  obtain ⟨rec, hrec⟩ : ∃ rec : LoopState → Option Code → Loop, rec = fun st pe => { state := st, pending := pe, fn, tmps := a.tmps, params := ps, assign, body, defers := w.heap.size } := ⟨_, rfl⟩
  obtain ⟨W1, hW1⟩ : ∃ W1, (w.alloc (.deferred (some []))).alloc (.loop (rec .ready none)) = W1 := ⟨_, rfl⟩
  have hL1 : W1.heap[w.heap.size + 1]? = some (.loop (rec .ready none)) := by
    rw [← hW1]; have := World.alloc_heap_new (w.alloc (.deferred (some []))) (.loop (rec .ready none)); rwa [World.size_alloc] at this
  have hK1 : W1.heap[w.heap.size]? = some (.deferred (some [])) := by
    rw [← hW1]; exact (Below.heap_alloc _ _ _ (by simp)).trans (World.alloc_heap_new w _)
  have hx1 : Ext w W1 := by rw [← hW1]; exact ((Ext.refl w).alloc _).alloc _
  have hw0 := hf.sim.ext.size
  have hnp : ∀ b, w.heap.size ≤ b → ¬ Prot pb θ mem b := by
    rintro b hb (hp | ⟨j, o, v, h1, h2, h3, h4⟩)
    · have := (hf.sim.low b hp).1; omega
    · have := ((hf.sim.ob j o v h1 h3).lt h2 h4).2; omega
  have hgv := ops_of hf g
  rw [hg] at hgv
  obtain ⟨xs, us, hge, hxl, hxr, hul, hur⟩ : ∃ xs us : List Value, evE (fun t => a.tmps.getD t undef) g = .func (.func gf) xs.toArray us.toArray ∧ xs.length = l.length ∧ (∀ (i : Nat) (b : AV) (x : Value), l[i]? = some b → xs[i]? = some x → R1 θ (Prot pb θ mem) w b x) ∧ us.length = m.length ∧ (∀ (i : Nat) (b : AV) (x : Value), m[i]? = some b → us[i]? = some x → R1 θ (Prot pb θ mem) w b x) := by
    generalize evE (fun t => a.tmps.getD t undef) g = z at hgv
    cases hgv with
    | ro h => cases h with | clo _ _ _ xs us h1 h2 h3 h4 => exact ⟨xs, us, rfl, h1, fun i b x hb hx => .ro (h2 i b x hb hx), h3, fun i b x hb hx => .ro (h4 i b x hb hx)⟩
    | clo _ _ _ xs us h1 h2 h3 h4 => exact ⟨xs, us, rfl, h1, h2, h3, h4⟩
  refine ⟨w.heap.size + 1, [{ target := .collected w.heap.size, args := #[] }], W1, { target := .fn (.func gf) us.toArray, args := xs.toArray ++ #[.func (.yield (w.heap.size + 1)) #[] #[]] }, W1, gf,
    (xs ++ .func (.yield (w.heap.size + 1)) #[] #[] :: us).toArray, W1, ?_, ?_, fun _ _ => trivial, ?_, fun hd => (by cases hd), ?_⟩
  · rw [← hW1, hrec]; exact run_enterLoop_outer _ _ _ _ _
  · have : resolve a.eval (rangeCall g (w.heap.size + 1)) 0 = resolve (evE (fun t => a.tmps.getD t undef)) (rangeCall g (w.heap.size + 1)) 0 := by rw [evE_of]
    rw [this]
    simp only [rangeCall, resolve, hge]
    simp [go_sem, evE, Deferred.ofValue]
  · simp [invoke, go_sem, eg]
  · have h8 := gen (w.heap.size + 1) pb w0 θ mem W1 xs us
      (fun b i θ' m' w' => KeepL pb (w.heap.size + 1) θ mem W1 θ' m' w' ∧ w'.heap[w.heap.size]? = some (.deferred (some [])) ∧ ((b = true ∧ w'.heap[w.heap.size + 1]? = some (.loop (rec .ready none)) ∧ I i m') ∨
        (b = false ∧ ∃ c, w'.heap[w.heap.size + 1]? = some (.loop (rec .done (some c))) ∧ ((c = .ret ∧ Q .ret e m') ∨ ∃ id, c = .exit id ∧ Q (.exit id) e m'))))
      hxl hul (fun i b x hb hx => (hxr i b x hb hx).ext hx1) (fun i b x hb hx => (hur i b x hb hx).ext hx1) ?_ ?_ (hf.sim.ext' hx1) ⟨KeepL.of (w0 := w0) (Step.refl (hf.sim.ext' hx1)), hK1, .inl ⟨rfl, hL1, h0⟩⟩
    rotate_left
    · rintro b i θ' m' A B hs ⟨h1, h2, h3⟩ hx
      refine ⟨h1.trans (KeepL.of (Step.ext hs hx)), ext_block hx h2, ?_⟩
      rcases h3 with ⟨rfl, h3, h4⟩ | ⟨rfl, c, h3, h4⟩
      · exact .inl ⟨rfl, ext_block hx h3, h4⟩
      · exact .inr ⟨rfl, c, ext_block hx h3, h4⟩
    · rintro i y θ1 m1 w1 ws hy hwl hwr hs1 ⟨hk1, hd1, hj1⟩
      obtain ⟨-, hl1, hi1⟩ : True ∧ w1.heap[w.heap.size + 1]? = some (.loop (rec .ready none)) ∧ I i m1 := by
        rcases hj1 with ⟨_, h3, h4⟩ | ⟨h, _⟩
        · exact ⟨trivial, h3, h4⟩
        · cases h
      have hsz1 := hk1.sz
      have hlt : w.heap.size + 1 < w1.heap.size := (Array.getElem?_eq_some_iff.1 hl1).1
      have hpl : y.length = ps.size := hps y (List.mem_of_getElem? hy)
      have hyy := run_yield (P := P) (args := ws.toArray) hl1 (by rw [hrec]; simp [hwl, hpl])
      rw [hrec] at hyy
      refine ⟨fn, _, assign, body, hyy, roundIn_of_wpIn hfn ?_⟩
      -- the frame of the round
      have hn1 : ∀ b, w.heap.size ≤ b → b < W1.heap.size → ¬ Prot pb θ1 m1 b := fun b hb hb' => hk1.np b hb' (hnp b hb)
      have hW1s : W1.heap.size = w.heap.size + 2 := by rw [← hW1]; simp
      have hfr : ∀ t, R1 θ1 (Prot pb θ1 m1) w1 (e t) (a.tmps.getD t undef) := fun t => hk1.keep _ _ ((hf.sl t).ext hx1)
      have hup := upZ_fit (N := N) (pr := Prot pb θ1 m1) (θ := θ1) (w := w1) (ps.toList.zip y) (ps.toList.zip ws) e a.tmps (by simp [hwl]) (fun k p b hk => by
        obtain ⟨hk1', hk2'⟩ : ps.toList[k]? = some p ∧ y[k]? = some b := by
          rw [List.getElem?_zip_eq_some] at hk; exact hk
        refine ⟨hN p (List.mem_of_getElem? hk1'), ?_⟩
        have hlk : k < y.length := (List.getElem?_eq_some_iff.1 hk2').1
        have hlw : k < ws.length := by omega
        refine ⟨ws[k], by rw [List.getElem?_zip_eq_some]; exact ⟨hk1', List.getElem?_eq_getElem hlw⟩, .ro (hwr k b _ hk2' (List.getElem?_eq_getElem hlw))⟩) hf.size hfr
      have hzip : (ps.zip ws.toArray).foldl (fun t (q : Tmp × Value) => t.setIfInBounds q.1 q.2) a.tmps = (ps.toList.zip ws).foldl (fun t (q : Tmp × Value) => t.setIfInBounds q.1 q.2) a.tmps := by
        rw [← Array.foldl_toList]; simp
      have hfit1 : Fit N pb w0 (upZ e (ps.toList.zip y)) m1 θ1 { tmps := (ps.zip ws.toArray).foldl (fun t (q : Tmp × Value) => t.setIfInBounds q.1 q.2) a.tmps, defers := [] } w1 := by
        refine ⟨?_, Mks.nil _ _ _, ?_, hs1⟩
        · show ((ps.zip ws.toArray).foldl _ a.tmps).size = N
          rw [hzip]; exact hup.1
        · intro t
          show R1 _ _ _ _ (((ps.zip ws.toArray).foldl _ a.tmps).getD t undef)
          rw [hzip]; exact hup.2 t
      refine wpIn_mono (round i y m1 hy hi1 (Fence.wide.inRound (w.heap.size + 1)) 7 ⟨_, rfl⟩ pb w0 θ1 _ w1 hfit1) ?_
      rintro x1 a1 w1' ⟨e1, m2, θ2, hf1, hst1, hq1⟩
      cases x1 with
      | normal =>
        have hq1 : AW .rnd P N body (RndQ I Q e i) e1 m2 := hq1
        have hl1' : w1'.heap[w.heap.size + 1]? = some (.loop (rec .ready none)) := (hst1.same _ hlt (hn1 _ (by omega) (by omega))).trans hl1
        have hd1' : w1'.heap[w.heap.size]? = some (.deferred (some [])) := (hst1.same _ (by omega) (hn1 _ (by omega) (by omega))).trans hd1
        have hn2 : ∀ b, w.heap.size ≤ b → b < W1.heap.size → ¬ Prot pb θ2 m2 b := fun b hb hb' => hst1.np b (by omega) (hn1 b hb hb')
        refine ⟨_, run_beginRound hl1' (by rw [hrec]), ?_⟩
        obtain ⟨wb, hwb⟩ : ∃ wb, wb = w1'.putObj (w.heap.size + 1) (.loop { rec .ready none with state := .busy }) := ⟨_, rfl⟩
        rw [← hwb]
        have hlt' : w.heap.size + 1 < w1'.heap.size := (Array.getElem?_eq_some_iff.1 hl1').1
        have hlb : wb.heap[w.heap.size + 1]? = some (.loop { rec .ready none with state := .busy }) := by rw [hwb]; exact World.putObj_heap_same hlt'
        have hdb : wb.heap[w.heap.size]? = some (.deferred (some [])) := by rw [hwb]; exact (World.putObj_heap_other (by omega)).trans hd1'
        have hcb : CalmA w0.w.heap.size w1' wb := by rw [hwb]; exact CalmA.putL _ (by omega) hl1'
        have hkb : KeepL pb (w.heap.size + 1) θ2 m2 w1' θ2 m2 wb := by rw [hwb]; exact KeepL.put _ hl1'
        have hszb : wb.heap.size = w1'.heap.size := by rw [hwb]; simp
        have hfb : Fit N pb w0 e1 m2 θ2 a1 wb := ⟨hf1.size, hf1.dfr.keepL hkb hl1', fun t => (hf1.sl t).calm hcb, hf1.sim.calm hcb⟩
        refine wpIn_mono (hq1 (Fence.wide.inRound (w.heap.size + 1)) 7 ⟨_, rfl⟩ pb w0 θ2 a1 wb hfb) ?_
        rintro x3 a3 w3 ⟨e3, m3, θ3, hf3, hst3, hq3⟩
        have hl3 : w3.heap[w.heap.size + 1]? = some (.loop { rec .ready none with state := .busy }) := (hst3.same _ (by omega) (hn2 _ (by omega) (by omega))).trans hlb
        have hd3 : w3.heap[w.heap.size]? = some (.deferred (some [])) := (hst3.same _ (by omega) (hn2 _ (by omega) (by omega))).trans hdb
        have fin : ∀ (jump : Option Code), ((jump = none ∧ I (i + 1) m3) ∨ ∃ c, jump = some c ∧ ((c = .ret ∧ Q .ret e m3) ∨ ∃ id, c = .exit id ∧ Q (.exit id) e m3)) → ∃ v w4, (Instr.endRound (w.heap.size + 1) jump).run P w3 = .ok v w4 ∧ ∃ (b : Bool) (θ4 : List Value) (m4 : List Ob), Ending.returned v = .returned (.bool b) ∧ SimM pb w0 w4 θ4 m4 ∧ (∀ a x, R1 θ1 (Prot pb θ1 m1) w1 a x → R1 θ4 (Prot pb θ4 m4) w4 a x) ∧
            (∀ ds, Mks w0.w.heap.size (Prot pb θ1 m1) w1 ds → Mks w0.w.heap.size (Prot pb θ4 m4) w4 ds) ∧ KeepL pb (w.heap.size + 1) θ mem W1 θ4 m4 w4 ∧ w4.heap[w.heap.size]? = some (.deferred (some [])) ∧ ((b = true ∧ w4.heap[w.heap.size + 1]? = some (.loop (rec .ready none)) ∧ I (i + 1) m4) ∨
            (b = false ∧ ∃ c, w4.heap[w.heap.size + 1]? = some (.loop (rec .done (some c))) ∧ ((c = .ret ∧ Q .ret e m4) ∨ ∃ id, c = .exit id ∧ Q (.exit id) e m4))) := by
          intro jump hj
          have hr := run_endRound (P := P) jump hl3
          refine ⟨_, _, hr, jump.isNone, θ3, m3, rfl, ?_⟩
          have hc4 := CalmA.putL (B := w0.w.heap.size) (.loop { ({ rec .ready none with state := .busy } : Loop) with state := if jump.isNone then .ready else .done, pending := jump }) (by omega) hl3
          have hk4 := KeepL.put (pb := pb) (θ := θ3) (mem := m3) (.loop { ({ rec .ready none with state := .busy } : Loop) with state := if jump.isNone then .ready else .done, pending := jump }) hl3
          have hkk : KeepL pb (w.heap.size + 1) θ1 m1 w1 θ3 m3 _ := (((KeepL.of hst1).trans hkb).trans (KeepL.of hst3)).trans hk4
          have hl4 := World.putObj_heap_same (w := w3) (r := w.heap.size + 1) (o := .loop { ({ rec .ready none with state := .busy } : Loop) with state := if jump.isNone then .ready else .done, pending := jump }) (Array.getElem?_eq_some_iff.1 hl3).1
          refine ⟨hf3.sim.calm hc4, hkk.keep, fun ds hm => hm.keepL hkk hl1, hk1.trans hkk, (World.putObj_heap_other (by omega)).trans hd3, ?_⟩
          rcases hj with ⟨rfl, hj⟩ | ⟨c, rfl, hj⟩
          · exact .inl ⟨rfl, by rw [hl4, hrec]; rfl, hj⟩
          · exact .inr ⟨rfl, c, by rw [hl4, hrec]; rfl, hj⟩
        cases x3 with
        | normal => exact fin none (.inl ⟨rfl, hq3⟩)
        | ret => exact fin (some .ret) (.inr ⟨_, rfl, .inl ⟨rfl, hq3⟩⟩)
        | exit id => exact fin (some (.exit id)) (.inr ⟨_, rfl, .inr ⟨id, rfl, hq3⟩⟩)
        | goto t => exact hq3.elim
        | panic ch => exact hq3.elim
        | outgrown => exact hq3.elim
      | _ => exact hq1.elim
    · refine CallsIn.mono ((callsIn_wide (n := n - 1)).2 ((callsIn_wide (n := 8)).1 h8)) ?_
      rintro en w2 ⟨⟨v, rfl⟩, b, i, θ2, m2, hs2, ⟨hk2, hd2, hj2⟩, hbi⟩
      obtain ⟨st, hl2, hst2⟩ : ∃ st : Loop, w2.heap[w.heap.size + 1]? = some (.loop st) ∧ st.state ≠ .busy ∧ st.pending = (if b then none else st.pending) := by
        rcases hj2 with ⟨rfl, h3, _⟩ | ⟨rfl, c, h3, _⟩
        · exact ⟨_, h3, by rw [hrec]; simp, by rw [hrec]; rfl⟩
        · exact ⟨_, h3, by rw [hrec]; simp, rfl⟩
      have hW1s : W1.heap.size = w.heap.size + 2 := by rw [← hW1]; simp
      have hsz2 := hk2.sz
      have hr := run_endLoop (P := P) hl2 hst2.1
      have hc4 := CalmA.putL (B := w0.w.heap.size) (.loop { st with state := .exhausted }) (by omega) hl2
      have hk4 := (hk2.trans (KeepL.put (pb := pb) (θ := θ2) (mem := m2) (.loop { st with state := .exhausted }) hl2))
      have hstep : Step pb w0 θ mem w θ2 m2 (w2.putObj (w.heap.size + 1) (.loop { st with state := .exhausted })) :=
        ⟨hs2.calm hc4, fun b x hr => hk4.keep b x (hr.ext hx1), Nat.le_trans hx1.size hk4.sz, fun b hb hn => (hk4.same b (by omega) hn (by omega)).trans (hx1.block b hb), fun b hb hn => hk4.np b (by omega) hn⟩
      have hfe : Fit N pb w0 e m2 θ2 { a with defers := { target := .collected w.heap.size, args := #[] } :: a.defers } (w2.putObj (w.heap.size + 1) (.loop { st with state := .exhausted })) := by
        refine ⟨hf.size, ?_, fun t => hstep.keep _ _ (hf.sl t), hstep.sim⟩
        have hm := hf.dfr.step hstep
        refine ⟨fun d hd => ?_, List.pairwise_cons.2 ⟨fun d hd hcon => ?_, hm.2⟩⟩
        · rcases List.mem_cons.1 hd with rfl | hd
          · exact ⟨_, rfl, by simp; omega, hk4.np _ (by omega) (hnp _ (Nat.le_refl _)), (World.putObj_heap_other (by omega)).trans hd2, hw0⟩
          · exact hm.1 d hd
        · obtain ⟨D, g1, g2, _⟩ := hf.dfr.1 d hd
          rw [g1] at hcon
          injection hcon with hcon
          omega
      rcases hj2 with ⟨rfl, h3, h4⟩ | ⟨rfl, c, h3, h4⟩
      · rw [hl2] at h3
        cases h3
        have h5 := hbi rfl
        subst h5
        have hp : (rec .ready none).pending = none := by rw [hrec]
        exact ⟨none, _, hr.trans (congrArg (fun p => Result.ok p _) hp), ⟨e, m2, θ2, hfe, hstep, done m2 h4⟩⟩
      · rw [hl2] at h3
        cases h3
        have hp : (rec .done (some c)).pending = some c := by rw [hrec]
        refine ⟨some c, _, hr.trans (congrArg (fun p => Result.ok p _) hp), ?_⟩
        rcases h4 with ⟨rfl, h4⟩ | ⟨id, rfl, h4⟩
        · exact wpIn_ret ⟨e, m2, θ2, hfe, hstep, h4⟩
        · exact wpIn_exit ⟨e, m2, θ2, hfe, hstep, h4⟩
/-! ### Forms that am.py prints -/
section
variable {lb : Nat} {ys : List (List AV)} {P : Program} {N : Nat} {Q : IQ} {e : Nat → AV} {b : Bool} {i : Nat} {ops : Array Oper} {l : List Oper} {d : Option Tmp} {ty : TypeId} {pos : String} {af : Array Edge} {g : Option (Nat × Bool)}
theorem il_yield2 {x : Operand} {as : Array Operand} {ts : Array TypeId} {y : List AV} (hx : evA e x = .v (.func (.yield lb) #[] #[])) (hargs : evL e as.toList = y) (hro : roO.roL y = true) (hg : Gd ops ⟨d, .call ⟨.value x, as, ts⟩, ty, pos, af, g⟩ e) (hd : dstB N d = true) (hy : ys[i]? = some y)
    (ht : IL lb ys P N ops l Q (upA e d (.v (.bool true))) true (i + 1)) (hf : IL lb ys P N ops l Q (upA e d (.v (.bool false))) false (i + 1)) : IL lb ys P N ops (⟨d, .call ⟨.value x, as, ts⟩, ty, pos, af, g⟩ :: l) Q e true i :=
  il_yield hx hargs hro hg hd rfl hy fun b' => by cases b' <;> assumption
end
theorem rnd_n {I : Nat → List Ob → Prop} {Q : AQ} {e e' : Nat → AV} {i : Nat} {m : List Ob} (h : I (i + 1) m) : RndQ I Q e i .normal e' m := h
theorem fallb_n {K : (Nat → AV) → List Ob → Prop} {e : Nat → AV} {m : List Ob} (h : K e m) : FallB K .normal e m := h
section
variable {P : Program} {N : Nat} {Q : AQ} {e : Nat → AV} {mem : List Ob} {g : Operand} {assign body : Code} {gf : FuncId} {l m : List AV}
theorem aw_range2 {ys : List (List AV)} {p q : Tmp} (hg : evA e g = .clo (.func gf) l m) (gen : GenOk P gf l m ys) (eg : ∀ args w, (callFunc gf args).run P w = .ok (.enter gf args) w) (hps : ∀ y ∈ ys, y.length = 2) (hN : p < N ∧ q < N) (I : Nat → List Ob → Prop) (h0 : I 0 mem)
    (round : ∀ i a b m', ys[i]? = some [a, b] → I i m' → AW .rnd P N assign (FallB fun e' m'' => AW .rnd P N body (RndQ I Q e i) e' m'') (upA (upA e (some p) a) (some q) b) m') (done : ∀ m', I ys.length m' → Q .normal e m') : AW .top P N (.rangeFunc g #[p, q] assign body) Q e mem := by
  refine aw_range hg gen eg hps (fun r hr => by simp at hr; rcases hr with rfl | rfl; exact hN.1; exact hN.2) I h0 (fun i y m' hy hI => ?_) done
  have hl := hps y (List.mem_of_getElem? hy)
  match y, hl, hy with
  | [a, b], _, hy => exact round i a b m' hy hI
end
theorem aw_env {M : Mode} {P : Program} {N : Nat} {Q : AQ} {e : Nat → AV} {mem : List Ob} {c : Code} (h : ∀ e1, e1 = e → AW M P N c Q e1 mem) : AW M P N c Q e mem := h e rfl
end Go.Proofs.YtgiiedpambimoaaDoor

/- The abstract machine: functions that hand back a row of one's own; slices cut, appends of zeros. No conditions on a program. -/
namespace Go.Proofs.YtgiiedpambimoaaDoor
open Go Go.RowKit Go.Proofs
set_option linter.unusedSimpArgs false
set_option linter.unusedVariables false

section
variable {P : Program} {e : Nat → AV} {mem : List Ob} {d : Option Tmp} {ty t : TypeId} {pos : String} {af : Array Edge} {g : Option (Nat × Bool)} {x y : Operand}
end
end Go.Proofs.YtgiiedpambimoaaDoor

