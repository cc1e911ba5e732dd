/- Contracts of chapter 1: what is wrong with a line, as the document has it. No conditions on a program. -/
import Derived.Test.YtonjcljnpcmenaaT0
import Derived.Test.YtonjcljnpcmenaaM1
import Derived.Test.YtonjcljnpcmenaaA18
import Derived.Test.YtonjcljnpcmenaaA20
namespace Go.Proofs.Ytonjcljnpcmenaa
open Go Go.RowKit Go.Proofs
set_option linter.unusedSimpArgs false
set_option linter.unusedVariables false

/-- A joint: across, up, off. -/
structure Jnt where
  acr : Int
  up : Int
  lo : Int
  hi : Int
  deriving Inhabited
/-- A beam: its length, its cant. -/
structure Bea where
  len : Int
  cant : Int
  deriving Inhabited
/-- A switch. -/
structure Swi where
  nam : ByteArray
  fst : Int
  acr : List Int
  deriving Inhabited
abbrev mA (n : Int) : AV := .v (.int .i64 n)
abbrev tbA (b : Bool) : AV := .v (.bool b)
def jnE (j : Jnt) : List AV := [.v (.int .i64 j.acr), .v (.int .i64 j.up), .v (.int .i64 j.lo), .v (.int .i64 j.hi)]
def beE (b : Bea) : List AV := [.v (.int .i64 b.len), .v (.int .i64 b.cant)]
def swE (s : Swi) : List AV := [.v (.string s.nam), .v (.int .i64 s.fst), .row 1 (s.acr.map iE)]
/-- A line. -/
structure Lin where
  nam : ByteArray
  js : List Jnt
  bs : List Bea
  ss : List Swi
abbrev lnA (l : Lin) : AV := .agg [.v (.string l.nam), .row 4 (l.js.map jnE), .row 2 (l.bs.map beE), .row 3 (l.ss.map swE)]
def smaB (n m : Int) : Bool := withinB n (-m) m
def jntB (j : Jnt) : Bool := smaB j.acr 20000 && smaB j.up 20000 && smaB j.lo 100 && smaB j.hi 100
def jntE (j : Jnt) : Int := if jntB j then (if j.lo ≤ j.hi then 0 else 9) else 2
def beaB (b : Bea) : Bool := withinB b.len 1000 30000 && smaB b.cant 300
def beaE (b : Bea) : Int := if beaB b then 0 else 2
/-- Whether two switches bend the same joints. -/
def claB (s o : Swi) : Bool := decide (s.fst < wrap64 (o.fst + o.acr.length) ∧ o.fst < wrap64 (s.fst + s.acr.length))
/-- The error of a switch. -/
def swiE (l : Lin) (i : Nat) : Int :=
  if !isNameB (l.ss.getD i default).nam then 4
  else if (l.ss.take i).any (fun o => o.nam.toList == (l.ss.getD i default).nam.toList) then 5
  else if (l.ss.getD i default).acr.length = 0 then 10
  else if !withinB (l.ss.getD i default).fst 1 (l.bs.length - (l.ss.getD i default).acr.length) then 6
  else if (l.ss.getD i default).acr.any (fun n => !smaB n 20000) then 2
  else if (l.ss.take i).any (fun o => claB (l.ss.getD i default) o) then 13
  else 0
/-- The first number below n with an error. -/
def firN (f : Nat → Int) : Nat → Option Nat
  | 0 => none
  | n + 1 => match firN f n with
    | some i => some i
    | none => if f n = 0 then none else some n
theorem firN_none {f : Nat → Int} : ∀ {n : Nat}, (∀ j, j < n → f j = 0) → firN f n = none
  | 0, _ => rfl
  | n + 1, h => by simp only [firN]; rw [firN_none fun j hj => h j (by omega)]; simp [h n (by omega)]
theorem firN_some {f : Nat → Int} {i : Nat} (hn : ∀ j, j < i → f j = 0) (hi : f i ≠ 0) : ∀ {n : Nat}, i < n → firN f n = some i
  | 0, h => absurd h (by omega)
  | n + 1, h => by
    simp only [firN]
    by_cases hin : i = n
    · subst hin; rw [firN_none hn]; simp [hi]
    · rw [firN_some hn hi (n := n) (by omega)]
/-- What a list of items comes to: which list, which number, which error; or what comes behind. -/
def lisM (k : Int) (f : Nat → Int) (n : Nat) (z : (Int × Int) × Int) : (Int × Int) × Int := match firN f n with
  | some i => ((k, i), f i)
  | none => z
def linM (l : Lin) : (Int × Int) × Int :=
  if !isNameB l.nam then ((0, 0), 4)
  else if l.bs.length = 0 ∨ l.js.length ≠ l.bs.length + 1 then ((0, 0), 10)
  else if 40 < l.bs.length then ((0, 0), 8)
  else lisM 1 (fun i => jntE (l.js.getD i default)) l.js.length
    (lisM 2 (fun i => beaE (l.bs.getD i default)) l.bs.length
      (if 4 < l.ss.length then ((0, 0), 8) else lisM 3 (swiE l) l.ss.length ((0, 0), 0)))
set_option maxRecDepth 100000 in
set_option maxHeartbeats 1000000 in
theorem size_ok (n m : Int) (hm : -1000000000 ≤ m ∧ m ≤ 1000000000) : FnOk Try.prog 128 [mA n, mA m] (fun q => q = tbA (smaB n m)) := by
  refine fnOk_of (fn := Try.f128) 10 (by kernel_rfl) rfl (by kernel_rfl) (Nat.le_of_ble_eq_true rfl) ?_
  intro e_0 m_0 hA hm_0
  have s0_0 : evA e_0 (.tmp 0) = _ := hA 0 _ rfl
  have s1_0 : evA e_0 (.tmp 1) = _ := hA 1 _ rfl
  have ml_0 : m_0.length = 0 := by rw [hm_0]; rfl
  clear hA hm_0
  refine aw_seq <| at_ <| ar (ro_assign ev_c) rfl <| ae2 (up_m rfl s0_0) (up_m rfl s1_0) ?_; clear s0_0 s1_0; intro e_1 s0_1 s1_1
  refine then_n <| aw_seq <| at_ <| ar (ro_move s0_1) rfl <| ar (ro_move (up_m rfl s1_1)) rfl ?_
  (refine ar (ro_neg' up_h ?_) rfl ?_; · (unfold In64; omega))
  refine ar (ro_move (up_m rfl (u2 rfl s1_1))) rfl <| ar (ro_call (evL_cons (up_m rfl (u2 rfl up_h)) (evL_cons (up_m rfl up_h) (evL_cons up_h evL_nil))) rfl (bWithin_ok _ _ _) qhcf30) rfl <| ar (ro_assign up_h) rfl <| ae1 up_h ?_; clear s0_1 s1_1; intro e_2 s4_2
  refine then_n <| aw_ret <| ret1 (.inr rfl) (by kernel_rfl) (resV_tmp s4_2) (.ro _ rfl) ?_
  clear s4_2  ml_0
  rfl
/-- A line whose names are short. -/
def Sho (l : Lin) : Prop := l.nam.size ≤ 1000000 ∧ l.js.length ≤ 1000000 ∧ l.bs.length ≤ 1000000 ∧ l.ss.length ≤ 1000000 ∧ ∀ s ∈ l.ss, s.nam.size ≤ 1000000 ∧ s.acr.length ≤ 1000000
theorem Sho.at {l : Lin} (h : Sho l) (i : Nat) : (l.ss.getD i default).nam.size ≤ 1000000 ∧ (l.ss.getD i default).acr.length ≤ 1000000 := by
  by_cases hi : i < l.ss.length
  · exact h.2.2.2.2 _ (by rw [List.getD_eq_getElem?_getD, List.getElem?_eq_getElem hi]; exact List.getElem_mem hi)
  · rw [List.getD_eq_getElem?_getD, List.getElem?_eq_none (by omega)]; exact ⟨by decide, by decide⟩
end Go.Proofs.Ytonjcljnpcmenaa
