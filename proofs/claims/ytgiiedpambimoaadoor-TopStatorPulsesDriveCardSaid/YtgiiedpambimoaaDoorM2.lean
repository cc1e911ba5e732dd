/- Texts of this claim, one behind the other: lemmas for the statement. -/
import Derived.Test.YtgiiedpambimoaaDoorM1
import Derived.Test.YtgiiedpambimoaaDoorA17
import Derived.Test.YtgiiedpambimoaaDoorProg
import Derived.Test.YtgiiedpambimoaaDoorLib
import Derived.Test.YtgiiedpambimoaaDoorBox
import Derived.Deep.QuietTactic
import Derived.BigQuiet
import Derived.KernelRfl
import Derived.Lib.Hide
/- Contracts of chapter 3: orders and samples, the exported functions and the document's. No conditions on a program. -/
namespace Go.Proofs.YtgiiedpambimoaaDoor
open Go Go.RowKit Go.Proofs
set_option linter.unusedSimpArgs false
set_option linter.unusedVariables false
theorem getD_mem {α : Type} [Inhabited α] {xs : List α} {j : Nat} (h : j < xs.length) : xs.getD j default ∈ xs := by
  rw [List.getD_eq_getElem?_getD, List.getElem?_eq_getElem h]; exact List.getElem_mem h
end Go.Proofs.YtgiiedpambimoaaDoor

/- Contracts of chapter 3: energy, samples of orders, the document's orders. No conditions on a program. -/
namespace Go.Proofs.YtgiiedpambimoaaDoor
open Go Go.RowKit Go.Proofs
set_option linter.unusedSimpArgs false
set_option linter.unusedVariables false
theorem h6_hcf18 : ∀ args w, (callFunc 18 args).run Tryd.prog w = .ok (.enter 18 args) w := fun _ _ => by kernel_rfl
set_option maxRecDepth 100000 in
set_option maxHeartbeats 1000000 in
theorem rSize_ok (n m : Int) (hm : -9000000000000000000 ≤ m ∧ m ≤ 9000000000000000000) : FnOk Tryd.prog 55 [nA n, nA m] (fun q => q = oA (smallB n m)) := by
  refine fnOk_of (fn := Tryd.f55) 10 (by kernel_rfl) rfl (by kernel_rfl) (Nat.le_of_ble_eq_true rfl) ?_
  intro e_0 m_0 hA hm_0
  have s0_0 : evA e_0 (.tmp 0) = _ := hA 0 _ rfl
  have s1_0 : evA e_0 (.tmp 1) = _ := hA 1 _ rfl
  have ml_0 : m_0.length = 0 := by rw [hm_0]; rfl
  clear hA hm_0
  refine aw_seq ?_
  refine aw_text (by kernel_rfl) ?_
  refine al_ro' (ro_assign ev_c) trivial rfl ?_
  refine al_end (fun e_1 he_1 => ?_)
  have s0_1 := ef 0 he_1 (up_m rfl s0_0)
  have s1_1 := ef 1 he_1 (up_m rfl s1_0)
  clear he_1 s0_0 s1_0
  refine then_n ?_
  refine aw_seq ?_
  refine aw_text (by kernel_rfl) ?_
  refine al_ro' (ro_move s0_1) trivial rfl ?_
  refine al_ro' (ro_move (up_m rfl s1_1)) trivial rfl ?_
  first | (refine al_ro' (ro_neg' up_h ?_) trivial rfl ?_; · (unfold In64; omega)) | refine al_ro' (ro_neg up_h) trivial rfl ?_
  refine al_ro' (ro_move (up_m rfl (u2 rfl s1_1))) trivial rfl ?_
  refine al_ro' (ro_call (evL_cons (up_m rfl (u2 rfl up_h)) (evL_cons (up_m rfl up_h) (evL_cons up_h evL_nil))) rfl (bWithin_ok _ _ _) h6_hcf18) trivial rfl ?_
  refine al_ro' (ro_assign up_h) trivial rfl ?_
  refine al_end (fun e_2 he_2 => ?_)
  have s4_2 := ef 4 he_2 up_h
  clear he_2 s0_1 s1_1
  refine then_n ?_
  refine aw_ret ?_
  refine ret1 (.inr rfl) (by kernel_rfl) (resV_tmp s4_2) (.ro _ rfl) ?_
  clear s4_2  ml_0
  rfl
end Go.Proofs.YtgiiedpambimoaaDoor

/- Contracts of chapter 3: samples out of orders. No conditions on a program. -/
namespace Go.Proofs.YtgiiedpambimoaaDoor
open Go Go.RowKit Go.Proofs
set_option linter.unusedSimpArgs false
set_option linter.unusedVariables false
end Go.Proofs.YtgiiedpambimoaaDoor

/- Contracts of chapter 3: tracks, trains, forces, turned vectors. No conditions on a program. -/
namespace Go.Proofs.YtgiiedpambimoaaDoor
open Go Go.RowKit Go.Proofs
set_option linter.unusedSimpArgs false
set_option linter.unusedVariables false
theorem h8_az24 : (Tryd.prog.info? 24).bind (·.zero) = some (.agg #[.int .i64 0, .int .i64 0]) := by kernel_rfl
theorem h8_bz24 : (Tryd.prog.info? 24).bind (·.zero) = some (.agg #[.int .i64 0, .int .i64 0]) := by kernel_rfl
theorem h8_bu24 : Tryd.prog.underlying 24 = some (.struct (fsOf Tryd.prog 24)) := by kernel_rfl
theorem h8_bp24 : ∀ w, ((fsOf Tryd.prog 24).mapM fun f => Prod.mk f.offset <$> sizeOf f.type : Sem (Array (Nat × Nat))).run Tryd.prog w = .ok (#[(0, 1), (1, 1)]) w := fun _ => by kernel_rfl
theorem h8_hcf51 : ∀ args w, (callFunc 51 args).run Tryd.prog w = .ok (.enter 51 args) w := fun _ _ => by kernel_rfl
theorem h8_hcf56 : ∀ args w, (callFunc 56 args).run Tryd.prog w = .ok (.enter 56 args) w := fun _ _ => by kernel_rfl
theorem h8_hcf58 : ∀ args w, (callFunc 58 args).run Tryd.prog w = .ok (.enter 58 args) w := fun _ _ => by kernel_rfl
theorem h8_hcf59 : ∀ args w, (callFunc 59 args).run Tryd.prog w = .ok (.enter 59 args) w := fun _ _ => by kernel_rfl
theorem h8_hcf71 : ∀ args w, (callFunc 71 args).run Tryd.prog w = .ok (.enter 71 args) w := fun _ _ => by kernel_rfl
theorem h8_sl146 : SlIs Tryd.prog 146 27 1 8 (.int .i64 0) := ⟨by kernel_rfl, by kernel_rfl, by kernel_rfl⟩
theorem h8_sl43 : SlIs Tryd.prog 43 24 2 16 (.agg #[.int .i64 0, .int .i64 0]) := ⟨by kernel_rfl, by kernel_rfl, by kernel_rfl⟩
theorem h8_sz24 : (Tryd.prog.info? 24).map (·.size) = some 2 := by kernel_rfl
theorem h8_ty24 : TyIs Tryd.prog 24 true 2 := ⟨by kernel_rfl, by kernel_rfl⟩
def turE (v : V2) (z : Int) : Int := firstE [rightE [v], unlessE (smallB z 1000000) 2]
def turR (v : V2) (z : Int) : V2 := if turE v z = 0 then turnV v z else (0, 0)
theorem firstE_zero2 {a b : Int} (h : firstE [a, b] = 0) : a = 0 ∧ b = 0 := by
  by_cases ha : a = 0
  · by_cases hb : b = 0
    · exact ⟨ha, hb⟩
    · simp [firstE, ha, hb] at h
  · simp [firstE, ha] at h
theorem bd_of_right1 {v : V2} (h : rightE [v] = 0) : Bd 100000 v := right_bd h v (by simp)
set_option maxRecDepth 100000 in
set_option maxHeartbeats 4000000 in
theorem sTurned_ok (v : V2) (z : Int) : FnOk Tryd.prog 32 [tA v, nA z] (fun q => q = .tuple [tA (turR v z), nA (turE v z)]) := by
  refine fnOk_of (fn := Tryd.f32) 22 (by kernel_rfl) rfl (by kernel_rfl) (Nat.le_of_ble_eq_true rfl) ?_
  intro e_0 m_0 hA hm_0
  have s0_0 : evA e_0 (.tmp 0) = _ := hA 0 _ rfl
  have s1_0 : evA e_0 (.tmp 1) = _ := hA 1 _ rfl
  have ml_0 : m_0.length = 0 := by rw [hm_0]; rfl
  clear hA hm_0
  refine aw_seq ?_
  refine aw_text (by kernel_rfl) ?_
  refine al_stm (st_box s0_0 rfl ml_0) trivial rfl (fun m_1 hm_1 => ?_)
  have mo0_1 := m_push hm_1 ml_0
  (try simp only [packA_t, packA_f, iE, bE, setAt, cellsA, Value.cells, map_vc, map_vn, Nat.reduceAdd, qS] at mo0_1)
  have ml_1 := m_push_l hm_1 ml_0
  have ml_1 : _ = 1 := ml_1
  clear hm_1
  refine al_stm (st_alloc h8_az24 rfl ml_1) trivial rfl (fun m_2 hm_2 => ?_)
  have mo1_2 := m_push hm_2 ml_1
  (try simp only [packA_t, packA_f, iE, bE, setAt, cellsA, Value.cells, map_vc, map_vn, Nat.reduceAdd, qS] at mo1_2)
  have mo0_2 := m_push_o hm_2 mo0_1
  have ml_2 := m_push_l hm_2 ml_1
  have ml_2 : _ = 2 := ml_2
  clear hm_2 mo0_1
  refine al_ro' (ro_assign ev_c) trivial rfl ?_
  refine al_end (fun e_3 he_3 => ?_)
  have s1_3 := ef 1 he_3 (up_m rfl (u2 rfl s1_0))
  have s2_3 := ef 2 he_3 (u2 rfl up_h)
  have s4_3 := ef 4 he_3 (up_m rfl up_h)
  clear he_3 s0_0 s1_0
  refine then_n ?_
  refine aw_seq ?_
  refine aw_seq ?_
  refine aw_text (by kernel_rfl) ?_
  refine al_ro' (ro_eq (ro_ld_ptr h8_ty24 rfl mo0_2 s2_3 (by first | exact Nat.le_of_ble_eq_true rfl | omega | (simp only [lnS] <;> omega) | (simp <;> omega))) (by first | (simp only [packA_t, packA_f, iE, bE, setAt, cellsA, Value.cells, map_vc, map_vn, Nat.reduceAdd, qS] <;> rfl) | rfl)) trivial rfl ?_
  refine al_ro' (ro_lit h8_sl43 (evP_cons up_h evP_nil) rfl rfl rfl rfl) trivial rfl ?_
  refine al_ro' (ro_call (evL_cons up_h evL_nil) rfl (right_ok [v] (by simp)) h8_hcf59) trivial rfl ?_
  refine al_ro' (ro_move (up_m rfl (u2 rfl s1_3))) trivial rfl ?_
  refine al_ro' (ro_call (evL_cons up_h (evL_cons ev_c evL_nil)) rfl (sSmall_ok _ _ (by decide)) h8_hcf51) trivial rfl ?_
  refine al_ro' (ro_call (evL_cons up_h (evL_cons ev_c evL_nil)) rfl (sUnless_ok _ _) h8_hcf58) trivial rfl ?_
  refine al_ro' (ro_lit h8_sl146 (evP_cons (up_m rfl (u2 rfl up_h)) (evP_cons up_h evP_nil)) rfl rfl rfl rfl) trivial rfl ?_
  refine al_ro' (ro_call (evL_cons up_h evL_nil) rfl (sFirst_ok [_, _] (by simp)) h8_hcf56) trivial rfl ?_
  refine al_ro' (ro_assign up_h) trivial rfl ?_
  refine al_end (fun e_4 he_4 => ?_)
  have s1_4 := ef 1 he_4 (up_m rfl (u8 rfl s1_3))
  have s2_4 := ef 2 he_4 (up_m rfl (u8 rfl s2_3))
  have s4_4 := ef 4 he_4 (up_m rfl (u8 rfl s4_3))
  have s6_4 := ef 6 he_4 up_h
  clear he_4 s1_3 s2_3 s4_3
  refine then_n ?_
  refine aw_seq ?_
  refine aw_text (by kernel_rfl) ?_
  refine al_ro' (ro_move s6_4) trivial rfl ?_
  refine al_ro' (ro_neq up_h ev_c) trivial rfl ?_
  refine al_end (fun e_5 he_5 => ?_)
  have s1_5 := ef 1 he_5 (u2 rfl s1_4)
  have s2_5 := ef 2 he_5 (u2 rfl s2_4)
  have s4_5 := ef 4 he_5 (u2 rfl s4_4)
  have s6_5 := ef 6 he_5 (u2 rfl s6_4)
  have s16_5 := ef 16 he_5 up_h
  clear he_5 s1_4 s2_4 s4_4 s6_4
  refine then_n ?_
  refine aw_case s16_5 (fun hq_6 => ?_) (fun hq_6 => ?_)
  · (first | replace hq_6 := bnt hq_6 | replace hq_6 := bnf hq_6 | replace hq_6 := bt hq_6 | replace hq_6 := bf hq_6 | replace hq_6 := bt' hq_6 | replace hq_6 := bf' hq_6 | skip)
    first
    | (cases hq_6; done) | (exfalso; omega)
    | (
       (have hn : ¬ turE v z = 0 := (by assumption))
       refine aw_seq ?_
       refine aw_text (by kernel_rfl) ?_
       refine al_ro' (ro_build evP_nil h8_bz24 h8_bu24 h8_bp24 rfl) trivial rfl ?_
       refine al_ro' (ro_move (up_m rfl s6_5)) trivial rfl ?_
       refine al_stm (st_store (u2 rfl s4_5) (up_m rfl up_h) rfl rfl mo1_2 h8_sz24 rfl (by first | exact Nat.le_of_ble_eq_true rfl | omega | (simp only [lnS] <;> omega) | (simp <;> omega))) trivial rfl (fun m_7 hm_7 => ?_)
       have mo1_7 := m_set hm_7 mo1_2
       (try simp only [packA_t, packA_f, iE, bE, setAt, cellsA, Value.cells, map_vc, map_vn, Nat.reduceAdd, qS] at mo1_7)
       have mo0_7 := m_set_o hm_7 mo0_2 (by decide)
       have ml_7 := m_set_l hm_7 ml_2
       clear hm_7 mo1_2 mo0_2
       refine al_ro' (ro_assign (up_n up_h)) trivial rfl ?_
       refine al_end (fun e_8 he_8 => ?_)
       have s4_8 := ef 4 he_8 (up_m rfl (up_n (u2 rfl s4_5)))
       have s5_8 := ef 5 he_8 up_h
       clear he_8 s16_5 s1_5 s2_5 s4_5 s6_5
       refine then_n ?_
       refine aw_ret ?_
       refine then_r ?_
       refine ret2 (.inr rfl) (by kernel_rfl) (resV_cell s4_8 mo1_7 h8_ty24 (by first | exact Nat.le_of_ble_eq_true rfl | omega | (simp only [lnS] <;> omega) | (simp <;> omega)) (by simp)) (resV_tmp s5_8) (vw_r (.ro _ rfl)) (.ro _ rfl) ?_
       clear s4_8 s5_8 mo1_7 mo0_7 ml_7
       (rw [turR, if_neg hn]; rfl))
  · (first | replace hq_6 := bnt hq_6 | replace hq_6 := bnf hq_6 | replace hq_6 := bt hq_6 | replace hq_6 := bf hq_6 | replace hq_6 := bt' hq_6 | replace hq_6 := bf' hq_6 | skip)
    first
    | (cases hq_6; done) | (exfalso; omega)
    | (
       (have hz : turE v z = 0 := (by assumption))
       refine aw_skip ?_
       refine then_n ?_
       refine aw_seq ?_
       refine aw_text (by kernel_rfl) ?_
       refine al_ro' (ro_eq (ro_ld_ptr h8_ty24 rfl mo0_2 s2_5 (by first | exact Nat.le_of_ble_eq_true rfl | omega | (simp only [lnS] <;> omega) | (simp <;> omega))) (by first | (simp only [packA_t, packA_f, iE, bE, setAt, cellsA, Value.cells, map_vc, map_vn, Nat.reduceAdd, qS] <;> rfl) | rfl)) trivial rfl ?_
       refine al_ro' (ro_move (up_m rfl s1_5)) trivial rfl ?_
       refine al_ro' (ro_call (evL_cons (up_m rfl up_h) (evL_cons up_h evL_nil)) rfl (turned_ok v z ((bd_of_right1 (firstE_zero2 hz).1).mono (by decide))) h8_hcf71) trivial rfl ?_
       refine al_stm (st_store (up_m rfl (u2 rfl s4_5)) up_h rfl rfl mo1_2 h8_sz24 rfl (by first | exact Nat.le_of_ble_eq_true rfl | omega | (simp only [lnS] <;> omega) | (simp <;> omega))) trivial rfl (fun m_9 hm_9 => ?_)
       have mo1_9 := m_set hm_9 mo1_2
       (try simp only [packA_t, packA_f, iE, bE, setAt, cellsA, Value.cells, map_vc, map_vn, Nat.reduceAdd, qS] at mo1_9)
       have mo0_9 := m_set_o hm_9 mo0_2 (by decide)
       have ml_9 := m_set_l hm_9 ml_2
       clear hm_9 mo1_2 mo0_2
       refine al_ro' (ro_assign ev_c) trivial rfl ?_
       refine al_end (fun e_10 he_10 => ?_)
       have s4_10 := ef 4 he_10 (up_m rfl (up_n (up_m rfl (u2 rfl s4_5))))
       have s5_10 := ef 5 he_10 up_h
       clear he_10 s16_5 s1_5 s2_5 s4_5 s6_5
       refine then_n ?_
       refine aw_ret ?_
       refine ret2 (.inr rfl) (by kernel_rfl) (resV_cell s4_10 mo1_9 h8_ty24 (by first | exact Nat.le_of_ble_eq_true rfl | omega | (simp only [lnS] <;> omega) | (simp <;> omega)) (by simp)) (resV_tmp s5_10) (vw_r (.ro _ rfl)) (.ro _ rfl) ?_
       clear s4_10 s5_10 mo1_9 mo0_9 ml_9
       (rw [turR, if_pos hz, hz]; rfl))
/-! ### Overlaps -/
end Go.Proofs.YtgiiedpambimoaaDoor

/- Walks: errors, ranges, searches by a function; each for all arguments. -/
namespace Go.Proofs.YtgiiedpambimoaaDoor
open Go Go.RowKit Go.Proofs

def unlessE_ (b : Bool) (e : Int) : Int := if b then 0 else e
def firstE_ : List Int → Int
  | [] => 0
  | e :: l => if e = 0 then firstE_ l else e
theorem ret_int {x y : Int} (h : x = y) : Ending.returned (.int .i64 x) = Ending.returned (.int .i64 y) := by rw [h]
theorem ret_bool {x y : Bool} (h : x = y) : Ending.returned (.bool x) = Ending.returned (.bool y) := by rw [h]
def withinB_ (n lo hi : Int) : Bool := decide (lo ≤ n) && decide (n ≤ hi)
def ints (l : List Int) : List Value := l.map (Value.int .i64)

theorem ints_get {l : List Int} {k : Nat} (h : k < l.length) : (ints l)[k]? = some (.int .i64 l[k]) := by simp [ints, h]
theorem unless_any (b : Bool) (e : Int) (w : World) :
    Calls Tryd.prog 58 #[.bool b, .int .i64 e] w fun r w' => r = .returned (.int .i64 (unlessE_ b e)) ∧ w = w' := by
  cases b <;>
  · go_enter Tryd.func58, Tryd.ntmps58
    go_wp2
    go_ret
    exact ⟨rfl, rfl⟩

theorem within_any (n lo hi : Int) (w : World) :
    Calls Tryd.prog 63 #[.int .i64 n, .int .i64 lo, .int .i64 hi] w fun e w' => e = .returned (.bool (withinB_ n lo hi)) ∧ w = w' := by
  by_cases h1 : lo ≤ n <;> by_cases h2 : n ≤ hi <;>
  · go_enter Tryd.func63, Tryd.ntmps63
    go_wp2
    go_ret
    simp [withinB_, h1, h2]

set_option maxHeartbeats 400000 in
theorem first_any (l : List Int) (a : Option Addr) (n c : Nat) (w : World) (hl : l.length = n) (hn : n ≤ 1000) (hr : Rd w 1 a n (ints l)) :
    Calls Tryd.prog 56 #[.slice a n c] w fun e w' => e = .returned (.int .i64 (firstE_ l)) ∧ w = w' := by
  have HL := Lib.hid hl
  clear hl
  go_enter Tryd.func56, Tryd.ntmps56
  go_wp2
  go_loop [7] (fun i => ∃ k : Nat, k ≤ n ∧ i = .int .i64 k ∧ Hid (firstE_ l = firstE_ (l.drop k))) (fun i => n - (intOf i).toNat)
  case atStart => exact ⟨0, Nat.zero_le _, rfl, rfl⟩
  case round =>
    obtain ⟨k, hk, rfl, hd⟩ := hrel
    by_cases hlt : k < n
    · obtain ⟨b, o, rfl, hrow⟩ := hr.2 (by omega)
      have hkl : k < l.length := by rw [HL.out]; exact hlt
      have hc := hrow.at (ints_get hkl)
      have hs : Hid (firstE_ (l.drop k) = if l[k] = 0 then firstE_ (l.drop (k + 1)) else l[k]) := by
        show _ = _
        rw [List.drop_eq_getElem_cons hkl]; rfl
      by_cases hz : l[k] = 0
      · have hz' : (l[k] != 0) = false := by simp [hz]
        have HZ := Lib.hid hz
        clear hz
        go_wp2
        go_round
        case rel => exact ⟨k + 1, by omega, by go_num, by show _ = _; rw [hd.out, hs.out, if_pos HZ.out]⟩
        case measure => simp [intOf]; omega
      · have hz' : (l[k] != 0) = true := by simp [hz]
        go_wp2
        go_ret
        exact ⟨ret_int (by rw [hd.out, hs.out, if_neg hz]), rfl⟩
    · go_wp2
      go_ret
      exact ⟨ret_int (by rw [hd.out, List.drop_eq_nil_of_le (by rw [HL.out]; omega)]; rfl), rfl⟩

/-! ### searches -/
abbrev T2 := Int × Int
def cells2 : List T2 → List Value
  | [] => []
  | x :: l => .int .i64 x.1 :: .int .i64 x.2 :: cells2 l
theorem cells2_length : ∀ l, (cells2 l).length = l.length * 2
  | [] => rfl
  | x :: l => by simp [cells2, cells2_length l, Nat.add_mul]
theorem cells2_get0 : ∀ {l : List T2} {k : Nat} (h : k < l.length), (cells2 l)[k * 2]? = some (.int .i64 l[k].1)
  | [], _, h => by simp at h
  | x :: l, 0, _ => rfl
  | x :: l, k + 1, h => by
    have := cells2_get0 (l := l) (k := k) (by simpa using h)
    simpa [cells2, Nat.add_mul] using this
theorem cells2_get1 : ∀ {l : List T2} {k : Nat} (h : k < l.length), (cells2 l)[k * 2 + 1]? = some (.int .i64 l[k].2)
  | [], _, h => by simp at h
  | x :: l, 0, _ => rfl
  | x :: l, k + 1, h => by
    have := cells2_get1 (l := l) (k := k) (by simpa using h)
    simpa [cells2, Nat.add_mul] using this
/-- A vector as a value. -/
abbrev tV_ (x : T2) : Value := .agg #[.int .i64 x.1, .int .i64 x.2]

/-- The place of the first one that is so, from k on. -/
def idx {α : Type} (p : α → Bool) : List α → Nat → Int
  | [], _ => -1
  | x :: l, k => if p x then (k : Int) else idx p l (k + 1)

set_option maxHeartbeats 400000 in
theorem index2_any (g : Nat) (caps : Array Value) (hcf : ∀ (args : Array Value) (w : World), (callFunc g args).run Tryd.prog w = .ok (.enter g args) w) (p : T2 → Bool) (l : List T2) (a : Option Addr) (n c : Nat) (w : World)
    (hl : l.length = n) (hn : n ≤ 1000) (hr : Rd w 2 a n (cells2 l))
    (hg : ∀ w', Ext w w' → ∀ x ∈ l, Calls Tryd.prog g (#[tV_ x] ++ caps) w' fun e w'' => e = .returned (.bool (p x)) ∧ Ext w' w'') :
    Calls Tryd.prog 93 #[.slice a n c, .func (.func g) #[] caps] w fun e w' => e = .returned (.int .i64 (idx p l 0)) ∧ Ext w w' := by
  have HL := Lib.hid hl
  have HG := Lib.hid hg
  clear hl hg
  go_enter Tryd.func93, Tryd.ntmps93
  go_wp2
  go_loopw [8] (fun i wr => ∃ k : Nat, k ≤ n ∧ i = .int .i64 k ∧ Hid (idx p l 0 = idx p (l.drop k) k) ∧ Ext w wr) (fun i _ => n - (intOf i).toNat)
  case atStart => exact ⟨0, Nat.zero_le _, rfl, rfl, Ext.refl w⟩
  case round =>
    obtain ⟨k, hk, rfl, hd, hx⟩ := hrel
    by_cases hlt : k < n
    · obtain ⟨b, o, rfl, hrow⟩ := (hr.ext hx).2 (by omega)
      have hkl : k < l.length := by rw [HL.out]; exact hlt
      have hc0 := hrow.at (cells2_get0 hkl)
      have hc1 := hrow.at' (cells2_get1 hkl)
      have hs : Hid (idx p (l.drop k) k = if p l[k] then (k : Int) else idx p (l.drop (k + 1)) (k + 1)) := by
        show _ = _
        rw [List.drop_eq_getElem_cons hkl]; rfl
      have hga := Lib.hid (HG.out wr hx l[k] (List.getElem_mem hkl))
      by_cases hpk : p l[k] = true
      · have HP := Lib.hid hpk
        clear hpk
        go_wp2_with fail
        refine hga.out.mono ?_
        rintro e w1 ⟨rfl, hx1⟩
        rw [HP.out]
        go_wp2
        go_ret
        exact ⟨ret_int (by rw [hd.out, hs.out, if_pos HP.out]), hx.trans hx1⟩
      · have HP := Lib.hid (Bool.eq_false_iff.2 hpk)
        clear hpk
        go_wp2_with fail
        refine hga.out.mono ?_
        rintro e w1 ⟨rfl, hx1⟩
        rw [HP.out]
        go_wp2
        go_roundw
        case rel => exact ⟨k + 1, by omega, by go_num, by show _ = _; rw [hd.out, hs.out, HP.out]; rfl, hx.trans hx1⟩
        case measure => simp [intOf]; omega
    · go_wp2
      go_ret
      exact ⟨ret_int (by rw [hd.out, List.drop_eq_nil_of_le (by rw [HL.out]; omega)]; rfl), hx⟩
end Go.Proofs.YtgiiedpambimoaaDoor

/- Walks: the arithmetic of vectors and the small functions of errors; each for all arguments, with Go's wrapped sums. -/
namespace Go.Proofs.YtgiiedpambimoaaDoor
open Go Go.RowKit Go.Proofs
set_option linter.unusedSimpArgs false
set_option linter.unusedVariables false

/-! ### what they compute, with Go's wrapped sums -/
def addW (v o : T2) : T2 := (wrap64 (v.1 + o.1), wrap64 (v.2 + o.2))
def subW (v o : T2) : T2 := (wrap64 (v.1 - o.1), wrap64 (v.2 - o.2))
def byW (v : T2) (n : Int) : T2 := (wrap64 (n * v.1), wrap64 (n * v.2))
def normW (v : T2) : Int := wrap64 (wrap64 (wrap64 (v.1 * v.1) - wrap64 (v.1 * v.2)) + wrap64 (v.2 * v.2))
def smallB_ (n most : Int) : Bool := withinB_ n (wrap64 (-most)) most
def rightB (v : T2) : Bool := smallB_ v.1 100000 && smallB_ v.2 100000

set_option maxRecDepth 100000 in
set_option maxHeartbeats 1000000 in
theorem plus_any (v o : T2) (w : World) : Calls Tryd.prog 60 #[tV_ v, tV_ o] w fun e w' => e = .returned (tV_ (addW v o)) ∧ Ext w w' := by
  go_enter Tryd.func60, Tryd.ntmps60
  go_wp2
  exact bodyPost_ret (v := tV_ (addW v o)) (by simp [results, Tryd.results60, go_sem, addW]) rfl ⟨rfl, by ((repeat' (first | with_reducible exact Ext.refl _ | with_reducible assumption | with_reducible exact Ext.one _ | with_reducible refine Ext.alloc ?_ _ | with_reducible refine Ext.setCell ?_ ?_ _ | with_reducible refine Ext.drew ?_ | ((with_reducible apply Ext.after'); (with_reducible assumption)))) <;> (try simp) <;> omega)⟩

set_option maxRecDepth 100000 in
set_option maxHeartbeats 1000000 in
theorem less_any (v o : T2) (w : World) : Calls Tryd.prog 66 #[tV_ v, tV_ o] w fun e w' => e = .returned (tV_ (subW v o)) ∧ Ext w w' := by
  go_enter Tryd.func66, Tryd.ntmps66
  go_wp2
  exact bodyPost_ret (v := tV_ (subW v o)) (by simp [results, Tryd.results66, go_sem, subW]) rfl ⟨rfl, by ((repeat' (first | with_reducible exact Ext.refl _ | with_reducible assumption | with_reducible exact Ext.one _ | with_reducible refine Ext.alloc ?_ _ | with_reducible refine Ext.setCell ?_ ?_ _ | with_reducible refine Ext.drew ?_ | ((with_reducible apply Ext.after'); (with_reducible assumption)))) <;> (try simp) <;> omega)⟩

set_option maxRecDepth 100000 in
set_option maxHeartbeats 1000000 in
theorem by_any (v : T2) (n : Int) (w : World) : Calls Tryd.prog 49 #[tV_ v, .int .i64 n] w fun e w' => e = .returned (tV_ (byW v n)) ∧ Ext w w' := by
  go_enter Tryd.func49, Tryd.ntmps49
  go_wp2
  exact bodyPost_ret (v := tV_ (byW v n)) (by simp [results, Tryd.results49, go_sem, byW]) rfl ⟨rfl, by ((repeat' (first | with_reducible exact Ext.refl _ | with_reducible assumption | with_reducible exact Ext.one _ | with_reducible refine Ext.alloc ?_ _ | with_reducible refine Ext.setCell ?_ ?_ _ | with_reducible refine Ext.drew ?_ | ((with_reducible apply Ext.after'); (with_reducible assumption)))) <;> (try simp) <;> omega)⟩

set_option maxRecDepth 100000 in
set_option maxHeartbeats 1000000 in
theorem square_any (v : T2) (w : World) : Calls Tryd.prog 90 #[tV_ v] w fun e w' => e = .returned (.int .i64 (normW v)) ∧ Ext w w' := by
  go_enter Tryd.func90, Tryd.ntmps90
  go_wp2
  go_ret
  exact ⟨rfl, by ((repeat' (first | with_reducible exact Ext.refl _ | with_reducible assumption | with_reducible exact Ext.one _ | with_reducible refine Ext.alloc ?_ _ | with_reducible refine Ext.setCell ?_ ?_ _ | with_reducible refine Ext.drew ?_ | ((with_reducible apply Ext.after'); (with_reducible assumption)))) <;> (try simp) <;> omega)⟩

end Go.Proofs.YtgiiedpambimoaaDoor

/- Walks: the errors of numbers, vectors, lists of them; the forces of the reference. -/
namespace Go.Proofs.YtgiiedpambimoaaDoor
open Go Go.RowKit Go.Proofs
set_option linter.unusedSimpArgs false
set_option linter.unusedVariables false

set_option maxRecDepth 100000 in
set_option maxHeartbeats 1000000 in
theorem small_any (n m : Int) (w : World) : Calls Tryd.prog 51 #[.int .i64 n, .int .i64 m] w fun e w' => e = .returned (.bool (smallB_ n m)) ∧ w = w' := by
  go_enter Tryd.func51, Tryd.ntmps51
  go_wp2_with (first | (go_at_call 63; refine (within_any _ _ _ _).mono ?_; rintro e wz ⟨rfl, rfl⟩))
  go_ret
  exact ⟨rfl, rfl⟩
set_option maxRecDepth 100000 in
set_option maxHeartbeats 1000000 in
theorem right1_any (v : T2) (w : World) : Calls Tryd.prog 89 #[tV_ v] w fun e w' => e = .returned (.bool (!rightB v)) ∧ Ext w w' := by
  unfold rightB
  by_cases h1 : smallB_ v.1 100000 = true
  · go_enter Tryd.func89, Tryd.ntmps89
    go_wp2_with (first | (go_at_call 51; refine (small_any _ _ _).mono ?_; rintro e wz ⟨rfl, rfl⟩))
    go_ret
    exact ⟨ret_bool (by simp [h1]), by ((repeat' (first | with_reducible exact Ext.refl _ | with_reducible assumption | with_reducible exact Ext.one _ | with_reducible refine Ext.alloc ?_ _ | with_reducible refine Ext.setCell ?_ ?_ _ | with_reducible refine Ext.drew ?_ | ((with_reducible apply Ext.after'); (with_reducible assumption)))) <;> (try simp) <;> omega)⟩
  · replace h1 := Bool.eq_false_iff.2 h1
    go_enter Tryd.func89, Tryd.ntmps89
    go_wp2_with (first | (go_at_call 51; refine (small_any _ _ _).mono ?_; rintro e wz ⟨rfl, rfl⟩))
    go_ret
    exact ⟨ret_bool (by simp [h1]), by ((repeat' (first | with_reducible exact Ext.refl _ | with_reducible assumption | with_reducible exact Ext.one _ | with_reducible refine Ext.alloc ?_ _ | with_reducible refine Ext.setCell ?_ ?_ _ | with_reducible refine Ext.drew ?_ | ((with_reducible apply Ext.after'); (with_reducible assumption)))) <;> (try simp) <;> omega)⟩
end Go.Proofs.YtgiiedpambimoaaDoor

/- Walks: searches and errors of lists, tracks. -/
namespace Go.Proofs.YtgiiedpambimoaaDoor
open Go Go.RowKit Go.Proofs
set_option linter.unusedSimpArgs false
set_option linter.unusedVariables false

theorem hcf (g : Nat) (h : ∀ (args : Array Value) (w : World), (callFunc g args).run Tryd.prog w = .ok (.enter g args) w) : ∀ (args : Array Value) (w : World), (callFunc g args).run Tryd.prog w = .ok (.enter g args) w := h

theorem idx_any {α : Type} (p : α → Bool) : ∀ (l : List α) (k : Nat), decide (0 ≤ idx p l k) = l.any p
  | [], _ => rfl
  | x :: l, k => by
    simp only [idx, List.any_cons]
    split
    · rename_i h; rw [h]; simp
    · rename_i h; rw [idx_any p l (k + 1)]; simp [h]

set_option maxRecDepth 100000 in
set_option maxHeartbeats 1000000 in
theorem contains2_any (g : Nat) (caps : Array Value) (hcf : ∀ (args : Array Value) (w : World), (callFunc g args).run Tryd.prog w = .ok (.enter g args) w) (p : T2 → Bool) (l : List T2) (a : Option Addr) (n c : Nat) (w : World)
    (hl : l.length = n) (hn : n ≤ 1000) (hr : Rd w 2 a n (cells2 l))
    (hg : ∀ w', Ext w w' → ∀ x ∈ l, Calls Tryd.prog g (#[tV_ x] ++ caps) w' fun e w'' => e = .returned (.bool (p x)) ∧ Ext w' w'') :
    Calls Tryd.prog 64 #[.slice a n c, .func (.func g) #[] caps] w fun e w' => e = .returned (.bool (l.any p)) ∧ Ext w w' := by
  have h := Lib.hid (index2_any g caps hcf p l a n c w hl hn hr hg)
  clear hcf hg hr hl hn
  go_enter Tryd.func64, Tryd.ntmps64
  go_wp2_with fail
  refine h.out.mono ?_
  rintro e w1 ⟨rfl, hx1⟩
  go_wp2
  go_ret
  exact ⟨ret_bool (idx_any p l 0), hx1⟩

theorem not_any {α : Type} (p : α → Bool) (l : List α) : (!(l.any fun x => !p x)) = l.all p := by
  induction l with
  | nil => rfl
  | cons x l ih => simp [List.any_cons, List.all_cons, ← ih]

set_option maxRecDepth 100000 in
set_option maxHeartbeats 1000000 in
theorem right_any (l : List T2) (a : Option Addr) (n c : Nat) (w : World) (hl : l.length = n) (hn : n ≤ 1000) (hr : Rd w 2 a n (cells2 l)) :
    Calls Tryd.prog 59 #[.slice a n c] w fun e w' => e = .returned (.int .i64 (unlessE_ (l.all rightB) 2)) ∧ Ext w w' := by
  have h := Lib.hid (contains2_any 89 #[] (fun _ _ => by kernel_rfl) (fun v => !rightB v) l a n c w hl hn hr (fun w' _ x _ => right1_any x w'))
  clear hr hl hn
  go_enter Tryd.func59, Tryd.ntmps59
  go_wp2_with (first | (go_at_call 64; refine h.out.mono ?_; rintro e w1 ⟨rfl, hx1⟩) | (first | (go_at_call 58; refine (unless_any _ _ _).mono ?_; rintro e wz ⟨rfl, rfl⟩)))
  go_ret
  exact ⟨ret_int (by rw [not_any]), hx1⟩

end Go.Proofs.YtgiiedpambimoaaDoor

