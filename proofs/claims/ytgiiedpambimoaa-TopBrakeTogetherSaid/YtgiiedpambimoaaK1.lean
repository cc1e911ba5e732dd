/- Contracts of the lowest functions of chapter 5. No conditions on a program. -/
import Derived.Test.YtgiiedpambimoaaA12
import Derived.Test.YtgiiedpambimoaaProg
namespace Go.Proofs.Ytgiiedpambimoaa
open Go Go.RowKit Go.Proofs
set_option linter.unusedSimpArgs false
set_option linter.unusedVariables false
theorem k1_hcf64 : ∀ args w, (callFunc 64 args).run Try.prog w = .ok (.enter 64 args) w := fun _ _ => by kernel_rfl
theorem k1_sl126 : SlIs Try.prog 126 33 1 8 (.int .i64 0) := ⟨by kernel_rfl, by kernel_rfl, by kernel_rfl⟩
theorem k1_ty33 : TyIs Try.prog 33 false 1 := ⟨by kernel_rfl, by kernel_rfl⟩

def withinB (n lo hi : Int) : Bool := decide (lo ≤ n) && decide (n ≤ hi)
set_option maxRecDepth 100000 in
set_option maxHeartbeats 1000000 in
theorem within_ok (n lo hi : Int) : FnOk Try.prog 64 [.v (.int .i64 n), .v (.int .i64 lo), .v (.int .i64 hi)] (fun q => q = .v (.bool (withinB n lo hi))) := by
  refine fnOk_of (fn := Try.f64) 15 (by kernel_rfl) rfl (by kernel_rfl) (Nat.le_of_ble_eq_true rfl) ?_
  intro e_0 m_0 hA hm_0
  have s0_0 : evA e_0 (.tmp 0) = _ := hA 0 _ rfl
  have s1_0 : evA e_0 (.tmp 1) = _ := hA 1 _ rfl
  have s2_0 : evA e_0 (.tmp 2) = _ := hA 2 _ rfl
  have ml_0 : m_0.length = 0 := by rw [hm_0]; rfl
  clear hA hm_0
  refine aw_seq ?_
  refine aw_text (by kernel_rfl) ?_
  refine al_ro' (ro_assign ev_c) trivial rfl ?_
  refine al_end (fun e_1 he_1 => ?_)
  have s0_1 := ef 0 he_1 (up_m rfl s0_0)
  have s1_1 := ef 1 he_1 (up_m rfl s1_0)
  have s2_1 := ef 2 he_1 (up_m rfl s2_0)
  clear he_1 s0_0 s1_0 s2_0
  refine then_n ?_
  refine aw_seq ?_
  refine aw_text (by kernel_rfl) ?_
  refine al_ro' (ro_move s1_1) trivial rfl ?_
  refine al_ro' (ro_move (up_m rfl s0_1)) trivial rfl ?_
  refine al_ro' (ro_leq (up_m rfl up_h) up_h) trivial rfl ?_
  refine al_ro' (ro_move up_h) trivial rfl ?_
  refine al_case up_h (fun hb_2 hq_2 => ?_) (fun hb_2 hq_2 => ?_)
  · (first | replace hq_2 := bnt hq_2 | replace hq_2 := bnf hq_2 | replace hq_2 := bt hq_2 | replace hq_2 := bf hq_2 | replace hq_2 := bt' hq_2 | replace hq_2 := bf' hq_2 | skip)
    first
    | (cases hq_2; done) | (exfalso; omega)
    | (
       refine al_ro' (ro_move (u4 rfl s0_1)) ⟨_, rfl, hb_2⟩ rfl ?_
       refine al_ro' (ro_move (up_m rfl (u4 rfl s2_1))) ⟨_, rfl, (up_m rfl hb_2)⟩ rfl ?_
       refine al_ro' (ro_leq (up_m rfl up_h) up_h) ⟨_, rfl, (u2 rfl hb_2)⟩ rfl ?_
       refine al_ro' (ro_pickT (up_m rfl (u2 rfl hb_2)) up_h) trivial rfl ?_
       refine al_ro' (ro_assign up_h) trivial rfl ?_
       refine al_end (fun e_3 he_3 => ?_)
       have s6_3 := ef 6 he_3 up_h
       clear he_3 hb_2 s0_1 s1_1 s2_1
       refine then_n ?_
       refine aw_ret ?_
       refine ret1 (.inr rfl) (by kernel_rfl) (resV_tmp s6_3) (.ro _ rfl) ?_
       clear s6_3  ml_0
       (first | rfl | (simp [withinB, *]; done) | (simp [withinB, *] <;> omega) | (simp_all [withinB]; done) | (simp_all [withinB] <;> omega)))
  · (first | replace hq_2 := bnt hq_2 | replace hq_2 := bnf hq_2 | replace hq_2 := bt hq_2 | replace hq_2 := bf hq_2 | replace hq_2 := bt' hq_2 | replace hq_2 := bf' hq_2 | skip)
    first
    | (cases hq_2; done) | (exfalso; omega)
    | (
       refine al_skip' ⟨_, rfl, .inl hb_2⟩ rfl ?_
       refine al_skip' ⟨_, rfl, .inl (up_m rfl hb_2)⟩ rfl ?_
       refine al_skip' ⟨_, rfl, .inl (u2 rfl hb_2)⟩ rfl ?_
       refine al_ro' (ro_pickF (up_m rfl (u2 rfl hb_2)) ev_c) trivial rfl ?_
       refine al_ro' (ro_assign up_h) trivial rfl ?_
       refine al_end (fun e_4 he_4 => ?_)
       have s6_4 := ef 6 he_4 up_h
       clear he_4 hb_2 s0_1 s1_1 s2_1
       refine then_n ?_
       refine aw_ret ?_
       refine ret1 (.inr rfl) (by kernel_rfl) (resV_tmp s6_4) (.ro _ rfl) ?_
       clear s6_4  ml_0
       (first | rfl | (simp [withinB, *]; done) | (simp [withinB, *] <;> omega) | (simp_all [withinB]; done) | (simp_all [withinB] <;> omega)))
set_option maxRecDepth 100000 in
set_option maxHeartbeats 1000000 in
theorem bWithin_ok (n lo hi : Int) : FnOk Try.prog 10 [.v (.int .i64 n), .v (.int .i64 lo), .v (.int .i64 hi)] (fun q => q = .v (.bool (withinB n lo hi))) := by
  refine fnOk_of (fn := Try.f10) 15 (by kernel_rfl) rfl (by kernel_rfl) (Nat.le_of_ble_eq_true rfl) ?_
  intro e_0 m_0 hA hm_0
  have s0_0 : evA e_0 (.tmp 0) = _ := hA 0 _ rfl
  have s1_0 : evA e_0 (.tmp 1) = _ := hA 1 _ rfl
  have s2_0 : evA e_0 (.tmp 2) = _ := hA 2 _ rfl
  have ml_0 : m_0.length = 0 := by rw [hm_0]; rfl
  clear hA hm_0
  refine aw_seq ?_
  refine aw_text (by kernel_rfl) ?_
  refine al_ro' (ro_assign ev_c) trivial rfl ?_
  refine al_end (fun e_1 he_1 => ?_)
  have s0_1 := ef 0 he_1 (up_m rfl s0_0)
  have s1_1 := ef 1 he_1 (up_m rfl s1_0)
  have s2_1 := ef 2 he_1 (up_m rfl s2_0)
  clear he_1 s0_0 s1_0 s2_0
  refine then_n ?_
  refine aw_seq ?_
  refine aw_text (by kernel_rfl) ?_
  refine al_ro' (ro_move s1_1) trivial rfl ?_
  refine al_ro' (ro_move (up_m rfl s0_1)) trivial rfl ?_
  refine al_ro' (ro_leq (up_m rfl up_h) up_h) trivial rfl ?_
  refine al_ro' (ro_move up_h) trivial rfl ?_
  refine al_case up_h (fun hb_2 hq_2 => ?_) (fun hb_2 hq_2 => ?_)
  · (first | replace hq_2 := bnt hq_2 | replace hq_2 := bnf hq_2 | replace hq_2 := bt hq_2 | replace hq_2 := bf hq_2 | replace hq_2 := bt' hq_2 | replace hq_2 := bf' hq_2 | skip)
    first
    | (cases hq_2; done) | (exfalso; omega)
    | (
       refine al_ro' (ro_move (u4 rfl s0_1)) ⟨_, rfl, hb_2⟩ rfl ?_
       refine al_ro' (ro_move (up_m rfl (u4 rfl s2_1))) ⟨_, rfl, (up_m rfl hb_2)⟩ rfl ?_
       refine al_ro' (ro_leq (up_m rfl up_h) up_h) ⟨_, rfl, (u2 rfl hb_2)⟩ rfl ?_
       refine al_ro' (ro_pickT (up_m rfl (u2 rfl hb_2)) up_h) trivial rfl ?_
       refine al_ro' (ro_assign up_h) trivial rfl ?_
       refine al_end (fun e_3 he_3 => ?_)
       have s6_3 := ef 6 he_3 up_h
       clear he_3 hb_2 s0_1 s1_1 s2_1
       refine then_n ?_
       refine aw_ret ?_
       refine ret1 (.inr rfl) (by kernel_rfl) (resV_tmp s6_3) (.ro _ rfl) ?_
       clear s6_3  ml_0
       (first | rfl | (simp [withinB, *]; done) | (simp [withinB, *] <;> omega) | (simp_all [withinB]; done) | (simp_all [withinB] <;> omega)))
  · (first | replace hq_2 := bnt hq_2 | replace hq_2 := bnf hq_2 | replace hq_2 := bt hq_2 | replace hq_2 := bf hq_2 | replace hq_2 := bt' hq_2 | replace hq_2 := bf' hq_2 | skip)
    first
    | (cases hq_2; done) | (exfalso; omega)
    | (
       refine al_skip' ⟨_, rfl, .inl hb_2⟩ rfl ?_
       refine al_skip' ⟨_, rfl, .inl (up_m rfl hb_2)⟩ rfl ?_
       refine al_skip' ⟨_, rfl, .inl (u2 rfl hb_2)⟩ rfl ?_
       refine al_ro' (ro_pickF (up_m rfl (u2 rfl hb_2)) ev_c) trivial rfl ?_
       refine al_ro' (ro_assign up_h) trivial rfl ?_
       refine al_end (fun e_4 he_4 => ?_)
       have s6_4 := ef 6 he_4 up_h
       clear he_4 hb_2 s0_1 s1_1 s2_1
       refine then_n ?_
       refine aw_ret ?_
       refine ret1 (.inr rfl) (by kernel_rfl) (resV_tmp s6_4) (.ro _ rfl) ?_
       clear s6_4  ml_0
       (first | rfl | (simp [withinB, *]; done) | (simp [withinB, *] <;> omega) | (simp_all [withinB]; done) | (simp_all [withinB] <;> omega)))
def unlessE (ok : Bool) (e : Int) : Int := if ok then 0 else e
set_option maxRecDepth 100000 in
set_option maxHeartbeats 1000000 in
theorem unless_ok (ok : Bool) (e : Int) : FnOk Try.prog 57 [.v (.bool ok), .v (.int .i64 e)] (fun q => q = .v (.int .i64 (unlessE ok e))) := by
  refine fnOk_of (fn := Try.f57) 7 (by kernel_rfl) rfl (by kernel_rfl) (Nat.le_of_ble_eq_true rfl) ?_
  intro e_0 m_0 hA hm_0
  have s0_0 : evA e_0 (.tmp 0) = _ := hA 0 _ rfl
  have s1_0 : evA e_0 (.tmp 1) = _ := hA 1 _ rfl
  have ml_0 : m_0.length = 0 := by rw [hm_0]; rfl
  clear hA hm_0
  refine aw_seq ?_
  refine aw_text (by kernel_rfl) ?_
  refine al_ro' (ro_assign ev_c) trivial rfl ?_
  refine al_end (fun e_1 he_1 => ?_)
  have s0_1 := ef 0 he_1 (up_m rfl s0_0)
  have s1_1 := ef 1 he_1 (up_m rfl s1_0)
  clear he_1 s0_0 s1_0
  refine then_n ?_
  refine aw_seq ?_
  refine aw_seq ?_
  refine aw_text (by kernel_rfl) ?_
  refine al_ro' (ro_move s0_1) trivial rfl ?_
  refine al_end (fun e_2 he_2 => ?_)
  have s1_2 := ef 1 he_2 (up_m rfl s1_1)
  have s5_2 := ef 5 he_2 up_h
  clear he_2 s0_1 s1_1
  refine then_n ?_
  refine aw_case s5_2 (fun hq_3 => ?_) (fun hq_3 => ?_)
  · (first | replace hq_3 := bnt hq_3 | replace hq_3 := bnf hq_3 | replace hq_3 := bt hq_3 | replace hq_3 := bf hq_3 | replace hq_3 := bt' hq_3 | replace hq_3 := bf' hq_3 | skip)
    first
    | (cases hq_3; done) | (exfalso; omega)
    | (
       refine aw_seq ?_
       refine aw_text (by kernel_rfl) ?_
       refine al_ro' (ro_assign ev_c) trivial rfl ?_
       refine al_end (fun e_4 he_4 => ?_)
       have s4_4 := ef 4 he_4 up_h
       clear he_4 s1_2 s5_2
       refine then_n ?_
       refine aw_ret ?_
       refine then_r ?_
       refine ret1 (.inr rfl) (by kernel_rfl) (resV_tmp s4_4) (.ro _ rfl) ?_
       clear s4_4  ml_0
       (first | rfl | (simp [unlessE, *]; done) | (simp [unlessE, *] <;> omega) | (simp_all [unlessE]; done) | (simp_all [unlessE] <;> omega)))
  · (first | replace hq_3 := bnt hq_3 | replace hq_3 := bnf hq_3 | replace hq_3 := bt hq_3 | replace hq_3 := bf hq_3 | replace hq_3 := bt' hq_3 | replace hq_3 := bf' hq_3 | skip)
    first
    | (cases hq_3; done) | (exfalso; omega)
    | (
       refine aw_skip ?_
       refine then_n ?_
       refine aw_seq ?_
       refine aw_text (by kernel_rfl) ?_
       refine al_ro' (ro_move s1_2) trivial rfl ?_
       refine al_ro' (ro_assign up_h) trivial rfl ?_
       refine al_end (fun e_5 he_5 => ?_)
       have s4_5 := ef 4 he_5 up_h
       clear he_5 s1_2 s5_2
       refine then_n ?_
       refine aw_ret ?_
       refine ret1 (.inr rfl) (by kernel_rfl) (resV_tmp s4_5) (.ro _ rfl) ?_
       clear s4_5  ml_0
       (first | rfl | (simp [unlessE, *]; done) | (simp [unlessE, *] <;> omega) | (simp_all [unlessE]; done) | (simp_all [unlessE] <;> omega)))
def firstE : List Int → Int
  | [] => 0
  | e :: l => if e = 0 then firstE l else e
theorem firstE_drop {l : List Int} {i : Nat} (h : i < l.length) : firstE (l.drop i) = if l.getD i 0 = 0 then firstE (l.drop (i + 1)) else l.getD i 0 := by
  rw [List.drop_eq_getElem_cons h]
  simp [firstE, List.getD_eq_getElem?_getD, h]
set_option maxRecDepth 100000 in
set_option maxHeartbeats 1000000 in
theorem first_ok (l : List Int) (hl : l.length ≤ 1000) : FnOk Try.prog 56 [.row 1 (l.map iE)] (fun q => q = .v (.int .i64 (firstE l))) := by
  refine fnOk_of (fn := Try.f56) 15 (by kernel_rfl) rfl (by kernel_rfl) (Nat.le_of_ble_eq_true rfl) ?_
  intro e_0 m_0 hA hm_0
  have s0_0 : evA e_0 (.tmp 0) = _ := hA 0 _ rfl
  have ml_0 : m_0.length = 0 := by rw [hm_0]; rfl
  clear hA hm_0
  refine aw_seq ?_
  refine aw_text (by kernel_rfl) ?_
  refine al_ro' (ro_assign ev_c) trivial rfl ?_
  refine al_end (fun e_1 he_1 => ?_)
  have s0_1 := ef 0 he_1 (up_m rfl s0_0)
  clear he_1 s0_0
  refine then_n ?_
  refine aw_seq ?_
  refine aw_seq ?_
  refine aw_text (by kernel_rfl) ?_
  refine al_ro' (ro_move s0_1) trivial rfl ?_
  refine al_ro' (ro_eq (ro_len_row up_h rfl k1_sl126.1) (by first | (simp only [lnS] <;> rfl) | rfl)) trivial rfl ?_
  refine al_ro' (ro_move ev_c) trivial rfl ?_
  refine al_end (fun e_2 he_2 => ?_)
  have s5_2 := ef 5 he_2 (u2 rfl up_h)
  have s6_2 := ef 6 he_2 (up_m rfl up_h)
  have s7_2 := ef 7 he_2 up_h
  clear he_2 s0_1
  refine then_n ?_
  refine aw_block ?_
  refine aw_loop (S := Int) (fun i e mem => (evA e (.tmp 7) = .v (.int .i64 i)) ∧ (evA e (.tmp 5) = evA e_2 (.tmp 5)) ∧ (evA e (.tmp 6) = evA e_2 (.tmp 6)) ∧ (mem.length = 0) ∧ ((0 ≤ i ∧ i ≤ l.length ∧ firstE (l.drop i.toNat) = firstE l))) (fun i => (l.length - i).toNat) _ ⟨s7_2, rfl, rfl, ml_0, ?_⟩ ?_
  · exact ⟨by omega, by omega, rfl⟩
  · rintro i e_3 m_3 ⟨s7_3, k5_3, k6_3, ml_3, hinv⟩
    have s5_3 := k5_3.trans s5_2
    have s6_3 := k6_3.trans s6_2
    refine aw_seq ?_
    refine aw_text (by kernel_rfl) ?_
    refine al_ro' (ro_lss s7_3 s6_3) trivial rfl ?_
    refine al_end (fun e_4 he_4 => ?_)
    have s5_4 := ef 5 he_4 (up_m rfl s5_3)
    have s6_4 := ef 6 he_4 (up_m rfl s6_3)
    have s7_4 := ef 7 he_4 (up_m rfl s7_3)
    have s8_4 := ef 8 he_4 up_h
    clear he_4 s5_3 s6_3 s7_3
    refine then_n ?_
    refine aw_seq ?_
    refine aw_case s8_4 (fun hq_5 => ?_) (fun hq_5 => ?_)
    · (first | replace hq_5 := bnt hq_5 | replace hq_5 := bnf hq_5 | replace hq_5 := bt hq_5 | replace hq_5 := bf hq_5 | replace hq_5 := bt' hq_5 | replace hq_5 := bf' hq_5 | skip)
      first
      | (cases hq_5; done) | (exfalso; omega)
      | (
         refine aw_skip ?_
         refine then_n ?_
         refine aw_seq ?_
         refine aw_block ?_
         refine aw_seq ?_
         refine aw_text (by kernel_rfl) ?_
         refine al_ro' (ro_eq (ro_ix k1_sl126 s5_4 s7_4 (by first | decide | omega | (simp <;> omega)) (by first | (refine idx_map ?_; first | omega | (simp only [lnS]; omega)) | (refine idx_mapI ?_; first | omega | (simp only [lnS]; omega)) | (refine idx_mapN ?_; first | omega | (simp only [lnS]; omega)) | rfl)) (by first | (simp only [packA_t, packA_f, iE, bE, setAt, cellsA, Value.cells, map_vc, map_vn, Nat.reduceAdd, qS] <;> rfl) | rfl)) trivial rfl ?_
         refine al_ro' (ro_eq (ro_ld_ref k1_ty33 rfl up_h (by first | exact Nat.le_of_ble_eq_true rfl | omega | (simp only [lnS] <;> omega) | (simp <;> omega))) (by first | (simp only [packA_t, packA_f, iE, bE, setAt, cellsA, Value.cells, map_vc, map_vn, Nat.reduceAdd, qS] <;> rfl) | rfl)) trivial rfl ?_
         refine al_ro' (ro_assign up_h) trivial rfl ?_
         refine al_end (fun e_6 he_6 => ?_)
         have s4_6 := ef 4 he_6 up_h
         have s5_6 := ef 5 he_6 (up_m rfl (u2 rfl s5_4))
         have s6_6 := ef 6 he_6 (up_m rfl (u2 rfl s6_4))
         have s7_6 := ef 7 he_6 (up_m rfl (u2 rfl s7_4))
         clear he_6 s5_4 s6_4 s7_4 s8_4
         refine then_n ?_
         refine aw_seq ?_
         refine aw_text (by kernel_rfl) ?_
         refine al_ro' (ro_move s4_6) trivial rfl ?_
         refine al_ro' (ro_neq up_h ev_c) trivial rfl ?_
         refine al_end (fun e_7 he_7 => ?_)
         have s4_7 := ef 4 he_7 (u2 rfl s4_6)
         have s5_7 := ef 5 he_7 (u2 rfl s5_6)
         have s6_7 := ef 6 he_7 (u2 rfl s6_6)
         have s7_7 := ef 7 he_7 (u2 rfl s7_6)
         have s12_7 := ef 12 he_7 up_h
         clear he_7 s4_6 s5_6 s6_6 s7_6
         refine then_n ?_
         refine aw_case s12_7 (fun hq_8 => ?_) (fun hq_8 => ?_)
         · (first | replace hq_8 := bnt hq_8 | replace hq_8 := bnf hq_8 | replace hq_8 := bt hq_8 | replace hq_8 := bf hq_8 | replace hq_8 := bt' hq_8 | replace hq_8 := bf' hq_8 | skip)
           first
           | (cases hq_8; done) | (exfalso; omega)
           | (
              refine aw_seq ?_
              refine aw_text (by kernel_rfl) ?_
              refine al_ro' (ro_move s4_7) trivial rfl ?_
              refine al_ro' (ro_assign up_h) trivial rfl ?_
              refine al_end (fun e_9 he_9 => ?_)
              have s2_9 := ef 2 he_9 up_h
              clear he_9 s12_7 s4_7 s5_7 s6_7 s7_7
              refine then_n ?_
              refine aw_ret ?_
              refine block_r ?_
              refine then_r ?_
              refine then_r ?_
              refine block_r ?_
              refine then_r ?_
              refine ret1 (.inr rfl) (by kernel_rfl) (resV_tmp s2_9) (.ro _ rfl) ?_
              clear s2_9  ml_3
              obtain ⟨h1, h2, h3⟩ := hinv; rw [← h3, firstE_drop (i := i.toNat) (by omega), if_neg (by assumption)]; rfl)
         · (first | replace hq_8 := bnt hq_8 | replace hq_8 := bnf hq_8 | replace hq_8 := bt hq_8 | replace hq_8 := bf hq_8 | replace hq_8 := bt' hq_8 | replace hq_8 := bf' hq_8 | skip)
           first
           | (cases hq_8; done) | (exfalso; omega)
           | (
              refine aw_skip ?_
              refine block_n ?_
              refine then_n ?_
              refine aw_text (by kernel_rfl) ?_
              first | (refine al_ro' (ro_add' s7_7 ev_c ?_) trivial rfl ?_; · (unfold In64; omega)) | refine al_ro' (ro_add s7_7 ev_c) trivial rfl ?_
              refine al_ro' (ro_move up_h) trivial rfl ?_
              refine al_end (fun e_10 he_10 => ?_)
              have s5_10 := ef 5 he_10 (u2 rfl s5_7)
              have s6_10 := ef 6 he_10 (u2 rfl s6_7)
              have s7_10 := ef 7 he_10 up_h
              clear he_10 s12_7 s4_7 s5_7 s6_7 s7_7
              refine then_n ?_
              refine ⟨_, ⟨s7_10, (s5_10.trans s5_2.symm), (s6_10.trans s6_2.symm), ml_3, ?_⟩, ?_⟩
              · (obtain ⟨h1, h2, h3⟩ := hinv; refine ⟨by omega, by omega, ?_⟩; rw [← h3, firstE_drop (i := i.toNat) (by omega), if_pos (by assumption)]; congr 2; omega)
              · ((try dsimp only); omega)))
    · (first | replace hq_5 := bnt hq_5 | replace hq_5 := bnf hq_5 | replace hq_5 := bt hq_5 | replace hq_5 := bf hq_5 | replace hq_5 := bt' hq_5 | replace hq_5 := bf' hq_5 | skip)
      first
      | (cases hq_5; done) | (exfalso; omega)
      | (
         refine aw_exit ?_
         refine then_x ?_
         refine then_x ?_
         refine block_hit ?_
         refine then_n ?_
         refine aw_seq ?_
         refine aw_text (by kernel_rfl) ?_
         refine al_ro' (ro_assign ev_c) trivial rfl ?_
         refine al_end (fun e_11 he_11 => ?_)
         have s2_11 := ef 2 he_11 up_h
         clear he_11 s5_4 s6_4 s7_4 s8_4
         refine then_n ?_
         refine aw_ret ?_
         refine ret1 (.inr rfl) (by kernel_rfl) (resV_tmp s2_11) (.ro _ rfl) ?_
         clear s2_11  ml_3
         obtain ⟨h1, h2, h3⟩ := hinv; rw [← h3, List.drop_eq_nil_of_le (by omega)]; rfl)
set_option maxRecDepth 100000 in
set_option maxHeartbeats 1000000 in
theorem isSquare_ok (n : Int) : FnOk Try.prog 58 [.v (.int .i64 n)] (fun q => q = .v (.bool (withinB n 0 20000000000))) := by
  refine fnOk_of (fn := Try.f58) 5 (by kernel_rfl) rfl (by kernel_rfl) (Nat.le_of_ble_eq_true rfl) ?_
  intro e_0 m_0 hA hm_0
  have s0_0 : evA e_0 (.tmp 0) = _ := hA 0 _ rfl
  have ml_0 : m_0.length = 0 := by rw [hm_0]; rfl
  clear hA hm_0
  refine aw_seq ?_
  refine aw_text (by kernel_rfl) ?_
  refine al_ro' (ro_assign ev_c) trivial rfl ?_
  refine al_end (fun e_1 he_1 => ?_)
  have s0_1 := ef 0 he_1 (up_m rfl s0_0)
  clear he_1 s0_0
  refine then_n ?_
  refine aw_seq ?_
  refine aw_text (by kernel_rfl) ?_
  refine al_ro' (ro_move s0_1) trivial rfl ?_
  refine al_ro' (ro_call (evL_cons up_h (evL_cons ev_c (evL_cons ev_c evL_nil))) rfl (within_ok _ _ _) k1_hcf64) trivial rfl ?_
  refine al_ro' (ro_assign up_h) trivial rfl ?_
  refine al_end (fun e_2 he_2 => ?_)
  have s2_2 := ef 2 he_2 up_h
  clear he_2 s0_1
  refine then_n ?_
  refine aw_ret ?_
  refine ret1 (.inr rfl) (by kernel_rfl) (resV_tmp s2_2) (.ro _ rfl) ?_
  clear s2_2  ml_0
  rfl
end Go.Proofs.Ytgiiedpambimoaa
