/- Texts of this claim, one behind the other: lemmas for the statement. -/
import Derived.Test.YtgiiedpambimoaaDoorK1
import Derived.Test.YtgiiedpambimoaaDoorA16
/- Contracts of the lowest functions of chapter 3. No conditions on a program. -/
namespace Go.Proofs.YtgiiedpambimoaaDoor
open Go Go.RowKit Go.Proofs
set_option linter.unusedSimpArgs false
set_option linter.unusedVariables false
theorem h1_hcf63 : ∀ args w, (callFunc 63 args).run Tryd.prog w = .ok (.enter 63 args) w := fun _ _ => by kernel_rfl
theorem h1_sl146 : SlIs Tryd.prog 146 27 1 8 (.int .i64 0) := ⟨by kernel_rfl, by kernel_rfl, by kernel_rfl⟩
theorem h1_ty27 : TyIs Tryd.prog 27 false 1 := ⟨by kernel_rfl, by kernel_rfl⟩

abbrev V2 := Int × Int
def tE (v : V2) : List AV := [.v (.int .i64 v.1), .v (.int .i64 v.2)]
abbrev nA (n : Int) : AV := .v (.int .i64 n)
abbrev oA (b : Bool) : AV := .v (.bool b)
abbrev tA (v : V2) : AV := .agg [nA v.1, nA v.2]
set_option maxRecDepth 100000 in
set_option maxHeartbeats 1000000 in
theorem sWithin_ok (n lo hi : Int) : FnOk Tryd.prog 63 [nA n, nA lo, nA hi] (fun q => q = oA (withinB n lo hi)) := by
  refine fnOk_of (fn := Tryd.f63) 15 (by kernel_rfl) rfl (by kernel_rfl) (Nat.le_of_ble_eq_true rfl) ?_
  intro e_0 m_0 hA hm_0
  have s0_0 : evA e_0 (.tmp 0) = _ := hA 0 _ rfl
  have s1_0 : evA e_0 (.tmp 1) = _ := hA 1 _ rfl
  have s2_0 : evA e_0 (.tmp 2) = _ := hA 2 _ rfl
  have ml_0 : m_0.length = 0 := by rw [hm_0]; rfl
  clear hA hm_0
  refine aw_seq ?_
  refine aw_text (by kernel_rfl) ?_
  refine al_ro' (ro_assign ev_c) trivial rfl ?_
  refine al_end (fun e_1 he_1 => ?_)
  have s0_1 := ef 0 he_1 (up_m rfl s0_0)
  have s1_1 := ef 1 he_1 (up_m rfl s1_0)
  have s2_1 := ef 2 he_1 (up_m rfl s2_0)
  clear he_1 s0_0 s1_0 s2_0
  refine then_n ?_
  refine aw_seq ?_
  refine aw_text (by kernel_rfl) ?_
  refine al_ro' (ro_move s1_1) trivial rfl ?_
  refine al_ro' (ro_move (up_m rfl s0_1)) trivial rfl ?_
  refine al_ro' (ro_leq (up_m rfl up_h) up_h) trivial rfl ?_
  refine al_ro' (ro_move up_h) trivial rfl ?_
  refine al_case up_h (fun hb_2 hq_2 => ?_) (fun hb_2 hq_2 => ?_)
  · (first | replace hq_2 := bnt hq_2 | replace hq_2 := bnf hq_2 | replace hq_2 := bt hq_2 | replace hq_2 := bf hq_2 | replace hq_2 := bt' hq_2 | replace hq_2 := bf' hq_2 | skip)
    first
    | (cases hq_2; done) | (exfalso; omega)
    | (
       refine al_ro' (ro_move (u4 rfl s0_1)) ⟨_, rfl, hb_2⟩ rfl ?_
       refine al_ro' (ro_move (up_m rfl (u4 rfl s2_1))) ⟨_, rfl, (up_m rfl hb_2)⟩ rfl ?_
       refine al_ro' (ro_leq (up_m rfl up_h) up_h) ⟨_, rfl, (u2 rfl hb_2)⟩ rfl ?_
       refine al_ro' (ro_pickT (up_m rfl (u2 rfl hb_2)) up_h) trivial rfl ?_
       refine al_ro' (ro_assign up_h) trivial rfl ?_
       refine al_end (fun e_3 he_3 => ?_)
       have s6_3 := ef 6 he_3 up_h
       clear he_3 hb_2 s0_1 s1_1 s2_1
       refine then_n ?_
       refine aw_ret ?_
       refine ret1 (.inr rfl) (by kernel_rfl) (resV_tmp s6_3) (.ro _ rfl) ?_
       clear s6_3  ml_0
       (first | rfl | (simp [withinB, *]; done) | (simp [withinB, *] <;> omega) | (simp_all [withinB]; done) | (simp_all [withinB] <;> omega)))
  · (first | replace hq_2 := bnt hq_2 | replace hq_2 := bnf hq_2 | replace hq_2 := bt hq_2 | replace hq_2 := bf hq_2 | replace hq_2 := bt' hq_2 | replace hq_2 := bf' hq_2 | skip)
    first
    | (cases hq_2; done) | (exfalso; omega)
    | (
       refine al_skip' ⟨_, rfl, .inl hb_2⟩ rfl ?_
       refine al_skip' ⟨_, rfl, .inl (up_m rfl hb_2)⟩ rfl ?_
       refine al_skip' ⟨_, rfl, .inl (u2 rfl hb_2)⟩ rfl ?_
       refine al_ro' (ro_pickF (up_m rfl (u2 rfl hb_2)) ev_c) trivial rfl ?_
       refine al_ro' (ro_assign up_h) trivial rfl ?_
       refine al_end (fun e_4 he_4 => ?_)
       have s6_4 := ef 6 he_4 up_h
       clear he_4 hb_2 s0_1 s1_1 s2_1
       refine then_n ?_
       refine aw_ret ?_
       refine ret1 (.inr rfl) (by kernel_rfl) (resV_tmp s6_4) (.ro _ rfl) ?_
       clear s6_4  ml_0
       (first | rfl | (simp [withinB, *]; done) | (simp [withinB, *] <;> omega) | (simp_all [withinB]; done) | (simp_all [withinB] <;> omega)))
def smallB (n m : Int) : Bool := withinB n (-m) m
set_option maxRecDepth 100000 in
set_option maxHeartbeats 1000000 in
theorem sSmall_ok (n m : Int) (hm : -9000000000000000000 ≤ m ∧ m ≤ 9000000000000000000) : FnOk Tryd.prog 51 [nA n, nA m] (fun q => q = oA (smallB n m)) := by
  refine fnOk_of (fn := Tryd.f51) 10 (by kernel_rfl) rfl (by kernel_rfl) (Nat.le_of_ble_eq_true rfl) ?_
  intro e_0 m_0 hA hm_0
  have s0_0 : evA e_0 (.tmp 0) = _ := hA 0 _ rfl
  have s1_0 : evA e_0 (.tmp 1) = _ := hA 1 _ rfl
  have ml_0 : m_0.length = 0 := by rw [hm_0]; rfl
  clear hA hm_0
  refine aw_seq ?_
  refine aw_text (by kernel_rfl) ?_
  refine al_ro' (ro_assign ev_c) trivial rfl ?_
  refine al_end (fun e_1 he_1 => ?_)
  have s0_1 := ef 0 he_1 (up_m rfl s0_0)
  have s1_1 := ef 1 he_1 (up_m rfl s1_0)
  clear he_1 s0_0 s1_0
  refine then_n ?_
  refine aw_seq ?_
  refine aw_text (by kernel_rfl) ?_
  refine al_ro' (ro_move s0_1) trivial rfl ?_
  refine al_ro' (ro_move (up_m rfl s1_1)) trivial rfl ?_
  first | (refine al_ro' (ro_neg' up_h ?_) trivial rfl ?_; · (unfold In64; omega)) | refine al_ro' (ro_neg up_h) trivial rfl ?_
  refine al_ro' (ro_move (up_m rfl (u2 rfl s1_1))) trivial rfl ?_
  refine al_ro' (ro_call (evL_cons (up_m rfl (u2 rfl up_h)) (evL_cons (up_m rfl up_h) (evL_cons up_h evL_nil))) rfl (sWithin_ok _ _ _) h1_hcf63) trivial rfl ?_
  refine al_ro' (ro_assign up_h) trivial rfl ?_
  refine al_end (fun e_2 he_2 => ?_)
  have s4_2 := ef 4 he_2 up_h
  clear he_2 s0_1 s1_1
  refine then_n ?_
  refine aw_ret ?_
  refine ret1 (.inr rfl) (by kernel_rfl) (resV_tmp s4_2) (.ro _ rfl) ?_
  clear s4_2  ml_0
  rfl
set_option maxRecDepth 100000 in
set_option maxHeartbeats 1000000 in
theorem sUnless_ok (ok : Bool) (e : Int) : FnOk Tryd.prog 58 [oA ok, nA e] (fun q => q = nA (unlessE ok e)) := by
  refine fnOk_of (fn := Tryd.f58) 7 (by kernel_rfl) rfl (by kernel_rfl) (Nat.le_of_ble_eq_true rfl) ?_
  intro e_0 m_0 hA hm_0
  have s0_0 : evA e_0 (.tmp 0) = _ := hA 0 _ rfl
  have s1_0 : evA e_0 (.tmp 1) = _ := hA 1 _ rfl
  have ml_0 : m_0.length = 0 := by rw [hm_0]; rfl
  clear hA hm_0
  refine aw_seq ?_
  refine aw_text (by kernel_rfl) ?_
  refine al_ro' (ro_assign ev_c) trivial rfl ?_
  refine al_end (fun e_1 he_1 => ?_)
  have s0_1 := ef 0 he_1 (up_m rfl s0_0)
  have s1_1 := ef 1 he_1 (up_m rfl s1_0)
  clear he_1 s0_0 s1_0
  refine then_n ?_
  refine aw_seq ?_
  refine aw_seq ?_
  refine aw_text (by kernel_rfl) ?_
  refine al_ro' (ro_move s0_1) trivial rfl ?_
  refine al_end (fun e_2 he_2 => ?_)
  have s1_2 := ef 1 he_2 (up_m rfl s1_1)
  have s5_2 := ef 5 he_2 up_h
  clear he_2 s0_1 s1_1
  refine then_n ?_
  refine aw_case s5_2 (fun hq_3 => ?_) (fun hq_3 => ?_)
  · (first | replace hq_3 := bnt hq_3 | replace hq_3 := bnf hq_3 | replace hq_3 := bt hq_3 | replace hq_3 := bf hq_3 | replace hq_3 := bt' hq_3 | replace hq_3 := bf' hq_3 | skip)
    first
    | (cases hq_3; done) | (exfalso; omega)
    | (
       refine aw_seq ?_
       refine aw_text (by kernel_rfl) ?_
       refine al_ro' (ro_assign ev_c) trivial rfl ?_
       refine al_end (fun e_4 he_4 => ?_)
       have s4_4 := ef 4 he_4 up_h
       clear he_4 s1_2 s5_2
       refine then_n ?_
       refine aw_ret ?_
       refine then_r ?_
       refine ret1 (.inr rfl) (by kernel_rfl) (resV_tmp s4_4) (.ro _ rfl) ?_
       clear s4_4  ml_0
       (first | rfl | (simp [unlessE, *]; done) | (simp [unlessE, *] <;> omega) | (simp_all [unlessE]; done) | (simp_all [unlessE] <;> omega)))
  · (first | replace hq_3 := bnt hq_3 | replace hq_3 := bnf hq_3 | replace hq_3 := bt hq_3 | replace hq_3 := bf hq_3 | replace hq_3 := bt' hq_3 | replace hq_3 := bf' hq_3 | skip)
    first
    | (cases hq_3; done) | (exfalso; omega)
    | (
       refine aw_skip ?_
       refine then_n ?_
       refine aw_seq ?_
       refine aw_text (by kernel_rfl) ?_
       refine al_ro' (ro_move s1_2) trivial rfl ?_
       refine al_ro' (ro_assign up_h) trivial rfl ?_
       refine al_end (fun e_5 he_5 => ?_)
       have s4_5 := ef 4 he_5 up_h
       clear he_5 s1_2 s5_2
       refine then_n ?_
       refine aw_ret ?_
       refine ret1 (.inr rfl) (by kernel_rfl) (resV_tmp s4_5) (.ro _ rfl) ?_
       clear s4_5  ml_0
       (first | rfl | (simp [unlessE, *]; done) | (simp [unlessE, *] <;> omega) | (simp_all [unlessE]; done) | (simp_all [unlessE] <;> omega)))
set_option maxRecDepth 100000 in
set_option maxHeartbeats 1000000 in
theorem sFirst_ok (l : List Int) (hl : l.length ≤ 1000) : FnOk Tryd.prog 56 [.row 1 (l.map iE)] (fun q => q = nA (firstE l)) := by
  refine fnOk_of (fn := Tryd.f56) 15 (by kernel_rfl) rfl (by kernel_rfl) (Nat.le_of_ble_eq_true rfl) ?_
  intro e_0 m_0 hA hm_0
  have s0_0 : evA e_0 (.tmp 0) = _ := hA 0 _ rfl
  have ml_0 : m_0.length = 0 := by rw [hm_0]; rfl
  clear hA hm_0
  refine aw_seq ?_
  refine aw_text (by kernel_rfl) ?_
  refine al_ro' (ro_assign ev_c) trivial rfl ?_
  refine al_end (fun e_1 he_1 => ?_)
  have s0_1 := ef 0 he_1 (up_m rfl s0_0)
  clear he_1 s0_0
  refine then_n ?_
  refine aw_seq ?_
  refine aw_seq ?_
  refine aw_text (by kernel_rfl) ?_
  refine al_ro' (ro_move s0_1) trivial rfl ?_
  refine al_ro' (ro_eq (ro_len_row up_h rfl h1_sl146.1) (by first | (simp only [lnS] <;> rfl) | rfl)) trivial rfl ?_
  refine al_ro' (ro_move ev_c) trivial rfl ?_
  refine al_end (fun e_2 he_2 => ?_)
  have s5_2 := ef 5 he_2 (u2 rfl up_h)
  have s6_2 := ef 6 he_2 (up_m rfl up_h)
  have s7_2 := ef 7 he_2 up_h
  clear he_2 s0_1
  refine then_n ?_
  refine aw_block ?_
  refine aw_loop (S := Int) (fun i e mem => (evA e (.tmp 7) = .v (.int .i64 i)) ∧ (evA e (.tmp 5) = evA e_2 (.tmp 5)) ∧ (evA e (.tmp 6) = evA e_2 (.tmp 6)) ∧ (mem.length = 0) ∧ ((0 ≤ i ∧ i ≤ l.length ∧ firstE (l.drop i.toNat) = firstE l))) (fun i => (l.length - i).toNat) _ ⟨s7_2, rfl, rfl, ml_0, ?_⟩ ?_
  · exact ⟨by omega, by omega, rfl⟩
  · rintro i e_3 m_3 ⟨s7_3, k5_3, k6_3, ml_3, hinv⟩
    have s5_3 := k5_3.trans s5_2
    have s6_3 := k6_3.trans s6_2
    refine aw_seq ?_
    refine aw_text (by kernel_rfl) ?_
    refine al_ro' (ro_lss s7_3 s6_3) trivial rfl ?_
    refine al_end (fun e_4 he_4 => ?_)
    have s5_4 := ef 5 he_4 (up_m rfl s5_3)
    have s6_4 := ef 6 he_4 (up_m rfl s6_3)
    have s7_4 := ef 7 he_4 (up_m rfl s7_3)
    have s8_4 := ef 8 he_4 up_h
    clear he_4 s5_3 s6_3 s7_3
    refine then_n ?_
    refine aw_seq ?_
    refine aw_case s8_4 (fun hq_5 => ?_) (fun hq_5 => ?_)
    · (first | replace hq_5 := bnt hq_5 | replace hq_5 := bnf hq_5 | replace hq_5 := bt hq_5 | replace hq_5 := bf hq_5 | replace hq_5 := bt' hq_5 | replace hq_5 := bf' hq_5 | skip)
      first
      | (cases hq_5; done) | (exfalso; omega)
      | (
         refine aw_skip ?_
         refine then_n ?_
         refine aw_seq ?_
         refine aw_block ?_
         refine aw_seq ?_
         refine aw_text (by kernel_rfl) ?_
         refine al_ro' (ro_eq (ro_ix h1_sl146 s5_4 s7_4 (by first | decide | omega | (simp <;> omega)) (by first | (refine idx_map ?_; first | omega | (simp only [lnS]; omega)) | (refine idx_mapI ?_; first | omega | (simp only [lnS]; omega)) | (refine idx_mapN ?_; first | omega | (simp only [lnS]; omega)) | rfl)) (by first | (simp only [packA_t, packA_f, iE, bE, setAt, cellsA, Value.cells, map_vc, map_vn, Nat.reduceAdd, qS] <;> rfl) | rfl)) trivial rfl ?_
         refine al_ro' (ro_eq (ro_ld_ref h1_ty27 rfl up_h (by first | exact Nat.le_of_ble_eq_true rfl | omega | (simp only [lnS] <;> omega) | (simp <;> omega))) (by first | (simp only [packA_t, packA_f, iE, bE, setAt, cellsA, Value.cells, map_vc, map_vn, Nat.reduceAdd, qS] <;> rfl) | rfl)) trivial rfl ?_
         refine al_ro' (ro_assign up_h) trivial rfl ?_
         refine al_end (fun e_6 he_6 => ?_)
         have s4_6 := ef 4 he_6 up_h
         have s5_6 := ef 5 he_6 (up_m rfl (u2 rfl s5_4))
         have s6_6 := ef 6 he_6 (up_m rfl (u2 rfl s6_4))
         have s7_6 := ef 7 he_6 (up_m rfl (u2 rfl s7_4))
         clear he_6 s5_4 s6_4 s7_4 s8_4
         refine then_n ?_
         refine aw_seq ?_
         refine aw_text (by kernel_rfl) ?_
         refine al_ro' (ro_move s4_6) trivial rfl ?_
         refine al_ro' (ro_neq up_h ev_c) trivial rfl ?_
         refine al_end (fun e_7 he_7 => ?_)
         have s4_7 := ef 4 he_7 (u2 rfl s4_6)
         have s5_7 := ef 5 he_7 (u2 rfl s5_6)
         have s6_7 := ef 6 he_7 (u2 rfl s6_6)
         have s7_7 := ef 7 he_7 (u2 rfl s7_6)
         have s12_7 := ef 12 he_7 up_h
         clear he_7 s4_6 s5_6 s6_6 s7_6
         refine then_n ?_
         refine aw_case s12_7 (fun hq_8 => ?_) (fun hq_8 => ?_)
         · (first | replace hq_8 := bnt hq_8 | replace hq_8 := bnf hq_8 | replace hq_8 := bt hq_8 | replace hq_8 := bf hq_8 | replace hq_8 := bt' hq_8 | replace hq_8 := bf' hq_8 | skip)
           first
           | (cases hq_8; done) | (exfalso; omega)
           | (
              refine aw_seq ?_
              refine aw_text (by kernel_rfl) ?_
              refine al_ro' (ro_move s4_7) trivial rfl ?_
              refine al_ro' (ro_assign up_h) trivial rfl ?_
              refine al_end (fun e_9 he_9 => ?_)
              have s2_9 := ef 2 he_9 up_h
              clear he_9 s12_7 s4_7 s5_7 s6_7 s7_7
              refine then_n ?_
              refine aw_ret ?_
              refine block_r ?_
              refine then_r ?_
              refine then_r ?_
              refine block_r ?_
              refine then_r ?_
              refine ret1 (.inr rfl) (by kernel_rfl) (resV_tmp s2_9) (.ro _ rfl) ?_
              clear s2_9  ml_3
              obtain ⟨h1, h2, h3⟩ := hinv; rw [← h3, firstE_drop (i := i.toNat) (by omega), if_neg (by assumption)]; rfl)
         · (first | replace hq_8 := bnt hq_8 | replace hq_8 := bnf hq_8 | replace hq_8 := bt hq_8 | replace hq_8 := bf hq_8 | replace hq_8 := bt' hq_8 | replace hq_8 := bf' hq_8 | skip)
           first
           | (cases hq_8; done) | (exfalso; omega)
           | (
              refine aw_skip ?_
              refine block_n ?_
              refine then_n ?_
              refine aw_text (by kernel_rfl) ?_
              first | (refine al_ro' (ro_add' s7_7 ev_c ?_) trivial rfl ?_; · (unfold In64; omega)) | refine al_ro' (ro_add s7_7 ev_c) trivial rfl ?_
              refine al_ro' (ro_move up_h) trivial rfl ?_
              refine al_end (fun e_10 he_10 => ?_)
              have s5_10 := ef 5 he_10 (u2 rfl s5_7)
              have s6_10 := ef 6 he_10 (u2 rfl s6_7)
              have s7_10 := ef 7 he_10 up_h
              clear he_10 s12_7 s4_7 s5_7 s6_7 s7_7
              refine then_n ?_
              refine ⟨_, ⟨s7_10, (s5_10.trans s5_2.symm), (s6_10.trans s6_2.symm), ml_3, ?_⟩, ?_⟩
              · (obtain ⟨h1, h2, h3⟩ := hinv; refine ⟨by omega, by omega, ?_⟩; rw [← h3, firstE_drop (i := i.toNat) (by omega), if_pos (by assumption)]; congr 2; omega)
              · ((try dsimp only); omega)))
    · (first | replace hq_5 := bnt hq_5 | replace hq_5 := bnf hq_5 | replace hq_5 := bt hq_5 | replace hq_5 := bf hq_5 | replace hq_5 := bt' hq_5 | replace hq_5 := bf' hq_5 | skip)
      first
      | (cases hq_5; done) | (exfalso; omega)
      | (
         refine aw_exit ?_
         refine then_x ?_
         refine then_x ?_
         refine block_hit ?_
         refine then_n ?_
         refine aw_seq ?_
         refine aw_text (by kernel_rfl) ?_
         refine al_ro' (ro_assign ev_c) trivial rfl ?_
         refine al_end (fun e_11 he_11 => ?_)
         have s2_11 := ef 2 he_11 up_h
         clear he_11 s5_4 s6_4 s7_4 s8_4
         refine then_n ?_
         refine aw_ret ?_
         refine ret1 (.inr rfl) (by kernel_rfl) (resV_tmp s2_11) (.ro _ rfl) ?_
         clear s2_11  ml_3
         obtain ⟨h1, h2, h3⟩ := hinv; rw [← h3, List.drop_eq_nil_of_le (by omega)]; rfl)
end Go.Proofs.YtgiiedpambimoaaDoor

/- Contracts of chapter 3: vectors. No conditions on a program. -/
namespace Go.Proofs.YtgiiedpambimoaaDoor
open Go Go.RowKit Go.Proofs
set_option linter.unusedSimpArgs false
set_option linter.unusedVariables false
theorem h2_az24 : (Tryd.prog.info? 24).bind (·.zero) = some (.agg #[.int .i64 0, .int .i64 0]) := by kernel_rfl
theorem h2_az96 : (Tryd.prog.info? 96).bind (·.zero) = some (.agg #[.int .i64 0, .int .i64 0]) := by kernel_rfl
theorem h2_bz24 : (Tryd.prog.info? 24).bind (·.zero) = some (.agg #[.int .i64 0, .int .i64 0]) := by kernel_rfl
theorem h2_bu24 : Tryd.prog.underlying 24 = some (.struct (fsOf Tryd.prog 24)) := by kernel_rfl
theorem h2_bp24 : ∀ w, ((fsOf Tryd.prog 24).mapM fun f => Prod.mk f.offset <$> sizeOf f.type : Sem (Array (Nat × Nat))).run Tryd.prog w = .ok (#[(0, 1), (1, 1)]) w := fun _ => by kernel_rfl
theorem h2_bz96 : (Tryd.prog.info? 96).bind (·.zero) = some (.agg #[.int .i64 0, .int .i64 0]) := by kernel_rfl
theorem h2_bu96 : Tryd.prog.underlying 96 = some (.struct (fsOf Tryd.prog 96)) := by kernel_rfl
theorem h2_bp96 : ∀ w, ((fsOf Tryd.prog 96).mapM fun f => Prod.mk f.offset <$> sizeOf f.type : Sem (Array (Nat × Nat))).run Tryd.prog w = .ok (#[(0, 1), (1, 1)]) w := fun _ => by kernel_rfl
theorem h2_fl24_0 : FldIs Tryd.prog 24 0 0 false 1 := by unfold FldIs; kernel_rfl
theorem h2_fl24_1 : FldIs Tryd.prog 24 1 1 false 1 := by unfold FldIs; kernel_rfl
theorem h2_fl96_0 : FldIs Tryd.prog 96 0 0 false 1 := by unfold FldIs; kernel_rfl
theorem h2_fl96_1 : FldIs Tryd.prog 96 1 1 false 1 := by unfold FldIs; kernel_rfl
theorem h2_hcf88 : ∀ args w, (callFunc 88 args).run Tryd.prog w = .ok (.enter 88 args) w := fun _ _ => by kernel_rfl
theorem h2_hcf91 : ∀ args w, (callFunc 91 args).run Tryd.prog w = .ok (.enter 91 args) w := fun _ _ => by kernel_rfl
theorem h2_hcf92 : ∀ args w, (callFunc 92 args).run Tryd.prog w = .ok (.enter 92 args) w := fun _ _ => by kernel_rfl
theorem h2_sz24 : (Tryd.prog.info? 24).map (·.size) = some 2 := by kernel_rfl
theorem h2_sz96 : (Tryd.prog.info? 96).map (·.size) = some 2 := by kernel_rfl
theorem h2_ty24 : TyIs Tryd.prog 24 true 2 := ⟨by kernel_rfl, by kernel_rfl⟩
theorem h2_ty3 : TyIs Tryd.prog 3 false 1 := ⟨by kernel_rfl, by kernel_rfl⟩
theorem h2_ty96 : TyIs Tryd.prog 96 true 2 := ⟨by kernel_rfl, by kernel_rfl⟩

theorem mulBd {a b A B : Int} (ha : -A ≤ a ∧ a ≤ A) (hb : -B ≤ b ∧ b ≤ B) : -(A * B) ≤ a * b ∧ a * b ≤ A * B := by
  have h1 : (a * b).natAbs ≤ A.natAbs * B.natAbs := by
    rw [Int.natAbs_mul]; exact Nat.mul_le_mul (by omega) (by omega)
  have h2 : ((A.natAbs * B.natAbs : Nat) : Int) = A * B := by
    rw [Int.natCast_mul, Int.natAbs_of_nonneg (by omega), Int.natAbs_of_nonneg (by omega)]
  omega
/-- Parts of at most a size. -/
def Bd (M : Int) (v : V2) : Prop := (-M ≤ v.1 ∧ v.1 ≤ M) ∧ (-M ≤ v.2 ∧ v.2 ≤ M)
def addV (u v : V2) : V2 := (u.1 + v.1, u.2 + v.2)
def byV (n : Int) (v : V2) : V2 := (n * v.1, n * v.2)
def conjV (v : V2) : V2 := (v.1 - v.2, -v.2)
def mulV (u v : V2) : V2 := (u.1 * v.1 - u.2 * v.2, u.1 * v.2 + u.2 * v.1 - u.2 * v.2)
def rotV (v : V2) : V2 := (v.1 - v.2, v.1)
def turnN (v : V2) : Nat → V2
  | 0 => v
  | n + 1 => rotV (turnN v n)
def turnV (v : V2) (s : Int) : V2 := turnN v (s % 6).toNat
theorem tmod6 (s : Int) : (s.tmod 6 + 6).tmod 6 = s % 6 := by
  have h1 : s.tmod 6 = if 0 ≤ s ∨ s % 6 = 0 then s % 6 else s % 6 - 6 := by
    rw [Int.tmod_eq_emod]; simp only [show (6 : Int) ∣ s ↔ s % 6 = 0 from Int.dvd_iff_emod_eq_zero]; split <;> simp
  have h2 : 0 ≤ s.tmod 6 + 6 := by split at h1 <;> omega
  rw [Int.tmod_eq_emod_of_nonneg h2]
  split at h1 <;> omega
theorem turn_bd {M : Int} {v : V2} (h : Bd M v) (n : Nat) (hn : n < 6) : Bd (2 * M) (turnN v n) := by
  obtain ⟨⟨a, b⟩, c, d⟩ := h
  match n, hn with
  | 0, _ => refine ⟨⟨?_, ?_⟩, ?_, ?_⟩ <;> simp only [turnN] <;> omega
  | 1, _ => refine ⟨⟨?_, ?_⟩, ?_, ?_⟩ <;> simp only [turnN, rotV] <;> omega
  | 2, _ => refine ⟨⟨?_, ?_⟩, ?_, ?_⟩ <;> simp only [turnN, rotV] <;> omega
  | 3, _ => refine ⟨⟨?_, ?_⟩, ?_, ?_⟩ <;> simp only [turnN, rotV] <;> omega
  | 4, _ => refine ⟨⟨?_, ?_⟩, ?_, ?_⟩ <;> simp only [turnN, rotV] <;> omega
  | 5, _ => refine ⟨⟨?_, ?_⟩, ?_, ?_⟩ <;> simp only [turnN, rotV] <;> omega
theorem turnV_bd {M : Int} {v : V2} (h : Bd M v) (s : Int) : Bd (2 * M) (turnV v s) := turn_bd h _ (by omega)
section
variable (u v : V2) (hu : Bd 1000000000 u) (hv : Bd 1000000000 v)
include hu hv
set_option maxRecDepth 100000 in
set_option maxHeartbeats 1000000 in
theorem plus_ok : FnOk Tryd.prog 60 [tA u, tA v] (fun q => q = tA (addV u v)) := by
  obtain ⟨⟨a1, a2⟩, a3, a4⟩ := hu
  obtain ⟨⟨b1, b2⟩, b3, b4⟩ := hv
  refine fnOk_of (fn := Tryd.f60) 16 (by kernel_rfl) rfl (by kernel_rfl) (Nat.le_of_ble_eq_true rfl) ?_
  intro e_0 m_0 hA hm_0
  have s0_0 : evA e_0 (.tmp 0) = _ := hA 0 _ rfl
  have s1_0 : evA e_0 (.tmp 1) = _ := hA 1 _ rfl
  have ml_0 : m_0.length = 0 := by rw [hm_0]; rfl
  clear hA hm_0
  refine aw_seq ?_
  refine aw_text (by kernel_rfl) ?_
  refine al_stm (st_box s0_0 rfl ml_0) trivial rfl (fun m_1 hm_1 => ?_)
  have mo0_1 := m_push hm_1 ml_0
  (try simp only [packA_t, packA_f, iE, bE, setAt, cellsA, Value.cells, map_vc, map_vn, Nat.reduceAdd, qS] at mo0_1)
  have ml_1 := m_push_l hm_1 ml_0
  have ml_1 : _ = 1 := ml_1
  clear hm_1
  refine al_stm (st_box (up_m rfl s1_0) rfl ml_1) trivial rfl (fun m_2 hm_2 => ?_)
  have mo1_2 := m_push hm_2 ml_1
  (try simp only [packA_t, packA_f, iE, bE, setAt, cellsA, Value.cells, map_vc, map_vn, Nat.reduceAdd, qS] at mo1_2)
  have mo0_2 := m_push_o hm_2 mo0_1
  have ml_2 := m_push_l hm_2 ml_1
  have ml_2 : _ = 2 := ml_2
  clear hm_2 mo0_1
  refine al_stm (st_alloc h2_az96 rfl ml_2) trivial rfl (fun m_3 hm_3 => ?_)
  have mo2_3 := m_push hm_3 ml_2
  (try simp only [packA_t, packA_f, iE, bE, setAt, cellsA, Value.cells, map_vc, map_vn, Nat.reduceAdd, qS] at mo2_3)
  have mo1_3 := m_push_o hm_3 mo1_2
  have mo0_3 := m_push_o hm_3 mo0_2
  have ml_3 := m_push_l hm_3 ml_2
  have ml_3 : _ = 3 := ml_3
  clear hm_3 mo1_2 mo0_2
  refine al_end (fun e_4 he_4 => ?_)
  have s2_4 := ef 2 he_4 (u2 rfl up_h)
  have s3_4 := ef 3 he_4 (up_m rfl up_h)
  have s4_4 := ef 4 he_4 up_h
  clear he_4 s0_0 s1_0
  refine then_n ?_
  refine aw_seq ?_
  refine aw_text (by kernel_rfl) ?_
  refine al_ro' (ro_fld_ptr h2_fl96_0 rfl s2_4) trivial rfl ?_
  refine al_ro' (ro_eq (ro_ld_ptr h2_ty3 rfl mo0_3 up_h (by first | exact Nat.le_of_ble_eq_true rfl | omega | (simp only [lnS] <;> omega) | (simp <;> omega))) (by first | (simp only [packA_t, packA_f, iE, bE, setAt, cellsA, Value.cells, map_vc, map_vn, Nat.reduceAdd, qS] <;> rfl) | rfl)) trivial rfl ?_
  refine al_ro' (ro_fld_ptr h2_fl96_0 rfl (u2 rfl s3_4)) trivial rfl ?_
  refine al_ro' (ro_eq (ro_ld_ptr h2_ty3 rfl mo1_3 up_h (by first | exact Nat.le_of_ble_eq_true rfl | omega | (simp only [lnS] <;> omega) | (simp <;> omega))) (by first | (simp only [packA_t, packA_f, iE, bE, setAt, cellsA, Value.cells, map_vc, map_vn, Nat.reduceAdd, qS] <;> rfl) | rfl)) trivial rfl ?_
  first | (refine al_ro' (ro_add' (u2 rfl up_h) up_h ?_) trivial rfl ?_; · (unfold In64; omega)) | refine al_ro' (ro_add (u2 rfl up_h) up_h) trivial rfl ?_
  refine al_ro' (ro_fld_ptr h2_fl96_1 rfl (up_m rfl (u4 rfl s2_4))) trivial rfl ?_
  refine al_ro' (ro_eq (ro_ld_ptr h2_ty3 rfl mo0_3 up_h (by first | exact Nat.le_of_ble_eq_true rfl | omega | (simp only [lnS] <;> omega) | (simp <;> omega))) (by first | (simp only [packA_t, packA_f, iE, bE, setAt, cellsA, Value.cells, map_vc, map_vn, Nat.reduceAdd, qS] <;> rfl) | rfl)) trivial rfl ?_
  refine al_ro' (ro_fld_ptr h2_fl96_1 rfl (up_m rfl (u2 rfl (u4 rfl s3_4)))) trivial rfl ?_
  refine al_ro' (ro_eq (ro_ld_ptr h2_ty3 rfl mo1_3 up_h (by first | exact Nat.le_of_ble_eq_true rfl | omega | (simp only [lnS] <;> omega) | (simp <;> omega))) (by first | (simp only [packA_t, packA_f, iE, bE, setAt, cellsA, Value.cells, map_vc, map_vn, Nat.reduceAdd, qS] <;> rfl) | rfl)) trivial rfl ?_
  first | (refine al_ro' (ro_add' (u2 rfl up_h) up_h ?_) trivial rfl ?_; · (unfold In64; omega)) | refine al_ro' (ro_add (u2 rfl up_h) up_h) trivial rfl ?_
  refine al_ro' (ro_build (evP_cons (up_m rfl (u4 rfl up_h)) (evP_cons up_h evP_nil)) h2_bz96 h2_bu96 h2_bp96 rfl) trivial rfl ?_
  refine al_stm (st_store (up_m rfl (u2 rfl (u8 rfl s4_4))) up_h rfl rfl mo2_3 h2_sz96 rfl (by first | exact Nat.le_of_ble_eq_true rfl | omega | (simp only [lnS] <;> omega) | (simp <;> omega))) trivial rfl (fun m_5 hm_5 => ?_)
  have mo2_5 := m_set hm_5 mo2_3
  (try simp only [packA_t, packA_f, iE, bE, setAt, cellsA, Value.cells, map_vc, map_vn, Nat.reduceAdd, qS] at mo2_5)
  have mo1_5 := m_set_o hm_5 mo1_3 (by decide)
  have mo0_5 := m_set_o hm_5 mo0_3 (by decide)
  have ml_5 := m_set_l hm_5 ml_3
  clear hm_5 mo2_3 mo1_3 mo0_3
  refine al_end (fun e_6 he_6 => ?_)
  have s4_6 := ef 4 he_6 (up_n (up_m rfl (u2 rfl (u8 rfl s4_4))))
  clear he_6 s2_4 s3_4 s4_4
  refine then_n ?_
  refine aw_ret ?_
  refine ret1 (.inr rfl) (by kernel_rfl) (resV_cell s4_6 mo2_5 h2_ty96 (by first | exact Nat.le_of_ble_eq_true rfl | omega | (simp only [lnS] <;> omega) | (simp <;> omega)) (by simp)) (vw_r (.ro _ rfl)) ?_
  clear s4_6 mo2_5 mo1_5 mo0_5 ml_5
  rfl
set_option maxRecDepth 100000 in
set_option maxHeartbeats 1000000 in
theorem tAdd_ok : FnOk Tryd.prog 53 [tA u, tA v] (fun q => q = tA (addV u v)) := by
  obtain ⟨⟨a1, a2⟩, a3, a4⟩ := hu
  obtain ⟨⟨b1, b2⟩, b3, b4⟩ := hv
  refine fnOk_of (fn := Tryd.f53) 16 (by kernel_rfl) rfl (by kernel_rfl) (Nat.le_of_ble_eq_true rfl) ?_
  intro e_0 m_0 hA hm_0
  have s0_0 : evA e_0 (.tmp 0) = _ := hA 0 _ rfl
  have s1_0 : evA e_0 (.tmp 1) = _ := hA 1 _ rfl
  have ml_0 : m_0.length = 0 := by rw [hm_0]; rfl
  clear hA hm_0
  refine aw_seq ?_
  refine aw_text (by kernel_rfl) ?_
  refine al_stm (st_box s0_0 rfl ml_0) trivial rfl (fun m_1 hm_1 => ?_)
  have mo0_1 := m_push hm_1 ml_0
  (try simp only [packA_t, packA_f, iE, bE, setAt, cellsA, Value.cells, map_vc, map_vn, Nat.reduceAdd, qS] at mo0_1)
  have ml_1 := m_push_l hm_1 ml_0
  have ml_1 : _ = 1 := ml_1
  clear hm_1
  refine al_stm (st_box (up_m rfl s1_0) rfl ml_1) trivial rfl (fun m_2 hm_2 => ?_)
  have mo1_2 := m_push hm_2 ml_1
  (try simp only [packA_t, packA_f, iE, bE, setAt, cellsA, Value.cells, map_vc, map_vn, Nat.reduceAdd, qS] at mo1_2)
  have mo0_2 := m_push_o hm_2 mo0_1
  have ml_2 := m_push_l hm_2 ml_1
  have ml_2 : _ = 2 := ml_2
  clear hm_2 mo0_1
  refine al_stm (st_alloc h2_az24 rfl ml_2) trivial rfl (fun m_3 hm_3 => ?_)
  have mo2_3 := m_push hm_3 ml_2
  (try simp only [packA_t, packA_f, iE, bE, setAt, cellsA, Value.cells, map_vc, map_vn, Nat.reduceAdd, qS] at mo2_3)
  have mo1_3 := m_push_o hm_3 mo1_2
  have mo0_3 := m_push_o hm_3 mo0_2
  have ml_3 := m_push_l hm_3 ml_2
  have ml_3 : _ = 3 := ml_3
  clear hm_3 mo1_2 mo0_2
  refine al_end (fun e_4 he_4 => ?_)
  have s2_4 := ef 2 he_4 (u2 rfl up_h)
  have s3_4 := ef 3 he_4 (up_m rfl up_h)
  have s4_4 := ef 4 he_4 up_h
  clear he_4 s0_0 s1_0
  refine then_n ?_
  refine aw_seq ?_
  refine aw_text (by kernel_rfl) ?_
  refine al_ro' (ro_fld_ptr h2_fl24_0 rfl s2_4) trivial rfl ?_
  refine al_ro' (ro_eq (ro_ld_ptr h2_ty3 rfl mo0_3 up_h (by first | exact Nat.le_of_ble_eq_true rfl | omega | (simp only [lnS] <;> omega) | (simp <;> omega))) (by first | (simp only [packA_t, packA_f, iE, bE, setAt, cellsA, Value.cells, map_vc, map_vn, Nat.reduceAdd, qS] <;> rfl) | rfl)) trivial rfl ?_
  refine al_ro' (ro_fld_ptr h2_fl24_0 rfl (u2 rfl s3_4)) trivial rfl ?_
  refine al_ro' (ro_eq (ro_ld_ptr h2_ty3 rfl mo1_3 up_h (by first | exact Nat.le_of_ble_eq_true rfl | omega | (simp only [lnS] <;> omega) | (simp <;> omega))) (by first | (simp only [packA_t, packA_f, iE, bE, setAt, cellsA, Value.cells, map_vc, map_vn, Nat.reduceAdd, qS] <;> rfl) | rfl)) trivial rfl ?_
  first | (refine al_ro' (ro_add' (u2 rfl up_h) up_h ?_) trivial rfl ?_; · (unfold In64; omega)) | refine al_ro' (ro_add (u2 rfl up_h) up_h) trivial rfl ?_
  refine al_ro' (ro_fld_ptr h2_fl24_1 rfl (up_m rfl (u4 rfl s2_4))) trivial rfl ?_
  refine al_ro' (ro_eq (ro_ld_ptr h2_ty3 rfl mo0_3 up_h (by first | exact Nat.le_of_ble_eq_true rfl | omega | (simp only [lnS] <;> omega) | (simp <;> omega))) (by first | (simp only [packA_t, packA_f, iE, bE, setAt, cellsA, Value.cells, map_vc, map_vn, Nat.reduceAdd, qS] <;> rfl) | rfl)) trivial rfl ?_
  refine al_ro' (ro_fld_ptr h2_fl24_1 rfl (up_m rfl (u2 rfl (u4 rfl s3_4)))) trivial rfl ?_
  refine al_ro' (ro_eq (ro_ld_ptr h2_ty3 rfl mo1_3 up_h (by first | exact Nat.le_of_ble_eq_true rfl | omega | (simp only [lnS] <;> omega) | (simp <;> omega))) (by first | (simp only [packA_t, packA_f, iE, bE, setAt, cellsA, Value.cells, map_vc, map_vn, Nat.reduceAdd, qS] <;> rfl) | rfl)) trivial rfl ?_
  first | (refine al_ro' (ro_add' (u2 rfl up_h) up_h ?_) trivial rfl ?_; · (unfold In64; omega)) | refine al_ro' (ro_add (u2 rfl up_h) up_h) trivial rfl ?_
  refine al_ro' (ro_build (evP_cons (up_m rfl (u4 rfl up_h)) (evP_cons up_h evP_nil)) h2_bz24 h2_bu24 h2_bp24 rfl) trivial rfl ?_
  refine al_stm (st_store (up_m rfl (u2 rfl (u8 rfl s4_4))) up_h rfl rfl mo2_3 h2_sz24 rfl (by first | exact Nat.le_of_ble_eq_true rfl | omega | (simp only [lnS] <;> omega) | (simp <;> omega))) trivial rfl (fun m_5 hm_5 => ?_)
  have mo2_5 := m_set hm_5 mo2_3
  (try simp only [packA_t, packA_f, iE, bE, setAt, cellsA, Value.cells, map_vc, map_vn, Nat.reduceAdd, qS] at mo2_5)
  have mo1_5 := m_set_o hm_5 mo1_3 (by decide)
  have mo0_5 := m_set_o hm_5 mo0_3 (by decide)
  have ml_5 := m_set_l hm_5 ml_3
  clear hm_5 mo2_3 mo1_3 mo0_3
  refine al_end (fun e_6 he_6 => ?_)
  have s4_6 := ef 4 he_6 (up_n (up_m rfl (u2 rfl (u8 rfl s4_4))))
  clear he_6 s2_4 s3_4 s4_4
  refine then_n ?_
  refine aw_ret ?_
  refine ret1 (.inr rfl) (by kernel_rfl) (resV_cell s4_6 mo2_5 h2_ty24 (by first | exact Nat.le_of_ble_eq_true rfl | omega | (simp only [lnS] <;> omega) | (simp <;> omega)) (by simp)) (vw_r (.ro _ rfl)) ?_
  clear s4_6 mo2_5 mo1_5 mo0_5 ml_5
  rfl
set_option maxRecDepth 100000 in
set_option maxHeartbeats 1000000 in
theorem times_ok : FnOk Tryd.prog 91 [tA u, tA v] (fun q => q = tA (mulV u v)) := by
  have m1 := mulBd hu.1 hv.1
  have m2 := mulBd hu.1 hv.2
  have m3 := mulBd hu.2 hv.1
  have m4 := mulBd hu.2 hv.2
  refine fnOk_of (fn := Tryd.f91) 32 (by kernel_rfl) rfl (by kernel_rfl) (Nat.le_of_ble_eq_true rfl) ?_
  intro e_0 m_0 hA hm_0
  have s0_0 : evA e_0 (.tmp 0) = _ := hA 0 _ rfl
  have s1_0 : evA e_0 (.tmp 1) = _ := hA 1 _ rfl
  have ml_0 : m_0.length = 0 := by rw [hm_0]; rfl
  clear hA hm_0
  refine aw_seq ?_
  refine aw_text (by kernel_rfl) ?_
  refine al_stm (st_box s0_0 rfl ml_0) trivial rfl (fun m_1 hm_1 => ?_)
  have mo0_1 := m_push hm_1 ml_0
  (try simp only [packA_t, packA_f, iE, bE, setAt, cellsA, Value.cells, map_vc, map_vn, Nat.reduceAdd, qS] at mo0_1)
  have ml_1 := m_push_l hm_1 ml_0
  have ml_1 : _ = 1 := ml_1
  clear hm_1
  refine al_stm (st_box (up_m rfl s1_0) rfl ml_1) trivial rfl (fun m_2 hm_2 => ?_)
  have mo1_2 := m_push hm_2 ml_1
  (try simp only [packA_t, packA_f, iE, bE, setAt, cellsA, Value.cells, map_vc, map_vn, Nat.reduceAdd, qS] at mo1_2)
  have mo0_2 := m_push_o hm_2 mo0_1
  have ml_2 := m_push_l hm_2 ml_1
  have ml_2 : _ = 2 := ml_2
  clear hm_2 mo0_1
  refine al_stm (st_alloc h2_az96 rfl ml_2) trivial rfl (fun m_3 hm_3 => ?_)
  have mo2_3 := m_push hm_3 ml_2
  (try simp only [packA_t, packA_f, iE, bE, setAt, cellsA, Value.cells, map_vc, map_vn, Nat.reduceAdd, qS] at mo2_3)
  have mo1_3 := m_push_o hm_3 mo1_2
  have mo0_3 := m_push_o hm_3 mo0_2
  have ml_3 := m_push_l hm_3 ml_2
  have ml_3 : _ = 3 := ml_3
  clear hm_3 mo1_2 mo0_2
  refine al_end (fun e_4 he_4 => ?_)
  have s2_4 := ef 2 he_4 (u2 rfl up_h)
  have s3_4 := ef 3 he_4 (up_m rfl up_h)
  have s4_4 := ef 4 he_4 up_h
  clear he_4 s0_0 s1_0
  refine then_n ?_
  refine aw_seq ?_
  refine aw_text (by kernel_rfl) ?_
  refine al_ro' (ro_fld_ptr h2_fl96_1 rfl s2_4) trivial rfl ?_
  refine al_ro' (ro_eq (ro_ld_ptr h2_ty3 rfl mo0_3 up_h (by first | exact Nat.le_of_ble_eq_true rfl | omega | (simp only [lnS] <;> omega) | (simp <;> omega))) (by first | (simp only [packA_t, packA_f, iE, bE, setAt, cellsA, Value.cells, map_vc, map_vn, Nat.reduceAdd, qS] <;> rfl) | rfl)) trivial rfl ?_
  refine al_ro' (ro_fld_ptr h2_fl96_1 rfl (u2 rfl s3_4)) trivial rfl ?_
  refine al_ro' (ro_eq (ro_ld_ptr h2_ty3 rfl mo1_3 up_h (by first | exact Nat.le_of_ble_eq_true rfl | omega | (simp only [lnS] <;> omega) | (simp <;> omega))) (by first | (simp only [packA_t, packA_f, iE, bE, setAt, cellsA, Value.cells, map_vc, map_vn, Nat.reduceAdd, qS] <;> rfl) | rfl)) trivial rfl ?_
  first | (refine al_ro' (ro_mul' (u2 rfl up_h) up_h ?_) trivial rfl ?_; · (unfold In64; omega)) | refine al_ro' (ro_mul (u2 rfl up_h) up_h) trivial rfl ?_
  refine al_ro' (ro_assign up_h) trivial rfl ?_
  refine al_end (fun e_5 he_5 => ?_)
  have s2_5 := ef 2 he_5 (u2 rfl (u4 rfl s2_4))
  have s3_5 := ef 3 he_5 (u2 rfl (u4 rfl s3_4))
  have s4_5 := ef 4 he_5 (u2 rfl (u4 rfl s4_4))
  have s5_5 := ef 5 he_5 up_h
  clear he_5 s2_4 s3_4 s4_4
  refine then_n ?_
  refine aw_seq ?_
  refine aw_text (by kernel_rfl) ?_
  refine al_ro' (ro_fld_ptr h2_fl96_0 rfl s2_5) trivial rfl ?_
  refine al_ro' (ro_eq (ro_ld_ptr h2_ty3 rfl mo0_3 up_h (by first | exact Nat.le_of_ble_eq_true rfl | omega | (simp only [lnS] <;> omega) | (simp <;> omega))) (by first | (simp only [packA_t, packA_f, iE, bE, setAt, cellsA, Value.cells, map_vc, map_vn, Nat.reduceAdd, qS] <;> rfl) | rfl)) trivial rfl ?_
  refine al_ro' (ro_fld_ptr h2_fl96_0 rfl (u2 rfl s3_5)) trivial rfl ?_
  refine al_ro' (ro_eq (ro_ld_ptr h2_ty3 rfl mo1_3 up_h (by first | exact Nat.le_of_ble_eq_true rfl | omega | (simp only [lnS] <;> omega) | (simp <;> omega))) (by first | (simp only [packA_t, packA_f, iE, bE, setAt, cellsA, Value.cells, map_vc, map_vn, Nat.reduceAdd, qS] <;> rfl) | rfl)) trivial rfl ?_
  first | (refine al_ro' (ro_mul' (u2 rfl up_h) up_h ?_) trivial rfl ?_; · (unfold In64; omega)) | refine al_ro' (ro_mul (u2 rfl up_h) up_h) trivial rfl ?_
  refine al_ro' (ro_move (up_m rfl (u4 rfl s5_5))) trivial rfl ?_
  first | (refine al_ro' (ro_sub' (up_m rfl up_h) up_h ?_) trivial rfl ?_; · (unfold In64; omega)) | refine al_ro' (ro_sub (up_m rfl up_h) up_h) trivial rfl ?_
  refine al_ro' (ro_fld_ptr h2_fl96_0 rfl (up_m rfl (u2 rfl (u4 rfl s2_5)))) trivial rfl ?_
  refine al_ro' (ro_eq (ro_ld_ptr h2_ty3 rfl mo0_3 up_h (by first | exact Nat.le_of_ble_eq_true rfl | omega | (simp only [lnS] <;> omega) | (simp <;> omega))) (by first | (simp only [packA_t, packA_f, iE, bE, setAt, cellsA, Value.cells, map_vc, map_vn, Nat.reduceAdd, qS] <;> rfl) | rfl)) trivial rfl ?_
  refine al_ro' (ro_fld_ptr h2_fl96_1 rfl (up_m rfl (u8 rfl s3_5))) trivial rfl ?_
  refine al_ro' (ro_eq (ro_ld_ptr h2_ty3 rfl mo1_3 up_h (by first | exact Nat.le_of_ble_eq_true rfl | omega | (simp only [lnS] <;> omega) | (simp <;> omega))) (by first | (simp only [packA_t, packA_f, iE, bE, setAt, cellsA, Value.cells, map_vc, map_vn, Nat.reduceAdd, qS] <;> rfl) | rfl)) trivial rfl ?_
  first | (refine al_ro' (ro_mul' (u2 rfl up_h) up_h ?_) trivial rfl ?_; · (unfold In64; omega)) | refine al_ro' (ro_mul (u2 rfl up_h) up_h) trivial rfl ?_
  refine al_ro' (ro_fld_ptr h2_fl96_1 rfl (u4 rfl (u8 rfl s2_5))) trivial rfl ?_
  refine al_ro' (ro_eq (ro_ld_ptr h2_ty3 rfl mo0_3 up_h (by first | exact Nat.le_of_ble_eq_true rfl | omega | (simp only [lnS] <;> omega) | (simp <;> omega))) (by first | (simp only [packA_t, packA_f, iE, bE, setAt, cellsA, Value.cells, map_vc, map_vn, Nat.reduceAdd, qS] <;> rfl) | rfl)) trivial rfl ?_
  refine al_ro' (ro_fld_ptr h2_fl96_0 rfl (u2 rfl (u4 rfl (u8 rfl s3_5)))) trivial rfl ?_
  refine al_ro' (ro_eq (ro_ld_ptr h2_ty3 rfl mo1_3 up_h (by first | exact Nat.le_of_ble_eq_true rfl | omega | (simp only [lnS] <;> omega) | (simp <;> omega))) (by first | (simp only [packA_t, packA_f, iE, bE, setAt, cellsA, Value.cells, map_vc, map_vn, Nat.reduceAdd, qS] <;> rfl) | rfl)) trivial rfl ?_
  first | (refine al_ro' (ro_mul' (u2 rfl up_h) up_h ?_) trivial rfl ?_; · (unfold In64; omega)) | refine al_ro' (ro_mul (u2 rfl up_h) up_h) trivial rfl ?_
  first | (refine al_ro' (ro_add' (up_m rfl (u4 rfl up_h)) up_h ?_) trivial rfl ?_; · (unfold In64; omega)) | refine al_ro' (ro_add (up_m rfl (u4 rfl up_h)) up_h) trivial rfl ?_
  refine al_ro' (ro_move (u2 rfl (u16 rfl s5_5))) trivial rfl ?_
  first | (refine al_ro' (ro_sub' (up_m rfl up_h) up_h ?_) trivial rfl ?_; · (unfold In64; omega)) | refine al_ro' (ro_sub (up_m rfl up_h) up_h) trivial rfl ?_
  refine al_ro' (ro_build (evP_cons (up_m rfl (u4 rfl (u8 rfl up_h))) (evP_cons up_h evP_nil)) h2_bz96 h2_bu96 h2_bp96 rfl) trivial rfl ?_
  refine al_stm (st_store (up_m rfl (u4 rfl (u16 rfl s4_5))) up_h rfl rfl mo2_3 h2_sz96 rfl (by first | exact Nat.le_of_ble_eq_true rfl | omega | (simp only [lnS] <;> omega) | (simp <;> omega))) trivial rfl (fun m_6 hm_6 => ?_)
  have mo2_6 := m_set hm_6 mo2_3
  (try simp only [packA_t, packA_f, iE, bE, setAt, cellsA, Value.cells, map_vc, map_vn, Nat.reduceAdd, qS] at mo2_6)
  have mo1_6 := m_set_o hm_6 mo1_3 (by decide)
  have mo0_6 := m_set_o hm_6 mo0_3 (by decide)
  have ml_6 := m_set_l hm_6 ml_3
  clear hm_6 mo2_3 mo1_3 mo0_3
  refine al_end (fun e_7 he_7 => ?_)
  have s4_7 := ef 4 he_7 (up_n (up_m rfl (u4 rfl (u16 rfl s4_5))))
  clear he_7 s2_5 s3_5 s4_5 s5_5
  refine then_n ?_
  refine aw_ret ?_
  refine ret1 (.inr rfl) (by kernel_rfl) (resV_cell s4_7 mo2_6 h2_ty96 (by first | exact Nat.le_of_ble_eq_true rfl | omega | (simp only [lnS] <;> omega) | (simp <;> omega)) (by simp)) (vw_r (.ro _ rfl)) ?_
  clear s4_7 mo2_6 mo1_6 mo0_6 ml_6
  rfl
end
section
variable (v : V2) (hv : Bd 1000000000 v)
include hv
set_option maxRecDepth 100000 in
set_option maxHeartbeats 1000000 in
theorem conj_ok : FnOk Tryd.prog 92 [tA v] (fun q => q = tA (conjV v)) := by
  obtain ⟨⟨b1, b2⟩, b3, b4⟩ := hv
  refine fnOk_of (fn := Tryd.f92) 12 (by kernel_rfl) rfl (by kernel_rfl) (Nat.le_of_ble_eq_true rfl) ?_
  intro e_0 m_0 hA hm_0
  have s0_0 : evA e_0 (.tmp 0) = _ := hA 0 _ rfl
  have ml_0 : m_0.length = 0 := by rw [hm_0]; rfl
  clear hA hm_0
  refine aw_seq ?_
  refine aw_text (by kernel_rfl) ?_
  refine al_stm (st_box s0_0 rfl ml_0) trivial rfl (fun m_1 hm_1 => ?_)
  have mo0_1 := m_push hm_1 ml_0
  (try simp only [packA_t, packA_f, iE, bE, setAt, cellsA, Value.cells, map_vc, map_vn, Nat.reduceAdd, qS] at mo0_1)
  have ml_1 := m_push_l hm_1 ml_0
  have ml_1 : _ = 1 := ml_1
  clear hm_1
  refine al_stm (st_alloc h2_az96 rfl ml_1) trivial rfl (fun m_2 hm_2 => ?_)
  have mo1_2 := m_push hm_2 ml_1
  (try simp only [packA_t, packA_f, iE, bE, setAt, cellsA, Value.cells, map_vc, map_vn, Nat.reduceAdd, qS] at mo1_2)
  have mo0_2 := m_push_o hm_2 mo0_1
  have ml_2 := m_push_l hm_2 ml_1
  have ml_2 : _ = 2 := ml_2
  clear hm_2 mo0_1
  refine al_end (fun e_3 he_3 => ?_)
  have s1_3 := ef 1 he_3 (up_m rfl up_h)
  have s2_3 := ef 2 he_3 up_h
  clear he_3 s0_0
  refine then_n ?_
  refine aw_seq ?_
  refine aw_text (by kernel_rfl) ?_
  refine al_ro' (ro_fld_ptr h2_fl96_0 rfl s1_3) trivial rfl ?_
  refine al_ro' (ro_eq (ro_ld_ptr h2_ty3 rfl mo0_2 up_h (by first | exact Nat.le_of_ble_eq_true rfl | omega | (simp only [lnS] <;> omega) | (simp <;> omega))) (by first | (simp only [packA_t, packA_f, iE, bE, setAt, cellsA, Value.cells, map_vc, map_vn, Nat.reduceAdd, qS] <;> rfl) | rfl)) trivial rfl ?_
  refine al_ro' (ro_fld_ptr h2_fl96_1 rfl (u2 rfl s1_3)) trivial rfl ?_
  refine al_ro' (ro_eq (ro_ld_ptr h2_ty3 rfl mo0_2 up_h (by first | exact Nat.le_of_ble_eq_true rfl | omega | (simp only [lnS] <;> omega) | (simp <;> omega))) (by first | (simp only [packA_t, packA_f, iE, bE, setAt, cellsA, Value.cells, map_vc, map_vn, Nat.reduceAdd, qS] <;> rfl) | rfl)) trivial rfl ?_
  first | (refine al_ro' (ro_sub' (u2 rfl up_h) up_h ?_) trivial rfl ?_; · (unfold In64; omega)) | refine al_ro' (ro_sub (u2 rfl up_h) up_h) trivial rfl ?_
  refine al_ro' (ro_fld_ptr h2_fl96_1 rfl (up_m rfl (u4 rfl s1_3))) trivial rfl ?_
  refine al_ro' (ro_eq (ro_ld_ptr h2_ty3 rfl mo0_2 up_h (by first | exact Nat.le_of_ble_eq_true rfl | omega | (simp only [lnS] <;> omega) | (simp <;> omega))) (by first | (simp only [packA_t, packA_f, iE, bE, setAt, cellsA, Value.cells, map_vc, map_vn, Nat.reduceAdd, qS] <;> rfl) | rfl)) trivial rfl ?_
  first | (refine al_ro' (ro_neg' up_h ?_) trivial rfl ?_; · (unfold In64; omega)) | refine al_ro' (ro_neg up_h) trivial rfl ?_
  refine al_ro' (ro_build (evP_cons (up_m rfl (u2 rfl up_h)) (evP_cons up_h evP_nil)) h2_bz96 h2_bu96 h2_bp96 rfl) trivial rfl ?_
  refine al_stm (st_store (up_m rfl (u8 rfl s2_3)) up_h rfl rfl mo1_2 h2_sz96 rfl (by first | exact Nat.le_of_ble_eq_true rfl | omega | (simp only [lnS] <;> omega) | (simp <;> omega))) trivial rfl (fun m_4 hm_4 => ?_)
  have mo1_4 := m_set hm_4 mo1_2
  (try simp only [packA_t, packA_f, iE, bE, setAt, cellsA, Value.cells, map_vc, map_vn, Nat.reduceAdd, qS] at mo1_4)
  have mo0_4 := m_set_o hm_4 mo0_2 (by decide)
  have ml_4 := m_set_l hm_4 ml_2
  clear hm_4 mo1_2 mo0_2
  refine al_end (fun e_5 he_5 => ?_)
  have s2_5 := ef 2 he_5 (up_n (up_m rfl (u8 rfl s2_3)))
  clear he_5 s1_3 s2_3
  refine then_n ?_
  refine aw_ret ?_
  refine ret1 (.inr rfl) (by kernel_rfl) (resV_cell s2_5 mo1_4 h2_ty96 (by first | exact Nat.le_of_ble_eq_true rfl | omega | (simp only [lnS] <;> omega) | (simp <;> omega)) (by simp)) (vw_r (.ro _ rfl)) ?_
  clear s2_5 mo1_4 mo0_4 ml_4
  rfl
set_option maxRecDepth 100000 in
set_option maxHeartbeats 1000000 in
theorem by_ok (n : Int) (hn : -1000000000 ≤ n ∧ n ≤ 1000000000) : FnOk Tryd.prog 49 [tA v, nA n] (fun q => q = tA (byV n v)) := by
  have m1 := mulBd hn hv.1
  have m2 := mulBd hn hv.2
  refine fnOk_of (fn := Tryd.f49) 14 (by kernel_rfl) rfl (by kernel_rfl) (Nat.le_of_ble_eq_true rfl) ?_
  intro e_0 m_0 hA hm_0
  have s0_0 : evA e_0 (.tmp 0) = _ := hA 0 _ rfl
  have s1_0 : evA e_0 (.tmp 1) = _ := hA 1 _ rfl
  have ml_0 : m_0.length = 0 := by rw [hm_0]; rfl
  clear hA hm_0
  refine aw_seq ?_
  refine aw_text (by kernel_rfl) ?_
  refine al_stm (st_box s0_0 rfl ml_0) trivial rfl (fun m_1 hm_1 => ?_)
  have mo0_1 := m_push hm_1 ml_0
  (try simp only [packA_t, packA_f, iE, bE, setAt, cellsA, Value.cells, map_vc, map_vn, Nat.reduceAdd, qS] at mo0_1)
  have ml_1 := m_push_l hm_1 ml_0
  have ml_1 : _ = 1 := ml_1
  clear hm_1
  refine al_stm (st_alloc h2_az96 rfl ml_1) trivial rfl (fun m_2 hm_2 => ?_)
  have mo1_2 := m_push hm_2 ml_1
  (try simp only [packA_t, packA_f, iE, bE, setAt, cellsA, Value.cells, map_vc, map_vn, Nat.reduceAdd, qS] at mo1_2)
  have mo0_2 := m_push_o hm_2 mo0_1
  have ml_2 := m_push_l hm_2 ml_1
  have ml_2 : _ = 2 := ml_2
  clear hm_2 mo0_1
  refine al_end (fun e_3 he_3 => ?_)
  have s1_3 := ef 1 he_3 (u2 rfl s1_0)
  have s2_3 := ef 2 he_3 (up_m rfl up_h)
  have s4_3 := ef 4 he_3 up_h
  clear he_3 s0_0 s1_0
  refine then_n ?_
  refine aw_seq ?_
  refine aw_text (by kernel_rfl) ?_
  refine al_ro' (ro_move s1_3) trivial rfl ?_
  refine al_ro' (ro_fld_ptr h2_fl96_0 rfl (up_m rfl s2_3)) trivial rfl ?_
  refine al_ro' (ro_eq (ro_ld_ptr h2_ty3 rfl mo0_2 up_h (by first | exact Nat.le_of_ble_eq_true rfl | omega | (simp only [lnS] <;> omega) | (simp <;> omega))) (by first | (simp only [packA_t, packA_f, iE, bE, setAt, cellsA, Value.cells, map_vc, map_vn, Nat.reduceAdd, qS] <;> rfl) | rfl)) trivial rfl ?_
  first | (refine al_ro' (ro_mul' (u2 rfl up_h) up_h ?_) trivial rfl ?_; · (unfold In64; omega)) | refine al_ro' (ro_mul (u2 rfl up_h) up_h) trivial rfl ?_
  refine al_ro' (ro_move (u4 rfl s1_3)) trivial rfl ?_
  refine al_ro' (ro_fld_ptr h2_fl96_1 rfl (up_m rfl (u4 rfl s2_3))) trivial rfl ?_
  refine al_ro' (ro_eq (ro_ld_ptr h2_ty3 rfl mo0_2 up_h (by first | exact Nat.le_of_ble_eq_true rfl | omega | (simp only [lnS] <;> omega) | (simp <;> omega))) (by first | (simp only [packA_t, packA_f, iE, bE, setAt, cellsA, Value.cells, map_vc, map_vn, Nat.reduceAdd, qS] <;> rfl) | rfl)) trivial rfl ?_
  first | (refine al_ro' (ro_mul' (u2 rfl up_h) up_h ?_) trivial rfl ?_; · (unfold In64; omega)) | refine al_ro' (ro_mul (u2 rfl up_h) up_h) trivial rfl ?_
  refine al_ro' (ro_build (evP_cons (u4 rfl up_h) (evP_cons up_h evP_nil)) h2_bz96 h2_bu96 h2_bp96 rfl) trivial rfl ?_
  refine al_stm (st_store (up_m rfl (u8 rfl s4_3)) up_h rfl rfl mo1_2 h2_sz96 rfl (by first | exact Nat.le_of_ble_eq_true rfl | omega | (simp only [lnS] <;> omega) | (simp <;> omega))) trivial rfl (fun m_4 hm_4 => ?_)
  have mo1_4 := m_set hm_4 mo1_2
  (try simp only [packA_t, packA_f, iE, bE, setAt, cellsA, Value.cells, map_vc, map_vn, Nat.reduceAdd, qS] at mo1_4)
  have mo0_4 := m_set_o hm_4 mo0_2 (by decide)
  have ml_4 := m_set_l hm_4 ml_2
  clear hm_4 mo1_2 mo0_2
  refine al_end (fun e_5 he_5 => ?_)
  have s4_5 := ef 4 he_5 (up_n (up_m rfl (u8 rfl s4_3)))
  clear he_5 s1_3 s2_3 s4_3
  refine then_n ?_
  refine aw_ret ?_
  refine ret1 (.inr rfl) (by kernel_rfl) (resV_cell s4_5 mo1_4 h2_ty96 (by first | exact Nat.le_of_ble_eq_true rfl | omega | (simp only [lnS] <;> omega) | (simp <;> omega)) (by simp)) (vw_r (.ro _ rfl)) ?_
  clear s4_5 mo1_4 mo0_4 ml_4
  rfl
end
theorem conj_bd {M : Int} {v : V2} (h : Bd M v) : Bd (2 * M) (conjV v) := by
  obtain ⟨⟨a, b⟩, c, d⟩ := h
  refine ⟨⟨?_, ?_⟩, ?_, ?_⟩ <;> simp only [conjV] <;> omega
theorem Bd.mono {M K : Int} {v : V2} (h : Bd M v) (hk : M ≤ K) : Bd K v := by
  obtain ⟨⟨a, b⟩, c, d⟩ := h
  exact ⟨⟨by omega, by omega⟩, by omega, by omega⟩
def prodV (u v : V2) : V2 := mulV u (conjV v)
set_option maxRecDepth 100000 in
set_option maxHeartbeats 1000000 in
theorem product_ok (u v : V2) (hu : Bd 400000000 u) (hv : Bd 400000000 v) : FnOk Tryd.prog 62 [tA u, tA v] (fun q => q = tA (prodV u v)) := by
  refine fnOk_of (fn := Tryd.f62) 9 (by kernel_rfl) rfl (by kernel_rfl) (Nat.le_of_ble_eq_true rfl) ?_
  intro e_0 m_0 hA hm_0
  have s0_0 : evA e_0 (.tmp 0) = _ := hA 0 _ rfl
  have s1_0 : evA e_0 (.tmp 1) = _ := hA 1 _ rfl
  have ml_0 : m_0.length = 0 := by rw [hm_0]; rfl
  clear hA hm_0
  refine aw_seq ?_
  refine aw_text (by kernel_rfl) ?_
  refine al_stm (st_box s0_0 rfl ml_0) trivial rfl (fun m_1 hm_1 => ?_)
  have mo0_1 := m_push hm_1 ml_0
  (try simp only [packA_t, packA_f, iE, bE, setAt, cellsA, Value.cells, map_vc, map_vn, Nat.reduceAdd, qS] at mo0_1)
  have ml_1 := m_push_l hm_1 ml_0
  have ml_1 : _ = 1 := ml_1
  clear hm_1
  refine al_stm (st_box (up_m rfl s1_0) rfl ml_1) trivial rfl (fun m_2 hm_2 => ?_)
  have mo1_2 := m_push hm_2 ml_1
  (try simp only [packA_t, packA_f, iE, bE, setAt, cellsA, Value.cells, map_vc, map_vn, Nat.reduceAdd, qS] at mo1_2)
  have mo0_2 := m_push_o hm_2 mo0_1
  have ml_2 := m_push_l hm_2 ml_1
  have ml_2 : _ = 2 := ml_2
  clear hm_2 mo0_1
  refine al_stm (st_alloc h2_az96 rfl ml_2) trivial rfl (fun m_3 hm_3 => ?_)
  have mo2_3 := m_push hm_3 ml_2
  (try simp only [packA_t, packA_f, iE, bE, setAt, cellsA, Value.cells, map_vc, map_vn, Nat.reduceAdd, qS] at mo2_3)
  have mo1_3 := m_push_o hm_3 mo1_2
  have mo0_3 := m_push_o hm_3 mo0_2
  have ml_3 := m_push_l hm_3 ml_2
  have ml_3 : _ = 3 := ml_3
  clear hm_3 mo1_2 mo0_2
  refine al_end (fun e_4 he_4 => ?_)
  have s2_4 := ef 2 he_4 (u2 rfl up_h)
  have s3_4 := ef 3 he_4 (up_m rfl up_h)
  have s4_4 := ef 4 he_4 up_h
  clear he_4 s0_0 s1_0
  refine then_n ?_
  refine aw_seq ?_
  refine aw_draw 4 (by kernel_rfl) (by kernel_rfl) (by kernel_rfl) (by kernel_rfl) ?_
  refine ds_ro' (ro_eq (ro_ld_ptr h2_ty24 rfl mo0_3 s2_4 (by first | exact Nat.le_of_ble_eq_true rfl | omega | (simp only [lnS] <;> omega) | (simp <;> omega))) (by first | (simp only [packA_t, packA_f, iE, bE, setAt, cellsA, Value.cells, map_vc, map_vn, Nat.reduceAdd, qS] <;> rfl) | rfl)) trivial rfl ?_
  refine ds_ro' (ro_eq (ro_ld_ptr h2_ty24 rfl mo1_3 (up_m rfl s3_4) (by first | exact Nat.le_of_ble_eq_true rfl | omega | (simp only [lnS] <;> omega) | (simp <;> omega))) (by first | (simp only [packA_t, packA_f, iE, bE, setAt, cellsA, Value.cells, map_vc, map_vn, Nat.reduceAdd, qS] <;> rfl) | rfl)) trivial rfl ?_
  refine ds_ro' (ro_call (evL_cons up_h evL_nil) rfl (conj_ok v (hv.mono (by decide))) h2_hcf92) trivial rfl ?_
  refine ds_ro' (ro_call (evL_cons (u2 rfl up_h) (evL_cons up_h evL_nil)) rfl (times_ok u (conjV v) (hu.mono (by decide)) ((conj_bd hv).mono (by decide))) h2_hcf91) trivial rfl ?_
  refine ds_nil ?_
  refine al_stm (st_store (u4 rfl s4_4) up_h rfl rfl mo2_3 h2_sz96 rfl (by first | exact Nat.le_of_ble_eq_true rfl | omega | (simp only [lnS] <;> omega) | (simp <;> omega))) trivial rfl (fun m_5 hm_5 => ?_)
  have mo2_5 := m_set hm_5 mo2_3
  (try simp only [packA_t, packA_f, iE, bE, setAt, cellsA, Value.cells, map_vc, map_vn, Nat.reduceAdd, qS] at mo2_5)
  have mo1_5 := m_set_o hm_5 mo1_3 (by decide)
  have mo0_5 := m_set_o hm_5 mo0_3 (by decide)
  have ml_5 := m_set_l hm_5 ml_3
  clear hm_5 mo2_3 mo1_3 mo0_3
  refine al_end (fun e_6 he_6 => ?_)
  have s4_6 := ef 4 he_6 (up_n (u4 rfl s4_4))
  clear he_6 s2_4 s3_4 s4_4
  refine then_n ?_
  refine aw_ret ?_
  refine ret1 (.inr rfl) (by kernel_rfl) (resV_cell s4_6 mo2_5 h2_ty96 (by first | exact Nat.le_of_ble_eq_true rfl | omega | (simp only [lnS] <;> omega) | (simp <;> omega)) (by simp)) (vw_r (.ro _ rfl)) ?_
  clear s4_6 mo2_5 mo1_5 mo0_5 ml_5
  rfl
set_option maxRecDepth 100000 in
set_option maxHeartbeats 4000000 in
theorem turned_ok (v : V2) (z : Int) (hv : Bd 400000000 v) : FnOk Tryd.prog 71 [tA v, nA z] (fun q => q = tA (turnV v z)) := by
  have hm := tmod6 z
  have hm2 : -6 < z.tmod 6 ∧ z.tmod 6 < 6 := ⟨Int.lt_tmod_of_pos z (by decide), Int.tmod_lt_of_pos z (by decide)⟩
  refine fnOk_of (fn := Tryd.f71) 21 (by kernel_rfl) rfl (by kernel_rfl) (Nat.le_of_ble_eq_true rfl) ?_
  intro e_0 m_0 hA hm_0
  have s0_0 : evA e_0 (.tmp 0) = _ := hA 0 _ rfl
  have s1_0 : evA e_0 (.tmp 1) = _ := hA 1 _ rfl
  have ml_0 : m_0.length = 0 := by rw [hm_0]; rfl
  clear hA hm_0
  refine aw_seq ?_
  refine aw_text (by kernel_rfl) ?_
  refine al_stm (st_box s0_0 rfl ml_0) trivial rfl (fun m_1 hm_1 => ?_)
  have mo0_1 := m_push hm_1 ml_0
  (try simp only [packA_t, packA_f, iE, bE, setAt, cellsA, Value.cells, map_vc, map_vn, Nat.reduceAdd, qS] at mo0_1)
  have ml_1 := m_push_l hm_1 ml_0
  have ml_1 : _ = 1 := ml_1
  clear hm_1
  refine al_stm (st_alloc h2_az96 rfl ml_1) trivial rfl (fun m_2 hm_2 => ?_)
  have mo1_2 := m_push hm_2 ml_1
  (try simp only [packA_t, packA_f, iE, bE, setAt, cellsA, Value.cells, map_vc, map_vn, Nat.reduceAdd, qS] at mo1_2)
  have mo0_2 := m_push_o hm_2 mo0_1
  have ml_2 := m_push_l hm_2 ml_1
  have ml_2 : _ = 2 := ml_2
  clear hm_2 mo0_1
  refine al_end (fun e_3 he_3 => ?_)
  have s1_3 := ef 1 he_3 (u2 rfl s1_0)
  have s2_3 := ef 2 he_3 (up_m rfl up_h)
  have s4_3 := ef 4 he_3 up_h
  clear he_3 s0_0 s1_0
  refine then_n ?_
  refine aw_seq ?_
  refine aw_seq ?_
  refine aw_text (by kernel_rfl) ?_
  refine al_ro' (ro_move s1_3) trivial rfl ?_
  refine al_ro' (ro_rem up_h ev_c (by first | decide | omega)) trivial rfl ?_
  first | (refine al_ro' (ro_add' up_h ev_c ?_) trivial rfl ?_; · (unfold In64; omega)) | refine al_ro' (ro_add up_h ev_c) trivial rfl ?_
  refine al_ro' (ro_rem up_h ev_c (by first | decide | omega)) trivial rfl ?_
  refine al_ro' (ro_move ev_c) trivial rfl ?_
  refine al_end (fun e_4 he_4 => ?_)
  have s2_4 := ef 2 he_4 (up_m rfl (u4 rfl s2_3))
  have s4_4 := ef 4 he_4 (up_m rfl (u4 rfl s4_3))
  have s8_4 := ef 8 he_4 (up_m rfl up_h)
  have s9_4 := ef 9 he_4 up_h
  clear he_4 s1_3 s2_3 s4_3
  refine then_n ?_
  refine aw_block ?_
  refine aw_loop (S := (Int × V2)) (fun s e mem => match s with | ⟨i, x⟩ => (evA e (.tmp 9) = .v (.int .i64 i)) ∧ (evA e (.tmp 2) = evA e_4 (.tmp 2)) ∧ (evA e (.tmp 4) = evA e_4 (.tmp 4)) ∧ (evA e (.tmp 8) = evA e_4 (.tmp 8)) ∧ (mem[0]? = some (.box 96 [nA x.1, nA x.2])) ∧ (mem[1]? = m_2[1]?) ∧ (mem.length = 2) ∧ ((0 ≤ i ∧ i ≤ z % 6 ∧ x = turnN v i.toNat))) (fun s => match s with | ⟨i, x⟩ => (z % 6 - i).toNat) ⟨_, v⟩ ⟨s9_4, rfl, rfl, rfl, mo0_2, rfl, ml_2, ?_⟩ ?_
  · (exact ⟨by omega, by omega, rfl⟩)
  · rintro ⟨i, x⟩ e_5 m_5 ⟨s9_5, k2_5, k4_5, k8_5, mo0_5, mk1_5, ml_5, hinv⟩
    have s2_5 := k2_5.trans s2_4
    have s4_5 := k4_5.trans s4_4
    have s8_5 := k8_5.trans s8_4
    have mo1_5 := mk1_5.trans mo1_2
    (obtain ⟨p1, p2, p3⟩ := hinv; have hb := turn_bd hv i.toNat (by omega); rw [← p3] at hb; obtain ⟨⟨b1, b2⟩, b3, b4⟩ := hb)
    refine aw_seq ?_
    refine aw_text (by kernel_rfl) ?_
    refine al_ro' (ro_lss s9_5 s8_5) trivial rfl ?_
    refine al_end (fun e_6 he_6 => ?_)
    have s2_6 := ef 2 he_6 (up_m rfl s2_5)
    have s4_6 := ef 4 he_6 (up_m rfl s4_5)
    have s8_6 := ef 8 he_6 (up_m rfl s8_5)
    have s9_6 := ef 9 he_6 (up_m rfl s9_5)
    have s10_6 := ef 10 he_6 up_h
    clear he_6 s2_5 s4_5 s8_5 s9_5
    refine then_n ?_
    refine aw_seq ?_
    refine aw_case s10_6 (fun hq_7 => ?_) (fun hq_7 => ?_)
    · (first | replace hq_7 := bnt hq_7 | replace hq_7 := bnf hq_7 | replace hq_7 := bt hq_7 | replace hq_7 := bf hq_7 | replace hq_7 := bt' hq_7 | replace hq_7 := bf' hq_7 | skip)
      first
      | (cases hq_7; done) | (exfalso; omega)
      | (
         refine aw_skip ?_
         refine then_n ?_
         refine aw_seq ?_
         refine aw_block ?_
         refine aw_text (by kernel_rfl) ?_
         refine al_ro' (ro_fld_ptr h2_fl96_0 rfl s2_6) trivial rfl ?_
         refine al_ro' (ro_eq (ro_ld_ptr h2_ty3 rfl mo0_5 up_h (by first | exact Nat.le_of_ble_eq_true rfl | omega | (simp only [lnS] <;> omega) | (simp <;> omega))) (by first | (simp only [packA_t, packA_f, iE, bE, setAt, cellsA, Value.cells, map_vc, map_vn, Nat.reduceAdd, qS] <;> rfl) | rfl)) trivial rfl ?_
         refine al_ro' (ro_fld_ptr h2_fl96_1 rfl (u2 rfl s2_6)) trivial rfl ?_
         refine al_ro' (ro_eq (ro_ld_ptr h2_ty3 rfl mo0_5 up_h (by first | exact Nat.le_of_ble_eq_true rfl | omega | (simp only [lnS] <;> omega) | (simp <;> omega))) (by first | (simp only [packA_t, packA_f, iE, bE, setAt, cellsA, Value.cells, map_vc, map_vn, Nat.reduceAdd, qS] <;> rfl) | rfl)) trivial rfl ?_
         first | (refine al_ro' (ro_sub' (u2 rfl up_h) up_h ?_) trivial rfl ?_; · (unfold In64; omega)) | refine al_ro' (ro_sub (u2 rfl up_h) up_h) trivial rfl ?_
         refine al_ro' (ro_fld_ptr h2_fl96_0 rfl (up_m rfl (u4 rfl s2_6))) trivial rfl ?_
         refine al_ro' (ro_eq (ro_ld_ptr h2_ty3 rfl mo0_5 up_h (by first | exact Nat.le_of_ble_eq_true rfl | omega | (simp only [lnS] <;> omega) | (simp <;> omega))) (by first | (simp only [packA_t, packA_f, iE, bE, setAt, cellsA, Value.cells, map_vc, map_vn, Nat.reduceAdd, qS] <;> rfl) | rfl)) trivial rfl ?_
         refine al_ro' (ro_build (evP_cons (u2 rfl up_h) (evP_cons up_h evP_nil)) h2_bz96 h2_bu96 h2_bp96 rfl) trivial rfl ?_
         refine al_stm (st_store (u8 rfl s2_6) up_h rfl rfl mo0_5 h2_sz96 rfl (by first | exact Nat.le_of_ble_eq_true rfl | omega | (simp only [lnS] <;> omega) | (simp <;> omega))) trivial rfl (fun m_8 hm_8 => ?_)
         have mo0_8 := m_set hm_8 mo0_5
         (try simp only [packA_t, packA_f, iE, bE, setAt, cellsA, Value.cells, map_vc, map_vn, Nat.reduceAdd, qS] at mo0_8)
         have mo1_8 := m_set_o hm_8 mo1_5 (by decide)
         have ml_8 := m_set_l hm_8 ml_5
         clear hm_8 mo0_5 mo1_5
         refine al_end (fun e_9 he_9 => ?_)
         have s2_9 := ef 2 he_9 (up_n (u8 rfl s2_6))
         have s4_9 := ef 4 he_9 (up_n (u8 rfl s4_6))
         have s8_9 := ef 8 he_9 (up_n (u8 rfl s8_6))
         have s9_9 := ef 9 he_9 (up_n (u8 rfl s9_6))
         clear he_9 s10_6 s2_6 s4_6 s8_6 s9_6
         refine block_n ?_
         refine then_n ?_
         refine aw_text (by kernel_rfl) ?_
         first | (refine al_ro' (ro_add' s9_9 ev_c ?_) trivial rfl ?_; · (unfold In64; omega)) | refine al_ro' (ro_add s9_9 ev_c) trivial rfl ?_
         refine al_ro' (ro_move up_h) trivial rfl ?_
         refine al_end (fun e_10 he_10 => ?_)
         have s2_10 := ef 2 he_10 (u2 rfl s2_9)
         have s4_10 := ef 4 he_10 (u2 rfl s4_9)
         have s8_10 := ef 8 he_10 (u2 rfl s8_9)
         have s9_10 := ef 9 he_10 up_h
         clear he_10 s2_9 s4_9 s8_9 s9_9
         refine then_n ?_
         refine ⟨⟨_, rotV x⟩, ⟨s9_10, (s2_10.trans s2_4.symm), (s4_10.trans s4_4.symm), (s8_10.trans s8_4.symm), mo0_8, (mo1_8.trans mo1_2.symm), ml_8, ?_⟩, ?_⟩
         · (refine ⟨by omega, by omega, ?_⟩; rw [show (i + 1).toNat = i.toNat + 1 by omega, p3]; rfl)
         · ((try dsimp only); omega))
    · (first | replace hq_7 := bnt hq_7 | replace hq_7 := bnf hq_7 | replace hq_7 := bt hq_7 | replace hq_7 := bf hq_7 | replace hq_7 := bt' hq_7 | replace hq_7 := bf' hq_7 | skip)
      first
      | (cases hq_7; done) | (exfalso; omega)
      | (
         refine aw_exit ?_
         refine then_x ?_
         refine then_x ?_
         refine block_hit ?_
         refine then_n ?_
         refine aw_seq ?_
         refine aw_text (by kernel_rfl) ?_
         refine al_ro' (ro_eq (ro_ld_ptr h2_ty96 rfl mo0_5 s2_6 (by first | exact Nat.le_of_ble_eq_true rfl | omega | (simp only [lnS] <;> omega) | (simp <;> omega))) (by first | (simp only [packA_t, packA_f, iE, bE, setAt, cellsA, Value.cells, map_vc, map_vn, Nat.reduceAdd, qS] <;> rfl) | rfl)) trivial rfl ?_
         refine al_stm (st_store (up_m rfl s4_6) up_h rfl rfl mo1_5 h2_sz96 rfl (by first | exact Nat.le_of_ble_eq_true rfl | omega | (simp only [lnS] <;> omega) | (simp <;> omega))) trivial rfl (fun m_11 hm_11 => ?_)
         have mo1_11 := m_set hm_11 mo1_5
         (try simp only [packA_t, packA_f, iE, bE, setAt, cellsA, Value.cells, map_vc, map_vn, Nat.reduceAdd, qS] at mo1_11)
         have mo0_11 := m_set_o hm_11 mo0_5 (by decide)
         have ml_11 := m_set_l hm_11 ml_5
         clear hm_11 mo0_5 mo1_5
         refine al_end (fun e_12 he_12 => ?_)
         have s4_12 := ef 4 he_12 (up_n (up_m rfl s4_6))
         clear he_12 s10_6 s2_6 s4_6 s8_6 s9_6
         refine then_n ?_
         refine aw_ret ?_
         refine ret1 (.inr rfl) (by kernel_rfl) (resV_cell s4_12 mo1_11 h2_ty96 (by first | exact Nat.le_of_ble_eq_true rfl | omega | (simp only [lnS] <;> omega) | (simp <;> omega)) (by simp)) (vw_r (.ro _ rfl)) ?_
         clear s4_12 mo1_11 mo0_11 ml_11
         (rw [p3, show i = z % 6 by omega]; rfl))
theorem tmod_emod' {n k : Int} (hk : 1 ≤ k) : (n.tmod k < 0 → n.tmod k + k = n % k) ∧ (¬ n.tmod k < 0 → n.tmod k = n % k) := by
  have h1 := Int.mul_tdiv_add_tmod n k
  have h2 : n.tmod k < k := Int.tmod_lt_of_pos n (by omega)
  have h3 : -k < n.tmod k := Int.lt_tmod_of_pos n (by omega)
  constructor
  · intro h
    have := (Int.ediv_emod_unique (a := n) (b := k) (r := n.tmod k + k) (q := n.tdiv k - 1) (by omega)).2 ⟨by rw [Int.mul_sub]; omega, by omega, by omega⟩
    omega
  · intro h
    have := (Int.ediv_emod_unique (a := n) (b := k) (r := n.tmod k) (q := n.tdiv k) (by omega)).2 ⟨by omega, by omega, h2⟩
    omega
set_option maxRecDepth 100000 in
set_option maxHeartbeats 1000000 in
theorem bMod_ok (n k : Int) (hk : 1 ≤ k ∧ k ≤ 4000000000000000000) : FnOk Tryd.prog 88 [nA n, nA k] (fun q => q = nA (n % k)) := by
  have h2 : n.tmod k < k := Int.tmod_lt_of_pos n (by omega)
  have h3 : -k < n.tmod k := Int.lt_tmod_of_pos n (by omega)
  have hm := tmod_emod' (n := n) hk.1
  refine fnOk_of (fn := Tryd.f88) 14 (by kernel_rfl) rfl (by kernel_rfl) (Nat.le_of_ble_eq_true rfl) ?_
  intro e_0 m_0 hA hm_0
  have s0_0 : evA e_0 (.tmp 0) = _ := hA 0 _ rfl
  have s1_0 : evA e_0 (.tmp 1) = _ := hA 1 _ rfl
  have ml_0 : m_0.length = 0 := by rw [hm_0]; rfl
  clear hA hm_0
  refine aw_seq ?_
  refine aw_text (by kernel_rfl) ?_
  refine al_ro' (ro_assign ev_c) trivial rfl ?_
  refine al_end (fun e_1 he_1 => ?_)
  have s0_1 := ef 0 he_1 (up_m rfl s0_0)
  have s1_1 := ef 1 he_1 (up_m rfl s1_0)
  clear he_1 s0_0 s1_0
  refine then_n ?_
  refine aw_seq ?_
  refine aw_text (by kernel_rfl) ?_
  refine al_ro' (ro_move s0_1) trivial rfl ?_
  refine al_ro' (ro_move (up_m rfl s1_1)) trivial rfl ?_
  refine al_ro' (ro_rem (up_m rfl up_h) up_h (by first | decide | omega)) trivial rfl ?_
  refine al_ro' (ro_assign up_h) trivial rfl ?_
  refine al_end (fun e_2 he_2 => ?_)
  have s0_2 := ef 0 he_2 up_h
  have s1_2 := ef 1 he_2 (u4 rfl s1_1)
  clear he_2 s0_1 s1_1
  refine then_n ?_
  refine aw_seq ?_
  refine aw_seq ?_
  refine aw_text (by kernel_rfl) ?_
  refine al_ro' (ro_move s0_2) trivial rfl ?_
  refine al_ro' (ro_lss up_h ev_c) trivial rfl ?_
  refine al_end (fun e_3 he_3 => ?_)
  have s0_3 := ef 0 he_3 (u2 rfl s0_2)
  have s1_3 := ef 1 he_3 (u2 rfl s1_2)
  have s9_3 := ef 9 he_3 up_h
  clear he_3 s0_2 s1_2
  refine then_n ?_
  refine aw_case s9_3 (fun hq_4 => ?_) (fun hq_4 => ?_)
  · (first | replace hq_4 := bnt hq_4 | replace hq_4 := bnf hq_4 | replace hq_4 := bt hq_4 | replace hq_4 := bf hq_4 | replace hq_4 := bt' hq_4 | replace hq_4 := bf' hq_4 | skip)
    first
    | (cases hq_4; done) | (exfalso; omega)
    | (
       refine aw_text (by kernel_rfl) ?_
       refine al_ro' (ro_move s0_3) trivial rfl ?_
       refine al_ro' (ro_move (up_m rfl s1_3)) trivial rfl ?_
       first | (refine al_ro' (ro_add' (up_m rfl up_h) up_h ?_) trivial rfl ?_; · (unfold In64; omega)) | refine al_ro' (ro_add (up_m rfl up_h) up_h) trivial rfl ?_
       refine al_ro' (ro_assign up_h) trivial rfl ?_
       refine al_end (fun e_5 he_5 => ?_)
       have s0_5 := ef 0 he_5 up_h
       clear he_5 s0_3 s1_3 s9_3
       refine then_n ?_
       refine aw_seq ?_
       refine aw_text (by kernel_rfl) ?_
       refine al_ro' (ro_move s0_5) trivial rfl ?_
       refine al_ro' (ro_assign up_h) trivial rfl ?_
       refine al_end (fun e_6 he_6 => ?_)
       have s4_6 := ef 4 he_6 up_h
       clear he_6 s0_5
       refine then_n ?_
       refine aw_ret ?_
       refine ret1 (.inr rfl) (by kernel_rfl) (resV_tmp s4_6) (.ro _ rfl) ?_
       clear s4_6  ml_0
       (first | (rw [hm.1 (by assumption)]; done) | (rw [hm.2 (by assumption)]; done)))
  · (first | replace hq_4 := bnt hq_4 | replace hq_4 := bnf hq_4 | replace hq_4 := bt hq_4 | replace hq_4 := bf hq_4 | replace hq_4 := bt' hq_4 | replace hq_4 := bf' hq_4 | skip)
    first
    | (cases hq_4; done) | (exfalso; omega)
    | (
       refine aw_skip ?_
       refine then_n ?_
       refine aw_seq ?_
       refine aw_text (by kernel_rfl) ?_
       refine al_ro' (ro_move s0_3) trivial rfl ?_
       refine al_ro' (ro_assign up_h) trivial rfl ?_
       refine al_end (fun e_7 he_7 => ?_)
       have s4_7 := ef 4 he_7 up_h
       clear he_7 s0_3 s1_3 s9_3
       refine then_n ?_
       refine aw_ret ?_
       refine ret1 (.inr rfl) (by kernel_rfl) (resV_tmp s4_7) (.ro _ rfl) ?_
       clear s4_7  ml_0
       (first | (rw [hm.1 (by assumption)]; done) | (rw [hm.2 (by assumption)]; done)))
set_option maxRecDepth 100000 in
set_option maxHeartbeats 4000000 in
theorem rTurned_ok (v : V2) (z : Int) (hv : Bd 400000000 v) : FnOk Tryd.prog 54 [tA v, nA z] (fun q => q = tA (turnV v z)) := by
  refine fnOk_of (fn := Tryd.f54) 21 (by kernel_rfl) rfl (by kernel_rfl) (Nat.le_of_ble_eq_true rfl) ?_
  intro e_0 m_0 hA hm_0
  have s0_0 : evA e_0 (.tmp 0) = _ := hA 0 _ rfl
  have s1_0 : evA e_0 (.tmp 1) = _ := hA 1 _ rfl
  have ml_0 : m_0.length = 0 := by rw [hm_0]; rfl
  clear hA hm_0
  refine aw_seq ?_
  refine aw_text (by kernel_rfl) ?_
  refine al_stm (st_box s0_0 rfl ml_0) trivial rfl (fun m_1 hm_1 => ?_)
  have mo0_1 := m_push hm_1 ml_0
  (try simp only [packA_t, packA_f, iE, bE, setAt, cellsA, Value.cells, map_vc, map_vn, Nat.reduceAdd, qS] at mo0_1)
  have ml_1 := m_push_l hm_1 ml_0
  have ml_1 : _ = 1 := ml_1
  clear hm_1
  refine al_stm (st_alloc h2_az24 rfl ml_1) trivial rfl (fun m_2 hm_2 => ?_)
  have mo1_2 := m_push hm_2 ml_1
  (try simp only [packA_t, packA_f, iE, bE, setAt, cellsA, Value.cells, map_vc, map_vn, Nat.reduceAdd, qS] at mo1_2)
  have mo0_2 := m_push_o hm_2 mo0_1
  have ml_2 := m_push_l hm_2 ml_1
  have ml_2 : _ = 2 := ml_2
  clear hm_2 mo0_1
  refine al_end (fun e_3 he_3 => ?_)
  have s1_3 := ef 1 he_3 (u2 rfl s1_0)
  have s2_3 := ef 2 he_3 (up_m rfl up_h)
  have s4_3 := ef 4 he_3 up_h
  clear he_3 s0_0 s1_0
  refine then_n ?_
  refine aw_seq ?_
  refine aw_seq ?_
  refine aw_text (by kernel_rfl) ?_
  refine al_ro' (ro_assign ev_c) trivial rfl ?_
  refine al_end (fun e_4 he_4 => ?_)
  have s1_4 := ef 1 he_4 (up_m rfl s1_3)
  have s2_4 := ef 2 he_4 (up_m rfl s2_3)
  have s4_4 := ef 4 he_4 (up_m rfl s4_3)
  have s5_4 := ef 5 he_4 up_h
  clear he_4 s1_3 s2_3 s4_3
  refine then_n ?_
  refine aw_block ?_
  refine aw_loop (S := (Int × V2)) (fun s e mem => match s with | ⟨i, x⟩ => (evA e (.tmp 5) = .v (.int .i64 i)) ∧ (evA e (.tmp 1) = evA e_4 (.tmp 1)) ∧ (evA e (.tmp 2) = evA e_4 (.tmp 2)) ∧ (evA e (.tmp 4) = evA e_4 (.tmp 4)) ∧ (mem[0]? = some (.box 24 [nA x.1, nA x.2])) ∧ (mem[1]? = m_2[1]?) ∧ (mem.length = 2) ∧ ((0 ≤ i ∧ i ≤ z % 6 ∧ x = turnN v i.toNat))) (fun s => match s with | ⟨i, x⟩ => (z % 6 - i).toNat) ⟨_, v⟩ ⟨s5_4, rfl, rfl, rfl, mo0_2, rfl, ml_2, ?_⟩ ?_
  · (exact ⟨by omega, by omega, rfl⟩)
  · rintro ⟨i, x⟩ e_5 m_5 ⟨s5_5, k1_5, k2_5, k4_5, mo0_5, mk1_5, ml_5, hinv⟩
    have s1_5 := k1_5.trans s1_4
    have s2_5 := k2_5.trans s2_4
    have s4_5 := k4_5.trans s4_4
    have mo1_5 := mk1_5.trans mo1_2
    (obtain ⟨p1, p2, p3⟩ := hinv; have hb := turn_bd hv i.toNat (by omega); rw [← p3] at hb; obtain ⟨⟨b1, b2⟩, b3, b4⟩ := hb)
    refine aw_seq ?_
    refine aw_seq ?_
    refine aw_text (by kernel_rfl) ?_
    refine al_ro' (ro_move s5_5) trivial rfl ?_
    refine al_ro' (ro_move (up_m rfl s1_5)) trivial rfl ?_
    refine al_ro' (ro_call (evL_cons up_h (evL_cons ev_c evL_nil)) rfl (bMod_ok z 6 (by decide)) h2_hcf88) trivial rfl ?_
    refine al_ro' (ro_lss (u2 rfl up_h) up_h) trivial rfl ?_
    refine al_end (fun e_6 he_6 => ?_)
    have s1_6 := ef 1 he_6 (u4 rfl s1_5)
    have s2_6 := ef 2 he_6 (u4 rfl s2_5)
    have s4_6 := ef 4 he_6 (u4 rfl s4_5)
    have s5_6 := ef 5 he_6 (u4 rfl s5_5)
    have s9_6 := ef 9 he_6 up_h
    clear he_6 s1_5 s2_5 s4_5 s5_5
    refine then_n ?_
    refine aw_case s9_6 (fun hq_7 => ?_) (fun hq_7 => ?_)
    · (first | replace hq_7 := bnt hq_7 | replace hq_7 := bnf hq_7 | replace hq_7 := bt hq_7 | replace hq_7 := bf hq_7 | replace hq_7 := bt' hq_7 | replace hq_7 := bf' hq_7 | skip)
      first
      | (cases hq_7; done) | (exfalso; omega)
      | (
         refine aw_skip ?_
         refine then_n ?_
         refine aw_seq ?_
         refine aw_block ?_
         refine aw_text (by kernel_rfl) ?_
         refine al_ro' (ro_fld_ptr h2_fl24_0 rfl s2_6) trivial rfl ?_
         refine al_ro' (ro_eq (ro_ld_ptr h2_ty3 rfl mo0_5 up_h (by first | exact Nat.le_of_ble_eq_true rfl | omega | (simp only [lnS] <;> omega) | (simp <;> omega))) (by first | (simp only [packA_t, packA_f, iE, bE, setAt, cellsA, Value.cells, map_vc, map_vn, Nat.reduceAdd, qS] <;> rfl) | rfl)) trivial rfl ?_
         refine al_ro' (ro_fld_ptr h2_fl24_1 rfl (u2 rfl s2_6)) trivial rfl ?_
         refine al_ro' (ro_eq (ro_ld_ptr h2_ty3 rfl mo0_5 up_h (by first | exact Nat.le_of_ble_eq_true rfl | omega | (simp only [lnS] <;> omega) | (simp <;> omega))) (by first | (simp only [packA_t, packA_f, iE, bE, setAt, cellsA, Value.cells, map_vc, map_vn, Nat.reduceAdd, qS] <;> rfl) | rfl)) trivial rfl ?_
         first | (refine al_ro' (ro_sub' (u2 rfl up_h) up_h ?_) trivial rfl ?_; · (unfold In64; omega)) | refine al_ro' (ro_sub (u2 rfl up_h) up_h) trivial rfl ?_
         refine al_ro' (ro_fld_ptr h2_fl24_0 rfl (up_m rfl (u4 rfl s2_6))) trivial rfl ?_
         refine al_ro' (ro_eq (ro_ld_ptr h2_ty3 rfl mo0_5 up_h (by first | exact Nat.le_of_ble_eq_true rfl | omega | (simp only [lnS] <;> omega) | (simp <;> omega))) (by first | (simp only [packA_t, packA_f, iE, bE, setAt, cellsA, Value.cells, map_vc, map_vn, Nat.reduceAdd, qS] <;> rfl) | rfl)) trivial rfl ?_
         refine al_ro' (ro_build (evP_cons (u2 rfl up_h) (evP_cons up_h evP_nil)) h2_bz24 h2_bu24 h2_bp24 rfl) trivial rfl ?_
         refine al_stm (st_store (u8 rfl s2_6) up_h rfl rfl mo0_5 h2_sz24 rfl (by first | exact Nat.le_of_ble_eq_true rfl | omega | (simp only [lnS] <;> omega) | (simp <;> omega))) trivial rfl (fun m_8 hm_8 => ?_)
         have mo0_8 := m_set hm_8 mo0_5
         (try simp only [packA_t, packA_f, iE, bE, setAt, cellsA, Value.cells, map_vc, map_vn, Nat.reduceAdd, qS] at mo0_8)
         have mo1_8 := m_set_o hm_8 mo1_5 (by decide)
         have ml_8 := m_set_l hm_8 ml_5
         clear hm_8 mo0_5 mo1_5
         refine al_end (fun e_9 he_9 => ?_)
         have s1_9 := ef 1 he_9 (up_n (u8 rfl s1_6))
         have s2_9 := ef 2 he_9 (up_n (u8 rfl s2_6))
         have s4_9 := ef 4 he_9 (up_n (u8 rfl s4_6))
         have s5_9 := ef 5 he_9 (up_n (u8 rfl s5_6))
         clear he_9 s1_6 s2_6 s4_6 s5_6 s9_6
         refine block_n ?_
         refine then_n ?_
         refine aw_text (by kernel_rfl) ?_
         refine al_ro' (ro_move s5_9) trivial rfl ?_
         first | (refine al_ro' (ro_add' up_h ev_c ?_) trivial rfl ?_; · (unfold In64; omega)) | refine al_ro' (ro_add up_h ev_c) trivial rfl ?_
         refine al_ro' (ro_assign up_h) trivial rfl ?_
         refine al_end (fun e_10 he_10 => ?_)
         have s1_10 := ef 1 he_10 (up_m rfl (u2 rfl s1_9))
         have s2_10 := ef 2 he_10 (up_m rfl (u2 rfl s2_9))
         have s4_10 := ef 4 he_10 (up_m rfl (u2 rfl s4_9))
         have s5_10 := ef 5 he_10 up_h
         clear he_10 s1_9 s2_9 s4_9 s5_9
         refine then_n ?_
         refine ⟨⟨_, rotV x⟩, ⟨s5_10, (s1_10.trans s1_4.symm), (s2_10.trans s2_4.symm), (s4_10.trans s4_4.symm), mo0_8, (mo1_8.trans mo1_2.symm), ml_8, ?_⟩, ?_⟩
         · (refine ⟨by omega, by omega, ?_⟩; rw [show (i + 1).toNat = i.toNat + 1 by omega, p3]; rfl)
         · ((try dsimp only); omega))
    · (first | replace hq_7 := bnt hq_7 | replace hq_7 := bnf hq_7 | replace hq_7 := bt hq_7 | replace hq_7 := bf hq_7 | replace hq_7 := bt' hq_7 | replace hq_7 := bf' hq_7 | skip)
      first
      | (cases hq_7; done) | (exfalso; omega)
      | (
         refine aw_exit ?_
         refine then_x ?_
         refine then_x ?_
         refine block_hit ?_
         refine then_n ?_
         refine aw_seq ?_
         refine aw_text (by kernel_rfl) ?_
         refine al_ro' (ro_eq (ro_ld_ptr h2_ty24 rfl mo0_5 s2_6 (by first | exact Nat.le_of_ble_eq_true rfl | omega | (simp only [lnS] <;> omega) | (simp <;> omega))) (by first | (simp only [packA_t, packA_f, iE, bE, setAt, cellsA, Value.cells, map_vc, map_vn, Nat.reduceAdd, qS] <;> rfl) | rfl)) trivial rfl ?_
         refine al_stm (st_store (up_m rfl s4_6) up_h rfl rfl mo1_5 h2_sz24 rfl (by first | exact Nat.le_of_ble_eq_true rfl | omega | (simp only [lnS] <;> omega) | (simp <;> omega))) trivial rfl (fun m_11 hm_11 => ?_)
         have mo1_11 := m_set hm_11 mo1_5
         (try simp only [packA_t, packA_f, iE, bE, setAt, cellsA, Value.cells, map_vc, map_vn, Nat.reduceAdd, qS] at mo1_11)
         have mo0_11 := m_set_o hm_11 mo0_5 (by decide)
         have ml_11 := m_set_l hm_11 ml_5
         clear hm_11 mo0_5 mo1_5
         refine al_end (fun e_12 he_12 => ?_)
         have s4_12 := ef 4 he_12 (up_n (up_m rfl s4_6))
         clear he_12 s1_6 s2_6 s4_6 s5_6 s9_6
         refine then_n ?_
         refine aw_ret ?_
         refine ret1 (.inr rfl) (by kernel_rfl) (resV_cell s4_12 mo1_11 h2_ty24 (by first | exact Nat.le_of_ble_eq_true rfl | omega | (simp only [lnS] <;> omega) | (simp <;> omega)) (by simp)) (vw_r (.ro _ rfl)) ?_
         clear s4_12 mo1_11 mo0_11 ml_11
         (rw [p3, show i = z % 6 by omega]; rfl))
end Go.Proofs.YtgiiedpambimoaaDoor

/- Contracts of chapter 3: errors of vectors and of phases. No conditions on a program. -/
namespace Go.Proofs.YtgiiedpambimoaaDoor
open Go Go.RowKit Go.Proofs
set_option linter.unusedSimpArgs false
set_option linter.unusedVariables false
theorem h3_fl24_0 : FldIs Tryd.prog 24 0 0 false 1 := by unfold FldIs; kernel_rfl
theorem h3_fl24_1 : FldIs Tryd.prog 24 1 1 false 1 := by unfold FldIs; kernel_rfl
theorem h3_hcf116 : ∀ args w, (callFunc 116 args).run Tryd.prog w = .ok (.enter 116 args) w := fun _ _ => by kernel_rfl
theorem h3_hcf51 : ∀ args w, (callFunc 51 args).run Tryd.prog w = .ok (.enter 51 args) w := fun _ _ => by kernel_rfl
theorem h3_hcf58 : ∀ args w, (callFunc 58 args).run Tryd.prog w = .ok (.enter 58 args) w := fun _ _ => by kernel_rfl
theorem h3_hcf64 : ∀ args w, (callFunc 64 args).run Tryd.prog w = .ok (.enter 64 args) w := fun _ _ => by kernel_rfl
theorem h3_hcf86 : ∀ args w, (callFunc 86 args).run Tryd.prog w = .ok (.enter 86 args) w := fun _ _ => by kernel_rfl
theorem h3_hcf87 : ∀ args w, (callFunc 87 args).run Tryd.prog w = .ok (.enter 87 args) w := fun _ _ => by kernel_rfl
theorem h3_hcf89 : ∀ args w, (callFunc 89 args).run Tryd.prog w = .ok (.enter 89 args) w := fun _ _ => by kernel_rfl
theorem h3_hcf93 : ∀ args w, (callFunc 93 args).run Tryd.prog w = .ok (.enter 93 args) w := fun _ _ => by kernel_rfl
theorem h3_sl43 : SlIs Tryd.prog 43 24 2 16 (.agg #[.int .i64 0, .int .i64 0]) := ⟨by kernel_rfl, by kernel_rfl, by kernel_rfl⟩
theorem h3_sl46 : SlIs Tryd.prog 46 3 1 8 (.int .i64 0) := ⟨by kernel_rfl, by kernel_rfl, by kernel_rfl⟩
theorem h3_ty24 : TyIs Tryd.prog 24 true 2 := ⟨by kernel_rfl, by kernel_rfl⟩
theorem h3_ty3 : TyIs Tryd.prog 3 false 1 := ⟨by kernel_rfl, by kernel_rfl⟩

/-- The first member of which something is so. -/
def idxB {α : Type} (g : α → Bool) (l : List α) : Int := match l.findIdx? g with
  | some i => i
  | none => -1
theorem idxB_hit {α : Type} [Inhabited α] {g : α → Bool} {l : List α} {i : Nat} (hi : i < l.length) (h : g (l.getD i default) = true) (hn : ∀ j : Nat, j < i → g (l.getD j default) = false) : idxB g l = i := by
  unfold idxB
  have : l.findIdx? g = some i := by
    rw [List.findIdx?_eq_some_iff_getElem]
    refine ⟨hi, by simpa [List.getD_eq_getElem?_getD, hi] using h, fun j hj => ?_⟩
    have := hn j hj
    simpa [List.getD_eq_getElem?_getD, Nat.lt_trans hj hi] using this
  rw [this]
theorem idxB_miss {α : Type} [Inhabited α] {g : α → Bool} {l : List α} (hn : ∀ j : Nat, j < l.length → g (l.getD j default) = false) : idxB g l = -1 := by
  unfold idxB
  have : l.findIdx? g = none := by
    rw [List.findIdx?_eq_none_iff]
    intro p hp
    obtain ⟨j, hj, rfl⟩ := List.getElem_of_mem hp
    have := hn j hj
    simpa [List.getD_eq_getElem?_getD, hj] using this
  rw [this]
theorem idxB_any {α : Type} (g : α → Bool) (l : List α) : (0 ≤ idxB g l) ↔ l.any g = true := by
  unfold idxB
  cases h : l.findIdx? g with
  | none =>
    rw [List.findIdx?_eq_none_iff] at h
    simp only [Int.reduceNeg, Int.reduceLE, false_iff, Bool.not_eq_true, List.any_eq_false]
    intro x hx; simp [h x hx]
  | some i =>
    obtain ⟨hi, h1, _⟩ := List.findIdx?_eq_some_iff_getElem.1 h
    simp only [Int.natCast_nonneg, List.any_eq_true, true_iff]
    exact ⟨_, List.getElem_mem hi, h1⟩
def badV (v : V2) : Bool := !(smallB v.1 100000) || !(smallB v.2 100000)
def badN (n : Int) : Bool := !(smallB n 100000)
set_option maxRecDepth 100000 in
set_option maxHeartbeats 1000000 in
theorem right1_ok (v : V2) : FnOk Tryd.prog 89 [tA v] (fun q => q = oA (badV v)) := by
  refine fnOk_of (fn := Tryd.f89) 13 (by kernel_rfl) rfl (by kernel_rfl) (Nat.le_of_ble_eq_true rfl) ?_
  intro e_0 m_0 hA hm_0
  have s0_0 : evA e_0 (.tmp 0) = _ := hA 0 _ rfl
  have ml_0 : m_0.length = 0 := by rw [hm_0]; rfl
  clear hA hm_0
  refine aw_seq ?_
  refine aw_text (by kernel_rfl) ?_
  refine al_stm (st_box s0_0 rfl ml_0) trivial rfl (fun m_1 hm_1 => ?_)
  have mo0_1 := m_push hm_1 ml_0
  (try simp only [packA_t, packA_f, iE, bE, setAt, cellsA, Value.cells, map_vc, map_vn, Nat.reduceAdd, qS] at mo0_1)
  have ml_1 := m_push_l hm_1 ml_0
  have ml_1 : _ = 1 := ml_1
  clear hm_1
  refine al_ro' (ro_assign ev_c) trivial rfl ?_
  refine al_end (fun e_2 he_2 => ?_)
  have s1_2 := ef 1 he_2 (up_m rfl up_h)
  clear he_2 s0_0
  refine then_n ?_
  refine aw_seq ?_
  refine aw_text (by kernel_rfl) ?_
  refine al_ro' (ro_fld_ptr h3_fl24_0 rfl s1_2) trivial rfl ?_
  refine al_ro' (ro_eq (ro_ld_ptr h3_ty3 rfl mo0_1 up_h (by first | exact Nat.le_of_ble_eq_true rfl | omega | (simp only [lnS] <;> omega) | (simp <;> omega))) (by first | (simp only [packA_t, packA_f, iE, bE, setAt, cellsA, Value.cells, map_vc, map_vn, Nat.reduceAdd, qS] <;> rfl) | rfl)) trivial rfl ?_
  refine al_ro' (ro_call (evL_cons up_h (evL_cons ev_c evL_nil)) rfl (sSmall_ok _ _ (by decide)) h3_hcf51) trivial rfl ?_
  refine al_ro' (ro_not up_h) trivial rfl ?_
  refine al_ro' (ro_move up_h) trivial rfl ?_
  refine al_case up_h (fun hb_3 hq_3 => ?_) (fun hb_3 hq_3 => ?_)
  · (first | replace hq_3 := bnt hq_3 | replace hq_3 := bnf hq_3 | replace hq_3 := bt hq_3 | replace hq_3 := bf hq_3 | replace hq_3 := bt' hq_3 | replace hq_3 := bf' hq_3 | skip)
    first
    | (cases hq_3; done) | (exfalso; omega)
    | (
       refine al_skip' ⟨_, rfl, .inl hb_3⟩ rfl ?_
       refine al_skip' ⟨_, rfl, .inl (up_m rfl hb_3)⟩ rfl ?_
       refine al_skip' ⟨_, rfl, .inl (u2 rfl hb_3)⟩ rfl ?_
       refine al_skip' ⟨_, rfl, .inl (up_m rfl (u2 rfl hb_3))⟩ rfl ?_
       refine al_ro' (ro_pickT (u4 rfl hb_3) ev_c) trivial rfl ?_
       refine al_ro' (ro_assign up_h) trivial rfl ?_
       refine al_end (fun e_4 he_4 => ?_)
       have s2_4 := ef 2 he_4 up_h
       clear he_4 hb_3 s1_2
       refine then_n ?_
       refine aw_ret ?_
       refine ret1 (.inr rfl) (by kernel_rfl) (resV_tmp s2_4) (.ro _ rfl) ?_
       clear s2_4 mo0_1 ml_1
       (first | rfl | (simp [badV, *]; done) | (simp [badV, *] <;> omega) | (simp_all [badV]; done) | (simp_all [badV] <;> omega)))
  · (first | replace hq_3 := bnt hq_3 | replace hq_3 := bnf hq_3 | replace hq_3 := bt hq_3 | replace hq_3 := bf hq_3 | replace hq_3 := bt' hq_3 | replace hq_3 := bf' hq_3 | skip)
    first
    | (cases hq_3; done) | (exfalso; omega)
    | (
       refine al_ro' (ro_fld_ptr h3_fl24_1 rfl (up_m rfl (u4 rfl s1_2))) ⟨_, rfl, hb_3⟩ rfl ?_
       refine al_ro' (ro_eq (ro_ld_ptr h3_ty3 rfl mo0_1 up_h (by first | exact Nat.le_of_ble_eq_true rfl | omega | (simp only [lnS] <;> omega) | (simp <;> omega))) (by first | (simp only [packA_t, packA_f, iE, bE, setAt, cellsA, Value.cells, map_vc, map_vn, Nat.reduceAdd, qS] <;> rfl) | rfl)) ⟨_, rfl, (up_m rfl hb_3)⟩ rfl ?_
       refine al_ro' (ro_call (evL_cons up_h (evL_cons ev_c evL_nil)) rfl (sSmall_ok _ _ (by decide)) h3_hcf51) ⟨_, rfl, (u2 rfl hb_3)⟩ rfl ?_
       refine al_ro' (ro_not up_h) ⟨_, rfl, (up_m rfl (u2 rfl hb_3))⟩ rfl ?_
       refine al_ro' (ro_pickF (u4 rfl hb_3) up_h) trivial rfl ?_
       refine al_ro' (ro_assign up_h) trivial rfl ?_
       refine al_end (fun e_5 he_5 => ?_)
       have s2_5 := ef 2 he_5 up_h
       clear he_5 hb_3 s1_2
       refine then_n ?_
       refine aw_ret ?_
       refine ret1 (.inr rfl) (by kernel_rfl) (resV_tmp s2_5) (.ro _ rfl) ?_
       clear s2_5 mo0_1 ml_1
       (first | rfl | (simp [badV, *]; done) | (simp [badV, *] <;> omega) | (simp_all [badV]; done) | (simp_all [badV] <;> omega)))
set_option maxRecDepth 100000 in
set_option maxHeartbeats 1000000 in
theorem phases1_ok (n : Int) : FnOk Tryd.prog 87 [nA n] (fun q => q = oA (badN n)) := by
  refine fnOk_of (fn := Tryd.f87) 6 (by kernel_rfl) rfl (by kernel_rfl) (Nat.le_of_ble_eq_true rfl) ?_
  intro e_0 m_0 hA hm_0
  have s0_0 : evA e_0 (.tmp 0) = _ := hA 0 _ rfl
  have ml_0 : m_0.length = 0 := by rw [hm_0]; rfl
  clear hA hm_0
  refine aw_seq ?_
  refine aw_text (by kernel_rfl) ?_
  refine al_ro' (ro_assign ev_c) trivial rfl ?_
  refine al_end (fun e_1 he_1 => ?_)
  have s0_1 := ef 0 he_1 (up_m rfl s0_0)
  clear he_1 s0_0
  refine then_n ?_
  refine aw_seq ?_
  refine aw_text (by kernel_rfl) ?_
  refine al_ro' (ro_move s0_1) trivial rfl ?_
  refine al_ro' (ro_call (evL_cons up_h (evL_cons ev_c evL_nil)) rfl (sSmall_ok _ _ (by decide)) h3_hcf51) trivial rfl ?_
  refine al_ro' (ro_not up_h) trivial rfl ?_
  refine al_ro' (ro_assign up_h) trivial rfl ?_
  refine al_end (fun e_2 he_2 => ?_)
  have s2_2 := ef 2 he_2 up_h
  clear he_2 s0_1
  refine then_n ?_
  refine aw_ret ?_
  refine ret1 (.inr rfl) (by kernel_rfl) (resV_tmp s2_2) (.ro _ rfl) ?_
  clear s2_2  ml_0
  rfl
set_option maxRecDepth 100000 in
set_option maxHeartbeats 4000000 in
theorem indexRight_ok (l : List V2) (hl : l.length ≤ 1000000000) : FnOk Tryd.prog 93 [.row 2 (l.map tE), .v (.func (.func 89) #[] #[])] (fun q => q = nA (idxB badV l)) := by
  refine fnOk_of (fn := Tryd.f93) 19 (by kernel_rfl) rfl (by kernel_rfl) (Nat.le_of_ble_eq_true rfl) ?_
  intro e_0 m_0 hA hm_0
  have s0_0 : evA e_0 (.tmp 0) = _ := hA 0 _ rfl
  have s1_0 : evA e_0 (.tmp 1) = _ := hA 1 _ rfl
  have ml_0 : m_0.length = 0 := by rw [hm_0]; rfl
  clear hA hm_0
  refine aw_seq ?_
  refine aw_text (by kernel_rfl) ?_
  refine al_ro' (ro_assign ev_c) trivial rfl ?_
  refine al_end (fun e_1 he_1 => ?_)
  have s0_1 := ef 0 he_1 (up_m rfl s0_0)
  have s1_1 := ef 1 he_1 (up_m rfl s1_0)
  clear he_1 s0_0 s1_0
  refine then_n ?_
  refine aw_seq ?_
  refine aw_seq ?_
  refine aw_text (by kernel_rfl) ?_
  refine al_ro' (ro_move s0_1) trivial rfl ?_
  refine al_ro' (ro_eq (ro_len_row up_h rfl h3_sl43.1) (by first | (simp only [lnS] <;> rfl) | rfl)) trivial rfl ?_
  refine al_ro' (ro_move ev_c) trivial rfl ?_
  refine al_end (fun e_2 he_2 => ?_)
  have s0_2 := ef 0 he_2 (up_m rfl (u2 rfl s0_1))
  have s1_2 := ef 1 he_2 (up_m rfl (u2 rfl s1_1))
  have s7_2 := ef 7 he_2 (up_m rfl up_h)
  have s8_2 := ef 8 he_2 up_h
  clear he_2 s0_1 s1_1
  refine then_n ?_
  refine aw_block ?_
  refine aw_loop (S := Int) (fun i e mem => (evA e (.tmp 8) = .v (.int .i64 i)) ∧ (evA e (.tmp 0) = evA e_2 (.tmp 0)) ∧ (evA e (.tmp 1) = evA e_2 (.tmp 1)) ∧ (evA e (.tmp 7) = evA e_2 (.tmp 7)) ∧ (mem.length = 0) ∧ ((0 ≤ i ∧ i ≤ l.length ∧ ∀ j : Nat, j < i.toNat → badV (l.getD j default) = false))) (fun i => (l.length - i).toNat) _ ⟨s8_2, rfl, rfl, rfl, ml_0, ?_⟩ ?_
  · (exact ⟨by omega, by omega, fun j h => absurd h (by omega)⟩)
  · rintro i e_3 m_3 ⟨s8_3, k0_3, k1_3, k7_3, ml_3, hinv⟩
    have s0_3 := k0_3.trans s0_2
    have s1_3 := k1_3.trans s1_2
    have s7_3 := k7_3.trans s7_2
    (obtain ⟨p1, p2, p3⟩ := hinv)
    refine aw_seq ?_
    refine aw_text (by kernel_rfl) ?_
    refine al_ro' (ro_lss s8_3 s7_3) trivial rfl ?_
    refine al_end (fun e_4 he_4 => ?_)
    have s0_4 := ef 0 he_4 (up_m rfl s0_3)
    have s1_4 := ef 1 he_4 (up_m rfl s1_3)
    have s7_4 := ef 7 he_4 (up_m rfl s7_3)
    have s8_4 := ef 8 he_4 (up_m rfl s8_3)
    have s9_4 := ef 9 he_4 up_h
    clear he_4 s0_3 s1_3 s7_3 s8_3
    refine then_n ?_
    refine aw_seq ?_
    refine aw_case s9_4 (fun hq_5 => ?_) (fun hq_5 => ?_)
    · (first | replace hq_5 := bnt hq_5 | replace hq_5 := bnf hq_5 | replace hq_5 := bt hq_5 | replace hq_5 := bf hq_5 | replace hq_5 := bt' hq_5 | replace hq_5 := bf' hq_5 | skip)
      first
      | (cases hq_5; done) | (exfalso; omega)
      | (
         refine aw_skip ?_
         refine then_n ?_
         refine aw_seq ?_
         refine aw_block ?_
         refine aw_seq ?_
         refine aw_text (by kernel_rfl) ?_
         refine al_ro' (ro_move s8_4) trivial rfl ?_
         refine al_ro' (ro_assign up_h) trivial rfl ?_
         refine al_end (fun e_6 he_6 => ?_)
         have s0_6 := ef 0 he_6 (u2 rfl s0_4)
         have s1_6 := ef 1 he_6 (u2 rfl s1_4)
         have s5_6 := ef 5 he_6 up_h
         have s7_6 := ef 7 he_6 (u2 rfl s7_4)
         have s8_6 := ef 8 he_6 (u2 rfl s8_4)
         clear he_6 s0_4 s1_4 s7_4 s8_4 s9_4
         refine then_n ?_
         refine aw_seq ?_
         refine aw_text (by kernel_rfl) ?_
         refine al_ro' (ro_move s1_6) trivial rfl ?_
         refine al_ro' (ro_move (up_m rfl s0_6)) trivial rfl ?_
         refine al_ro' (ro_move (u2 rfl s5_6)) trivial rfl ?_
         refine al_ro' (ro_eq (ro_ix h3_sl43 (up_m rfl up_h) up_h (by first | decide | omega | (simp <;> omega)) (by first | (refine idx_map ?_; first | omega | (simp only [lnS]; omega)) | (refine idx_mapI ?_; first | omega | (simp only [lnS]; omega)) | (refine idx_mapN ?_; first | omega | (simp only [lnS]; omega)) | rfl)) (by first | (simp only [packA_t, packA_f, iE, bE, setAt, cellsA, Value.cells, map_vc, map_vn, Nat.reduceAdd, qS, tE] <;> rfl) | rfl)) trivial rfl ?_
         refine al_ro' (ro_eq (ro_ld_ref h3_ty24 rfl up_h (by first | exact Nat.le_of_ble_eq_true rfl | omega | (simp only [lnS] <;> omega) | (simp <;> omega))) (by first | (simp only [packA_t, packA_f, iE, bE, setAt, cellsA, Value.cells, map_vc, map_vn, Nat.reduceAdd, qS, tE] <;> rfl) | rfl)) trivial rfl ?_
         refine al_ro' (ro_callf (u4 rfl up_h) (evL_cons up_h evL_nil) rfl (right1_ok _) h3_hcf89) trivial rfl ?_
         refine al_end (fun e_7 he_7 => ?_)
         have s0_7 := ef 0 he_7 (u2 rfl (u4 rfl s0_6))
         have s1_7 := ef 1 he_7 (u2 rfl (u4 rfl s1_6))
         have s5_7 := ef 5 he_7 (u2 rfl (u4 rfl s5_6))
         have s7_7 := ef 7 he_7 (u2 rfl (u4 rfl s7_6))
         have s8_7 := ef 8 he_7 (u2 rfl (u4 rfl s8_6))
         have s16_7 := ef 16 he_7 up_h
         clear he_7 s0_6 s1_6 s5_6 s7_6 s8_6
         refine then_n ?_
         refine aw_case s16_7 (fun hq_8 => ?_) (fun hq_8 => ?_)
         · (first | replace hq_8 := bnt hq_8 | replace hq_8 := bnf hq_8 | replace hq_8 := bt hq_8 | replace hq_8 := bf hq_8 | replace hq_8 := bt' hq_8 | replace hq_8 := bf' hq_8 | skip)
           first
           | (cases hq_8; done) | (exfalso; omega)
           | (
              refine aw_seq ?_
              refine aw_text (by kernel_rfl) ?_
              refine al_ro' (ro_move s5_7) trivial rfl ?_
              refine al_ro' (ro_assign up_h) trivial rfl ?_
              refine al_end (fun e_9 he_9 => ?_)
              have s4_9 := ef 4 he_9 up_h
              clear he_9 s0_7 s16_7 s1_7 s5_7 s7_7 s8_7
              refine then_n ?_
              refine aw_ret ?_
              refine block_r ?_
              refine then_r ?_
              refine then_r ?_
              refine block_r ?_
              refine then_r ?_
              refine ret1 (.inr rfl) (by kernel_rfl) (resV_tmp s4_9) (.ro _ rfl) ?_
              clear s4_9  ml_3
              (rw [idxB_hit (i := i.toNat) (by omega) (by assumption) p3, Int.toNat_of_nonneg p1]))
         · (first | replace hq_8 := bnt hq_8 | replace hq_8 := bnf hq_8 | replace hq_8 := bt hq_8 | replace hq_8 := bf hq_8 | replace hq_8 := bt' hq_8 | replace hq_8 := bf' hq_8 | skip)
           first
           | (cases hq_8; done) | (exfalso; omega)
           | (
              refine aw_skip ?_
              refine block_n ?_
              refine then_n ?_
              refine aw_text (by kernel_rfl) ?_
              first | (refine al_ro' (ro_add' s8_7 ev_c ?_) trivial rfl ?_; · (unfold In64; omega)) | refine al_ro' (ro_add s8_7 ev_c) trivial rfl ?_
              refine al_ro' (ro_move up_h) trivial rfl ?_
              refine al_end (fun e_10 he_10 => ?_)
              have s0_10 := ef 0 he_10 (u2 rfl s0_7)
              have s1_10 := ef 1 he_10 (u2 rfl s1_7)
              have s7_10 := ef 7 he_10 (u2 rfl s7_7)
              have s8_10 := ef 8 he_10 up_h
              clear he_10 s0_7 s16_7 s1_7 s5_7 s7_7 s8_7
              refine then_n ?_
              refine ⟨_, ⟨s8_10, (s0_10.trans s0_2.symm), (s1_10.trans s1_2.symm), (s7_10.trans s7_2.symm), ml_3, ?_⟩, ?_⟩
              · (refine ⟨by omega, by omega, fun j hj => ?_⟩; by_cases hji : j < i.toNat; (exact p3 j hji); (rw [show j = i.toNat by omega]; assumption))
              · ((try dsimp only); omega)))
    · (first | replace hq_5 := bnt hq_5 | replace hq_5 := bnf hq_5 | replace hq_5 := bt hq_5 | replace hq_5 := bf hq_5 | replace hq_5 := bt' hq_5 | replace hq_5 := bf' hq_5 | skip)
      first
      | (cases hq_5; done) | (exfalso; omega)
      | (
         refine aw_exit ?_
         refine then_x ?_
         refine then_x ?_
         refine block_hit ?_
         refine then_n ?_
         refine aw_seq ?_
         refine aw_text (by kernel_rfl) ?_
         refine al_ro' (ro_assign ev_c) trivial rfl ?_
         refine al_end (fun e_11 he_11 => ?_)
         have s4_11 := ef 4 he_11 up_h
         clear he_11 s0_4 s1_4 s7_4 s8_4 s9_4
         refine then_n ?_
         refine aw_ret ?_
         refine ret1 (.inr rfl) (by kernel_rfl) (resV_tmp s4_11) (.ro _ rfl) ?_
         clear s4_11  ml_3
         (rw [idxB_miss (fun j hj => p3 j (by omega))]))
set_option maxRecDepth 100000 in
set_option maxHeartbeats 4000000 in
theorem indexPhases_ok (l : List Int) (hl : l.length ≤ 1000000000) : FnOk Tryd.prog 116 [.row 1 (l.map iE), .v (.func (.func 87) #[] #[])] (fun q => q = nA (idxB badN l)) := by
  refine fnOk_of (fn := Tryd.f116) 19 (by kernel_rfl) rfl (by kernel_rfl) (Nat.le_of_ble_eq_true rfl) ?_
  intro e_0 m_0 hA hm_0
  have s0_0 : evA e_0 (.tmp 0) = _ := hA 0 _ rfl
  have s1_0 : evA e_0 (.tmp 1) = _ := hA 1 _ rfl
  have ml_0 : m_0.length = 0 := by rw [hm_0]; rfl
  clear hA hm_0
  refine aw_seq ?_
  refine aw_text (by kernel_rfl) ?_
  refine al_ro' (ro_assign ev_c) trivial rfl ?_
  refine al_end (fun e_1 he_1 => ?_)
  have s0_1 := ef 0 he_1 (up_m rfl s0_0)
  have s1_1 := ef 1 he_1 (up_m rfl s1_0)
  clear he_1 s0_0 s1_0
  refine then_n ?_
  refine aw_seq ?_
  refine aw_seq ?_
  refine aw_text (by kernel_rfl) ?_
  refine al_ro' (ro_move s0_1) trivial rfl ?_
  refine al_ro' (ro_eq (ro_len_row up_h rfl h3_sl46.1) (by first | (simp only [lnS] <;> rfl) | rfl)) trivial rfl ?_
  refine al_ro' (ro_move ev_c) trivial rfl ?_
  refine al_end (fun e_2 he_2 => ?_)
  have s0_2 := ef 0 he_2 (up_m rfl (u2 rfl s0_1))
  have s1_2 := ef 1 he_2 (up_m rfl (u2 rfl s1_1))
  have s7_2 := ef 7 he_2 (up_m rfl up_h)
  have s8_2 := ef 8 he_2 up_h
  clear he_2 s0_1 s1_1
  refine then_n ?_
  refine aw_block ?_
  refine aw_loop (S := Int) (fun i e mem => (evA e (.tmp 8) = .v (.int .i64 i)) ∧ (evA e (.tmp 0) = evA e_2 (.tmp 0)) ∧ (evA e (.tmp 1) = evA e_2 (.tmp 1)) ∧ (evA e (.tmp 7) = evA e_2 (.tmp 7)) ∧ (mem.length = 0) ∧ ((0 ≤ i ∧ i ≤ l.length ∧ ∀ j : Nat, j < i.toNat → badN (l.getD j default) = false))) (fun i => (l.length - i).toNat) _ ⟨s8_2, rfl, rfl, rfl, ml_0, ?_⟩ ?_
  · (exact ⟨by omega, by omega, fun j h => absurd h (by omega)⟩)
  · rintro i e_3 m_3 ⟨s8_3, k0_3, k1_3, k7_3, ml_3, hinv⟩
    have s0_3 := k0_3.trans s0_2
    have s1_3 := k1_3.trans s1_2
    have s7_3 := k7_3.trans s7_2
    (obtain ⟨p1, p2, p3⟩ := hinv)
    refine aw_seq ?_
    refine aw_text (by kernel_rfl) ?_
    refine al_ro' (ro_lss s8_3 s7_3) trivial rfl ?_
    refine al_end (fun e_4 he_4 => ?_)
    have s0_4 := ef 0 he_4 (up_m rfl s0_3)
    have s1_4 := ef 1 he_4 (up_m rfl s1_3)
    have s7_4 := ef 7 he_4 (up_m rfl s7_3)
    have s8_4 := ef 8 he_4 (up_m rfl s8_3)
    have s9_4 := ef 9 he_4 up_h
    clear he_4 s0_3 s1_3 s7_3 s8_3
    refine then_n ?_
    refine aw_seq ?_
    refine aw_case s9_4 (fun hq_5 => ?_) (fun hq_5 => ?_)
    · (first | replace hq_5 := bnt hq_5 | replace hq_5 := bnf hq_5 | replace hq_5 := bt hq_5 | replace hq_5 := bf hq_5 | replace hq_5 := bt' hq_5 | replace hq_5 := bf' hq_5 | skip)
      first
      | (cases hq_5; done) | (exfalso; omega)
      | (
         refine aw_skip ?_
         refine then_n ?_
         refine aw_seq ?_
         refine aw_block ?_
         refine aw_seq ?_
         refine aw_text (by kernel_rfl) ?_
         refine al_ro' (ro_move s8_4) trivial rfl ?_
         refine al_ro' (ro_assign up_h) trivial rfl ?_
         refine al_end (fun e_6 he_6 => ?_)
         have s0_6 := ef 0 he_6 (u2 rfl s0_4)
         have s1_6 := ef 1 he_6 (u2 rfl s1_4)
         have s5_6 := ef 5 he_6 up_h
         have s7_6 := ef 7 he_6 (u2 rfl s7_4)
         have s8_6 := ef 8 he_6 (u2 rfl s8_4)
         clear he_6 s0_4 s1_4 s7_4 s8_4 s9_4
         refine then_n ?_
         refine aw_seq ?_
         refine aw_text (by kernel_rfl) ?_
         refine al_ro' (ro_move s1_6) trivial rfl ?_
         refine al_ro' (ro_move (up_m rfl s0_6)) trivial rfl ?_
         refine al_ro' (ro_move (u2 rfl s5_6)) trivial rfl ?_
         refine al_ro' (ro_eq (ro_ix h3_sl46 (up_m rfl up_h) up_h (by first | decide | omega | (simp <;> omega)) (by first | (refine idx_map ?_; first | omega | (simp only [lnS]; omega)) | (refine idx_mapI ?_; first | omega | (simp only [lnS]; omega)) | (refine idx_mapN ?_; first | omega | (simp only [lnS]; omega)) | rfl)) (by first | (simp only [packA_t, packA_f, iE, bE, setAt, cellsA, Value.cells, map_vc, map_vn, Nat.reduceAdd, qS] <;> rfl) | rfl)) trivial rfl ?_
         refine al_ro' (ro_eq (ro_ld_ref h3_ty3 rfl up_h (by first | exact Nat.le_of_ble_eq_true rfl | omega | (simp only [lnS] <;> omega) | (simp <;> omega))) (by first | (simp only [packA_t, packA_f, iE, bE, setAt, cellsA, Value.cells, map_vc, map_vn, Nat.reduceAdd, qS] <;> rfl) | rfl)) trivial rfl ?_
         refine al_ro' (ro_callf (u4 rfl up_h) (evL_cons up_h evL_nil) rfl (phases1_ok _) h3_hcf87) trivial rfl ?_
         refine al_end (fun e_7 he_7 => ?_)
         have s0_7 := ef 0 he_7 (u2 rfl (u4 rfl s0_6))
         have s1_7 := ef 1 he_7 (u2 rfl (u4 rfl s1_6))
         have s5_7 := ef 5 he_7 (u2 rfl (u4 rfl s5_6))
         have s7_7 := ef 7 he_7 (u2 rfl (u4 rfl s7_6))
         have s8_7 := ef 8 he_7 (u2 rfl (u4 rfl s8_6))
         have s16_7 := ef 16 he_7 up_h
         clear he_7 s0_6 s1_6 s5_6 s7_6 s8_6
         refine then_n ?_
         refine aw_case s16_7 (fun hq_8 => ?_) (fun hq_8 => ?_)
         · (first | replace hq_8 := bnt hq_8 | replace hq_8 := bnf hq_8 | replace hq_8 := bt hq_8 | replace hq_8 := bf hq_8 | replace hq_8 := bt' hq_8 | replace hq_8 := bf' hq_8 | skip)
           first
           | (cases hq_8; done) | (exfalso; omega)
           | (
              refine aw_seq ?_
              refine aw_text (by kernel_rfl) ?_
              refine al_ro' (ro_move s5_7) trivial rfl ?_
              refine al_ro' (ro_assign up_h) trivial rfl ?_
              refine al_end (fun e_9 he_9 => ?_)
              have s4_9 := ef 4 he_9 up_h
              clear he_9 s0_7 s16_7 s1_7 s5_7 s7_7 s8_7
              refine then_n ?_
              refine aw_ret ?_
              refine block_r ?_
              refine then_r ?_
              refine then_r ?_
              refine block_r ?_
              refine then_r ?_
              refine ret1 (.inr rfl) (by kernel_rfl) (resV_tmp s4_9) (.ro _ rfl) ?_
              clear s4_9  ml_3
              (rw [idxB_hit (i := i.toNat) (by omega) (by unfold badN; rw [‹smallB _ _ = false›]; rfl) p3, Int.toNat_of_nonneg p1]))
         · (first | replace hq_8 := bnt hq_8 | replace hq_8 := bnf hq_8 | replace hq_8 := bt hq_8 | replace hq_8 := bf hq_8 | replace hq_8 := bt' hq_8 | replace hq_8 := bf' hq_8 | skip)
           first
           | (cases hq_8; done) | (exfalso; omega)
           | (
              refine aw_skip ?_
              refine block_n ?_
              refine then_n ?_
              refine aw_text (by kernel_rfl) ?_
              first | (refine al_ro' (ro_add' s8_7 ev_c ?_) trivial rfl ?_; · (unfold In64; omega)) | refine al_ro' (ro_add s8_7 ev_c) trivial rfl ?_
              refine al_ro' (ro_move up_h) trivial rfl ?_
              refine al_end (fun e_10 he_10 => ?_)
              have s0_10 := ef 0 he_10 (u2 rfl s0_7)
              have s1_10 := ef 1 he_10 (u2 rfl s1_7)
              have s7_10 := ef 7 he_10 (u2 rfl s7_7)
              have s8_10 := ef 8 he_10 up_h
              clear he_10 s0_7 s16_7 s1_7 s5_7 s7_7 s8_7
              refine then_n ?_
              refine ⟨_, ⟨s8_10, (s0_10.trans s0_2.symm), (s1_10.trans s1_2.symm), (s7_10.trans s7_2.symm), ml_3, ?_⟩, ?_⟩
              · (refine ⟨by omega, by omega, fun j hj => ?_⟩; by_cases hji : j < i.toNat; (exact p3 j hji); (rw [show j = i.toNat by omega]; unfold badN; rw [‹smallB _ _ = true›]; rfl))
              · ((try dsimp only); omega)))
    · (first | replace hq_5 := bnt hq_5 | replace hq_5 := bnf hq_5 | replace hq_5 := bt hq_5 | replace hq_5 := bf hq_5 | replace hq_5 := bt' hq_5 | replace hq_5 := bf' hq_5 | skip)
      first
      | (cases hq_5; done) | (exfalso; omega)
      | (
         refine aw_exit ?_
         refine then_x ?_
         refine then_x ?_
         refine block_hit ?_
         refine then_n ?_
         refine aw_seq ?_
         refine aw_text (by kernel_rfl) ?_
         refine al_ro' (ro_assign ev_c) trivial rfl ?_
         refine al_end (fun e_11 he_11 => ?_)
         have s4_11 := ef 4 he_11 up_h
         clear he_11 s0_4 s1_4 s7_4 s8_4 s9_4
         refine then_n ?_
         refine aw_ret ?_
         refine ret1 (.inr rfl) (by kernel_rfl) (resV_tmp s4_11) (.ro _ rfl) ?_
         clear s4_11  ml_3
         (rw [idxB_miss (fun j hj => p3 j (by omega))]))
set_option maxRecDepth 100000 in
set_option maxHeartbeats 1000000 in
theorem containsRight_ok (l : List V2) (hl : l.length ≤ 1000000000) : FnOk Tryd.prog 64 [.row 2 (l.map tE), .v (.func (.func 89) #[] #[])] (fun q => q = oA (l.any badV)) := by
  refine fnOk_of (fn := Tryd.f64) 9 (by kernel_rfl) rfl (by kernel_rfl) (Nat.le_of_ble_eq_true rfl) ?_
  intro e_0 m_0 hA hm_0
  have s0_0 : evA e_0 (.tmp 0) = _ := hA 0 _ rfl
  have s1_0 : evA e_0 (.tmp 1) = _ := hA 1 _ rfl
  have ml_0 : m_0.length = 0 := by rw [hm_0]; rfl
  clear hA hm_0
  refine aw_seq ?_
  refine aw_text (by kernel_rfl) ?_
  refine al_ro' (ro_assign ev_c) trivial rfl ?_
  refine al_end (fun e_1 he_1 => ?_)
  have s0_1 := ef 0 he_1 (up_m rfl s0_0)
  have s1_1 := ef 1 he_1 (up_m rfl s1_0)
  clear he_1 s0_0 s1_0
  refine then_n ?_
  refine aw_seq ?_
  refine aw_text (by kernel_rfl) ?_
  refine al_ro' (ro_move s0_1) trivial rfl ?_
  refine al_ro' (ro_move (up_m rfl s1_1)) trivial rfl ?_
  refine al_ro' (ro_call (evL_cons (up_m rfl up_h) (evL_cons up_h evL_nil)) rfl (indexRight_ok l hl) h3_hcf93) trivial rfl ?_
  refine al_ro' (ro_geq up_h ev_c) trivial rfl ?_
  refine al_ro' (ro_assign up_h) trivial rfl ?_
  refine al_end (fun e_2 he_2 => ?_)
  have s4_2 := ef 4 he_2 up_h
  clear he_2 s0_1 s1_1
  refine then_n ?_
  refine aw_ret ?_
  refine ret1 (.inr rfl) (by kernel_rfl) (resV_tmp s4_2) (.ro _ rfl) ?_
  clear s4_2  ml_0
  (refine avb ?_; simp only [decide_eq_true_eq, idxB_any])
set_option maxRecDepth 100000 in
set_option maxHeartbeats 1000000 in
theorem containsPhases_ok (l : List Int) (hl : l.length ≤ 1000000000) : FnOk Tryd.prog 86 [.row 1 (l.map iE), .v (.func (.func 87) #[] #[])] (fun q => q = oA (l.any badN)) := by
  refine fnOk_of (fn := Tryd.f86) 9 (by kernel_rfl) rfl (by kernel_rfl) (Nat.le_of_ble_eq_true rfl) ?_
  intro e_0 m_0 hA hm_0
  have s0_0 : evA e_0 (.tmp 0) = _ := hA 0 _ rfl
  have s1_0 : evA e_0 (.tmp 1) = _ := hA 1 _ rfl
  have ml_0 : m_0.length = 0 := by rw [hm_0]; rfl
  clear hA hm_0
  refine aw_seq ?_
  refine aw_text (by kernel_rfl) ?_
  refine al_ro' (ro_assign ev_c) trivial rfl ?_
  refine al_end (fun e_1 he_1 => ?_)
  have s0_1 := ef 0 he_1 (up_m rfl s0_0)
  have s1_1 := ef 1 he_1 (up_m rfl s1_0)
  clear he_1 s0_0 s1_0
  refine then_n ?_
  refine aw_seq ?_
  refine aw_text (by kernel_rfl) ?_
  refine al_ro' (ro_move s0_1) trivial rfl ?_
  refine al_ro' (ro_move (up_m rfl s1_1)) trivial rfl ?_
  refine al_ro' (ro_call (evL_cons (up_m rfl up_h) (evL_cons up_h evL_nil)) rfl (indexPhases_ok l hl) h3_hcf116) trivial rfl ?_
  refine al_ro' (ro_geq up_h ev_c) trivial rfl ?_
  refine al_ro' (ro_assign up_h) trivial rfl ?_
  refine al_end (fun e_2 he_2 => ?_)
  have s4_2 := ef 4 he_2 up_h
  clear he_2 s0_1 s1_1
  refine then_n ?_
  refine aw_ret ?_
  refine ret1 (.inr rfl) (by kernel_rfl) (resV_tmp s4_2) (.ro _ rfl) ?_
  clear s4_2  ml_0
  (refine avb ?_; simp only [decide_eq_true_eq, idxB_any])
def rightE (l : List V2) : Int := unlessE (!(l.any badV)) 2
def phasesE (l : List Int) : Int := unlessE (!(l.any badN)) 2
set_option maxRecDepth 100000 in
set_option maxHeartbeats 1000000 in
theorem right_ok (l : List V2) (hl : l.length ≤ 1000000000) : FnOk Tryd.prog 59 [.row 2 (l.map tE)] (fun q => q = nA (rightE l)) := by
  refine fnOk_of (fn := Tryd.f59) 9 (by kernel_rfl) rfl (by kernel_rfl) (Nat.le_of_ble_eq_true rfl) ?_
  intro e_0 m_0 hA hm_0
  have s0_0 : evA e_0 (.tmp 0) = _ := hA 0 _ rfl
  have ml_0 : m_0.length = 0 := by rw [hm_0]; rfl
  clear hA hm_0
  refine aw_seq ?_
  refine aw_text (by kernel_rfl) ?_
  refine al_ro' (ro_assign ev_c) trivial rfl ?_
  refine al_end (fun e_1 he_1 => ?_)
  have s0_1 := ef 0 he_1 (up_m rfl s0_0)
  clear he_1 s0_0
  refine then_n ?_
  refine aw_seq ?_
  refine aw_text (by kernel_rfl) ?_
  refine al_ro' (ro_move s0_1) trivial rfl ?_
  refine al_ro' (ro_call (evL_cons up_h (evL_cons ev_f evL_nil)) rfl (containsRight_ok l hl) h3_hcf64) trivial rfl ?_
  refine al_ro' (ro_assign up_h) trivial rfl ?_
  refine al_end (fun e_2 he_2 => ?_)
  have s3_2 := ef 3 he_2 up_h
  clear he_2 s0_1
  refine then_n ?_
  refine aw_seq ?_
  refine aw_text (by kernel_rfl) ?_
  refine al_ro' (ro_move s3_2) trivial rfl ?_
  refine al_ro' (ro_not up_h) trivial rfl ?_
  refine al_ro' (ro_call (evL_cons up_h (evL_cons ev_c evL_nil)) rfl (sUnless_ok _ _) h3_hcf58) trivial rfl ?_
  refine al_ro' (ro_assign up_h) trivial rfl ?_
  refine al_end (fun e_3 he_3 => ?_)
  have s2_3 := ef 2 he_3 up_h
  clear he_3 s3_2
  refine then_n ?_
  refine aw_ret ?_
  refine ret1 (.inr rfl) (by kernel_rfl) (resV_tmp s2_3) (.ro _ rfl) ?_
  clear s2_3  ml_0
  rfl
set_option maxRecDepth 100000 in
set_option maxHeartbeats 1000000 in
theorem phases_ok (l : List Int) (hl : l.length ≤ 1000000000) : FnOk Tryd.prog 48 [.row 1 (l.map iE)] (fun q => q = nA (phasesE l)) := by
  refine fnOk_of (fn := Tryd.f48) 9 (by kernel_rfl) rfl (by kernel_rfl) (Nat.le_of_ble_eq_true rfl) ?_
  intro e_0 m_0 hA hm_0
  have s0_0 : evA e_0 (.tmp 0) = _ := hA 0 _ rfl
  have ml_0 : m_0.length = 0 := by rw [hm_0]; rfl
  clear hA hm_0
  refine aw_seq ?_
  refine aw_text (by kernel_rfl) ?_
  refine al_ro' (ro_assign ev_c) trivial rfl ?_
  refine al_end (fun e_1 he_1 => ?_)
  have s0_1 := ef 0 he_1 (up_m rfl s0_0)
  clear he_1 s0_0
  refine then_n ?_
  refine aw_seq ?_
  refine aw_text (by kernel_rfl) ?_
  refine al_ro' (ro_move s0_1) trivial rfl ?_
  refine al_ro' (ro_call (evL_cons up_h (evL_cons ev_f evL_nil)) rfl (containsPhases_ok l hl) h3_hcf86) trivial rfl ?_
  refine al_ro' (ro_assign up_h) trivial rfl ?_
  refine al_end (fun e_2 he_2 => ?_)
  have s3_2 := ef 3 he_2 up_h
  clear he_2 s0_1
  refine then_n ?_
  refine aw_seq ?_
  refine aw_text (by kernel_rfl) ?_
  refine al_ro' (ro_move s3_2) trivial rfl ?_
  refine al_ro' (ro_not up_h) trivial rfl ?_
  refine al_ro' (ro_call (evL_cons up_h (evL_cons ev_c evL_nil)) rfl (sUnless_ok _ _) h3_hcf58) trivial rfl ?_
  refine al_ro' (ro_assign up_h) trivial rfl ?_
  refine al_end (fun e_3 he_3 => ?_)
  have s2_3 := ef 2 he_3 up_h
  clear he_3 s3_2
  refine then_n ?_
  refine aw_ret ?_
  refine ret1 (.inr rfl) (by kernel_rfl) (resV_tmp s2_3) (.ro _ rfl) ?_
  clear s2_3  ml_0
  rfl
theorem badV_bd {v : V2} (h : badV v = false) : Bd 100000 v := by
  simp only [badV, smallB, withinB, Bool.or_eq_false_iff, Bool.not_eq_false', Bool.and_eq_true, decide_eq_true_eq] at h
  exact ⟨h.1, h.2⟩
theorem unlessE_z {ok : Bool} {e : Int} (he : e ≠ 0) : unlessE ok e = 0 ↔ ok = true := by
  cases ok
  · simp [unlessE, he]
  · simp [unlessE]
theorem right_bd {l : List V2} (h : rightE l = 0) : ∀ v ∈ l, Bd 100000 v := by
  unfold rightE at h
  rw [unlessE_z (by decide), Bool.not_eq_true', List.any_eq_false] at h
  intro v hv
  exact badV_bd (by simpa using h v hv)
theorem phases_bd {l : List Int} (h : phasesE l = 0) : ∀ n ∈ l, -100000 ≤ n ∧ n ≤ 100000 := by
  unfold phasesE at h
  rw [unlessE_z (by decide), Bool.not_eq_true', List.any_eq_false] at h
  intro v hv
  have := h v hv
  simp only [badN, smallB, withinB, Bool.not_eq_true, Bool.not_eq_false', Bool.and_eq_true, decide_eq_true_eq] at this
  exact this
theorem phases_two (l : List Int) : phasesE l = 0 ∨ phasesE l = 2 := by unfold phasesE unlessE; split <;> simp
end Go.Proofs.YtgiiedpambimoaaDoor

/- Contracts of chapter 3: orders and samples. No conditions on a program. -/
namespace Go.Proofs.YtgiiedpambimoaaDoor
open Go Go.RowKit Go.Proofs
set_option linter.unusedSimpArgs false
set_option linter.unusedVariables false
theorem h4_az96 : (Tryd.prog.info? 96).bind (·.zero) = some (.agg #[.int .i64 0, .int .i64 0]) := by kernel_rfl
theorem h4_az97 : (Tryd.prog.info? 97).bind (·.zero) = some (.agg #[.int .i64 0, .int .i64 0, .int .i64 0, .int .i64 0, .int .i64 0, .int .i64 0, .int .i64 0, .int .i64 0, .int .i64 0, .int .i64 0, .int .i64 0, .int .i64 0]) := by kernel_rfl
theorem h4_ar97 : ArIs Tryd.prog 97 6 2 := ⟨by kernel_rfl, by kernel_rfl⟩
theorem h4_at97 : ArTy Tryd.prog 97 6 96 true 2 := ⟨by kernel_rfl, by kernel_rfl, by kernel_rfl⟩
theorem h4_hcf60 : ∀ args w, (callFunc 60 args).run Tryd.prog w = .ok (.enter 60 args) w := fun _ _ => by kernel_rfl
theorem h4_hcf71 : ∀ args w, (callFunc 71 args).run Tryd.prog w = .ok (.enter 71 args) w := fun _ _ => by kernel_rfl
theorem h4_sz96 : (Tryd.prog.info? 96).map (·.size) = some 2 := by kernel_rfl
theorem h4_sz97 : (Tryd.prog.info? 97).map (·.size) = some 12 := by kernel_rfl
theorem h4_ty96 : TyIs Tryd.prog 96 true 2 := ⟨by kernel_rfl, by kernel_rfl⟩
theorem h4_ty97 : TyIs Tryd.prog 97 true 12 := ⟨by kernel_rfl, by kernel_rfl⟩

/-- The variables of the package: one, and the vectors of all states. -/
def stA : List V2 := [(0, 0), (-1, -1), (0, 1), (-1, 0), (1, 0), (0, -1), (1, 1), (0, 0)]
def gT : List (Nat × List AV) := [(1, (stA.map tE).flatten)]
def gS : List (Nat × List AV) := (0, [nA 1, nA 0]) :: gT
theorem set_tE (xs : List V2) (i : Nat) (a b : Int) : (xs.map tE).set i [.v (.int .i64 a), .v (.int .i64 b)] = (xs.set i (a, b)).map tE := by simp [List.map_set, tE]
theorem getD_setV {α : Type} [Inhabited α] {xs : List α} {i j : Nat} {v : α} (hi : i < xs.length) : (xs.set i v).getD j default = if j = i then v else xs.getD j default := by
  simp only [List.getD_eq_getElem?_getD, List.getElem?_set]
  by_cases h : i = j
  · subst h; simp [hi]
  · rw [if_neg h, if_neg (fun e => h e.symm)]
theorem list_ext' {α : Type} [Inhabited α] {xs ys : List α} (hl : xs.length = ys.length) (h : ∀ j : Nat, j < xs.length → xs.getD j default = ys.getD j default) : xs = ys := by
  apply List.ext_getElem hl
  intro j h1 h2
  have := h j h1
  simpa [List.getD_eq_getElem?_getD, h1, h2] using this
/-- The sum of the first n vectors, the number j of them turned by way k j sixths. -/
def trS (xs : List V2) (w k : Int) : Nat → V2
  | 0 => (0, 0)
  | n + 1 => addV (trS xs w k n) (turnV (xs.getD n default) (w * k * n))
def trW (xs : List V2) (w : Int) : List V2 := (List.range 6).map fun (k : Nat) => trS xs w k 6
theorem trW_len (xs : List V2) (w : Int) : (trW xs w).length = 6 := by simp [trW]
theorem trW_at (xs : List V2) (w : Int) {k : Nat} (hk : k < 6) : (trW xs w).getD k default = trS xs w k 6 := by
  simp [trW, List.getD_eq_getElem?_getD, hk]
theorem Bd.getD {M : Int} {xs : List V2} (h : ∀ v ∈ xs, Bd M v) (hM : 0 ≤ M) (i : Nat) : Bd M (xs.getD i default) := by
  rw [List.getD_eq_getElem?_getD]
  by_cases hi : i < xs.length
  · rw [List.getElem?_eq_getElem hi]; exact h _ (List.getElem_mem hi)
  · rw [List.getElem?_eq_none (by omega)]
    exact ⟨⟨by show -M ≤ 0; omega, by show (0 : Int) ≤ M; omega⟩, by show -M ≤ 0; omega, by show (0 : Int) ≤ M; omega⟩
theorem add_bd {M K : Int} {u v : V2} (hu : Bd M u) (hv : Bd K v) : Bd (M + K) (addV u v) := by
  obtain ⟨⟨a1, a2⟩, a3, a4⟩ := hu
  obtain ⟨⟨b1, b2⟩, b3, b4⟩ := hv
  refine ⟨⟨?_, ?_⟩, ?_, ?_⟩ <;> simp only [addV] <;> omega
theorem trS_bd {xs : List V2} (h : ∀ v ∈ xs, Bd 600000 v) (w k : Int) : ∀ n : Nat, Bd (1200000 * n) (trS xs w k n)
  | 0 => ⟨⟨by simp [trS], by simp [trS]⟩, by simp [trS], by simp [trS]⟩
  | n + 1 => by
    have h1 := trS_bd h w k n
    have h2 := turnV_bd (Bd.getD h (by decide) n) (w * k * n)
    have h3 := add_bd h1 h2
    simp only [trS]
    exact h3.mono (by omega)
set_option maxRecDepth 100000 in
set_option maxHeartbeats 4000000 in
theorem transform_ok (xs : List V2) (hx : xs.length = 6) (hb : ∀ v ∈ xs, Bd 600000 v) (z : Int) (hz : -1 ≤ z ∧ z ≤ 1) : FnOk Tryd.prog 50 [.agg (xs.map tE).flatten, nA z] (fun q => q = .agg ((trW xs z).map tE).flatten) := by
  refine fnOk_of (fn := Tryd.f50) 33 (by kernel_rfl) rfl (by kernel_rfl) (Nat.le_of_ble_eq_true rfl) ?_
  intro e_0 m_0 hA hm_0
  have s0_0 : evA e_0 (.tmp 0) = _ := hA 0 _ rfl
  have s1_0 : evA e_0 (.tmp 1) = _ := hA 1 _ rfl
  have ml_0 : m_0.length = 0 := by rw [hm_0]; rfl
  clear hA hm_0
  refine aw_seq ?_
  refine aw_text (by kernel_rfl) ?_
  refine al_stm (st_box s0_0 rfl ml_0) trivial rfl (fun m_1 hm_1 => ?_)
  have mo0_1 := m_push hm_1 ml_0
  (try simp only [packA_t, packA_f, iE, bE, setAt, cellsA, Value.cells, map_vc, map_vn, Nat.reduceAdd, qS, tE, set_tE] at mo0_1)
  have ml_1 := m_push_l hm_1 ml_0
  have ml_1 : _ = 1 := ml_1
  clear hm_1
  refine al_stm (st_alloc h4_az97 rfl ml_1) trivial rfl (fun m_2 hm_2 => ?_)
  have mo1_2 := m_push hm_2 ml_1
  (try simp only [packA_t, packA_f, iE, bE, setAt, cellsA, Value.cells, map_vc, map_vn, Nat.reduceAdd, qS, tE, set_tE] at mo1_2)
  have mo0_2 := m_push_o hm_2 mo0_1
  have ml_2 := m_push_l hm_2 ml_1
  have ml_2 : _ = 2 := ml_2
  clear hm_2 mo0_1
  refine al_end (fun e_3 he_3 => ?_)
  have s1_3 := ef 1 he_3 (u2 rfl s1_0)
  have s2_3 := ef 2 he_3 (up_m rfl up_h)
  have s4_3 := ef 4 he_3 up_h
  clear he_3 s0_0 s1_0
  refine then_n ?_
  refine aw_seq ?_
  refine aw_text (by kernel_rfl) ?_
  refine al_stm (st_alloc h4_az97 rfl ml_2) trivial rfl (fun m_4 hm_4 => ?_)
  have mo2_4 := m_push hm_4 ml_2
  (try simp only [packA_t, packA_f, iE, bE, setAt, cellsA, Value.cells, map_vc, map_vn, Nat.reduceAdd, qS, tE, set_tE] at mo2_4)
  have mo1_4 := m_push_o hm_4 mo1_2
  have mo0_4 := m_push_o hm_4 mo0_2
  have ml_4 := m_push_l hm_4 ml_2
  have ml_4 : _ = 3 := ml_4
  clear hm_4 mo1_2 mo0_2
  refine al_end (fun e_5 he_5 => ?_)
  have s1_5 := ef 1 he_5 (up_m rfl s1_3)
  have s2_5 := ef 2 he_5 (up_m rfl s2_3)
  have s4_5 := ef 4 he_5 (up_m rfl s4_3)
  have s5_5 := ef 5 he_5 up_h
  clear he_5 s1_3 s2_3 s4_3
  refine then_n ?_
  refine aw_seq ?_
  refine aw_seq ?_
  refine aw_text (by kernel_rfl) ?_
  refine al_ro' (ro_move ev_c) trivial rfl ?_
  refine al_end (fun e_6 he_6 => ?_)
  have s1_6 := ef 1 he_6 (up_m rfl s1_5)
  have s2_6 := ef 2 he_6 (up_m rfl s2_5)
  have s4_6 := ef 4 he_6 (up_m rfl s4_5)
  have s5_6 := ef 5 he_6 (up_m rfl s5_5)
  have s9_6 := ef 9 he_6 up_h
  clear he_6 s1_5 s2_5 s4_5 s5_5
  refine then_n ?_
  refine aw_block ?_
  refine aw_loop (S := (Int × List V2)) (fun s e mem => match s with | ⟨k, ys⟩ => (evA e (.tmp 9) = .v (.int .i64 k)) ∧ (evA e (.tmp 1) = evA e_6 (.tmp 1)) ∧ (evA e (.tmp 2) = evA e_6 (.tmp 2)) ∧ (evA e (.tmp 4) = evA e_6 (.tmp 4)) ∧ (evA e (.tmp 5) = evA e_6 (.tmp 5)) ∧ (mem[2]? = some (.box 97 (ys.map tE).flatten)) ∧ (mem[1]? = m_4[1]?) ∧ (mem[0]? = m_4[0]?) ∧ (∃ n, mem.length = n ∧ 3 ≤ n) ∧ ((0 ≤ k ∧ k ≤ 6 ∧ ys.length = 6 ∧ ∀ j : Nat, j < 6 → ys.getD j default = if j < k.toNat then trS xs z j 6 else (0, 0)))) (fun s => match s with | ⟨k, ys⟩ => (6 - k).toNat) ⟨_, [(0, 0), (0, 0), (0, 0), (0, 0), (0, 0), (0, 0)]⟩ ⟨s9_6, rfl, rfl, rfl, rfl, mo2_4, rfl, rfl, ⟨_, ml_4, Nat.le_refl _⟩, ?_⟩ ?_
  · (refine ⟨by omega, by omega, rfl, fun j hj => ?_⟩; match j, hj with | 0, _ => rfl | 1, _ => rfl | 2, _ => rfl | 3, _ => rfl | 4, _ => rfl | 5, _ => rfl)
  · rintro ⟨k, ys⟩ e_7 m_7 ⟨s9_7, k1_7, k2_7, k4_7, k5_7, mo2_7, mk1_7, mk0_7, ⟨n_7, ml_7, hn_7⟩, hinv⟩
    have s1_7 := k1_7.trans s1_6
    have s2_7 := k2_7.trans s2_6
    have s4_7 := k4_7.trans s4_6
    have s5_7 := k5_7.trans s5_6
    have mo1_7 := mk1_7.trans mo1_4
    have mo0_7 := mk0_7.trans mo0_4
    (obtain ⟨p1, p2, p3, p4⟩ := hinv)
    refine aw_seq ?_
    refine aw_text (by kernel_rfl) ?_
    refine al_ro' (ro_lss s9_7 ev_c) trivial rfl ?_
    refine al_end (fun e_8 he_8 => ?_)
    have s1_8 := ef 1 he_8 (up_m rfl s1_7)
    have s2_8 := ef 2 he_8 (up_m rfl s2_7)
    have s4_8 := ef 4 he_8 (up_m rfl s4_7)
    have s5_8 := ef 5 he_8 (up_m rfl s5_7)
    have s9_8 := ef 9 he_8 (up_m rfl s9_7)
    have s10_8 := ef 10 he_8 up_h
    clear he_8 s1_7 s2_7 s4_7 s5_7 s9_7
    refine then_n ?_
    refine aw_seq ?_
    refine aw_case s10_8 (fun hq_9 => ?_) (fun hq_9 => ?_)
    · (first | replace hq_9 := bnt hq_9 | replace hq_9 := bnf hq_9 | replace hq_9 := bt hq_9 | replace hq_9 := bf hq_9 | replace hq_9 := bt' hq_9 | replace hq_9 := bf' hq_9 | skip)
      first
      | (cases hq_9; done) | (exfalso; omega)
      | (
         refine aw_skip ?_
         refine then_n ?_
         refine aw_seq ?_
         refine aw_block ?_
         refine aw_seq ?_
         refine aw_text (by kernel_rfl) ?_
         refine al_ro' (ro_move s9_8) trivial rfl ?_
         refine al_ro' (ro_assign up_h) trivial rfl ?_
         refine al_end (fun e_10 he_10 => ?_)
         have s1_10 := ef 1 he_10 (u2 rfl s1_8)
         have s2_10 := ef 2 he_10 (u2 rfl s2_8)
         have s4_10 := ef 4 he_10 (u2 rfl s4_8)
         have s5_10 := ef 5 he_10 (u2 rfl s5_8)
         have s6_10 := ef 6 he_10 up_h
         have s9_10 := ef 9 he_10 (u2 rfl s9_8)
         clear he_10 s10_8 s1_8 s2_8 s4_8 s5_8 s9_8
         refine then_n ?_
         refine aw_seq ?_
         refine aw_text (by kernel_rfl) ?_
         refine al_ro' (ro_ld_all h4_ty97 mo0_7 s2_10 (by first | rfl | (rw [flat_map_len (k := 2)] <;> first | omega | (intro _; rfl)))) trivial rfl ?_
         refine al_ro' (ro_move ev_c) trivial rfl ?_
         refine al_end (fun e_11 he_11 => ?_)
         have s1_11 := ef 1 he_11 (u2 rfl s1_10)
         have s2_11 := ef 2 he_11 (u2 rfl s2_10)
         have s4_11 := ef 4 he_11 (u2 rfl s4_10)
         have s5_11 := ef 5 he_11 (u2 rfl s5_10)
         have s6_11 := ef 6 he_11 (u2 rfl s6_10)
         have s9_11 := ef 9 he_11 (u2 rfl s9_10)
         have s12_11 := ef 12 he_11 (up_m rfl up_h)
         have s13_11 := ef 13 he_11 up_h
         clear he_11 s1_10 s2_10 s4_10 s5_10 s6_10 s9_10
         refine then_n ?_
         refine aw_block ?_
         refine aw_loop (S := (Int × List V2)) (fun s e mem => match s with | ⟨n, us⟩ => (evA e (.tmp 13) = .v (.int .i64 n)) ∧ (evA e (.tmp 1) = evA e_11 (.tmp 1)) ∧ (evA e (.tmp 2) = evA e_11 (.tmp 2)) ∧ (evA e (.tmp 4) = evA e_11 (.tmp 4)) ∧ (evA e (.tmp 5) = evA e_11 (.tmp 5)) ∧ (evA e (.tmp 6) = evA e_11 (.tmp 6)) ∧ (evA e (.tmp 9) = evA e_11 (.tmp 9)) ∧ (evA e (.tmp 12) = evA e_11 (.tmp 12)) ∧ (mem[2]? = some (.box 97 (us.map tE).flatten)) ∧ (mem[1]? = m_7[1]?) ∧ (mem[0]? = m_7[0]?) ∧ (∃ n, mem.length = n ∧ n_7 ≤ n) ∧ ((0 ≤ n ∧ n ≤ 6 ∧ us.length = 6 ∧ ∀ j : Nat, j < 6 → us.getD j default = if j = k.toNat then trS xs z k n.toNat else ys.getD j default))) (fun s => match s with | ⟨n, us⟩ => (6 - n).toNat) ⟨_, ys⟩ ⟨s13_11, rfl, rfl, rfl, rfl, rfl, rfl, rfl, mo2_7, rfl, rfl, ⟨_, ml_7, Nat.le_refl _⟩, ?_⟩ ?_
         · (refine ⟨by omega, by omega, p3, fun j hj => ?_⟩; split; (rw [p4 j hj, if_neg (by omega)]; rfl); rfl)
         · rintro ⟨n, us⟩ e_12 m_12 ⟨s13_12, k1_12, k2_12, k4_12, k5_12, k6_12, k9_12, k12_12, mo2_12, mk1_12, mk0_12, ⟨n_12, ml_12, hn_12⟩, hinv⟩
           have s1_12 := k1_12.trans s1_11
           have s2_12 := k2_12.trans s2_11
           have s4_12 := k4_12.trans s4_11
           have s5_12 := k5_12.trans s5_11
           have s6_12 := k6_12.trans s6_11
           have s9_12 := k9_12.trans s9_11
           have s12_12 := k12_12.trans s12_11
           have mo1_12 := mk1_12.trans mo1_7
           have mo0_12 := mk0_12.trans mo0_7
           (obtain ⟨r1, r2, r3, r4⟩ := hinv; have hs0 := r4 k.toNat (by omega); rw [if_pos rfl] at hs0; have hs1 := trS_bd hb z k n.toNat; rw [← hs0] at hs1; have hs2 := hs1.mono (show 1200000 * (n.toNat : Int) ≤ 10000000 by omega); have w1 := mulBd (A := 1) (B := 6) (a := z) (b := k) (by omega) (by omega); have w2 := mulBd (A := 6) (B := 6) (a := z * k) (b := n) (by omega) (by omega))
           refine aw_seq ?_
           refine aw_text (by kernel_rfl) ?_
           refine al_ro' (ro_lss s13_12 ev_c) trivial rfl ?_
           refine al_end (fun e_13 he_13 => ?_)
           have s1_13 := ef 1 he_13 (up_m rfl s1_12)
           have s2_13 := ef 2 he_13 (up_m rfl s2_12)
           have s4_13 := ef 4 he_13 (up_m rfl s4_12)
           have s5_13 := ef 5 he_13 (up_m rfl s5_12)
           have s6_13 := ef 6 he_13 (up_m rfl s6_12)
           have s9_13 := ef 9 he_13 (up_m rfl s9_12)
           have s12_13 := ef 12 he_13 (up_m rfl s12_12)
           have s13_13 := ef 13 he_13 (up_m rfl s13_12)
           have s14_13 := ef 14 he_13 up_h
           clear he_13 s12_12 s13_12 s1_12 s2_12 s4_12 s5_12 s6_12 s9_12
           refine then_n ?_
           refine aw_seq ?_
           refine aw_case s14_13 (fun hq_14 => ?_) (fun hq_14 => ?_)
           · (first | replace hq_14 := bnt hq_14 | replace hq_14 := bnf hq_14 | replace hq_14 := bt hq_14 | replace hq_14 := bf hq_14 | replace hq_14 := bt' hq_14 | replace hq_14 := bf' hq_14 | skip)
             first
             | (cases hq_14; done) | (exfalso; omega)
             | (
                refine aw_skip ?_
                refine then_n ?_
                refine aw_seq ?_
                refine aw_block ?_
                refine aw_seq ?_
                refine aw_text (by kernel_rfl) ?_
                refine al_ro' (ro_move s13_13) trivial rfl ?_
                refine al_ro' (ro_eq (ro_aidx h4_at97 rfl (up_m rfl s12_13) (up_m rfl s13_13) rfl (by rintro l hl; obtain ⟨_, _, rfl⟩ := List.mem_map.1 hl; rfl) (by first | decide | omega | (simp <;> omega)) (by first | omega | (simp only [lnS] <;> omega) | (simp <;> omega)) (by first | (refine idx_map ?_; first | omega | (simp only [lnS]; omega)) | (refine idx_mapI ?_; first | omega | (simp only [lnS]; omega)) | (refine idx_mapN ?_; first | omega | (simp only [lnS]; omega)) | rfl)) (by first | (simp only [packA_t, packA_f, iE, bE, setAt, cellsA, Value.cells, map_vc, map_vn, Nat.reduceAdd, qS, tE, set_tE] <;> rfl) | rfl)) trivial rfl ?_
                refine al_stm (st_alloc h4_az96 rfl ml_12) trivial rfl (fun m_15 hm_15 => ?_)
                have mon_12_15 := m_push hm_15 ml_12
                (try simp only [packA_t, packA_f, iE, bE, setAt, cellsA, Value.cells, map_vc, map_vn, Nat.reduceAdd, qS, tE, set_tE] at mon_12_15)
                have mo2_15 := m_push_o hm_15 mo2_12
                have mo1_15 := m_push_o hm_15 mo1_12
                have mo0_15 := m_push_o hm_15 mo0_12
                have ml_15 := m_push_l hm_15 ml_12
                clear hm_15 mo2_12 mo1_12 mo0_12
                refine al_ro' (ro_assign (u2 rfl up_h)) trivial rfl ?_
                refine al_stm (st_store (up_m rfl up_h) (u2 rfl up_h) rfl rfl mon_12_15 h4_sz96 rfl (by first | exact Nat.le_of_ble_eq_true rfl | omega | (simp only [lnS] <;> omega) | (simp <;> omega))) trivial rfl (fun m_16 hm_16 => ?_)
                have mon_12_16 := m_set hm_16 mon_12_15
                (try simp only [packA_t, packA_f, iE, bE, setAt, cellsA, Value.cells, map_vc, map_vn, Nat.reduceAdd, qS, tE, set_tE] at mon_12_16)
                have mo2_16 := m_set_o hm_16 mo2_15 (by omega)
                have mo1_16 := m_set_o hm_16 mo1_15 (by omega)
                have mo0_16 := m_set_o hm_16 mo0_15 (by omega)
                have ml_16 := m_set_l hm_16 ml_15
                clear hm_16 mon_12_15 mo2_15 mo1_15 mo0_15
                refine al_end (fun e_17 he_17 => ?_)
                have s1_17 := ef 1 he_17 (up_n (u4 rfl s1_13))
                have s2_17 := ef 2 he_17 (up_n (u4 rfl s2_13))
                have s4_17 := ef 4 he_17 (up_n (u4 rfl s4_13))
                have s5_17 := ef 5 he_17 (up_n (u4 rfl s5_13))
                have s6_17 := ef 6 he_17 (up_n (u4 rfl s6_13))
                have s7_17 := ef 7 he_17 (up_n up_h)
                have s8_17 := ef 8 he_17 (up_n (up_m rfl up_h))
                have s9_17 := ef 9 he_17 (up_n (u4 rfl s9_13))
                have s12_17 := ef 12 he_17 (up_n (u4 rfl s12_13))
                have s13_17 := ef 13 he_17 (up_n (u4 rfl s13_13))
                clear he_17 s12_13 s13_13 s14_13 s1_13 s2_13 s4_13 s5_13 s6_13 s9_13
                refine then_n ?_
                refine aw_draw 13 (by kernel_rfl) (by kernel_rfl) (by kernel_rfl) (by kernel_rfl) ?_
                refine ds_ro' (ro_move s6_17) trivial rfl ?_
                refine ds_ro' (ro_move (up_m rfl s6_17)) trivial rfl ?_
                refine ds_ro' (ro_ixaD h4_ar97 (u2 rfl s5_17) up_h (by first | decide | omega | (simp <;> omega)) (by first | omega | (simp only [lnS] <;> omega) | (simp <;> omega))) trivial rfl ?_
                refine ds_ro' (ro_eq (ro_ld_ael h4_ty96 rfl mo2_16 up_h rfl (by rintro l hl; obtain ⟨_, _, rfl⟩ := List.mem_map.1 hl; rfl) rfl (by first | (refine idx_map ?_; first | omega | (simp only [lnS]; omega)) | (refine idx_mapI ?_; first | omega | (simp only [lnS]; omega)) | (refine idx_mapN ?_; first | omega | (simp only [lnS]; omega)) | rfl)) (by first | (simp only [packA_t, packA_f, iE, bE, setAt, cellsA, Value.cells, map_vc, map_vn, Nat.reduceAdd, qS, tE, set_tE] <;> rfl) | rfl)) trivial rfl ?_
                refine ds_ro' (ro_eq (ro_ld_ptr h4_ty96 rfl mon_12_16 (u4 rfl s8_17) (by first | exact Nat.le_of_ble_eq_true rfl | omega | (simp only [lnS] <;> omega) | (simp <;> omega))) (by first | (simp only [packA_t, packA_f, iE, bE, setAt, cellsA, Value.cells, map_vc, map_vn, Nat.reduceAdd, qS, tE, set_tE] <;> rfl) | rfl)) trivial rfl ?_
                refine ds_ro' (ro_move (up_m rfl (u4 rfl s1_17))) trivial rfl ?_
                refine ds_ro' (ro_move (u2 rfl (u4 rfl s6_17))) trivial rfl ?_
                first | (refine ds_ro' (ro_mul' (up_m rfl up_h) up_h ?_) trivial rfl ?_; · (unfold In64; omega)) | refine ds_ro' (ro_mul (up_m rfl up_h) up_h) trivial rfl ?_
                refine ds_ro' (ro_move (u8 rfl s7_17)) trivial rfl ?_
                first | (refine ds_ro' (ro_mul' (up_m rfl up_h) up_h ?_) trivial rfl ?_; · (unfold In64; omega)) | refine ds_ro' (ro_mul (up_m rfl up_h) up_h) trivial rfl ?_
                refine ds_ro' (ro_call (evL_cons (up_m rfl (u4 rfl up_h)) (evL_cons up_h evL_nil)) (by first | rfl | (simp only [roO.roL, roO, Bool.and_true, Bool.true_and]; (apply roL_flat; intro _; rfl))) (turned_ok _ _ ((Bd.getD hb (by decide) _).mono (by decide))) h4_hcf71) trivial rfl ?_
                refine ds_ro' (ro_call (evL_cons (up_m rfl (u2 rfl (u4 rfl up_h))) (evL_cons up_h evL_nil)) (by first | rfl | (simp only [roO.roL, roO, Bool.and_true, Bool.true_and]; (apply roL_flat; intro _; rfl))) (plus_ok _ _ (hs1.mono (by omega)) ((turnV_bd (Bd.getD hb (by decide) _) _).mono (by decide))) h4_hcf60) trivial rfl ?_
                refine ds_ro' (ro_ixaD h4_ar97 (u4 rfl (u8 rfl s5_17)) (up_m rfl (u2 rfl (u8 rfl up_h))) (by first | decide | omega | (simp <;> omega)) (by first | omega | (simp only [lnS] <;> omega) | (simp <;> omega))) trivial rfl ?_
                refine ds_nil ?_
                refine al_stm (st_store_ael up_h (up_m rfl up_h) rfl rfl mo2_16 rfl (by rintro l hl; obtain ⟨_, _, rfl⟩ := List.mem_map.1 hl; rfl) h4_sz96 rfl rfl (by first | omega | (simp only [lnS] <;> omega) | (simp <;> omega))) trivial rfl (fun m_18 hm_18 => ?_)
                have mo2_18 := m_set hm_18 mo2_16
                (try simp only [packA_t, packA_f, iE, bE, setAt, cellsA, Value.cells, map_vc, map_vn, Nat.reduceAdd, qS, tE, set_tE] at mo2_18)
                have mon_12_18 := m_set_o hm_18 mon_12_16 (by omega)
                have mo1_18 := m_set_o hm_18 mo1_16 (by decide)
                have mo0_18 := m_set_o hm_18 mo0_16 (by decide)
                have ml_18 := m_set_l hm_18 ml_16
                clear hm_18 mon_12_16 mo2_16 mo1_16 mo0_16
                refine al_end (fun e_19 he_19 => ?_)
                have s1_19 := ef 1 he_19 (up_n (up_m rfl (u4 rfl (u8 rfl s1_17))))
                have s2_19 := ef 2 he_19 (up_n (up_m rfl (u4 rfl (u8 rfl s2_17))))
                have s4_19 := ef 4 he_19 (up_n (up_m rfl (u4 rfl (u8 rfl s4_17))))
                have s5_19 := ef 5 he_19 (up_n (up_m rfl (u4 rfl (u8 rfl s5_17))))
                have s6_19 := ef 6 he_19 (up_n (up_m rfl (u4 rfl (u8 rfl s6_17))))
                have s9_19 := ef 9 he_19 (up_n (up_m rfl (u4 rfl (u8 rfl s9_17))))
                have s12_19 := ef 12 he_19 (up_n (up_m rfl (u4 rfl (u8 rfl s12_17))))
                have s13_19 := ef 13 he_19 (up_n (up_m rfl (u4 rfl (u8 rfl s13_17))))
                clear he_19 s12_17 s13_17 s1_17 s2_17 s4_17 s5_17 s6_17 s7_17 s8_17 s9_17
                refine block_n ?_
                refine then_n ?_
                refine aw_text (by kernel_rfl) ?_
                first | (refine al_ro' (ro_add' s13_19 ev_c ?_) trivial rfl ?_; · (unfold In64; omega)) | refine al_ro' (ro_add s13_19 ev_c) trivial rfl ?_
                refine al_ro' (ro_move up_h) trivial rfl ?_
                refine al_end (fun e_20 he_20 => ?_)
                have s1_20 := ef 1 he_20 (u2 rfl s1_19)
                have s2_20 := ef 2 he_20 (u2 rfl s2_19)
                have s4_20 := ef 4 he_20 (u2 rfl s4_19)
                have s5_20 := ef 5 he_20 (u2 rfl s5_19)
                have s6_20 := ef 6 he_20 (u2 rfl s6_19)
                have s9_20 := ef 9 he_20 (u2 rfl s9_19)
                have s12_20 := ef 12 he_20 (u2 rfl s12_19)
                have s13_20 := ef 13 he_20 up_h
                clear he_20 s12_19 s13_19 s1_19 s2_19 s4_19 s5_19 s6_19 s9_19
                refine then_n ?_
                refine ⟨⟨_, _⟩, ⟨s13_20, (s1_20.trans s1_11.symm), (s2_20.trans s2_11.symm), (s4_20.trans s4_11.symm), (s5_20.trans s5_11.symm), (s6_20.trans s6_11.symm), (s9_20.trans s9_11.symm), (s12_20.trans s12_11.symm), mo2_18, (mo1_18.trans mo1_7.symm), (mo0_18.trans mo0_7.symm), ⟨_, ml_18, by omega⟩, ?_⟩, ?_⟩
                · (refine ⟨by omega, by omega, by simp [r3], fun j hj => ?_⟩; rw [getD_setV (by omega)]; by_cases hjk : j = k.toNat; (rw [if_pos hjk, if_pos hjk, hs0, show (n + 1).toNat = n.toNat + 1 by omega]; simp only [trS]; rw [Int.toNat_of_nonneg r1]); (rw [if_neg hjk, if_neg hjk, r4 j hj, if_neg hjk]))
                · ((try dsimp only); omega))
           · (first | replace hq_14 := bnt hq_14 | replace hq_14 := bnf hq_14 | replace hq_14 := bt hq_14 | replace hq_14 := bf hq_14 | replace hq_14 := bt' hq_14 | replace hq_14 := bf' hq_14 | skip)
             first
             | (cases hq_14; done) | (exfalso; omega)
             | (
                refine aw_exit ?_
                refine then_x ?_
                refine then_x ?_
                refine block_hit ?_
                refine block_n ?_
                refine then_n ?_
                refine aw_text (by kernel_rfl) ?_
                first | (refine al_ro' (ro_add' s9_13 ev_c ?_) trivial rfl ?_; · (unfold In64; omega)) | refine al_ro' (ro_add s9_13 ev_c) trivial rfl ?_
                refine al_ro' (ro_move up_h) trivial rfl ?_
                refine al_end (fun e_21 he_21 => ?_)
                have s1_21 := ef 1 he_21 (u2 rfl s1_13)
                have s2_21 := ef 2 he_21 (u2 rfl s2_13)
                have s4_21 := ef 4 he_21 (u2 rfl s4_13)
                have s5_21 := ef 5 he_21 (u2 rfl s5_13)
                have s9_21 := ef 9 he_21 up_h
                clear he_21 s12_13 s13_13 s14_13 s1_13 s2_13 s4_13 s5_13 s6_13 s9_13
                refine then_n ?_
                refine ⟨⟨_, _⟩, ⟨s9_21, (s1_21.trans s1_6.symm), (s2_21.trans s2_6.symm), (s4_21.trans s4_6.symm), (s5_21.trans s5_6.symm), mo2_12, (mo1_12.trans mo1_4.symm), (mo0_12.trans mo0_4.symm), ⟨_, ml_12, by omega⟩, ?_⟩, ?_⟩
                · (refine ⟨by omega, by omega, r3, fun j hj => ?_⟩; rw [r4 j hj]; by_cases hjk : j = k.toNat; (rw [if_pos hjk, if_pos (by omega), show n.toNat = 6 by omega, show (j : Int) = k by omega]); (rw [if_neg hjk, p4 j hj]; by_cases hjl : j < k.toNat; (rw [if_pos hjl, if_pos (by omega)]); (rw [if_neg hjl, if_neg (by omega)])))
                · ((try dsimp only); omega)))
    · (first | replace hq_9 := bnt hq_9 | replace hq_9 := bnf hq_9 | replace hq_9 := bt hq_9 | replace hq_9 := bf hq_9 | replace hq_9 := bt' hq_9 | replace hq_9 := bf' hq_9 | skip)
      first
      | (cases hq_9; done) | (exfalso; omega)
      | (
         refine aw_exit ?_
         refine then_x ?_
         refine then_x ?_
         refine block_hit ?_
         refine then_n ?_
         refine aw_seq ?_
         refine aw_text (by kernel_rfl) ?_
         refine al_ro' (ro_ld_all h4_ty97 mo2_7 s5_8 (by first | rfl | (rw [flat_map_len (k := 2)] <;> first | omega | (intro _; rfl)))) trivial rfl ?_
         refine al_stm (st_store_all (up_m rfl s4_8) up_h rfl (by first | rfl | (apply oneL_flat; intro _; rfl)) mo1_7 h4_sz97 (by first | rfl | (rw [flat_map_len (k := 2)] <;> first | omega | (intro _; rfl))) (by first | rfl | (rw [flat_map_len (k := 2)] <;> first | omega | (intro _; rfl)))) trivial rfl (fun m_22 hm_22 => ?_)
         have mo1_22 := m_set hm_22 mo1_7
         (try simp only [packA_t, packA_f, iE, bE, setAt, cellsA, Value.cells, map_vc, map_vn, Nat.reduceAdd, qS, tE, set_tE] at mo1_22)
         have mo2_22 := m_set_o hm_22 mo2_7 (by decide)
         have mo0_22 := m_set_o hm_22 mo0_7 (by decide)
         have ml_22 := m_set_l hm_22 ml_7
         clear hm_22 mo2_7 mo1_7 mo0_7
         refine al_end (fun e_23 he_23 => ?_)
         have s4_23 := ef 4 he_23 (up_n (up_m rfl s4_8))
         clear he_23 s10_8 s1_8 s2_8 s4_8 s5_8 s9_8
         refine then_n ?_
         refine aw_ret ?_
         refine ret1 (.inr rfl) (by kernel_rfl) (resV_cell s4_23 mo1_22 h4_ty97 (by first | exact Nat.le_of_ble_eq_true rfl | (rw [flat_map_len (k := 2)] <;> first | omega | (intro _; rfl))) (by simp)) (vw_r (.ro _ (by first | rfl | (apply ro_aggF; intro _; rfl) | (apply roL_flat; intro _; rfl)))) ?_
         clear s4_23 mo1_22 mo2_22 mo0_22 ml_22
         (rw [take_flat_all (k := 2) (fun _ => rfl) (by omega), list_ext' (xs := ys) (ys := trW xs z) (by rw [trW_len, p3]) (fun j hj => by rw [p4 j (by omega), if_pos (by omega), trW_at _ _ (by omega)])]))
end Go.Proofs.YtgiiedpambimoaaDoor

