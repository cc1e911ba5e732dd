/- Texts of this claim, one behind the other: lemmas for the statement. -/
import Derived.Test.YtonjcljnpcmenaaM9
/- The law of chapter 1 on limits. No conditions on a program. -/
namespace Go.Proofs.Ytonjcljnpcmenaa
open Go Go.RowKit Go.Proofs
set_option linter.unusedSimpArgs false
set_option linter.unusedVariables false
end Go.Proofs.Ytonjcljnpcmenaa

/- The law of chapter 1 on what bend and cant permit. No conditions on a program. -/
namespace Go.Proofs.Ytonjcljnpcmenaa
open Go Go.RowKit Go.Proofs
set_option linter.unusedSimpArgs false
set_option linter.unusedVariables false
theorem y57_az145 : (Try.prog.info? 145).bind (·.zero) = some (.agg #[.int .i64 0, .slice none 0 0]) := by kernel_rfl
theorem y57_az87 : (Try.prog.info? 87).bind (·.zero) = some (.agg #[.int .i64 0, .int .i64 0]) := by kernel_rfl
theorem y57_fl26_1 : FldIs Try.prog 26 1 1 false 1 := by unfold FldIs; kernel_rfl
theorem y57_fl26_2 : FldIs Try.prog 26 2 2 false 1 := by unfold FldIs; kernel_rfl
theorem y57_fl70_0 : FldIs Try.prog 70 0 0 false 1 := by unfold FldIs; kernel_rfl
theorem y57_fl87_0 : FldIs Try.prog 87 0 0 false 1 := by unfold FldIs; kernel_rfl
theorem y57_fl87_1 : FldIs Try.prog 87 1 1 false 1 := by unfold FldIs; kernel_rfl
theorem y57_hcf12 : ∀ args w, (callFunc 12 args).run Try.prog w = .ok (.enter 12 args) w := fun _ _ => by kernel_rfl
theorem y57_hcf13 : ∀ args w, (callFunc 13 args).run Try.prog w = .ok (.enter 13 args) w := fun _ _ => by kernel_rfl
theorem y57_hcf14 : ∀ args w, (callFunc 14 args).run Try.prog w = .ok (.enter 14 args) w := fun _ _ => by kernel_rfl
theorem y57_hcf18 : ∀ args w, (callFunc 18 args).run Try.prog w = .ok (.enter 18 args) w := fun _ _ => by kernel_rfl
theorem y57_hcf24 : ∀ args w, (callFunc 24 args).run Try.prog w = .ok (.enter 24 args) w := fun _ _ => by kernel_rfl
theorem y57_hcf25 : ∀ args w, (callFunc 25 args).run Try.prog w = .ok (.enter 25 args) w := fun _ _ => by kernel_rfl
theorem y57_hcf30 : ∀ args w, (callFunc 30 args).run Try.prog w = .ok (.enter 30 args) w := fun _ _ => by kernel_rfl
theorem y57_hcf31 : ∀ args w, (callFunc 31 args).run Try.prog w = .ok (.enter 31 args) w := fun _ _ => by kernel_rfl
theorem y57_hcf87 : ∀ args w, (callFunc 87 args).run Try.prog w = .ok (.enter 87 args) w := fun _ _ => by kernel_rfl
theorem y57_hcf88 : ∀ args w, (callFunc 88 args).run Try.prog w = .ok (.enter 88 args) w := fun _ _ => by kernel_rfl
theorem y57_hcf91 : ∀ args w, (callFunc 91 args).run Try.prog w = .ok (.enter 91 args) w := fun _ _ => by kernel_rfl
theorem y57_hcf92 : ∀ args w, (callFunc 92 args).run Try.prog w = .ok (.enter 92 args) w := fun _ _ => by kernel_rfl
theorem y57_sl22 : SlIs Try.prog 22 70 4 32 (.agg #[.int .i64 0, .int .i64 0, .int .i64 0, .int .i64 0]) := ⟨by kernel_rfl, by kernel_rfl, by kernel_rfl⟩
theorem y57_sl23 : SlIs Try.prog 23 87 2 16 (.agg #[.int .i64 0, .int .i64 0]) := ⟨by kernel_rfl, by kernel_rfl, by kernel_rfl⟩
theorem y57_sl49 : SlIs Try.prog 49 3 1 8 (.int .i64 0) := ⟨by kernel_rfl, by kernel_rfl, by kernel_rfl⟩
theorem y57_sz145 : (Try.prog.info? 145).map (·.size) = some 2 := by kernel_rfl
theorem y57_sz87 : (Try.prog.info? 87).map (·.size) = some 2 := by kernel_rfl
theorem y57_ty145 : TyIs Try.prog 145 true 2 := ⟨by kernel_rfl, by kernel_rfl⟩
theorem y57_ty22 : TyIs Try.prog 22 false 1 := ⟨by kernel_rfl, by kernel_rfl⟩
theorem y57_ty23 : TyIs Try.prog 23 false 1 := ⟨by kernel_rfl, by kernel_rfl⟩
theorem y57_ty26 : TyIs Try.prog 26 true 4 := ⟨by kernel_rfl, by kernel_rfl⟩
theorem y57_ty3 : TyIs Try.prog 3 false 1 := ⟨by kernel_rfl, by kernel_rfl⟩
theorem y57_ty87 : TyIs Try.prog 87 true 2 := ⟨by kernel_rfl, by kernel_rfl⟩

/-- What bend and cant hold, times both lengths. -/
def upV (l : Lin) (sd : Int) (j : Nat) : Int := helV l sd j * (benD l j * ((l.bs.getD (j - 1) default).len + (l.bs.getD j default).len))
def holB (l : Lin) (sd : Int) (j : Nat) (q : Int) : Bool := decide (benN l j = 0 ∨ q * (4000 * ((benN l j).natAbs : Int)) ≤ upV l sd j)
theorem limV_up (l : Lin) (sd : Int) (j : Nat) : limV l sd j = if benN l j = 0 then 20000000000 else if helV l sd j < 0 then 0 else min (upV l sd j / (4000 * ((benN l j).natAbs : Int))) 20000000000 := by
  unfold limV limU upV
  rw [show (2 : Int) * 2000 = 4000 by decide, show max (benN l j) (-benN l j) = ((benN l j).natAbs : Int) by omega, Int.mul_comm (benD l j), ← Int.mul_assoc]
theorem mid_pos {l : Lin} (h : Rgt l) {j : Nat} (hj : 1 ≤ j ∧ j + 2 ≤ l.js.length) : 0 < benD l j * ((l.bs.getD (j - 1) default).len + (l.bs.getD j default).len) := by
  have hjs := h.js
  have b1 := h.bea (j - 1) (by omega)
  have b2 := h.bea j (by omega)
  obtain ⟨_, e2, _⟩ := ben_bd h hj
  exact Int.mul_pos (by omega) (by omega)
theorem up_sign {l : Lin} (h : Rgt l) {j : Nat} (hj : 1 ≤ j ∧ j + 2 ≤ l.js.length) {sd : Int} : (0 ≤ helV l sd j → 0 ≤ upV l sd j) ∧ (helV l sd j < 0 → upV l sd j < 0) :=
  ⟨fun h1 => Int.mul_nonneg h1 (Int.le_of_lt (mid_pos h hj)), fun h1 => Int.mul_neg_of_neg_of_pos h1 (mid_pos h hj)⟩
theorem lim_within {l : Lin} (h : Rgt l) {j : Nat} (hj : 1 ≤ j ∧ j + 2 ≤ l.js.length) {sd : Int} : 0 ≤ limV l sd j ∧ limV l sd j ≤ 20000000000 := by
  rw [limV_up]
  split
  · omega
  · split
    · omega
    · have := Int.ediv_nonneg ((up_sign h hj (sd := sd)).1 (by omega)) (show 0 ≤ 4000 * ((benN l j).natAbs : Int) by omega)
      omega
theorem lim_holds {l : Lin} (h : Rgt l) {j : Nat} (hj : 1 ≤ j ∧ j + 2 ≤ l.js.length) {sd : Int} : holB l sd j (limV l sd j) = true ∨ limV l sd j ≤ 0 := by
  unfold holB
  rw [limV_up]
  by_cases h0 : benN l j = 0
  · left; rw [decide_eq_true (.inl h0)]
  · rw [if_neg h0]
    by_cases h1 : helV l sd j < 0
    · rw [if_pos h1]; right; exact Int.le_refl _
    · rw [if_neg h1]; left
      refine decide_eq_true (.inr ?_)
      have hu := (up_sign h hj (sd := sd)).1 (by omega)
      have hd : 0 < 4000 * ((benN l j).natAbs : Int) := by omega
      have h2 := Int.ediv_mul_le (upV l sd j) (show 4000 * ((benN l j).natAbs : Int) ≠ 0 by omega)
      exact Int.le_trans (Int.mul_le_mul_of_nonneg_right (Int.min_le_left _ _) (Int.le_of_lt hd)) h2
theorem lim_more {l : Lin} (h : Rgt l) {j : Nat} (hj : 1 ≤ j ∧ j + 2 ≤ l.js.length) {sd : Int} : holB l sd j (limV l sd j + 1) = false ∨ 20000000000 ≤ limV l sd j := by
  unfold holB
  rw [limV_up]
  by_cases h0 : benN l j = 0
  · right; rw [if_pos h0]; exact Int.le_refl _
  · rw [if_neg h0]
    have hd : 0 < 4000 * ((benN l j).natAbs : Int) := by omega
    by_cases h1 : helV l sd j < 0
    · rw [if_pos h1]; left
      refine decide_eq_false ?_
      have := (up_sign h hj (sd := sd)).2 h1
      rintro (h2 | h2)
      · exact h0 h2
      · omega
    · rw [if_neg h1]
      by_cases h3 : 20000000000 ≤ upV l sd j / (4000 * ((benN l j).natAbs : Int))
      · right; omega
      · left
        refine decide_eq_false ?_
        rw [Int.min_eq_left (by omega)]
        rintro (h2 | h2)
        · exact h0 h2
        · have := (Int.le_ediv_iff_mul_le hd).2 h2
          omega
theorem lim_mono {l : Lin} (h : Rgt l) {j : Nat} (hj : 1 ≤ j ∧ j + 2 ≤ l.js.length) {a b : Int} (hab : a ≤ b) : limV l a j ≤ limV l b j := by
  rw [limV_up, limV_up]
  by_cases h0 : benN l j = 0
  · rw [if_pos h0, if_pos h0]; exact Int.le_refl _
  · rw [if_neg h0, if_neg h0]
    have hh : helV l a j ≤ helV l b j := by unfold helV; omega
    have hu : upV l a j ≤ upV l b j := Int.mul_le_mul_of_nonneg_right hh (Int.le_of_lt (mid_pos h hj))
    have hd : 0 < 4000 * ((benN l j).natAbs : Int) := by omega
    have he := Int.ediv_le_ediv hd hu
    by_cases h1 : helV l a j < 0
    · rw [if_pos h1]
      split
      · omega
      · have := Int.ediv_nonneg ((up_sign h hj (sd := b)).1 (by omega)) (Int.le_of_lt hd)
        omega
    · rw [if_neg h1, if_neg (by omega)]
      omega
set_option maxRecDepth 100000 in
set_option maxHeartbeats 4000000 in
theorem holds_ok (l : Lin) (h : Rgt l) (sd : Int) (hs : 0 ≤ sd ∧ sd ≤ 5000) (j : Nat) (hj : 1 ≤ j ∧ j + 2 ≤ l.js.length) (q : Int) (hq : 0 ≤ q ∧ q ≤ 20000000001) : FnOk Try.prog 31 [lnA l, mA sd, mA j, mA q] (fun r => r = tbA (holB l sd j q)) := by
  refine fnOk_of (fn := Try.f31) 102 (by kernel_rfl) rfl (by kernel_rfl) (Nat.le_of_ble_eq_true rfl) ?_
  intro e_0 m_0 hA hm_0
  have s0_0 : evA e_0 (.tmp 0) = _ := hA 0 _ rfl
  have s1_0 : evA e_0 (.tmp 1) = _ := hA 1 _ rfl
  have s2_0 : evA e_0 (.tmp 2) = _ := hA 2 _ rfl
  have s3_0 : evA e_0 (.tmp 3) = _ := hA 3 _ rfl
  have ml_0 : m_0.length = 0 := by rw [hm_0]; rfl
  clear hA hm_0
  have hn1 := h.n1; have hn0 := h.n0; have hjs := h.js; have j1 := h.jnt (j - 1) (by omega); have j2 := h.jnt j (by omega); have j3 := h.jnt (j + 1) (by omega); have b1 := h.bea (j - 1) (by omega); have b2 := h.bea j (by omega); obtain ⟨e1, e2, e3⟩ := ben_bd h hj; obtain ⟨e4, e5⟩ := hel_bd h hj hs; unfold helV at e5; have m1 := mul_in (x := (l.js.getD (j + 1) default).acr - (l.js.getD j default).acr) (y := (l.bs.getD (j - 1) default).len) 40000 30000 (by omega) (by omega); have m2 := mul_in (x := (l.js.getD j default).acr - (l.js.getD (j - 1) default).acr) (y := (l.bs.getD j default).len) 40000 30000 (by omega) (by omega); have m3 := mul_in (x := benD l j) (y := ((l.bs.getD (j - 1) default).len + (l.bs.getD j default).len)) 900000000 60000 (by omega) (by omega); have hbd : (l.bs.getD (j - 1) default).len * (l.bs.getD j default).len = benD l j := rfl; have m4 : ((l.bs.getD (j - 1) default).len * (l.bs.getD j default).len).natAbs ≤ 900000000 := (by rw [hbd]; omega); have m5 : ((l.bs.getD (j - 1) default).len * (l.bs.getD j default).len * ((l.bs.getD (j - 1) default).len + (l.bs.getD j default).len)).natAbs ≤ 54000000000000 := (by rw [hbd]; omega)
  refine aw_seq <| at_ <| al_stm (st_box s0_0 rfl ml_0) trivial rfl (fun m_1 hm_1 => ?_)
  have mo0_1 := m_push hm_1 ml_0
  have ml_1 := m_push_l hm_1 ml_0
  have ml_1 : _ = 1 := ml_1
  clear hm_1
  refine ar (ro_assign ev_c) rfl <| ae4 (u2 rfl s1_0) (u2 rfl s2_0) (u2 rfl s3_0) (up_m rfl up_h) ?_; clear s0_0 s1_0 s2_0 s3_0; intro e_2 s1_2 s2_2 s3_2 s4_2
  refine then_n <| aw_seq <| aw_drawK 14 2 ml_1 (by kernel_rfl) (by kernel_rfl) (by kernel_rfl) (by kernel_rfl) (fun m_3 hm_3 => ?_)
  have mo0_3 := m_room_o hm_3 mo0_1
  have mo1_3 : m_3[1]? = _ := m_room_g hm_3 ml_1 0 rfl rfl
  have mo2_3 : m_3[2]? = _ := m_room_g hm_3 ml_1 1 rfl rfl
  have ml_3 : _ = 3 := m_room_l (K := 2) hm_3 ml_1
  clear hm_3 mo0_1 ml_1
  refine dh_ro (fun M_ hM_ => (ro_fld_ptr y57_fl26_2 rfl s4_2)) trivial ?_
  refine dh_ld (0) (fun M_ hM_ => (ro_eq (ro_ld_ptr y57_ty23 rfl (agr hM_ mo0_3 (by simp)) up_h (nle rfl)) (by simp only [pS, Value.cells, Nat.reduceAdd, jnE, beE, Int.toNat_natCast, toNat_suc, toNat_pre] <;> rfl))) trivial trivial ?_
  refine dh_ro (fun M_ hM_ => (ro_move (u2 rfl s2_2))) trivial ?_
  (refine dh_ro (fun M_ hM_ => (ro_sub' up_h ev_c ?_)) trivial ?_; · (unfold In64; omega))
  refine dh_ro (fun M_ hM_ => (ro_eq (ro_ix y57_sl23 (u2 rfl up_h) up_h (by omega) (by first | (refine idx_map ?_; first | omega | (simp only [lnS]; omega)) | (refine idx_mapI ?_; first | omega | (simp only [lnS]; omega)) | (refine idx_mapN ?_; first | omega | (simp only [lnS]; omega)) | rfl)) (by simp only [pS, Value.cells, Nat.reduceAdd, jnE, beE, Int.toNat_natCast, toNat_suc, toNat_pre] <;> rfl))) trivial ?_
  refine dh_ro (fun M_ hM_ => (ro_eq (ro_ld_ref y57_ty87 rfl up_h (nle rfl)) (by simp only [pS, Value.cells, Nat.reduceAdd, jnE, beE, Int.toNat_natCast, toNat_suc, toNat_pre] <;> rfl))) trivial ?_
  refine dh_ro (fun M_ hM_ => (ro_fld_ptr y57_fl26_2 rfl (u2 rfl (u4 rfl s4_2)))) trivial ?_
  refine dh_ld (0) (fun M_ hM_ => (ro_eq (ro_ld_ptr y57_ty23 rfl (agr hM_ mo0_3 (by simp)) up_h (nle rfl)) (by simp only [pS, Value.cells, Nat.reduceAdd, jnE, beE, Int.toNat_natCast, toNat_suc, toNat_pre] <;> rfl))) trivial trivial ?_
  refine dh_ro (fun M_ hM_ => (ro_move (u8 rfl s2_2))) trivial ?_
  refine dh_ro (fun M_ hM_ => (ro_eq (ro_ix y57_sl23 (up_m rfl up_h) up_h (by omega) (by first | (refine idx_map ?_; first | omega | (simp only [lnS]; omega)) | (refine idx_mapI ?_; first | omega | (simp only [lnS]; omega)) | (refine idx_mapN ?_; first | omega | (simp only [lnS]; omega)) | rfl)) (by simp only [pS, Value.cells, Nat.reduceAdd, jnE, beE, Int.toNat_natCast, toNat_suc, toNat_pre] <;> rfl))) trivial ?_
  refine dh_ro (fun M_ hM_ => (ro_eq (ro_ld_ref y57_ty87 rfl up_h (nle rfl)) (by simp only [pS, Value.cells, Nat.reduceAdd, jnE, beE, Int.toNat_natCast, toNat_suc, toNat_pre] <;> rfl))) trivial ?_
  refine dh_nw (1) (fun M_ hM_ => (nw_alloc y57_az87 rfl)) trivial mo1_3 rfl trivial ⟨.inl (by simp <;> omega), ⟨.inl (by simp <;> omega), trivial⟩⟩ (fun m_4 hm_4 => ?_)
  have mo1_4 := m_set hm_4 mo1_3
  simp only [pS, Value.cells, Nat.reduceAdd, jnE, beE, Int.toNat_natCast, toNat_suc, toNat_pre] at mo1_4
  have mo0_4 := m_set_o hm_4 mo0_3 (by decide)
  have mo2_4 := m_set_o hm_4 mo2_3 (by decide)
  have ml_4 := m_set_l hm_4 ml_3
  clear hm_4 mo0_3 mo1_3 mo2_3
  refine dh_nw (2) (fun M_ hM_ => (nw_alloc y57_az87 rfl)) trivial mo2_4 rfl ⟨.inl (by simp <;> omega), trivial⟩ ⟨.inl (by simp <;> omega), ⟨.inl (by simp <;> omega), ⟨.inl (by simp <;> omega), trivial⟩⟩⟩ (fun m_5 hm_5 => ?_)
  have mo2_5 := m_set hm_5 mo2_4
  simp only [pS, Value.cells, Nat.reduceAdd, jnE, beE, Int.toNat_natCast, toNat_suc, toNat_pre] at mo2_5
  have mo1_5 := m_set_o hm_5 mo1_4 (by decide)
  have mo0_5 := m_set_o hm_5 mo0_4 (by decide)
  have ml_5 := m_set_l hm_5 ml_4
  clear hm_5 mo1_4 mo0_4 mo2_4
  refine dh_set (1) (fun M_ hM_ => (se_store (up_m rfl up_h) (up_m rfl (u2 rfl (u4 rfl up_h))) rfl rfl (agr hM_ mo1_5 (by simp)) y57_sz87 rfl (nle rfl))) trivial ⟨.inr (wt_one 13 11 (by kernel_rfl)), ⟨.inl (by simp <;> omega), trivial⟩⟩ ⟨.inl (by simp <;> omega), ⟨.inl (by simp <;> omega), ⟨.inr (wt_one 13 11 (by kernel_rfl)), ⟨.inl (by simp <;> omega), trivial⟩⟩⟩⟩ (fun m_6 hm_6 => ?_)
  have mo1_6 := m_set hm_6 mo1_5
  simp only [pS, Value.cells, Nat.reduceAdd, jnE, beE, Int.toNat_natCast, toNat_suc, toNat_pre] at mo1_6
  have mo2_6 := m_set_o hm_6 mo2_5 (by decide)
  have mo0_6 := m_set_o hm_6 mo0_5 (by decide)
  have ml_6 := m_set_l hm_6 ml_5
  clear hm_6 mo2_5 mo1_5 mo0_5
  refine dh_nil rfl ?_
  refine al_stm (st_store (up_n up_h) (up_n (u2 rfl up_h)) rfl rfl mo2_6 y57_sz87 rfl (nle rfl)) trivial rfl (fun m_7 hm_7 => ?_)
  have mo2_7 := m_set hm_7 mo2_6
  simp only [pS, Value.cells, Nat.reduceAdd, jnE, beE, Int.toNat_natCast, toNat_suc, toNat_pre] at mo2_7
  have mo1_7 := m_set_o hm_7 mo1_6 (by decide)
  have mo0_7 := m_set_o hm_7 mo0_6 (by decide)
  have ml_7 := m_set_l hm_7 ml_6
  clear hm_7 mo1_6 mo2_6 mo0_6
  refine ae6 (up_n (up_n (up_m rfl (u4 rfl (u8 rfl s1_2))))) (up_n (up_n (up_m rfl (u4 rfl (u8 rfl s2_2))))) (up_n (up_n (up_m rfl (u4 rfl (u8 rfl s3_2))))) (up_n (up_n (up_m rfl (u4 rfl (u8 rfl s4_2))))) (up_n (up_n (up_m rfl up_h))) (up_n (up_n up_h)) ?_; clear s1_2 s2_2 s3_2 s4_2; intro e_8 s1_8 s2_8 s3_8 s4_8 s9_8 s10_8
  refine then_n <| aw_seq <| aw_cut (fun e mem => (evA e (.tmp 11) = .v (.int .i64 (benN l j))) ∧ (evA e (.tmp 1) = evA e_8 (.tmp 1)) ∧ (evA e (.tmp 3) = evA e_8 (.tmp 3)) ∧ (evA e (.tmp 9) = evA e_8 (.tmp 9)) ∧ (evA e (.tmp 10) = evA e_8 (.tmp 10)) ∧ m_7 = mem) ?_ ?_
  ·
    refine aw_draw 36 (by kernel_rfl) (by kernel_rfl) (by kernel_rfl) (by kernel_rfl) ?_
    refine dr (ro_fld_ptr y57_fl26_1 rfl s4_8) rfl <| dr (ro_eq (ro_ld_ptr y57_ty22 rfl mo0_7 up_h (nle rfl)) (by simp only [pS, Value.cells, Nat.reduceAdd, jnE, beE, Int.toNat_natCast, toNat_suc, toNat_pre] <;> rfl)) rfl ?_
    refine dr (ro_move (u2 rfl s2_8)) rfl ?_
    (refine dr (ro_add' up_h ev_c ?_) rfl ?_; · (unfold In64; omega))
    refine dr (ro_eq (ro_ix y57_sl22 (u2 rfl up_h) up_h (by omega) (by refine idx_map ?_; first | omega | (simp only [lnS]; omega))) (by simp only [pS, Value.cells, Nat.reduceAdd, jnE, beE, Int.toNat_natCast, toNat_suc, toNat_pre] <;> rfl)) rfl ?_
    refine dr (ro_eq (ro_fld_ref y57_fl70_0 rfl up_h) (by simp only [pS, Value.cells, Nat.reduceAdd, jnE, beE, Int.toNat_natCast, toNat_suc, toNat_pre] <;> rfl)) rfl ?_
    refine dr (ro_eq (ro_ld_ref y57_ty3 rfl up_h (nle rfl)) (by simp only [pS, Value.cells, Nat.reduceAdd, jnE, beE, Int.toNat_natCast, toNat_suc, toNat_pre] <;> rfl)) rfl ?_
    refine dr (ro_fld_ptr y57_fl26_1 rfl (up_m rfl (u2 rfl (u4 rfl s4_8)))) rfl <| dr (ro_eq (ro_ld_ptr y57_ty22 rfl mo0_7 up_h (nle rfl)) (by simp only [pS, Value.cells, Nat.reduceAdd, jnE, beE, Int.toNat_natCast, toNat_suc, toNat_pre] <;> rfl)) rfl ?_
    refine dr (ro_move (up_m rfl (u8 rfl s2_8))) rfl <| dr (ro_eq (ro_ix y57_sl22 (up_m rfl up_h) up_h (by omega) (by first | (refine idx_map ?_; first | omega | (simp only [lnS]; omega)) | (refine idx_mapI ?_; first | omega | (simp only [lnS]; omega)) | (refine idx_mapN ?_; first | omega | (simp only [lnS]; omega)) | rfl)) (by simp only [pS, Value.cells, Nat.reduceAdd, jnE, beE, Int.toNat_natCast, toNat_suc, toNat_pre] <;> rfl)) rfl ?_
    refine dr (ro_eq (ro_fld_ref y57_fl70_0 rfl up_h) (by simp only [pS, Value.cells, Nat.reduceAdd, jnE, beE, Int.toNat_natCast, toNat_suc, toNat_pre] <;> rfl)) rfl ?_
    refine dr (ro_eq (ro_ld_ref y57_ty3 rfl up_h (nle rfl)) (by simp only [pS, Value.cells, Nat.reduceAdd, jnE, beE, Int.toNat_natCast, toNat_suc, toNat_pre] <;> rfl)) rfl ?_
    (refine dr (ro_sub' (u2 rfl (u4 rfl up_h)) up_h ?_) rfl ?_; · (unfold In64; omega))
    refine dr (ro_fld_ptr y57_fl87_0 rfl (u2 rfl (u4 rfl (u8 rfl s9_8)))) rfl <| dr (ro_eq (ro_ld_ptr y57_ty3 rfl mo1_7 up_h (nle rfl)) (by simp only [pS, Value.cells, Nat.reduceAdd, jnE, beE, Int.toNat_natCast, toNat_suc, toNat_pre] <;> rfl)) rfl ?_
    (refine dr (ro_mul' (u2 rfl up_h) up_h ?_) rfl ?_; · (unfold In64; omega))
    refine dr (ro_fld_ptr y57_fl26_1 rfl (up_m rfl (u16 rfl s4_8))) rfl <| dr (ro_eq (ro_ld_ptr y57_ty22 rfl mo0_7 up_h (nle rfl)) (by simp only [pS, Value.cells, Nat.reduceAdd, jnE, beE, Int.toNat_natCast, toNat_suc, toNat_pre] <;> rfl)) rfl ?_
    refine dr (ro_move (up_m rfl (u2 rfl (u16 rfl s2_8)))) rfl <| dr (ro_eq (ro_ix y57_sl22 (up_m rfl up_h) up_h (by omega) (by first | (refine idx_map ?_; first | omega | (simp only [lnS]; omega)) | (refine idx_mapI ?_; first | omega | (simp only [lnS]; omega)) | (refine idx_mapN ?_; first | omega | (simp only [lnS]; omega)) | rfl)) (by simp only [pS, Value.cells, Nat.reduceAdd, jnE, beE, Int.toNat_natCast, toNat_suc, toNat_pre] <;> rfl)) rfl ?_
    refine dr (ro_eq (ro_fld_ref y57_fl70_0 rfl up_h) (by simp only [pS, Value.cells, Nat.reduceAdd, jnE, beE, Int.toNat_natCast, toNat_suc, toNat_pre] <;> rfl)) rfl ?_
    refine dr (ro_eq (ro_ld_ref y57_ty3 rfl up_h (nle rfl)) (by simp only [pS, Value.cells, Nat.reduceAdd, jnE, beE, Int.toNat_natCast, toNat_suc, toNat_pre] <;> rfl)) rfl ?_
    refine dr (ro_fld_ptr y57_fl26_1 rfl (up_m rfl (u2 rfl (u4 rfl (u16 rfl s4_8))))) rfl <| dr (ro_eq (ro_ld_ptr y57_ty22 rfl mo0_7 up_h (nle rfl)) (by simp only [pS, Value.cells, Nat.reduceAdd, jnE, beE, Int.toNat_natCast, toNat_suc, toNat_pre] <;> rfl)) rfl ?_
    refine dr (ro_move (up_m rfl (u8 rfl (u16 rfl s2_8)))) rfl ?_
    (refine dr (ro_sub' up_h ev_c ?_) rfl ?_; · (unfold In64; omega))
    refine dr (ro_eq (ro_ix y57_sl22 (u2 rfl up_h) up_h (by omega) (by first | (refine idx_map ?_; first | omega | (simp only [lnS]; omega)) | (refine idx_mapI ?_; first | omega | (simp only [lnS]; omega)) | (refine idx_mapN ?_; first | omega | (simp only [lnS]; omega)) | rfl)) (by simp only [pS, Value.cells, Nat.reduceAdd, jnE, beE, Int.toNat_natCast, toNat_suc, toNat_pre] <;> rfl)) rfl ?_
    refine dr (ro_eq (ro_fld_ref y57_fl70_0 rfl up_h) (by simp only [pS, Value.cells, Nat.reduceAdd, jnE, beE, Int.toNat_natCast, toNat_suc, toNat_pre] <;> rfl)) rfl ?_
    refine dr (ro_eq (ro_ld_ref y57_ty3 rfl up_h (nle rfl)) (by simp only [pS, Value.cells, Nat.reduceAdd, jnE, beE, Int.toNat_natCast, toNat_suc, toNat_pre] <;> rfl)) rfl ?_
    (refine dr (ro_sub' (up_m rfl (u2 rfl (u4 rfl up_h))) up_h ?_) rfl ?_; · (unfold In64; omega))
    refine dr (ro_fld_ptr y57_fl87_0 rfl (up_m rfl (u2 rfl (u4 rfl (u8 rfl (u16 rfl s10_8)))))) rfl <| dr (ro_eq (ro_ld_ptr y57_ty3 rfl mo2_7 up_h (nle rfl)) (by simp only [pS, Value.cells, Nat.reduceAdd, jnE, beE, Int.toNat_natCast, toNat_suc, toNat_pre] <;> rfl)) rfl ?_
    (refine dr (ro_mul' (u2 rfl up_h) up_h ?_) rfl ?_; · (unfold In64; omega))
    (refine dr (ro_sub' (up_m rfl (u16 rfl up_h)) up_h ?_) rfl ?_; · (unfold In64; omega))
    refine dr (ro_assign up_h) rfl <| ds_nil <| ae5 (u4 rfl (u16 rfl (u16 rfl s1_8))) (u4 rfl (u16 rfl (u16 rfl s3_8))) (u4 rfl (u16 rfl (u16 rfl s9_8))) (u4 rfl (u16 rfl (u16 rfl s10_8))) up_h ?_; intro e_10 s1_10 s3_10 s9_10 s10_10 s11_10
    refine then_n ⟨(s11_10).trans (by rfl), (s1_10).trans (s1_8).symm, (s3_10).trans (s3_8).symm, (s9_10).trans (s9_8).symm, (s10_10).trans (s10_8).symm, rfl⟩
  · rintro e_9 _ ⟨s11_9, k1_9, k3_9, k9_9, k10_9, rfl⟩
    have s1_9 := k1_9.trans s1_8
    have s3_9 := k3_9.trans s3_8
    have s9_9 := k9_9.trans s9_8
    have s10_9 := k10_9.trans s10_8
    refine aw_seq <| aw_seq <| at_ <| ar (ro_move s11_9) rfl <| ar (ro_eql up_h ev_c) rfl ?_
    refine ae6 (u2 rfl s1_9) (u2 rfl s3_9) (u2 rfl s9_9) (u2 rfl s10_9) (u2 rfl s11_9) up_h ?_; clear s10_9 s11_9 s1_9 s3_9 s9_9; intro e_11 s1_11 s3_11 s9_11 s10_11 s11_11 s62_11
    refine then_n <| aw_case s62_11 (fun hq_12 => ?_) (fun hq_12 => ?_)
    ·replace hq_12 := bt hq_12
     refine aw_seq <| at_ <| ar (ro_assign ev_c) rfl <| ae1 up_h ?_; clear s10_11 s11_11 s1_11 s3_11 s62_11 s9_11; intro e_13 s8_13
     refine then_n <| aw_ret <| then_r <| ret1 (.inr rfl) (by kernel_rfl) (resV_tmp s8_13) (.ro _ rfl) ?_
     clear s8_13 mo2_7 mo1_7 mo0_7 ml_7
     (have hh : holB l sd j q = true := decide_eq_true (.inl (by assumption)); rw [hh])
    replace hq_12 := bf hq_12
    (have hb0 : benN l j ≠ 0 := (by assumption); have sm := sgn_mulc (c := (l.bs.getD (j - 1) default).cant + (l.bs.getD j default).cant) hb0; have l1 : (digN ((2000 * sd + sgnV (benN l j) * ((l.bs.getD (j - 1) default).cant + (l.bs.getD j default).cant) * 9810)).natAbs).length ≤ 1 := digN_len (by omega); have l2 : (digN ((l.bs.getD (j - 1) default).len * (l.bs.getD j default).len * ((l.bs.getD (j - 1) default).len + (l.bs.getD j default).len)).natAbs).length ≤ 2 := digN_len (by omega); have l3 : (digN q.natAbs).length ≤ 2 := digN_len (by omega); have l6 : (digN (4000 * ((benN l j).natAbs : Int)).natAbs).length ≤ 2 := digN_len (by omega); have l4 : (digN (q * (4000 * ((benN l j).natAbs : Int))).natAbs).length ≤ 4 := (by rw [Int.natAbs_mul]; exact digN_mul_len l3 l6); have l5 : (digN ((2000 * sd + sgnV (benN l j) * ((l.bs.getD (j - 1) default).cant + (l.bs.getD j default).cant) * 9810) * ((l.bs.getD (j - 1) default).len * (l.bs.getD j default).len * ((l.bs.getD (j - 1) default).len + (l.bs.getD j default).len))).natAbs).length ≤ 3 := (by rw [Int.natAbs_mul]; exact digN_mul_len l1 l2); have ct := sgn_t (q * (4000 * ((benN l j).natAbs : Int)) - (2000 * sd + sgnV (benN l j) * ((l.bs.getD (j - 1) default).cant + (l.bs.getD j default).cant) * 9810) * ((l.bs.getD (j - 1) default).len * (l.bs.getD j default).len * ((l.bs.getD (j - 1) default).len + (l.bs.getD j default).len))); have hup : upV l sd j = (2000 * sd + sgnV (benN l j) * ((l.bs.getD (j - 1) default).cant + (l.bs.getD j default).cant) * 9810) * ((l.bs.getD (j - 1) default).len * (l.bs.getD j default).len * ((l.bs.getD (j - 1) default).len + (l.bs.getD j default).len)) := rfl)
    refine aw_skip <| then_n <| aw_seq <| at_ <| ar (ro_fld_ptr y57_fl87_1 rfl s9_11) rfl <| ar (ro_eq (ro_ld_ptr y57_ty3 rfl mo1_7 up_h (nle rfl)) (by simp only [pS, Value.cells, Nat.reduceAdd, jnE, beE, Int.toNat_natCast, toNat_suc, toNat_pre] <;> rfl)) rfl ?_
    refine ar (ro_fld_ptr y57_fl87_1 rfl (u2 rfl s10_11)) rfl <| ar (ro_eq (ro_ld_ptr y57_ty3 rfl mo2_7 up_h (nle rfl)) (by simp only [pS, Value.cells, Nat.reduceAdd, jnE, beE, Int.toNat_natCast, toNat_suc, toNat_pre] <;> rfl)) rfl ?_
    (refine ar (ro_add' (u2 rfl up_h) up_h ?_) rfl ?_; · (unfold In64; omega))
    (refine ar (ro_mul' ev_c up_h ?_) rfl ?_; · (unfold In64; omega))
    refine ar (ro_assign up_h) rfl <| ae6 (up_m rfl (u2 rfl (u4 rfl s1_11))) (up_m rfl (u2 rfl (u4 rfl s3_11))) (up_m rfl (u2 rfl (u4 rfl s9_11))) (up_m rfl (u2 rfl (u4 rfl s10_11))) (up_m rfl (u2 rfl (u4 rfl s11_11))) up_h ?_; clear s10_11 s11_11 s1_11 s3_11 s62_11 s9_11; intro e_14 s1_14 s3_14 s9_14 s10_14 s11_14 s12_14
    refine then_n <| aw_seq <| aw_cut (fun e mem => (evA e (.tmp 12) = .v (.int .i64 (sgnV (benN l j) * ((l.bs.getD (j - 1) default).cant + (l.bs.getD j default).cant) * 9810))) ∧ (evA e (.tmp 1) = evA e_14 (.tmp 1)) ∧ (evA e (.tmp 3) = evA e_14 (.tmp 3)) ∧ (evA e (.tmp 9) = evA e_14 (.tmp 9)) ∧ (evA e (.tmp 10) = evA e_14 (.tmp 10)) ∧ (evA e (.tmp 11) = evA e_14 (.tmp 11)) ∧ m_7 = mem) ?_ ?_
    ·
      refine aw_seq <| at_ <| ar (ro_move s11_14) rfl <| ar (ro_lss up_h ev_c) rfl <| ae7 (u2 rfl s1_14) (u2 rfl s3_14) (u2 rfl s9_14) (u2 rfl s10_14) (u2 rfl s11_14) (u2 rfl s12_14) up_h ?_; intro e_16 s1_16 s3_16 s9_16 s10_16 s11_16 s12_16 s70_16
      refine then_n <| aw_case s70_16 (fun hq_17 => ?_) (fun hq_17 => ?_)
      ·replace hq_17 := bt hq_17
       refine at_ <| ar (ro_move s12_16) rfl ?_
       (refine ar (ro_neg' up_h ?_) rfl ?_; · (unfold In64; omega))
       refine ar (ro_assign up_h) rfl <| ae6 (up_m rfl (u2 rfl s1_16)) (up_m rfl (u2 rfl s3_16)) (up_m rfl (u2 rfl s9_16)) (up_m rfl (u2 rfl s10_16)) (up_m rfl (u2 rfl s11_16)) up_h ?_; intro e_18 s1_18 s3_18 s9_18 s10_18 s11_18 s12_18
       refine then_n ⟨(s12_18).trans (by (refine congrArg mA ?_; first | exact sm.1 (by assumption) | exact sm.2 (by assumption))), (s1_18).trans (s1_14).symm, (s3_18).trans (s3_14).symm, (s9_18).trans (s9_14).symm, (s10_18).trans (s10_14).symm, (s11_18).trans (s11_14).symm, rfl⟩
      replace hq_17 := bf hq_17
      refine aw_skip <| then_n ⟨(s12_16).trans (by (refine congrArg mA ?_; first | exact sm.1 (by assumption) | exact sm.2 (by assumption))), (s1_16).trans (s1_14).symm, (s3_16).trans (s3_14).symm, (s9_16).trans (s9_14).symm, (s10_16).trans (s10_14).symm, (s11_16).trans (s11_14).symm, rfl⟩
    · rintro e_15 _ ⟨s12_15, k1_15, k3_15, k9_15, k10_15, k11_15, rfl⟩
      have s1_15 := k1_15.trans s1_14
      have s3_15 := k3_15.trans s3_14
      have s9_15 := k9_15.trans s9_14
      have s10_15 := k10_15.trans s10_14
      have s11_15 := k11_15.trans s11_14
      refine aw_seq <| at_ <| ar (ro_move s3_15) rfl <| ar (ro_call (evL_cons up_h evL_nil) rfl (widOf_ok _ (by omega)) y57_hcf88) rfl ?_
      refine ar (ro_move (u2 rfl s11_15)) rfl <| ar (ro_call (evL_cons up_h evL_nil) rfl (size0_ok _ (by omega)) y57_hcf91) rfl ?_
      (refine ar (ro_mul' ev_c up_h ?_) rfl ?_; · (unfold In64; omega))
      refine ar (ro_call (evL_cons up_h evL_nil) rfl (widOf_ok _ (by omega)) y57_hcf88) rfl ?_
      refine ar (ro_call (evL_cons (u4 rfl up_h) (evL_cons up_h evL_nil)) rfl (widMul_ok _ _ (by omega) (by omega)) y57_hcf87) rfl ?_
      refine al_stm (st_alloc y57_az145 rfl ml_7) trivial rfl (fun m_19 hm_19 => ?_)
      have mo3_19 := m_push hm_19 ml_7
      simp only [pS, Value.cells, Nat.reduceAdd, jnE, beE, Int.toNat_natCast, toNat_suc, toNat_pre] at mo3_19
      have mo2_19 := m_push_o hm_19 mo2_7
      have mo1_19 := m_push_o hm_19 mo1_7
      have mo0_19 := m_push_o hm_19 mo0_7
      have ml_19 := m_push_l hm_19 ml_7
      have ml_19 : _ = 4 := ml_19
      clear hm_19 mo2_7 mo1_7 mo0_7
      refine al_stm (st_store up_h (up_m rfl up_h) rfl rfl mo3_19 y57_sz145 rfl (nle rfl)) trivial rfl (fun m_20 hm_20 => ?_)
      have mo3_20 := m_set hm_20 mo3_19
      simp only [pS, Value.cells, Nat.reduceAdd, jnE, beE, Int.toNat_natCast, toNat_suc, toNat_pre] at mo3_20
      have mo2_20 := m_set_o hm_20 mo2_19 (by decide)
      have mo1_20 := m_set_o hm_20 mo1_19 (by decide)
      have mo0_20 := m_set_o hm_20 mo0_19 (by decide)
      have ml_20 := m_set_l hm_20 ml_19
      clear hm_20 mo3_19 mo2_19 mo1_19 mo0_19
      refine ae5 (up_n (u8 rfl s1_15)) (up_n (u8 rfl s9_15)) (up_n (u8 rfl s10_15)) (up_n (u8 rfl s12_15)) (up_n up_h) ?_; clear s10_15 s11_15 s12_15 s1_15 s3_15 s9_15; intro e_21 s1_21 s9_21 s10_21 s12_21 s13_21
      refine then_n <| aw_seq <| aw_drawK 19 1 ml_20 (by kernel_rfl) (by kernel_rfl) (by kernel_rfl) (by kernel_rfl) (fun m_22 hm_22 => ?_)
      have mo3_22 := m_room_o hm_22 mo3_20
      have mo2_22 := m_room_o hm_22 mo2_20
      have mo1_22 := m_room_o hm_22 mo1_20
      have mo0_22 := m_room_o hm_22 mo0_20
      have mo4_22 : m_22[4]? = _ := m_room_g hm_22 ml_20 0 rfl rfl
      have ml_22 : _ = 5 := m_room_l (K := 1) hm_22 ml_20
      clear hm_22 mo3_20 mo2_20 mo1_20 mo0_20 ml_20
      refine dh_ro (fun M_ hM_ => (ro_move s1_21)) trivial ?_
      (refine dh_ro (fun M_ hM_ => (ro_mul' ev_c up_h ?_)) trivial ?_; · (unfold In64; omega))
      refine dh_ro (fun M_ hM_ => (ro_move (u2 rfl s12_21))) trivial ?_
      (refine dh_ro (fun M_ hM_ => (ro_add' (up_m rfl up_h) up_h ?_)) trivial ?_; · (unfold In64; omega))
      refine dh_ro (fun M_ hM_ => (ro_call (evL_cons up_h evL_nil) rfl (widOf_ok _ (by omega)) y57_hcf88)) trivial ?_
      refine dh_ro (fun M_ hM_ => (ro_fld_ptr y57_fl87_0 rfl (up_m rfl (u4 rfl s9_21)))) trivial ?_
      refine dh_ld (1) (fun M_ hM_ => (ro_eq (ro_ld_ptr y57_ty3 rfl (agr hM_ mo1_22 (by simp)) up_h (nle rfl)) (by simp only [pS, Value.cells, Nat.reduceAdd, jnE, beE, Int.toNat_natCast, toNat_suc, toNat_pre] <;> rfl))) trivial trivial ?_
      refine dh_ro (fun M_ hM_ => (ro_fld_ptr y57_fl87_0 rfl (up_m rfl (u2 rfl (u4 rfl s10_21))))) trivial ?_
      refine dh_ld (2) (fun M_ hM_ => (ro_eq (ro_ld_ptr y57_ty3 rfl (agr hM_ mo2_22 (by simp)) up_h (nle rfl)) (by simp only [pS, Value.cells, Nat.reduceAdd, jnE, beE, Int.toNat_natCast, toNat_suc, toNat_pre] <;> rfl))) trivial trivial ?_
      (refine dh_ro (fun M_ hM_ => (ro_mul' (u2 rfl up_h) up_h ?_)) trivial ?_; · (unfold In64; omega))
      refine dh_ro (fun M_ hM_ => (ro_fld_ptr y57_fl87_0 rfl (u2 rfl (u8 rfl s9_21)))) trivial ?_
      refine dh_ld (1) (fun M_ hM_ => (ro_eq (ro_ld_ptr y57_ty3 rfl (agr hM_ mo1_22 (by simp)) up_h (nle rfl)) (by simp only [pS, Value.cells, Nat.reduceAdd, jnE, beE, Int.toNat_natCast, toNat_suc, toNat_pre] <;> rfl))) trivial trivial ?_
      refine dh_ro (fun M_ hM_ => (ro_fld_ptr y57_fl87_0 rfl (u4 rfl (u8 rfl s10_21)))) trivial ?_
      refine dh_ld (2) (fun M_ hM_ => (ro_eq (ro_ld_ptr y57_ty3 rfl (agr hM_ mo2_22 (by simp)) up_h (nle rfl)) (by simp only [pS, Value.cells, Nat.reduceAdd, jnE, beE, Int.toNat_natCast, toNat_suc, toNat_pre] <;> rfl))) trivial trivial ?_
      (refine dh_ro (fun M_ hM_ => (ro_add' (u2 rfl up_h) up_h ?_)) trivial ?_; · (unfold In64; omega))
      (refine dh_ro (fun M_ hM_ => (ro_mul' (up_m rfl (u4 rfl up_h)) up_h ?_)) trivial ?_; · (unfold In64; omega))
      refine dh_ro (fun M_ hM_ => (ro_call (evL_cons up_h evL_nil) rfl (widOf_ok _ (by omega)) y57_hcf88)) trivial ?_
      refine dh_ro (fun M_ hM_ => (ro_call (evL_cons (u4 rfl (u8 rfl up_h)) (evL_cons up_h evL_nil)) rfl (widMul_ok _ _ (by omega) (by omega)) y57_hcf87)) trivial ?_
      refine dh_nw (4) (fun M_ hM_ => (nw_alloc y57_az145 rfl)) trivial mo4_22 rfl trivial ⟨.inl (by simp <;> omega), ⟨.inl (by simp <;> omega), ⟨.inl (by simp <;> omega), ⟨.inl (by simp <;> omega), trivial⟩⟩⟩⟩ (fun m_23 hm_23 => ?_)
      have mo4_23 := m_set hm_23 mo4_22
      simp only [pS, Value.cells, Nat.reduceAdd, jnE, beE, Int.toNat_natCast, toNat_suc, toNat_pre] at mo4_23
      have mo3_23 := m_set_o hm_23 mo3_22 (by decide)
      have mo2_23 := m_set_o hm_23 mo2_22 (by decide)
      have mo1_23 := m_set_o hm_23 mo1_22 (by decide)
      have mo0_23 := m_set_o hm_23 mo0_22 (by decide)
      have ml_23 := m_set_l hm_23 ml_22
      clear hm_23 mo3_22 mo2_22 mo1_22 mo0_22 mo4_22
      refine dh_nil rfl ?_
      refine al_stm (st_store up_h (up_m rfl up_h) rfl rfl mo4_23 y57_sz145 rfl (nle rfl)) trivial rfl (fun m_24 hm_24 => ?_)
      have mo4_24 := m_set hm_24 mo4_23
      simp only [pS, Value.cells, Nat.reduceAdd, jnE, beE, Int.toNat_natCast, toNat_suc, toNat_pre] at mo4_24
      have mo3_24 := m_set_o hm_24 mo3_23 (by decide)
      have mo2_24 := m_set_o hm_24 mo2_23 (by decide)
      have mo1_24 := m_set_o hm_24 mo1_23 (by decide)
      have mo0_24 := m_set_o hm_24 mo0_23 (by decide)
      have ml_24 := m_set_l hm_24 ml_23
      clear hm_24 mo4_23 mo3_23 mo2_23 mo1_23 mo0_23
      refine ae2 (up_n (up_m rfl (u2 rfl (u16 rfl s13_21)))) (up_n up_h) ?_; clear s10_21 s12_21 s13_21 s1_21 s9_21; intro e_25 s13_25 s14_25
      refine then_n <| aw_seq <| at_ <| ar (ro_eq (ro_ld_ptr y57_ty145 rfl mo3_24 s13_25 (nle rfl)) (by simp only [pS, Value.cells, Nat.reduceAdd, jnE, beE, Int.toNat_natCast, toNat_suc, toNat_pre] <;> rfl)) rfl ?_
      refine ar (ro_eq (ro_ld_ptr y57_ty145 rfl mo4_24 (up_m rfl s14_25) (nle rfl)) (by simp only [pS, Value.cells, Nat.reduceAdd, jnE, beE, Int.toNat_natCast, toNat_suc, toNat_pre] <;> rfl)) rfl ?_
      refine ar (ro_call (evL_cons (up_m rfl up_h) (evL_cons up_h evL_nil)) rfl (widCmp_ok _ _ (by omega) (by omega)) y57_hcf92) rfl ?_
      refine ar (ro_leq up_h ev_c) rfl <| ar (ro_assign up_h) rfl <| ae1 up_h ?_; clear s13_25 s14_25; intro e_26 s8_26
      refine then_n <| aw_ret <| ret1 (.inr rfl) (by kernel_rfl) (resV_tmp s8_26) (.ro _ rfl) ?_
      clear s8_26 mo4_24 mo3_24 mo2_24 mo1_24 mo0_24 ml_24
      (refine congrArg tbA ?_; unfold holB; rw [hup, Bool.eq_iff_iff]; simp only [decide_eq_true_eq, Bool.true_eq, Bool.false_eq, decide_eq_false_iff_not, true_iff, false_iff]; omega)
set_option maxRecDepth 100000 in
set_option maxHeartbeats 4000000 in
theorem linePermitted_many (l : Lin) (hf : fewL l = false) (sd m : Int) : FnOk Try.prog 5 [lnA l, mA sd, mA m] (fun q => q = tbA true) := by
  refine fnOk_of (fn := Try.f5) 131 (by kernel_rfl) rfl (by kernel_rfl) (Nat.le_of_ble_eq_true rfl) ?_
  intro e_0 m_0 hA hm_0
  have s0_0 : evA e_0 (.tmp 0) = _ := hA 0 _ rfl
  have s1_0 : evA e_0 (.tmp 1) = _ := hA 1 _ rfl
  have s2_0 : evA e_0 (.tmp 2) = _ := hA 2 _ rfl
  have ml_0 : m_0.length = 0 := by rw [hm_0]; rfl
  clear hA hm_0
  refine aw_seq <| at_ <| al_stm (st_box s0_0 rfl ml_0) trivial rfl (fun m_1 hm_1 => ?_)
  have mo0_1 := m_push hm_1 ml_0
  have ml_1 := m_push_l hm_1 ml_0
  have ml_1 : _ = 1 := ml_1
  clear hm_1
  refine ar (ro_assign ev_c) rfl <| ae3 (u2 rfl s1_0) (u2 rfl s2_0) (up_m rfl up_h) ?_; clear s0_0 s1_0 s2_0; intro e_2 s1_2 s2_2 s3_2
  refine then_n <| aw_seq <| aw_seq <| at_ <| ar (ro_call evL_nil rfl (awake_ok) y57_hcf12) rfl <| ar (ro_not up_h) rfl <| ae4 (u2 rfl s1_2) (u2 rfl s2_2) (u2 rfl s3_2) up_h ?_; clear s1_2 s2_2 s3_2; intro e_3 s1_3 s2_3 s3_3 s14_3
  refine then_n <| aw_case s14_3 (fun hq_4 => ?_) (fun hq_4 => ?_)
  · cases hq_4
  replace hq_4 := bf' hq_4
  refine aw_skip <| then_n <| aw_seq <| aw_seq <| at_ <| ar (ro_eq (ro_ld_ptr y57_ty26 rfl mo0_1 s3_3 (nle rfl)) (by simp only [pS, Value.cells, Nat.reduceAdd] <;> rfl)) rfl ?_
  refine ar (ro_call (evL_cons up_h evL_nil) rfl ((fewL_ok l).mono (fun q h => h.trans (by rw [hf]))) y57_hcf13) rfl ?_
  refine ar (ro_not up_h) rfl <| ar (ro_move up_h) rfl <| al_case up_h (fun hb_5 hq_5 => ?_) (fun hb_5 hq_5 => ?_)
  ·replace hq_5 := bt' hq_5
   refine al_skip' ⟨_, rfl, .inl hb_5⟩ rfl ?_
   refine al_skip' ⟨_, rfl, .inl (up_m rfl hb_5)⟩ rfl ?_
   refine al_skip' ⟨_, rfl, .inl (u2 rfl hb_5)⟩ rfl ?_
   refine ar (ro_pickT (up_m rfl (u2 rfl hb_5)) ev_c) rfl <| ar (ro_move up_h) rfl <| al_skip' ⟨_, rfl, .inl up_h⟩ rfl ?_
   refine al_skip' ⟨_, rfl, .inl (up_m rfl up_h)⟩ rfl ?_
   refine al_skip' ⟨_, rfl, .inl (u2 rfl up_h)⟩ rfl ?_
   refine ar (ro_pickT (up_m rfl (u2 rfl up_h)) ev_c) rfl <| ae4 (up_m rfl (u4 rfl (u8 rfl s1_3))) (up_m rfl (u4 rfl (u8 rfl s2_3))) (up_m rfl (u4 rfl (u8 rfl s3_3))) up_h ?_; clear hb_5 s14_3 s1_3 s2_3 s3_3; intro e_6 s1_6 s2_6 s3_6 s27_6
   refine then_n <| aw_true s27_6 <| aw_seq <| at_ <| ar (ro_assign ev_c) rfl <| ae1 up_h ?_; clear s1_6 s27_6 s2_6 s3_6; intro e_8 s6_8
   refine then_n <| aw_ret <| then_r <| ret1 (.inr rfl) (by kernel_rfl) (resV_tmp s6_8) (.ro _ rfl) ?_
   clear s6_8 mo0_1 ml_1
   first | rfl | simp_all
  · cases hq_5
set_option maxRecDepth 100000 in
set_option maxHeartbeats 4000000 in
theorem linePermitted_bad (l : Lin) (hf : fewL l = true) (hb : (linM l).2 ≠ 0) (sd m : Int) : FnOk Try.prog 5 [lnA l, mA sd, mA m] (fun q => q = tbA true) := by
  refine fnOk_of (fn := Try.f5) 131 (by kernel_rfl) rfl (by kernel_rfl) (Nat.le_of_ble_eq_true rfl) ?_
  intro e_0 m_0 hA hm_0
  have s0_0 : evA e_0 (.tmp 0) = _ := hA 0 _ rfl
  have s1_0 : evA e_0 (.tmp 1) = _ := hA 1 _ rfl
  have s2_0 : evA e_0 (.tmp 2) = _ := hA 2 _ rfl
  have ml_0 : m_0.length = 0 := by rw [hm_0]; rfl
  clear hA hm_0
  have hl := fewL_sho hf
  refine aw_seq <| at_ <| al_stm (st_box s0_0 rfl ml_0) trivial rfl (fun m_1 hm_1 => ?_)
  have mo0_1 := m_push hm_1 ml_0
  have ml_1 := m_push_l hm_1 ml_0
  have ml_1 : _ = 1 := ml_1
  clear hm_1
  refine ar (ro_assign ev_c) rfl <| ae3 (u2 rfl s1_0) (u2 rfl s2_0) (up_m rfl up_h) ?_; clear s0_0 s1_0 s2_0; intro e_2 s1_2 s2_2 s3_2
  refine then_n <| aw_seq <| aw_seq <| at_ <| ar (ro_call evL_nil rfl (awake_ok) y57_hcf12) rfl <| ar (ro_not up_h) rfl <| ae4 (u2 rfl s1_2) (u2 rfl s2_2) (u2 rfl s3_2) up_h ?_; clear s1_2 s2_2 s3_2; intro e_3 s1_3 s2_3 s3_3 s14_3
  refine then_n <| aw_case s14_3 (fun hq_4 => ?_) (fun hq_4 => ?_)
  · cases hq_4
  replace hq_4 := bf' hq_4
  refine aw_skip <| then_n <| aw_seq <| aw_seq <| at_ <| ar (ro_eq (ro_ld_ptr y57_ty26 rfl mo0_1 s3_3 (nle rfl)) (by simp only [pS, Value.cells, Nat.reduceAdd] <;> rfl)) rfl ?_
  refine ar (ro_call (evL_cons up_h evL_nil) rfl ((fewL_ok l).mono (fun q h => h.trans (by rw [hf]))) y57_hcf13) rfl ?_
  refine ar (ro_not up_h) rfl <| ar (ro_move up_h) rfl <| al_case up_h (fun hb_5 hq_5 => ?_) (fun hb_5 hq_5 => ?_)
  · cases hq_5
  replace hq_5 := bf' hq_5
  refine al_ro' (ro_eq (ro_ld_ptr y57_ty26 rfl mo0_1 (u4 rfl s3_3) (nle rfl)) (by simp only [pS, Value.cells, Nat.reduceAdd] <;> rfl)) ⟨_, rfl, hb_5⟩ rfl ?_
  refine al_ro' (ro_call (evL_cons up_h evL_nil) rfl (lineErr_ok l hl) y57_hcf14) ⟨_, rfl, (up_m rfl hb_5)⟩ rfl ?_
  refine al_ro' (ro_neq up_h ev_c) ⟨_, rfl, (u2 rfl hb_5)⟩ rfl ?_
  refine ar (ro_pickF (up_m rfl (u2 rfl hb_5)) up_h) rfl <| ar (ro_move up_h) rfl <| al_case up_h (fun hb_6 hq_6 => ?_) (fun hb_6 hq_6 => ?_)
  ·replace hq_6 := bnt hq_6
   refine al_skip' ⟨_, rfl, .inl hb_6⟩ rfl ?_
   refine al_skip' ⟨_, rfl, .inl (up_m rfl hb_6)⟩ rfl ?_
   refine al_skip' ⟨_, rfl, .inl (u2 rfl hb_6)⟩ rfl ?_
   refine ar (ro_pickT (up_m rfl (u2 rfl hb_6)) ev_c) rfl <| ae4 (up_m rfl (u4 rfl (u8 rfl s1_3))) (up_m rfl (u4 rfl (u8 rfl s2_3))) (up_m rfl (u4 rfl (u8 rfl s3_3))) up_h ?_; clear hb_5 hb_6 s14_3 s1_3 s2_3 s3_3; intro e_7 s1_7 s2_7 s3_7 s27_7
   refine then_n <| aw_true s27_7 <| aw_seq <| at_ <| ar (ro_assign ev_c) rfl <| ae1 up_h ?_; clear s1_7 s27_7 s2_7 s3_7; intro e_9 s6_9
   refine then_n <| aw_ret <| then_r <| ret1 (.inr rfl) (by kernel_rfl) (resV_tmp s6_9) (.ro _ rfl) ?_
   clear s6_9 mo0_1 ml_1
   first | rfl | simp_all
  · replace hq_6 := bnf hq_6; exfalso; omega
set_option maxRecDepth 100000 in
set_option maxHeartbeats 4000000 in
theorem linePermitted_side (l : Lin) (hf : fewL l = true) (hg : (linM l).2 = 0) (sd m : Int) (hs : sidE sd ≠ 0) : FnOk Try.prog 5 [lnA l, mA sd, mA m] (fun q => q = tbA true) := by
  refine fnOk_of (fn := Try.f5) 131 (by kernel_rfl) rfl (by kernel_rfl) (Nat.le_of_ble_eq_true rfl) ?_
  intro e_0 m_0 hA hm_0
  have s0_0 : evA e_0 (.tmp 0) = _ := hA 0 _ rfl
  have s1_0 : evA e_0 (.tmp 1) = _ := hA 1 _ rfl
  have s2_0 : evA e_0 (.tmp 2) = _ := hA 2 _ rfl
  have ml_0 : m_0.length = 0 := by rw [hm_0]; rfl
  clear hA hm_0
  have hl := fewL_sho hf
  refine aw_seq <| at_ <| al_stm (st_box s0_0 rfl ml_0) trivial rfl (fun m_1 hm_1 => ?_)
  have mo0_1 := m_push hm_1 ml_0
  have ml_1 := m_push_l hm_1 ml_0
  have ml_1 : _ = 1 := ml_1
  clear hm_1
  refine ar (ro_assign ev_c) rfl <| ae3 (u2 rfl s1_0) (u2 rfl s2_0) (up_m rfl up_h) ?_; clear s0_0 s1_0 s2_0; intro e_2 s1_2 s2_2 s3_2
  refine then_n <| aw_seq <| aw_seq <| at_ <| ar (ro_call evL_nil rfl (awake_ok) y57_hcf12) rfl <| ar (ro_not up_h) rfl <| ae4 (u2 rfl s1_2) (u2 rfl s2_2) (u2 rfl s3_2) up_h ?_; clear s1_2 s2_2 s3_2; intro e_3 s1_3 s2_3 s3_3 s14_3
  refine then_n <| aw_case s14_3 (fun hq_4 => ?_) (fun hq_4 => ?_)
  · cases hq_4
  replace hq_4 := bf' hq_4
  refine aw_skip <| then_n <| aw_seq <| aw_seq <| at_ <| ar (ro_eq (ro_ld_ptr y57_ty26 rfl mo0_1 s3_3 (nle rfl)) (by simp only [pS, Value.cells, Nat.reduceAdd] <;> rfl)) rfl ?_
  refine ar (ro_call (evL_cons up_h evL_nil) rfl ((fewL_ok l).mono (fun q h => h.trans (by rw [hf]))) y57_hcf13) rfl ?_
  refine ar (ro_not up_h) rfl <| ar (ro_move up_h) rfl <| al_case up_h (fun hb_5 hq_5 => ?_) (fun hb_5 hq_5 => ?_)
  · cases hq_5
  replace hq_5 := bf' hq_5
  refine al_ro' (ro_eq (ro_ld_ptr y57_ty26 rfl mo0_1 (u4 rfl s3_3) (nle rfl)) (by simp only [pS, Value.cells, Nat.reduceAdd] <;> rfl)) ⟨_, rfl, hb_5⟩ rfl ?_
  refine al_ro' (ro_call (evL_cons up_h evL_nil) rfl (lineErr_ok l hl) y57_hcf14) ⟨_, rfl, (up_m rfl hb_5)⟩ rfl ?_
  refine al_ro' (ro_neq up_h ev_c) ⟨_, rfl, (u2 rfl hb_5)⟩ rfl ?_
  refine ar (ro_pickF (up_m rfl (u2 rfl hb_5)) up_h) rfl <| ar (ro_move up_h) rfl <| al_case up_h (fun hb_6 hq_6 => ?_) (fun hb_6 hq_6 => ?_)
  · replace hq_6 := bnt hq_6; exfalso; omega
  replace hq_6 := bnf hq_6
  refine al_ro' (ro_move (up_m rfl (u8 rfl s1_3))) ⟨_, rfl, hb_6⟩ rfl ?_
  refine al_ro' (ro_call (evL_cons up_h evL_nil) rfl (rSideErr_ok _) y57_hcf25) ⟨_, rfl, (up_m rfl hb_6)⟩ rfl ?_
  refine al_ro' (ro_neq up_h ev_c) ⟨_, rfl, (u2 rfl hb_6)⟩ rfl ?_
  refine ar (ro_pickF (up_m rfl (u2 rfl hb_6)) up_h) rfl <| ae4 (up_m rfl (u4 rfl (u8 rfl s1_3))) (up_m rfl (u4 rfl (u8 rfl s2_3))) (up_m rfl (u4 rfl (u8 rfl s3_3))) up_h ?_; clear hb_5 hb_6 s14_3 s1_3 s2_3 s3_3; intro e_7 s1_7 s2_7 s3_7 s27_7
  refine then_n <| aw_case s27_7 (fun hq_8 => ?_) (fun hq_8 => ?_)
  ·replace hq_8 := bnt hq_8
   refine aw_seq <| at_ <| ar (ro_assign ev_c) rfl <| ae1 up_h ?_; clear s1_7 s27_7 s2_7 s3_7; intro e_9 s6_9
   refine then_n <| aw_ret <| then_r <| ret1 (.inr rfl) (by kernel_rfl) (resV_tmp s6_9) (.ro _ rfl) ?_
   clear s6_9 mo0_1 ml_1
   first | rfl | simp_all
  · replace hq_8 := bnf hq_8; exfalso; omega
set_option maxRecDepth 100000 in
set_option maxHeartbeats 4000000 in
theorem linePermitted_in (l : Lin) (hf : fewL l = true) (hg : (linM l).2 = 0) (sd m : Int) (hs : sidE sd = 0) : FnOk Try.prog 5 [lnA l, mA sd, mA m] (fun q => q = tbA true) := by
  refine fnOk_of (fn := Try.f5) 131 (by kernel_rfl) rfl (by kernel_rfl) (Nat.le_of_ble_eq_true rfl) ?_
  intro e_0 m_0 hA hm_0
  have s0_0 : evA e_0 (.tmp 0) = _ := hA 0 _ rfl
  have s1_0 : evA e_0 (.tmp 1) = _ := hA 1 _ rfl
  have s2_0 : evA e_0 (.tmp 2) = _ := hA 2 _ rfl
  have ml_0 : m_0.length = 0 := by rw [hm_0]; rfl
  clear hA hm_0
  have hl := fewL_sho hf; have hr := rgt_of hg; have hs2 := sidE_z.1 hs; have hjs := hr.js; have hn1 := hr.n1; have hn0 := hr.n0; have hll := limL_len l sd (l.js.length - 2); have hlm := limL_len l m (l.js.length - 2)
  refine aw_seq <| at_ <| al_stm (st_box s0_0 rfl ml_0) trivial rfl (fun m_1 hm_1 => ?_)
  have mo0_1 := m_push hm_1 ml_0
  have ml_1 := m_push_l hm_1 ml_0
  have ml_1 : _ = 1 := ml_1
  clear hm_1
  refine ar (ro_assign ev_c) rfl <| ae3 (u2 rfl s1_0) (u2 rfl s2_0) (up_m rfl up_h) ?_; clear s0_0 s1_0 s2_0; intro e_2 s1_2 s2_2 s3_2
  refine then_n <| aw_seq <| aw_seq <| at_ <| ar (ro_call evL_nil rfl (awake_ok) y57_hcf12) rfl <| ar (ro_not up_h) rfl <| ae4 (u2 rfl s1_2) (u2 rfl s2_2) (u2 rfl s3_2) up_h ?_; clear s1_2 s2_2 s3_2; intro e_3 s1_3 s2_3 s3_3 s14_3
  refine then_n <| aw_case s14_3 (fun hq_4 => ?_) (fun hq_4 => ?_)
  · cases hq_4
  replace hq_4 := bf' hq_4
  refine aw_skip <| then_n <| aw_seq <| aw_seq <| at_ <| ar (ro_eq (ro_ld_ptr y57_ty26 rfl mo0_1 s3_3 (nle rfl)) (by simp only [pS, Value.cells, Nat.reduceAdd, iE] <;> rfl)) rfl ?_
  refine ar (ro_call (evL_cons up_h evL_nil) rfl ((fewL_ok l).mono (fun q h => h.trans (by rw [hf]))) y57_hcf13) rfl ?_
  refine ar (ro_not up_h) rfl <| ar (ro_move up_h) rfl <| al_case up_h (fun hb_5 hq_5 => ?_) (fun hb_5 hq_5 => ?_)
  · cases hq_5
  replace hq_5 := bf' hq_5
  refine al_ro' (ro_eq (ro_ld_ptr y57_ty26 rfl mo0_1 (u4 rfl s3_3) (nle rfl)) (by simp only [pS, Value.cells, Nat.reduceAdd, iE] <;> rfl)) ⟨_, rfl, hb_5⟩ rfl ?_
  refine al_ro' (ro_call (evL_cons up_h evL_nil) rfl (lineErr_ok l hl) y57_hcf14) ⟨_, rfl, (up_m rfl hb_5)⟩ rfl ?_
  refine al_ro' (ro_neq up_h ev_c) ⟨_, rfl, (u2 rfl hb_5)⟩ rfl ?_
  refine ar (ro_pickF (up_m rfl (u2 rfl hb_5)) up_h) rfl <| ar (ro_move up_h) rfl <| al_case up_h (fun hb_6 hq_6 => ?_) (fun hb_6 hq_6 => ?_)
  · replace hq_6 := bnt hq_6; exfalso; omega
  replace hq_6 := bnf hq_6
  refine al_ro' (ro_move (up_m rfl (u8 rfl s1_3))) ⟨_, rfl, hb_6⟩ rfl ?_
  refine al_ro' (ro_call (evL_cons up_h evL_nil) rfl (rSideErr_ok _) y57_hcf25) ⟨_, rfl, (up_m rfl hb_6)⟩ rfl ?_
  refine al_ro' (ro_neq up_h ev_c) ⟨_, rfl, (u2 rfl hb_6)⟩ rfl ?_
  refine ar (ro_pickF (up_m rfl (u2 rfl hb_6)) up_h) rfl <| ae4 (up_m rfl (u4 rfl (u8 rfl s1_3))) (up_m rfl (u4 rfl (u8 rfl s2_3))) (up_m rfl (u4 rfl (u8 rfl s3_3))) up_h ?_; clear hb_5 hb_6 s14_3 s1_3 s2_3 s3_3; intro e_7 s1_7 s2_7 s3_7 s27_7
  refine then_n <| aw_case s27_7 (fun hq_8 => ?_) (fun hq_8 => ?_)
  · replace hq_8 := bnt hq_8; exfalso; omega
  replace hq_8 := bnf hq_8
  refine aw_skip <| then_n <| aw_seq <| at_ <| ar (ro_eq (ro_ld_ptr y57_ty26 rfl mo0_1 s3_7 (nle rfl)) (by simp only [pS, Value.cells, Nat.reduceAdd, iE] <;> rfl)) rfl ?_
  refine ar (ro_call (evL_cons up_h evL_nil) rfl (yCopy_ok l hl) y57_hcf18) rfl <| ar (ro_move (u2 rfl s1_7)) rfl <| ar (ro_call (evL_cons (up_m rfl up_h) (evL_cons up_h evL_nil)) rfl (limitsOf_good l hl hg sd hs) y57_hcf24) rfl <| ar (ro_move up_h) rfl <| ar (ro_extract up_h rfl) rfl <| ar (ro_extract (up_m rfl up_h) rfl) rfl <| ar (ro_assign (up_m rfl up_h)) rfl <| ar (ro_assign (up_m rfl up_h)) rfl <| ae5 (up_m rfl (u8 rfl s1_7)) (up_m rfl (u8 rfl s2_7)) (up_m rfl (u8 rfl s3_7)) (up_m rfl up_h) up_h ?_; clear s1_7 s27_7 s2_7 s3_7; intro e_9 s1_9 s2_9 s3_9 s7_9 s8_9
  refine then_n <| aw_seq <| aw_seq <| at_ <| ar (ro_move s8_9) rfl <| ar (ro_neq up_h ev_c) rfl <| ar (ro_move up_h) rfl <| al_case up_h (fun hb_10 hq_10 => ?_) (fun hb_10 hq_10 => ?_)
  · cases hq_10
  replace hq_10 := bnf hq_10
  refine al_ro' (ro_move (up_m rfl (u2 rfl s7_9))) ⟨_, rfl, hb_10⟩ rfl ?_
  refine al_ro' (ro_eq (ro_len_row up_h rfl y57_sl49.1) (by simp only [lnS] <;> rfl)) ⟨_, rfl, (up_m rfl hb_10)⟩ rfl ?_
  refine al_ro' (ro_fld_ptr y57_fl26_1 rfl (up_m rfl (u4 rfl s3_9))) ⟨_, rfl, (u2 rfl hb_10)⟩ rfl ?_
  refine al_ro' (ro_eq (ro_ld_ptr y57_ty22 rfl mo0_1 up_h (nle rfl)) (by simp only [pS, Value.cells, Nat.reduceAdd, iE] <;> rfl)) ⟨_, rfl, (up_m rfl (u2 rfl hb_10))⟩ rfl ?_
  refine al_ro' (ro_eq (ro_len_row up_h rfl y57_sl22.1) (by simp only [lnS] <;> rfl)) ⟨_, rfl, (u4 rfl hb_10)⟩ rfl ?_
  (refine al_ro' (ro_sub' up_h ev_c ?_) ⟨_, rfl, (up_m rfl (u4 rfl hb_10))⟩ rfl ?_; · (unfold In64; omega))
  refine al_ro' (ro_neq (u4 rfl up_h) up_h) ⟨_, rfl, (u2 rfl (u4 rfl hb_10))⟩ rfl ?_
  refine ar (ro_pickF (up_m rfl (u2 rfl (u4 rfl hb_10))) up_h) rfl <| ae5 (up_m rfl (u2 rfl (u8 rfl s1_9))) (up_m rfl (u2 rfl (u8 rfl s2_9))) (up_m rfl (u2 rfl (u8 rfl s3_9))) (up_m rfl (u2 rfl (u8 rfl s7_9))) up_h ?_; clear hb_10 s1_9 s2_9 s3_9 s7_9 s8_9; intro e_11 s1_11 s2_11 s3_11 s7_11 s45_11
  refine then_n <| aw_case s45_11 (fun hq_12 => ?_) (fun hq_12 => ?_)
  · replace hq_12 := bnt hq_12; exfalso; omega
  replace hq_12 := bnf hq_12
  refine aw_skip <| then_n <| aw_seq <| aw_seq <| at_ <| ar (ro_assign ev_c) rfl <| ae5 (up_m rfl s1_11) (up_m rfl s2_11) (up_m rfl s3_11) (up_m rfl s7_11) up_h ?_; clear s1_11 s2_11 s3_11 s45_11 s7_11; intro e_13 s1_13 s2_13 s3_13 s7_13 s9_13
  refine then_n <| aw_block <| aw_loop (S := Int) (fun i e mem => (evA e (.tmp 9) = .v (.int .i64 i)) ∧ (evA e (.tmp 1) = evA e_13 (.tmp 1)) ∧ (evA e (.tmp 2) = evA e_13 (.tmp 2)) ∧ (evA e (.tmp 3) = evA e_13 (.tmp 3)) ∧ (evA e (.tmp 7) = evA e_13 (.tmp 7)) ∧ (mem[0]? = m_1[0]?) ∧ (mem.length = 1) ∧ ((0 ≤ i ∧ i ≤ (limL l sd (l.js.length - 2)).length))) (fun i => ((limL l sd (l.js.length - 2)).length - i).toNat) _ ⟨s9_13, rfl, rfl, rfl, rfl, rfl, ml_1, ?_⟩ ?_
  · (exact ⟨by omega, by omega⟩)
  · rintro i e_14 m_14 ⟨s9_14, k1_14, k2_14, k3_14, k7_14, mk0_14, ml_14, hinv⟩
    have s1_14 := k1_14.trans s1_13
    have s2_14 := k2_14.trans s2_13
    have s3_14 := k3_14.trans s3_13
    have s7_14 := k7_14.trans s7_13
    have mo0_14 := mk0_14.trans mo0_1
    (obtain ⟨p1, p2⟩ := hinv)
    refine aw_seq <| aw_seq <| at_ <| ar (ro_move s9_14) rfl <| ar (ro_move (up_m rfl s7_14)) rfl <| ar (ro_eq (ro_len_row up_h rfl y57_sl49.1) (by simp only [lnS] <;> rfl)) rfl ?_
    refine ar (ro_lss (u2 rfl up_h) up_h) rfl <| ae6 (u4 rfl s1_14) (u4 rfl s2_14) (u4 rfl s3_14) (u4 rfl s7_14) (u4 rfl s9_14) up_h ?_; clear s1_14 s2_14 s3_14 s7_14 s9_14; intro e_15 s1_15 s2_15 s3_15 s7_15 s9_15 s49_15
    refine then_n <| aw_case s49_15 (fun hq_16 => ?_) (fun hq_16 => ?_)
    ·replace hq_16 := bt hq_16
     (have hx : (limL l sd (l.js.length - 2)).getD i.toNat default = limV l sd (i.toNat + 1) := limL_at l sd (by omega); have hj : 1 ≤ i.toNat + 1 ∧ (i.toNat + 1) + 2 ≤ l.js.length := (by omega); have hwb := lim_within hr hj (sd := sd); rw [← hx] at hwb; have hw : withinB ((limL l sd (l.js.length - 2)).getD i.toNat default) 0 20000000000 = true := withinB_iff.2 (by omega); have hh := lim_holds hr hj (sd := sd); have hm1 := lim_more hr hj (sd := sd); rw [← hx] at hh hm1; have h1 := holds_ok l hr sd hs2 (i.toNat + 1) hj ((limL l sd (l.js.length - 2)).getD i.toNat default) (by omega); rw [show ((i.toNat + 1 : Nat) : Int) = i + 1 by omega] at h1; have h2 := holds_ok l hr sd hs2 (i.toNat + 1) hj ((limL l sd (l.js.length - 2)).getD i.toNat default + 1) (by omega); rw [show ((i.toNat + 1 : Nat) : Int) = i + 1 by omega] at h2)
     refine aw_skip <| then_n <| aw_seq <| aw_block <| aw_seq <| aw_draw 44 (by kernel_rfl) (by kernel_rfl) (by kernel_rfl) (by kernel_rfl) ?_
     refine dr (ro_move s7_15) rfl <| dr (ro_move (up_m rfl s9_15)) rfl <| dr (ro_eq (ro_ix y57_sl49 (up_m rfl up_h) up_h (by omega) (by first | (refine idx_map ?_; first | omega | (simp only [lnS]; omega)) | (refine idx_mapI ?_; first | omega | (simp only [lnS]; omega)) | (refine idx_mapN ?_; first | omega | (simp only [lnS]; omega)) | rfl)) (by simp only [pS, Value.cells, Nat.reduceAdd, iE] <;> rfl)) rfl ?_
     refine dr (ro_eq (ro_ld_ref y57_ty3 rfl up_h (nle rfl)) (by simp only [pS, Value.cells, Nat.reduceAdd, iE] <;> rfl)) rfl ?_
     refine dr (ro_call (evL_cons up_h (evL_cons ev_c (evL_cons ev_c evL_nil))) rfl ((bWithin_ok _ _ _).mono (fun q h => show q = tbA true from h.trans (by rw [hw]))) y57_hcf30) rfl ?_
     refine dr (ro_not up_h) rfl <| dr (ro_move up_h) rfl <| ds_case up_h (fun hb_17 hq_17 => ?_) (fun hb_17 hq_17 => ?_)
     · cases hq_17
     replace hq_17 := bf' hq_17
     refine ds_ro' (ro_eq (ro_ld_ptr y57_ty26 rfl mo0_14 (up_m rfl (u2 rfl (u4 rfl s3_15))) (nle rfl)) (by simp only [pS, Value.cells, Nat.reduceAdd, iE] <;> rfl)) ⟨_, rfl, hb_17⟩ rfl ?_
     refine ds_ro' (ro_move (u8 rfl s1_15)) ⟨_, rfl, (up_m rfl hb_17)⟩ rfl ?_
     refine ds_ro' (ro_move (up_m rfl (u8 rfl s9_15))) ⟨_, rfl, (u2 rfl hb_17)⟩ rfl ?_
     (refine ds_ro' (ro_add' up_h ev_c ?_) ⟨_, rfl, (up_m rfl (u2 rfl hb_17))⟩ rfl ?_; · (unfold In64; omega))
     refine ds_ro' (ro_move (up_m rfl (u2 rfl (u8 rfl s7_15)))) ⟨_, rfl, (u4 rfl hb_17)⟩ rfl ?_
     refine ds_ro' (ro_move (u4 rfl (u8 rfl s9_15))) ⟨_, rfl, (up_m rfl (u4 rfl hb_17))⟩ rfl ?_
     refine ds_ro' (ro_eq (ro_ix y57_sl49 (up_m rfl up_h) up_h (by omega) (by first | (refine idx_map ?_; first | omega | (simp only [lnS]; omega)) | (refine idx_mapI ?_; first | omega | (simp only [lnS]; omega)) | (refine idx_mapN ?_; first | omega | (simp only [lnS]; omega)) | rfl)) (by simp only [pS, Value.cells, Nat.reduceAdd, iE] <;> rfl)) ⟨_, rfl, (u2 rfl (u4 rfl hb_17))⟩ rfl ?_
     refine ds_ro' (ro_eq (ro_ld_ref y57_ty3 rfl up_h (nle rfl)) (by simp only [pS, Value.cells, Nat.reduceAdd, iE] <;> rfl)) ⟨_, rfl, (up_m rfl (u2 rfl (u4 rfl hb_17)))⟩ rfl ?_
     refine ds_ro' (ro_call (evL_cons (up_m rfl (u2 rfl (u4 rfl up_h))) (evL_cons (u2 rfl (u4 rfl up_h)) (evL_cons (u4 rfl up_h) (evL_cons up_h evL_nil)))) rfl (h1) y57_hcf31) ⟨_, rfl, (u8 rfl hb_17)⟩ rfl ?_
     refine ds_ro' (ro_not up_h) ⟨_, rfl, (up_m rfl (u8 rfl hb_17))⟩ rfl ?_
     refine ds_ro' (ro_move up_h) ⟨_, rfl, (u2 rfl (u8 rfl hb_17))⟩ rfl ?_
     refine ds_case up_h (fun hb_18 hq_18 => ?_) (fun hb_18 hq_18 => ?_)
     ·replace hq_18 := bnt hq_18
      refine ds_ro' (ro_move (u2 rfl (u16 rfl s7_15))) ⟨_, rfl, hb_18⟩ rfl ?_
      refine ds_ro' (ro_move (up_m rfl (u2 rfl (u16 rfl s9_15)))) ⟨_, rfl, (up_m rfl hb_18)⟩ rfl ?_
      refine ds_ro' (ro_eq (ro_ix y57_sl49 (up_m rfl up_h) up_h (by omega) (by first | (refine idx_map ?_; first | omega | (simp only [lnS]; omega)) | (refine idx_mapI ?_; first | omega | (simp only [lnS]; omega)) | (refine idx_mapN ?_; first | omega | (simp only [lnS]; omega)) | rfl)) (by simp only [pS, Value.cells, Nat.reduceAdd, iE] <;> rfl)) ⟨_, rfl, (u2 rfl hb_18)⟩ rfl ?_
      refine ds_ro' (ro_eq (ro_ld_ref y57_ty3 rfl up_h (nle rfl)) (by simp only [pS, Value.cells, Nat.reduceAdd, iE] <;> rfl)) ⟨_, rfl, (up_m rfl (u2 rfl hb_18))⟩ rfl ?_
      refine ds_ro' (ro_gtr up_h ev_c) ⟨_, rfl, (u4 rfl hb_18)⟩ rfl ?_
      refine ds_ro' (ro_pickT (up_m rfl (u4 rfl hb_18)) up_h) ⟨_, rfl, (u16 rfl hb_17)⟩ rfl ?_
      refine dr (ro_pickF (up_m rfl (u16 rfl hb_17)) up_h) rfl <| dr (ro_move up_h) rfl <| ds_case up_h (fun hb_19 hq_19 => ?_) (fun hb_19 hq_19 => ?_)
      · first | (simp at hq_19; done) | (exact absurd hg hq_19) | (exact absurd hq_19 hg) | (exact absurd hq_19 hs) | (exact absurd hs hq_19) | (exact absurd (by simpa using hq_19) hs) | (exact absurd hs (by simpa using hq_19)) | (rw [hw] at hq_19; simp at hq_19; done) | (rcases hh with hh | hh <;> first | omega | exact absurd (of_decide_eq_true hh) hq_19 | exact absurd (of_decide_eq_true hh) (by assumption) | (rw [hh] at hq_19; exact absurd hq_19 (by decide)) | exact absurd hh (by assumption) | (exfalso; have hz := of_decide_eq_true hq_19; omega)) | (rcases hm1 with hm1 | hm1 <;> first | omega | exact absurd hq_19 (of_decide_eq_false hm1) | (rw [hm1] at hq_19; exact absurd hq_19 (by decide)) | (exfalso; have hz := of_decide_eq_true hq_19; omega))
      replace hq_19 := bf hq_19
      refine ds_ro' (ro_move (u2 rfl (u8 rfl (u16 rfl s7_15)))) ⟨_, rfl, hb_19⟩ rfl ?_
      refine ds_ro' (ro_move (up_m rfl (u2 rfl (u8 rfl (u16 rfl s9_15))))) ⟨_, rfl, (up_m rfl hb_19)⟩ rfl ?_
      refine ds_ro' (ro_eq (ro_ix y57_sl49 (up_m rfl up_h) up_h (by omega) (by first | (refine idx_map ?_; first | omega | (simp only [lnS]; omega)) | (refine idx_mapI ?_; first | omega | (simp only [lnS]; omega)) | (refine idx_mapN ?_; first | omega | (simp only [lnS]; omega)) | rfl)) (by simp only [pS, Value.cells, Nat.reduceAdd, iE] <;> rfl)) ⟨_, rfl, (u2 rfl hb_19)⟩ rfl ?_
      refine ds_ro' (ro_eq (ro_ld_ref y57_ty3 rfl up_h (nle rfl)) (by simp only [pS, Value.cells, Nat.reduceAdd, iE] <;> rfl)) ⟨_, rfl, (up_m rfl (u2 rfl hb_19))⟩ rfl ?_
      refine ds_ro' (ro_lss up_h ev_c) ⟨_, rfl, (u4 rfl hb_19)⟩ rfl ?_
      refine ds_ro' (ro_move up_h) ⟨_, rfl, (up_m rfl (u4 rfl hb_19))⟩ rfl ?_
      refine ds_case up_h (fun hb_20 hq_20 => ?_) (fun hb_20 hq_20 => ?_)
      ·replace hq_20 := bt hq_20
       refine ds_ro' (ro_eq (ro_ld_ptr y57_ty26 rfl mo0_14 (u16 rfl (u16 rfl s3_15)) (nle rfl)) (by simp only [pS, Value.cells, Nat.reduceAdd, iE] <;> rfl)) ⟨_, rfl, hb_20⟩ rfl ?_
       refine ds_ro' (ro_move (up_m rfl (u16 rfl (u16 rfl s1_15)))) ⟨_, rfl, (up_m rfl hb_20)⟩ rfl ?_
       refine ds_ro' (ro_move (u2 rfl (u16 rfl (u16 rfl s9_15)))) ⟨_, rfl, (u2 rfl hb_20)⟩ rfl ?_
       (refine ds_ro' (ro_add' up_h ev_c ?_) ⟨_, rfl, (up_m rfl (u2 rfl hb_20))⟩ rfl ?_; · (unfold In64; omega))
       refine ds_ro' (ro_move (u4 rfl (u16 rfl (u16 rfl s7_15)))) ⟨_, rfl, (u4 rfl hb_20)⟩ rfl ?_
       refine ds_ro' (ro_move (up_m rfl (u4 rfl (u16 rfl (u16 rfl s9_15))))) ⟨_, rfl, (up_m rfl (u4 rfl hb_20))⟩ rfl ?_
       refine ds_ro' (ro_eq (ro_ix y57_sl49 (up_m rfl up_h) up_h (by omega) (by first | (refine idx_map ?_; first | omega | (simp only [lnS]; omega)) | (refine idx_mapI ?_; first | omega | (simp only [lnS]; omega)) | (refine idx_mapN ?_; first | omega | (simp only [lnS]; omega)) | rfl)) (by simp only [pS, Value.cells, Nat.reduceAdd, iE] <;> rfl)) ⟨_, rfl, (u2 rfl (u4 rfl hb_20))⟩ rfl ?_
       refine ds_ro' (ro_eq (ro_ld_ref y57_ty3 rfl up_h (nle rfl)) (by simp only [pS, Value.cells, Nat.reduceAdd, iE] <;> rfl)) ⟨_, rfl, (up_m rfl (u2 rfl (u4 rfl hb_20)))⟩ rfl ?_
       (refine ds_ro' (ro_add' up_h ev_c ?_) ⟨_, rfl, (u8 rfl hb_20)⟩ rfl ?_; · (unfold In64; omega))
       refine ds_ro' (ro_call (evL_cons (u8 rfl up_h) (evL_cons (up_m rfl (u2 rfl (u4 rfl up_h))) (evL_cons (up_m rfl (u4 rfl up_h)) (evL_cons up_h evL_nil)))) rfl (h2) y57_hcf31) ⟨_, rfl, (up_m rfl (u8 rfl hb_20))⟩ rfl ?_
       refine ds_ro' (ro_pickT (u2 rfl (u8 rfl hb_20)) up_h) ⟨_, rfl, (u16 rfl hb_19)⟩ rfl ?_
       refine dr (ro_pickF (up_m rfl (u16 rfl hb_19)) up_h) rfl <| ds_nil <| ae6 (u4 rfl (u8 rfl (u16 rfl (u16 rfl s1_15)))) (u4 rfl (u8 rfl (u16 rfl (u16 rfl s2_15)))) (u4 rfl (u8 rfl (u16 rfl (u16 rfl s3_15)))) (u4 rfl (u8 rfl (u16 rfl (u16 rfl s7_15)))) (u4 rfl (u8 rfl (u16 rfl (u16 rfl s9_15)))) up_h ?_; clear hb_17 hb_18 hb_19 hb_20 s1_15 s2_15 s3_15 s49_15 s7_15 s9_15; intro e_21 s1_21 s2_21 s3_21 s7_21 s9_21 s95_21
       refine then_n <| aw_case s95_21 (fun hq_22 => ?_) (fun hq_22 => ?_)
       · first | (simp at hq_22; done) | (exact absurd hg hq_22) | (exact absurd hq_22 hg) | (exact absurd hq_22 hs) | (exact absurd hs hq_22) | (exact absurd (by simpa using hq_22) hs) | (exact absurd hs (by simpa using hq_22)) | (rw [hw] at hq_22; simp at hq_22; done) | (rcases hh with hh | hh <;> first | omega | exact absurd (of_decide_eq_true hh) hq_22 | exact absurd (of_decide_eq_true hh) (by assumption) | (rw [hh] at hq_22; exact absurd hq_22 (by decide)) | exact absurd hh (by assumption) | (exfalso; have hz := of_decide_eq_true hq_22; omega)) | (rcases hm1 with hm1 | hm1 <;> first | omega | exact absurd hq_22 (of_decide_eq_false hm1) | (rw [hm1] at hq_22; exact absurd hq_22 (by decide)) | (exfalso; have hz := of_decide_eq_true hq_22; omega))
       replace hq_22 := bf hq_22
       refine aw_skip <| block_n <| then_n <| at_ <| ar (ro_move s9_21) rfl ?_
       (refine ar (ro_add' up_h ev_c ?_) rfl ?_; · (unfold In64; omega))
       refine ar (ro_assign up_h) rfl <| ae5 (up_m rfl (u2 rfl s1_21)) (up_m rfl (u2 rfl s2_21)) (up_m rfl (u2 rfl s3_21)) (up_m rfl (u2 rfl s7_21)) up_h ?_; clear s1_21 s2_21 s3_21 s7_21 s95_21 s9_21; intro e_23 s1_23 s2_23 s3_23 s7_23 s9_23
       refine then_n <| ⟨_, ⟨s9_23, (s1_23.trans s1_13.symm), (s2_23.trans s2_13.symm), (s3_23.trans s3_13.symm), (s7_23.trans s7_13.symm), (mo0_14.trans mo0_1.symm), ml_14, ?_⟩, ?_⟩
       · (exact ⟨by omega, by omega⟩)
       · ((try dsimp only); omega)
      · replace hq_20 := bf hq_20; exfalso; omega
     replace hq_18 := bnf hq_18
     refine ds_skip' ⟨_, rfl, .inl hb_18⟩ rfl ?_
     refine ds_skip' ⟨_, rfl, .inl (up_m rfl hb_18)⟩ rfl ?_
     refine ds_skip' ⟨_, rfl, .inl (u2 rfl hb_18)⟩ rfl ?_
     refine ds_skip' ⟨_, rfl, .inl (up_m rfl (u2 rfl hb_18))⟩ rfl ?_
     refine ds_skip' ⟨_, rfl, .inl (u4 rfl hb_18)⟩ rfl ?_
     refine ds_ro' (ro_pickF (up_m rfl (u4 rfl hb_18)) ev_c) ⟨_, rfl, (u16 rfl hb_17)⟩ rfl ?_
     refine dr (ro_pickF (up_m rfl (u16 rfl hb_17)) up_h) rfl <| dr (ro_move up_h) rfl <| ds_ro' (ro_move (u2 rfl (u8 rfl (u16 rfl s7_15)))) ⟨_, rfl, up_h⟩ rfl ?_
     refine ds_ro' (ro_move (up_m rfl (u2 rfl (u8 rfl (u16 rfl s9_15))))) ⟨_, rfl, (up_m rfl up_h)⟩ rfl ?_
     refine ds_ro' (ro_eq (ro_ix y57_sl49 (up_m rfl up_h) up_h (by omega) (by first | (refine idx_map ?_; first | omega | (simp only [lnS]; omega)) | (refine idx_mapI ?_; first | omega | (simp only [lnS]; omega)) | (refine idx_mapN ?_; first | omega | (simp only [lnS]; omega)) | rfl)) (by simp only [pS, Value.cells, Nat.reduceAdd, iE] <;> rfl)) ⟨_, rfl, (u2 rfl up_h)⟩ rfl ?_
     refine ds_ro' (ro_eq (ro_ld_ref y57_ty3 rfl up_h (nle rfl)) (by simp only [pS, Value.cells, Nat.reduceAdd, iE] <;> rfl)) ⟨_, rfl, (up_m rfl (u2 rfl up_h))⟩ rfl ?_
     refine ds_ro' (ro_lss up_h ev_c) ⟨_, rfl, (u4 rfl up_h)⟩ rfl ?_
     refine ds_ro' (ro_move up_h) ⟨_, rfl, (up_m rfl (u4 rfl up_h))⟩ rfl ?_
     refine ds_case up_h (fun hb_27 hq_27 => ?_) (fun hb_27 hq_27 => ?_)
     ·replace hq_27 := bt hq_27
      refine ds_ro' (ro_eq (ro_ld_ptr y57_ty26 rfl mo0_14 (u16 rfl (u16 rfl s3_15)) (nle rfl)) (by simp only [pS, Value.cells, Nat.reduceAdd, iE] <;> rfl)) ⟨_, rfl, hb_27⟩ rfl ?_
      refine ds_ro' (ro_move (up_m rfl (u16 rfl (u16 rfl s1_15)))) ⟨_, rfl, (up_m rfl hb_27)⟩ rfl ?_
      refine ds_ro' (ro_move (u2 rfl (u16 rfl (u16 rfl s9_15)))) ⟨_, rfl, (u2 rfl hb_27)⟩ rfl ?_
      (refine ds_ro' (ro_add' up_h ev_c ?_) ⟨_, rfl, (up_m rfl (u2 rfl hb_27))⟩ rfl ?_; · (unfold In64; omega))
      refine ds_ro' (ro_move (u4 rfl (u16 rfl (u16 rfl s7_15)))) ⟨_, rfl, (u4 rfl hb_27)⟩ rfl ?_
      refine ds_ro' (ro_move (up_m rfl (u4 rfl (u16 rfl (u16 rfl s9_15))))) ⟨_, rfl, (up_m rfl (u4 rfl hb_27))⟩ rfl ?_
      refine ds_ro' (ro_eq (ro_ix y57_sl49 (up_m rfl up_h) up_h (by omega) (by first | (refine idx_map ?_; first | omega | (simp only [lnS]; omega)) | (refine idx_mapI ?_; first | omega | (simp only [lnS]; omega)) | (refine idx_mapN ?_; first | omega | (simp only [lnS]; omega)) | rfl)) (by simp only [pS, Value.cells, Nat.reduceAdd, iE] <;> rfl)) ⟨_, rfl, (u2 rfl (u4 rfl hb_27))⟩ rfl ?_
      refine ds_ro' (ro_eq (ro_ld_ref y57_ty3 rfl up_h (nle rfl)) (by simp only [pS, Value.cells, Nat.reduceAdd, iE] <;> rfl)) ⟨_, rfl, (up_m rfl (u2 rfl (u4 rfl hb_27)))⟩ rfl ?_
      (refine ds_ro' (ro_add' up_h ev_c ?_) ⟨_, rfl, (u8 rfl hb_27)⟩ rfl ?_; · (unfold In64; omega))
      refine ds_ro' (ro_call (evL_cons (u8 rfl up_h) (evL_cons (up_m rfl (u2 rfl (u4 rfl up_h))) (evL_cons (up_m rfl (u4 rfl up_h)) (evL_cons up_h evL_nil)))) rfl (h2) y57_hcf31) ⟨_, rfl, (up_m rfl (u8 rfl hb_27))⟩ rfl ?_
      refine ds_ro' (ro_pickT (u2 rfl (u8 rfl hb_27)) up_h) ⟨_, rfl, (u16 rfl up_h)⟩ rfl ?_
      refine dr (ro_pickF (up_m rfl (u16 rfl up_h)) up_h) rfl <| ds_nil <| ae6 (u4 rfl (u8 rfl (u16 rfl (u16 rfl s1_15)))) (u4 rfl (u8 rfl (u16 rfl (u16 rfl s2_15)))) (u4 rfl (u8 rfl (u16 rfl (u16 rfl s3_15)))) (u4 rfl (u8 rfl (u16 rfl (u16 rfl s7_15)))) (u4 rfl (u8 rfl (u16 rfl (u16 rfl s9_15)))) up_h ?_; clear hb_17 hb_18 hb_27 s1_15 s2_15 s3_15 s49_15 s7_15 s9_15; intro e_28 s1_28 s2_28 s3_28 s7_28 s9_28 s95_28
      refine then_n <| aw_case s95_28 (fun hq_29 => ?_) (fun hq_29 => ?_)
      · first | (simp at hq_29; done) | (exact absurd hg hq_29) | (exact absurd hq_29 hg) | (exact absurd hq_29 hs) | (exact absurd hs hq_29) | (exact absurd (by simpa using hq_29) hs) | (exact absurd hs (by simpa using hq_29)) | (rw [hw] at hq_29; simp at hq_29; done) | (rcases hh with hh | hh <;> first | omega | exact absurd (of_decide_eq_true hh) hq_29 | exact absurd (of_decide_eq_true hh) (by assumption) | (rw [hh] at hq_29; exact absurd hq_29 (by decide)) | exact absurd hh (by assumption) | (exfalso; have hz := of_decide_eq_true hq_29; omega)) | (rcases hm1 with hm1 | hm1 <;> first | omega | exact absurd hq_29 (of_decide_eq_false hm1) | (rw [hm1] at hq_29; exact absurd hq_29 (by decide)) | (exfalso; have hz := of_decide_eq_true hq_29; omega))
      replace hq_29 := bf hq_29
      refine aw_skip <| block_n <| then_n <| at_ <| ar (ro_move s9_28) rfl ?_
      (refine ar (ro_add' up_h ev_c ?_) rfl ?_; · (unfold In64; omega))
      refine ar (ro_assign up_h) rfl <| ae5 (up_m rfl (u2 rfl s1_28)) (up_m rfl (u2 rfl s2_28)) (up_m rfl (u2 rfl s3_28)) (up_m rfl (u2 rfl s7_28)) up_h ?_; clear s1_28 s2_28 s3_28 s7_28 s95_28 s9_28; intro e_30 s1_30 s2_30 s3_30 s7_30 s9_30
      refine then_n <| ⟨_, ⟨s9_30, (s1_30.trans s1_13.symm), (s2_30.trans s2_13.symm), (s3_30.trans s3_13.symm), (s7_30.trans s7_13.symm), (mo0_14.trans mo0_1.symm), ml_14, ?_⟩, ?_⟩
      · (exact ⟨by omega, by omega⟩)
      · ((try dsimp only); omega)
     replace hq_27 := bf hq_27
     refine ds_skip' ⟨_, rfl, .inl hb_27⟩ rfl ?_
     refine ds_skip' ⟨_, rfl, .inl (up_m rfl hb_27)⟩ rfl ?_
     refine ds_skip' ⟨_, rfl, .inl (u2 rfl hb_27)⟩ rfl ?_
     refine ds_skip' ⟨_, rfl, .inl (up_m rfl (u2 rfl hb_27))⟩ rfl ?_
     refine ds_skip' ⟨_, rfl, .inl (u4 rfl hb_27)⟩ rfl ?_
     refine ds_skip' ⟨_, rfl, .inl (up_m rfl (u4 rfl hb_27))⟩ rfl ?_
     refine ds_skip' ⟨_, rfl, .inl (u2 rfl (u4 rfl hb_27))⟩ rfl ?_
     refine ds_skip' ⟨_, rfl, .inl (up_m rfl (u2 rfl (u4 rfl hb_27)))⟩ rfl ?_
     refine ds_skip' ⟨_, rfl, .inl (u8 rfl hb_27)⟩ rfl ?_
     refine ds_skip' ⟨_, rfl, .inl (up_m rfl (u8 rfl hb_27))⟩ rfl ?_
     refine ds_ro' (ro_pickF (u2 rfl (u8 rfl hb_27)) ev_c) ⟨_, rfl, (u16 rfl up_h)⟩ rfl ?_
     refine dr (ro_pickF (up_m rfl (u16 rfl up_h)) up_h) rfl <| ds_nil <| ae6 (u4 rfl (u8 rfl (u16 rfl (u16 rfl s1_15)))) (u4 rfl (u8 rfl (u16 rfl (u16 rfl s2_15)))) (u4 rfl (u8 rfl (u16 rfl (u16 rfl s3_15)))) (u4 rfl (u8 rfl (u16 rfl (u16 rfl s7_15)))) (u4 rfl (u8 rfl (u16 rfl (u16 rfl s9_15)))) up_h ?_; clear hb_17 hb_18 hb_27 s1_15 s2_15 s3_15 s49_15 s7_15 s9_15; intro e_31 s1_31 s2_31 s3_31 s7_31 s9_31 s95_31
     refine then_n <| aw_false s95_31 <| aw_skip <| block_n <| then_n <| at_ <| ar (ro_move s9_31) rfl ?_
     (refine ar (ro_add' up_h ev_c ?_) rfl ?_; · (unfold In64; omega))
     refine ar (ro_assign up_h) rfl <| ae5 (up_m rfl (u2 rfl s1_31)) (up_m rfl (u2 rfl s2_31)) (up_m rfl (u2 rfl s3_31)) (up_m rfl (u2 rfl s7_31)) up_h ?_; clear s1_31 s2_31 s3_31 s7_31 s95_31 s9_31; intro e_33 s1_33 s2_33 s3_33 s7_33 s9_33
     refine then_n <| ⟨_, ⟨s9_33, (s1_33.trans s1_13.symm), (s2_33.trans s2_13.symm), (s3_33.trans s3_13.symm), (s7_33.trans s7_13.symm), (mo0_14.trans mo0_1.symm), ml_14, ?_⟩, ?_⟩
     · (exact ⟨by omega, by omega⟩)
     · ((try dsimp only); omega)
    replace hq_16 := bf hq_16
    refine aw_exit <| then_x <| then_x <| block_hit <| then_n <| aw_seq <| aw_seq <| at_ <| ar (ro_move s2_15) rfl <| ar (ro_move (up_m rfl s1_15)) rfl <| ar (ro_call (evL_cons (up_m rfl up_h) (evL_cons up_h (evL_cons ev_c evL_nil))) rfl (bWithin_ok _ _ _) y57_hcf30) rfl <| ar (ro_not up_h) rfl <| ae4 (u4 rfl s2_15) (u4 rfl s3_15) (u4 rfl s7_15) up_h ?_; clear s1_15 s2_15 s3_15 s49_15 s7_15 s9_15; intro e_34 s2_34 s3_34 s7_34 s99_34
    refine then_n <| aw_case s99_34 (fun hq_35 => ?_) (fun hq_35 => ?_)
    ·replace hq_35 := bt' hq_35
     refine aw_seq <| at_ <| ar (ro_assign ev_c) rfl <| ae1 up_h ?_; clear s2_34 s3_34 s7_34 s99_34; intro e_36 s6_36
     refine then_n <| aw_ret <| then_r <| ret1 (.inr rfl) (by kernel_rfl) (resV_tmp s6_36) (.ro _ rfl) ?_
     clear s6_36 mo0_14 ml_14
     first | rfl | simp_all
    replace hq_35 := bf' hq_35
    (have hm : 0 ≤ m ∧ m ≤ 5000 := (by have hwm := withinB_iff.1 (show withinB m sd 5000 = true by assumption); omega); have hsm : sd ≤ m := (withinB_iff.1 (show withinB m sd 5000 = true by assumption)).1)
    refine aw_skip <| then_n <| aw_seq <| at_ <| ar (ro_eq (ro_ld_ptr y57_ty26 rfl mo0_14 s3_34 (nle rfl)) (by simp only [pS, Value.cells, Nat.reduceAdd, iE] <;> rfl)) rfl ?_
    refine ar (ro_call (evL_cons up_h evL_nil) rfl (yCopy_ok l hl) y57_hcf18) rfl <| ar (ro_move (u2 rfl s2_34)) rfl <| ar (ro_call (evL_cons (up_m rfl up_h) (evL_cons up_h evL_nil)) rfl (limitsOf_good l hl hg m (sidE_z.2 hm)) y57_hcf24) rfl <| ar (ro_move up_h) rfl <| ar (ro_extract up_h rfl) rfl <| ar (ro_extract (up_m rfl up_h) rfl) rfl <| ar (ro_assign (up_m rfl up_h)) rfl <| ar (ro_assign (up_m rfl up_h)) rfl <| ae3 (up_m rfl (u8 rfl s7_34)) (up_m rfl up_h) up_h ?_; clear s2_34 s3_34 s7_34 s99_34; intro e_37 s7_37 s10_37 s11_37
    refine then_n <| aw_seq <| aw_seq <| at_ <| ar (ro_move s11_37) rfl <| ar (ro_neq up_h ev_c) rfl <| ar (ro_move up_h) rfl <| al_case up_h (fun hb_38 hq_38 => ?_) (fun hb_38 hq_38 => ?_)
    · cases hq_38
    replace hq_38 := bnf hq_38
    refine al_ro' (ro_move (up_m rfl (u2 rfl s10_37))) ⟨_, rfl, hb_38⟩ rfl ?_
    refine al_ro' (ro_eq (ro_len_row up_h rfl y57_sl49.1) (by simp only [lnS] <;> rfl)) ⟨_, rfl, (up_m rfl hb_38)⟩ rfl ?_
    refine al_ro' (ro_move (up_m rfl (u4 rfl s7_37))) ⟨_, rfl, (u2 rfl hb_38)⟩ rfl ?_
    refine al_ro' (ro_eq (ro_len_row up_h rfl y57_sl49.1) (by simp only [lnS] <;> rfl)) ⟨_, rfl, (up_m rfl (u2 rfl hb_38))⟩ rfl ?_
    refine al_ro' (ro_neq (u2 rfl up_h) up_h) ⟨_, rfl, (u4 rfl hb_38)⟩ rfl ?_
    refine ar (ro_pickF (up_m rfl (u4 rfl hb_38)) up_h) rfl <| ae3 (up_m rfl (u8 rfl s7_37)) (up_m rfl (u8 rfl s10_37)) up_h ?_; clear hb_38 s10_37 s11_37 s7_37; intro e_39 s7_39 s10_39 s115_39
    refine then_n <| aw_case s115_39 (fun hq_40 => ?_) (fun hq_40 => ?_)
    · replace hq_40 := bnt hq_40; exfalso; omega
    replace hq_40 := bnf hq_40
    refine aw_skip <| then_n <| aw_seq <| aw_seq <| at_ <| ar (ro_assign ev_c) rfl <| ae3 (up_m rfl s7_39) (up_m rfl s10_39) up_h ?_; clear s10_39 s115_39 s7_39; intro e_41 s7_41 s10_41 s12_41
    refine then_n <| aw_block <| aw_loop (S := Int) (fun i e mem => (evA e (.tmp 12) = .v (.int .i64 i)) ∧ (evA e (.tmp 7) = evA e_41 (.tmp 7)) ∧ (evA e (.tmp 10) = evA e_41 (.tmp 10)) ∧ (mem[0]? = m_14[0]?) ∧ (mem.length = 1) ∧ ((0 ≤ i ∧ i ≤ (limL l sd (l.js.length - 2)).length))) (fun i => ((limL l sd (l.js.length - 2)).length - i).toNat) _ ⟨s12_41, rfl, rfl, rfl, ml_14, ?_⟩ ?_
    · (exact ⟨by omega, by omega⟩)
    · rintro i e_42 m_42 ⟨s12_42, k7_42, k10_42, mk0_42, ml_42, hinv⟩
      have s7_42 := k7_42.trans s7_41
      have s10_42 := k10_42.trans s10_41
      have mo0_42 := mk0_42.trans mo0_14
      (obtain ⟨p1, p2⟩ := hinv)
      refine aw_seq <| aw_seq <| at_ <| ar (ro_move s12_42) rfl <| ar (ro_move (up_m rfl s7_42)) rfl <| ar (ro_eq (ro_len_row up_h rfl y57_sl49.1) (by simp only [lnS] <;> rfl)) rfl ?_
      refine ar (ro_lss (u2 rfl up_h) up_h) rfl <| ae4 (u4 rfl s7_42) (u4 rfl s10_42) (u4 rfl s12_42) up_h ?_; clear s10_42 s12_42 s7_42; intro e_43 s7_43 s10_43 s12_43 s119_43
      refine then_n <| aw_case s119_43 (fun hq_44 => ?_) (fun hq_44 => ?_)
      ·replace hq_44 := bt hq_44
       (have hx1 : (limL l sd (l.js.length - 2)).getD i.toNat default = limV l sd (i.toNat + 1) := limL_at l sd (by omega); have hx2 : (limL l m (l.js.length - 2)).getD i.toNat default = limV l m (i.toNat + 1) := limL_at l m (by omega); have hmo := lim_mono hr (show 1 ≤ i.toNat + 1 ∧ (i.toNat + 1) + 2 ≤ l.js.length by omega) hsm)
       refine aw_skip <| then_n <| aw_seq <| aw_block <| aw_seq <| aw_draw 9 (by kernel_rfl) (by kernel_rfl) (by kernel_rfl) (by kernel_rfl) ?_
       refine dr (ro_move s10_43) rfl <| dr (ro_move (up_m rfl s12_43)) rfl <| dr (ro_eq (ro_ix y57_sl49 (up_m rfl up_h) up_h (by omega) (by first | (refine idx_map ?_; first | omega | (simp only [lnS]; omega)) | (refine idx_mapI ?_; first | omega | (simp only [lnS]; omega)) | (refine idx_mapN ?_; first | omega | (simp only [lnS]; omega)) | rfl)) (by simp only [pS, Value.cells, Nat.reduceAdd, iE] <;> rfl)) rfl ?_
       refine dr (ro_eq (ro_ld_ref y57_ty3 rfl up_h (nle rfl)) (by simp only [pS, Value.cells, Nat.reduceAdd, iE] <;> rfl)) rfl ?_
       refine dr (ro_move (u4 rfl s7_43)) rfl <| dr (ro_move (up_m rfl (u4 rfl s12_43))) rfl <| dr (ro_eq (ro_ix y57_sl49 (up_m rfl up_h) up_h (by omega) (by first | (refine idx_map ?_; first | omega | (simp only [lnS]; omega)) | (refine idx_mapI ?_; first | omega | (simp only [lnS]; omega)) | (refine idx_mapN ?_; first | omega | (simp only [lnS]; omega)) | rfl)) (by simp only [pS, Value.cells, Nat.reduceAdd, iE] <;> rfl)) rfl ?_
       refine dr (ro_eq (ro_ld_ref y57_ty3 rfl up_h (nle rfl)) (by simp only [pS, Value.cells, Nat.reduceAdd, iE] <;> rfl)) rfl ?_
       refine dr (ro_lss (u4 rfl up_h) up_h) rfl <| ds_nil <| ae4 (up_m rfl (u8 rfl s7_43)) (up_m rfl (u8 rfl s10_43)) (up_m rfl (u8 rfl s12_43)) up_h ?_; clear s10_43 s119_43 s12_43 s7_43; intro e_45 s7_45 s10_45 s12_45 s130_45
       refine then_n <| aw_case s130_45 (fun hq_46 => ?_) (fun hq_46 => ?_)
       · replace hq_46 := bt hq_46; exfalso; omega
       replace hq_46 := bf hq_46
       refine aw_skip <| block_n <| then_n <| at_ <| ar (ro_move s12_45) rfl ?_
       (refine ar (ro_add' up_h ev_c ?_) rfl ?_; · (unfold In64; omega))
       refine ar (ro_assign up_h) rfl <| ae3 (up_m rfl (u2 rfl s7_45)) (up_m rfl (u2 rfl s10_45)) up_h ?_; clear s10_45 s12_45 s130_45 s7_45; intro e_47 s7_47 s10_47 s12_47
       refine then_n <| ⟨_, ⟨s12_47, (s7_47.trans s7_41.symm), (s10_47.trans s10_41.symm), (mo0_42.trans mo0_14.symm), ml_42, ?_⟩, ?_⟩
       · (exact ⟨by omega, by omega⟩)
       · ((try dsimp only); omega)
      replace hq_44 := bf hq_44
      refine aw_exit <| then_x <| then_x <| block_hit <| then_n <| aw_seq <| at_ <| ar (ro_assign ev_c) rfl <| ae1 up_h ?_; clear s10_43 s119_43 s12_43 s7_43; intro e_48 s6_48
      refine then_n <| aw_ret <| ret1 (.inr rfl) (by kernel_rfl) (resV_tmp s6_48) (.ro _ rfl) ?_
      clear s6_48 mo0_42 ml_42
      first | rfl | simp_all
theorem linePermitted_ok (l : Lin) (sd m : Int) : FnOk Try.prog 5 [lnA l, mA sd, mA m] (fun q => q = tbA true) := by
  cases hf : fewL l with
  | false => exact linePermitted_many l hf sd m
  | true =>
    by_cases hg : (linM l).2 = 0
    · by_cases hs : sidE sd = 0
      · exact linePermitted_in l hf hg sd m hs
      · exact linePermitted_side l hf hg sd m hs
    · exact linePermitted_bad l hf hg sd m
end Go.Proofs.Ytonjcljnpcmenaa

