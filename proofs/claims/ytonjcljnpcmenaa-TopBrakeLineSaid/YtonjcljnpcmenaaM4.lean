/- Texts of this claim, one behind the other: lemmas for the statement. -/
import Derived.Test.YtonjcljnpcmenaaM3
import Derived.Test.YtonjcljnpcmenaaT0
/- Contracts of chapter 1: a line of few items. No conditions on a program. -/
namespace Go.Proofs.Ytonjcljnpcmenaa
open Go Go.RowKit Go.Proofs
set_option linter.unusedSimpArgs false
set_option linter.unusedVariables false
end Go.Proofs.Ytonjcljnpcmenaa

/- Contracts of chapter 1: a line copied. No conditions on a program. -/
namespace Go.Proofs.Ytonjcljnpcmenaa
open Go Go.RowKit Go.Proofs
set_option linter.unusedSimpArgs false
set_option linter.unusedVariables false
theorem y13_az26 : (Try.prog.info? 26).bind (·.zero) = some (.agg #[.string ByteArray.empty, .slice none 0 0, .slice none 0 0, .slice none 0 0]) := by kernel_rfl
theorem y13_hcf75 : ∀ args w, (callFunc 75 args).run Try.prog w = .ok (.enter 75 args) w := fun _ _ => by kernel_rfl
theorem y13_sl22 : SlIs Try.prog 22 70 4 32 (.agg #[.int .i64 0, .int .i64 0, .int .i64 0, .int .i64 0]) := ⟨by kernel_rfl, by kernel_rfl, by kernel_rfl⟩
theorem y13_sl23 : SlIs Try.prog 23 87 2 16 (.agg #[.int .i64 0, .int .i64 0]) := ⟨by kernel_rfl, by kernel_rfl, by kernel_rfl⟩
theorem y13_sl24 : SlIs Try.prog 24 91 3 48 (.agg #[.string ByteArray.empty, .int .i64 0, .slice none 0 0]) := ⟨by kernel_rfl, by kernel_rfl, by kernel_rfl⟩
theorem y13_sl49 : SlIs Try.prog 49 3 1 8 (.int .i64 0) := ⟨by kernel_rfl, by kernel_rfl, by kernel_rfl⟩
theorem y13_sz22 : (Try.prog.info? 22).map (·.size) = some 1 := by kernel_rfl
theorem y13_sz23 : (Try.prog.info? 23).map (·.size) = some 1 := by kernel_rfl
theorem y13_sz24 : (Try.prog.info? 24).map (·.size) = some 1 := by kernel_rfl
theorem y13_sz26 : (Try.prog.info? 26).map (·.size) = some 4 := by kernel_rfl
theorem y13_ty22 : TyIs Try.prog 22 false 1 := ⟨by kernel_rfl, by kernel_rfl⟩
theorem y13_ty23 : TyIs Try.prog 23 false 1 := ⟨by kernel_rfl, by kernel_rfl⟩
theorem y13_ty24 : TyIs Try.prog 24 false 1 := ⟨by kernel_rfl, by kernel_rfl⟩
theorem y13_ty26 : TyIs Try.prog 26 true 4 := ⟨by kernel_rfl, by kernel_rfl⟩
theorem y13_ty49 : TyIs Try.prog 49 false 1 := ⟨by kernel_rfl, by kernel_rfl⟩
theorem y13_ty91 : TyIs Try.prog 91 true 3 := ⟨by kernel_rfl, by kernel_rfl⟩

theorem one_swE (a : ByteArray) (b : Int) (c : List Int) : [[AV.v (.string a), AV.v (.int .i64 b), AV.row 1 (c.map iE)]] = [(⟨a, b, c⟩ : Swi)].map swE := rfl
theorem take_suc {l : List Swi} {i : Int} (h0 : 0 ≤ i) (h : i < l.length) : l.take (i + 1).toNat = l.take i.toNat ++ [l.getD i.toNat default] := by
  rw [show (i + 1).toNat = i.toNat + 1 by omega, List.take_add_one, List.getElem?_eq_getElem (by omega : i.toNat < l.length), List.getD_eq_getElem?_getD, List.getElem?_eq_getElem (by omega : i.toNat < l.length)]
  rfl
set_option maxRecDepth 100000 in
set_option maxHeartbeats 1000000 in
theorem yCopyInts_ok (xs : List Int) (hc : xs.length ≤ 1000000) : FnOk Try.prog 75 [.row 1 (xs.map iE)] (fun q => q = .row 1 (xs.map iE)) := by
  refine fnOk_of (fn := Try.f75) 6 (by kernel_rfl) rfl (by kernel_rfl) (Nat.le_of_ble_eq_true rfl) ?_
  intro e_0 m_0 hA hm_0
  have s0_0 : evA e_0 (.tmp 0) = _ := hA 0 _ rfl
  have ml_0 : m_0.length = 0 := by rw [hm_0]; rfl
  clear hA hm_0
  refine aw_seq <| at_ <| ar (ro_assign ev_c) rfl <| ae1 (up_m rfl s0_0) ?_; clear s0_0; intro e_1 s0_1
  refine then_n <| aw_seq <| at_ <| ar (ro_lit0 y13_sl49) rfl <| ar (ro_move (up_m rfl s0_1)) rfl <| ar (ro_ape y13_sl49 rfl (up_m rfl up_h) up_h (by simp only [lnS] <;> omega)) rfl ?_
  refine ar (ro_assign up_h) rfl <| ae1 up_h ?_; clear s0_1; intro e_2 s2_2
  refine then_n <| aw_ret <| ret1 (.inr rfl) (by kernel_rfl) (resV_tmp s2_2) (.ro _ rfl) ?_
  clear s2_2  ml_0
  rfl
set_option maxRecDepth 100000 in
set_option maxHeartbeats 4000000 in
theorem yCopy_ok (l : Lin) (hl : Sho l) : FnOk Try.prog 18 [lnA l] (fun q => q = lnA l) := by
  obtain ⟨h1, h2, h3, h4, h5⟩ := id hl
  refine fnOk_of (fn := Try.f18) 39 (by kernel_rfl) rfl (by kernel_rfl) (Nat.le_of_ble_eq_true rfl) ?_
  intro e_0 m_0 hA hm_0
  have s0_0 : evA e_0 (.tmp 0) = _ := hA 0 _ rfl
  have ml_0 : m_0.length = 0 := by rw [hm_0]; rfl
  clear hA hm_0
  refine aw_seq <| at_ <| al_stm (st_box s0_0 rfl ml_0) trivial rfl (fun m_1 hm_1 => ?_)
  have mo0_1 := m_push hm_1 ml_0
  have ml_1 := m_push_l hm_1 ml_0
  have ml_1 : _ = 1 := ml_1
  clear hm_1
  refine al_stm (st_alloc y13_az26 rfl ml_1) trivial rfl (fun m_2 hm_2 => ?_)
  have mo1_2 := m_push hm_2 ml_1
  simp only [pS, Value.cells, Nat.reduceAdd, swE, one_swE, app_m] at mo1_2
  have mo0_2 := m_push_o hm_2 mo0_1
  have ml_2 := m_push_l hm_2 ml_1
  have ml_2 : _ = 2 := ml_2
  clear hm_2 mo0_1
  refine ae2 (up_m rfl up_h) up_h ?_; clear s0_0; intro e_3 s1_3 s2_3
  refine then_n <| aw_seq <| at_ <| ar (ro_lit0 y13_sl22) rfl <| ar (ro_fld_ptr qfl26_1 rfl (up_m rfl s1_3)) rfl <| ar (ro_eq (ro_ld_ptr y13_ty22 rfl mo0_2 up_h (nle rfl)) (by simp only [pS, Value.cells, Nat.reduceAdd, swE, one_swE, app_m] <;> rfl)) rfl ?_
  refine ar (ro_ape y13_sl22 rfl (u2 rfl up_h) up_h (by simp only [lnS] <;> omega)) rfl ?_
  refine ar (ro_fld_ptr qfl26_1 rfl (u4 rfl s1_3)) rfl <| al_stm (st_store up_h (up_m rfl up_h) rfl rfl mo0_2 y13_sz22 rfl (nle rfl)) trivial rfl (fun m_4 hm_4 => ?_)
  have mo0_4 := m_set hm_4 mo0_2
  simp only [pS, Value.cells, Nat.reduceAdd, swE, one_swE, app_m] at mo0_4
  have mo1_4 := m_set_o hm_4 mo1_2 (by decide)
  have ml_4 := m_set_l hm_4 ml_2
  clear hm_4 mo1_2 mo0_2
  refine ae2 (up_n (up_m rfl (u4 rfl s1_3))) (up_n (up_m rfl (u4 rfl s2_3))) ?_; clear s1_3 s2_3; intro e_5 s1_5 s2_5
  refine then_n <| aw_seq <| at_ <| ar (ro_lit0 y13_sl23) rfl <| ar (ro_fld_ptr qfl26_2 rfl (up_m rfl s1_5)) rfl <| ar (ro_eq (ro_ld_ptr y13_ty23 rfl mo0_4 up_h (nle rfl)) (by simp only [pS, Value.cells, Nat.reduceAdd, swE, one_swE, app_m] <;> rfl)) rfl ?_
  refine ar (ro_ape y13_sl23 rfl (u2 rfl up_h) up_h (by simp only [lnS] <;> omega)) rfl ?_
  refine ar (ro_fld_ptr qfl26_2 rfl (u4 rfl s1_5)) rfl <| al_stm (st_store up_h (up_m rfl up_h) rfl rfl mo0_4 y13_sz23 rfl (nle rfl)) trivial rfl (fun m_6 hm_6 => ?_)
  have mo0_6 := m_set hm_6 mo0_4
  simp only [pS, Value.cells, Nat.reduceAdd, swE, one_swE, app_m] at mo0_6
  have mo1_6 := m_set_o hm_6 mo1_4 (by decide)
  have ml_6 := m_set_l hm_6 ml_4
  clear hm_6 mo0_4 mo1_4
  refine ae2 (up_n (up_m rfl (u4 rfl s1_5))) (up_n (up_m rfl (u4 rfl s2_5))) ?_; clear s1_5 s2_5; intro e_7 s1_7 s2_7
  refine then_n <| aw_seq <| at_ <| ar (ro_assign ev_c) rfl <| ae3 (up_m rfl s1_7) (up_m rfl s2_7) up_h ?_; clear s1_7 s2_7; intro e_8 s1_8 s2_8 s3_8
  refine then_n <| aw_seq <| aw_seq <| at_ <| ar (ro_assign ev_c) rfl <| ae4 (up_m rfl s1_8) (up_m rfl s2_8) (up_m rfl s3_8) up_h ?_; clear s1_8 s2_8 s3_8; intro e_9 s1_9 s2_9 s3_9 s4_9
  refine then_n <| aw_block <| aw_adopt 91 3 s3_9 ml_6 (fun m_10 e_10 hm_10 he_10 => ?_)
  have mo2_10 := m_push hm_10 ml_6
  have mo0_10 := m_push_o hm_10 mo0_6
  have mo1_10 := m_push_o hm_10 mo1_6
  have ml_10 := m_push_l hm_10 ml_6
  have ml_10 : _ = 3 := ml_10
  have s1_10 : evA e_10 (.tmp 1) = _ := (congrArg (fun q => evA q (.tmp 1)) he_10).trans (up_m rfl s1_9)
  have s2_10 : evA e_10 (.tmp 2) = _ := (congrArg (fun q => evA q (.tmp 2)) he_10).trans (up_m rfl s2_9)
  have s3_10 : evA e_10 (.tmp 3) = _ := (congrArg (fun q => evA q (.tmp 3)) he_10).trans up_h
  have s4_10 : evA e_10 (.tmp 4) = _ := (congrArg (fun q => evA q (.tmp 4)) he_10).trans (up_m rfl s4_9)
  clear hm_10 he_10
  refine aw_loop (S := (Int × List Swi)) (fun s e mem => match s with | ⟨k, xs⟩ => (evA e (.tmp 4) = .v (.int .i64 k)) ∧ (evA e (.tmp 1) = evA e_10 (.tmp 1)) ∧ (evA e (.tmp 2) = evA e_10 (.tmp 2)) ∧ (mem[0]? = m_10[0]?) ∧ (mem[1]? = m_10[1]?) ∧ (∃ j, evA e (.tmp 3) = .own j ∧ mem[j]? = some (.row 91 3 (xs.map swE)) ∧ j ≠ 0 ∧ j ≠ 1) ∧ (∃ n, mem.length = n ∧ 3 ≤ n) ∧ ((0 ≤ k ∧ k ≤ l.ss.length ∧ xs = l.ss.take k.toNat))) (fun s => match s with | ⟨k, xs⟩ => (l.ss.length - k).toNat) ⟨_, []⟩ ⟨s4_10, rfl, rfl, rfl, rfl, ⟨_, s3_10, mo2_10, (by decide), (by decide)⟩, ⟨_, ml_10, Nat.le_refl _⟩, ?_⟩ ?_
  · (exact ⟨by omega, by omega, rfl⟩)
  · rintro ⟨k, xs⟩ e_11 m_11 ⟨s4_11, k1_11, k2_11, mk0_11, mk1_11, ⟨j3_11, s3_11, mo_j3_11, nj3_0_11, nj3_1_11⟩, ⟨n_11, ml_11, hn_11⟩, hinv⟩
    have s1_11 := k1_11.trans s1_10
    have s2_11 := k2_11.trans s2_10
    have mo0_11 := mk0_11.trans mo0_10
    have mo1_11 := mk1_11.trans mo1_10
    have jl3_11 := m_lt mo_j3_11 ml_11
    (obtain ⟨p1, p2, p3⟩ := hinv; have hso := hl.at k.toNat; have hxl : xs.length ≤ 1000000 := (by rw [p3, List.length_take]; omega))
    refine aw_seq <| aw_seq <| at_ <| ar (ro_move s4_11) rfl <| ar (ro_fld_ptr qfl26_3 rfl (up_m rfl s1_11)) rfl <| ar (ro_eq (ro_ld_ptr y13_ty24 rfl mo0_11 up_h (nle rfl)) (by simp only [pS, Value.cells, Nat.reduceAdd, swE, one_swE, app_m] <;> rfl)) rfl ?_
    refine ar (ro_eq (ro_len_row up_h rfl y13_sl24.1) (by simp only [lnS] <;> rfl)) rfl ?_
    refine ar (ro_lss (up_m rfl (u2 rfl up_h)) up_h) rfl <| ae5 (up_m rfl (u4 rfl s1_11)) (up_m rfl (u4 rfl s2_11)) (up_m rfl (u4 rfl s3_11)) (up_m rfl (u4 rfl s4_11)) up_h ?_; clear s1_11 s2_11 s3_11 s4_11; intro e_12 s1_12 s2_12 s3_12 s4_12 s20_12
    refine then_n <| aw_case s20_12 (fun hq_13 => ?_) (fun hq_13 => ?_)
    ·replace hq_13 := bt hq_13
     refine aw_skip <| then_n <| aw_seq <| aw_block <| aw_seq <| at_ <| ar (ro_fld_ptr qfl26_3 rfl s1_12) rfl <| ar (ro_eq (ro_ld_ptr y13_ty24 rfl mo0_11 up_h (nle rfl)) (by simp only [pS, Value.cells, Nat.reduceAdd, swE, one_swE, app_m] <;> rfl)) rfl ?_
     refine ar (ro_move (u2 rfl s4_12)) rfl <| ar (ro_eq (ro_ix y13_sl24 (up_m rfl up_h) up_h (by omega) (by first | (refine idx_map ?_; first | omega | (simp only [lnS]; omega)) | (refine idx_mapI ?_; first | omega | (simp only [lnS]; omega)) | (refine idx_mapN ?_; first | omega | (simp only [lnS]; omega)) | rfl)) (by simp only [pS, Value.cells, Nat.reduceAdd, swE, one_swE, app_m] <;> rfl)) rfl ?_
     refine ar (ro_eq (ro_ld_ref y13_ty91 rfl up_h (nle rfl)) (by simp only [pS, Value.cells, Nat.reduceAdd, swE, one_swE, app_m] <;> rfl)) rfl ?_
     refine al_stm (st_alloc qaz91 rfl ml_11) trivial rfl (fun m_14 hm_14 => ?_)
     have mon_11_14 := m_push hm_14 ml_11
     simp only [pS, Value.cells, Nat.reduceAdd, swE, one_swE, app_m] at mon_11_14
     have mo0_14 := m_push_o hm_14 mo0_11
     have mo1_14 := m_push_o hm_14 mo1_11
     have moj3_11_14 := m_push_o hm_14 mo_j3_11
     have ml_14 := m_push_l hm_14 ml_11
     clear hm_14 mo0_11 mo1_11 mo_j3_11
     refine al_stm (st_store up_h (up_m rfl up_h) rfl rfl mon_11_14 qsz91 rfl (nle rfl)) trivial rfl (fun m_15 hm_15 => ?_)
     have mon_11_15 := m_set hm_15 mon_11_14
     simp only [pS, Value.cells, Nat.reduceAdd, swE, one_swE, app_m] at mon_11_15
     have mo0_15 := m_set_o hm_15 mo0_14 (by omega)
     have mo1_15 := m_set_o hm_15 mo1_14 (by omega)
     have moj3_11_15 := m_set_o hm_15 moj3_11_14 (by omega)
     have ml_15 := m_set_l hm_15 ml_14
     clear hm_15 mon_11_14 mo0_14 mo1_14 moj3_11_14
     refine ae5 (up_n (u2 rfl (u4 rfl s1_12))) (up_n (u2 rfl (u4 rfl s2_12))) (up_n (u2 rfl (u4 rfl s3_12))) (up_n (u2 rfl (u4 rfl s4_12))) (up_n up_h) ?_; clear s1_12 s20_12 s2_12 s3_12 s4_12; intro e_16 s1_16 s2_16 s3_16 s4_16 s5_16
     refine then_n <| aw_seq <| at_ <| ar (ro_fld_ptr qfl91_2 rfl s5_16) rfl <| ar (ro_eq (ro_ld_ptr y13_ty49 rfl mon_11_15 up_h (nle rfl)) (by simp only [pS, Value.cells, Nat.reduceAdd, swE, one_swE, app_m] <;> rfl)) rfl ?_
     refine ar (ro_call (evL_cons up_h evL_nil) rfl (yCopyInts_ok _ (by omega)) y13_hcf75) rfl ?_
     refine ar (ro_fld_ptr qfl91_2 rfl (up_m rfl (u2 rfl s5_16))) rfl <| al_stm (st_store up_h (up_m rfl up_h) rfl rfl mon_11_15 qsz49 rfl (nle rfl)) trivial rfl (fun m_17 hm_17 => ?_)
     have mon_11_17 := m_set hm_17 mon_11_15
     simp only [pS, Value.cells, Nat.reduceAdd, swE, one_swE, app_m] at mon_11_17
     have mo0_17 := m_set_o hm_17 mo0_15 (by omega)
     have mo1_17 := m_set_o hm_17 mo1_15 (by omega)
     have moj3_11_17 := m_set_o hm_17 moj3_11_15 (by omega)
     have ml_17 := m_set_l hm_17 ml_15
     clear hm_17 mon_11_15 mo0_15 mo1_15 moj3_11_15
     refine ae5 (up_n (u4 rfl s1_16)) (up_n (u4 rfl s2_16)) (up_n (u4 rfl s3_16)) (up_n (u4 rfl s4_16)) (up_n (u4 rfl s5_16)) ?_; clear s1_16 s2_16 s3_16 s4_16 s5_16; intro e_18 s1_18 s2_18 s3_18 s4_18 s5_18
     refine then_n <| at_ <| ar (ro_move s3_18) rfl <| ar (ro_eq (ro_ld_ptr y13_ty91 rfl mon_11_17 (up_m rfl s5_18) (nle rfl)) (by simp only [pS, Value.cells, Nat.reduceAdd, swE, one_swE, app_m] <;> rfl)) rfl ?_
     refine ar (ro_lit y13_sl24 (evP_cons up_h evP_nil) rfl rfl rfl rfl) rfl <| al_stm (st_app y13_sl24 rfl ml_17 moj3_11_17 (u2 rfl up_h) up_h (by rfl) (by simp only [lnS] <;> omega)) trivial rfl (fun m_19 hm_19 => ?_)
     have mon_11_1_19 := m_swap hm_19 ml_17
     simp only [pS, Value.cells, Nat.reduceAdd, swE, one_swE, app_m] at mon_11_1_19
     have mon_11_19 := m_swap_o hm_19 mon_11_17 (by omega)
     have mo0_19 := m_swap_o hm_19 mo0_17 (by omega)
     have mo1_19 := m_swap_o hm_19 mo1_17 (by omega)
     have ml_19 := m_swap_l hm_19 ml_17
     clear hm_19 mon_11_17 mo0_17 mo1_17 moj3_11_17
     refine ar (ro_assign up_h) rfl <| ae4 (up_m rfl (u4 rfl s1_18)) (up_m rfl (u4 rfl s2_18)) up_h (up_m rfl (u4 rfl s4_18)) ?_; clear s1_18 s2_18 s3_18 s4_18 s5_18; intro e_20 s1_20 s2_20 s3_20 s4_20
     refine block_n <| then_n <| at_ <| ar (ro_move s4_20) rfl ?_
     (refine ar (ro_add' up_h ev_c ?_) rfl ?_; · (unfold In64; omega))
     refine ar (ro_assign up_h) rfl <| ae4 (up_m rfl (u2 rfl s1_20)) (up_m rfl (u2 rfl s2_20)) (up_m rfl (u2 rfl s3_20)) up_h ?_; clear s1_20 s2_20 s3_20 s4_20; intro e_21 s1_21 s2_21 s3_21 s4_21
     refine then_n <| ⟨⟨_, _⟩, ⟨s4_21, (s1_21.trans s1_10.symm), (s2_21.trans s2_10.symm), (mo0_19.trans mo0_10.symm), (mo1_19.trans mo1_10.symm), ⟨_, s3_21, mon_11_1_19, (by omega), (by omega)⟩, ⟨_, ml_19, by omega⟩, ?_⟩, ?_⟩
     · (refine ⟨by omega, by omega, ?_⟩; rw [take_suc p1 (by omega), ← p3])
     · ((try dsimp only); omega)
    replace hq_13 := bf hq_13
    refine aw_exit <| then_x <| then_x <| block_hit <| then_n <| aw_seq <| at_ <| ar (ro_move s3_12) rfl <| ar (ro_fld_ptr qfl26_3 rfl (up_m rfl s1_12)) rfl <| al_stm (st_store_own up_h (up_m rfl up_h) mo0_11 mo_j3_11 y13_sz24 (nle rfl)) trivial rfl (fun m_22 hm_22 => ?_)
    have mo0_22 := m_set hm_22 mo0_11
    simp only [pS, Value.cells, Nat.reduceAdd, swE, one_swE, app_m] at mo0_22
    have mo1_22 := m_set_o hm_22 mo1_11 (by decide)
    have moj3_11_22 := m_set_o hm_22 mo_j3_11 (by omega)
    have ml_22 := m_set_l hm_22 ml_11
    clear hm_22 mo0_11 mo1_11 mo_j3_11
    refine ae2 (up_n (u2 rfl s1_12)) (up_n (u2 rfl s2_12)) ?_; clear s1_12 s20_12 s2_12 s3_12 s4_12; intro e_23 s1_23 s2_23
    refine then_n <| aw_seq <| at_ <| ar (ro_eq (ro_ld_ptr y13_ty26 rfl mo0_22 s1_23 (nle rfl)) (by simp only [pS, Value.cells, Nat.reduceAdd, swE, one_swE, app_m] <;> rfl)) rfl ?_
    refine al_stm (st_storeO (up_m rfl s2_23) up_h rfl (oneL_c rfl (oneL_c rfl (oneL_c rfl (oneL_o moj3_11_22 oneL_nil)))) mo1_22 y13_sz26 rfl (nle rfl)) trivial rfl (fun m_24 hm_24 => ?_)
    have mo1_24 := m_set hm_24 mo1_22
    simp only [pS, Value.cells, Nat.reduceAdd, swE, one_swE, app_m] at mo1_24
    have mo0_24 := m_set_o hm_24 mo0_22 (by decide)
    have moj3_11_24 := m_set_o hm_24 moj3_11_22 (by omega)
    have ml_24 := m_set_l hm_24 ml_22
    clear hm_24 mo0_22 mo1_22 moj3_11_22
    refine ae1 (up_n (up_m rfl s2_23)) ?_; clear s1_23 s2_23; intro e_25 s2_25
    refine then_n <| aw_ret <| ret1 (.inr rfl) (by kernel_rfl) (resV_cell s2_25 mo1_24 y13_ty26 (nle rfl) (by simp)) (vw_r (vw_agg (vwl_cons (.ro _ rfl) (vwl_cons (.ro _ rfl) (vwl_cons (.ro _ rfl) (vwl_cons (.own _ _ _ _ moj3_11_24) vwl_nil)))))) ?_
    clear s2_25 mo1_24 mo0_24 moj3_11_24 ml_24
    (rw [p3, List.take_of_length_le (by omega)])
end Go.Proofs.Ytonjcljnpcmenaa

/- Contracts of chapter 1: a track opened. No conditions on a program. -/
namespace Go.Proofs.Ytonjcljnpcmenaa
open Go Go.RowKit Go.Proofs
set_option linter.unusedSimpArgs false
set_option linter.unusedVariables false
end Go.Proofs.Ytonjcljnpcmenaa

