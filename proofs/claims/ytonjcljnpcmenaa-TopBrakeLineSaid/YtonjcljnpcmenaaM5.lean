/- Texts of this claim, one behind the other: lemmas for the statement. -/
import Derived.Test.YtonjcljnpcmenaaT0
import Derived.Test.YtonjcljnpcmenaaM4
import Derived.Test.YtonjcljnpcmenaaA23
/- Contracts of chapter 1: a track opened, of a permitted line. No conditions on a program. -/
namespace Go.Proofs.Ytonjcljnpcmenaa
open Go Go.RowKit Go.Proofs
set_option linter.unusedSimpArgs false
set_option linter.unusedVariables false
theorem y15_bz141 : (Try.prog.info? 141).bind (·.zero) = some (.agg #[.string ByteArray.empty, .slice none 0 0, .slice none 0 0, .slice none 0 0, .slice none 0 0]) := by kernel_rfl
theorem y15_bu141 : Try.prog.underlying 141 = some (.struct (fsOf Try.prog 141)) := by kernel_rfl
theorem y15_bp141 : ∀ w, ((fsOf Try.prog 141).mapM fun f => Prod.mk f.offset <$> sizeOf f.type : Sem (Array (Nat × Nat))).run Try.prog w = .ok (#[(0, 4), (4, 1)]) w := fun _ => by kernel_rfl
theorem y15_hcf133 : ∀ args w, (callFunc 133 args).run Try.prog w = .ok (.enter 133 args) w := fun _ _ => by kernel_rfl
theorem y15_sl23 : SlIs Try.prog 23 87 2 16 (.agg #[.int .i64 0, .int .i64 0]) := ⟨by kernel_rfl, by kernel_rfl, by kernel_rfl⟩
theorem y15_sl49 : SlIs Try.prog 49 3 1 8 (.int .i64 0) := ⟨by kernel_rfl, by kernel_rfl, by kernel_rfl⟩
theorem y15_ty23 : TyIs Try.prog 23 false 1 := ⟨by kernel_rfl, by kernel_rfl⟩
theorem y15_ty26 : TyIs Try.prog 26 true 4 := ⟨by kernel_rfl, by kernel_rfl⟩
theorem y15_ty3 : TyIs Try.prog 3 false 1 := ⟨by kernel_rfl, by kernel_rfl⟩
theorem y15_ty49 : TyIs Try.prog 49 false 1 := ⟨by kernel_rfl, by kernel_rfl⟩
theorem y15_ty87 : TyIs Try.prog 87 true 2 := ⟨by kernel_rfl, by kernel_rfl⟩

/-- The places of a line's joints. -/
def plaL (bs : List Bea) (n : Nat) : List Int := (List.range (n + 1)).map (plaP bs)
/-- A track, as an open one hands it about. -/
def tkA (l : Lin) : AV := .ref (lnC l ++ [.row 1 ((plaL l.bs l.bs.length).map iE)])
theorem plaL_suc {bs : List Bea} {n : Nat} : plaL bs (n + 1) = plaL bs n ++ [plaP bs n + (bs.getD n default).len] := by
  unfold plaL; rw [List.range_succ, List.map_append]; rfl
theorem plaL_len {bs : List Bea} {n : Nat} : (plaL bs n).length = n + 1 := by simp [plaL]
theorem plaL_get {bs : List Bea} {n j : Nat} (h : j ≤ n) : (plaL bs n).getD j default = plaP bs j := by
  rw [List.getD_eq_getElem?_getD]; simp [plaL, List.getElem?_range (show j < n + 1 by omega)]
set_option maxRecDepth 100000 in
set_option maxHeartbeats 4000000 in
theorem yOpen_ok (l : Lin) (hl : Sho l) (hg : (linM l).2 = 0) (hb : l.bs.length ≤ 1000) (hp : ∀ j : Nat, j < l.bs.length → 0 ≤ (l.bs.getD j default).len ∧ (l.bs.getD j default).len ≤ 30000) : FnOk Try.prog 76 [lnA l] (fun q => q = .tuple [tkA l, mA 0]) := by
  refine fnOk_of (fn := Try.f76) 50 (by kernel_rfl) rfl (by kernel_rfl) (Nat.le_of_ble_eq_true rfl) ?_
  intro e_0 m_0 hA hm_0
  have s0_0 : evA e_0 (.tmp 0) = _ := hA 0 _ rfl
  have ml_0 : m_0.length = 0 := by rw [hm_0]; rfl
  clear hA hm_0
  refine aw_seq <| at_ <| al_stm (st_box s0_0 rfl ml_0) trivial rfl (fun m_1 hm_1 => ?_)
  have mo0_1 := m_push hm_1 ml_0
  (try simp only [pS, Value.cells, Nat.reduceAdd, beE, one_iE, app_m] at mo0_1)
  have ml_1 := m_push_l hm_1 ml_0
  have ml_1 : _ = 1 := ml_1
  clear hm_1
  refine ar (ro_assign ev_c) rfl <| ar (ro_assign ev_c) rfl <| ae1 (u2 rfl up_h) ?_; clear s0_0; intro e_2 s1_2
  refine then_n <| aw_seq <| aw_seq <| at_ <| ar (ro_eq (ro_ld_ptr y15_ty26 rfl mo0_1 s1_2 (by first | exact nle rfl | omega | (simp only [lnS] <;> omega) | (simp <;> omega))) (by first | (simp only [pS, Value.cells, Nat.reduceAdd, beE, one_iE, app_m] <;> rfl) | rfl)) rfl ?_
  refine ar (ro_call (evL_cons up_h evL_nil) rfl (yCheckLine_ok l hl) y15_hcf133) rfl <| ar (ro_move up_h) rfl <| ar (ro_extract up_h rfl) rfl <| ar (ro_extract (up_m rfl up_h) rfl) rfl <| al_stm (st_alloc qaz121 rfl ml_1) trivial rfl (fun m_3 hm_3 => ?_)
  have mo1_3 := m_push hm_3 ml_1
  (try simp only [pS, Value.cells, Nat.reduceAdd, beE, one_iE, app_m] at mo1_3)
  have mo0_3 := m_push_o hm_3 mo0_1
  have ml_3 := m_push_l hm_3 ml_1
  have ml_3 : _ = 2 := ml_3
  clear hm_3 mo0_1
  refine al_stm (st_store up_h (u2 rfl up_h) rfl rfl mo1_3 qsz121 rfl (by first | exact nle rfl | omega | (simp only [lnS] <;> omega) | (simp <;> omega))) trivial rfl (fun m_4 hm_4 => ?_)
  have mo1_4 := m_set hm_4 mo1_3
  (try simp only [pS, Value.cells, Nat.reduceAdd, beE, one_iE, app_m] at mo1_4)
  have mo0_4 := m_set_o hm_4 mo0_3 (by decide)
  have ml_4 := m_set_l hm_4 ml_3
  clear hm_4 mo1_3 mo0_3
  refine ar (ro_assign (up_n (up_m rfl up_h))) rfl <| ae2 (up_m rfl (up_n (u2 rfl (u4 rfl s1_2)))) up_h ?_; clear s1_2; intro e_5 s1_5 s5_5
  refine then_n <| aw_seq <| at_ <| ar (ro_move s5_5) rfl <| ar (ro_neq up_h ev_c) rfl <| ae3 (u2 rfl s1_5) (u2 rfl s5_5) up_h ?_; clear s1_5 s5_5; intro e_6 s1_6 s5_6 s15_6
  refine then_n <| aw_case s15_6 (fun hq_7 => ?_) (fun hq_7 => ?_)
  ·skip
   first
   |(cases hq_7; done) | ((first | replace hq_7 := bnt hq_7 | replace hq_7 := bnf hq_7 | replace hq_7 := bt hq_7 | replace hq_7 := bf hq_7 | replace hq_7 := bt' hq_7 | replace hq_7 := bf' hq_7 | skip); exfalso; omega) | ((first | (simp at hq_7; done) | (exact absurd hg (by simpa using hq_7))))
   |((first | replace hq_7 := bnt hq_7 | replace hq_7 := bnf hq_7 | replace hq_7 := bt hq_7 | replace hq_7 := bf hq_7 | replace hq_7 := bt' hq_7 | replace hq_7 := bf' hq_7 | skip)
     refine aw_seq <| at_ <| ar (ro_move s5_6) rfl <| ar (ro_assign ev_c) rfl <| ar (ro_assign (up_m rfl up_h)) rfl <| ae2 (up_m rfl up_h) up_h ?_; clear s15_6 s1_6 s5_6; intro e_8 s2_8 s3_8
     refine then_n <| aw_ret <| then_r <| ret2 (.inr rfl) (by kernel_rfl) (resV_tmp s2_8) (resV_tmp s3_8) (.ro _ rfl) (.ro _ rfl) ?_
     clear s2_8 s3_8 mo1_4 mo0_4 ml_4
     rfl)
  ·skip
   first
   |(cases hq_7; done) | ((first | replace hq_7 := bnt hq_7 | replace hq_7 := bnf hq_7 | replace hq_7 := bt hq_7 | replace hq_7 := bf hq_7 | replace hq_7 := bt' hq_7 | replace hq_7 := bf' hq_7 | skip); exfalso; omega) | ((first | (simp at hq_7; done) | (exact absurd hg (by simpa using hq_7))))
   |((first | replace hq_7 := bnt hq_7 | replace hq_7 := bnf hq_7 | replace hq_7 := bt hq_7 | replace hq_7 := bf hq_7 | replace hq_7 := bt' hq_7 | replace hq_7 := bf' hq_7 | skip)
     refine aw_skip <| then_n <| aw_seq <| at_ <| ar (ro_eq (ro_ld_ptr y15_ty26 rfl mo0_4 s1_6 (by first | exact nle rfl | omega | (simp only [lnS] <;> omega) | (simp <;> omega))) (by first | (simp only [pS, Value.cells, Nat.reduceAdd, beE, one_iE, app_m] <;> rfl) | rfl)) rfl ?_
     refine al_stm (st_lit y15_sl49 ml_4 (evP_cons ev_c evP_nil) rfl rfl rfl rfl) trivial rfl (fun m_9 hm_9 => ?_)
     have mo2_9 := m_push hm_9 ml_4
     (try simp only [pS, Value.cells, Nat.reduceAdd, beE, one_iE, app_m] at mo2_9)
     have mo1_9 := m_push_o hm_9 mo1_4
     have mo0_9 := m_push_o hm_9 mo0_4
     have ml_9 := m_push_l hm_9 ml_4
     have ml_9 : _ = 3 := ml_9
     clear hm_9 mo1_4 mo0_4
     refine ar (ro_build (evP_cons (up_m rfl up_h) (evP_cons up_h evP_nil)) y15_bz141 y15_bu141 y15_bp141 rfl) rfl ?_
     refine al_stm (st_box up_h rfl ml_9) trivial rfl (fun m_10 hm_10 => ?_)
     have mo3_10 := m_push hm_10 ml_9
     (try simp only [pS, Value.cells, Nat.reduceAdd, beE, one_iE, app_m] at mo3_10)
     have mo2_10 := m_push_o hm_10 mo2_9
     have mo1_10 := m_push_o hm_10 mo1_9
     have mo0_10 := m_push_o hm_10 mo0_9
     have ml_10 := m_push_l hm_10 ml_9
     have ml_10 : _ = 4 := ml_10
     clear hm_10 mo2_9 mo1_9 mo0_9
     refine ar (ro_assign up_h) rfl <| ae2 (up_m rfl (u4 rfl s1_6)) up_h ?_; clear s15_6 s1_6 s5_6; intro e_11 s1_11 s6_11
     refine then_n <| aw_seq <| aw_seq <| at_ <| ar (ro_fld_ptr qfl26_2 rfl s1_11) rfl <| ar (ro_eq (ro_ld_ptr y15_ty23 rfl mo0_10 up_h (by first | exact nle rfl | omega | (simp only [lnS] <;> omega) | (simp <;> omega))) (by first | (simp only [pS, Value.cells, Nat.reduceAdd, beE, one_iE, app_m] <;> rfl) | rfl)) rfl ?_
     refine ar (ro_eq (ro_len_row up_h rfl y15_sl23.1) (by first | (simp only [lnS] <;> rfl) | rfl)) rfl ?_
     refine ar (ro_move ev_c) rfl <| ae4 (u4 rfl s6_11) (u2 rfl up_h) (up_m rfl up_h) up_h ?_; clear s1_11 s6_11; intro e_12 s6_12 s22_12 s23_12 s24_12
     refine then_n <| aw_block <| aw_loop (S := (Nat × Int × List Int)) (fun s e mem => match s with | ⟨k, i, xs⟩ => (evA e (.tmp 24) = .v (.int .i64 i)) ∧ (evA e (.tmp 6) = evA e_12 (.tmp 6)) ∧ (evA e (.tmp 22) = evA e_12 (.tmp 22)) ∧ (evA e (.tmp 23) = evA e_12 (.tmp 23)) ∧ (mem[3]? = some (.box 141 [.v (.string l.nam), .row 4 (l.js.map jnE), .row 2 (l.bs.map beE), .row 3 (l.ss.map swE), .own k])) ∧ (mem[k]? = some (.row 3 1 (xs.map iE))) ∧ (mem[1]? = m_10[1]?) ∧ (mem[0]? = m_10[0]?) ∧ (∃ n, mem.length = n ∧ 4 ≤ n) ∧ ((2 ≤ k ∧ k ≠ 3 ∧ 0 ≤ i ∧ i ≤ l.bs.length ∧ xs = plaL l.bs i.toNat))) (fun s => match s with | ⟨k, i, xs⟩ => (l.bs.length - i).toNat) ⟨_, _, [0]⟩ ⟨s24_12, rfl, rfl, rfl, mo3_10, mo2_10, rfl, rfl, ⟨_, ml_10, Nat.le_refl _⟩, ?_⟩ ?_
     · (exact ⟨by omega, by omega, by omega, by omega, rfl⟩)
     · rintro ⟨k, i, xs⟩ e_13 m_13 ⟨s24_13, k6_13, k22_13, k23_13, mo3_13, mok_13, mk1_13, mk0_13, ⟨n_13, ml_13, hn_13⟩, hinv⟩
       have s6_13 := k6_13.trans s6_12
       have s22_13 := k22_13.trans s22_12
       have s23_13 := k23_13.trans s23_12
       have mo1_13 := mk1_13.trans mo1_10
       have mo0_13 := mk0_13.trans mo0_10
       have jlk_13 := m_lt mok_13 ml_13
       (obtain ⟨q1, q2, p1, p2, p3⟩ := hinv; have hxl : xs.length = i.toNat + 1 := (by rw [p3, plaL_len]); have hbd := plaP_bd hp (n := i.toNat) (by omega); have hxi : xs.getD i.toNat default = plaP l.bs i.toNat := (by rw [p3]; exact plaL_get (Nat.le_refl _)); have hpi : 0 ≤ (l.bs.getD i.toNat default).len ∧ (l.bs.getD i.toNat default).len ≤ 30000 := (by by_cases h : i.toNat < l.bs.length; exact hp _ h; have h0 : l.bs.getD i.toNat default = default := (by rw [List.getD_eq_getElem?_getD, List.getElem?_eq_none (by omega)]; rfl); rw [h0]; exact ⟨by decide, by decide⟩))
       refine aw_seq <| at_ <| ar (ro_lss s24_13 s23_13) rfl <| ae5 (up_m rfl s6_13) (up_m rfl s22_13) (up_m rfl s23_13) (up_m rfl s24_13) up_h ?_; clear s22_13 s23_13 s24_13 s6_13; intro e_14 s6_14 s22_14 s23_14 s24_14 s25_14
       refine then_n <| aw_seq <| aw_case s25_14 (fun hq_15 => ?_) (fun hq_15 => ?_)
       ·skip
        first
        |(cases hq_15; done) | ((first | replace hq_15 := bnt hq_15 | replace hq_15 := bnf hq_15 | replace hq_15 := bt hq_15 | replace hq_15 := bf hq_15 | replace hq_15 := bt' hq_15 | replace hq_15 := bf' hq_15 | skip); exfalso; omega) | ((first | (simp at hq_15; done) | (exact absurd hg (by simpa using hq_15))))
        |((first | replace hq_15 := bnt hq_15 | replace hq_15 := bnf hq_15 | replace hq_15 := bt hq_15 | replace hq_15 := bf hq_15 | replace hq_15 := bt' hq_15 | replace hq_15 := bf' hq_15 | skip)
          refine aw_skip <| then_n <| aw_seq <| aw_block <| aw_seq <| at_ <| ar (ro_move s24_14) rfl <| ar (ro_eq (ro_ix y15_sl23 (up_m rfl s22_14) (up_m rfl s24_14) (by first | decide | omega | (simp <;> omega)) (by first | (refine idx_map ?_; first | omega | (simp only [lnS]; omega)) | (refine idx_mapI ?_; first | omega | (simp only [lnS]; omega)) | (refine idx_mapN ?_; first | omega | (simp only [lnS]; omega)) | rfl)) (by first | (simp only [pS, Value.cells, Nat.reduceAdd, beE, one_iE, app_m] <;> rfl) | rfl)) rfl ?_
          refine ar (ro_eq (ro_ld_ref y15_ty87 rfl up_h (by first | exact nle rfl | omega | (simp only [lnS] <;> omega) | (simp <;> omega))) (by first | (simp only [pS, Value.cells, Nat.reduceAdd, beE, one_iE, app_m] <;> rfl) | rfl)) rfl ?_
          refine al_stm (st_alloc qaz87 rfl ml_13) trivial rfl (fun m_16 hm_16 => ?_)
          have mon_13_16 := m_push hm_16 ml_13
          (try simp only [pS, Value.cells, Nat.reduceAdd, beE, one_iE, app_m] at mon_13_16)
          have mo3_16 := m_push_o hm_16 mo3_13
          have mok_16 := m_push_o hm_16 mok_13
          have mo1_16 := m_push_o hm_16 mo1_13
          have mo0_16 := m_push_o hm_16 mo0_13
          have ml_16 := m_push_l hm_16 ml_13
          clear hm_16 mo3_13 mok_13 mo1_13 mo0_13
          refine ar (ro_assign (up_m rfl (u2 rfl up_h))) rfl <| al_stm (st_store (up_m rfl up_h) (u2 rfl up_h) rfl rfl mon_13_16 qsz87 rfl (by first | exact nle rfl | omega | (simp only [lnS] <;> omega) | (simp <;> omega))) trivial rfl (fun m_17 hm_17 => ?_)
          have mon_13_17 := m_set hm_17 mon_13_16
          (try simp only [pS, Value.cells, Nat.reduceAdd, beE, one_iE, app_m] at mon_13_17)
          have mo3_17 := m_set_o hm_17 mo3_16 (by omega)
          have mok_17 := m_set_o hm_17 mok_16 (by omega)
          have mo1_17 := m_set_o hm_17 mo1_16 (by omega)
          have mo0_17 := m_set_o hm_17 mo0_16 (by omega)
          have ml_17 := m_set_l hm_17 ml_16
          clear hm_17 mon_13_16 mo3_16 mok_16 mo1_16 mo0_16
          refine ae6 (up_n (up_m rfl (u4 rfl s6_14))) (up_n up_h) (up_n (up_m rfl up_h)) (up_n (up_m rfl (u4 rfl s22_14))) (up_n (up_m rfl (u4 rfl s23_14))) (up_n (up_m rfl (u4 rfl s24_14))) ?_; clear s22_14 s23_14 s24_14 s25_14 s6_14; intro e_18 s6_18 s7_18 s8_18 s22_18 s23_18 s24_18
          refine then_n <| aw_drawK 17 1 ml_17 (by kernel_rfl) (by kernel_rfl) (by kernel_rfl) (by kernel_rfl) (fun m_19 hm_19 => ?_)
          have mon_13_19 := m_room_o hm_19 mon_13_17
          have mo3_19 := m_room_o hm_19 mo3_17
          have mok_19 := m_room_o hm_19 mok_17
          have mo1_19 := m_room_o hm_19 mo1_17
          have mo0_19 := m_room_o hm_19 mo0_17
          have mon_13_1_19 : m_19[n_13 + 1]? = _ := m_room_g hm_19 ml_17 0 rfl rfl
          have ml_19 : _ = n_13 + 1 + 1 := m_room_l (K := 1) hm_19 ml_17
          clear hm_19 mon_13_17 mo3_17 mok_17 mo1_17 mo0_17 ml_17
          refine dh_ro (fun M_ hM_ => (ro_move s6_18)) trivial ?_
          refine dh_ro (fun M_ hM_ => (ro_move (up_m rfl s6_18))) trivial ?_
          refine dh_ro (fun M_ hM_ => (ro_nilP up_h)) trivial ?_
          refine dh_ro (fun M_ hM_ => (ro_fld_ptr qfl141_1 rfl up_h)) trivial ?_
          refine dh_ld (3) (fun M_ hM_ => (ro_eq (ro_ld_ptr y15_ty49 rfl (agr hM_ mo3_19 (by simp)) up_h (by first | exact nle rfl | omega | (simp only [lnS] <;> omega) | (simp <;> omega))) (by first | (simp only [pS, Value.cells, Nat.reduceAdd, beE, one_iE, app_m] <;> rfl) | rfl))) trivial trivial ?_
          refine dh_ro (fun M_ hM_ => (ro_move (up_m rfl (u4 rfl s6_18)))) trivial ?_
          refine dh_ro (fun M_ hM_ => (ro_nilP up_h)) trivial ?_
          refine dh_ro (fun M_ hM_ => (ro_fld_ptr qfl141_1 rfl up_h)) trivial ?_
          refine dh_ld (3) (fun M_ hM_ => (ro_eq (ro_ld_ptr y15_ty49 rfl (agr hM_ mo3_19 (by simp)) up_h (by first | exact nle rfl | omega | (simp only [lnS] <;> omega) | (simp <;> omega))) (by first | (simp only [pS, Value.cells, Nat.reduceAdd, beE, one_iE, app_m] <;> rfl) | rfl))) trivial trivial ?_
          refine dh_ro (fun M_ hM_ => (ro_move (up_m rfl (u8 rfl s7_18)))) trivial ?_
          refine dh_ld (k) (fun M_ hM_ => (ro_ix_own y15_sl49 (agr hM_ mok_19 (by simp)) (up_m rfl up_h) up_h (by first | decide | omega | (simp <;> omega)) (by first | omega | (simp only [lnS] <;> omega) | (simp <;> omega)))) trivial trivial ?_
          refine dh_ld (k) (fun M_ hM_ => (ro_eq (ro_ld_el y15_ty3 rfl (agr hM_ mok_19 (by simp)) up_h (by first | exact nle rfl | omega | (simp only [lnS] <;> omega) | (simp <;> omega)) (by first | (refine idx_map ?_; first | omega | (simp only [lnS]; omega)) | (refine idx_mapI ?_; first | omega | (simp only [lnS]; omega)) | (refine idx_mapN ?_; first | omega | (simp only [lnS]; omega)) | rfl)) (by first | (simp only [pS, Value.cells, Nat.reduceAdd, beE, one_iE, app_m] <;> rfl) | rfl))) trivial trivial ?_
          refine dh_ro (fun M_ hM_ => (ro_fld_ptr qfl87_0 rfl (u4 rfl (u8 rfl s8_18)))) trivial ?_
          refine dh_ld (n_13) (fun M_ hM_ => (ro_eq (ro_ld_ptr y15_ty3 rfl (agr hM_ mon_13_19 (by simp)) up_h (by first | exact nle rfl | omega | (simp only [lnS] <;> omega) | (simp <;> omega))) (by first | (simp only [pS, Value.cells, Nat.reduceAdd, beE, one_iE, app_m] <;> rfl) | rfl))) trivial trivial ?_
          first | (refine dh_ro (fun M_ hM_ => (ro_add' (u2 rfl up_h) up_h ?_)) trivial ?_; · (unfold In64; omega)) | (refine dh_ro (fun M_ hM_ => (ro_add (u2 rfl up_h) up_h)) trivial ?_)
          refine dh_ro (fun M_ hM_ => (ro_lit y15_sl49 (evP_cons up_h evP_nil) rfl rfl rfl rfl)) trivial ?_
          refine dh_sw (n_13 + 1) (k) (fun M_ hM_ => (sw_app y15_sl49 rfl (agr hM_ mok_19 (by simp)) (up_m rfl (u2 rfl (u8 rfl up_h))) up_h (by first | rfl | (simp [oneA]; done)) (by first | omega | (simp only [lnS] <;> omega) | (simp <;> omega)))) trivial mon_13_1_19 rfl trivial ⟨.inl (by simp <;> omega), ⟨.inl (by simp <;> omega), ⟨.inl (by simp <;> omega), ⟨.inl (by simp <;> omega), ⟨.inl (by simp <;> omega), trivial⟩⟩⟩⟩⟩ ⟨.inl (by simp <;> omega), ⟨.inl (by simp <;> omega), ⟨.inr ((wt_one 16 15 (by kernel_rfl)).trans ((wt_one 15 14 (by kernel_rfl)).trans ((wt_one 14 11 (by kernel_rfl)).trans (wt_one 11 10 (by kernel_rfl))))), ⟨.inr ((wt_one 16 15 (by kernel_rfl)).trans ((wt_one 15 14 (by kernel_rfl)).trans (wt_one 14 11 (by kernel_rfl)))), ⟨.inl (by simp <;> omega), trivial⟩⟩⟩⟩⟩ (fun m_20 hm_20 => ?_)
          have mon_13_1_20 := m_sw hm_20 mon_13_1_19
          (try simp only [pS, Value.cells, Nat.reduceAdd, beE, one_iE, app_m] at mon_13_1_20)
          have mon_13_20 := m_sw_o hm_20 mon_13_19 (by omega) (by omega)
          have mo3_20 := m_sw_o hm_20 mo3_19 (by omega) (by omega)
          have mo1_20 := m_sw_o hm_20 mo1_19 (by omega) (by omega)
          have mo0_20 := m_sw_o hm_20 mo0_19 (by omega) (by omega)
          have ml_20 := m_sw_l hm_20 ml_19
          clear hm_20 mon_13_19 mo3_19 mok_19 mo1_19 mo0_19 mon_13_1_19
          refine dh_nil rfl ?_
          refine ar (ro_nilP (u16 rfl up_h)) rfl <| ar (ro_fld_ptr qfl141_1 rfl up_h) rfl <| al_stm (st_store_own up_h (u2 rfl up_h) mo3_20 mon_13_1_20 qsz49 (by first | exact nle rfl | omega | (simp only [lnS] <;> omega) | (simp <;> omega))) trivial rfl (fun m_21 hm_21 => ?_)
          have mo3_21 := m_set hm_21 mo3_20
          (try simp only [pS, Value.cells, Nat.reduceAdd, beE, one_iE, app_m] at mo3_21)
          have mon_13_1_21 := m_set_o hm_21 mon_13_1_20 (by omega)
          have mon_13_21 := m_set_o hm_21 mon_13_20 (by omega)
          have mo1_21 := m_set_o hm_21 mo1_20 (by decide)
          have mo0_21 := m_set_o hm_21 mo0_20 (by decide)
          have ml_21 := m_set_l hm_21 ml_20
          clear hm_21 mon_13_1_20 mon_13_20 mo3_20 mo1_20 mo0_20
          refine ae4 (up_n (up_m rfl (u2 rfl (u16 rfl s6_18)))) (up_n (up_m rfl (u2 rfl (u16 rfl s22_18)))) (up_n (up_m rfl (u2 rfl (u16 rfl s23_18)))) (up_n (up_m rfl (u2 rfl (u16 rfl s24_18)))) ?_; clear s22_18 s23_18 s24_18 s6_18 s7_18 s8_18; intro e_22 s6_22 s22_22 s23_22 s24_22
          refine block_n <| then_n <| at_ ?_
          first | (refine ar (ro_add' s24_22 ev_c ?_) rfl ?_; · (unfold In64; omega)) | (refine ar (ro_add s24_22 ev_c) rfl ?_)
          refine ar (ro_move up_h) rfl <| ae4 (u2 rfl s6_22) (u2 rfl s22_22) (u2 rfl s23_22) up_h ?_; clear s22_22 s23_22 s24_22 s6_22; intro e_23 s6_23 s22_23 s23_23 s24_23
          refine then_n <| ⟨⟨_, _, _⟩, ⟨s24_23, (s6_23.trans s6_12.symm), (s22_23.trans s22_12.symm), (s23_23.trans s23_12.symm), mo3_21, mon_13_1_21, (mo1_21.trans mo1_10.symm), (mo0_21.trans mo0_10.symm), ⟨_, ml_21, by omega⟩, ?_⟩, ?_⟩
          · (refine ⟨by omega, by omega, by omega, by omega, ?_⟩; rw [show (i + 1).toNat = i.toNat + 1 by omega, plaL_suc, ← p3, ← hxi])
          · ((try dsimp only); omega))
       ·skip
        first
        |(cases hq_15; done) | ((first | replace hq_15 := bnt hq_15 | replace hq_15 := bnf hq_15 | replace hq_15 := bt hq_15 | replace hq_15 := bf hq_15 | replace hq_15 := bt' hq_15 | replace hq_15 := bf' hq_15 | skip); exfalso; omega) | ((first | (simp at hq_15; done) | (exact absurd hg (by simpa using hq_15))))
        |((first | replace hq_15 := bnt hq_15 | replace hq_15 := bnf hq_15 | replace hq_15 := bt hq_15 | replace hq_15 := bf hq_15 | replace hq_15 := bt' hq_15 | replace hq_15 := bf' hq_15 | skip)
          refine aw_exit <| then_x <| then_x <| block_hit <| then_n <| aw_seq <| aw_freezeB (o := 4) s6_14 mo3_13 mok_13 (by omega) rfl rfl (fun m_24 e_24 hm_24 he_24 => ?_)
          simp only [List.set_cons_zero, List.set_cons_succ] at he_24
          have mo1_24 := m_set_o hm_24 (m_set_o rfl mo1_13 (by omega)) (by decide)
          have mo0_24 := m_set_o hm_24 (m_set_o rfl mo0_13 (by omega)) (by decide)
          have ml_24 := m_set_l hm_24 (m_set_l rfl ml_13)
          have s6_24 : evA e_24 (.tmp 6) = _ := (congrArg (fun q => evA q (.tmp 6)) he_24).trans up_h
          have s22_24 : evA e_24 (.tmp 22) = _ := (congrArg (fun q => evA q (.tmp 22)) he_24).trans (up_m rfl s22_14)
          have s23_24 : evA e_24 (.tmp 23) = _ := (congrArg (fun q => evA q (.tmp 23)) he_24).trans (up_m rfl s23_14)
          have s24_24 : evA e_24 (.tmp 24) = _ := (congrArg (fun q => evA q (.tmp 24)) he_24).trans (up_m rfl s24_14)
          have s25_24 : evA e_24 (.tmp 25) = _ := (congrArg (fun q => evA q (.tmp 25)) he_24).trans (up_m rfl s25_14)
          clear hm_24 he_24
          refine at_ <| ar (ro_move s6_24) rfl <| ar (ro_assign up_h) rfl <| ar (ro_assign ev_c) rfl <| ae2 (up_m rfl up_h) up_h ?_; clear s22_24 s23_24 s24_24 s25_24 s6_24; intro e_25 s2_25 s3_25
          refine then_n <| aw_ret <| ret2 (.inr rfl) (by kernel_rfl) (resV_tmp s2_25) (resV_tmp s3_25) (.ro _ rfl) (.ro _ rfl) ?_
          clear s2_25 s3_25 mo1_24 mo0_24 ml_24
          (rw [p3, show i.toNat = l.bs.length by omega]; rfl)))
end Go.Proofs.Ytonjcljnpcmenaa

/- Contracts of chapter 1: the methods of an open line; its length, the place of a joint. No conditions on a program. -/
namespace Go.Proofs.Ytonjcljnpcmenaa
open Go Go.RowKit Go.Proofs
set_option linter.unusedSimpArgs false
set_option linter.unusedVariables false
theorem y16_hcf93 : ∀ args w, (callFunc 93 args).run Try.prog w = .ok (.enter 93 args) w := fun _ _ => by kernel_rfl
theorem y16_sl22 : SlIs Try.prog 22 70 4 32 (.agg #[.int .i64 0, .int .i64 0, .int .i64 0, .int .i64 0]) := ⟨by kernel_rfl, by kernel_rfl, by kernel_rfl⟩
theorem y16_sl23 : SlIs Try.prog 23 87 2 16 (.agg #[.int .i64 0, .int .i64 0]) := ⟨by kernel_rfl, by kernel_rfl, by kernel_rfl⟩
theorem y16_sl49 : SlIs Try.prog 49 3 1 8 (.int .i64 0) := ⟨by kernel_rfl, by kernel_rfl, by kernel_rfl⟩
theorem y16_ty22 : TyIs Try.prog 22 false 1 := ⟨by kernel_rfl, by kernel_rfl⟩
theorem y16_ty23 : TyIs Try.prog 23 false 1 := ⟨by kernel_rfl, by kernel_rfl⟩
theorem y16_ty26 : TyIs Try.prog 26 true 4 := ⟨by kernel_rfl, by kernel_rfl⟩
theorem y16_ty3 : TyIs Try.prog 3 false 1 := ⟨by kernel_rfl, by kernel_rfl⟩
theorem y16_ty49 : TyIs Try.prog 49 false 1 := ⟨by kernel_rfl, by kernel_rfl⟩

theorem firN_at {f : Nat → Int} : ∀ {n i : Nat}, firN f n = some i → i < n ∧ f i ≠ 0
  | 0, _, h => by cases h
  | n + 1, i, h => by
    simp only [firN] at h
    cases h1 : firN f n with
    | some k => rw [h1] at h; cases h; exact ⟨by have := (firN_at h1).1; omega, (firN_at h1).2⟩
    | none =>
      rw [h1] at h
      by_cases h2 : f n = 0
      · simp [h2] at h
      · simp [h2] at h; subst h; exact ⟨by omega, h2⟩
theorem firN_all {f : Nat → Int} : ∀ {n : Nat}, firN f n = none → ∀ j : Nat, j < n → f j = 0
  | 0, _, j, hj => by omega
  | n + 1, h, j, hj => by
    simp only [firN] at h
    cases h1 : firN f n with
    | some k => rw [h1] at h; cases h
    | none =>
      rw [h1] at h
      by_cases h2 : f n = 0
      · by_cases hjn : j = n
        · rw [hjn]; exact h2
        · exact firN_all h1 j (by omega)
      · simp [h2] at h
theorem lisM_zero {k : Int} {f : Nat → Int} {n : Nat} {z : (Int × Int) × Int} (h : (lisM k f n z).2 = 0) : (∀ j : Nat, j < n → f j = 0) ∧ z.2 = 0 := by
  unfold lisM at h
  cases h1 : firN f n with
  | some i => rw [h1] at h; exact absurd h (firN_at h1).2
  | none => rw [h1] at h; exact ⟨firN_all h1, h⟩
/-- A right line. -/
structure Rgt (l : Lin) : Prop where
  nam : isNameB l.nam = true
  n0 : 1 ≤ l.bs.length
  n1 : l.bs.length ≤ 40
  js : l.js.length = l.bs.length + 1
  ja : ∀ j : Nat, j < l.js.length → jntE (l.js.getD j default) = 0
  ba : ∀ j : Nat, j < l.bs.length → beaE (l.bs.getD j default) = 0
  s1 : l.ss.length ≤ 4
  sa : ∀ j : Nat, j < l.ss.length → swiE l j = 0
theorem rgt_of {l : Lin} (h : (linM l).2 = 0) : Rgt l := by
  unfold linM at h
  split at h
  · cases h
  split at h
  · cases h
  split at h
  · cases h
  obtain ⟨h1, h⟩ := lisM_zero h
  obtain ⟨h2, h⟩ := lisM_zero h
  split at h
  · cases h
  obtain ⟨h3, _⟩ := lisM_zero h
  rename_i a b c d
  exact ⟨by simp_all, by omega, by omega, by omega, h1, h2, by omega, h3⟩
theorem withinB_iff {n lo hi : Int} : withinB n lo hi = true ↔ lo ≤ n ∧ n ≤ hi := by simp [withinB]
theorem misE_z {n lo hi : Int} : misE n lo hi = 0 ↔ lo ≤ n ∧ n ≤ hi := by
  unfold misE; rw [← withinB_iff]
  cases withinB n lo hi <;> simp
theorem Rgt.bea {l : Lin} (h : Rgt l) (j : Nat) (hj : j < l.bs.length) : 1000 ≤ (l.bs.getD j default).len ∧ (l.bs.getD j default).len ≤ 30000 ∧ -300 ≤ (l.bs.getD j default).cant ∧ (l.bs.getD j default).cant ≤ 300 := by
  have := h.ba j hj
  unfold beaE at this
  split at this
  · rename_i hb
    simp only [beaB, smaB, Bool.and_eq_true, withinB_iff] at hb
    omega
  · cases this
theorem Rgt.jnt {l : Lin} (h : Rgt l) (j : Nat) (hj : j < l.js.length) : (-20000 ≤ (l.js.getD j default).acr ∧ (l.js.getD j default).acr ≤ 20000) ∧ (-20000 ≤ (l.js.getD j default).up ∧ (l.js.getD j default).up ≤ 20000) ∧ -100 ≤ (l.js.getD j default).lo ∧ (l.js.getD j default).hi ≤ 100 ∧ (l.js.getD j default).lo ≤ (l.js.getD j default).hi := by
  have := h.ja j hj
  unfold jntE at this
  split at this
  · rename_i hb
    split at this
    · simp only [jntB, smaB, Bool.and_eq_true, withinB_iff] at hb
      omega
    · cases this
  · cases this
theorem Rgt.len {l : Lin} (h : Rgt l) : ∀ j : Nat, j < l.bs.length → 0 ≤ (l.bs.getD j default).len ∧ (l.bs.getD j default).len ≤ 30000 := fun j hj => by have := h.bea j hj; omega
theorem yOpen_good (l : Lin) (hl : Sho l) (hg : (linM l).2 = 0) : FnOk Try.prog 76 [lnA l] (fun q => q = .tuple [tkA l, mA 0]) := yOpen_ok l hl hg (by have := (rgt_of hg).n1; omega) (rgt_of hg).len
set_option maxRecDepth 100000 in
set_option maxHeartbeats 1000000 in
theorem yJointErr_ok (l : Lin) (h : Rgt l) (n : Int) : FnOk Try.prog 93 [tkA l, mA n] (fun q => q = mA (misE n 0 (l.js.length - 1))) := by
  refine fnOk_of (fn := Try.f93) 15 (by kernel_rfl) rfl (by kernel_rfl) (Nat.le_of_ble_eq_true rfl) ?_
  intro e_0 m_0 hA hm_0
  have s0_0 : evA e_0 (.tmp 0) = _ := hA 0 _ rfl
  have s1_0 : evA e_0 (.tmp 1) = _ := hA 1 _ rfl
  have ml_0 : m_0.length = 0 := by rw [hm_0]; rfl
  clear hA hm_0
  have hn1 := h.n1; have hn0 := h.n0; have hj := h.js
  refine aw_seq <| at_ <| ar (ro_assign ev_c) rfl <| ae2 (up_m rfl s0_0) (up_m rfl s1_0) ?_; clear s0_0 s1_0; intro e_1 s0_1 s1_1
  refine then_n <| aw_seq <| at_ <| ar (ro_move s1_1) rfl <| ar (ro_move (up_m rfl s0_1)) rfl <| ar (ro_nilR up_h) rfl <| ar (ro_eq (ro_fld_ref qfl141_0 rfl up_h) (by simp only [pS, Value.cells, Nat.reduceAdd] <;> rfl)) rfl ?_
  refine ar (ro_eq (ro_fld_ref qfl26_1 rfl up_h) (by simp only [pS, Value.cells, Nat.reduceAdd] <;> rfl)) rfl ?_
  refine ar (ro_eq (ro_ld_ref y16_ty22 rfl up_h (nle rfl)) (by simp only [pS, Value.cells, Nat.reduceAdd] <;> rfl)) rfl ?_
  refine ar (ro_eq (ro_len_row up_h rfl y16_sl22.1) (by simp only [lnS] <;> rfl)) rfl ?_
  (refine ar (ro_sub' up_h ev_c ?_) rfl ?_; · (unfold In64; omega))
  refine ar (ro_call (evL_cons (up_m rfl (u2 rfl (u4 rfl up_h))) (evL_cons ev_c (evL_cons up_h evL_nil))) rfl (yWithin_ok _ _ _) qhcf97) rfl <| ar (ro_call (evL_cons up_h (evL_cons ev_c evL_nil)) rfl (yUnless_ok _ _) qhcf94) rfl <| ar (ro_assign up_h) rfl <| ae1 up_h ?_; clear s0_1 s1_1; intro e_2 s4_2
  refine then_n <| aw_ret <| ret1 (.inr rfl) (by kernel_rfl) (resV_tmp s4_2) (.ro _ rfl) ?_
  clear s4_2  ml_0
  rfl
set_option maxRecDepth 100000 in
set_option maxHeartbeats 1000000 in
theorem yBeamErr_ok (l : Lin) (h : Rgt l) (n : Int) : FnOk Try.prog 102 [tkA l, mA n] (fun q => q = mA (misE n 0 (l.bs.length - 1))) := by
  refine fnOk_of (fn := Try.f102) 15 (by kernel_rfl) rfl (by kernel_rfl) (Nat.le_of_ble_eq_true rfl) ?_
  intro e_0 m_0 hA hm_0
  have s0_0 : evA e_0 (.tmp 0) = _ := hA 0 _ rfl
  have s1_0 : evA e_0 (.tmp 1) = _ := hA 1 _ rfl
  have ml_0 : m_0.length = 0 := by rw [hm_0]; rfl
  clear hA hm_0
  have hn1 := h.n1; have hn0 := h.n0; have hj := h.js
  refine aw_seq <| at_ <| ar (ro_assign ev_c) rfl <| ae2 (up_m rfl s0_0) (up_m rfl s1_0) ?_; clear s0_0 s1_0; intro e_1 s0_1 s1_1
  refine then_n <| aw_seq <| at_ <| ar (ro_move s1_1) rfl <| ar (ro_move (up_m rfl s0_1)) rfl <| ar (ro_nilR up_h) rfl <| ar (ro_eq (ro_fld_ref qfl141_0 rfl up_h) (by simp only [pS, Value.cells, Nat.reduceAdd] <;> rfl)) rfl ?_
  refine ar (ro_eq (ro_fld_ref qfl26_2 rfl up_h) (by simp only [pS, Value.cells, Nat.reduceAdd] <;> rfl)) rfl ?_
  refine ar (ro_eq (ro_ld_ref y16_ty23 rfl up_h (nle rfl)) (by simp only [pS, Value.cells, Nat.reduceAdd] <;> rfl)) rfl ?_
  refine ar (ro_eq (ro_len_row up_h rfl y16_sl23.1) (by simp only [lnS] <;> rfl)) rfl ?_
  (refine ar (ro_sub' up_h ev_c ?_) rfl ?_; · (unfold In64; omega))
  refine ar (ro_call (evL_cons (up_m rfl (u2 rfl (u4 rfl up_h))) (evL_cons ev_c (evL_cons up_h evL_nil))) rfl (yWithin_ok _ _ _) qhcf97) rfl <| ar (ro_call (evL_cons up_h (evL_cons ev_c evL_nil)) rfl (yUnless_ok _ _) qhcf94) rfl <| ar (ro_assign up_h) rfl <| ae1 up_h ?_; clear s0_1 s1_1; intro e_2 s4_2
  refine then_n <| aw_ret <| ret1 (.inr rfl) (by kernel_rfl) (resV_tmp s4_2) (.ro _ rfl) ?_
  clear s4_2  ml_0
  rfl
set_option maxRecDepth 100000 in
set_option maxHeartbeats 1000000 in
theorem placeOf_good (l : Lin) (hl : Sho l) (hg : (linM l).2 = 0) (n : Int) : FnOk Try.prog 56 [lnA l, mA n] (fun q => q = .tuple [mA (if misE n 0 (l.js.length - 1) = 0 then plaP l.bs n.toNat else 0), mA (misE n 0 (l.js.length - 1))]) := by
  refine fnOk_of (fn := Try.f56) 30 (by kernel_rfl) rfl (by kernel_rfl) (Nat.le_of_ble_eq_true rfl) ?_
  intro e_0 m_0 hA hm_0
  have s0_0 : evA e_0 (.tmp 0) = _ := hA 0 _ rfl
  have s1_0 : evA e_0 (.tmp 1) = _ := hA 1 _ rfl
  have ml_0 : m_0.length = 0 := by rw [hm_0]; rfl
  clear hA hm_0
  have hr := rgt_of hg; have hn1 := hr.n1; have hn0 := hr.n0; have hj := hr.js; have hpl := plaL_len (bs := l.bs) (n := l.bs.length)
  refine aw_seq <| at_ <| al_stm (st_box s0_0 rfl ml_0) trivial rfl (fun m_1 hm_1 => ?_)
  have mo0_1 := m_push hm_1 ml_0
  have ml_1 := m_push_l hm_1 ml_0
  have ml_1 : _ = 1 := ml_1
  clear hm_1
  refine ar (ro_assign ev_c) rfl <| ar (ro_assign ev_c) rfl <| ae2 (up_m rfl (u2 rfl s1_0)) (u2 rfl up_h) ?_; clear s0_0 s1_0; intro e_2 s1_2 s2_2
  refine then_n <| aw_seq <| at_ <| ar (ro_eq (ro_ld_ptr y16_ty26 rfl mo0_1 s2_2 (nle rfl)) (by simp only [pS, Value.cells, Nat.reduceAdd] <;> rfl)) rfl ?_
  refine ar (ro_call (evL_cons up_h evL_nil) rfl (yOpen_good l hl hg) qhcf76) rfl <| ar (ro_move up_h) rfl <| ar (ro_extract up_h rfl) rfl <| ar (ro_extract (up_m rfl up_h) rfl) rfl <| ar (ro_assign (up_m rfl up_h)) rfl <| ar (ro_assign (up_m rfl up_h)) rfl <| ae3 (up_m rfl (u2 rfl (u4 rfl s1_2))) (up_m rfl up_h) up_h ?_; clear s1_2 s2_2; intro e_3 s1_3 s6_3 s7_3
  refine then_n <| aw_seq <| aw_seq <| at_ <| ar (ro_move s7_3) rfl <| ar (ro_neq up_h ev_c) rfl <| ae4 (u2 rfl s1_3) (u2 rfl s6_3) (u2 rfl s7_3) up_h ?_; clear s1_3 s6_3 s7_3; intro e_4 s1_4 s6_4 s7_4 s15_4
  refine then_n <| aw_case s15_4 (fun hq_5 => ?_) (fun hq_5 => ?_)
  · replace hq_5 := bnt hq_5; exfalso; omega
  replace hq_5 := bnf hq_5
  refine aw_skip <| then_n <| aw_seq <| aw_seq <| at_ <| ar (ro_move s6_4) rfl <| ar (ro_move (up_m rfl s1_4)) rfl <| ar (ro_call (evL_cons (up_m rfl up_h) (evL_cons up_h evL_nil)) rfl (yJointErr_ok l hr n) y16_hcf93) rfl <| ar (ro_assign up_h) rfl <| ae3 (u4 rfl s1_4) (u4 rfl s6_4) up_h ?_; clear s15_4 s1_4 s6_4 s7_4; intro e_7 s1_7 s6_7 s8_7
  refine then_n <| aw_seq <| at_ <| ar (ro_move s8_7) rfl <| ar (ro_neq up_h ev_c) rfl <| ae4 (u2 rfl s1_7) (u2 rfl s6_7) (u2 rfl s8_7) up_h ?_; clear s1_7 s6_7 s8_7; intro e_8 s1_8 s6_8 s8_8 s21_8
  refine then_n <| aw_case s21_8 (fun hq_9 => ?_) (fun hq_9 => ?_)
  ·replace hq_9 := bnt hq_9
   refine aw_seq <| at_ <| ar (ro_move s8_8) rfl <| ar (ro_assign ev_c) rfl <| ar (ro_assign (up_m rfl up_h)) rfl <| ae2 (up_m rfl up_h) up_h ?_; clear s1_8 s21_8 s6_8 s8_8; intro e_10 s4_10 s5_10
   refine then_n <| aw_ret <| then_r <| ret2 (.inr rfl) (by kernel_rfl) (resV_tmp s4_10) (resV_tmp s5_10) (.ro _ rfl) (.ro _ rfl) ?_
   clear s4_10 s5_10 mo0_1 ml_1
   simp_all
  replace hq_9 := bnf hq_9
  (have hm : misE n 0 (l.js.length - 1) = 0 := (by assumption); have hw := misE_z.1 hm)
  refine aw_skip <| then_n <| aw_seq <| at_ <| ar (ro_move s6_8) rfl <| ar (ro_nilR up_h) rfl <| ar (ro_eq (ro_fld_ref qfl141_1 rfl up_h) (by simp only [pS, Value.cells, Nat.reduceAdd] <;> rfl)) rfl ?_
  refine ar (ro_eq (ro_ld_ref y16_ty49 rfl up_h (nle rfl)) (by simp only [pS, Value.cells, Nat.reduceAdd] <;> rfl)) rfl ?_
  refine ar (ro_move (u4 rfl s1_8)) rfl <| ar (ro_eq (ro_ix y16_sl49 (up_m rfl up_h) up_h (by omega) (by first | (refine idx_map ?_; first | omega | (simp only [lnS]; omega)) | (refine idx_mapI ?_; first | omega | (simp only [lnS]; omega)) | (refine idx_mapN ?_; first | omega | (simp only [lnS]; omega)) | rfl)) (by simp only [pS, Value.cells, Nat.reduceAdd] <;> rfl)) rfl ?_
  refine ar (ro_eq (ro_ld_ref y16_ty3 rfl up_h (nle rfl)) (by simp only [pS, Value.cells, Nat.reduceAdd] <;> rfl)) rfl ?_
  refine ar (ro_assign up_h) rfl <| ar (ro_assign ev_c) rfl <| ae2 (up_m rfl up_h) up_h ?_; clear s1_8 s21_8 s6_8 s8_8; intro e_11 s4_11 s5_11
  refine then_n <| aw_ret <| ret2 (.inr rfl) (by kernel_rfl) (resV_tmp s4_11) (resV_tmp s5_11) (.ro _ rfl) (.ro _ rfl) ?_
  clear s4_11 s5_11 mo0_1 ml_1
  (rw [if_pos hm, plaL_get (by omega), hm])
end Go.Proofs.Ytonjcljnpcmenaa

