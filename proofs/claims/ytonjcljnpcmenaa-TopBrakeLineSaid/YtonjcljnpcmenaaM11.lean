/- Texts of this claim, one behind the other: lemmas for the statement. -/
import Derived.Test.YtonjcljnpcmenaaT0
import Derived.Test.YtonjcljnpcmenaaM10
/- Contracts of chapter 5: where a train stands. No conditions on a program. -/
namespace Go.Proofs.Ytonjcljnpcmenaa
open Go Go.RowKit Go.Proofs
set_option linter.unusedSimpArgs false
set_option linter.unusedVariables false
theorem k10_bz39 : (Try.prog.info? 39).bind (·.zero) = some (.agg #[.int .i64 0, .int .i64 0]) := by kernel_rfl
theorem k10_bu39 : Try.prog.underlying 39 = some (.struct (fsOf Try.prog 39)) := by kernel_rfl
theorem k10_bp39 : ∀ w, ((fsOf Try.prog 39).mapM fun f => Prod.mk f.offset <$> sizeOf f.type : Sem (Array (Nat × Nat))).run Try.prog w = .ok (#[(0, 1), (1, 1)]) w := fun _ => by kernel_rfl
theorem k10_sl185 : SlIs Try.prog 185 34 1 8 (.int .i64 0) := ⟨by kernel_rfl, by kernel_rfl, by kernel_rfl⟩
theorem k10_sl49 : SlIs Try.prog 49 3 1 8 (.int .i64 0) := ⟨by kernel_rfl, by kernel_rfl, by kernel_rfl⟩
theorem k10_sl98 : SlIs Try.prog 98 104 4 32 (.agg #[.int .i64 0, .int .i64 0, .int .i64 0, .bool false]) := ⟨by kernel_rfl, by kernel_rfl, by kernel_rfl⟩
theorem k10_ty100 : TyIs Try.prog 100 true 2 := ⟨by kernel_rfl, by kernel_rfl⟩
theorem k10_ty113 : TyIs Try.prog 113 true 2 := ⟨by kernel_rfl, by kernel_rfl⟩
theorem k10_ty168 : TyIs Try.prog 168 true 2 := ⟨by kernel_rfl, by kernel_rfl⟩
theorem k10_ty173 : TyIs Try.prog 173 true 5 := ⟨by kernel_rfl, by kernel_rfl⟩
theorem k10_ty3 : TyIs Try.prog 3 false 1 := ⟨by kernel_rfl, by kernel_rfl⟩
theorem k10_ty39 : TyIs Try.prog 39 true 2 := ⟨by kernel_rfl, by kernel_rfl⟩
theorem k10_ty93 : TyIs Try.prog 93 true 3 := ⟨by kernel_rfl, by kernel_rfl⟩
theorem k10_ty98 : TyIs Try.prog 98 false 1 := ⟨by kernel_rfl, by kernel_rfl⟩

theorem Ok.len {ps : List Piece} (h : Ok ps) {i : Nat} (hi : i < ps.length) : 1 ≤ (ps.getD i default).len := by
  have h1 := h (ps.getD i default) (by rw [List.getD_eq_getElem?_getD, List.getElem?_eq_getElem hi, Option.getD_some]; exact List.getElem_mem hi)
  simp only [pieceB, withinB, Bool.and_eq_true, decide_eq_true_eq] at h1
  omega
/-- Where a train stands, from a post on. -/
def stG (ps : List Piece) (b : Int) : Nat → Nat → Int → Option (Int × Int)
  | 0, _, _ => none
  | k + 1, i, s => if losW b (ps.getD i default) > 0 ∧ losW b (ps.getD i default) ≥ s then
      some (sumL ps i + s.tdiv ((losW b (ps.getD i default)).tdiv (ps.getD i default).len), sumL ps i + (s + (losW b (ps.getD i default)).tdiv (ps.getD i default).len - 1).tdiv ((losW b (ps.getD i default)).tdiv (ps.getD i default).len))
    else stG ps b k (i + 1) (s - losW b (ps.getD i default))
def stW (ps : List Piece) (b post sq : Int) : (Int × Int) × Int := match stG ps b (ps.length - post.toNat) post.toNat sq with
  | some x => (x, 0)
  | none => ((0, 0), 12)
theorem los_by {dec : Int} {p : Piece} (hl : 1 ≤ p.len) : (losW dec p).tdiv p.len = 2 * (dec + 10 * p.grad) := by
  unfold losW
  exact Int.mul_tdiv_cancel _ (by omega)
theorem los_pos {dec : Int} {p : Piece} (hl : 1 ≤ p.len) (h : losW dec p > 0) : 2 * (dec + 10 * p.grad) ≥ 1 := by
  unfold losW at h
  by_cases hc : 2 * (dec + 10 * p.grad) ≥ 1
  · exact hc
  · have : 2 * (dec + 10 * p.grad) * p.len ≤ 0 := Int.mul_nonpos_of_nonpos_of_nonneg (by omega) (by omega)
    omega
theorem tdiv_bound {x y : Int} (hx : 0 ≤ x) (hy : 1 ≤ y) : 0 ≤ x.tdiv y ∧ x.tdiv y ≤ x := by
  rw [Int.tdiv_eq_ediv_of_nonneg hx]
  exact ⟨Int.ediv_nonneg hx (by omega), Int.ediv_le_self _ hx⟩
def stE (nm : ByteArray) (ps : List Piece) (b d v post sq : Int) : Int := firstE [firstE [(chk nm ps).2, sysE b d v], stateE ps post sq]
theorem stE_right {nm : ByteArray} {ps : List Piece} {b d v post sq : Int} (h : stE nm ps b d v post sq = 0) : trackR ps ∧ sysR b d v ∧ (0 ≤ post ∧ post ≤ ps.length) ∧ (0 ≤ sq ∧ sq ≤ 20000000000) := by
  obtain ⟨h1, h2, h3⟩ := ride_right h
  obtain ⟨h4, h5⟩ := firstE_cons h3
  obtain ⟨h8, h9⟩ := firstE_cons h4
  have a1 := unlessE_zero h8 (by decide)
  have a2 := unlessE_zero (firstE_cons h9).1 (by decide)
  simp only [withinB, Bool.and_eq_true, decide_eq_true_eq] at a1 a2
  exact ⟨h1, h2, a1, a2⟩
section
variable (nm : ByteArray) (ps : List Piece) (hs : nm.size ≤ 1000000000) (hp : ps.length ≤ 1000000000) (b d v : Int)
include hs hp
set_option maxRecDepth 100000 in
set_option maxHeartbeats 4000000 in
theorem standsAt_ok (post sq : Int) : FnOk Try.prog 66 [trA nm ps, syA b d v, .agg [iA post, iA sq]] (fun q => q = .tuple [.agg [iA (if stE nm ps b d v post sq = 0 then (stW ps b post sq).1 else (0, 0)).1, iA (if stE nm ps b d v post sq = 0 then (stW ps b post sq).1 else (0, 0)).2], iA (if stE nm ps b d v post sq = 0 then (stW ps b post sq).2 else stE nm ps b d v post sq)]) := by
  refine fnOk_of (fn := Try.f66) 91 (by kernel_rfl) rfl (by kernel_rfl) (Nat.le_of_ble_eq_true rfl) ?_
  intro e_0 m_0 hA hm_0
  have s0_0 : evA e_0 (.tmp 0) = _ := hA 0 _ rfl
  have s1_0 : evA e_0 (.tmp 1) = _ := hA 1 _ rfl
  have s2_0 : evA e_0 (.tmp 2) = _ := hA 2 _ rfl
  have ml_0 : m_0.length = 0 := by rw [hm_0]; rfl
  clear hA hm_0
  refine aw_seq <| at_ <| al_stm (st_box s0_0 rfl ml_0) trivial rfl (fun m_1 hm_1 => ?_)
  have mo0_1 := m_push hm_1 ml_0
  have ml_1 := m_push_l hm_1 ml_0
  have ml_1 : _ = 1 := ml_1
  clear hm_1
  refine al_stm (st_box (up_m rfl s1_0) rfl ml_1) trivial rfl (fun m_2 hm_2 => ?_)
  have mo1_2 := m_push hm_2 ml_1
  have mo0_2 := m_push_o hm_2 mo0_1
  have ml_2 := m_push_l hm_2 ml_1
  have ml_2 : _ = 2 := ml_2
  clear hm_2 mo0_1
  refine al_stm (st_box (u2 rfl s2_0) rfl ml_2) trivial rfl (fun m_3 hm_3 => ?_)
  have mo2_3 := m_push hm_3 ml_2
  have mo1_3 := m_push_o hm_3 mo1_2
  have mo0_3 := m_push_o hm_3 mo0_2
  have ml_3 := m_push_l hm_3 ml_2
  have ml_3 : _ = 3 := ml_3
  clear hm_3 mo1_2 mo0_2
  refine al_stm (st_alloc qaz39 rfl ml_3) trivial rfl (fun m_4 hm_4 => ?_)
  have mo3_4 := m_push hm_4 ml_3
  simp only [pS, Value.cells, Nat.reduceAdd] at mo3_4
  have mo2_4 := m_push_o hm_4 mo2_3
  have mo1_4 := m_push_o hm_4 mo1_3
  have mo0_4 := m_push_o hm_4 mo0_3
  have ml_4 := m_push_l hm_4 ml_3
  have ml_4 : _ = 4 := ml_4
  clear hm_4 mo2_3 mo1_3 mo0_3
  refine ar (ro_assign ev_c) rfl <| ae4 (u4 rfl up_h) (up_m rfl (u2 rfl up_h)) (u2 rfl up_h) (up_m rfl up_h) ?_; clear s0_0 s1_0 s2_0; intro e_5 s3_5 s4_5 s5_5 s6_5
  refine then_n <| aw_seq <| at_ <| ar (ro_eq (ro_ld_ptr k10_ty100 rfl mo0_4 s3_5 (nle rfl)) (by simp only [pS, Value.cells, Nat.reduceAdd] <;> rfl)) rfl ?_
  refine ar (ro_eq (ro_ld_ptr k10_ty93 rfl mo1_4 (up_m rfl s4_5) (nle rfl)) (by simp only [pS, Value.cells, Nat.reduceAdd] <;> rfl)) rfl ?_
  refine ar (ro_call (evL_cons (up_m rfl up_h) (evL_cons up_h evL_nil)) rfl (openRide_ok nm ps hs hp b d v) qhcf114) rfl <| ar (ro_move up_h) rfl <| ar (ro_extract up_h rfl) rfl <| ar (ro_extract (up_m rfl up_h) rfl) rfl <| al_stm (st_alloc qaz173 rfl ml_4) trivial rfl (fun m_6 hm_6 => ?_)
  have mo4_6 := m_push hm_6 ml_4
  simp only [pS, Value.cells, Nat.reduceAdd] at mo4_6
  have mo3_6 := m_push_o hm_6 mo3_4
  have mo2_6 := m_push_o hm_6 mo2_4
  have mo1_6 := m_push_o hm_6 mo1_4
  have mo0_6 := m_push_o hm_6 mo0_4
  have ml_6 := m_push_l hm_6 ml_4
  have ml_6 : _ = 5 := ml_6
  clear hm_6 mo3_4 mo2_4 mo1_4 mo0_4
  refine al_stm (st_store up_h (u2 rfl up_h) rfl rfl mo4_6 qsz173 rfl (nle rfl)) trivial rfl (fun m_7 hm_7 => ?_)
  have mo4_7 := m_set hm_7 mo4_6
  simp only [pS, Value.cells, Nat.reduceAdd] at mo4_7
  have mo3_7 := m_set_o hm_7 mo3_6 (by decide)
  have mo2_7 := m_set_o hm_7 mo2_6 (by decide)
  have mo1_7 := m_set_o hm_7 mo1_6 (by decide)
  have mo0_7 := m_set_o hm_7 mo0_6 (by decide)
  have ml_7 := m_set_l hm_7 ml_6
  clear hm_7 mo4_6 mo3_6 mo2_6 mo1_6 mo0_6
  refine ar (ro_assign (up_n (up_m rfl up_h))) rfl <| ae4 (up_m rfl (up_n (up_m rfl (u2 rfl (u4 rfl s5_5))))) (up_m rfl (up_n (up_m rfl (u2 rfl (u4 rfl s6_5))))) (up_m rfl (up_n up_h)) up_h ?_; clear s3_5 s4_5 s5_5 s6_5; intro e_8 s5_8 s6_8 s8_8 s9_8
  refine then_n <| aw_seq <| aw_seq <| at_ <| ar (ro_move s9_8) rfl <| ar (ro_eq (ro_ld_ptr k10_ty173 rfl mo4_7 (up_m rfl s8_8) (nle rfl)) (by simp only [pS, Value.cells, Nat.reduceAdd] <;> rfl)) rfl ?_
  refine ar (ro_eq (ro_ld_ptr k10_ty113 rfl mo2_7 (u2 rfl s5_8) (nle rfl)) (by simp only [pS, Value.cells, Nat.reduceAdd] <;> rfl)) rfl ?_
  refine ar (ro_call (evL_cons (up_m rfl up_h) (evL_cons up_h evL_nil)) rfl (stateErr_ok nm ps hp b d v post sq) qhcf122) rfl <| ar (ro_lit k10_sl185 (evP_cons (up_m rfl (u2 rfl up_h)) (evP_cons up_h evP_nil)) rfl rfl rfl rfl) rfl <| ar (ro_call (evL_cons up_h evL_nil) rfl (first_ok [_, _] (by simp)) qhcf115) rfl ?_
  refine ar (ro_assign up_h) rfl <| ae4 (up_m rfl (u2 rfl (u4 rfl s5_8))) (up_m rfl (u2 rfl (u4 rfl s6_8))) (up_m rfl (u2 rfl (u4 rfl s8_8))) up_h ?_; clear s5_8 s6_8 s8_8 s9_8; intro e_9 s5_9 s6_9 s8_9 s9_9
  refine then_n <| aw_seq <| at_ <| ar (ro_move s9_9) rfl <| ar (ro_neq up_h ev_c) rfl <| ae5 (u2 rfl s5_9) (u2 rfl s6_9) (u2 rfl s8_9) (u2 rfl s9_9) up_h ?_; clear s5_9 s6_9 s8_9 s9_9; intro e_10 s5_10 s6_10 s8_10 s9_10 s28_10
  refine then_n <| aw_case s28_10 (fun hq_11 => ?_) (fun hq_11 => ?_)
  ·replace hq_11 := bnt hq_11
   refine aw_seq <| at_ <| ar (ro_build evP_nil k10_bz39 k10_bu39 k10_bp39 rfl) rfl ?_
   refine ar (ro_move (up_m rfl s9_10)) rfl <| al_stm (st_store (u2 rfl s6_10) (up_m rfl up_h) rfl rfl mo3_7 qsz39 rfl (nle rfl)) trivial rfl (fun m_12 hm_12 => ?_)
   have mo3_12 := m_set hm_12 mo3_7
   simp only [pS, Value.cells, Nat.reduceAdd] at mo3_12
   have mo4_12 := m_set_o hm_12 mo4_7 (by decide)
   have mo2_12 := m_set_o hm_12 mo2_7 (by decide)
   have mo1_12 := m_set_o hm_12 mo1_7 (by decide)
   have mo0_12 := m_set_o hm_12 mo0_7 (by decide)
   have ml_12 := m_set_l hm_12 ml_7
   clear hm_12 mo4_7 mo3_7 mo2_7 mo1_7 mo0_7
   refine ar (ro_assign (up_n up_h)) rfl <| ae2 (up_m rfl (up_n (u2 rfl s6_10))) up_h ?_; clear s28_10 s5_10 s6_10 s8_10 s9_10; intro e_13 s6_13 s7_13
   refine then_n <| aw_ret <| then_r <| ret2 (.inr rfl) (by kernel_rfl) (resV_cell s6_13 mo3_12 k10_ty39 (nle rfl) (by simp)) (resV_tmp s7_13) (vw_r (.ro _ rfl)) (.ro _ rfl) ?_
   clear s6_13 s7_13 mo3_12 mo4_12 mo2_12 mo1_12 mo0_12 ml_12
   (have hq : ¬ stE nm ps b d v post sq = 0 := (by assumption); rw [if_neg hq, if_neg hq]; rfl)
  replace hq_11 := bnf hq_11
  (have hq : stE nm ps b d v post sq = 0 := (by assumption); have hR := stE_right hq; have hlen := hR.1.2; have hpl := plW_len ps ps.length; have hpo := hR.2.2.1; have hsq := hR.2.2.2; have hbb := hR.2.1.1)
  refine aw_skip <| then_n <| aw_seq <| aw_draw 7 (by kernel_rfl) (by kernel_rfl) (by kernel_rfl) (by kernel_rfl) ?_
  refine dr (ro_fld_ptr qfl173_0 rfl s8_10) rfl <| dr (ro_eq (ro_ld_ptr k10_ty168 rfl mo4_7 up_h (nle rfl)) (by simp only [pS, Value.cells, Nat.reduceAdd] <;> rfl)) rfl ?_
  refine dr (ro_call (evL_cons up_h evL_nil) rfl (places_ok nm ps hR.1.1 (by have := hR.1.2; omega)) qhcf113) rfl ?_
  refine dr (ro_fld_ptr qfl113_1 rfl (up_m rfl (u2 rfl s5_10))) rfl <| dr (ro_eq (ro_ld_ptr k10_ty3 rfl mo2_7 up_h (nle rfl)) (by simp only [pS, Value.cells, Nat.reduceAdd] <;> rfl)) rfl ?_
  refine dr (ro_assign (u2 rfl up_h)) rfl <| dr (ro_assign (up_m rfl up_h)) rfl <| ds_nil <| ae5 (up_m rfl (u2 rfl (u4 rfl s5_10))) (up_m rfl (u2 rfl (u4 rfl s6_10))) (up_m rfl (u2 rfl (u4 rfl s8_10))) (up_m rfl up_h) up_h ?_; clear s28_10 s5_10 s6_10 s8_10 s9_10; intro e_14 s5_14 s6_14 s8_14 s10_14 s11_14
  refine then_n <| aw_seq <| aw_seq <| at_ <| ar (ro_fld_ptr qfl113_0 rfl s5_14) rfl <| ar (ro_eq (ro_ld_ptr k10_ty3 rfl mo2_7 up_h (nle rfl)) (by simp only [pS, Value.cells, Nat.reduceAdd] <;> rfl)) rfl ?_
  refine ar (ro_assign up_h) rfl <| ae5 (up_m rfl (u2 rfl s6_14)) (up_m rfl (u2 rfl s8_14)) (up_m rfl (u2 rfl s10_14)) (up_m rfl (u2 rfl s11_14)) up_h ?_; clear s10_14 s11_14 s5_14 s6_14 s8_14; intro e_15 s6_15 s8_15 s10_15 s11_15 s12_15
  refine then_n <| aw_block <| aw_loop (S := (Int × Int)) (fun s e mem => match s with | ⟨i, s⟩ => (evA e (.tmp 12) = .v (.int .i64 i)) ∧ (evA e (.tmp 11) = .v (.int .i64 s)) ∧ (evA e (.tmp 6) = evA e_15 (.tmp 6)) ∧ (evA e (.tmp 8) = evA e_15 (.tmp 8)) ∧ (evA e (.tmp 10) = evA e_15 (.tmp 10)) ∧ (mem[4]? = m_7[4]?) ∧ (mem[3]? = m_7[3]?) ∧ (mem[2]? = m_7[2]?) ∧ (mem[1]? = m_7[1]?) ∧ (mem[0]? = m_7[0]?) ∧ (mem.length = 5) ∧ ((post ≤ i ∧ i ≤ ps.length ∧ 0 ≤ s ∧ s ≤ 20000000000 + 80000000000 * i ∧ stG ps b (ps.length - post.toNat) post.toNat sq = stG ps b (ps.length - i.toNat) i.toNat s))) (fun s => match s with | ⟨i, s⟩ => (ps.length - i).toNat) ⟨_, _⟩ ⟨s12_15, s11_15, rfl, rfl, rfl, rfl, rfl, rfl, rfl, rfl, ml_7, ?_⟩ ?_
  · (refine ⟨by omega, by omega, by omega, by omega, rfl⟩)
  · rintro ⟨i, s⟩ e_16 m_16 ⟨s12_16, s11_16, k6_16, k8_16, k10_16, mk4_16, mk3_16, mk2_16, mk1_16, mk0_16, ml_16, hinv⟩
    have s6_16 := k6_16.trans s6_15
    have s8_16 := k8_16.trans s8_15
    have s10_16 := k10_16.trans s10_15
    have mo4_16 := mk4_16.trans mo4_7
    have mo3_16 := mk3_16.trans mo3_7
    have mo2_16 := mk2_16.trans mo2_7
    have mo1_16 := mk1_16.trans mo1_7
    have mo0_16 := mk0_16.trans mo0_7
    refine aw_seq <| aw_seq <| at_ <| ar (ro_move s12_16) rfl <| ar (ro_fld_ptr qfl173_0 rfl (up_m rfl s8_16)) rfl <| ar (ro_fld_ptr qfl168_0 rfl up_h) rfl <| ar (ro_fld_ptr qfl100_1 rfl up_h) rfl <| ar (ro_eq (ro_ld_ptr k10_ty98 rfl mo4_16 up_h (nle rfl)) (by simp only [pS, Value.cells, Nat.reduceAdd] <;> rfl)) rfl ?_
    refine ar (ro_eq (ro_len_row up_h rfl k10_sl98.1) (by simp only [lnS] <;> rfl)) rfl ?_
    refine ar (ro_lss (up_m rfl (u4 rfl up_h)) up_h) rfl <| ae6 (up_m rfl (u2 rfl (u4 rfl s6_16))) (up_m rfl (u2 rfl (u4 rfl s8_16))) (up_m rfl (u2 rfl (u4 rfl s10_16))) (up_m rfl (u2 rfl (u4 rfl s11_16))) (up_m rfl (u2 rfl (u4 rfl s12_16))) up_h ?_; clear s10_16 s11_16 s12_16 s6_16 s8_16; intro e_17 s6_17 s8_17 s10_17 s11_17 s12_17 s44_17
    refine then_n <| aw_case s44_17 (fun hq_18 => ?_) (fun hq_18 => ?_)
    ·replace hq_18 := bt hq_18
     (obtain ⟨p1, p2, p3, p4, p5⟩ := hinv; have hpa := hR.1.1.at i.toNat; have hle := hR.1.1.len (i := i.toNat) (by omega); have hlos := los_bound (dec := b) (p := ps.getD i.toNat default) (by omega) hpa.1 hpa.2.1; have hsu := sumL_bound hR.1.1 i.toNat; have hat : (plW ps ps.length).getD i.toNat default = sumL ps i.toNat := plW_at ps (by omega); have hby := los_by (dec := b) hle)
     refine aw_skip <| then_n <| aw_seq <| aw_block <| aw_seq <| at_ <| ar (ro_eq (ro_ld_ptr k10_ty173 rfl mo4_16 s8_17 (nle rfl)) (by simp only [pS, Value.cells, Nat.reduceAdd] <;> rfl)) rfl ?_
     refine ar (ro_move (up_m rfl s12_17)) rfl <| ar (ro_call (evL_cons (up_m rfl up_h) (evL_cons up_h evL_nil)) rfl (braked_ok nm ps hR.1.1 b d v i (by omega) (by omega) (by have := hR.2.1.1; omega)) qhcf126) rfl ?_
     refine ar (ro_assign up_h) rfl <| ae6 (u4 rfl s6_17) (u4 rfl s8_17) (u4 rfl s10_17) (u4 rfl s11_17) (u4 rfl s12_17) up_h ?_; clear s10_17 s11_17 s12_17 s44_17 s6_17 s8_17; intro e_19 s6_19 s8_19 s10_19 s11_19 s12_19 s13_19
     refine then_n <| aw_seq <| aw_seq <| at_ <| ar (ro_move s13_19) rfl <| ar (ro_gtr up_h ev_c) rfl <| ar (ro_move up_h) rfl <| al_case up_h (fun hb_20 hq_20 => ?_) (fun hb_20 hq_20 => ?_)
     ·replace hq_20 := bt hq_20
      refine al_ro' (ro_move (up_m rfl (u2 rfl s13_19))) ⟨_, rfl, hb_20⟩ rfl ?_
      refine al_ro' (ro_move (u4 rfl s11_19)) ⟨_, rfl, (up_m rfl hb_20)⟩ rfl ?_
      refine al_ro' (ro_geq (up_m rfl up_h) up_h) ⟨_, rfl, (u2 rfl hb_20)⟩ rfl ?_
      refine ar (ro_pickT (up_m rfl (u2 rfl hb_20)) up_h) rfl <| ae7 (up_m rfl (u2 rfl (u4 rfl s6_19))) (up_m rfl (u2 rfl (u4 rfl s8_19))) (up_m rfl (u2 rfl (u4 rfl s10_19))) (up_m rfl (u2 rfl (u4 rfl s11_19))) (up_m rfl (u2 rfl (u4 rfl s12_19))) (up_m rfl (u2 rfl (u4 rfl s13_19))) up_h ?_; clear hb_20 s10_19 s11_19 s12_19 s13_19 s6_19 s8_19; intro e_21 s6_21 s8_21 s10_21 s11_21 s12_21 s13_21 s56_21
      refine then_n <| aw_case s56_21 (fun hq_22 => ?_) (fun hq_22 => ?_)
      ·replace hq_22 := bt hq_22
       (have hgt : losW b (ps.getD i.toNat default) > 0 ∧ losW b (ps.getD i.toNat default) ≥ s := (by omega); have hps := los_pos hle hgt.1; have ht1 := tdiv_bound (x := s) (y := (losW b (ps.getD i.toNat default)).tdiv (ps.getD i.toNat default).len) (by omega) (by omega); have ht2 := tdiv_bound (x := s + (losW b (ps.getD i.toNat default)).tdiv (ps.getD i.toNat default).len - 1) (y := (losW b (ps.getD i.toNat default)).tdiv (ps.getD i.toNat default).len) (by omega) (by omega))
       refine aw_seq <| at_ <| ar (ro_move s13_21) rfl <| ar (ro_fld_ptr qfl173_0 rfl (up_m rfl s8_21)) rfl <| ar (ro_fld_ptr qfl168_0 rfl up_h) rfl <| ar (ro_fld_ptr qfl100_1 rfl up_h) rfl <| ar (ro_eq (ro_ld_ptr k10_ty98 rfl mo4_16 up_h (nle rfl)) (by simp only [pS, Value.cells, Nat.reduceAdd] <;> rfl)) rfl ?_
       refine ar (ro_move (up_m rfl (u4 rfl s12_21))) rfl <| ar (ro_eq (ro_ix k10_sl98 (up_m rfl up_h) up_h (by omega) (by first | (refine idx_map ?_; first | omega | (simp only [lnS]; omega)) | (refine idx_mapI ?_; first | omega | (simp only [lnS]; omega)) | (refine idx_mapN ?_; first | omega | (simp only [lnS]; omega)) | rfl)) (by rfl)) rfl ?_
       refine ar (ro_eq (ro_fld_ref qfl104_0 rfl up_h) (by simp only [pS, Value.cells, Nat.reduceAdd] <;> rfl)) rfl ?_
       refine ar (ro_eq (ro_ld_ref k10_ty3 rfl up_h (nle rfl)) (by simp only [pS, Value.cells, Nat.reduceAdd] <;> rfl)) rfl ?_
       (refine ar (ro_quo' (u8 rfl up_h) up_h (by omega) ?_) rfl ?_; · (unfold In64; omega))
       refine ar (ro_assign up_h) rfl <| ae5 (up_m rfl (u2 rfl (u8 rfl s6_21))) (up_m rfl (u2 rfl (u8 rfl s10_21))) (up_m rfl (u2 rfl (u8 rfl s11_21))) (up_m rfl (u2 rfl (u8 rfl s12_21))) up_h ?_; clear s10_21 s11_21 s12_21 s13_21 s56_21 s6_21 s8_21; intro e_23 s6_23 s10_23 s11_23 s12_23 s14_23
       refine then_n <| aw_seq <| aw_draw 20 (by kernel_rfl) (by kernel_rfl) (by kernel_rfl) (by kernel_rfl) ?_
       refine dr (ro_move s10_23) rfl <| dr (ro_move (up_m rfl s12_23)) rfl <| dr (ro_eq (ro_ix k10_sl49 (up_m rfl up_h) up_h (by omega) (by first | (refine idx_map ?_; first | omega | (simp only [lnS]; omega)) | (refine idx_mapI ?_; first | omega | (simp only [lnS]; omega)) | (refine idx_mapN ?_; first | omega | (simp only [lnS]; omega)) | rfl)) (by simp only [pS, Value.cells, Nat.reduceAdd] <;> rfl)) rfl ?_
       refine dr (ro_eq (ro_ld_ref k10_ty3 rfl up_h (nle rfl)) (by simp only [pS, Value.cells, Nat.reduceAdd] <;> rfl)) rfl ?_
       refine dr (ro_move (u4 rfl s11_23)) rfl <| dr (ro_move (up_m rfl (u4 rfl s14_23))) rfl ?_
       (refine dr (ro_quo' (up_m rfl up_h) up_h (by omega) ?_) rfl ?_; · (unfold In64; omega))
       (refine dr (ro_add' (up_m rfl (u2 rfl up_h)) up_h ?_) rfl ?_; · (unfold In64; omega))
       refine dr (ro_move (u8 rfl s10_23)) rfl <| dr (ro_move (up_m rfl (u8 rfl s12_23))) rfl <| dr (ro_eq (ro_ix k10_sl49 (up_m rfl up_h) up_h (by omega) (by first | (refine idx_map ?_; first | omega | (simp only [lnS]; omega)) | (refine idx_mapI ?_; first | omega | (simp only [lnS]; omega)) | (refine idx_mapN ?_; first | omega | (simp only [lnS]; omega)) | rfl)) (by simp only [pS, Value.cells, Nat.reduceAdd] <;> rfl)) rfl ?_
       refine dr (ro_eq (ro_ld_ref k10_ty3 rfl up_h (nle rfl)) (by simp only [pS, Value.cells, Nat.reduceAdd] <;> rfl)) rfl ?_
       refine dr (ro_move (u4 rfl (u8 rfl s11_23))) rfl <| dr (ro_move (up_m rfl (u4 rfl (u8 rfl s14_23)))) rfl ?_
       (refine dr (ro_add' (up_m rfl up_h) up_h ?_) rfl ?_; · (unfold In64; omega))
       (refine dr (ro_sub' up_h ev_c ?_) rfl ?_; · (unfold In64; omega))
       refine dr (ro_move (u16 rfl s14_23)) rfl ?_
       (refine dr (ro_quo' (up_m rfl up_h) up_h (by omega) ?_) rfl ?_; · (unfold In64; omega))
       (refine dr (ro_add' (u2 rfl (u4 rfl up_h)) up_h ?_) rfl ?_; · (unfold In64; omega))
       refine dr (ro_build (evP_cons (up_m rfl (u2 rfl (u8 rfl up_h))) (evP_cons up_h evP_nil)) k10_bz39 k10_bu39 k10_bp39 rfl) rfl ?_
       refine ds_nil <| al_stm (st_store (u4 rfl (u16 rfl s6_23)) up_h rfl rfl mo3_16 qsz39 rfl (nle rfl)) trivial rfl (fun m_24 hm_24 => ?_)
       have mo3_24 := m_set hm_24 mo3_16
       simp only [pS, Value.cells, Nat.reduceAdd] at mo3_24
       have mo4_24 := m_set_o hm_24 mo4_16 (by decide)
       have mo2_24 := m_set_o hm_24 mo2_16 (by decide)
       have mo1_24 := m_set_o hm_24 mo1_16 (by decide)
       have mo0_24 := m_set_o hm_24 mo0_16 (by decide)
       have ml_24 := m_set_l hm_24 ml_16
       clear hm_24 mo4_16 mo3_16 mo2_16 mo1_16 mo0_16
       refine ar (ro_assign ev_c) rfl <| ae2 (up_m rfl (up_n (u4 rfl (u16 rfl s6_23)))) up_h ?_; clear s10_23 s11_23 s12_23 s14_23 s6_23; intro e_25 s6_25 s7_25
       refine then_n <| aw_ret <| then_r <| block_r <| then_r <| then_r <| block_r <| then_r <| ret2 (.inr rfl) (by kernel_rfl) (resV_cell s6_25 mo3_24 k10_ty39 (nle rfl) (by simp)) (resV_tmp s7_25) (vw_r (.ro _ rfl)) (.ro _ rfl) ?_
       clear s6_25 s7_25 mo3_24 mo4_24 mo2_24 mo1_24 mo0_24 ml_24
       (have hst : stG ps b (ps.length - post.toNat) post.toNat sq = some (_, _) := (by rw [p5, show ps.length - i.toNat = (ps.length - (i + 1).toNat) + 1 by omega]; simp only [stG]; rw [if_pos hgt]); rw [if_pos hq, if_pos hq, stW, hst, hat]; rfl)
      replace hq_22 := bf hq_22
      refine aw_skip <| then_n <| at_ <| ar (ro_move s11_21) rfl <| ar (ro_move (up_m rfl s13_21)) rfl ?_
      (refine ar (ro_sub' (up_m rfl up_h) up_h ?_) rfl ?_; · (unfold In64; omega))
      refine ar (ro_assign up_h) rfl <| ae5 (u4 rfl s6_21) (u4 rfl s8_21) (u4 rfl s10_21) up_h (u4 rfl s12_21) ?_; clear s10_21 s11_21 s12_21 s13_21 s56_21 s6_21 s8_21; intro e_26 s6_26 s8_26 s10_26 s11_26 s12_26
      refine block_n <| then_n <| at_ <| ar (ro_move s12_26) rfl ?_
      (refine ar (ro_add' up_h ev_c ?_) rfl ?_; · (unfold In64; omega))
      refine ar (ro_assign up_h) rfl <| ae5 (up_m rfl (u2 rfl s6_26)) (up_m rfl (u2 rfl s8_26)) (up_m rfl (u2 rfl s10_26)) (up_m rfl (u2 rfl s11_26)) up_h ?_; clear s10_26 s11_26 s12_26 s6_26 s8_26; intro e_27 s6_27 s8_27 s10_27 s11_27 s12_27
      refine then_n <| ⟨⟨_, _⟩, ⟨s12_27, s11_27, (s6_27.trans s6_15.symm), (s8_27.trans s8_15.symm), (s10_27.trans s10_15.symm), (mo4_16.trans mo4_7.symm), (mo3_16.trans mo3_7.symm), (mo2_16.trans mo2_7.symm), (mo1_16.trans mo1_7.symm), (mo0_16.trans mo0_7.symm), ml_16, ?_⟩, ?_⟩
      · (refine ⟨by omega, by omega, by omega, by omega, ?_⟩; rw [p5, show ps.length - i.toNat = (ps.length - (i + 1).toNat) + 1 by omega, show (i + 1).toNat = i.toNat + 1 by omega]; simp only [stG]; rw [if_neg (by omega)])
      · ((try dsimp only); omega)
     replace hq_20 := bf hq_20
     refine al_skip' ⟨_, rfl, .inl hb_20⟩ rfl ?_
     refine al_skip' ⟨_, rfl, .inl (up_m rfl hb_20)⟩ rfl ?_
     refine al_skip' ⟨_, rfl, .inl (u2 rfl hb_20)⟩ rfl ?_
     refine ar (ro_pickF (up_m rfl (u2 rfl hb_20)) ev_c) rfl <| ae7 (up_m rfl (u2 rfl (u4 rfl s6_19))) (up_m rfl (u2 rfl (u4 rfl s8_19))) (up_m rfl (u2 rfl (u4 rfl s10_19))) (up_m rfl (u2 rfl (u4 rfl s11_19))) (up_m rfl (u2 rfl (u4 rfl s12_19))) (up_m rfl (u2 rfl (u4 rfl s13_19))) up_h ?_; clear hb_20 s10_19 s11_19 s12_19 s13_19 s6_19 s8_19; intro e_28 s6_28 s8_28 s10_28 s11_28 s12_28 s13_28 s56_28
     refine then_n <| aw_false s56_28 <| aw_skip <| then_n <| at_ <| ar (ro_move s11_28) rfl <| ar (ro_move (up_m rfl s13_28)) rfl ?_
     (refine ar (ro_sub' (up_m rfl up_h) up_h ?_) rfl ?_; · (unfold In64; omega))
     refine ar (ro_assign up_h) rfl <| ae5 (u4 rfl s6_28) (u4 rfl s8_28) (u4 rfl s10_28) up_h (u4 rfl s12_28) ?_; clear s10_28 s11_28 s12_28 s13_28 s56_28 s6_28 s8_28; intro e_30 s6_30 s8_30 s10_30 s11_30 s12_30
     refine block_n <| then_n <| at_ <| ar (ro_move s12_30) rfl ?_
     (refine ar (ro_add' up_h ev_c ?_) rfl ?_; · (unfold In64; omega))
     refine ar (ro_assign up_h) rfl <| ae5 (up_m rfl (u2 rfl s6_30)) (up_m rfl (u2 rfl s8_30)) (up_m rfl (u2 rfl s10_30)) (up_m rfl (u2 rfl s11_30)) up_h ?_; clear s10_30 s11_30 s12_30 s6_30 s8_30; intro e_31 s6_31 s8_31 s10_31 s11_31 s12_31
     refine then_n <| ⟨⟨_, _⟩, ⟨s12_31, s11_31, (s6_31.trans s6_15.symm), (s8_31.trans s8_15.symm), (s10_31.trans s10_15.symm), (mo4_16.trans mo4_7.symm), (mo3_16.trans mo3_7.symm), (mo2_16.trans mo2_7.symm), (mo1_16.trans mo1_7.symm), (mo0_16.trans mo0_7.symm), ml_16, ?_⟩, ?_⟩
     · (refine ⟨by omega, by omega, by omega, by omega, ?_⟩; rw [p5, show ps.length - i.toNat = (ps.length - (i + 1).toNat) + 1 by omega, show (i + 1).toNat = i.toNat + 1 by omega]; simp only [stG]; rw [if_neg (by omega)])
     · ((try dsimp only); omega)
    replace hq_18 := bf hq_18
    refine aw_exit <| then_x <| then_x <| block_hit <| then_n <| aw_seq <| at_ <| ar (ro_build evP_nil k10_bz39 k10_bu39 k10_bp39 rfl) rfl ?_
    refine al_stm (st_store (up_m rfl s6_17) up_h rfl rfl mo3_16 qsz39 rfl (nle rfl)) trivial rfl (fun m_32 hm_32 => ?_)
    have mo3_32 := m_set hm_32 mo3_16
    simp only [pS, Value.cells, Nat.reduceAdd] at mo3_32
    have mo4_32 := m_set_o hm_32 mo4_16 (by decide)
    have mo2_32 := m_set_o hm_32 mo2_16 (by decide)
    have mo1_32 := m_set_o hm_32 mo1_16 (by decide)
    have mo0_32 := m_set_o hm_32 mo0_16 (by decide)
    have ml_32 := m_set_l hm_32 ml_16
    clear hm_32 mo4_16 mo3_16 mo2_16 mo1_16 mo0_16
    refine ar (ro_assign ev_c) rfl <| ae2 (up_m rfl (up_n (up_m rfl s6_17))) up_h ?_; clear s10_17 s11_17 s12_17 s44_17 s6_17 s8_17; intro e_33 s6_33 s7_33
    refine then_n <| aw_ret <| ret2 (.inr rfl) (by kernel_rfl) (resV_cell s6_33 mo3_32 k10_ty39 (nle rfl) (by simp)) (resV_tmp s7_33) (vw_r (.ro _ rfl)) (.ro _ rfl) ?_
    clear s6_33 s7_33 mo3_32 mo4_32 mo2_32 mo1_32 mo0_32 ml_32
    (obtain ⟨p1, p2, p3, p4, p5⟩ := hinv; have hst : stG ps b (ps.length - post.toNat) post.toNat sq = none := (by rw [p5, show ps.length - i.toNat = 0 by omega]; rfl); rw [if_pos hq, if_pos hq, stW, hst]; rfl)
end
end Go.Proofs.Ytonjcljnpcmenaa

/- Contracts of chapter 5: the document's places and limits, lists compared. No conditions on a program. -/
namespace Go.Proofs.Ytonjcljnpcmenaa
open Go Go.RowKit Go.Proofs
set_option linter.unusedSimpArgs false
set_option linter.unusedVariables false
theorem k11_sl49 : SlIs Try.prog 49 3 1 8 (.int .i64 0) := ⟨by kernel_rfl, by kernel_rfl, by kernel_rfl⟩
theorem k11_ty3 : TyIs Try.prog 3 false 1 := ⟨by kernel_rfl, by kernel_rfl⟩

theorem getD_ext {a b : List Int} (hl : a.length = b.length) (h : ∀ j : Nat, j < a.length → a.getD j default = b.getD j default) : a = b := by
  apply List.ext_getElem hl
  intro j h1 h2
  have := h j h1
  simpa [List.getD_eq_getElem?_getD, List.getElem?_eq_getElem h1, List.getElem?_eq_getElem h2] using this
theorem avi {x y : Int} (h : x = y) : AV.v (.int .i64 x) = AV.v (.int .i64 y) := by rw [h]
set_option maxRecDepth 100000 in
set_option maxHeartbeats 1000000 in
theorem ints_ok (a b : List Int) (ha : a.length ≤ 1000000000) (hb : b.length ≤ 1000000000) : FnOk Try.prog 26 [.row 1 (a.map iE), .row 1 (b.map iE)] (fun q => q = bA (decide (a = b))) := by
  refine fnOk_of (fn := Try.f26) 26 (by kernel_rfl) rfl (by kernel_rfl) (Nat.le_of_ble_eq_true rfl) ?_
  intro e_0 m_0 hA hm_0
  have s0_0 : evA e_0 (.tmp 0) = _ := hA 0 _ rfl
  have s1_0 : evA e_0 (.tmp 1) = _ := hA 1 _ rfl
  have ml_0 : m_0.length = 0 := by rw [hm_0]; rfl
  clear hA hm_0
  refine aw_seq <| at_ <| ar (ro_assign ev_c) rfl <| ae2 (up_m rfl s0_0) (up_m rfl s1_0) ?_; clear s0_0 s1_0; intro e_1 s0_1 s1_1
  refine then_n <| aw_seq <| aw_seq <| at_ <| ar (ro_move s0_1) rfl <| ar (ro_eq (ro_len_row up_h rfl k11_sl49.1) (by simp only [lnS] <;> rfl)) rfl ?_
  refine ar (ro_move (u2 rfl s1_1)) rfl <| ar (ro_eq (ro_len_row up_h rfl k11_sl49.1) (by simp only [lnS] <;> rfl)) rfl ?_
  refine ar (ro_neq (u2 rfl up_h) up_h) rfl <| ae3 (up_m rfl (u4 rfl s0_1)) (up_m rfl (u4 rfl s1_1)) up_h ?_; clear s0_1 s1_1; intro e_2 s0_2 s1_2 s10_2
  refine then_n <| aw_case s10_2 (fun hq_3 => ?_) (fun hq_3 => ?_)
  ·replace hq_3 := bnt hq_3
   refine aw_seq <| at_ <| ar (ro_assign ev_c) rfl <| ae1 up_h ?_; clear s0_2 s10_2 s1_2; intro e_4 s4_4
   refine then_n <| aw_ret <| then_r <| ret1 (.inr rfl) (by kernel_rfl) (resV_tmp s4_4) (.ro _ rfl) ?_
   clear s4_4  ml_0
   (have hne : ¬ a = b := (fun hc => absurd (congrArg List.length hc) (by omega)); rw [decide_eq_false hne])
  replace hq_3 := bnf hq_3
  (have hl : a.length = b.length := (by omega))
  refine aw_skip <| then_n <| aw_seq <| aw_seq <| at_ <| ar (ro_assign ev_c) rfl <| ae3 (up_m rfl s0_2) (up_m rfl s1_2) up_h ?_; clear s0_2 s10_2 s1_2; intro e_5 s0_5 s1_5 s5_5
  refine then_n <| aw_block <| aw_loop (S := Int) (fun i e mem => (evA e (.tmp 5) = .v (.int .i64 i)) ∧ (evA e (.tmp 0) = evA e_5 (.tmp 0)) ∧ (evA e (.tmp 1) = evA e_5 (.tmp 1)) ∧ (mem.length = 0) ∧ ((0 ≤ i ∧ i ≤ a.length ∧ a.length = b.length ∧ ∀ j : Nat, j < i → a.getD j default = b.getD j default))) (fun i => (a.length - i).toNat) _ ⟨s5_5, rfl, rfl, ml_0, ?_⟩ ?_
  · (refine ⟨by omega, by omega, by omega, fun j hj => absurd hj (by omega)⟩)
  · rintro i e_6 m_6 ⟨s5_6, k0_6, k1_6, ml_6, hinv⟩
    have s0_6 := k0_6.trans s0_5
    have s1_6 := k1_6.trans s1_5
    (have hl := hinv.2.2.1)
    refine aw_seq <| aw_seq <| at_ <| ar (ro_move s5_6) rfl <| ar (ro_move (up_m rfl s0_6)) rfl <| ar (ro_eq (ro_len_row up_h rfl k11_sl49.1) (by simp only [lnS] <;> rfl)) rfl ?_
    refine ar (ro_lss (u2 rfl up_h) up_h) rfl <| ae4 (u4 rfl s0_6) (u4 rfl s1_6) (u4 rfl s5_6) up_h ?_; clear s0_6 s1_6 s5_6; intro e_7 s0_7 s1_7 s5_7 s14_7
    refine then_n <| aw_case s14_7 (fun hq_8 => ?_) (fun hq_8 => ?_)
    ·replace hq_8 := bt hq_8
     (have hx := hinv.2.1)
     refine aw_skip <| then_n <| aw_seq <| aw_block <| aw_seq <| aw_draw 9 (by kernel_rfl) (by kernel_rfl) (by kernel_rfl) (by kernel_rfl) ?_
     refine dr (ro_move s0_7) rfl <| dr (ro_move (up_m rfl s5_7)) rfl <| dr (ro_eq (ro_ix k11_sl49 (up_m rfl up_h) up_h (by omega) (by first | (refine idx_map ?_; first | omega | (simp only [lnS]; omega)) | (refine idx_mapI ?_; first | omega | (simp only [lnS]; omega)) | (refine idx_mapN ?_; first | omega | (simp only [lnS]; omega)) | rfl)) (by simp only [pS, Value.cells, Nat.reduceAdd] <;> rfl)) rfl ?_
     refine dr (ro_eq (ro_ld_ref k11_ty3 rfl up_h (nle rfl)) (by simp only [pS, Value.cells, Nat.reduceAdd] <;> rfl)) rfl ?_
     refine dr (ro_move (u4 rfl s1_7)) rfl <| dr (ro_move (up_m rfl (u4 rfl s5_7))) rfl <| dr (ro_eq (ro_ix k11_sl49 (up_m rfl up_h) up_h (by omega) (by first | (refine idx_map ?_; first | omega | (simp only [lnS]; omega)) | (refine idx_mapI ?_; first | omega | (simp only [lnS]; omega)) | (refine idx_mapN ?_; first | omega | (simp only [lnS]; omega)) | rfl)) (by simp only [pS, Value.cells, Nat.reduceAdd] <;> rfl)) rfl ?_
     refine dr (ro_eq (ro_ld_ref k11_ty3 rfl up_h (nle rfl)) (by simp only [pS, Value.cells, Nat.reduceAdd] <;> rfl)) rfl ?_
     refine dr (ro_neq (u4 rfl up_h) up_h) rfl <| ds_nil <| ae4 (up_m rfl (u8 rfl s0_7)) (up_m rfl (u8 rfl s1_7)) (up_m rfl (u8 rfl s5_7)) up_h ?_; clear s0_7 s14_7 s1_7 s5_7; intro e_9 s0_9 s1_9 s5_9 s25_9
     refine then_n <| aw_case s25_9 (fun hq_10 => ?_) (fun hq_10 => ?_)
     ·replace hq_10 := bnt hq_10
      refine aw_seq <| at_ <| ar (ro_assign ev_c) rfl <| ae1 up_h ?_; clear s0_9 s1_9 s25_9 s5_9; intro e_11 s4_11
      refine then_n <| aw_ret <| block_r <| then_r <| then_r <| block_r <| then_r <| ret1 (.inr rfl) (by kernel_rfl) (resV_tmp s4_11) (.ro _ rfl) ?_
      clear s4_11  ml_6
      (have hne : ¬ a = b := (fun hc => absurd (congrArg (fun l => l.getD i.toNat default) hc) (by assumption)); rw [decide_eq_false hne])
     replace hq_10 := bnf hq_10
     refine aw_skip <| block_n <| then_n <| at_ <| ar (ro_move s5_9) rfl ?_
     (refine ar (ro_add' up_h ev_c ?_) rfl ?_; · (unfold In64; omega))
     refine ar (ro_assign up_h) rfl <| ae3 (up_m rfl (u2 rfl s0_9)) (up_m rfl (u2 rfl s1_9)) up_h ?_; clear s0_9 s1_9 s25_9 s5_9; intro e_12 s0_12 s1_12 s5_12
     refine then_n <| ⟨_, ⟨s5_12, (s0_12.trans s0_5.symm), (s1_12.trans s1_5.symm), ml_6, ?_⟩, ?_⟩
     · (obtain ⟨p1, p2, p3, p4⟩ := hinv; refine ⟨by omega, by omega, p3, fun j hj => ?_⟩; by_cases hji : j = i.toNat; (rw [hji]; assumption); exact p4 j (by omega))
     · ((try dsimp only); omega)
    replace hq_8 := bf hq_8
    refine aw_exit <| then_x <| then_x <| block_hit <| then_n <| aw_seq <| at_ <| ar (ro_assign ev_c) rfl <| ae1 up_h ?_; clear s0_7 s14_7 s1_7 s5_7; intro e_13 s4_13
    refine then_n <| aw_ret <| ret1 (.inr rfl) (by kernel_rfl) (resV_tmp s4_13) (.ro _ rfl) ?_
    clear s4_13  ml_6
    (obtain ⟨p1, p2, p3, p4⟩ := hinv; refine congrArg bA ?_; simp; exact getD_ext p3 fun j hj => p4 j (by omega))
end Go.Proofs.Ytonjcljnpcmenaa

/- Contracts of chapter 5: copies, the law's own plant, whether the program is awake. No conditions on a program. -/
namespace Go.Proofs.Ytonjcljnpcmenaa
open Go Go.RowKit Go.Proofs
set_option linter.unusedSimpArgs false
set_option linter.unusedVariables false
theorem k12_sl98 : SlIs Try.prog 98 104 4 32 (.agg #[.int .i64 0, .int .i64 0, .int .i64 0, .bool false]) := ⟨by kernel_rfl, by kernel_rfl, by kernel_rfl⟩
theorem k12_ty100 : TyIs Try.prog 100 true 2 := ⟨by kernel_rfl, by kernel_rfl⟩
theorem k12_ty9 : TyIs Try.prog 9 false 1 := ⟨by kernel_rfl, by kernel_rfl⟩
theorem k12_ty98 : TyIs Try.prog 98 false 1 := ⟨by kernel_rfl, by kernel_rfl⟩

set_option maxRecDepth 100000 in
set_option maxHeartbeats 1000000 in
theorem rCopy_ok (nm : ByteArray) (ps : List Piece) (hp : ps.length ≤ 1000000000) : FnOk Try.prog 60 [trA nm ps] (fun q => q = trA nm ps) := by
  refine fnOk_of (fn := Try.f60) 10 (by kernel_rfl) rfl (by kernel_rfl) (Nat.le_of_ble_eq_true rfl) ?_
  intro e_0 m_0 hA hm_0
  have s0_0 : evA e_0 (.tmp 0) = _ := hA 0 _ rfl
  have ml_0 : m_0.length = 0 := by rw [hm_0]; rfl
  clear hA hm_0
  refine aw_seq <| at_ <| al_stm (st_box s0_0 rfl ml_0) trivial rfl (fun m_1 hm_1 => ?_)
  have mo0_1 := m_push hm_1 ml_0
  have ml_1 := m_push_l hm_1 ml_0
  have ml_1 : _ = 1 := ml_1
  clear hm_1
  refine al_stm (st_alloc qaz100 rfl ml_1) trivial rfl (fun m_2 hm_2 => ?_)
  have mo1_2 := m_push hm_2 ml_1
  simp only [pS, Value.cells, Nat.reduceAdd] at mo1_2
  have mo0_2 := m_push_o hm_2 mo0_1
  have ml_2 := m_push_l hm_2 ml_1
  have ml_2 : _ = 2 := ml_2
  clear hm_2 mo0_1
  refine ae2 (up_m rfl up_h) up_h ?_; clear s0_0; intro e_3 s1_3 s2_3
  refine then_n <| aw_seq <| aw_draw 7 (by kernel_rfl) (by kernel_rfl) (by kernel_rfl) (by kernel_rfl) ?_
  refine dr (ro_fld_ptr qfl100_0 rfl s1_3) rfl <| dr (ro_eq (ro_ld_ptr k12_ty9 rfl mo0_2 up_h (nle rfl)) (by simp only [pS, Value.cells, Nat.reduceAdd] <;> rfl)) rfl ?_
  refine dr (ro_lit0 k12_sl98) rfl <| dr (ro_fld_ptr qfl100_1 rfl (up_m rfl (u2 rfl s1_3))) rfl <| dr (ro_eq (ro_ld_ptr k12_ty98 rfl mo0_2 up_h (nle rfl)) (by simp only [pS, Value.cells, Nat.reduceAdd] <;> rfl)) rfl ?_
  refine dr (ro_ape k12_sl98 rfl (u2 rfl up_h) up_h (by simp only [lnS] <;> omega)) rfl ?_
  refine dr (ro_build (evP_cons (u4 rfl up_h) (evP_cons up_h evP_nil)) qbz100 qbu100 qbp100 rfl) rfl ?_
  refine ds_nil <| al_stm (st_store (up_m rfl (u2 rfl (u4 rfl s2_3))) up_h rfl rfl mo1_2 qsz100 rfl (nle rfl)) trivial rfl (fun m_4 hm_4 => ?_)
  have mo1_4 := m_set hm_4 mo1_2
  simp only [pS, Value.cells, Nat.reduceAdd] at mo1_4
  have mo0_4 := m_set_o hm_4 mo0_2 (by decide)
  have ml_4 := m_set_l hm_4 ml_2
  clear hm_4 mo1_2 mo0_2
  refine ae1 (up_n (up_m rfl (u2 rfl (u4 rfl s2_3)))) ?_; clear s1_3 s2_3; intro e_5 s2_5
  refine then_n <| aw_ret <| ret1 (.inr rfl) (by kernel_rfl) (resV_cell s2_5 mo1_4 k12_ty100 (nle rfl) (by simp)) (vw_r (.ro _ rfl)) ?_
  clear s2_5 mo1_4 mo0_4 ml_4
  rfl
def nm0 : ByteArray := ⟨#[116]⟩
def tr0 : List Piece := [⟨100, 0, 10000, false⟩, ⟨100, 0, 8000, true⟩, ⟨50, -10, 10000, false⟩, ⟨200, 0, 10000, true⟩]
theorem curve0_ok : FnOk Try.prog 110 [trA nm0 tr0, syA 100 10 50, iA 1] (fun q => q = .tuple [.row 1 ([10000, 8000, 0].map iE), iA 0]) :=
  (curveOf_ok nm0 tr0 (by decide) (by decide) 100 10 50 1).mono fun q h => h.trans (by kernel_rfl)
theorem run0_ok : FnOk Try.prog 65 [trA nm0 tr0, syA 100 10 50, .agg [iA 0, iA 5000], iA 3] (fun q => q = .tuple [.row 1 ([5000, 3000, 1000, 10000].map iE), iA 0]) :=
  (runTo_ok nm0 tr0 (by decide) (by decide) 100 10 50 0 5000 3).mono fun q h => h.trans (by kernel_rfl)
theorem same_ok (l : List Int) (h : l.length ≤ 1000000000) : FnOk Try.prog 26 [.row 1 (l.map iE), .row 1 (l.map iE)] (fun q => q = bA true) :=
  (ints_ok l l h h).mono fun q h => h.trans (by simp)
end Go.Proofs.Ytonjcljnpcmenaa

/- Contracts of chapter 5: the document's errors of stops and states. No conditions on a program. -/
namespace Go.Proofs.Ytonjcljnpcmenaa
open Go Go.RowKit Go.Proofs
set_option linter.unusedSimpArgs false
set_option linter.unusedVariables false

theorem firstE_two (a b : Int) : firstE [a, b] = if a = 0 then b else a := by
  simp only [firstE]
  by_cases h : a = 0
  · rw [if_pos h, if_pos h]; split <;> simp_all
  · rw [if_neg h, if_neg h]
end Go.Proofs.Ytonjcljnpcmenaa

/- Chapter 5: the errors of a run, one by one. No conditions on a program. -/
namespace Go.Proofs.Ytonjcljnpcmenaa
open Go Go.RowKit Go.Proofs
set_option linter.unusedSimpArgs false
set_option linter.unusedVariables false

theorem firstE_four (a b c e : Int) : firstE [a, b, c, e] = if a = 0 then (if b = 0 then (if c = 0 then e else c) else b) else a := by
  simp only [firstE]
  by_cases h1 : a = 0
  · rw [if_pos h1, if_pos h1]
    by_cases h2 : b = 0
    · rw [if_pos h2, if_pos h2]
      by_cases h3 : c = 0
      · rw [if_pos h3, if_pos h3]; split <;> simp_all
      · rw [if_neg h3, if_neg h3]
    · rw [if_neg h2, if_neg h2]
  · rw [if_neg h1, if_neg h1]
def d1R (nm : ByteArray) (ps : List Piece) (b d v post sq : Int) : Int := if firstE [(chk nm ps).2, sysE b d v] = 0 then stateE ps post sq else firstE [(chk nm ps).2, sysE b d v]
def d2R (nm : ByteArray) (ps : List Piece) (b d v post sq stop : Int) : Int := if d1R nm ps b d v post sq = 0 then stopE ps stop else d1R nm ps b d v post sq
theorem runE_d (nm : ByteArray) (ps : List Piece) (b d v post sq stop : Int) : runE nm ps b d v post sq stop = if d2R nm ps b d v post sq stop = 0 ∧ stop < post then 9 else d2R nm ps b d v post sq stop := by
  have h : runE nm ps b d v post sq stop = firstE [firstE [(chk nm ps).2, sysE b d v], stateE ps post sq, stopE ps stop, unlessE (decide (post ≤ stop)) 9] := rfl
  rw [h, firstE_four, d2R, d1R]
  by_cases h1 : firstE [(chk nm ps).2, sysE b d v] = 0
  · simp only [if_pos h1]
    by_cases h2 : stateE ps post sq = 0
    · simp only [if_pos h2]
      by_cases h3 : stopE ps stop = 0
      · simp only [if_pos h3, h3, true_and]
        by_cases h4 : stop < post
        · rw [if_pos h4, decide_eq_false (by omega)]; rfl
        · rw [if_neg h4, decide_eq_true (by omega)]; rfl
      · rw [if_neg h3, if_neg (fun q => h3 q.1)]
    · simp only [if_neg h2]; rw [if_neg (fun q => h2 q.1)]
  · simp only [if_neg h1]; rw [if_neg (fun q => h1 q.1)]
end Go.Proofs.Ytonjcljnpcmenaa

/- The law of chapter 5 on forward and backward. No conditions on a program. -/
namespace Go.Proofs.Ytonjcljnpcmenaa
open Go Go.RowKit Go.Proofs
set_option linter.unusedSimpArgs false
set_option linter.unusedVariables false

def cuA (ps : List Piece) (b stop : Int) (j : Nat) : Int := (bwL ps b 0 (stop + 1).toNat).getD j default
def leA (ps : List Piece) (d stop : Int) (j : Nat) : Int := (leL ps d stop.toNat).getD j default
theorem leL_at (ps : List Piece) (d : Int) {n j : Nat} (h : j ≤ n) : (leL ps d n).getD j default = leD ps d n (n - j) := by simp [leL, List.getD_eq_getElem?_getD, show j < n + 1 by omega]
theorem leA_last (ps : List Piece) (d stop : Int) : leA ps d stop stop.toNat = 0 := by
  unfold leA; rw [leL_at ps d (Nat.le_refl _), Nat.sub_self]; rfl
theorem leA_step (ps : List Piece) (d stop : Int) {j : Nat} (h : j < stop.toNat) : leA ps d stop j = max 0 (leA ps d stop (j + 1) + losW d (ps.getD j default)) := by
  unfold leA
  rw [leL_at ps d (by omega), leL_at ps d (by omega), show stop.toNat - j = (stop.toNat - (j + 1)) + 1 by omega]
  simp only [leD]
  rw [show stop.toNat - (stop.toNat - (j + 1)) - 1 = j by omega]
theorem leA_nonneg {ps : List Piece} {d stop : Int} {j : Nat} (h : j ≤ stop.toNat) : 0 ≤ leA ps d stop j := by
  rcases Nat.lt_or_ge j stop.toNat with h1 | h1
  · rw [leA_step ps d stop h1]; omega
  · rw [show j = stop.toNat by omega, leA_last]; omega
/-- What is run: the squares, one by one. -/
theorem goL_pre {f : Nat → Int → Int} {sq : Int} : ∀ {k : Nat} {l : List Int}, goL f sq k = some l → ∀ m, m ≤ k → ∃ l', goL f sq m = some l' ∧ l'.getD m default = l.getD m default
  | 0, l, h, m, hm => by
    obtain rfl : m = 0 := by omega
    exact ⟨l, h, rfl⟩
  | k + 1, l, h, m, hm => by
    rcases Nat.lt_or_ge m (k + 1) with h1 | h1
    · simp only [goL] at h
      split at h
      · cases h
      · rename_i q hq
        split at h
        · cases h
        · cases h
          obtain ⟨l', e1, e2⟩ := goL_pre hq m (by omega)
          refine ⟨l', e1, e2.trans ?_⟩
          have := goL_len hq
          rw [List.getD_eq_getElem?_getD, List.getD_eq_getElem?_getD, List.getElem?_append_left (by omega)]
    · obtain rfl : m = k + 1 := by omega
      exact ⟨l, h, rfl⟩
theorem goL_next {f : Nat → Int → Int} {sq : Int} {k : Nat} {l : List Int} (h : goL f sq (k + 1) = some l) : l.getD (k + 1) default = f k (l.getD k default) ∧ 0 ≤ l.getD (k + 1) default := by
  simp only [goL] at h
  split at h
  · cases h
  · rename_i q hq
    split at h
    · cases h
    · rename_i hn
      cases h
      have hl := goL_len hq
      have e : (q ++ [f k (q.getD k default)]).getD k default = q.getD k default := by
        rw [List.getD_eq_getElem?_getD, List.getD_eq_getElem?_getD, List.getElem?_append_left (by omega)]
      rw [e, getD_snoc hl]
      exact ⟨rfl, by omega⟩
theorem run_up {ps : List Piece} {b d stop post sq : Int} (h0 : 0 ≤ post) (h1 : post ≤ stop) (hl : leA ps d stop post.toNat ≤ sq) (hc : ∀ j : Nat, post ≤ j → j ≤ stop → leA ps d stop j ≤ cuA ps b stop j) :
    ∀ k : Nat, (k : Int) ≤ stop - post → ∃ l, goL (runF ps b d stop post.toNat) sq k = some l ∧ leA ps d stop (post.toNat + k) ≤ l.getD k default
  | 0, _ => ⟨[sq], rfl, hl⟩
  | k + 1, hk => by
    obtain ⟨l, e1, e2⟩ := run_up h0 h1 hl hc k (by omega)
    have hs := leA_step ps d stop (j := post.toNat + k) (by omega)
    have hn := leA_nonneg (ps := ps) (d := d) (stop := stop) (j := post.toNat + k + 1) (by omega)
    have hcj := hc (post.toNat + k + 1) (by omega) (by omega)
    have hf : runF ps b d stop post.toNat k (l.getD k default) = min (cuA ps b stop (post.toNat + k + 1)) (l.getD k default - losW d (ps.getD (post.toNat + k) default)) := rfl
    have hge : leA ps d stop (post.toNat + k + 1) ≤ runF ps b d stop post.toNat k (l.getD k default) := by rw [hf]; omega
    refine ⟨_, goL_step e1 (by omega), ?_⟩
    rw [getD_snoc (goL_len e1)]
    exact hge
theorem run_down {ps : List Piece} {b d stop post sq : Int} (h0 : 0 ≤ post) (h1 : post ≤ stop) {l : List Int} (h : goL (runF ps b d stop post.toNat) sq (stop - post).toNat = some l) (hsq : 0 ≤ sq) :
    ∀ m k : Nat, k + m = (stop - post).toNat → leA ps d stop (post.toNat + k) ≤ l.getD k default := by
  have each : ∀ k, k < (stop - post).toNat → l.getD (k + 1) default = runF ps b d stop post.toNat k (l.getD k default) ∧ 0 ≤ l.getD (k + 1) default := fun k hk => by
    obtain ⟨l1, e1, e2⟩ := goL_pre h (k + 1) (by omega)
    obtain ⟨l0, f1, f2⟩ := goL_pre h k (by omega)
    obtain ⟨l2, g1, g2⟩ := goL_pre e1 k (by omega)
    rw [f1] at g1
    cases g1
    have := goL_next e1
    rw [e2, ← g2, f2] at this
    exact this
  have first : l.getD 0 default = sq := by
    obtain ⟨l0, f1, f2⟩ := goL_pre h 0 (by omega)
    cases f1
    exact f2.symm
  have pos : ∀ k, k ≤ (stop - post).toNat → 0 ≤ l.getD k default := fun k hk => by
    cases k with
    | zero => rw [first]; exact hsq
    | succ k => exact (each k (by omega)).2
  intro m
  induction m with
  | zero =>
    intro k hk
    rw [show post.toNat + k = stop.toNat by omega, leA_last]
    exact pos k (by omega)
  | succ m ih =>
    intro k hk
    have h2 := ih (k + 1) (by omega)
    obtain ⟨e1, e2⟩ := each k (by omega)
    have hf : runF ps b d stop post.toNat k (l.getD k default) = min (cuA ps b stop (post.toNat + k + 1)) (l.getD k default - losW d (ps.getD (post.toNat + k) default)) := rfl
    rw [leA_step ps d stop (by omega)]
    have hp := pos k (by omega)
    rw [show post.toNat + (k + 1) = post.toNat + k + 1 by omega] at h2
    omega
theorem run_cu {ps : List Piece} {b d stop post sq : Int} (h0 : 0 ≤ post) {l : List Int} (h : goL (runF ps b d stop post.toNat) sq (stop - post).toNat = some l) (hsq : sq ≤ cuA ps b stop post.toNat) (k : Nat) (hk : k ≤ (stop - post).toNat) : l.getD k default ≤ cuA ps b stop (post.toNat + k) := by
  cases k with
  | zero =>
    obtain ⟨l0, f1, f2⟩ := goL_pre h 0 (by omega)
    cases f1
    rw [← f2]; exact hsq
  | succ k =>
    obtain ⟨l1, e1, e2⟩ := goL_pre h (k + 1) (by omega)
    have := (goL_next e1).1
    rw [← e2, this]
    have hf : ∀ x, runF ps b d stop post.toNat k x = min (cuA ps b stop (post.toNat + k + 1)) (x - losW d (ps.getD (post.toNat + k) default)) := fun _ => rfl
    rw [hf]
    have : post.toNat + (k + 1) = post.toNat + k + 1 := by omega
    rw [this]
    omega
theorem two_ways {ps : List Piece} {b d stop post sq : Int} (h0 : 0 ≤ post) (h1 : post ≤ stop) (hsq : 0 ≤ sq) :
    (runW ps b d stop post sq).2 = 0 ↔ ((leA ps d stop post.toNat ≤ sq ∧ sq ≤ cuA ps b stop post.toNat) ∧ ∀ j : Nat, post ≤ j → j < stop + 1 → cuA ps b stop j ≠ -1 ∧ leA ps d stop j ≤ cuA ps b stop j) := by
  have hw : runW ps b d stop post sq = if cuA ps b stop post.toNat = -1 ∨ cuA ps b stop post.toNat < sq then (([], 24) : List Int × Int) else match goL (runF ps b d stop post.toNat) sq (stop - post).toNat with | none => ([], 12) | some l => (l, 0) := rfl
  rw [hw]
  constructor
  · intro h
    split at h
    · cases h
    · rename_i hc
      split at h
      · cases h
      · rename_i l hl
        have hd := run_down h0 h1 hl hsq
        have hcu := run_cu h0 hl (by omega)
        have f0 : l.getD 0 default = sq := by
          obtain ⟨l0, f1, f2⟩ := goL_pre hl 0 (by omega)
          cases f1
          exact f2.symm
        refine ⟨⟨?_, by omega⟩, fun j hj1 hj2 => ?_⟩
        · have := hd (stop - post).toNat 0 (by omega)
          rw [f0] at this
          exact this
        · have a1 := hd ((stop - post).toNat - (j - post.toNat)) (j - post.toNat) (by omega)
          have a2 := hcu (j - post.toNat) (by omega)
          rw [show post.toNat + (j - post.toNat) = j by omega] at a1 a2
          have a3 := leA_nonneg (ps := ps) (d := d) (stop := stop) (j := j) (by omega)
          exact ⟨by omega, by omega⟩
  · rintro ⟨⟨a1, a2⟩, a3⟩
    have c1 := (a3 post.toNat (by omega) (by omega)).1
    rw [if_neg (by omega)]
    obtain ⟨l, e, _⟩ := run_up (b := b) h0 h1 a1 (fun j j1 j2 => (a3 j j1 (by omega)).2) (stop - post).toNat (by omega)
    rw [e]
end Go.Proofs.Ytonjcljnpcmenaa

/- Contracts of chapter 5, asked rightly. No conditions on a program. -/
namespace Go.Proofs.Ytonjcljnpcmenaa
open Go Go.RowKit Go.Proofs
set_option linter.unusedSimpArgs false
set_option linter.unusedVariables false

section
variable {nm : ByteArray} {ps : List Piece} (hs : nm.size ≤ 1000000000) (hp : ps.length ≤ 1000000000) {b d v post sq stop : Int} (hq : runE nm ps b d v post sq stop = 0) (hc : curE nm ps b d v stop = 0)
include hs hp
theorem runTo3_ok (hq : runE nm ps b d v post sq stop = 0) : FnOk Try.prog 65 [trA nm ps, syA b d v, .agg [iA post, iA sq], iA stop] (fun q => q = .tuple [.row 1 ((runW ps b d stop post sq).1.map iE), iA (runW ps b d stop post sq).2]) :=
  (runTo_ok nm ps hs hp b d v post sq stop).mono fun q h => h.trans (by rw [hq, if_pos rfl, if_pos rfl])
end
theorem runE_zero {nm : ByteArray} {ps : List Piece} {b d v post sq stop : Int} (hB : firstE [(chk nm ps).2, sysE b d v] = 0) (hS : stateE ps post sq = 0) (hT : stopE ps stop = 0) (hle : post ≤ stop) : runE nm ps b d v post sq stop = 0 ∧ curE nm ps b d v stop = 0 := by
  constructor
  · rw [runE_d, d2R, d1R, if_pos hB, if_pos hS, if_neg (by omega)]; exact hT
  · have h : curE nm ps b d v stop = firstE [firstE [(chk nm ps).2, sysE b d v], stopE ps stop] := rfl
    rw [h, firstE_two, if_pos hB]; exact hT
end Go.Proofs.Ytonjcljnpcmenaa

/- The law of chapter 5 on better brakes: the plain law. No conditions on a program. -/
namespace Go.Proofs.Ytonjcljnpcmenaa
open Go Go.RowKit Go.Proofs
set_option linter.unusedSimpArgs false
set_option linter.unusedVariables false

theorem los_mono {x y : Int} {p : Piece} (h : x ≤ y) (hl : 0 ≤ p.len) : losW x p ≤ losW y p := by
  unfold losW
  exact Int.mul_le_mul_of_nonneg_right (by omega) hl
end Go.Proofs.Ytonjcljnpcmenaa

