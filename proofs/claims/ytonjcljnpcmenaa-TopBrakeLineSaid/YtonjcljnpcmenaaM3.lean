/- Texts of this claim, one behind the other: lemmas for the statement. -/
import Derived.Test.YtonjcljnpcmenaaT0
import Derived.Test.YtonjcljnpcmenaaM2
import Derived.Test.YtonjcljnpcmenaaA21
/- Contracts of chapter 1: what is wrong with a line. No conditions on a program. -/
namespace Go.Proofs.Ytonjcljnpcmenaa
open Go Go.RowKit Go.Proofs
set_option linter.unusedSimpArgs false
set_option linter.unusedVariables false
theorem y4_fl206_0 : FldIs Try.prog 206 0 0 true 2 := by unfold FldIs; kernel_rfl
theorem y4_fl206_1 : FldIs Try.prog 206 1 2 false 1 := by unfold FldIs; kernel_rfl
theorem y4_hcf160 : ∀ args w, (callFunc 160 args).run Try.prog w = .ok (.enter 160 args) w := fun _ _ => by kernel_rfl
theorem y4_sl202 : SlIs Try.prog 202 204 1 8 (.nilFunc) := ⟨by kernel_rfl, by kernel_rfl, by kernel_rfl⟩
theorem y4_ty121 : TyIs Try.prog 121 true 2 := ⟨by kernel_rfl, by kernel_rfl⟩
theorem y4_ty204 : TyIs Try.prog 204 false 1 := ⟨by kernel_rfl, by kernel_rfl⟩
theorem y4_ty26 : TyIs Try.prog 26 true 4 := ⟨by kernel_rfl, by kernel_rfl⟩
theorem y4_ty34 : TyIs Try.prog 34 false 1 := ⟨by kernel_rfl, by kernel_rfl⟩

def ckL (l : Lin) : List AV := [itC (unlessE (isNameB l.nam) 4), itC (unlessE (decide ((0 : Int) < l.bs.length ∧ (l.js.length : Int) = l.bs.length + 1)) 10), itC (unlessE (decide ((l.bs.length : Int) ≤ 40)) 8),
  eaC 1 l.js.length (.clo (.func 175) [] [.ref (lnC l)]), eaC 2 l.bs.length (.clo (.func 177) [] [.ref (lnC l)]), itC (unlessE (decide ((l.ss.length : Int) ≤ 4)) 8), eaC 3 l.ss.length (.clo (.func 178) [] [.ref (lnC l)])]
theorem ckV_L (l : Lin) : ckV l = (ckL l).map oneAV := rfl
/-- What the checks come to, one by one. -/
def ckR (l : Lin) : List ((Int × Int) × Int) := [((0, 0), unlessE (isNameB l.nam) 4), ((0, 0), unlessE (decide ((0 : Int) < l.bs.length ∧ (l.js.length : Int) = l.bs.length + 1)) 10), ((0, 0), unlessE (decide ((l.bs.length : Int) ≤ 40)) 8),
  eaR 1 (fun i => jntE (l.js.getD i default)) l.js.length, eaR 2 (fun i => beaE (l.bs.getD i default)) l.bs.length, ((0, 0), unlessE (decide ((l.ss.length : Int) ≤ 4)) 8), eaR 3 (swiE l) l.ss.length]
theorem it_clo (er : Int) : CloOk Try.prog (itC er) [] (fun q => q = fuR ((0, 0), er)) := ⟨_, _, _, rfl, rfl, rfl, fun _ _ => by kernel_rfl, itself1_ok er⟩
theorem ea_clo (k : Int) (n : Nat) (f : FuncId) (m : List AV) (er : Nat → Int) (hn : n ≤ 1000000) (hro : roO.roL m = true) (hcf : ∀ args w, (callFunc f args).run Try.prog w = .ok (.enter f args) w) (hc : ∀ i : Int, 0 ≤ i → i < n → FnOk Try.prog f ([] ++ [mA i] ++ m) (fun q => q = mA (er i.toNat))) :
    CloOk Try.prog (eaC k n (.clo (.func f) [] m)) [] (fun q => q = fuR (eaR k er n)) :=
  ⟨_, _, _, rfl, rfl, by first | (simp only [roO.roL, roO, Bool.and_true, Bool.true_and]; done) | simp [roO.roL, roO, hro], fun _ _ => by kernel_rfl, each1_ok k n f m er (by omega) hro hcf hc⟩
theorem ck_clo (l : Lin) (hl : Sho l) (hsw : l.js.length = l.bs.length + 1 → ∀ i : Int, 0 ≤ i → i < l.ss.length → FnOk Try.prog 178 [mA i, .ref (lnC l)] (fun q => q = mA (swiE l i.toNat))) : ∀ i : Nat, i < 7 → (∀ j : Nat, j < i → ((ckR l).getD j default).2 = 0) → CloOk Try.prog ((ckL l).getD i default) [] (fun q => q = fuR ((ckR l).getD i default))
  | 0, _, _ => it_clo _
  | 1, _, _ => it_clo _
  | 2, _, _ => it_clo _
  | 3, _, _ => ea_clo _ _ _ _ _ hl.2.1 rfl (fun _ _ => by kernel_rfl) fun i h0 h1 => look1_ok l i ⟨h0, h1⟩
  | 4, _, _ => ea_clo _ _ _ _ _ hl.2.2.1 rfl (fun _ _ => by kernel_rfl) fun i h0 h1 => look2_ok l i ⟨h0, h1⟩
  | 5, _, _ => it_clo _
  | 6, _, hz => ea_clo _ _ _ _ _ hl.2.2.2.1 rfl (fun _ _ => by kernel_rfl) (hsw (by
      have h1 : unlessE (decide ((0 : Int) < l.bs.length ∧ (l.js.length : Int) = l.bs.length + 1)) 10 = 0 := hz 1 (by omega)
      by_cases hd : (0 : Int) < l.bs.length ∧ (l.js.length : Int) = l.bs.length + 1
      · omega
      · rw [decide_eq_false hd] at h1; exact absurd h1 (by decide)))
set_option maxRecDepth 100000 in
set_option maxHeartbeats 4000000 in
theorem checkLine_of (l : Lin) (hl : Sho l) (r : (Int × Int) × Int) (hr : ∀ i : Nat, i < 7 → (∀ j : Nat, j < i → ((ckR l).getD j default).2 = 0) → ((ckR l).getD i default).2 ≠ 0 → r = (ckR l).getD i default) (hr0 : (∀ j : Nat, j < 7 → ((ckR l).getD j default).2 = 0) → r = ((0, 0), 0))
    (hck : ∀ i : Nat, i < 7 → (∀ j : Nat, j < i → ((ckR l).getD j default).2 = 0) → CloOk Try.prog ((ckL l).getD i default) [] (fun q => q = fuR ((ckR l).getD i default))) : FnOk Try.prog 133 [lnA l] (fun q => q = .tuple [.agg [mA r.1.1, mA r.1.2], mA r.2]) := by
  have h7 : (ckL l).length = 7 := rfl
  refine fnOk_of (fn := Try.f133) 25 (by kernel_rfl) rfl (by kernel_rfl) (Nat.le_of_ble_eq_true rfl) ?_
  intro e_0 m_0 hA hm_0
  have s0_0 : evA e_0 (.tmp 0) = _ := hA 0 _ rfl
  have ml_0 : m_0.length = 0 := by rw [hm_0]; rfl
  clear hA hm_0
  refine aw_seq <| at_ <| al_stm (st_box s0_0 rfl ml_0) trivial rfl (fun m_1 hm_1 => ?_)
  have mo0_1 := m_push hm_1 ml_0
  have ml_1 := m_push_l hm_1 ml_0
  have ml_1 : _ = 1 := ml_1
  clear hm_1
  refine al_stm (st_alloc qaz121 rfl ml_1) trivial rfl (fun m_2 hm_2 => ?_)
  have mo1_2 := m_push hm_2 ml_1
  simp only [pS, Value.cells, Nat.reduceAdd, oneAV] at mo1_2
  have mo0_2 := m_push_o hm_2 mo0_1
  have ml_2 := m_push_l hm_2 ml_1
  have ml_2 : _ = 2 := ml_2
  clear hm_2 mo0_1
  refine ar (ro_assign ev_c) rfl <| ae2 (u2 rfl up_h) (up_m rfl up_h) ?_; clear s0_0; intro e_3 s1_3 s2_3
  refine then_n <| aw_seq <| aw_seq <| at_ <| ar (ro_eq (ro_ld_ptr y4_ty26 rfl mo0_2 s1_3 (nle rfl)) (by simp only [pS, Value.cells, Nat.reduceAdd, oneAV] <;> rfl)) rfl ?_
  refine ar (ro_call (evL_cons up_h evL_nil) rfl ((checks_ok l hl).mono (fun q h => h.trans (by rw [ckV_L]))) y4_hcf160) rfl ?_
  refine ar (ro_eq (ro_len_row up_h rfl y4_sl202.1) (by simp only [lnS] <;> rfl)) rfl ?_
  refine ar (ro_move ev_c) rfl <| ae4 (u4 rfl s2_3) (u2 rfl up_h) (up_m rfl up_h) up_h ?_; clear s1_3 s2_3; intro e_4 s2_4 s8_4 s9_4 s10_4
  refine then_n <| aw_block <| aw_loop (S := Int) (fun i e mem => (evA e (.tmp 10) = .v (.int .i64 i)) ∧ (evA e (.tmp 2) = evA e_4 (.tmp 2)) ∧ (evA e (.tmp 8) = evA e_4 (.tmp 8)) ∧ (evA e (.tmp 9) = evA e_4 (.tmp 9)) ∧ (mem[1]? = m_2[1]?) ∧ (mem[0]? = m_2[0]?) ∧ (∃ n, mem.length = n ∧ 2 ≤ n) ∧ ((0 ≤ i ∧ i ≤ 7 ∧ ∀ j : Nat, j < i.toNat → ((ckR l).getD j default).2 = 0))) (fun i => (7 - i).toNat) _ ⟨s10_4, rfl, rfl, rfl, rfl, rfl, ⟨_, ml_2, Nat.le_refl _⟩, ?_⟩ ?_
  · (exact ⟨by omega, by omega, fun j h => absurd h (by omega)⟩)
  · rintro i e_5 m_5 ⟨s10_5, k2_5, k8_5, k9_5, mk1_5, mk0_5, ⟨n_5, ml_5, hn_5⟩, hinv⟩
    have s2_5 := k2_5.trans s2_4
    have s8_5 := k8_5.trans s8_4
    have s9_5 := k9_5.trans s9_4
    have mo1_5 := mk1_5.trans mo1_2
    have mo0_5 := mk0_5.trans mo0_2
    (obtain ⟨p1, p2, p3⟩ := hinv)
    refine aw_seq <| at_ <| ar (ro_lss s10_5 s9_5) rfl <| ae5 (up_m rfl s2_5) (up_m rfl s8_5) (up_m rfl s9_5) (up_m rfl s10_5) up_h ?_; clear s10_5 s2_5 s8_5 s9_5; intro e_6 s2_6 s8_6 s9_6 s10_6 s11_6
    refine then_n <| aw_seq <| aw_case s11_6 (fun hq_7 => ?_) (fun hq_7 => ?_)
    ·replace hq_7 := bt hq_7
     refine aw_skip <| then_n <| aw_seq <| aw_block <| aw_seq <| at_ <| ar (ro_eq (ro_ix y4_sl202 s8_6 s10_6 (by omega) (by first | (refine idx_map ?_; first | omega | (simp only [lnS]; omega)) | (refine idx_mapI ?_; first | omega | (simp only [lnS]; omega)) | (refine idx_mapN ?_; first | omega | (simp only [lnS]; omega)) | rfl)) (by simp only [pS, Value.cells, Nat.reduceAdd, oneAV] <;> rfl)) rfl ?_
     refine ar (ro_eq (ro_ld_ref y4_ty204 rfl up_h (nle rfl)) (by simp only [pS, Value.cells, Nat.reduceAdd, oneAV] <;> rfl)) rfl ?_
     refine ar (ro_assign up_h) rfl <| ae5 (up_m rfl (u2 rfl s2_6)) up_h (up_m rfl (u2 rfl s8_6)) (up_m rfl (u2 rfl s9_6)) (up_m rfl (u2 rfl s10_6)) ?_; clear s10_6 s11_6 s2_6 s8_6 s9_6; intro e_8 s2_8 s5_8 s8_8 s9_8 s10_8
     refine then_n <| aw_seq <| at_ <| ar (ro_move s5_8) rfl <| ar (ro_callo up_h evL_nil rfl (hck i.toNat (by omega) p3)) rfl ?_
     refine al_stm (st_alloc qaz206 rfl ml_5) trivial rfl (fun m_9 hm_9 => ?_)
     have mon_5_9 := m_push hm_9 ml_5
     simp only [pS, Value.cells, Nat.reduceAdd, oneAV] at mon_5_9
     have mo1_9 := m_push_o hm_9 mo1_5
     have mo0_9 := m_push_o hm_9 mo0_5
     have ml_9 := m_push_l hm_9 ml_5
     clear hm_9 mo1_5 mo0_5
     refine al_stm (st_store up_h (up_m rfl up_h) rfl rfl mon_5_9 qsz206 rfl (nle rfl)) trivial rfl (fun m_10 hm_10 => ?_)
     have mon_5_10 := m_set hm_10 mon_5_9
     simp only [pS, Value.cells, Nat.reduceAdd, oneAV] at mon_5_10
     have mo1_10 := m_set_o hm_10 mo1_9 (by omega)
     have mo0_10 := m_set_o hm_10 mo0_9 (by omega)
     have ml_10 := m_set_l hm_10 ml_9
     clear hm_10 mon_5_9 mo1_9 mo0_9
     refine ae5 (up_n (up_m rfl (u2 rfl s2_8))) (up_n up_h) (up_n (up_m rfl (u2 rfl s8_8))) (up_n (up_m rfl (u2 rfl s9_8))) (up_n (up_m rfl (u2 rfl s10_8))) ?_; clear s10_8 s2_8 s5_8 s8_8 s9_8; intro e_11 s2_11 s6_11 s8_11 s9_11 s10_11
     refine then_n <| aw_seq <| at_ <| ar (ro_fld_ptr y4_fl206_1 rfl s6_11) rfl <| ar (ro_eq (ro_ld_ptr y4_ty34 rfl mon_5_10 up_h (nle rfl)) (by simp only [pS, Value.cells, Nat.reduceAdd, oneAV] <;> rfl)) rfl ?_
     refine ar (ro_neq up_h ev_c) rfl <| ae6 (up_m rfl (u2 rfl s2_11)) (up_m rfl (u2 rfl s6_11)) (up_m rfl (u2 rfl s8_11)) (up_m rfl (u2 rfl s9_11)) (up_m rfl (u2 rfl s10_11)) up_h ?_; clear s10_11 s2_11 s6_11 s8_11 s9_11; intro e_12 s2_12 s6_12 s8_12 s9_12 s10_12 s18_12
     refine then_n <| aw_case s18_12 (fun hq_13 => ?_) (fun hq_13 => ?_)
     ·replace hq_13 := bnt hq_13
      refine aw_seq <| aw_drawK 5 0 ml_10 (by kernel_rfl) (by kernel_rfl) (by kernel_rfl) (by kernel_rfl) (fun m_14 hm_14 => ?_)
      have mon_5_14 := m_room_o hm_14 mon_5_10
      have mo1_14 := m_room_o hm_14 mo1_10
      have mo0_14 := m_room_o hm_14 mo0_10
      have ml_14 : _ = n_5 + 1 := m_room_l (K := 0) hm_14 ml_10
      clear hm_14 mon_5_10 mo1_10 mo0_10 ml_10
      refine dh_ro (fun M_ hM_ => (ro_fld_ptr y4_fl206_0 rfl s6_12)) trivial ?_
      refine dh_ld (n_5) (fun M_ hM_ => (ro_eq (ro_ld_ptr y4_ty121 rfl (agr hM_ mon_5_14 (by simp)) up_h (nle rfl)) (by simp only [pS, Value.cells, Nat.reduceAdd, oneAV] <;> rfl))) trivial trivial ?_
      refine dh_ro (fun M_ hM_ => (ro_fld_ptr y4_fl206_1 rfl (u2 rfl s6_12))) trivial ?_
      refine dh_ld (n_5) (fun M_ hM_ => (ro_eq (ro_ld_ptr y4_ty34 rfl (agr hM_ mon_5_14 (by simp)) up_h (nle rfl)) (by simp only [pS, Value.cells, Nat.reduceAdd, oneAV] <;> rfl))) trivial trivial ?_
      refine dh_set (1) (fun M_ hM_ => (se_store (u4 rfl s2_12) (u2 rfl up_h) rfl rfl (agr hM_ mo1_14 (by simp)) qsz121 rfl (nle rfl))) trivial trivial ⟨.inl (by simp <;> omega), ⟨.inl (by simp <;> omega), trivial⟩⟩ (fun m_15 hm_15 => ?_)
      have mo1_15 := m_set hm_15 mo1_14
      simp only [pS, Value.cells, Nat.reduceAdd, oneAV] at mo1_15
      have mon_5_15 := m_set_o hm_15 mon_5_14 (by omega)
      have mo0_15 := m_set_o hm_15 mo0_14 (by decide)
      have ml_15 := m_set_l hm_15 ml_14
      clear hm_15 mon_5_14 mo1_14 mo0_14
      refine dh_nil rfl ?_
      refine ar (ro_assign (up_n up_h)) rfl <| ae2 (up_m rfl (up_n (u4 rfl s2_12))) up_h ?_; clear s10_12 s18_12 s2_12 s6_12 s8_12 s9_12; intro e_16 s2_16 s3_16
      refine then_n <| aw_ret <| block_r <| then_r <| then_r <| block_r <| then_r <| ret2 (.inr rfl) (by kernel_rfl) (resV_cell s2_16 mo1_15 y4_ty121 (nle rfl) (by simp)) (resV_tmp s3_16) (vw_r (.ro _ rfl)) (.ro _ rfl) ?_
      clear s2_16 s3_16 mo1_15 mon_5_15 mo0_15 ml_15
      (rw [hr i.toNat (by omega) p3 (by assumption)]; rfl)
     replace hq_13 := bnf hq_13
     refine aw_skip <| block_n <| then_n <| at_ ?_
     (refine ar (ro_add' s10_12 ev_c ?_) rfl ?_; · (unfold In64; omega))
     refine ar (ro_move up_h) rfl <| ae4 (u2 rfl s2_12) (u2 rfl s8_12) (u2 rfl s9_12) up_h ?_; clear s10_12 s18_12 s2_12 s6_12 s8_12 s9_12; intro e_17 s2_17 s8_17 s9_17 s10_17
     refine then_n <| ⟨_, ⟨s10_17, (s2_17.trans s2_4.symm), (s8_17.trans s8_4.symm), (s9_17.trans s9_4.symm), (mo1_10.trans mo1_2.symm), (mo0_10.trans mo0_2.symm), ⟨_, ml_10, by omega⟩, ?_⟩, ?_⟩
     · (refine ⟨by omega, by omega, fun j hj => ?_⟩; by_cases hji : j < i.toNat; (exact p3 j hji); (rw [show j = i.toNat by omega]; assumption))
     · ((try dsimp only); omega)
    replace hq_7 := bf hq_7
    refine aw_exit <| then_x <| then_x <| block_hit <| then_n <| aw_seq <| at_ <| ar (ro_build evP_nil qbz121 qbu121 qbp121 rfl) rfl ?_
    refine al_stm (st_store (up_m rfl s2_6) up_h rfl rfl mo1_5 qsz121 rfl (nle rfl)) trivial rfl (fun m_18 hm_18 => ?_)
    have mo1_18 := m_set hm_18 mo1_5
    simp only [pS, Value.cells, Nat.reduceAdd, oneAV] at mo1_18
    have mo0_18 := m_set_o hm_18 mo0_5 (by decide)
    have ml_18 := m_set_l hm_18 ml_5
    clear hm_18 mo1_5 mo0_5
    refine ar (ro_assign ev_c) rfl <| ae2 (up_m rfl (up_n (up_m rfl s2_6))) up_h ?_; clear s10_6 s11_6 s2_6 s8_6 s9_6; intro e_19 s2_19 s3_19
    refine then_n <| aw_ret <| ret2 (.inr rfl) (by kernel_rfl) (resV_cell s2_19 mo1_18 y4_ty121 (nle rfl) (by simp)) (resV_tmp s3_19) (vw_r (.ro _ rfl)) (.ro _ rfl) ?_
    clear s2_19 s3_19 mo1_18 mo0_18 ml_18
    (rw [hr0 (fun j hj => p3 j (by omega))]; rfl)
end Go.Proofs.Ytonjcljnpcmenaa

/- Contracts of chapter 1: what is wrong with a line, in the document's words. No conditions on a program. -/
namespace Go.Proofs.Ytonjcljnpcmenaa
open Go Go.RowKit Go.Proofs
set_option linter.unusedSimpArgs false
set_option linter.unusedVariables false

/-- The first that finds something. -/
def seqM : List ((Int × Int) × Int) → (Int × Int) × Int
  | [] => ((0, 0), 0)
  | r :: rs => if r.2 = 0 then seqM rs else r
theorem seqM_at : ∀ {rs : List ((Int × Int) × Int)} {i : Nat}, i < rs.length → (∀ j : Nat, j < i → (rs.getD j default).2 = 0) → (rs.getD i default).2 ≠ 0 → seqM rs = rs.getD i default
  | [], _, h, _, _ => absurd h (by simp)
  | r :: rs, 0, _, _, h => by
    have h : r.2 ≠ 0 := h
    simp only [seqM]; rw [if_neg h]; rfl
  | r :: rs, i + 1, hi, hn, h => by
    have h0 : r.2 = 0 := hn 0 (by omega)
    simp only [seqM]; rw [if_pos h0]
    exact seqM_at (rs := rs) (i := i) (by simpa using hi) (fun j hj => hn (j + 1) (by omega)) h
theorem seqM_none : ∀ {rs : List ((Int × Int) × Int)}, (∀ j : Nat, j < rs.length → (rs.getD j default).2 = 0) → seqM rs = ((0, 0), 0)
  | [], _ => rfl
  | r :: rs, h => by
    have h0 : r.2 = 0 := h 0 (by simp)
    simp only [seqM]; rw [if_pos h0]
    exact seqM_none (rs := rs) (fun j hj => h (j + 1) (by simpa using hj))
theorem firN_ne {f : Nat → Int} : ∀ {n i : Nat}, firN f n = some i → f i ≠ 0 ∧ i < n
  | 0, i, h => by simp [firN] at h
  | n + 1, i, h => by
    simp only [firN] at h
    cases hq : firN f n with
    | some k =>
      rw [hq] at h; cases h
      have := firN_ne hq
      exact ⟨this.1, by omega⟩
    | none =>
      rw [hq] at h
      by_cases hz : f n = 0
      · simp [hz] at h
      · simp [hz] at h; subst h; exact ⟨hz, by omega⟩
theorem seqM_it (b : Bool) (er : Int) (he : er ≠ 0) (rs : List ((Int × Int) × Int)) : seqM (((0, 0), unlessE b er) :: rs) = if b then seqM rs else ((0, 0), er) := by
  cases b
  · simp only [seqM, unlessE]; simp [he]
  · simp only [seqM, unlessE]; simp
theorem seqM_ea (k : Int) (f : Nat → Int) (n : Nat) (rs : List ((Int × Int) × Int)) : seqM (eaR k f n :: rs) = lisM k f n (seqM rs) := by
  unfold eaR lisM
  cases h : firN f n with
  | none => simp only [seqM]; simp
  | some i => simp only [seqM]; rw [if_neg (firN_ne h).1]
theorem linM_seq (l : Lin) : linM l = seqM (ckR l) := by
  unfold ckR
  rw [seqM_it _ _ (by decide), seqM_it _ _ (by decide), seqM_it _ _ (by decide), seqM_ea, seqM_ea, seqM_it _ _ (by decide), seqM_ea]
  unfold linM
  cases isNameB l.nam
  · rfl
  · by_cases h2 : l.bs.length = 0 ∨ l.js.length ≠ l.bs.length + 1
    · simp only [Bool.not_true, Bool.false_eq_true, if_false, if_true]
      rw [if_pos h2, decide_eq_false (by omega)]; rfl
    · simp only [Bool.not_true, Bool.false_eq_true, if_false, if_true]
      rw [if_neg h2, decide_eq_true (p := (0 : Int) < l.bs.length ∧ (l.js.length : Int) = l.bs.length + 1) (by omega)]
      by_cases h3 : 40 < l.bs.length
      · rw [if_pos h3, decide_eq_false (p := (l.bs.length : Int) ≤ 40) (by omega)]; rfl
      · rw [if_neg h3, decide_eq_true (p := (l.bs.length : Int) ≤ 40) (by omega)]
        simp only [if_true]
        congr 2
        by_cases h4 : 4 < l.ss.length
        · rw [if_pos h4, decide_eq_false (p := (l.ss.length : Int) ≤ 4) (by omega)]; rfl
        · rw [if_neg h4, decide_eq_true (p := (l.ss.length : Int) ≤ 4) (by omega)]; rfl
theorem checkLine_sw (l : Lin) (hl : Sho l) (hsw : l.js.length = l.bs.length + 1 → ∀ i : Int, 0 ≤ i → i < l.ss.length → FnOk Try.prog 178 [mA i, .ref (lnC l)] (fun q => q = mA (swiE l i.toNat))) : FnOk Try.prog 133 [lnA l] (fun q => q = .tuple [.agg [mA (linM l).1.1, mA (linM l).1.2], mA (linM l).2]) :=
  checkLine_of l hl (linM l) (fun i hi h1 h2 => (linM_seq l).trans (seqM_at (rs := ckR l) hi h1 h2)) (fun h => (linM_seq l).trans (seqM_none (rs := ckR l) h)) (ck_clo l hl hsw)
end Go.Proofs.Ytonjcljnpcmenaa

/- Contracts of chapter 1: switches. No conditions on a program. -/
namespace Go.Proofs.Ytonjcljnpcmenaa
open Go Go.RowKit Go.Proofs
set_option linter.unusedSimpArgs false
set_option linter.unusedVariables false
theorem y6_sl49 : SlIs Try.prog 49 3 1 8 (.int .i64 0) := ⟨by kernel_rfl, by kernel_rfl, by kernel_rfl⟩
theorem y6_ty3 : TyIs Try.prog 3 false 1 := ⟨by kernel_rfl, by kernel_rfl⟩
theorem y6_ty49 : TyIs Try.prog 49 false 1 := ⟨by kernel_rfl, by kernel_rfl⟩
theorem y6_ty9 : TyIs Try.prog 9 false 1 := ⟨by kernel_rfl, by kernel_rfl⟩

set_option maxRecDepth 100000 in
set_option maxHeartbeats 1000000 in
theorem sameName_ok (o s : Swi) : FnOk Try.prog 183 [.agg (swE o), .ref (swE s)] (fun q => q = tbA (o.nam.toList == s.nam.toList)) := by
  refine fnOk_of (fn := Try.f183) 9 (by kernel_rfl) rfl (by kernel_rfl) (Nat.le_of_ble_eq_true rfl) ?_
  intro e_0 m_0 hA hm_0
  have s0_0 : evA e_0 (.tmp 0) = _ := hA 0 _ rfl
  have s1_0 : evA e_0 (.tmp 1) = _ := hA 1 _ rfl
  have ml_0 : m_0.length = 0 := by rw [hm_0]; rfl
  clear hA hm_0
  refine aw_seq <| at_ <| al_stm (st_box s0_0 rfl ml_0) trivial rfl (fun m_1 hm_1 => ?_)
  have mo0_1 := m_push hm_1 ml_0
  simp only [pS, Value.cells, Nat.reduceAdd, swE] at mo0_1
  have ml_1 := m_push_l hm_1 ml_0
  have ml_1 : _ = 1 := ml_1
  clear hm_1
  refine ar (ro_assign ev_c) rfl <| ae2 (u2 rfl s1_0) (up_m rfl up_h) ?_; clear s0_0 s1_0; intro e_2 s1_2 s2_2
  refine then_n <| aw_seq <| at_ <| ar (ro_fld_ptr qfl91_0 rfl s2_2) rfl <| ar (ro_eq (ro_ld_ptr y6_ty9 rfl mo0_1 up_h (nle rfl)) (by simp only [pS, Value.cells, Nat.reduceAdd, swE] <;> rfl)) rfl ?_
  refine ar (ro_eq (ro_fld_ref qfl91_0 rfl (u2 rfl s1_2)) (by simp only [pS, Value.cells, Nat.reduceAdd, swE] <;> rfl)) rfl ?_
  refine ar (ro_eq (ro_ld_ref y6_ty9 rfl up_h (nle rfl)) (by simp only [pS, Value.cells, Nat.reduceAdd, swE] <;> rfl)) rfl ?_
  refine ar (ro_seql (u2 rfl up_h) up_h) rfl <| ar (ro_assign up_h) rfl <| ae1 up_h ?_; clear s1_2 s2_2; intro e_3 s3_3
  refine then_n <| aw_ret <| ret1 (.inr rfl) (by kernel_rfl) (resV_tmp s3_3) (.ro _ rfl) ?_
  clear s3_3 mo0_1 ml_1
  rfl
set_option maxRecDepth 100000 in
set_option maxHeartbeats 1000000 in
theorem clash_ok (o s : Swi) (ho : o.acr.length ≤ 1000000) (hs : s.acr.length ≤ 1000000) : FnOk Try.prog 184 [.agg (swE o), .ref (swE s)] (fun q => q = tbA (claB s o)) := by
  refine fnOk_of (fn := Try.f184) 24 (by kernel_rfl) rfl (by kernel_rfl) (Nat.le_of_ble_eq_true rfl) ?_
  intro e_0 m_0 hA hm_0
  have s0_0 : evA e_0 (.tmp 0) = _ := hA 0 _ rfl
  have s1_0 : evA e_0 (.tmp 1) = _ := hA 1 _ rfl
  have ml_0 : m_0.length = 0 := by rw [hm_0]; rfl
  clear hA hm_0
  refine aw_seq <| at_ <| al_stm (st_box s0_0 rfl ml_0) trivial rfl (fun m_1 hm_1 => ?_)
  have mo0_1 := m_push hm_1 ml_0
  simp only [pS, Value.cells, Nat.reduceAdd, swE] at mo0_1
  have ml_1 := m_push_l hm_1 ml_0
  have ml_1 : _ = 1 := ml_1
  clear hm_1
  refine ar (ro_assign ev_c) rfl <| ae2 (u2 rfl s1_0) (up_m rfl up_h) ?_; clear s0_0 s1_0; intro e_2 s1_2 s2_2
  refine then_n <| aw_seq <| at_ <| ar (ro_eq (ro_fld_ref qfl91_1 rfl s1_2) (by simp only [pS, Value.cells, Nat.reduceAdd, swE] <;> rfl)) rfl ?_
  refine ar (ro_eq (ro_ld_ref y6_ty3 rfl up_h (nle rfl)) (by simp only [pS, Value.cells, Nat.reduceAdd, swE] <;> rfl)) rfl ?_
  refine ar (ro_fld_ptr qfl91_1 rfl (u2 rfl s2_2)) rfl <| ar (ro_eq (ro_ld_ptr y6_ty3 rfl mo0_1 up_h (nle rfl)) (by simp only [pS, Value.cells, Nat.reduceAdd, swE] <;> rfl)) rfl ?_
  refine ar (ro_fld_ptr qfl91_2 rfl (u4 rfl s2_2)) rfl <| ar (ro_eq (ro_ld_ptr y6_ty49 rfl mo0_1 up_h (nle rfl)) (by simp only [pS, Value.cells, Nat.reduceAdd, swE] <;> rfl)) rfl ?_
  refine ar (ro_eq (ro_len_row up_h rfl y6_sl49.1) (by simp only [lnS] <;> rfl)) rfl ?_
  refine ar (ro_add (up_m rfl (u2 rfl up_h)) up_h) rfl <| ar (ro_lss (u2 rfl (u4 rfl up_h)) up_h) rfl <| ar (ro_move up_h) rfl <| al_case up_h (fun hb_3 hq_3 => ?_) (fun hb_3 hq_3 => ?_)
  ·replace hq_3 := bt hq_3
   refine al_ro' (ro_fld_ptr qfl91_1 rfl (u2 rfl (u8 rfl s2_2))) ⟨_, rfl, hb_3⟩ rfl ?_
   refine al_ro' (ro_eq (ro_ld_ptr y6_ty3 rfl mo0_1 up_h (nle rfl)) (by simp only [pS, Value.cells, Nat.reduceAdd, swE] <;> rfl)) ⟨_, rfl, (up_m rfl hb_3)⟩ rfl ?_
   refine al_ro' (ro_eq (ro_fld_ref qfl91_1 rfl (u4 rfl (u8 rfl s1_2))) (by simp only [pS, Value.cells, Nat.reduceAdd, swE] <;> rfl)) ⟨_, rfl, (u2 rfl hb_3)⟩ rfl ?_
   refine al_ro' (ro_eq (ro_ld_ref y6_ty3 rfl up_h (nle rfl)) (by simp only [pS, Value.cells, Nat.reduceAdd, swE] <;> rfl)) ⟨_, rfl, (up_m rfl (u2 rfl hb_3))⟩ rfl ?_
   refine al_ro' (ro_eq (ro_fld_ref qfl91_2 rfl (u2 rfl (u4 rfl (u8 rfl s1_2)))) (by simp only [pS, Value.cells, Nat.reduceAdd, swE] <;> rfl)) ⟨_, rfl, (u4 rfl hb_3)⟩ rfl ?_
   refine al_ro' (ro_eq (ro_ld_ref y6_ty49 rfl up_h (nle rfl)) (by simp only [pS, Value.cells, Nat.reduceAdd, swE] <;> rfl)) ⟨_, rfl, (up_m rfl (u4 rfl hb_3))⟩ rfl ?_
   refine al_ro' (ro_eq (ro_len_row up_h rfl y6_sl49.1) (by simp only [lnS] <;> rfl)) ⟨_, rfl, (u2 rfl (u4 rfl hb_3))⟩ rfl ?_
   refine al_ro' (ro_add (up_m rfl (u2 rfl up_h)) up_h) ⟨_, rfl, (up_m rfl (u2 rfl (u4 rfl hb_3)))⟩ rfl ?_
   refine al_ro' (ro_lss (u2 rfl (u4 rfl up_h)) up_h) ⟨_, rfl, (u8 rfl hb_3)⟩ rfl ?_
   refine ar (ro_pickT (up_m rfl (u8 rfl hb_3)) up_h) rfl <| ar (ro_assign up_h) rfl <| ae1 up_h ?_; clear hb_3 s1_2 s2_2; intro e_4 s3_4
   refine then_n <| aw_ret <| ret1 (.inr rfl) (by kernel_rfl) (resV_tmp s3_4) (.ro _ rfl) ?_
   clear s3_4 mo0_1 ml_1
   (refine avb ?_; simp only [claB, decide_eq_true_eq, Bool.false_eq_true, true_iff, false_iff, ← wrap_eq]; omega)
  replace hq_3 := bf hq_3
  refine al_skip' ⟨_, rfl, .inl hb_3⟩ rfl ?_
  refine al_skip' ⟨_, rfl, .inl (up_m rfl hb_3)⟩ rfl ?_
  refine al_skip' ⟨_, rfl, .inl (u2 rfl hb_3)⟩ rfl ?_
  refine al_skip' ⟨_, rfl, .inl (up_m rfl (u2 rfl hb_3))⟩ rfl ?_
  refine al_skip' ⟨_, rfl, .inl (u4 rfl hb_3)⟩ rfl ?_
  refine al_skip' ⟨_, rfl, .inl (up_m rfl (u4 rfl hb_3))⟩ rfl ?_
  refine al_skip' ⟨_, rfl, .inl (u2 rfl (u4 rfl hb_3))⟩ rfl ?_
  refine al_skip' ⟨_, rfl, .inl (up_m rfl (u2 rfl (u4 rfl hb_3)))⟩ rfl ?_
  refine al_skip' ⟨_, rfl, .inl (u8 rfl hb_3)⟩ rfl ?_
  refine ar (ro_pickF (up_m rfl (u8 rfl hb_3)) ev_c) rfl <| ar (ro_assign up_h) rfl <| ae1 up_h ?_; clear hb_3 s1_2 s2_2; intro e_5 s3_5
  refine then_n <| aw_ret <| ret1 (.inr rfl) (by kernel_rfl) (resV_tmp s3_5) (.ro _ rfl) ?_
  clear s3_5 mo0_1 ml_1
  (refine avb ?_; simp only [claB, decide_eq_true_eq, Bool.false_eq_true, true_iff, false_iff, ← wrap_eq]; omega)
set_option maxRecDepth 100000 in
set_option maxHeartbeats 1000000 in
theorem notAcross_ok (n : Int) : FnOk Try.prog 186 [mA n] (fun q => q = tbA (!smaB n 20000)) := by
  refine fnOk_of (fn := Try.f186) 6 (by kernel_rfl) rfl (by kernel_rfl) (Nat.le_of_ble_eq_true rfl) ?_
  intro e_0 m_0 hA hm_0
  have s0_0 : evA e_0 (.tmp 0) = _ := hA 0 _ rfl
  have ml_0 : m_0.length = 0 := by rw [hm_0]; rfl
  clear hA hm_0
  refine aw_seq <| at_ <| ar (ro_assign ev_c) rfl <| ae1 (up_m rfl s0_0) ?_; clear s0_0; intro e_1 s0_1
  refine then_n <| aw_seq <| at_ <| ar (ro_move s0_1) rfl <| ar (ro_call (evL_cons up_h evL_nil) rfl (isAcross_ok n) qhcf176) rfl <| ar (ro_not up_h) rfl <| ar (ro_assign up_h) rfl <| ae1 up_h ?_; clear s0_1; intro e_2 s2_2
  refine then_n <| aw_ret <| ret1 (.inr rfl) (by kernel_rfl) (resV_tmp s2_2) (.ro _ rfl) ?_
  clear s2_2  ml_0
  rfl
end Go.Proofs.Ytonjcljnpcmenaa

/- Contracts of chapter 1: the error of a switch. No conditions on a program. -/
namespace Go.Proofs.Ytonjcljnpcmenaa
open Go Go.RowKit Go.Proofs
set_option linter.unusedSimpArgs false
set_option linter.unusedVariables false
theorem y7_hcf186 : ∀ args w, (callFunc 186 args).run Try.prog w = .ok (.enter 186 args) w := fun _ _ => by kernel_rfl
theorem y7_hcf187 : ∀ args w, (callFunc 187 args).run Try.prog w = .ok (.enter 187 args) w := fun _ _ => by kernel_rfl
theorem y7_hcf188 : ∀ args w, (callFunc 188 args).run Try.prog w = .ok (.enter 188 args) w := fun _ _ => by kernel_rfl
theorem y7_sl24 : SlIs Try.prog 24 91 3 48 (.agg #[.string ByteArray.empty, .int .i64 0, .slice none 0 0]) := ⟨by kernel_rfl, by kernel_rfl, by kernel_rfl⟩
theorem y7_sl49 : SlIs Try.prog 49 3 1 8 (.int .i64 0) := ⟨by kernel_rfl, by kernel_rfl, by kernel_rfl⟩
theorem y7_ty3 : TyIs Try.prog 3 false 1 := ⟨by kernel_rfl, by kernel_rfl⟩
theorem y7_ty91 : TyIs Try.prog 91 true 3 := ⟨by kernel_rfl, by kernel_rfl⟩

def idxS {α : Type} (p : α → Bool) (l : List α) : Int := match l.findIdx? p with
  | some i => i
  | none => -1
theorem idxS_hit {α : Type} [Inhabited α] {g : α → Bool} {l : List α} {i : Nat} (hi : i < l.length) (h : g (l.getD i default) = true) (hn : ∀ j : Nat, j < i → g (l.getD j default) = false) : idxS g l = i := by
  have e : ∀ j, (hj : j < l.length) → l.getD j default = l[j] := fun j hj => by simp [List.getD_eq_getElem?_getD, hj]
  unfold idxS
  rw [show l.findIdx? g = some i from List.findIdx?_eq_some_iff_getElem.2 ⟨hi, by rw [← e i hi, h], fun j hj => by rw [← e j (by omega), hn j hj]; decide⟩]
theorem idxS_miss {α : Type} [Inhabited α] {g : α → Bool} {l : List α} (hn : ∀ j : Nat, j < l.length → g (l.getD j default) = false) : idxS g l = -1 := by
  unfold idxS
  rw [List.findIdx?_eq_none_iff.2 fun x hx => by
    obtain ⟨j, hj, rfl⟩ := List.getElem_of_mem hx
    have := hn j hj
    rwa [List.getD_eq_getElem?_getD, List.getElem?_eq_getElem hj] at this]
theorem idxS_any {α : Type} (g : α → Bool) (l : List α) : (0 ≤ idxS g l) ↔ l.any g = true := by
  unfold idxS
  rw [List.any_eq_true]
  cases h : l.findIdx? g with
  | none =>
    rw [List.findIdx?_eq_none_iff] at h
    refine ⟨fun q => absurd q (by decide), fun ⟨x, hx, hg⟩ => ?_⟩
    rw [h x hx] at hg; cases hg
  | some i =>
    obtain ⟨hi, h1, _⟩ := List.findIdx?_eq_some_iff_getElem.1 h
    exact ⟨fun _ => ⟨_, List.getElem_mem hi, h1⟩, fun _ => by show (0 : Int) ≤ (i : Int); omega⟩
set_option maxRecDepth 100000 in
set_option maxHeartbeats 4000000 in
theorem indexS_ok (ss : List Swi) (c : AV) (p : Swi → Bool) (hl : ss.length ≤ 1000000) (hc : ∀ i : Nat, i < ss.length → CloOk Try.prog c [.agg (swE (ss.getD i default))] (fun q => q = tbA (p (ss.getD i default)))) :
    FnOk Try.prog 187 [.row 3 (ss.map swE), c] (fun q => q = mA (idxS p ss)) := by
  refine fnOk_of (fn := Try.f187) 19 (by kernel_rfl) rfl (by kernel_rfl) (Nat.le_of_ble_eq_true rfl) ?_
  intro e_0 m_0 hA hm_0
  have s0_0 : evA e_0 (.tmp 0) = _ := hA 0 _ rfl
  have s1_0 : evA e_0 (.tmp 1) = _ := hA 1 _ rfl
  have ml_0 : m_0.length = 0 := by rw [hm_0]; rfl
  clear hA hm_0
  refine aw_seq <| at_ <| ar (ro_assign ev_c) rfl <| ae2 (up_m rfl s0_0) (up_m rfl s1_0) ?_; clear s0_0 s1_0; intro e_1 s0_1 s1_1
  refine then_n <| aw_seq <| aw_seq <| at_ <| ar (ro_move s0_1) rfl <| ar (ro_eq (ro_len_row up_h rfl y7_sl24.1) (by simp only [lnS] <;> rfl)) rfl ?_
  refine ar (ro_move ev_c) rfl <| ae4 (up_m rfl (u2 rfl s0_1)) (up_m rfl (u2 rfl s1_1)) (up_m rfl up_h) up_h ?_; clear s0_1 s1_1; intro e_2 s0_2 s1_2 s7_2 s8_2
  refine then_n <| aw_block <| aw_loop (S := Int) (fun i e mem => (evA e (.tmp 8) = .v (.int .i64 i)) ∧ (evA e (.tmp 0) = evA e_2 (.tmp 0)) ∧ (evA e (.tmp 1) = evA e_2 (.tmp 1)) ∧ (evA e (.tmp 7) = evA e_2 (.tmp 7)) ∧ (mem.length = 0) ∧ ((0 ≤ i ∧ i ≤ ss.length ∧ ∀ j : Nat, j < i.toNat → p (ss.getD j default) = false))) (fun i => (ss.length - i).toNat) _ ⟨s8_2, rfl, rfl, rfl, ml_0, ?_⟩ ?_
  · (exact ⟨by omega, by omega, fun j h => absurd h (by omega)⟩)
  · rintro i e_3 m_3 ⟨s8_3, k0_3, k1_3, k7_3, ml_3, hinv⟩
    have s0_3 := k0_3.trans s0_2
    have s1_3 := k1_3.trans s1_2
    have s7_3 := k7_3.trans s7_2
    (obtain ⟨p1, p2, p3⟩ := hinv)
    refine aw_seq <| at_ <| ar (ro_lss s8_3 s7_3) rfl <| ae5 (up_m rfl s0_3) (up_m rfl s1_3) (up_m rfl s7_3) (up_m rfl s8_3) up_h ?_; clear s0_3 s1_3 s7_3 s8_3; intro e_4 s0_4 s1_4 s7_4 s8_4 s9_4
    refine then_n <| aw_seq <| aw_case s9_4 (fun hq_5 => ?_) (fun hq_5 => ?_)
    ·replace hq_5 := bt hq_5
     refine aw_skip <| then_n <| aw_seq <| aw_block <| aw_seq <| at_ <| ar (ro_move s8_4) rfl <| ar (ro_assign up_h) rfl <| ae5 (u2 rfl s0_4) (u2 rfl s1_4) up_h (u2 rfl s7_4) (u2 rfl s8_4) ?_; clear s0_4 s1_4 s7_4 s8_4 s9_4; intro e_6 s0_6 s1_6 s5_6 s7_6 s8_6
     refine then_n <| aw_seq <| at_ <| ar (ro_move s1_6) rfl <| ar (ro_move (up_m rfl s0_6)) rfl <| ar (ro_move (u2 rfl s5_6)) rfl <| ar (ro_eq (ro_ix y7_sl24 (up_m rfl up_h) up_h (by omega) (by first | (refine idx_map ?_; first | omega | (simp only [lnS]; omega)) | (refine idx_mapI ?_; first | omega | (simp only [lnS]; omega)) | (refine idx_mapN ?_; first | omega | (simp only [lnS]; omega)) | rfl)) (by rfl)) rfl ?_
     refine ar (ro_eq (ro_ld_ref y7_ty91 rfl up_h (nle rfl)) (by simp only [pS, Value.cells, Nat.reduceAdd] <;> rfl)) rfl ?_
     refine ar (ro_callo (u4 rfl up_h) (evL_cons up_h evL_nil) rfl (hc i.toNat (by omega))) rfl ?_
     refine ae6 (u2 rfl (u4 rfl s0_6)) (u2 rfl (u4 rfl s1_6)) (u2 rfl (u4 rfl s5_6)) (u2 rfl (u4 rfl s7_6)) (u2 rfl (u4 rfl s8_6)) up_h ?_; clear s0_6 s1_6 s5_6 s7_6 s8_6; intro e_7 s0_7 s1_7 s5_7 s7_7 s8_7 s16_7
     refine then_n <| aw_case s16_7 (fun hq_8 => ?_) (fun hq_8 => ?_)
     ·skip
      refine aw_seq <| at_ <| ar (ro_move s5_7) rfl <| ar (ro_assign up_h) rfl <| ae1 up_h ?_; clear s0_7 s16_7 s1_7 s5_7 s7_7 s8_7; intro e_9 s4_9
      refine then_n <| aw_ret <| block_r <| then_r <| then_r <| block_r <| then_r <| ret1 (.inr rfl) (by kernel_rfl) (resV_tmp s4_9) (.ro _ rfl) ?_
      clear s4_9  ml_3
      (rw [idxS_hit (i := i.toNat) (by omega) (by assumption) p3, Int.toNat_of_nonneg p1])
     refine aw_skip <| block_n <| then_n <| at_ ?_
     (refine ar (ro_add' s8_7 ev_c ?_) rfl ?_; · (unfold In64; omega))
     refine ar (ro_move up_h) rfl <| ae4 (u2 rfl s0_7) (u2 rfl s1_7) (u2 rfl s7_7) up_h ?_; clear s0_7 s16_7 s1_7 s5_7 s7_7 s8_7; intro e_10 s0_10 s1_10 s7_10 s8_10
     refine then_n <| ⟨_, ⟨s8_10, (s0_10.trans s0_2.symm), (s1_10.trans s1_2.symm), (s7_10.trans s7_2.symm), ml_3, ?_⟩, ?_⟩
     · (refine ⟨by omega, by omega, fun j hj => ?_⟩; by_cases hji : j < i.toNat; (exact p3 j hji); (rw [show j = i.toNat by omega]; assumption))
     · ((try dsimp only); omega)
    replace hq_5 := bf hq_5
    refine aw_exit <| then_x <| then_x <| block_hit <| then_n <| aw_seq <| at_ <| ar (ro_assign ev_c) rfl <| ae1 up_h ?_; clear s0_4 s1_4 s7_4 s8_4 s9_4; intro e_11 s4_11
    refine then_n <| aw_ret <| ret1 (.inr rfl) (by kernel_rfl) (resV_tmp s4_11) (.ro _ rfl) ?_
    clear s4_11  ml_3
    (rw [idxS_miss (fun j hj => p3 j (by omega))])
set_option maxRecDepth 100000 in
set_option maxHeartbeats 1000000 in
theorem containsS_ok (ss : List Swi) (c : AV) (p : Swi → Bool) (hro : roO c = true) (hl : ss.length ≤ 1000000) (hc : ∀ i : Nat, i < ss.length → CloOk Try.prog c [.agg (swE (ss.getD i default))] (fun q => q = tbA (p (ss.getD i default)))) :
    FnOk Try.prog 182 [.row 3 (ss.map swE), c] (fun q => q = tbA (ss.any p)) := by
  refine fnOk_of (fn := Try.f182) 9 (by kernel_rfl) rfl (by kernel_rfl) (Nat.le_of_ble_eq_true rfl) ?_
  intro e_0 m_0 hA hm_0
  have s0_0 : evA e_0 (.tmp 0) = _ := hA 0 _ rfl
  have s1_0 : evA e_0 (.tmp 1) = _ := hA 1 _ rfl
  have ml_0 : m_0.length = 0 := by rw [hm_0]; rfl
  clear hA hm_0
  refine aw_seq <| at_ <| ar (ro_assign ev_c) rfl <| ae2 (up_m rfl s0_0) (up_m rfl s1_0) ?_; clear s0_0 s1_0; intro e_1 s0_1 s1_1
  refine then_n <| aw_seq <| at_ <| ar (ro_move s0_1) rfl <| ar (ro_move (up_m rfl s1_1)) rfl <| ar (ro_call (evL_cons (up_m rfl up_h) (evL_cons up_h evL_nil)) (by first | rfl | (simp only [roO.roL, roO, Bool.and_true, Bool.true_and]; first | rfl | assumption) | simp [roO.roL, roO, *]) (indexS_ok ss c p hl hc) y7_hcf187) rfl ?_
  refine ar (ro_geq up_h ev_c) rfl <| ar (ro_assign up_h) rfl <| ae1 up_h ?_; clear s0_1 s1_1; intro e_2 s4_2
  refine then_n <| aw_ret <| ret1 (.inr rfl) (by kernel_rfl) (resV_tmp s4_2) (.ro _ rfl) ?_
  clear s4_2  ml_0
  (refine avb ?_; simp only [decide_eq_true_eq, idxS_any])
set_option maxRecDepth 100000 in
set_option maxHeartbeats 4000000 in
theorem indexA_ok (l : List Int) (hl : l.length ≤ 1000000) : FnOk Try.prog 188 [.row 1 (l.map iE), .v (.func (.func 186) #[] #[])] (fun q => q = mA (idxS (fun n => !smaB n 20000) l)) := by
  refine fnOk_of (fn := Try.f188) 19 (by kernel_rfl) rfl (by kernel_rfl) (Nat.le_of_ble_eq_true rfl) ?_
  intro e_0 m_0 hA hm_0
  have s0_0 : evA e_0 (.tmp 0) = _ := hA 0 _ rfl
  have s1_0 : evA e_0 (.tmp 1) = _ := hA 1 _ rfl
  have ml_0 : m_0.length = 0 := by rw [hm_0]; rfl
  clear hA hm_0
  refine aw_seq <| at_ <| ar (ro_assign ev_c) rfl <| ae2 (up_m rfl s0_0) (up_m rfl s1_0) ?_; clear s0_0 s1_0; intro e_1 s0_1 s1_1
  refine then_n <| aw_seq <| aw_seq <| at_ <| ar (ro_move s0_1) rfl <| ar (ro_eq (ro_len_row up_h rfl y7_sl49.1) (by simp only [lnS] <;> rfl)) rfl ?_
  refine ar (ro_move ev_c) rfl <| ae4 (up_m rfl (u2 rfl s0_1)) (up_m rfl (u2 rfl s1_1)) (up_m rfl up_h) up_h ?_; clear s0_1 s1_1; intro e_2 s0_2 s1_2 s7_2 s8_2
  refine then_n <| aw_block <| aw_loop (S := Int) (fun i e mem => (evA e (.tmp 8) = .v (.int .i64 i)) ∧ (evA e (.tmp 0) = evA e_2 (.tmp 0)) ∧ (evA e (.tmp 1) = evA e_2 (.tmp 1)) ∧ (evA e (.tmp 7) = evA e_2 (.tmp 7)) ∧ (mem.length = 0) ∧ ((0 ≤ i ∧ i ≤ l.length ∧ ∀ j : Nat, j < i.toNat → (!smaB (l.getD j default) 20000) = false))) (fun i => (l.length - i).toNat) _ ⟨s8_2, rfl, rfl, rfl, ml_0, ?_⟩ ?_
  · (exact ⟨by omega, by omega, fun j h => absurd h (by omega)⟩)
  · rintro i e_3 m_3 ⟨s8_3, k0_3, k1_3, k7_3, ml_3, hinv⟩
    have s0_3 := k0_3.trans s0_2
    have s1_3 := k1_3.trans s1_2
    have s7_3 := k7_3.trans s7_2
    (obtain ⟨p1, p2, p3⟩ := hinv)
    refine aw_seq <| at_ <| ar (ro_lss s8_3 s7_3) rfl <| ae5 (up_m rfl s0_3) (up_m rfl s1_3) (up_m rfl s7_3) (up_m rfl s8_3) up_h ?_; clear s0_3 s1_3 s7_3 s8_3; intro e_4 s0_4 s1_4 s7_4 s8_4 s9_4
    refine then_n <| aw_seq <| aw_case s9_4 (fun hq_5 => ?_) (fun hq_5 => ?_)
    ·replace hq_5 := bt hq_5
     refine aw_skip <| then_n <| aw_seq <| aw_block <| aw_seq <| at_ <| ar (ro_move s8_4) rfl <| ar (ro_assign up_h) rfl <| ae5 (u2 rfl s0_4) (u2 rfl s1_4) up_h (u2 rfl s7_4) (u2 rfl s8_4) ?_; clear s0_4 s1_4 s7_4 s8_4 s9_4; intro e_6 s0_6 s1_6 s5_6 s7_6 s8_6
     refine then_n <| aw_seq <| at_ <| ar (ro_move s1_6) rfl <| ar (ro_move (up_m rfl s0_6)) rfl <| ar (ro_move (u2 rfl s5_6)) rfl <| ar (ro_eq (ro_ix y7_sl49 (up_m rfl up_h) up_h (by omega) (by first | (refine idx_map ?_; first | omega | (simp only [lnS]; omega)) | (refine idx_mapI ?_; first | omega | (simp only [lnS]; omega)) | (refine idx_mapN ?_; first | omega | (simp only [lnS]; omega)) | rfl)) (by simp only [pS, Value.cells, Nat.reduceAdd] <;> rfl)) rfl ?_
     refine ar (ro_eq (ro_ld_ref y7_ty3 rfl up_h (nle rfl)) (by simp only [pS, Value.cells, Nat.reduceAdd] <;> rfl)) rfl ?_
     refine ar (ro_callf (u4 rfl up_h) (evL_cons up_h evL_nil) rfl (notAcross_ok _) y7_hcf186) rfl <| ae6 (u2 rfl (u4 rfl s0_6)) (u2 rfl (u4 rfl s1_6)) (u2 rfl (u4 rfl s5_6)) (u2 rfl (u4 rfl s7_6)) (u2 rfl (u4 rfl s8_6)) up_h ?_; clear s0_6 s1_6 s5_6 s7_6 s8_6; intro e_7 s0_7 s1_7 s5_7 s7_7 s8_7 s16_7
     refine then_n <| aw_case s16_7 (fun hq_8 => ?_) (fun hq_8 => ?_)
     ·replace hq_8 := bt' hq_8
      refine aw_seq <| at_ <| ar (ro_move s5_7) rfl <| ar (ro_assign up_h) rfl <| ae1 up_h ?_; clear s0_7 s16_7 s1_7 s5_7 s7_7 s8_7; intro e_9 s4_9
      refine then_n <| aw_ret <| block_r <| then_r <| then_r <| block_r <| then_r <| ret1 (.inr rfl) (by kernel_rfl) (resV_tmp s4_9) (.ro _ rfl) ?_
      clear s4_9  ml_3
      (rw [idxS_hit (i := i.toNat) (by omega) (by rw [‹smaB _ _ = false›]; rfl) p3, Int.toNat_of_nonneg p1])
     replace hq_8 := bf' hq_8
     refine aw_skip <| block_n <| then_n <| at_ ?_
     (refine ar (ro_add' s8_7 ev_c ?_) rfl ?_; · (unfold In64; omega))
     refine ar (ro_move up_h) rfl <| ae4 (u2 rfl s0_7) (u2 rfl s1_7) (u2 rfl s7_7) up_h ?_; clear s0_7 s16_7 s1_7 s5_7 s7_7 s8_7; intro e_10 s0_10 s1_10 s7_10 s8_10
     refine then_n <| ⟨_, ⟨s8_10, (s0_10.trans s0_2.symm), (s1_10.trans s1_2.symm), (s7_10.trans s7_2.symm), ml_3, ?_⟩, ?_⟩
     · (refine ⟨by omega, by omega, fun j hj => ?_⟩; by_cases hji : j < i.toNat; (exact p3 j hji); (rw [show j = i.toNat by omega]; rw [‹smaB _ _ = true›]; rfl))
     · ((try dsimp only); omega)
    replace hq_5 := bf hq_5
    refine aw_exit <| then_x <| then_x <| block_hit <| then_n <| aw_seq <| at_ <| ar (ro_assign ev_c) rfl <| ae1 up_h ?_; clear s0_4 s1_4 s7_4 s8_4 s9_4; intro e_11 s4_11
    refine then_n <| aw_ret <| ret1 (.inr rfl) (by kernel_rfl) (resV_tmp s4_11) (.ro _ rfl) ?_
    clear s4_11  ml_3
    (rw [idxS_miss (fun j hj => p3 j (by omega))])
set_option maxRecDepth 100000 in
set_option maxHeartbeats 1000000 in
theorem containsA_ok (l : List Int) (hl : l.length ≤ 1000000) : FnOk Try.prog 185 [.row 1 (l.map iE), .v (.func (.func 186) #[] #[])] (fun q => q = tbA (l.any (fun n => !smaB n 20000))) := by
  refine fnOk_of (fn := Try.f185) 9 (by kernel_rfl) rfl (by kernel_rfl) (Nat.le_of_ble_eq_true rfl) ?_
  intro e_0 m_0 hA hm_0
  have s0_0 : evA e_0 (.tmp 0) = _ := hA 0 _ rfl
  have s1_0 : evA e_0 (.tmp 1) = _ := hA 1 _ rfl
  have ml_0 : m_0.length = 0 := by rw [hm_0]; rfl
  clear hA hm_0
  refine aw_seq <| at_ <| ar (ro_assign ev_c) rfl <| ae2 (up_m rfl s0_0) (up_m rfl s1_0) ?_; clear s0_0 s1_0; intro e_1 s0_1 s1_1
  refine then_n <| aw_seq <| at_ <| ar (ro_move s0_1) rfl <| ar (ro_move (up_m rfl s1_1)) rfl <| ar (ro_call (evL_cons (up_m rfl up_h) (evL_cons up_h evL_nil)) rfl (indexA_ok l hl) y7_hcf188) rfl <| ar (ro_geq up_h ev_c) rfl <| ar (ro_assign up_h) rfl <| ae1 up_h ?_; clear s0_1 s1_1; intro e_2 s4_2
  refine then_n <| aw_ret <| ret1 (.inr rfl) (by kernel_rfl) (resV_tmp s4_2) (.ro _ rfl) ?_
  clear s4_2  ml_0
  (refine avb ?_; simp only [decide_eq_true_eq, idxS_any])
end Go.Proofs.Ytonjcljnpcmenaa

/- Contracts of chapter 1: the error of a switch; what is wrong with a line. No conditions on a program. -/
namespace Go.Proofs.Ytonjcljnpcmenaa
open Go Go.RowKit Go.Proofs
set_option linter.unusedSimpArgs false
set_option linter.unusedVariables false
theorem y8_hcf179 : ∀ args w, (callFunc 179 args).run Try.prog w = .ok (.enter 179 args) w := fun _ _ => by kernel_rfl
theorem y8_hcf182 : ∀ args w, (callFunc 182 args).run Try.prog w = .ok (.enter 182 args) w := fun _ _ => by kernel_rfl
theorem y8_hcf185 : ∀ args w, (callFunc 185 args).run Try.prog w = .ok (.enter 185 args) w := fun _ _ => by kernel_rfl
theorem y8_sl185 : SlIs Try.prog 185 34 1 8 (.int .i64 0) := ⟨by kernel_rfl, by kernel_rfl, by kernel_rfl⟩
theorem y8_sl22 : SlIs Try.prog 22 70 4 32 (.agg #[.int .i64 0, .int .i64 0, .int .i64 0, .int .i64 0]) := ⟨by kernel_rfl, by kernel_rfl, by kernel_rfl⟩
theorem y8_sl24 : SlIs Try.prog 24 91 3 48 (.agg #[.string ByteArray.empty, .int .i64 0, .slice none 0 0]) := ⟨by kernel_rfl, by kernel_rfl, by kernel_rfl⟩
theorem y8_sl49 : SlIs Try.prog 49 3 1 8 (.int .i64 0) := ⟨by kernel_rfl, by kernel_rfl, by kernel_rfl⟩
theorem y8_ty22 : TyIs Try.prog 22 false 1 := ⟨by kernel_rfl, by kernel_rfl⟩
theorem y8_ty24 : TyIs Try.prog 24 false 1 := ⟨by kernel_rfl, by kernel_rfl⟩
theorem y8_ty26 : TyIs Try.prog 26 true 4 := ⟨by kernel_rfl, by kernel_rfl⟩
theorem y8_ty3 : TyIs Try.prog 3 false 1 := ⟨by kernel_rfl, by kernel_rfl⟩
theorem y8_ty49 : TyIs Try.prog 49 false 1 := ⟨by kernel_rfl, by kernel_rfl⟩
theorem y8_ty9 : TyIs Try.prog 9 false 1 := ⟨by kernel_rfl, by kernel_rfl⟩
theorem y8_ty91 : TyIs Try.prog 91 true 3 := ⟨by kernel_rfl, by kernel_rfl⟩

theorem tkm {α : Type} (f : α → List AV) (l : List α) (a : Nat) : (l.map f).take a = (l.take a).map f := List.map_take.symm
theorem sn_clo (o s : Swi) : CloOk Try.prog (.clo (.func 183) [] [.ref (swE s)]) [.agg (swE o)] (fun q => q = tbA (o.nam.toList == s.nam.toList)) := ⟨_, _, _, rfl, rfl, rfl, fun _ _ => by kernel_rfl, sameName_ok o s⟩
theorem cl_clo (o s : Swi) (ho : o.acr.length ≤ 1000000) (hs : s.acr.length ≤ 1000000) : CloOk Try.prog (.clo (.func 184) [] [.ref (swE s)]) [.agg (swE o)] (fun q => q = tbA (claB s o)) := ⟨_, _, _, rfl, rfl, rfl, fun _ _ => by kernel_rfl, clash_ok o s ho hs⟩
theorem sn_contains (ss : List Swi) (k : Nat) (s : Swi) (hl : (ss.take k).length ≤ 1000000) : FnOk Try.prog 182 [.row 3 ((ss.map swE).take k), .clo (.func 183) [] [.ref (swE s)]] (fun q => q = tbA ((ss.take k).any (fun o => o.nam.toList == s.nam.toList))) := by
  rw [tkm]
  exact containsS_ok (ss.take k) _ _ rfl hl fun j _ => sn_clo ((ss.take k).getD j default) s
theorem cl_contains (ss : List Swi) (k : Nat) (s : Swi) (hl : (ss.take k).length ≤ 1000000) (ho : ∀ j : Nat, ((ss.take k).getD j default).acr.length ≤ 1000000) (hs : s.acr.length ≤ 1000000) : FnOk Try.prog 182 [.row 3 ((ss.map swE).take k), .clo (.func 184) [] [.ref (swE s)]] (fun q => q = tbA ((ss.take k).any (fun o => claB s o))) := by
  rw [tkm]
  exact containsS_ok (ss.take k) _ (fun o => claB s o) rfl hl fun j _ => cl_clo ((ss.take k).getD j default) s (ho j) hs
def innB (l : Lin) (s : Swi) : Bool := decide (1 ≤ s.fst ∧ s.fst ≤ (l.js.length : Int) - 2 ∧ (s.acr.length : Int) ≤ l.js.length - 1 - s.fst)
theorem inn_eq {l : Lin} {s : Swi} (hj : l.js.length = l.bs.length + 1) (h0 : s.acr.length ≠ 0) : innB l s = withinB s.fst 1 (l.bs.length - s.acr.length) := by
  rw [Bool.eq_iff_iff]
  simp only [innB, withinB, Bool.and_eq_true, decide_eq_true_eq]
  omega
theorem swi_first {l : Lin} {i : Nat} (hj : l.js.length = l.bs.length + 1) : firstE [unlessE (isNameB (l.ss.getD i default).nam) 4, unlessE (!(l.ss.take i).any (fun o => o.nam.toList == (l.ss.getD i default).nam.toList)) 5, unlessE (decide ((0 : Int) < (l.ss.getD i default).acr.length)) 10, unlessE (innB l (l.ss.getD i default)) 6,
    unlessE (!(l.ss.getD i default).acr.any (fun n => !smaB n 20000)) 2, unlessE (!(l.ss.take i).any (fun o => claB (l.ss.getD i default) o)) 13] = swiE l i := by
  unfold swiE
  generalize l.ss.getD i default = s
  generalize (l.ss.take i).any (fun o => o.nam.toList == s.nam.toList) = b1
  generalize (l.ss.take i).any (fun o => claB s o) = b2
  generalize s.acr.any (fun n => !smaB n 20000) = b3
  by_cases h0 : s.acr.length = 0
  · rw [decide_eq_false (p := (0 : Int) < s.acr.length) (by omega), if_pos h0]
    cases isNameB s.nam <;> cases b1 <;> simp [firstE, unlessE]
  · rw [decide_eq_true (p := (0 : Int) < s.acr.length) (by omega), if_neg h0, inn_eq hj h0]
    cases isNameB s.nam <;> cases b1 <;> cases withinB s.fst 1 (l.bs.length - s.acr.length) <;> cases b3 <;> cases b2 <;> simp [firstE, unlessE]
set_option maxRecDepth 100000 in
set_option maxHeartbeats 4000000 in
theorem ySwitch_ok (l : Lin) (hl : Sho l) (hj : l.js.length = l.bs.length + 1) (i : Int) (hi : 0 ≤ i ∧ i < l.ss.length) : FnOk Try.prog 179 [lnA l, mA i] (fun q => q = mA (swiE l i.toNat)) := by
  obtain ⟨h1, h2, h3, h4, h5⟩ := id hl
  have hs := hl.at i.toNat
  have hoat : ∀ j : Nat, ((l.ss.take i.toNat).getD j default).acr.length ≤ 1000000 := fun j => by
    by_cases hjl : j < (l.ss.take i.toNat).length
    · exact (h5 _ (List.mem_of_mem_take (by rw [List.getD_eq_getElem?_getD, List.getElem?_eq_getElem hjl]; exact List.getElem_mem hjl))).2
    · rw [List.getD_eq_getElem?_getD, List.getElem?_eq_none (by omega)]; decide
  have htl : (l.ss.take i.toNat).length ≤ 1000000 := by rw [List.length_take]; omega
  refine fnOk_of (fn := Try.f179) 69 (by kernel_rfl) rfl (by kernel_rfl) (Nat.le_of_ble_eq_true rfl) ?_
  intro e_0 m_0 hA hm_0
  have s0_0 : evA e_0 (.tmp 0) = _ := hA 0 _ rfl
  have s1_0 : evA e_0 (.tmp 1) = _ := hA 1 _ rfl
  have ml_0 : m_0.length = 0 := by rw [hm_0]; rfl
  clear hA hm_0
  refine aw_seq <| at_ <| al_stm (st_box s0_0 rfl ml_0) trivial rfl (fun m_1 hm_1 => ?_)
  have mo0_1 := m_push hm_1 ml_0
  have ml_1 := m_push_l hm_1 ml_0
  have ml_1 : _ = 1 := ml_1
  clear hm_1
  refine ar (ro_assign ev_c) rfl <| ae2 (u2 rfl s1_0) (up_m rfl up_h) ?_; clear s0_0 s1_0; intro e_2 s1_2 s2_2
  refine then_n <| aw_seq <| at_ <| ar (ro_fld_ptr qfl26_3 rfl s2_2) rfl <| ar (ro_eq (ro_ld_ptr y8_ty24 rfl mo0_1 up_h (nle rfl)) (by simp only [pS, Value.cells, Nat.reduceAdd, swE, tkm] <;> rfl)) rfl ?_
  refine ar (ro_move (u2 rfl s1_2)) rfl <| ar (ro_eq (ro_ix y8_sl24 (up_m rfl up_h) up_h (by omega) (by first | (refine idx_map ?_; first | omega | (simp only [lnS]; omega)) | (refine idx_mapI ?_; first | omega | (simp only [lnS]; omega)) | (refine idx_mapN ?_; first | omega | (simp only [lnS]; omega)) | rfl)) (by simp only [pS, Value.cells, Nat.reduceAdd, swE, tkm] <;> rfl)) rfl ?_
  refine ar (ro_eq (ro_ld_ref y8_ty91 rfl up_h (nle rfl)) (by simp only [pS, Value.cells, Nat.reduceAdd, swE, tkm] <;> rfl)) rfl ?_
  refine al_stm (st_alloc qaz91 rfl ml_1) trivial rfl (fun m_3 hm_3 => ?_)
  have mo1_3 := m_push hm_3 ml_1
  simp only [pS, Value.cells, Nat.reduceAdd, swE, tkm] at mo1_3
  have mo0_3 := m_push_o hm_3 mo0_1
  have ml_3 := m_push_l hm_3 ml_1
  have ml_3 : _ = 2 := ml_3
  clear hm_3 mo0_1
  refine al_stm (st_store up_h (up_m rfl up_h) rfl rfl mo1_3 qsz91 rfl (nle rfl)) trivial rfl (fun m_4 hm_4 => ?_)
  have mo1_4 := m_set hm_4 mo1_3
  simp only [pS, Value.cells, Nat.reduceAdd, swE, tkm] at mo1_4
  have mo0_4 := m_set_o hm_4 mo0_3 (by decide)
  have ml_4 := m_set_l hm_4 ml_3
  clear hm_4 mo1_3 mo0_3
  refine ae3 (up_n (u2 rfl (u4 rfl s1_2))) (up_n (u2 rfl (u4 rfl s2_2))) (up_n up_h) ?_; clear s1_2 s2_2; intro e_5 s1_5 s2_5 s5_5
  refine then_n <| aw_seq <| at_ <| ar (ro_fld_ptr qfl26_3 rfl s2_5) rfl <| ar (ro_eq (ro_ld_ptr y8_ty24 rfl mo0_4 up_h (nle rfl)) (by simp only [pS, Value.cells, Nat.reduceAdd, swE, tkm] <;> rfl)) rfl ?_
  refine ar (ro_move (u2 rfl s1_5)) rfl <| ar (ro_slh y8_sl24 (up_m rfl up_h) up_h (by omega) (by simp only [lnS] <;> omega)) rfl ?_
  refine ar (ro_assign up_h) rfl <| ae3 (up_m rfl (u4 rfl s2_5)) (up_m rfl (u4 rfl s5_5)) up_h ?_; clear s1_5 s2_5 s5_5; intro e_6 s2_6 s5_6 s6_6
  refine then_n <| aw_seq <| aw_freeze s5_6 mo1_4 (by first | rfl | (apply roL_flat; intro _; rfl)) (fun m_7 e_7 hm_7 he_7 => ?_)
  have mo0_7 := m_set_o hm_7 mo0_4 (by decide)
  have ml_7 := m_set_l hm_7 ml_4
  have s2_7 : evA e_7 (.tmp 2) = _ := (congrArg (fun q => evA q (.tmp 2)) he_7).trans (up_m rfl s2_6)
  have s5_7 : evA e_7 (.tmp 5) = _ := (congrArg (fun q => evA q (.tmp 5)) he_7).trans up_h
  have s6_7 : evA e_7 (.tmp 6) = _ := (congrArg (fun q => evA q (.tmp 6)) he_7).trans (up_m rfl s6_6)
  clear hm_7 he_7
  refine at_ <| ar (ro_move s6_7) rfl <| ar (ro_makeFunc evL_nil (evL_cons (up_m rfl s5_7) evL_nil)) rfl <| ar (ro_call (evL_cons (up_m rfl up_h) (evL_cons up_h evL_nil)) rfl (sn_contains l.ss i.toNat (l.ss.getD i.toNat default) htl) y8_hcf182) rfl <| ar (ro_assign up_h) rfl <| ae4 (u4 rfl s2_7) (u4 rfl s5_7) (u4 rfl s6_7) up_h ?_; clear s2_7 s5_7 s6_7; intro e_8 s2_8 s5_8 s6_8 s7_8
  refine then_n <| aw_seq <| aw_cut (fun e mem => (evA e (.tmp 8) = .v (.bool (innB l (l.ss.getD i.toNat default)))) ∧ (evA e (.tmp 5) = evA e_8 (.tmp 5)) ∧ (evA e (.tmp 6) = evA e_8 (.tmp 6)) ∧ (evA e (.tmp 7) = evA e_8 (.tmp 7)) ∧ m_7 = mem) ?_ ?_
  ·
    refine at_ <| ar (ro_eq (ro_fld_ref qfl91_1 rfl s5_8) (by simp only [pS, Value.cells, Nat.reduceAdd, swE, tkm] <;> rfl)) rfl ?_
    refine ar (ro_eq (ro_ld_ref y8_ty3 rfl up_h (nle rfl)) (by simp only [pS, Value.cells, Nat.reduceAdd, swE, tkm] <;> rfl)) rfl ?_
    refine ar (ro_fld_ptr qfl26_1 rfl (u2 rfl s2_8)) rfl <| ar (ro_eq (ro_ld_ptr y8_ty22 rfl mo0_7 up_h (nle rfl)) (by simp only [pS, Value.cells, Nat.reduceAdd, swE, tkm] <;> rfl)) rfl ?_
    refine ar (ro_eq (ro_len_row up_h rfl y8_sl22.1) (by simp only [lnS] <;> rfl)) rfl ?_
    (refine ar (ro_sub' up_h ev_c ?_) rfl ?_; · (unfold In64; omega))
    refine ar (ro_call (evL_cons (u4 rfl up_h) (evL_cons ev_c (evL_cons up_h evL_nil))) rfl (yWithin_ok _ _ _) qhcf97) rfl <| ar (ro_move up_h) rfl <| al_case up_h (fun hb_10 hq_10 => ?_) (fun hb_10 hq_10 => ?_)
    ·skip
     refine al_ro' (ro_eq (ro_fld_ref qfl91_2 rfl (u8 rfl s5_8)) (by simp only [pS, Value.cells, Nat.reduceAdd, swE, tkm] <;> rfl)) ⟨_, rfl, hb_10⟩ rfl ?_
     refine al_ro' (ro_eq (ro_ld_ref y8_ty49 rfl up_h (nle rfl)) (by simp only [pS, Value.cells, Nat.reduceAdd, swE, tkm] <;> rfl)) ⟨_, rfl, (up_m rfl hb_10)⟩ rfl ?_
     refine al_ro' (ro_eq (ro_len_row up_h rfl y8_sl49.1) (by simp only [lnS] <;> rfl)) ⟨_, rfl, (u2 rfl hb_10)⟩ rfl ?_
     refine al_ro' (ro_fld_ptr qfl26_1 rfl (up_m rfl (u2 rfl (u8 rfl s2_8)))) ⟨_, rfl, (up_m rfl (u2 rfl hb_10))⟩ rfl ?_
     refine al_ro' (ro_eq (ro_ld_ptr y8_ty22 rfl mo0_7 up_h (nle rfl)) (by simp only [pS, Value.cells, Nat.reduceAdd, swE, tkm] <;> rfl)) ⟨_, rfl, (u4 rfl hb_10)⟩ rfl ?_
     refine al_ro' (ro_eq (ro_len_row up_h rfl y8_sl22.1) (by simp only [lnS] <;> rfl)) ⟨_, rfl, (up_m rfl (u4 rfl hb_10))⟩ rfl ?_
     (refine al_ro' (ro_sub' up_h ev_c ?_) ⟨_, rfl, (u2 rfl (u4 rfl hb_10))⟩ rfl ?_; · (unfold In64; omega))
     refine al_ro' (ro_eq (ro_fld_ref qfl91_1 rfl (up_m rfl (u2 rfl (u4 rfl (u8 rfl s5_8))))) (by simp only [pS, Value.cells, Nat.reduceAdd, swE, tkm] <;> rfl)) ⟨_, rfl, (up_m rfl (u2 rfl (u4 rfl hb_10)))⟩ rfl ?_
     refine al_ro' (ro_eq (ro_ld_ref y8_ty3 rfl up_h (nle rfl)) (by simp only [pS, Value.cells, Nat.reduceAdd, swE, tkm] <;> rfl)) ⟨_, rfl, (u8 rfl hb_10)⟩ rfl ?_
     refine al_ro' (ro_sub (u2 rfl up_h) up_h) ⟨_, rfl, (up_m rfl (u8 rfl hb_10))⟩ rfl ?_
     refine al_ro' (ro_leq (up_m rfl (u2 rfl (u4 rfl up_h))) up_h) ⟨_, rfl, (u2 rfl (u8 rfl hb_10))⟩ rfl ?_
     refine ar (ro_pickT (up_m rfl (u2 rfl (u8 rfl hb_10))) up_h) rfl <| ar (ro_assign up_h) rfl <| ae4 (up_m rfl (u4 rfl (u16 rfl s5_8))) (up_m rfl (u4 rfl (u16 rfl s6_8))) (up_m rfl (u4 rfl (u16 rfl s7_8))) up_h ?_; intro e_11 s5_11 s6_11 s7_11 s8_11
     refine then_n ⟨(s8_11).trans (by (refine avb ?_; simp only [innB, withinB, wrap_eq, Bool.and_eq_true, Bool.and_eq_false_imp, decide_eq_true_eq, decide_eq_false_iff_not, Bool.false_eq_true, true_iff, false_iff] at *; (try unfold wrap64 at *); omega)), (s5_11).trans (s5_8).symm, (s6_11).trans (s6_8).symm, (s7_11).trans (s7_8).symm, rfl⟩
    refine al_skip' ⟨_, rfl, .inl hb_10⟩ rfl ?_
    refine al_skip' ⟨_, rfl, .inl (up_m rfl hb_10)⟩ rfl ?_
    refine al_skip' ⟨_, rfl, .inl (u2 rfl hb_10)⟩ rfl ?_
    refine al_skip' ⟨_, rfl, .inl (up_m rfl (u2 rfl hb_10))⟩ rfl ?_
    refine al_skip' ⟨_, rfl, .inl (u4 rfl hb_10)⟩ rfl ?_
    refine al_skip' ⟨_, rfl, .inl (up_m rfl (u4 rfl hb_10))⟩ rfl ?_
    refine al_skip' ⟨_, rfl, .inl (u2 rfl (u4 rfl hb_10))⟩ rfl ?_
    refine al_skip' ⟨_, rfl, .inl (up_m rfl (u2 rfl (u4 rfl hb_10)))⟩ rfl ?_
    refine al_skip' ⟨_, rfl, .inl (u8 rfl hb_10)⟩ rfl ?_
    refine al_skip' ⟨_, rfl, .inl (up_m rfl (u8 rfl hb_10))⟩ rfl ?_
    refine al_skip' ⟨_, rfl, .inl (u2 rfl (u8 rfl hb_10))⟩ rfl ?_
    refine ar (ro_pickF (up_m rfl (u2 rfl (u8 rfl hb_10))) ev_c) rfl <| ar (ro_assign up_h) rfl <| ae4 (up_m rfl (u4 rfl (u16 rfl s5_8))) (up_m rfl (u4 rfl (u16 rfl s6_8))) (up_m rfl (u4 rfl (u16 rfl s7_8))) up_h ?_; intro e_12 s5_12 s6_12 s7_12 s8_12
    refine then_n ⟨(s8_12).trans (by (refine avb ?_; simp only [innB, withinB, wrap_eq, Bool.and_eq_true, Bool.and_eq_false_imp, decide_eq_true_eq, decide_eq_false_iff_not, Bool.false_eq_true, true_iff, false_iff] at *; (try unfold wrap64 at *); omega)), (s5_12).trans (s5_8).symm, (s6_12).trans (s6_8).symm, (s7_12).trans (s7_8).symm, rfl⟩
  · rintro e_9 _ ⟨s8_9, k5_9, k6_9, k7_9, rfl⟩
    have s5_9 := k5_9.trans s5_8
    have s6_9 := k6_9.trans s6_8
    have s7_9 := k7_9.trans s7_8
    refine aw_seq <| at_ <| ar (ro_move s6_9) rfl <| ar (ro_makeFunc evL_nil (evL_cons (up_m rfl s5_9) evL_nil)) rfl <| ar (ro_call (evL_cons (up_m rfl up_h) (evL_cons up_h evL_nil)) rfl (cl_contains l.ss i.toNat (l.ss.getD i.toNat default) htl hoat hs.2) y8_hcf182) rfl <| ar (ro_assign up_h) rfl <| ae4 (u4 rfl s5_9) (u4 rfl s7_9) (u4 rfl s8_9) up_h ?_; clear s5_9 s6_9 s7_9 s8_9; intro e_13 s5_13 s7_13 s8_13 s9_13
    refine then_n <| aw_seq <| aw_draw 25 (by kernel_rfl) (by kernel_rfl) (by kernel_rfl) (by kernel_rfl) ?_
    refine dr (ro_eq (ro_fld_ref qfl91_0 rfl s5_13) (by simp only [pS, Value.cells, Nat.reduceAdd, swE, tkm] <;> rfl)) rfl ?_
    refine dr (ro_eq (ro_ld_ref y8_ty9 rfl up_h (nle rfl)) (by simp only [pS, Value.cells, Nat.reduceAdd, swE, tkm] <;> rfl)) rfl ?_
    refine dr (ro_call (evL_cons up_h evL_nil) rfl (yIsName_ok _ (by omega)) qhcf174) rfl ?_
    refine dr (ro_call (evL_cons up_h (evL_cons ev_c evL_nil)) rfl (yUnless_ok _ _) qhcf94) rfl <| dr (ro_move (u4 rfl s7_13)) rfl <| dr (ro_not up_h) rfl <| dr (ro_call (evL_cons up_h (evL_cons ev_c evL_nil)) rfl (yUnless_ok _ _) qhcf94) rfl <| dr (ro_eq (ro_fld_ref qfl91_2 rfl (up_m rfl (u2 rfl (u4 rfl s5_13)))) (by simp only [pS, Value.cells, Nat.reduceAdd, swE, tkm] <;> rfl)) rfl ?_
    refine dr (ro_eq (ro_ld_ref y8_ty49 rfl up_h (nle rfl)) (by simp only [pS, Value.cells, Nat.reduceAdd, swE, tkm] <;> rfl)) rfl ?_
    refine dr (ro_eq (ro_len_row up_h rfl y8_sl49.1) (by simp only [lnS] <;> rfl)) rfl ?_
    refine dr (ro_gtr up_h ev_c) rfl <| dr (ro_call (evL_cons up_h (evL_cons ev_c evL_nil)) rfl (yUnless_ok _ _) qhcf94) rfl <| dr (ro_move (u4 rfl (u8 rfl s8_13))) rfl <| dr (ro_call (evL_cons up_h (evL_cons ev_c evL_nil)) rfl (yUnless_ok _ _) qhcf94) rfl <| dr (ro_eq (ro_fld_ref qfl91_2 rfl (u2 rfl (u4 rfl (u8 rfl s5_13)))) (by simp only [pS, Value.cells, Nat.reduceAdd, swE, tkm] <;> rfl)) rfl ?_
    refine dr (ro_eq (ro_ld_ref y8_ty49 rfl up_h (nle rfl)) (by simp only [pS, Value.cells, Nat.reduceAdd, swE, tkm] <;> rfl)) rfl ?_
    refine dr (ro_call (evL_cons up_h (evL_cons ev_f evL_nil)) rfl (containsA_ok _ (by omega)) y8_hcf185) rfl ?_
    refine dr (ro_not up_h) rfl <| dr (ro_call (evL_cons up_h (evL_cons ev_c evL_nil)) rfl (yUnless_ok _ _) qhcf94) rfl <| dr (ro_move (up_m rfl (u2 rfl (u16 rfl s9_13)))) rfl <| dr (ro_not up_h) rfl <| dr (ro_call (evL_cons up_h (evL_cons ev_c evL_nil)) rfl (yUnless_ok _ _) qhcf94) rfl <| dr (ro_lit y8_sl185 (evP_cons (u2 rfl (u16 rfl up_h)) (evP_cons (up_m rfl (u2 rfl (u4 rfl (u8 rfl up_h)))) (evP_cons (u2 rfl (u8 rfl up_h)) (evP_cons (u8 rfl up_h) (evP_cons (up_m rfl (u2 rfl up_h)) (evP_cons up_h evP_nil)))))) rfl rfl rfl rfl) rfl <| dr (ro_call (evL_cons up_h evL_nil) rfl (yFirst_ok [_, _, _, _, _, _] (by simp)) qhcf77) rfl ?_
    refine dr (ro_assign up_h) rfl <| ds_nil <| ae1 up_h ?_; clear s5_13 s7_13 s8_13 s9_13; intro e_14 s4_14
    refine then_n <| aw_ret <| ret1 (.inr rfl) (by kernel_rfl) (resV_tmp s4_14) (.ro _ rfl) ?_
    clear s4_14 mo0_7 ml_7
    (rw [← swi_first hj])
set_option maxRecDepth 100000 in
set_option maxHeartbeats 1000000 in
theorem look3_ok (l : Lin) (hl : Sho l) (hj : l.js.length = l.bs.length + 1) (i : Int) (hi : 0 ≤ i ∧ i < l.ss.length) : FnOk Try.prog 178 [mA i, .ref (lnC l)] (fun q => q = mA (swiE l i.toNat)) := by
  refine fnOk_of (fn := Try.f178) 7 (by kernel_rfl) rfl (by kernel_rfl) (Nat.le_of_ble_eq_true rfl) ?_
  intro e_0 m_0 hA hm_0
  have s0_0 : evA e_0 (.tmp 0) = _ := hA 0 _ rfl
  have s1_0 : evA e_0 (.tmp 1) = _ := hA 1 _ rfl
  have ml_0 : m_0.length = 0 := by rw [hm_0]; rfl
  clear hA hm_0
  refine aw_seq <| at_ <| ar (ro_assign ev_c) rfl <| ae2 (up_m rfl s0_0) (up_m rfl s1_0) ?_; clear s0_0 s1_0; intro e_1 s0_1 s1_1
  refine then_n <| aw_seq <| at_ <| ar (ro_eq (ro_ld_ref y8_ty26 rfl s1_1 (nle rfl)) (by simp only [pS, Value.cells, Nat.reduceAdd] <;> rfl)) rfl ?_
  refine ar (ro_move (up_m rfl s0_1)) rfl <| ar (ro_call (evL_cons (up_m rfl up_h) (evL_cons up_h evL_nil)) rfl (ySwitch_ok l hl hj i hi) y8_hcf179) rfl <| ar (ro_assign up_h) rfl <| ae1 up_h ?_; clear s0_1 s1_1; intro e_2 s3_2
  refine then_n <| aw_ret <| ret1 (.inr rfl) (by kernel_rfl) (resV_tmp s3_2) (.ro _ rfl) ?_
  clear s3_2  ml_0
  rfl
/-- What is wrong with a line. -/
theorem yCheckLine_ok (l : Lin) (hl : Sho l) : FnOk Try.prog 133 [lnA l] (fun q => q = .tuple [.agg [mA (linM l).1.1, mA (linM l).1.2], mA (linM l).2]) :=
  checkLine_sw l hl fun hj i h0 h1 => look3_ok l hl hj i ⟨h0, h1⟩
end Go.Proofs.Ytonjcljnpcmenaa

/- Contracts of chapter 1: the document's error of a switch. No conditions on a program. -/
namespace Go.Proofs.Ytonjcljnpcmenaa
open Go Go.RowKit Go.Proofs
set_option linter.unusedSimpArgs false
set_option linter.unusedVariables false
theorem y9_sl23 : SlIs Try.prog 23 87 2 16 (.agg #[.int .i64 0, .int .i64 0]) := ⟨by kernel_rfl, by kernel_rfl, by kernel_rfl⟩
theorem y9_sl24 : SlIs Try.prog 24 91 3 48 (.agg #[.string ByteArray.empty, .int .i64 0, .slice none 0 0]) := ⟨by kernel_rfl, by kernel_rfl, by kernel_rfl⟩
theorem y9_sl49 : SlIs Try.prog 49 3 1 8 (.int .i64 0) := ⟨by kernel_rfl, by kernel_rfl, by kernel_rfl⟩
theorem y9_ty23 : TyIs Try.prog 23 false 1 := ⟨by kernel_rfl, by kernel_rfl⟩
theorem y9_ty24 : TyIs Try.prog 24 false 1 := ⟨by kernel_rfl, by kernel_rfl⟩
theorem y9_ty3 : TyIs Try.prog 3 false 1 := ⟨by kernel_rfl, by kernel_rfl⟩
theorem y9_ty49 : TyIs Try.prog 49 false 1 := ⟨by kernel_rfl, by kernel_rfl⟩
theorem y9_ty9 : TyIs Try.prog 9 false 1 := ⟨by kernel_rfl, by kernel_rfl⟩
theorem y9_ty91 : TyIs Try.prog 91 true 3 := ⟨by kernel_rfl, by kernel_rfl⟩

theorem take_getD {α : Type} [Inhabited α] {l : List α} {j k : Nat} (h : j < k) : (l.take k).getD j default = l.getD j default := by simp [List.getD_eq_getElem?_getD, h]
theorem any_take_hit {α : Type} [Inhabited α] {p : α → Bool} {l : List α} {j k : Nat} (hj : j < k) (hk : k ≤ l.length) (h : p (l.getD j default) = true) : (l.take k).any p = true := by
  rw [List.any_eq_true]
  have hl : j < (l.take k).length := by rw [List.length_take]; omega
  refine ⟨(l.take k)[j], List.getElem_mem hl, ?_⟩
  rw [← take_getD (l := l) hj, List.getD_eq_getElem?_getD, List.getElem?_eq_getElem hl] at h
  exact h
theorem any_take_miss {α : Type} [Inhabited α] {p : α → Bool} {l : List α} {k : Nat} (h : ∀ j : Nat, j < k → p (l.getD j default) = false) : (l.take k).any p = false := by
  rw [List.any_eq_false]
  intro x hx
  obtain ⟨j, hj, rfl⟩ := List.getElem_of_mem hx
  have hjk : j < k := by rw [List.length_take] at hj; omega
  have := h j hjk
  rw [← take_getD (l := l) hjk, List.getD_eq_getElem?_getD, List.getElem?_eq_getElem hj] at this
  simpa using this
theorem any_hit {α : Type} [Inhabited α] {p : α → Bool} {l : List α} {j : Nat} (hj : j < l.length) (h : p (l.getD j default) = true) : l.any p = true := by
  have := any_take_hit (k := l.length) hj (Nat.le_refl _) h
  rwa [List.take_length] at this
theorem any_miss {α : Type} [Inhabited α] {p : α → Bool} {l : List α} (h : ∀ j : Nat, j < l.length → p (l.getD j default) = false) : l.any p = false := by
  have := any_take_miss (k := l.length) h
  rwa [List.take_length] at this
set_option maxRecDepth 100000 in
set_option maxHeartbeats 4000000 in
theorem rSwitch_ok (l : Lin) (hl : Sho l) (i : Int) (hi : 0 ≤ i ∧ i < l.ss.length) : FnOk Try.prog 129 [lnA l, mA i] (fun q => q = mA (swiE l i.toNat)) := by
  obtain ⟨h1, h2, h3, h4, h5⟩ := id hl
  have hs := hl.at i.toNat
  refine fnOk_of (fn := Try.f129) 92 (by kernel_rfl) rfl (by kernel_rfl) (Nat.le_of_ble_eq_true rfl) ?_
  intro e_0 m_0 hA hm_0
  have s0_0 : evA e_0 (.tmp 0) = _ := hA 0 _ rfl
  have s1_0 : evA e_0 (.tmp 1) = _ := hA 1 _ rfl
  have ml_0 : m_0.length = 0 := by rw [hm_0]; rfl
  clear hA hm_0
  refine aw_seq <| at_ <| al_stm (st_box s0_0 rfl ml_0) trivial rfl (fun m_1 hm_1 => ?_)
  have mo0_1 := m_push hm_1 ml_0
  have ml_1 := m_push_l hm_1 ml_0
  have ml_1 : _ = 1 := ml_1
  clear hm_1
  refine ar (ro_assign ev_c) rfl <| ae2 (u2 rfl s1_0) (up_m rfl up_h) ?_; clear s0_0 s1_0; intro e_2 s1_2 s2_2
  refine then_n <| aw_seq <| at_ <| ar (ro_fld_ptr qfl26_3 rfl s2_2) rfl <| ar (ro_eq (ro_ld_ptr y9_ty24 rfl mo0_1 up_h (nle rfl)) (by simp only [pS, Value.cells, Nat.reduceAdd, swE] <;> rfl)) rfl ?_
  refine ar (ro_move (u2 rfl s1_2)) rfl <| ar (ro_eq (ro_ix y9_sl24 (up_m rfl up_h) up_h (by omega) (by first | (refine idx_map ?_; first | omega | (simp only [lnS]; omega)) | (refine idx_mapI ?_; first | omega | (simp only [lnS]; omega)) | (refine idx_mapN ?_; first | omega | (simp only [lnS]; omega)) | rfl)) (by simp only [pS, Value.cells, Nat.reduceAdd, swE] <;> rfl)) rfl ?_
  refine ar (ro_eq (ro_ld_ref y9_ty91 rfl up_h (nle rfl)) (by simp only [pS, Value.cells, Nat.reduceAdd, swE] <;> rfl)) rfl ?_
  refine al_stm (st_alloc qaz91 rfl ml_1) trivial rfl (fun m_3 hm_3 => ?_)
  have mo1_3 := m_push hm_3 ml_1
  simp only [pS, Value.cells, Nat.reduceAdd, swE] at mo1_3
  have mo0_3 := m_push_o hm_3 mo0_1
  have ml_3 := m_push_l hm_3 ml_1
  have ml_3 : _ = 2 := ml_3
  clear hm_3 mo0_1
  refine al_stm (st_store up_h (up_m rfl up_h) rfl rfl mo1_3 qsz91 rfl (nle rfl)) trivial rfl (fun m_4 hm_4 => ?_)
  have mo1_4 := m_set hm_4 mo1_3
  simp only [pS, Value.cells, Nat.reduceAdd, swE] at mo1_4
  have mo0_4 := m_set_o hm_4 mo0_3 (by decide)
  have ml_4 := m_set_l hm_4 ml_3
  clear hm_4 mo1_3 mo0_3
  refine ae3 (up_n (u2 rfl (u4 rfl s1_2))) (up_n (u2 rfl (u4 rfl s2_2))) (up_n up_h) ?_; clear s1_2 s2_2; intro e_5 s1_5 s2_5 s5_5
  refine then_n <| aw_seq <| aw_seq <| at_ <| ar (ro_fld_ptr qfl91_0 rfl s5_5) rfl <| ar (ro_eq (ro_ld_ptr y9_ty9 rfl mo1_4 up_h (nle rfl)) (by simp only [pS, Value.cells, Nat.reduceAdd, swE] <;> rfl)) rfl ?_
  refine ar (ro_call (evL_cons up_h evL_nil) rfl (bIsName_ok _ (by omega)) qhcf127) rfl ?_
  refine ar (ro_not up_h) rfl <| ae4 (u4 rfl s1_5) (u4 rfl s2_5) (u4 rfl s5_5) up_h ?_; clear s1_5 s2_5 s5_5; intro e_6 s1_6 s2_6 s5_6 s18_6
  refine then_n <| aw_case s18_6 (fun hq_7 => ?_) (fun hq_7 => ?_)
  ·replace hq_7 := bt' hq_7
   refine aw_seq <| at_ <| ar (ro_assign ev_c) rfl <| ae1 up_h ?_; clear s18_6 s1_6 s2_6 s5_6; intro e_8 s4_8
   refine then_n <| aw_ret <| then_r <| ret1 (.inr rfl) (by kernel_rfl) (resV_tmp s4_8) (.ro _ rfl) ?_
   clear s4_8 mo1_4 mo0_4 ml_4
   (have e : isNameB (l.ss.getD i.toNat default).nam = false := (by assumption); unfold swiE; rw [e]; rfl)
  replace hq_7 := bf' hq_7
  refine aw_skip <| then_n <| aw_seq <| aw_seq <| at_ <| ar (ro_assign ev_c) rfl <| ae4 (up_m rfl s1_6) (up_m rfl s2_6) (up_m rfl s5_6) up_h ?_; clear s18_6 s1_6 s2_6 s5_6; intro e_9 s1_9 s2_9 s5_9 s6_9
  refine then_n <| aw_block <| aw_loop (S := Int) (fun k e mem => (evA e (.tmp 6) = .v (.int .i64 k)) ∧ (evA e (.tmp 1) = evA e_9 (.tmp 1)) ∧ (evA e (.tmp 2) = evA e_9 (.tmp 2)) ∧ (evA e (.tmp 5) = evA e_9 (.tmp 5)) ∧ (mem[1]? = m_4[1]?) ∧ (mem[0]? = m_4[0]?) ∧ (mem.length = 2) ∧ ((0 ≤ k ∧ k ≤ i ∧ ∀ j : Nat, j < k.toNat → ((l.ss.getD j default).nam.toList == (l.ss.getD i.toNat default).nam.toList) = false))) (fun k => (i - k).toNat) _ ⟨s6_9, rfl, rfl, rfl, rfl, rfl, ml_4, ?_⟩ ?_
  · (exact ⟨by omega, by omega, fun j h => absurd h (by omega)⟩)
  · rintro k e_10 m_10 ⟨s6_10, k1_10, k2_10, k5_10, mk1_10, mk0_10, ml_10, hinv⟩
    have s1_10 := k1_10.trans s1_9
    have s2_10 := k2_10.trans s2_9
    have s5_10 := k5_10.trans s5_9
    have mo1_10 := mk1_10.trans mo1_4
    have mo0_10 := mk0_10.trans mo0_4
    (obtain ⟨p1, p2, p3⟩ := hinv)
    refine aw_seq <| aw_seq <| at_ <| ar (ro_move s6_10) rfl <| ar (ro_move (up_m rfl s1_10)) rfl <| ar (ro_lss (up_m rfl up_h) up_h) rfl <| ae5 (up_m rfl (u2 rfl s1_10)) (up_m rfl (u2 rfl s2_10)) (up_m rfl (u2 rfl s5_10)) (up_m rfl (u2 rfl s6_10)) up_h ?_; clear s1_10 s2_10 s5_10 s6_10; intro e_11 s1_11 s2_11 s5_11 s6_11 s21_11
    refine then_n <| aw_case s21_11 (fun hq_12 => ?_) (fun hq_12 => ?_)
    ·replace hq_12 := bt hq_12
     refine aw_skip <| then_n <| aw_seq <| aw_block <| aw_seq <| aw_draw 9 (by kernel_rfl) (by kernel_rfl) (by kernel_rfl) (by kernel_rfl) ?_
     refine dr (ro_fld_ptr qfl26_3 rfl s2_11) rfl <| dr (ro_eq (ro_ld_ptr y9_ty24 rfl mo0_10 up_h (nle rfl)) (by simp only [pS, Value.cells, Nat.reduceAdd, swE] <;> rfl)) rfl ?_
     refine dr (ro_move (u2 rfl s6_11)) rfl <| dr (ro_eq (ro_ix y9_sl24 (up_m rfl up_h) up_h (by omega) (by first | (refine idx_map ?_; first | omega | (simp only [lnS]; omega)) | (refine idx_mapI ?_; first | omega | (simp only [lnS]; omega)) | (refine idx_mapN ?_; first | omega | (simp only [lnS]; omega)) | rfl)) (by simp only [pS, Value.cells, Nat.reduceAdd, swE] <;> rfl)) rfl ?_
     refine dr (ro_eq (ro_fld_ref qfl91_0 rfl up_h) (by simp only [pS, Value.cells, Nat.reduceAdd, swE] <;> rfl)) rfl ?_
     refine dr (ro_eq (ro_ld_ref y9_ty9 rfl up_h (nle rfl)) (by simp only [pS, Value.cells, Nat.reduceAdd, swE] <;> rfl)) rfl ?_
     refine dr (ro_fld_ptr qfl91_0 rfl (u2 rfl (u4 rfl s5_11))) rfl <| dr (ro_eq (ro_ld_ptr y9_ty9 rfl mo1_10 up_h (nle rfl)) (by simp only [pS, Value.cells, Nat.reduceAdd, swE] <;> rfl)) rfl ?_
     refine dr (ro_seql (u2 rfl up_h) up_h) rfl <| ds_nil <| ae5 (up_m rfl (u8 rfl s1_11)) (up_m rfl (u8 rfl s2_11)) (up_m rfl (u8 rfl s5_11)) (up_m rfl (u8 rfl s6_11)) up_h ?_; clear s1_11 s21_11 s2_11 s5_11 s6_11; intro e_13 s1_13 s2_13 s5_13 s6_13 s32_13
     refine then_n <| aw_case s32_13 (fun hq_14 => ?_) (fun hq_14 => ?_)
     ·skip
      refine aw_seq <| at_ <| ar (ro_assign ev_c) rfl <| ae1 up_h ?_; clear s1_13 s2_13 s32_13 s5_13 s6_13; intro e_15 s4_15
      refine then_n <| aw_ret <| block_r <| then_r <| then_r <| block_r <| then_r <| ret1 (.inr rfl) (by kernel_rfl) (resV_tmp s4_15) (.ro _ rfl) ?_
      clear s4_15 mo1_10 mo0_10 ml_10
      (have e : isNameB (l.ss.getD i.toNat default).nam = true := (by assumption); have e2 := any_take_hit (l := l.ss) (k := i.toNat) (p := fun o => o.nam.toList == (l.ss.getD i.toNat default).nam.toList) (j := k.toNat) (by omega) (by omega) (by assumption); unfold swiE; rw [e, e2]; rfl)
     refine aw_skip <| block_n <| then_n <| at_ <| ar (ro_move s6_13) rfl ?_
     (refine ar (ro_add' up_h ev_c ?_) rfl ?_; · (unfold In64; omega))
     refine ar (ro_assign up_h) rfl <| ae4 (up_m rfl (u2 rfl s1_13)) (up_m rfl (u2 rfl s2_13)) (up_m rfl (u2 rfl s5_13)) up_h ?_; clear s1_13 s2_13 s32_13 s5_13 s6_13; intro e_16 s1_16 s2_16 s5_16 s6_16
     refine then_n <| ⟨_, ⟨s6_16, (s1_16.trans s1_9.symm), (s2_16.trans s2_9.symm), (s5_16.trans s5_9.symm), (mo1_10.trans mo1_4.symm), (mo0_10.trans mo0_4.symm), ml_10, ?_⟩, ?_⟩
     · (refine ⟨by omega, by omega, fun j hj => ?_⟩; by_cases hji : j < k.toNat; (exact p3 j hji); (rw [show j = k.toNat by omega]; assumption))
     · ((try dsimp only); omega)
    replace hq_12 := bf hq_12
    refine aw_exit <| then_x <| then_x <| block_hit <| then_n <| aw_seq <| aw_seq <| at_ <| ar (ro_fld_ptr qfl91_2 rfl s5_11) rfl <| ar (ro_eq (ro_ld_ptr y9_ty49 rfl mo1_10 up_h (nle rfl)) (by simp only [pS, Value.cells, Nat.reduceAdd, swE] <;> rfl)) rfl ?_
    refine ar (ro_eq (ro_len_row up_h rfl y9_sl49.1) (by simp only [lnS] <;> rfl)) rfl ?_
    refine ar (ro_eql up_h ev_c) rfl ?_
    refine ae4 (u4 rfl s1_11) (u4 rfl s2_11) (u4 rfl s5_11) up_h ?_; clear s1_11 s21_11 s2_11 s5_11 s6_11; intro e_17 s1_17 s2_17 s5_17 s36_17
    refine then_n <| aw_case s36_17 (fun hq_18 => ?_) (fun hq_18 => ?_)
    ·replace hq_18 := bt hq_18
     refine aw_seq <| at_ <| ar (ro_assign ev_c) rfl <| ae1 up_h ?_; clear s1_17 s2_17 s36_17 s5_17; intro e_19 s4_19
     refine then_n <| aw_ret <| then_r <| ret1 (.inr rfl) (by kernel_rfl) (resV_tmp s4_19) (.ro _ rfl) ?_
     clear s4_19 mo1_10 mo0_10 ml_10
     (have e : isNameB (l.ss.getD i.toNat default).nam = true := (by assumption); have e2 := any_take_miss (l := l.ss) (k := i.toNat) (p := fun o => o.nam.toList == (l.ss.getD i.toNat default).nam.toList) (fun j hj => p3 j (by omega)); unfold swiE; rw [e, e2, if_pos (show (l.ss.getD i.toNat default).acr.length = 0 by omega)]; rfl)
    replace hq_18 := bf hq_18
    refine aw_skip <| then_n <| aw_seq <| aw_seq <| at_ <| ar (ro_fld_ptr qfl91_1 rfl s5_17) rfl <| ar (ro_eq (ro_ld_ptr y9_ty3 rfl mo1_10 up_h (nle rfl)) (by simp only [pS, Value.cells, Nat.reduceAdd, swE] <;> rfl)) rfl ?_
    refine ar (ro_fld_ptr qfl26_2 rfl (u2 rfl s2_17)) rfl <| ar (ro_eq (ro_ld_ptr y9_ty23 rfl mo0_10 up_h (nle rfl)) (by simp only [pS, Value.cells, Nat.reduceAdd, swE] <;> rfl)) rfl ?_
    refine ar (ro_eq (ro_len_row up_h rfl y9_sl23.1) (by simp only [lnS] <;> rfl)) rfl ?_
    refine ar (ro_fld_ptr qfl91_2 rfl (up_m rfl (u4 rfl s5_17))) rfl <| ar (ro_eq (ro_ld_ptr y9_ty49 rfl mo1_10 up_h (nle rfl)) (by simp only [pS, Value.cells, Nat.reduceAdd, swE] <;> rfl)) rfl ?_
    refine ar (ro_eq (ro_len_row up_h rfl y9_sl49.1) (by simp only [lnS] <;> rfl)) rfl ?_
    (refine ar (ro_sub' (up_m rfl (u2 rfl up_h)) up_h ?_) rfl ?_; · (unfold In64; omega))
    refine ar (ro_call (evL_cons (up_m rfl (u2 rfl (u4 rfl up_h))) (evL_cons ev_c (evL_cons up_h evL_nil))) rfl (bWithin_ok _ _ _) qhcf30) rfl <| ar (ro_not up_h) rfl <| ae4 (up_m rfl (u2 rfl (u8 rfl s1_17))) (up_m rfl (u2 rfl (u8 rfl s2_17))) (up_m rfl (u2 rfl (u8 rfl s5_17))) up_h ?_; clear s1_17 s2_17 s36_17 s5_17; intro e_20 s1_20 s2_20 s5_20 s47_20
    refine then_n <| aw_case s47_20 (fun hq_21 => ?_) (fun hq_21 => ?_)
    ·replace hq_21 := bt' hq_21
     refine aw_seq <| at_ <| ar (ro_assign ev_c) rfl <| ae1 up_h ?_; clear s1_20 s2_20 s47_20 s5_20; intro e_22 s4_22
     refine then_n <| aw_ret <| then_r <| ret1 (.inr rfl) (by kernel_rfl) (resV_tmp s4_22) (.ro _ rfl) ?_
     clear s4_22 mo1_10 mo0_10 ml_10
     (have e : isNameB (l.ss.getD i.toNat default).nam = true := (by assumption); have e2 := any_take_miss (l := l.ss) (k := i.toNat) (p := fun o => o.nam.toList == (l.ss.getD i.toNat default).nam.toList) (fun j hj => p3 j (by omega)); unfold swiE; rw [e, e2, if_neg (show ¬ (l.ss.getD i.toNat default).acr.length = 0 by omega), ‹withinB _ _ _ = false›]; rfl)
    replace hq_21 := bf' hq_21
    refine aw_skip <| then_n <| aw_seq <| aw_seq <| at_ <| ar (ro_assign ev_c) rfl <| ae4 (up_m rfl s1_20) (up_m rfl s2_20) (up_m rfl s5_20) up_h ?_; clear s1_20 s2_20 s47_20 s5_20; intro e_23 s1_23 s2_23 s5_23 s7_23
    refine then_n <| aw_block <| aw_loop (S := Int) (fun k2 e mem => (evA e (.tmp 7) = .v (.int .i64 k2)) ∧ (evA e (.tmp 1) = evA e_23 (.tmp 1)) ∧ (evA e (.tmp 2) = evA e_23 (.tmp 2)) ∧ (evA e (.tmp 5) = evA e_23 (.tmp 5)) ∧ (mem[1]? = m_10[1]?) ∧ (mem[0]? = m_10[0]?) ∧ (mem.length = 2) ∧ ((0 ≤ k2 ∧ k2 ≤ (l.ss.getD i.toNat default).acr.length ∧ ∀ j : Nat, j < k2.toNat → (!smaB ((l.ss.getD i.toNat default).acr.getD j default) 20000) = false))) (fun k2 => ((l.ss.getD i.toNat default).acr.length - k2).toNat) _ ⟨s7_23, rfl, rfl, rfl, rfl, rfl, ml_10, ?_⟩ ?_
    · (exact ⟨by omega, by omega, fun j h => absurd h (by omega)⟩)
    · rintro k2 e_24 m_24 ⟨s7_24, k1_24, k2_24, k5_24, mk1_24, mk0_24, ml_24, hinv⟩
      have s1_24 := k1_24.trans s1_23
      have s2_24 := k2_24.trans s2_23
      have s5_24 := k5_24.trans s5_23
      have mo1_24 := mk1_24.trans mo1_10
      have mo0_24 := mk0_24.trans mo0_10
      (obtain ⟨q1, q2, q3⟩ := hinv)
      refine aw_seq <| aw_seq <| at_ <| ar (ro_move s7_24) rfl <| ar (ro_fld_ptr qfl91_2 rfl (up_m rfl s5_24)) rfl <| ar (ro_eq (ro_ld_ptr y9_ty49 rfl mo1_24 up_h (nle rfl)) (by simp only [pS, Value.cells, Nat.reduceAdd, swE] <;> rfl)) rfl ?_
      refine ar (ro_eq (ro_len_row up_h rfl y9_sl49.1) (by simp only [lnS] <;> rfl)) rfl ?_
      refine ar (ro_lss (up_m rfl (u2 rfl up_h)) up_h) rfl <| ae5 (up_m rfl (u4 rfl s1_24)) (up_m rfl (u4 rfl s2_24)) (up_m rfl (u4 rfl s5_24)) (up_m rfl (u4 rfl s7_24)) up_h ?_; clear s1_24 s2_24 s5_24 s7_24; intro e_25 s1_25 s2_25 s5_25 s7_25 s52_25
      refine then_n <| aw_case s52_25 (fun hq_26 => ?_) (fun hq_26 => ?_)
      ·replace hq_26 := bt hq_26
       refine aw_skip <| then_n <| aw_seq <| aw_block <| aw_seq <| at_ <| ar (ro_fld_ptr qfl91_2 rfl s5_25) rfl <| ar (ro_eq (ro_ld_ptr y9_ty49 rfl mo1_24 up_h (nle rfl)) (by simp only [pS, Value.cells, Nat.reduceAdd, swE] <;> rfl)) rfl ?_
       refine ar (ro_move (u2 rfl s7_25)) rfl <| ar (ro_eq (ro_ix y9_sl49 (up_m rfl up_h) up_h (by omega) (by first | (refine idx_map ?_; first | omega | (simp only [lnS]; omega)) | (refine idx_mapI ?_; first | omega | (simp only [lnS]; omega)) | (refine idx_mapN ?_; first | omega | (simp only [lnS]; omega)) | rfl)) (by simp only [pS, Value.cells, Nat.reduceAdd, swE] <;> rfl)) rfl ?_
       refine ar (ro_eq (ro_ld_ref y9_ty3 rfl up_h (nle rfl)) (by simp only [pS, Value.cells, Nat.reduceAdd, swE] <;> rfl)) rfl ?_
       refine ar (ro_call (evL_cons up_h (evL_cons ev_c evL_nil)) rfl (size_ok _ _ (by decide)) qhcf128) rfl ?_
       refine ar (ro_not up_h) rfl <| ae5 (up_m rfl (u2 rfl (u4 rfl s1_25))) (up_m rfl (u2 rfl (u4 rfl s2_25))) (up_m rfl (u2 rfl (u4 rfl s5_25))) (up_m rfl (u2 rfl (u4 rfl s7_25))) up_h ?_; clear s1_25 s2_25 s52_25 s5_25 s7_25; intro e_27 s1_27 s2_27 s5_27 s7_27 s61_27
       refine then_n <| aw_case s61_27 (fun hq_28 => ?_) (fun hq_28 => ?_)
       ·replace hq_28 := bt' hq_28
        refine aw_seq <| at_ <| ar (ro_assign ev_c) rfl <| ae1 up_h ?_; clear s1_27 s2_27 s5_27 s61_27 s7_27; intro e_29 s4_29
        refine then_n <| aw_ret <| block_r <| then_r <| then_r <| block_r <| then_r <| ret1 (.inr rfl) (by kernel_rfl) (resV_tmp s4_29) (.ro _ rfl) ?_
        clear s4_29 mo1_24 mo0_24 ml_24
        (have e : isNameB (l.ss.getD i.toNat default).nam = true := (by assumption); have e2 := any_take_miss (l := l.ss) (k := i.toNat) (p := fun o => o.nam.toList == (l.ss.getD i.toNat default).nam.toList) (fun j hj => p3 j (by omega)); have e4 := any_hit (p := fun n => !smaB n 20000) (l := (l.ss.getD i.toNat default).acr) (j := k2.toNat) (by omega) (by rw [‹smaB _ _ = false›]; rfl); unfold swiE; rw [e, e2, if_neg (show ¬ (l.ss.getD i.toNat default).acr.length = 0 by omega), ‹withinB _ _ _ = true›, e4]; rfl)
       replace hq_28 := bf' hq_28
       refine aw_skip <| block_n <| then_n <| at_ <| ar (ro_move s7_27) rfl ?_
       (refine ar (ro_add' up_h ev_c ?_) rfl ?_; · (unfold In64; omega))
       refine ar (ro_assign up_h) rfl <| ae4 (up_m rfl (u2 rfl s1_27)) (up_m rfl (u2 rfl s2_27)) (up_m rfl (u2 rfl s5_27)) up_h ?_; clear s1_27 s2_27 s5_27 s61_27 s7_27; intro e_30 s1_30 s2_30 s5_30 s7_30
       refine then_n <| ⟨_, ⟨s7_30, (s1_30.trans s1_23.symm), (s2_30.trans s2_23.symm), (s5_30.trans s5_23.symm), (mo1_24.trans mo1_10.symm), (mo0_24.trans mo0_10.symm), ml_24, ?_⟩, ?_⟩
       · (refine ⟨by omega, by omega, fun j hj => ?_⟩; by_cases hji : j < k2.toNat; (exact q3 j hji); (rw [show j = k2.toNat by omega, ‹smaB _ _ = true›]; rfl))
       · ((try dsimp only); omega)
      replace hq_26 := bf hq_26
      refine aw_exit <| then_x <| then_x <| block_hit <| then_n <| aw_seq <| aw_seq <| at_ <| ar (ro_assign ev_c) rfl <| ae4 (up_m rfl s1_25) (up_m rfl s2_25) (up_m rfl s5_25) up_h ?_; clear s1_25 s2_25 s52_25 s5_25 s7_25; intro e_31 s1_31 s2_31 s5_31 s8_31
      refine then_n <| aw_block <| aw_loop (S := Int) (fun k3 e mem => (evA e (.tmp 8) = .v (.int .i64 k3)) ∧ (evA e (.tmp 1) = evA e_31 (.tmp 1)) ∧ (evA e (.tmp 2) = evA e_31 (.tmp 2)) ∧ (evA e (.tmp 5) = evA e_31 (.tmp 5)) ∧ (mem[1]? = m_24[1]?) ∧ (mem[0]? = m_24[0]?) ∧ (∃ n, mem.length = n ∧ 2 ≤ n) ∧ ((0 ≤ k3 ∧ k3 ≤ i ∧ ∀ j : Nat, j < k3.toNat → claB (l.ss.getD i.toNat default) (l.ss.getD j default) = false))) (fun k3 => (i - k3).toNat) _ ⟨s8_31, rfl, rfl, rfl, rfl, rfl, ⟨_, ml_24, Nat.le_refl _⟩, ?_⟩ ?_
      · (exact ⟨by omega, by omega, fun j h => absurd h (by omega)⟩)
      · rintro k3 e_32 m_32 ⟨s8_32, k1_32, k2_32, k5_32, mk1_32, mk0_32, ⟨n_32, ml_32, hn_32⟩, hinv⟩
        have s1_32 := k1_32.trans s1_31
        have s2_32 := k2_32.trans s2_31
        have s5_32 := k5_32.trans s5_31
        have mo1_32 := mk1_32.trans mo1_24
        have mo0_32 := mk0_32.trans mo0_24
        (obtain ⟨r1, r2, r3⟩ := hinv; have hso := hl.at k3.toNat)
        refine aw_seq <| aw_seq <| at_ <| ar (ro_move s8_32) rfl <| ar (ro_move (up_m rfl s1_32)) rfl <| ar (ro_lss (up_m rfl up_h) up_h) rfl <| ae5 (up_m rfl (u2 rfl s1_32)) (up_m rfl (u2 rfl s2_32)) (up_m rfl (u2 rfl s5_32)) (up_m rfl (u2 rfl s8_32)) up_h ?_; clear s1_32 s2_32 s5_32 s8_32; intro e_33 s1_33 s2_33 s5_33 s8_33 s64_33
        refine then_n <| aw_case s64_33 (fun hq_34 => ?_) (fun hq_34 => ?_)
        ·replace hq_34 := bt hq_34
         refine aw_skip <| then_n <| aw_seq <| aw_block <| aw_seq <| at_ <| ar (ro_fld_ptr qfl26_3 rfl s2_33) rfl <| ar (ro_eq (ro_ld_ptr y9_ty24 rfl mo0_32 up_h (nle rfl)) (by simp only [pS, Value.cells, Nat.reduceAdd, swE] <;> rfl)) rfl ?_
         refine ar (ro_move (u2 rfl s8_33)) rfl <| ar (ro_eq (ro_ix y9_sl24 (up_m rfl up_h) up_h (by omega) (by first | (refine idx_map ?_; first | omega | (simp only [lnS]; omega)) | (refine idx_mapI ?_; first | omega | (simp only [lnS]; omega)) | (refine idx_mapN ?_; first | omega | (simp only [lnS]; omega)) | rfl)) (by simp only [pS, Value.cells, Nat.reduceAdd, swE] <;> rfl)) rfl ?_
         refine ar (ro_eq (ro_ld_ref y9_ty91 rfl up_h (nle rfl)) (by simp only [pS, Value.cells, Nat.reduceAdd, swE] <;> rfl)) rfl ?_
         refine al_stm (st_alloc qaz91 rfl ml_32) trivial rfl (fun m_35 hm_35 => ?_)
         have mon_32_35 := m_push hm_35 ml_32
         simp only [pS, Value.cells, Nat.reduceAdd, swE] at mon_32_35
         have mo1_35 := m_push_o hm_35 mo1_32
         have mo0_35 := m_push_o hm_35 mo0_32
         have ml_35 := m_push_l hm_35 ml_32
         clear hm_35 mo1_32 mo0_32
         refine al_stm (st_store up_h (up_m rfl up_h) rfl rfl mon_32_35 qsz91 rfl (nle rfl)) trivial rfl (fun m_36 hm_36 => ?_)
         have mon_32_36 := m_set hm_36 mon_32_35
         simp only [pS, Value.cells, Nat.reduceAdd, swE] at mon_32_36
         have mo1_36 := m_set_o hm_36 mo1_35 (by omega)
         have mo0_36 := m_set_o hm_36 mo0_35 (by omega)
         have ml_36 := m_set_l hm_36 ml_35
         clear hm_36 mon_32_35 mo1_35 mo0_35
         refine ae5 (up_n (u2 rfl (u4 rfl s1_33))) (up_n (u2 rfl (u4 rfl s2_33))) (up_n (u2 rfl (u4 rfl s5_33))) (up_n (u2 rfl (u4 rfl s8_33))) (up_n up_h) ?_; clear s1_33 s2_33 s5_33 s64_33 s8_33; intro e_37 s1_37 s2_37 s5_37 s8_37 s9_37
         refine then_n <| aw_seq <| aw_cut (fun e mem => (evA e (.tmp 91) = .v (.bool (claB (l.ss.getD i.toNat default) (l.ss.getD k3.toNat default)))) ∧ (evA e (.tmp 1) = evA e_37 (.tmp 1)) ∧ (evA e (.tmp 2) = evA e_37 (.tmp 2)) ∧ (evA e (.tmp 5) = evA e_37 (.tmp 5)) ∧ (evA e (.tmp 8) = evA e_37 (.tmp 8)) ∧ m_36 = mem) ?_ ?_
         ·
           refine at_ <| ar (ro_fld_ptr qfl91_1 rfl s5_37) rfl <| ar (ro_eq (ro_ld_ptr y9_ty3 rfl mo1_36 up_h (nle rfl)) (by simp only [pS, Value.cells, Nat.reduceAdd, swE] <;> rfl)) rfl ?_
           refine ar (ro_fld_ptr qfl91_1 rfl (u2 rfl s9_37)) rfl <| ar (ro_eq (ro_ld_ptr y9_ty3 rfl mon_32_36 up_h (nle rfl)) (by simp only [pS, Value.cells, Nat.reduceAdd, swE] <;> rfl)) rfl ?_
           refine ar (ro_fld_ptr qfl91_2 rfl (u4 rfl s9_37)) rfl <| ar (ro_eq (ro_ld_ptr y9_ty49 rfl mon_32_36 up_h (nle rfl)) (by simp only [pS, Value.cells, Nat.reduceAdd, swE] <;> rfl)) rfl ?_
           refine ar (ro_eq (ro_len_row up_h rfl y9_sl49.1) (by simp only [lnS] <;> rfl)) rfl ?_
           refine ar (ro_add (up_m rfl (u2 rfl up_h)) up_h) rfl <| ar (ro_lss (u2 rfl (u4 rfl up_h)) up_h) rfl <| ar (ro_move up_h) rfl <| al_case up_h (fun hb_39 hq_39 => ?_) (fun hb_39 hq_39 => ?_)
           ·replace hq_39 := bt hq_39
            refine al_ro' (ro_fld_ptr qfl91_1 rfl (u2 rfl (u8 rfl s9_37))) ⟨_, rfl, hb_39⟩ rfl ?_
            refine al_ro' (ro_eq (ro_ld_ptr y9_ty3 rfl mon_32_36 up_h (nle rfl)) (by simp only [pS, Value.cells, Nat.reduceAdd, swE] <;> rfl)) ⟨_, rfl, (up_m rfl hb_39)⟩ rfl ?_
            refine al_ro' (ro_fld_ptr qfl91_1 rfl (u4 rfl (u8 rfl s5_37))) ⟨_, rfl, (u2 rfl hb_39)⟩ rfl ?_
            refine al_ro' (ro_eq (ro_ld_ptr y9_ty3 rfl mo1_36 up_h (nle rfl)) (by simp only [pS, Value.cells, Nat.reduceAdd, swE] <;> rfl)) ⟨_, rfl, (up_m rfl (u2 rfl hb_39))⟩ rfl ?_
            refine al_ro' (ro_fld_ptr qfl91_2 rfl (u2 rfl (u4 rfl (u8 rfl s5_37)))) ⟨_, rfl, (u4 rfl hb_39)⟩ rfl ?_
            refine al_ro' (ro_eq (ro_ld_ptr y9_ty49 rfl mo1_36 up_h (nle rfl)) (by simp only [pS, Value.cells, Nat.reduceAdd, swE] <;> rfl)) ⟨_, rfl, (up_m rfl (u4 rfl hb_39))⟩ rfl ?_
            refine al_ro' (ro_eq (ro_len_row up_h rfl y9_sl49.1) (by simp only [lnS] <;> rfl)) ⟨_, rfl, (u2 rfl (u4 rfl hb_39))⟩ rfl ?_
            refine al_ro' (ro_add (up_m rfl (u2 rfl up_h)) up_h) ⟨_, rfl, (up_m rfl (u2 rfl (u4 rfl hb_39)))⟩ rfl ?_
            refine al_ro' (ro_lss (u2 rfl (u4 rfl up_h)) up_h) ⟨_, rfl, (u8 rfl hb_39)⟩ rfl ?_
            refine ar (ro_pickT (up_m rfl (u8 rfl hb_39)) up_h) rfl <| ae5 (u4 rfl (u16 rfl s1_37)) (u4 rfl (u16 rfl s2_37)) (u4 rfl (u16 rfl s5_37)) (u4 rfl (u16 rfl s8_37)) up_h ?_; intro e_40 s1_40 s2_40 s5_40 s8_40 s91_40
            refine then_n ⟨(s91_40).trans (by (refine avb ?_; simp only [claB, decide_eq_true_eq, Bool.false_eq_true, true_iff, false_iff, ← wrap_eq]; omega)), (s1_40).trans (s1_37).symm, (s2_40).trans (s2_37).symm, (s5_40).trans (s5_37).symm, (s8_40).trans (s8_37).symm, rfl⟩
           replace hq_39 := bf hq_39
           refine al_skip' ⟨_, rfl, .inl hb_39⟩ rfl ?_
           refine al_skip' ⟨_, rfl, .inl (up_m rfl hb_39)⟩ rfl ?_
           refine al_skip' ⟨_, rfl, .inl (u2 rfl hb_39)⟩ rfl ?_
           refine al_skip' ⟨_, rfl, .inl (up_m rfl (u2 rfl hb_39))⟩ rfl ?_
           refine al_skip' ⟨_, rfl, .inl (u4 rfl hb_39)⟩ rfl ?_
           refine al_skip' ⟨_, rfl, .inl (up_m rfl (u4 rfl hb_39))⟩ rfl ?_
           refine al_skip' ⟨_, rfl, .inl (u2 rfl (u4 rfl hb_39))⟩ rfl ?_
           refine al_skip' ⟨_, rfl, .inl (up_m rfl (u2 rfl (u4 rfl hb_39)))⟩ rfl ?_
           refine al_skip' ⟨_, rfl, .inl (u8 rfl hb_39)⟩ rfl ?_
           refine ar (ro_pickF (up_m rfl (u8 rfl hb_39)) ev_c) rfl <| ae5 (u4 rfl (u16 rfl s1_37)) (u4 rfl (u16 rfl s2_37)) (u4 rfl (u16 rfl s5_37)) (u4 rfl (u16 rfl s8_37)) up_h ?_; intro e_41 s1_41 s2_41 s5_41 s8_41 s91_41
           refine then_n ⟨(s91_41).trans (by (refine avb ?_; simp only [claB, decide_eq_true_eq, Bool.false_eq_true, true_iff, false_iff, ← wrap_eq]; omega)), (s1_41).trans (s1_37).symm, (s2_41).trans (s2_37).symm, (s5_41).trans (s5_37).symm, (s8_41).trans (s8_37).symm, rfl⟩
         · rintro e_38 _ ⟨s91_38, k1_38, k2_38, k5_38, k8_38, rfl⟩
           have s1_38 := k1_38.trans s1_37
           have s2_38 := k2_38.trans s2_37
           have s5_38 := k5_38.trans s5_37
           have s8_38 := k8_38.trans s8_37
           refine aw_case s91_38 (fun hq_42 => ?_) (fun hq_42 => ?_)
           ·replace hq_42 := bt hq_42
            refine aw_seq <| at_ <| ar (ro_assign ev_c) rfl <| ae1 up_h ?_; clear s1_38 s2_38 s5_38 s8_38 s91_38; intro e_43 s4_43
            refine then_n <| aw_ret <| block_r <| then_r <| then_r <| block_r <| then_r <| ret1 (.inr rfl) (by kernel_rfl) (resV_tmp s4_43) (.ro _ rfl) ?_
            clear s4_43 mon_32_36 mo1_36 mo0_36 ml_36
            (have e : isNameB (l.ss.getD i.toNat default).nam = true := (by assumption); have e2 := any_take_miss (l := l.ss) (k := i.toNat) (p := fun o => o.nam.toList == (l.ss.getD i.toNat default).nam.toList) (fun j hj => p3 j (by omega)); have e4 := any_miss (p := fun n => !smaB n 20000) (l := (l.ss.getD i.toNat default).acr) (fun j hj => q3 j (by omega)); have e5 := any_take_hit (l := l.ss) (k := i.toNat) (p := fun o => claB (l.ss.getD i.toNat default) o) (j := k3.toNat) (by omega) (by omega) (by first | assumption | (simp only [claB, decide_eq_true_eq, decide_eq_false_iff_not]; assumption)); unfold swiE; rw [e, e2, if_neg (show ¬ (l.ss.getD i.toNat default).acr.length = 0 by omega), ‹withinB _ _ _ = true›, e4, e5]; rfl)
           replace hq_42 := bf hq_42
           refine aw_skip <| block_n <| then_n <| at_ <| ar (ro_move s8_38) rfl ?_
           (refine ar (ro_add' up_h ev_c ?_) rfl ?_; · (unfold In64; omega))
           refine ar (ro_assign up_h) rfl <| ae4 (up_m rfl (u2 rfl s1_38)) (up_m rfl (u2 rfl s2_38)) (up_m rfl (u2 rfl s5_38)) up_h ?_; clear s1_38 s2_38 s5_38 s8_38 s91_38; intro e_44 s1_44 s2_44 s5_44 s8_44
           refine then_n <| ⟨_, ⟨s8_44, (s1_44.trans s1_31.symm), (s2_44.trans s2_31.symm), (s5_44.trans s5_31.symm), (mo1_36.trans mo1_24.symm), (mo0_36.trans mo0_24.symm), ⟨_, ml_36, by omega⟩, ?_⟩, ?_⟩
           · (refine ⟨by omega, by omega, fun j hj => ?_⟩; by_cases hji : j < k3.toNat; (exact r3 j hji); (rw [show j = k3.toNat by omega]; first | assumption | (simp only [claB, decide_eq_true_eq, decide_eq_false_iff_not]; assumption)))
           · ((try dsimp only); omega)
        replace hq_34 := bf hq_34
        refine aw_exit <| then_x <| then_x <| block_hit <| then_n <| aw_seq <| at_ <| ar (ro_assign ev_c) rfl <| ae1 up_h ?_; clear s1_33 s2_33 s5_33 s64_33 s8_33; intro e_45 s4_45
        refine then_n <| aw_ret <| ret1 (.inr rfl) (by kernel_rfl) (resV_tmp s4_45) (.ro _ rfl) ?_
        clear s4_45 mo1_32 mo0_32 ml_32
        (have e : isNameB (l.ss.getD i.toNat default).nam = true := (by assumption); have e2 := any_take_miss (l := l.ss) (k := i.toNat) (p := fun o => o.nam.toList == (l.ss.getD i.toNat default).nam.toList) (fun j hj => p3 j (by omega)); have e4 := any_miss (p := fun n => !smaB n 20000) (l := (l.ss.getD i.toNat default).acr) (fun j hj => q3 j (by omega)); have e5 := any_take_miss (l := l.ss) (k := i.toNat) (p := fun o => claB (l.ss.getD i.toNat default) o) (fun j hj => r3 j (by omega)); unfold swiE; rw [e, e2, if_neg (show ¬ (l.ss.getD i.toNat default).acr.length = 0 by omega), ‹withinB _ _ _ = true›, e4, e5]; rfl)
end Go.Proofs.Ytonjcljnpcmenaa

/- Contracts of chapter 1: the document's check of a line. No conditions on a program. -/
namespace Go.Proofs.Ytonjcljnpcmenaa
open Go Go.RowKit Go.Proofs
set_option linter.unusedSimpArgs false
set_option linter.unusedVariables false
theorem y10_hcf129 : ∀ args w, (callFunc 129 args).run Try.prog w = .ok (.enter 129 args) w := fun _ _ => by kernel_rfl
theorem y10_sl22 : SlIs Try.prog 22 70 4 32 (.agg #[.int .i64 0, .int .i64 0, .int .i64 0, .int .i64 0]) := ⟨by kernel_rfl, by kernel_rfl, by kernel_rfl⟩
theorem y10_sl23 : SlIs Try.prog 23 87 2 16 (.agg #[.int .i64 0, .int .i64 0]) := ⟨by kernel_rfl, by kernel_rfl, by kernel_rfl⟩
theorem y10_sl24 : SlIs Try.prog 24 91 3 48 (.agg #[.string ByteArray.empty, .int .i64 0, .slice none 0 0]) := ⟨by kernel_rfl, by kernel_rfl, by kernel_rfl⟩
theorem y10_ty121 : TyIs Try.prog 121 true 2 := ⟨by kernel_rfl, by kernel_rfl⟩
theorem y10_ty22 : TyIs Try.prog 22 false 1 := ⟨by kernel_rfl, by kernel_rfl⟩
theorem y10_ty23 : TyIs Try.prog 23 false 1 := ⟨by kernel_rfl, by kernel_rfl⟩
theorem y10_ty24 : TyIs Try.prog 24 false 1 := ⟨by kernel_rfl, by kernel_rfl⟩
theorem y10_ty26 : TyIs Try.prog 26 true 4 := ⟨by kernel_rfl, by kernel_rfl⟩
theorem y10_ty3 : TyIs Try.prog 3 false 1 := ⟨by kernel_rfl, by kernel_rfl⟩
theorem y10_ty70 : TyIs Try.prog 70 true 4 := ⟨by kernel_rfl, by kernel_rfl⟩
theorem y10_ty9 : TyIs Try.prog 9 false 1 := ⟨by kernel_rfl, by kernel_rfl⟩

theorem lisM_hit {k : Int} {f : Nat → Int} {n i : Nat} {z : (Int × Int) × Int} (hn : ∀ j, j < i → f j = 0) (hi : f i ≠ 0) (h : i < n) : lisM k f n z = ((k, (i : Int)), f i) := by
  unfold lisM; rw [firN_some hn hi h]
theorem lisM_miss {k : Int} {f : Nat → Int} {n : Nat} {z : (Int × Int) × Int} (hn : ∀ j, j < n → f j = 0) : lisM k f n z = z := by
  unfold lisM; rw [firN_none hn]
theorem linM_in {l : Lin} (h1 : isNameB l.nam = true) (h2 : ¬ (l.bs.length = 0 ∨ l.js.length ≠ l.bs.length + 1)) (h3 : ¬ 40 < l.bs.length) : linM l = lisM 1 (fun i => jntE (l.js.getD i default)) l.js.length
    (lisM 2 (fun i => beaE (l.bs.getD i default)) l.bs.length
      (if 4 < l.ss.length then ((0, 0), 8) else lisM 3 (swiE l) l.ss.length ((0, 0), 0))) := by
  unfold linM; rw [h1, if_neg h2, if_neg h3]; rfl
set_option maxRecDepth 100000 in
set_option maxHeartbeats 4000000 in
theorem rCheckLine_ok (l : Lin) (hl : Sho l) : FnOk Try.prog 70 [lnA l] (fun q => q = .tuple [.agg [mA (linM l).1.1, mA (linM l).1.2], mA (linM l).2]) := by
  obtain ⟨h1, h2, h3, h4, h5⟩ := id hl
  refine fnOk_of (fn := Try.f70) 129 (by kernel_rfl) rfl (by kernel_rfl) (Nat.le_of_ble_eq_true rfl) ?_
  intro e_0 m_0 hA hm_0
  have s0_0 : evA e_0 (.tmp 0) = _ := hA 0 _ rfl
  have ml_0 : m_0.length = 0 := by rw [hm_0]; rfl
  clear hA hm_0
  refine aw_seq <| at_ <| al_stm (st_box s0_0 rfl ml_0) trivial rfl (fun m_1 hm_1 => ?_)
  have mo0_1 := m_push hm_1 ml_0
  have ml_1 := m_push_l hm_1 ml_0
  have ml_1 : _ = 1 := ml_1
  clear hm_1
  refine al_stm (st_alloc qaz121 rfl ml_1) trivial rfl (fun m_2 hm_2 => ?_)
  have mo1_2 := m_push hm_2 ml_1
  simp only [pS, Value.cells, Nat.reduceAdd, jnE] at mo1_2
  have mo0_2 := m_push_o hm_2 mo0_1
  have ml_2 := m_push_l hm_2 ml_1
  have ml_2 : _ = 2 := ml_2
  clear hm_2 mo0_1
  refine ar (ro_assign ev_c) rfl <| ae2 (u2 rfl up_h) (up_m rfl up_h) ?_; clear s0_0; intro e_3 s1_3 s2_3
  refine then_n <| aw_seq <| aw_seq <| at_ <| ar (ro_fld_ptr qfl26_0 rfl s1_3) rfl <| ar (ro_eq (ro_ld_ptr y10_ty9 rfl mo0_2 up_h (nle rfl)) (by simp only [pS, Value.cells, Nat.reduceAdd, jnE] <;> rfl)) rfl ?_
  refine ar (ro_call (evL_cons up_h evL_nil) rfl (bIsName_ok _ (by omega)) qhcf127) rfl ?_
  refine ar (ro_not up_h) rfl <| ae3 (u4 rfl s1_3) (u4 rfl s2_3) up_h ?_; clear s1_3 s2_3; intro e_4 s1_4 s2_4 s12_4
  refine then_n <| aw_case s12_4 (fun hq_5 => ?_) (fun hq_5 => ?_)
  ·replace hq_5 := bt' hq_5
   refine aw_seq <| at_ <| ar (ro_build evP_nil qbz121 qbu121 qbp121 rfl) rfl ?_
   refine al_stm (st_store (up_m rfl s2_4) up_h rfl rfl mo1_2 qsz121 rfl (nle rfl)) trivial rfl (fun m_6 hm_6 => ?_)
   have mo1_6 := m_set hm_6 mo1_2
   simp only [pS, Value.cells, Nat.reduceAdd, jnE] at mo1_6
   have mo0_6 := m_set_o hm_6 mo0_2 (by decide)
   have ml_6 := m_set_l hm_6 ml_2
   clear hm_6 mo1_2 mo0_2
   refine ar (ro_assign ev_c) rfl <| ae2 (up_m rfl (up_n (up_m rfl s2_4))) up_h ?_; clear s12_4 s1_4 s2_4; intro e_7 s2_7 s3_7
   refine then_n <| aw_ret <| then_r <| ret2 (.inr rfl) (by kernel_rfl) (resV_cell s2_7 mo1_6 y10_ty121 (nle rfl) (by simp)) (resV_tmp s3_7) (vw_r (.ro _ rfl)) (.ro _ rfl) ?_
   clear s2_7 s3_7 mo1_6 mo0_6 ml_6
   (have e : isNameB l.nam = false := (by assumption); rw [show linM l = ((0, 0), 4) by unfold linM; rw [e]; rfl]; rfl)
  replace hq_5 := bf' hq_5
  refine aw_skip <| then_n <| aw_seq <| aw_seq <| aw_cut (fun e mem => (evA e (.tmp 27) = .v (.bool (decide (l.bs.length = 0 ∨ l.js.length ≠ l.bs.length + 1)))) ∧ (evA e (.tmp 1) = evA e_4 (.tmp 1)) ∧ (evA e (.tmp 2) = evA e_4 (.tmp 2)) ∧ m_2 = mem) ?_ ?_
  ·
    refine at_ <| ar (ro_fld_ptr qfl26_2 rfl s1_4) rfl <| ar (ro_eq (ro_ld_ptr y10_ty23 rfl mo0_2 up_h (nle rfl)) (by simp only [pS, Value.cells, Nat.reduceAdd, jnE] <;> rfl)) rfl ?_
    refine ar (ro_eq (ro_len_row up_h rfl y10_sl23.1) (by simp only [lnS] <;> rfl)) rfl ?_
    refine ar (ro_eql up_h ev_c) rfl ?_
    refine ar (ro_move up_h) rfl <| al_case up_h (fun hb_9 hq_9 => ?_) (fun hb_9 hq_9 => ?_)
    ·replace hq_9 := bt hq_9
     refine al_skip' ⟨_, rfl, .inl hb_9⟩ rfl ?_
     refine al_skip' ⟨_, rfl, .inl (up_m rfl hb_9)⟩ rfl ?_
     refine al_skip' ⟨_, rfl, .inl (u2 rfl hb_9)⟩ rfl ?_
     refine al_skip' ⟨_, rfl, .inl (up_m rfl (u2 rfl hb_9))⟩ rfl ?_
     refine al_skip' ⟨_, rfl, .inl (u4 rfl hb_9)⟩ rfl ?_
     refine al_skip' ⟨_, rfl, .inl (up_m rfl (u4 rfl hb_9))⟩ rfl ?_
     refine al_skip' ⟨_, rfl, .inl (u2 rfl (u4 rfl hb_9))⟩ rfl ?_
     refine al_skip' ⟨_, rfl, .inl (up_m rfl (u2 rfl (u4 rfl hb_9)))⟩ rfl ?_
     refine ar (ro_pickT (u8 rfl hb_9) ev_c) rfl <| ae3 (u2 rfl (u4 rfl (u8 rfl s1_4))) (u2 rfl (u4 rfl (u8 rfl s2_4))) up_h ?_; intro e_10 s1_10 s2_10 s27_10
     refine then_n ⟨(s27_10).trans (by (refine avb ?_; simp only [decide_eq_true_eq, Bool.false_eq_true, true_iff, false_iff, iff_true, iff_false, Bool.not_eq_true', decide_eq_false_iff_not]; omega)), (s1_10).trans (s1_4).symm, (s2_10).trans (s2_4).symm, rfl⟩
    replace hq_9 := bf hq_9
    refine al_ro' (ro_fld_ptr qfl26_1 rfl (up_m rfl (u4 rfl s1_4))) ⟨_, rfl, hb_9⟩ rfl ?_
    refine al_ro' (ro_eq (ro_ld_ptr y10_ty22 rfl mo0_2 up_h (nle rfl)) (by simp only [pS, Value.cells, Nat.reduceAdd, jnE] <;> rfl)) ⟨_, rfl, (up_m rfl hb_9)⟩ rfl ?_
    refine al_ro' (ro_eq (ro_len_row up_h rfl y10_sl22.1) (by simp only [lnS] <;> rfl)) ⟨_, rfl, (u2 rfl hb_9)⟩ rfl ?_
    refine al_ro' (ro_fld_ptr qfl26_2 rfl (u8 rfl s1_4)) ⟨_, rfl, (up_m rfl (u2 rfl hb_9))⟩ rfl ?_
    refine al_ro' (ro_eq (ro_ld_ptr y10_ty23 rfl mo0_2 up_h (nle rfl)) (by simp only [pS, Value.cells, Nat.reduceAdd, jnE] <;> rfl)) ⟨_, rfl, (u4 rfl hb_9)⟩ rfl ?_
    refine al_ro' (ro_eq (ro_len_row up_h rfl y10_sl23.1) (by simp only [lnS] <;> rfl)) ⟨_, rfl, (up_m rfl (u4 rfl hb_9))⟩ rfl ?_
    (refine al_ro' (ro_add' up_h ev_c ?_) ⟨_, rfl, (u2 rfl (u4 rfl hb_9))⟩ rfl ?_; · (unfold In64; omega))
    refine al_ro' (ro_neq (u4 rfl up_h) up_h) ⟨_, rfl, (up_m rfl (u2 rfl (u4 rfl hb_9)))⟩ rfl ?_
    refine ar (ro_pickF (u8 rfl hb_9) up_h) rfl <| ae3 (u2 rfl (u4 rfl (u8 rfl s1_4))) (u2 rfl (u4 rfl (u8 rfl s2_4))) up_h ?_; intro e_11 s1_11 s2_11 s27_11
    refine then_n ⟨(s27_11).trans (by (refine avb ?_; simp only [decide_eq_true_eq, Bool.false_eq_true, true_iff, false_iff, iff_true, iff_false, Bool.not_eq_true', decide_eq_false_iff_not]; omega)), (s1_11).trans (s1_4).symm, (s2_11).trans (s2_4).symm, rfl⟩
  · rintro e_8 _ ⟨s27_8, k1_8, k2_8, rfl⟩
    have s1_8 := k1_8.trans s1_4
    have s2_8 := k2_8.trans s2_4
    refine aw_case s27_8 (fun hq_12 => ?_) (fun hq_12 => ?_)
    ·replace hq_12 := bt hq_12
     refine aw_seq <| at_ <| ar (ro_build evP_nil qbz121 qbu121 qbp121 rfl) rfl ?_
     refine al_stm (st_store (up_m rfl s2_8) up_h rfl rfl mo1_2 qsz121 rfl (nle rfl)) trivial rfl (fun m_13 hm_13 => ?_)
     have mo1_13 := m_set hm_13 mo1_2
     simp only [pS, Value.cells, Nat.reduceAdd, jnE] at mo1_13
     have mo0_13 := m_set_o hm_13 mo0_2 (by decide)
     have ml_13 := m_set_l hm_13 ml_2
     clear hm_13 mo1_2 mo0_2
     refine ar (ro_assign ev_c) rfl <| ae2 (up_m rfl (up_n (up_m rfl s2_8))) up_h ?_; clear s1_8 s27_8 s2_8; intro e_14 s2_14 s3_14
     refine then_n <| aw_ret <| then_r <| ret2 (.inr rfl) (by kernel_rfl) (resV_cell s2_14 mo1_13 y10_ty121 (nle rfl) (by simp)) (resV_tmp s3_14) (vw_r (.ro _ rfl)) (.ro _ rfl) ?_
     clear s2_14 s3_14 mo1_13 mo0_13 ml_13
     (have e : isNameB l.nam = true := (by assumption); have hs : l.bs.length = 0 ∨ l.js.length ≠ l.bs.length + 1 := (by first | assumption | simp_all); rw [show linM l = ((0, 0), 10) by unfold linM; simp only [e, Bool.not_true, Bool.false_eq_true, if_false, if_pos hs]]; rfl)
    replace hq_12 := bf hq_12
    refine aw_skip <| then_n <| aw_seq <| aw_seq <| at_ <| ar (ro_fld_ptr qfl26_2 rfl s1_8) rfl <| ar (ro_eq (ro_ld_ptr y10_ty23 rfl mo0_2 up_h (nle rfl)) (by simp only [pS, Value.cells, Nat.reduceAdd, jnE] <;> rfl)) rfl ?_
    refine ar (ro_eq (ro_len_row up_h rfl y10_sl23.1) (by simp only [lnS] <;> rfl)) rfl ?_
    refine ar (ro_gtr up_h ev_c) rfl <| ae3 (u4 rfl s1_8) (u4 rfl s2_8) up_h ?_; clear s1_8 s27_8 s2_8; intro e_15 s1_15 s2_15 s32_15
    refine then_n <| aw_case s32_15 (fun hq_16 => ?_) (fun hq_16 => ?_)
    ·replace hq_16 := bt hq_16
     refine aw_seq <| at_ <| ar (ro_build evP_nil qbz121 qbu121 qbp121 rfl) rfl ?_
     refine al_stm (st_store (up_m rfl s2_15) up_h rfl rfl mo1_2 qsz121 rfl (nle rfl)) trivial rfl (fun m_17 hm_17 => ?_)
     have mo1_17 := m_set hm_17 mo1_2
     simp only [pS, Value.cells, Nat.reduceAdd, jnE] at mo1_17
     have mo0_17 := m_set_o hm_17 mo0_2 (by decide)
     have ml_17 := m_set_l hm_17 ml_2
     clear hm_17 mo1_2 mo0_2
     refine ar (ro_assign ev_c) rfl <| ae2 (up_m rfl (up_n (up_m rfl s2_15))) up_h ?_; clear s1_15 s2_15 s32_15; intro e_18 s2_18 s3_18
     refine then_n <| aw_ret <| then_r <| ret2 (.inr rfl) (by kernel_rfl) (resV_cell s2_18 mo1_17 y10_ty121 (nle rfl) (by simp)) (resV_tmp s3_18) (vw_r (.ro _ rfl)) (.ro _ rfl) ?_
     clear s2_18 s3_18 mo1_17 mo0_17 ml_17
     (have e : isNameB l.nam = true := (by assumption); have hs : ¬ (l.bs.length = 0 ∨ l.js.length ≠ l.bs.length + 1) := (by first | assumption | omega); have hg : 40 < l.bs.length := (by omega); rw [show linM l = ((0, 0), 8) by unfold linM; simp only [e, Bool.not_true, Bool.false_eq_true, if_false, if_neg hs, if_pos hg]]; rfl)
    replace hq_16 := bf hq_16
    (have hin := linM_in (l := l) (by assumption) (by first | assumption | omega) (by omega))
    refine aw_skip <| then_n <| aw_seq <| aw_seq <| at_ <| ar (ro_assign ev_c) rfl <| ae3 (up_m rfl s1_15) (up_m rfl s2_15) up_h ?_; clear s1_15 s2_15 s32_15; intro e_19 s1_19 s2_19 s4_19
    refine then_n <| aw_block <| aw_loop (S := Int) (fun k e mem => (evA e (.tmp 4) = .v (.int .i64 k)) ∧ (evA e (.tmp 1) = evA e_19 (.tmp 1)) ∧ (evA e (.tmp 2) = evA e_19 (.tmp 2)) ∧ (mem[1]? = m_2[1]?) ∧ (mem[0]? = m_2[0]?) ∧ (∃ n, mem.length = n ∧ 2 ≤ n) ∧ ((0 ≤ k ∧ k ≤ l.js.length ∧ ∀ j : Nat, j < k.toNat → jntE (l.js.getD j default) = 0))) (fun k => (l.js.length - k).toNat) _ ⟨s4_19, rfl, rfl, rfl, rfl, ⟨_, ml_2, Nat.le_refl _⟩, ?_⟩ ?_
    · (exact ⟨by omega, by omega, fun j h => absurd h (by omega)⟩)
    · rintro k e_20 m_20 ⟨s4_20, k1_20, k2_20, mk1_20, mk0_20, ⟨n_20, ml_20, hn_20⟩, hinv⟩
      have s1_20 := k1_20.trans s1_19
      have s2_20 := k2_20.trans s2_19
      have mo1_20 := mk1_20.trans mo1_2
      have mo0_20 := mk0_20.trans mo0_2
      (obtain ⟨p1, p2, p3⟩ := hinv)
      refine aw_seq <| aw_seq <| at_ <| ar (ro_move s4_20) rfl <| ar (ro_fld_ptr qfl26_1 rfl (up_m rfl s1_20)) rfl <| ar (ro_eq (ro_ld_ptr y10_ty22 rfl mo0_20 up_h (nle rfl)) (by simp only [pS, Value.cells, Nat.reduceAdd, jnE] <;> rfl)) rfl ?_
      refine ar (ro_eq (ro_len_row up_h rfl y10_sl22.1) (by simp only [lnS] <;> rfl)) rfl ?_
      refine ar (ro_lss (up_m rfl (u2 rfl up_h)) up_h) rfl <| ae4 (up_m rfl (u4 rfl s1_20)) (up_m rfl (u4 rfl s2_20)) (up_m rfl (u4 rfl s4_20)) up_h ?_; clear s1_20 s2_20 s4_20; intro e_21 s1_21 s2_21 s4_21 s38_21
      refine then_n <| aw_case s38_21 (fun hq_22 => ?_) (fun hq_22 => ?_)
      ·replace hq_22 := bt hq_22
       refine aw_skip <| then_n <| aw_seq <| aw_block <| aw_seq <| at_ <| ar (ro_fld_ptr qfl26_1 rfl s1_21) rfl <| ar (ro_eq (ro_ld_ptr y10_ty22 rfl mo0_20 up_h (nle rfl)) (by simp only [pS, Value.cells, Nat.reduceAdd, jnE] <;> rfl)) rfl ?_
       refine ar (ro_move (u2 rfl s4_21)) rfl <| ar (ro_eq (ro_ix y10_sl22 (up_m rfl up_h) up_h (by omega) (by first | (refine idx_map ?_; first | omega | (simp only [lnS]; omega)) | (refine idx_mapI ?_; first | omega | (simp only [lnS]; omega)) | (refine idx_mapN ?_; first | omega | (simp only [lnS]; omega)) | rfl)) (by simp only [pS, Value.cells, Nat.reduceAdd, jnE] <;> rfl)) rfl ?_
       refine ar (ro_eq (ro_ld_ref y10_ty70 rfl up_h (nle rfl)) (by simp only [pS, Value.cells, Nat.reduceAdd, jnE] <;> rfl)) rfl ?_
       refine al_stm (st_alloc qaz70 rfl ml_20) trivial rfl (fun m_23 hm_23 => ?_)
       have mon_20_23 := m_push hm_23 ml_20
       simp only [pS, Value.cells, Nat.reduceAdd, jnE] at mon_20_23
       have mo1_23 := m_push_o hm_23 mo1_20
       have mo0_23 := m_push_o hm_23 mo0_20
       have ml_23 := m_push_l hm_23 ml_20
       clear hm_23 mo1_20 mo0_20
       refine al_stm (st_store up_h (up_m rfl up_h) rfl rfl mon_20_23 qsz70 rfl (nle rfl)) trivial rfl (fun m_24 hm_24 => ?_)
       have mon_20_24 := m_set hm_24 mon_20_23
       simp only [pS, Value.cells, Nat.reduceAdd, jnE] at mon_20_24
       have mo1_24 := m_set_o hm_24 mo1_23 (by omega)
       have mo0_24 := m_set_o hm_24 mo0_23 (by omega)
       have ml_24 := m_set_l hm_24 ml_23
       clear hm_24 mon_20_23 mo1_23 mo0_23
       refine ae4 (up_n (u2 rfl (u4 rfl s1_21))) (up_n (u2 rfl (u4 rfl s2_21))) (up_n (u2 rfl (u4 rfl s4_21))) (up_n up_h) ?_; clear s1_21 s2_21 s38_21 s4_21; intro e_25 s1_25 s2_25 s4_25 s5_25
       refine then_n <| aw_seq <| aw_seq <| aw_cut (fun e mem => (evA e (.tmp 69) = .v (.bool (!jntB (l.js.getD k.toNat default)))) ∧ (evA e (.tmp 1) = evA e_25 (.tmp 1)) ∧ (evA e (.tmp 2) = evA e_25 (.tmp 2)) ∧ (evA e (.tmp 4) = evA e_25 (.tmp 4)) ∧ (evA e (.tmp 5) = evA e_25 (.tmp 5)) ∧ m_24 = mem) ?_ ?_
       ·
         refine at_ <| ar (ro_fld_ptr qfl70_0 rfl s5_25) rfl <| ar (ro_eq (ro_ld_ptr y10_ty3 rfl mon_20_24 up_h (nle rfl)) (by simp only [pS, Value.cells, Nat.reduceAdd, jnE] <;> rfl)) rfl ?_
         refine ar (ro_call (evL_cons up_h (evL_cons ev_c evL_nil)) rfl (size_ok _ _ (by decide)) qhcf128) rfl ?_
         refine ar (ro_not up_h) rfl <| ar (ro_move up_h) rfl <| al_case up_h (fun hb_27 hq_27 => ?_) (fun hb_27 hq_27 => ?_)
         ·replace hq_27 := bt' hq_27
          refine al_skip' ⟨_, rfl, .inl hb_27⟩ rfl ?_
          refine al_skip' ⟨_, rfl, .inl (up_m rfl hb_27)⟩ rfl ?_
          refine al_skip' ⟨_, rfl, .inl (u2 rfl hb_27)⟩ rfl ?_
          refine al_skip' ⟨_, rfl, .inl (up_m rfl (u2 rfl hb_27))⟩ rfl ?_
          refine ar (ro_pickT (u4 rfl hb_27) ev_c) rfl <| ar (ro_move up_h) rfl <| al_skip' ⟨_, rfl, .inl up_h⟩ rfl ?_
          refine al_skip' ⟨_, rfl, .inl (up_m rfl up_h)⟩ rfl ?_
          refine al_skip' ⟨_, rfl, .inl (u2 rfl up_h)⟩ rfl ?_
          refine al_skip' ⟨_, rfl, .inl (up_m rfl (u2 rfl up_h))⟩ rfl ?_
          refine al_skip' ⟨_, rfl, .inl (u4 rfl up_h)⟩ rfl ?_
          refine ar (ro_pickT (up_m rfl (u4 rfl up_h)) ev_c) rfl <| ar (ro_move up_h) rfl <| al_skip' ⟨_, rfl, .inl up_h⟩ rfl ?_
          refine al_skip' ⟨_, rfl, .inl (up_m rfl up_h)⟩ rfl ?_
          refine al_skip' ⟨_, rfl, .inl (u2 rfl up_h)⟩ rfl ?_
          refine al_skip' ⟨_, rfl, .inl (up_m rfl (u2 rfl up_h))⟩ rfl ?_
          refine al_skip' ⟨_, rfl, .inl (u4 rfl up_h)⟩ rfl ?_
          refine ar (ro_pickT (up_m rfl (u4 rfl up_h)) ev_c) rfl <| ae5 (u8 rfl (u16 rfl s1_25)) (u8 rfl (u16 rfl s2_25)) (u8 rfl (u16 rfl s4_25)) (u8 rfl (u16 rfl s5_25)) up_h ?_; intro e_28 s1_28 s2_28 s4_28 s5_28 s69_28
          refine then_n ⟨(s69_28).trans (by (refine avb ?_; unfold jntB; simp_all)), (s1_28).trans (s1_25).symm, (s2_28).trans (s2_25).symm, (s4_28).trans (s4_25).symm, (s5_28).trans (s5_25).symm, rfl⟩
         replace hq_27 := bf' hq_27
         refine al_ro' (ro_fld_ptr qfl70_1 rfl (up_m rfl (u4 rfl s5_25))) ⟨_, rfl, hb_27⟩ rfl ?_
         refine al_ro' (ro_eq (ro_ld_ptr y10_ty3 rfl mon_20_24 up_h (nle rfl)) (by simp only [pS, Value.cells, Nat.reduceAdd, jnE] <;> rfl)) ⟨_, rfl, (up_m rfl hb_27)⟩ rfl ?_
         refine al_ro' (ro_call (evL_cons up_h (evL_cons ev_c evL_nil)) rfl (size_ok _ _ (by decide)) qhcf128) ⟨_, rfl, (u2 rfl hb_27)⟩ rfl ?_
         refine al_ro' (ro_not up_h) ⟨_, rfl, (up_m rfl (u2 rfl hb_27))⟩ rfl ?_
         refine ar (ro_pickF (u4 rfl hb_27) up_h) rfl <| ar (ro_move up_h) rfl <| al_case up_h (fun hb_29 hq_29 => ?_) (fun hb_29 hq_29 => ?_)
         ·replace hq_29 := bt' hq_29
          refine al_skip' ⟨_, rfl, .inl hb_29⟩ rfl ?_
          refine al_skip' ⟨_, rfl, .inl (up_m rfl hb_29)⟩ rfl ?_
          refine al_skip' ⟨_, rfl, .inl (u2 rfl hb_29)⟩ rfl ?_
          refine al_skip' ⟨_, rfl, .inl (up_m rfl (u2 rfl hb_29))⟩ rfl ?_
          refine al_skip' ⟨_, rfl, .inl (u4 rfl hb_29)⟩ rfl ?_
          refine ar (ro_pickT (up_m rfl (u4 rfl hb_29)) ev_c) rfl <| ar (ro_move up_h) rfl <| al_skip' ⟨_, rfl, .inl up_h⟩ rfl ?_
          refine al_skip' ⟨_, rfl, .inl (up_m rfl up_h)⟩ rfl ?_
          refine al_skip' ⟨_, rfl, .inl (u2 rfl up_h)⟩ rfl ?_
          refine al_skip' ⟨_, rfl, .inl (up_m rfl (u2 rfl up_h))⟩ rfl ?_
          refine al_skip' ⟨_, rfl, .inl (u4 rfl up_h)⟩ rfl ?_
          refine ar (ro_pickT (up_m rfl (u4 rfl up_h)) ev_c) rfl <| ae5 (u8 rfl (u16 rfl s1_25)) (u8 rfl (u16 rfl s2_25)) (u8 rfl (u16 rfl s4_25)) (u8 rfl (u16 rfl s5_25)) up_h ?_; intro e_30 s1_30 s2_30 s4_30 s5_30 s69_30
          refine then_n ⟨(s69_30).trans (by (refine avb ?_; unfold jntB; simp_all)), (s1_30).trans (s1_25).symm, (s2_30).trans (s2_25).symm, (s4_30).trans (s4_25).symm, (s5_30).trans (s5_25).symm, rfl⟩
         replace hq_29 := bf' hq_29
         refine al_ro' (ro_fld_ptr qfl70_2 rfl (up_m rfl (u2 rfl (u8 rfl s5_25)))) ⟨_, rfl, hb_29⟩ rfl ?_
         refine al_ro' (ro_fld_ptr qfl39_0 rfl up_h) ⟨_, rfl, (up_m rfl hb_29)⟩ rfl ?_
         refine al_ro' (ro_eq (ro_ld_ptr y10_ty3 rfl mon_20_24 up_h (nle rfl)) (by simp only [pS, Value.cells, Nat.reduceAdd, jnE] <;> rfl)) ⟨_, rfl, (u2 rfl hb_29)⟩ rfl ?_
         refine al_ro' (ro_call (evL_cons up_h (evL_cons ev_c evL_nil)) rfl (size_ok _ _ (by decide)) qhcf128) ⟨_, rfl, (up_m rfl (u2 rfl hb_29))⟩ rfl ?_
         refine al_ro' (ro_not up_h) ⟨_, rfl, (u4 rfl hb_29)⟩ rfl ?_
         refine ar (ro_pickF (up_m rfl (u4 rfl hb_29)) up_h) rfl <| ar (ro_move up_h) rfl <| al_case up_h (fun hb_31 hq_31 => ?_) (fun hb_31 hq_31 => ?_)
         ·replace hq_31 := bt' hq_31
          refine al_skip' ⟨_, rfl, .inl hb_31⟩ rfl ?_
          refine al_skip' ⟨_, rfl, .inl (up_m rfl hb_31)⟩ rfl ?_
          refine al_skip' ⟨_, rfl, .inl (u2 rfl hb_31)⟩ rfl ?_
          refine al_skip' ⟨_, rfl, .inl (up_m rfl (u2 rfl hb_31))⟩ rfl ?_
          refine al_skip' ⟨_, rfl, .inl (u4 rfl hb_31)⟩ rfl ?_
          refine ar (ro_pickT (up_m rfl (u4 rfl hb_31)) ev_c) rfl <| ae5 (u8 rfl (u16 rfl s1_25)) (u8 rfl (u16 rfl s2_25)) (u8 rfl (u16 rfl s4_25)) (u8 rfl (u16 rfl s5_25)) up_h ?_; intro e_32 s1_32 s2_32 s4_32 s5_32 s69_32
          refine then_n ⟨(s69_32).trans (by (refine avb ?_; unfold jntB; simp_all)), (s1_32).trans (s1_25).symm, (s2_32).trans (s2_25).symm, (s4_32).trans (s4_25).symm, (s5_32).trans (s5_25).symm, rfl⟩
         replace hq_31 := bf' hq_31
         refine al_ro' (ro_fld_ptr qfl70_2 rfl (u2 rfl (u16 rfl s5_25))) ⟨_, rfl, hb_31⟩ rfl ?_
         refine al_ro' (ro_fld_ptr qfl39_1 rfl up_h) ⟨_, rfl, (up_m rfl hb_31)⟩ rfl ?_
         refine al_ro' (ro_eq (ro_ld_ptr y10_ty3 rfl mon_20_24 up_h (nle rfl)) (by simp only [pS, Value.cells, Nat.reduceAdd, jnE] <;> rfl)) ⟨_, rfl, (u2 rfl hb_31)⟩ rfl ?_
         refine al_ro' (ro_call (evL_cons up_h (evL_cons ev_c evL_nil)) rfl (size_ok _ _ (by decide)) qhcf128) ⟨_, rfl, (up_m rfl (u2 rfl hb_31))⟩ rfl ?_
         refine al_ro' (ro_not up_h) ⟨_, rfl, (u4 rfl hb_31)⟩ rfl ?_
         refine ar (ro_pickF (up_m rfl (u4 rfl hb_31)) up_h) rfl <| ae5 (u8 rfl (u16 rfl s1_25)) (u8 rfl (u16 rfl s2_25)) (u8 rfl (u16 rfl s4_25)) (u8 rfl (u16 rfl s5_25)) up_h ?_; intro e_33 s1_33 s2_33 s4_33 s5_33 s69_33
         refine then_n ⟨(s69_33).trans (by (refine avb ?_; unfold jntB; simp_all)), (s1_33).trans (s1_25).symm, (s2_33).trans (s2_25).symm, (s4_33).trans (s4_25).symm, (s5_33).trans (s5_25).symm, rfl⟩
       · rintro e_26 _ ⟨s69_26, k1_26, k2_26, k4_26, k5_26, rfl⟩
         have s1_26 := k1_26.trans s1_25
         have s2_26 := k2_26.trans s2_25
         have s4_26 := k4_26.trans s4_25
         have s5_26 := k5_26.trans s5_25
         refine aw_case s69_26 (fun hq_34 => ?_) (fun hq_34 => ?_)
         ·replace hq_34 := bt' hq_34
          refine aw_seq <| at_ <| ar (ro_move s4_26) rfl <| ar (ro_build (evP_cons ev_c (evP_cons up_h evP_nil)) qbz121 qbu121 qbp121 rfl) rfl ?_
          refine al_stm (st_store (u2 rfl s2_26) up_h rfl rfl mo1_24 qsz121 rfl (nle rfl)) trivial rfl (fun m_35 hm_35 => ?_)
          have mo1_35 := m_set hm_35 mo1_24
          simp only [pS, Value.cells, Nat.reduceAdd, jnE] at mo1_35
          have mon_20_35 := m_set_o hm_35 mon_20_24 (by omega)
          have mo0_35 := m_set_o hm_35 mo0_24 (by decide)
          have ml_35 := m_set_l hm_35 ml_24
          clear hm_35 mon_20_24 mo1_24 mo0_24
          refine ar (ro_assign ev_c) rfl <| ae2 (up_m rfl (up_n (u2 rfl s2_26))) up_h ?_; clear s1_26 s2_26 s4_26 s5_26 s69_26; intro e_36 s2_36 s3_36
          refine then_n <| aw_ret <| then_r <| block_r <| then_r <| then_r <| block_r <| then_r <| ret2 (.inr rfl) (by kernel_rfl) (resV_cell s2_36 mo1_35 y10_ty121 (nle rfl) (by simp)) (resV_tmp s3_36) (vw_r (.ro _ rfl)) (.ro _ rfl) ?_
          clear s2_36 s3_36 mo1_35 mon_20_35 mo0_35 ml_35
          (have e : jntE (l.js.getD k.toNat default) = 2 := (by unfold jntE; rw [‹jntB _ = false›]; rfl); rw [hin, lisM_hit (i := k.toNat) p3 (by rw [e]; decide) (by omega), e]; (first | (simp only [Int.toNat_of_nonneg p1]; done) | (simp only [Int.toNat_of_nonneg p1]; rfl)))
         replace hq_34 := bf' hq_34
         refine aw_skip <| then_n <| aw_seq <| at_ <| ar (ro_fld_ptr qfl70_2 rfl s5_26) rfl <| ar (ro_fld_ptr qfl39_0 rfl up_h) rfl <| ar (ro_eq (ro_ld_ptr y10_ty3 rfl mon_20_24 up_h (nle rfl)) (by simp only [pS, Value.cells, Nat.reduceAdd, jnE] <;> rfl)) rfl ?_
         refine ar (ro_fld_ptr qfl70_2 rfl (up_m rfl (u2 rfl s5_26))) rfl <| ar (ro_fld_ptr qfl39_1 rfl up_h) rfl <| ar (ro_eq (ro_ld_ptr y10_ty3 rfl mon_20_24 up_h (nle rfl)) (by simp only [pS, Value.cells, Nat.reduceAdd, jnE] <;> rfl)) rfl ?_
         refine ar (ro_gtr (up_m rfl (u2 rfl up_h)) up_h) rfl <| ae4 (up_m rfl (u2 rfl (u4 rfl s1_26))) (up_m rfl (u2 rfl (u4 rfl s2_26))) (up_m rfl (u2 rfl (u4 rfl s4_26))) up_h ?_; clear s1_26 s2_26 s4_26 s5_26 s69_26; intro e_37 s1_37 s2_37 s4_37 s78_37
         refine then_n <| aw_case s78_37 (fun hq_38 => ?_) (fun hq_38 => ?_)
         ·replace hq_38 := bt hq_38
          refine aw_seq <| at_ <| ar (ro_move s4_37) rfl <| ar (ro_build (evP_cons ev_c (evP_cons up_h evP_nil)) qbz121 qbu121 qbp121 rfl) rfl ?_
          refine al_stm (st_store (u2 rfl s2_37) up_h rfl rfl mo1_24 qsz121 rfl (nle rfl)) trivial rfl (fun m_39 hm_39 => ?_)
          have mo1_39 := m_set hm_39 mo1_24
          simp only [pS, Value.cells, Nat.reduceAdd, jnE] at mo1_39
          have mon_20_39 := m_set_o hm_39 mon_20_24 (by omega)
          have mo0_39 := m_set_o hm_39 mo0_24 (by decide)
          have ml_39 := m_set_l hm_39 ml_24
          clear hm_39 mon_20_24 mo1_24 mo0_24
          refine ar (ro_assign ev_c) rfl <| ae2 (up_m rfl (up_n (u2 rfl s2_37))) up_h ?_; clear s1_37 s2_37 s4_37 s78_37; intro e_40 s2_40 s3_40
          refine then_n <| aw_ret <| block_r <| then_r <| then_r <| block_r <| then_r <| ret2 (.inr rfl) (by kernel_rfl) (resV_cell s2_40 mo1_39 y10_ty121 (nle rfl) (by simp)) (resV_tmp s3_40) (vw_r (.ro _ rfl)) (.ro _ rfl) ?_
          clear s2_40 s3_40 mo1_39 mon_20_39 mo0_39 ml_39
          (have e : jntE (l.js.getD k.toNat default) = 9 := (by unfold jntE; rw [‹jntB _ = true›, if_pos rfl, if_neg (by omega)]); rw [hin, lisM_hit (i := k.toNat) p3 (by rw [e]; decide) (by omega), e]; (first | (simp only [Int.toNat_of_nonneg p1]; done) | (simp only [Int.toNat_of_nonneg p1]; rfl)))
         replace hq_38 := bf hq_38
         refine aw_skip <| block_n <| then_n <| at_ <| ar (ro_move s4_37) rfl ?_
         (refine ar (ro_add' up_h ev_c ?_) rfl ?_; · (unfold In64; omega))
         refine ar (ro_assign up_h) rfl <| ae3 (up_m rfl (u2 rfl s1_37)) (up_m rfl (u2 rfl s2_37)) up_h ?_; clear s1_37 s2_37 s4_37 s78_37; intro e_41 s1_41 s2_41 s4_41
         refine then_n <| ⟨_, ⟨s4_41, (s1_41.trans s1_19.symm), (s2_41.trans s2_19.symm), (mo1_24.trans mo1_2.symm), (mo0_24.trans mo0_2.symm), ⟨_, ml_24, by omega⟩, ?_⟩, ?_⟩
         · (refine ⟨by omega, by omega, fun j hj => ?_⟩; by_cases hji : j < k.toNat; (exact p3 j hji); (rw [show j = k.toNat by omega]; unfold jntE; rw [‹jntB _ = true›, if_pos rfl, if_pos (by omega)]))
         · ((try dsimp only); omega)
      replace hq_22 := bf hq_22
      refine aw_exit <| then_x <| then_x <| block_hit <| then_n <| aw_seq <| aw_seq <| at_ <| ar (ro_assign ev_c) rfl <| ae3 (up_m rfl s1_21) (up_m rfl s2_21) up_h ?_; clear s1_21 s2_21 s38_21 s4_21; intro e_42 s1_42 s2_42 s6_42
      refine then_n <| aw_block <| aw_loop (S := Int) (fun k2 e mem => (evA e (.tmp 6) = .v (.int .i64 k2)) ∧ (evA e (.tmp 1) = evA e_42 (.tmp 1)) ∧ (evA e (.tmp 2) = evA e_42 (.tmp 2)) ∧ (mem[1]? = m_20[1]?) ∧ (mem[0]? = m_20[0]?) ∧ (mem.length = n_20) ∧ ((0 ≤ k2 ∧ k2 ≤ l.bs.length ∧ ∀ j : Nat, j < k2.toNat → beaE (l.bs.getD j default) = 0))) (fun k2 => (l.bs.length - k2).toNat) _ ⟨s6_42, rfl, rfl, rfl, rfl, ml_20, ?_⟩ ?_
      · (exact ⟨by omega, by omega, fun j h => absurd h (by omega)⟩)
      · rintro k2 e_43 m_43 ⟨s6_43, k1_43, k2_43, mk1_43, mk0_43, ml_43, hinv⟩
        have s1_43 := k1_43.trans s1_42
        have s2_43 := k2_43.trans s2_42
        have mo1_43 := mk1_43.trans mo1_20
        have mo0_43 := mk0_43.trans mo0_20
        (obtain ⟨q1, q2, q3⟩ := hinv)
        refine aw_seq <| aw_seq <| at_ <| ar (ro_move s6_43) rfl <| ar (ro_fld_ptr qfl26_2 rfl (up_m rfl s1_43)) rfl <| ar (ro_eq (ro_ld_ptr y10_ty23 rfl mo0_43 up_h (nle rfl)) (by simp only [pS, Value.cells, Nat.reduceAdd, jnE] <;> rfl)) rfl ?_
        refine ar (ro_eq (ro_len_row up_h rfl y10_sl23.1) (by simp only [lnS] <;> rfl)) rfl ?_
        refine ar (ro_lss (up_m rfl (u2 rfl up_h)) up_h) rfl <| ae4 (up_m rfl (u4 rfl s1_43)) (up_m rfl (u4 rfl s2_43)) (up_m rfl (u4 rfl s6_43)) up_h ?_; clear s1_43 s2_43 s6_43; intro e_44 s1_44 s2_44 s6_44 s85_44
        refine then_n <| aw_case s85_44 (fun hq_45 => ?_) (fun hq_45 => ?_)
        ·replace hq_45 := bt hq_45
         refine aw_skip <| then_n <| aw_seq <| aw_block <| aw_seq <| aw_cut (fun e mem => (evA e (.tmp 105) = .v (.bool (!beaB (l.bs.getD k2.toNat default)))) ∧ (evA e (.tmp 1) = evA e_44 (.tmp 1)) ∧ (evA e (.tmp 2) = evA e_44 (.tmp 2)) ∧ (evA e (.tmp 6) = evA e_44 (.tmp 6)) ∧ m_43 = mem) ?_ ?_
         ·
           refine at_ <| ar (ro_fld_ptr qfl26_2 rfl s1_44) rfl <| ar (ro_eq (ro_ld_ptr y10_ty23 rfl mo0_43 up_h (nle rfl)) (by simp only [pS, Value.cells, Nat.reduceAdd, jnE] <;> rfl)) rfl ?_
           refine ar (ro_move (u2 rfl s6_44)) rfl <| ar (ro_eq (ro_ix y10_sl23 (up_m rfl up_h) up_h (by omega) (by first | (refine idx_map ?_; first | omega | (simp only [lnS]; omega)) | (refine idx_mapI ?_; first | omega | (simp only [lnS]; omega)) | (refine idx_mapN ?_; first | omega | (simp only [lnS]; omega)) | rfl)) (by rfl)) rfl ?_
           refine ar (ro_eq (ro_fld_ref qfl87_0 rfl up_h) (by simp only [pS, Value.cells, Nat.reduceAdd, jnE] <;> rfl)) rfl ?_
           refine ar (ro_eq (ro_ld_ref y10_ty3 rfl up_h (nle rfl)) (by simp only [pS, Value.cells, Nat.reduceAdd, jnE] <;> rfl)) rfl ?_
           refine ar (ro_call (evL_cons up_h (evL_cons ev_c (evL_cons ev_c evL_nil))) rfl (bWithin_ok _ _ _) qhcf30) rfl <| ar (ro_not up_h) rfl <| ar (ro_move up_h) rfl <| al_case up_h (fun hb_47 hq_47 => ?_) (fun hb_47 hq_47 => ?_)
           ·replace hq_47 := bt' hq_47
            refine al_skip' ⟨_, rfl, .inl hb_47⟩ rfl ?_
            refine al_skip' ⟨_, rfl, .inl (up_m rfl hb_47)⟩ rfl ?_
            refine al_skip' ⟨_, rfl, .inl (u2 rfl hb_47)⟩ rfl ?_
            refine al_skip' ⟨_, rfl, .inl (up_m rfl (u2 rfl hb_47))⟩ rfl ?_
            refine al_skip' ⟨_, rfl, .inl (u4 rfl hb_47)⟩ rfl ?_
            refine al_skip' ⟨_, rfl, .inl (up_m rfl (u4 rfl hb_47))⟩ rfl ?_
            refine al_skip' ⟨_, rfl, .inl (u2 rfl (u4 rfl hb_47))⟩ rfl ?_
            refine al_skip' ⟨_, rfl, .inl (up_m rfl (u2 rfl (u4 rfl hb_47)))⟩ rfl ?_
            refine ar (ro_pickT (u8 rfl hb_47) ev_c) rfl <| ae4 (u2 rfl (u16 rfl s1_44)) (u2 rfl (u16 rfl s2_44)) (u2 rfl (u16 rfl s6_44)) up_h ?_; intro e_48 s1_48 s2_48 s6_48 s105_48
            refine then_n ⟨(s105_48).trans (by (refine avb ?_; unfold beaB; simp_all)), (s1_48).trans (s1_44).symm, (s2_48).trans (s2_44).symm, (s6_48).trans (s6_44).symm, rfl⟩
           replace hq_47 := bf' hq_47
           refine al_ro' (ro_fld_ptr qfl26_2 rfl (up_m rfl (u8 rfl s1_44))) ⟨_, rfl, hb_47⟩ rfl ?_
           refine al_ro' (ro_eq (ro_ld_ptr y10_ty23 rfl mo0_43 up_h (nle rfl)) (by simp only [pS, Value.cells, Nat.reduceAdd, jnE] <;> rfl)) ⟨_, rfl, (up_m rfl hb_47)⟩ rfl ?_
           refine al_ro' (ro_move (up_m rfl (u2 rfl (u8 rfl s6_44)))) ⟨_, rfl, (u2 rfl hb_47)⟩ rfl ?_
           refine al_ro' (ro_eq (ro_ix y10_sl23 (up_m rfl up_h) up_h (by omega) (by first | (refine idx_map ?_; first | omega | (simp only [lnS]; omega)) | (refine idx_mapI ?_; first | omega | (simp only [lnS]; omega)) | (refine idx_mapN ?_; first | omega | (simp only [lnS]; omega)) | rfl)) (by rfl)) ⟨_, rfl, (up_m rfl (u2 rfl hb_47))⟩ rfl ?_
           refine al_ro' (ro_eq (ro_fld_ref qfl87_1 rfl up_h) (by rfl)) ⟨_, rfl, (u4 rfl hb_47)⟩ rfl ?_
           refine al_ro' (ro_eq (ro_ld_ref y10_ty3 rfl up_h (nle rfl)) (by simp only [pS, Value.cells, Nat.reduceAdd, jnE] <;> rfl)) ⟨_, rfl, (up_m rfl (u4 rfl hb_47))⟩ rfl ?_
           refine al_ro' (ro_call (evL_cons up_h (evL_cons ev_c evL_nil)) rfl (size_ok _ _ (by decide)) qhcf128) ⟨_, rfl, (u2 rfl (u4 rfl hb_47))⟩ rfl ?_
           refine al_ro' (ro_not up_h) ⟨_, rfl, (up_m rfl (u2 rfl (u4 rfl hb_47)))⟩ rfl ?_
           refine ar (ro_pickF (u8 rfl hb_47) up_h) rfl <| ae4 (u2 rfl (u16 rfl s1_44)) (u2 rfl (u16 rfl s2_44)) (u2 rfl (u16 rfl s6_44)) up_h ?_; intro e_49 s1_49 s2_49 s6_49 s105_49
           refine then_n ⟨(s105_49).trans (by (refine avb ?_; unfold beaB; simp_all)), (s1_49).trans (s1_44).symm, (s2_49).trans (s2_44).symm, (s6_49).trans (s6_44).symm, rfl⟩
         · rintro e_46 _ ⟨s105_46, k1_46, k2_46, k6_46, rfl⟩
           have s1_46 := k1_46.trans s1_44
           have s2_46 := k2_46.trans s2_44
           have s6_46 := k6_46.trans s6_44
           refine aw_case s105_46 (fun hq_50 => ?_) (fun hq_50 => ?_)
           ·replace hq_50 := bt' hq_50
            refine aw_seq <| at_ <| ar (ro_move s6_46) rfl <| ar (ro_build (evP_cons ev_c (evP_cons up_h evP_nil)) qbz121 qbu121 qbp121 rfl) rfl ?_
            refine al_stm (st_store (u2 rfl s2_46) up_h rfl rfl mo1_43 qsz121 rfl (nle rfl)) trivial rfl (fun m_51 hm_51 => ?_)
            have mo1_51 := m_set hm_51 mo1_43
            simp only [pS, Value.cells, Nat.reduceAdd, jnE] at mo1_51
            have mo0_51 := m_set_o hm_51 mo0_43 (by decide)
            have ml_51 := m_set_l hm_51 ml_43
            clear hm_51 mo1_43 mo0_43
            refine ar (ro_assign ev_c) rfl <| ae2 (up_m rfl (up_n (u2 rfl s2_46))) up_h ?_; clear s105_46 s1_46 s2_46 s6_46; intro e_52 s2_52 s3_52
            refine then_n <| aw_ret <| block_r <| then_r <| then_r <| block_r <| then_r <| ret2 (.inr rfl) (by kernel_rfl) (resV_cell s2_52 mo1_51 y10_ty121 (nle rfl) (by simp)) (resV_tmp s3_52) (vw_r (.ro _ rfl)) (.ro _ rfl) ?_
            clear s2_52 s3_52 mo1_51 mo0_51 ml_51
            (have e : beaE (l.bs.getD k2.toNat default) = 2 := (by unfold beaE; rw [‹beaB _ = false›]; rfl); rw [hin, lisM_miss (fun j hj => p3 j (by omega)), lisM_hit (i := k2.toNat) q3 (by rw [e]; decide) (by omega), e]; (first | (simp only [Int.toNat_of_nonneg q1]; done) | (simp only [Int.toNat_of_nonneg q1]; rfl)))
           replace hq_50 := bf' hq_50
           refine aw_skip <| block_n <| then_n <| at_ <| ar (ro_move s6_46) rfl ?_
           (refine ar (ro_add' up_h ev_c ?_) rfl ?_; · (unfold In64; omega))
           refine ar (ro_assign up_h) rfl <| ae3 (up_m rfl (u2 rfl s1_46)) (up_m rfl (u2 rfl s2_46)) up_h ?_; clear s105_46 s1_46 s2_46 s6_46; intro e_53 s1_53 s2_53 s6_53
           refine then_n <| ⟨_, ⟨s6_53, (s1_53.trans s1_42.symm), (s2_53.trans s2_42.symm), (mo1_43.trans mo1_20.symm), (mo0_43.trans mo0_20.symm), ml_43, ?_⟩, ?_⟩
           · (refine ⟨by omega, by omega, fun j hj => ?_⟩; by_cases hji : j < k2.toNat; (exact q3 j hji); (rw [show j = k2.toNat by omega]; unfold beaE; rw [‹beaB _ = true›, if_pos rfl]))
           · ((try dsimp only); omega)
        replace hq_45 := bf hq_45
        refine aw_exit <| then_x <| then_x <| block_hit <| then_n <| aw_seq <| aw_seq <| at_ <| ar (ro_fld_ptr qfl26_3 rfl s1_44) rfl <| ar (ro_eq (ro_ld_ptr y10_ty24 rfl mo0_43 up_h (nle rfl)) (by simp only [pS, Value.cells, Nat.reduceAdd, jnE] <;> rfl)) rfl ?_
        refine ar (ro_eq (ro_len_row up_h rfl y10_sl24.1) (by simp only [lnS] <;> rfl)) rfl ?_
        refine ar (ro_gtr up_h ev_c) rfl <| ae3 (u4 rfl s1_44) (u4 rfl s2_44) up_h ?_; clear s1_44 s2_44 s6_44 s85_44; intro e_54 s1_54 s2_54 s111_54
        refine then_n <| aw_case s111_54 (fun hq_55 => ?_) (fun hq_55 => ?_)
        ·replace hq_55 := bt hq_55
         refine aw_seq <| at_ <| ar (ro_build evP_nil qbz121 qbu121 qbp121 rfl) rfl ?_
         refine al_stm (st_store (up_m rfl s2_54) up_h rfl rfl mo1_43 qsz121 rfl (nle rfl)) trivial rfl (fun m_56 hm_56 => ?_)
         have mo1_56 := m_set hm_56 mo1_43
         simp only [pS, Value.cells, Nat.reduceAdd, jnE] at mo1_56
         have mo0_56 := m_set_o hm_56 mo0_43 (by decide)
         have ml_56 := m_set_l hm_56 ml_43
         clear hm_56 mo1_43 mo0_43
         refine ar (ro_assign ev_c) rfl <| ae2 (up_m rfl (up_n (up_m rfl s2_54))) up_h ?_; clear s111_54 s1_54 s2_54; intro e_57 s2_57 s3_57
         refine then_n <| aw_ret <| then_r <| ret2 (.inr rfl) (by kernel_rfl) (resV_cell s2_57 mo1_56 y10_ty121 (nle rfl) (by simp)) (resV_tmp s3_57) (vw_r (.ro _ rfl)) (.ro _ rfl) ?_
         clear s2_57 s3_57 mo1_56 mo0_56 ml_56
         (rw [hin, lisM_miss (fun j hj => p3 j (by omega)), lisM_miss (fun j hj => q3 j (by omega)), if_pos (by omega)]; rfl)
        replace hq_55 := bf hq_55
        refine aw_skip <| then_n <| aw_seq <| aw_seq <| at_ <| ar (ro_assign ev_c) rfl <| ae3 (up_m rfl s1_54) (up_m rfl s2_54) up_h ?_; clear s111_54 s1_54 s2_54; intro e_58 s1_58 s2_58 s7_58
        refine then_n <| aw_block <| aw_loop (S := Int) (fun k3 e mem => (evA e (.tmp 7) = .v (.int .i64 k3)) ∧ (evA e (.tmp 1) = evA e_58 (.tmp 1)) ∧ (evA e (.tmp 2) = evA e_58 (.tmp 2)) ∧ (mem[1]? = m_43[1]?) ∧ (mem[0]? = m_43[0]?) ∧ (mem.length = n_20) ∧ ((0 ≤ k3 ∧ k3 ≤ l.ss.length ∧ ∀ j : Nat, j < k3.toNat → swiE l j = 0))) (fun k3 => (l.ss.length - k3).toNat) _ ⟨s7_58, rfl, rfl, rfl, rfl, ml_43, ?_⟩ ?_
        · (exact ⟨by omega, by omega, fun j h => absurd h (by omega)⟩)
        · rintro k3 e_59 m_59 ⟨s7_59, k1_59, k2_59, mk1_59, mk0_59, ml_59, hinv⟩
          have s1_59 := k1_59.trans s1_58
          have s2_59 := k2_59.trans s2_58
          have mo1_59 := mk1_59.trans mo1_43
          have mo0_59 := mk0_59.trans mo0_43
          (obtain ⟨r1, r2, r3⟩ := hinv)
          refine aw_seq <| aw_seq <| at_ <| ar (ro_move s7_59) rfl <| ar (ro_fld_ptr qfl26_3 rfl (up_m rfl s1_59)) rfl <| ar (ro_eq (ro_ld_ptr y10_ty24 rfl mo0_59 up_h (nle rfl)) (by simp only [pS, Value.cells, Nat.reduceAdd, jnE] <;> rfl)) rfl ?_
          refine ar (ro_eq (ro_len_row up_h rfl y10_sl24.1) (by simp only [lnS] <;> rfl)) rfl ?_
          refine ar (ro_lss (up_m rfl (u2 rfl up_h)) up_h) rfl <| ae4 (up_m rfl (u4 rfl s1_59)) (up_m rfl (u4 rfl s2_59)) (up_m rfl (u4 rfl s7_59)) up_h ?_; clear s1_59 s2_59 s7_59; intro e_60 s1_60 s2_60 s7_60 s117_60
          refine then_n <| aw_case s117_60 (fun hq_61 => ?_) (fun hq_61 => ?_)
          ·replace hq_61 := bt hq_61
           refine aw_skip <| then_n <| aw_seq <| aw_block <| aw_seq <| at_ <| ar (ro_eq (ro_ld_ptr y10_ty26 rfl mo0_59 s1_60 (nle rfl)) (by simp only [pS, Value.cells, Nat.reduceAdd, jnE] <;> rfl)) rfl ?_
           refine ar (ro_move (up_m rfl s7_60)) rfl <| ar (ro_call (evL_cons (up_m rfl up_h) (evL_cons up_h evL_nil)) rfl (rSwitch_ok l hl k3 ⟨by omega, by omega⟩) y10_hcf129) rfl ?_
           refine ar (ro_assign up_h) rfl <| ae4 (u4 rfl s1_60) (u4 rfl s2_60) (u4 rfl s7_60) up_h ?_; clear s117_60 s1_60 s2_60 s7_60; intro e_62 s1_62 s2_62 s7_62 s8_62
           refine then_n <| aw_seq <| at_ <| ar (ro_move s8_62) rfl <| ar (ro_neq up_h ev_c) rfl <| ae5 (u2 rfl s1_62) (u2 rfl s2_62) (u2 rfl s7_62) (u2 rfl s8_62) up_h ?_; clear s1_62 s2_62 s7_62 s8_62; intro e_63 s1_63 s2_63 s7_63 s8_63 s124_63
           refine then_n <| aw_case s124_63 (fun hq_64 => ?_) (fun hq_64 => ?_)
           ·replace hq_64 := bnt hq_64
            refine aw_seq <| at_ <| ar (ro_move s7_63) rfl <| ar (ro_build (evP_cons ev_c (evP_cons up_h evP_nil)) qbz121 qbu121 qbp121 rfl) rfl ?_
            refine ar (ro_move (u2 rfl s8_63)) rfl <| al_stm (st_store (up_m rfl (u2 rfl s2_63)) (up_m rfl up_h) rfl rfl mo1_59 qsz121 rfl (nle rfl)) trivial rfl (fun m_65 hm_65 => ?_)
            have mo1_65 := m_set hm_65 mo1_59
            simp only [pS, Value.cells, Nat.reduceAdd, jnE] at mo1_65
            have mo0_65 := m_set_o hm_65 mo0_59 (by decide)
            have ml_65 := m_set_l hm_65 ml_59
            clear hm_65 mo1_59 mo0_59
            refine ar (ro_assign (up_n up_h)) rfl <| ae2 (up_m rfl (up_n (up_m rfl (u2 rfl s2_63)))) up_h ?_; clear s124_63 s1_63 s2_63 s7_63 s8_63; intro e_66 s2_66 s3_66
            refine then_n <| aw_ret <| block_r <| then_r <| then_r <| block_r <| then_r <| ret2 (.inr rfl) (by kernel_rfl) (resV_cell s2_66 mo1_65 y10_ty121 (nle rfl) (by simp)) (resV_tmp s3_66) (vw_r (.ro _ rfl)) (.ro _ rfl) ?_
            clear s2_66 s3_66 mo1_65 mo0_65 ml_65
            (rw [hin, lisM_miss (fun j hj => p3 j (by omega)), lisM_miss (fun j hj => q3 j (by omega)), if_neg (by omega), lisM_hit (i := k3.toNat) r3 (by assumption) (by omega)]; (first | (simp only [Int.toNat_of_nonneg r1]; done) | (simp only [Int.toNat_of_nonneg r1]; rfl)))
           replace hq_64 := bnf hq_64
           refine aw_skip <| block_n <| then_n <| at_ <| ar (ro_move s7_63) rfl ?_
           (refine ar (ro_add' up_h ev_c ?_) rfl ?_; · (unfold In64; omega))
           refine ar (ro_assign up_h) rfl <| ae3 (up_m rfl (u2 rfl s1_63)) (up_m rfl (u2 rfl s2_63)) up_h ?_; clear s124_63 s1_63 s2_63 s7_63 s8_63; intro e_67 s1_67 s2_67 s7_67
           refine then_n <| ⟨_, ⟨s7_67, (s1_67.trans s1_58.symm), (s2_67.trans s2_58.symm), (mo1_59.trans mo1_43.symm), (mo0_59.trans mo0_43.symm), ml_59, ?_⟩, ?_⟩
           · (refine ⟨by omega, by omega, fun j hj => ?_⟩; by_cases hji : j < k3.toNat; (exact r3 j hji); (rw [show j = k3.toNat by omega]; assumption))
           · ((try dsimp only); omega)
          replace hq_61 := bf hq_61
          refine aw_exit <| then_x <| then_x <| block_hit <| then_n <| aw_seq <| at_ <| ar (ro_build evP_nil qbz121 qbu121 qbp121 rfl) rfl ?_
          refine al_stm (st_store (up_m rfl s2_60) up_h rfl rfl mo1_59 qsz121 rfl (nle rfl)) trivial rfl (fun m_68 hm_68 => ?_)
          have mo1_68 := m_set hm_68 mo1_59
          simp only [pS, Value.cells, Nat.reduceAdd, jnE] at mo1_68
          have mo0_68 := m_set_o hm_68 mo0_59 (by decide)
          have ml_68 := m_set_l hm_68 ml_59
          clear hm_68 mo1_59 mo0_59
          refine ar (ro_assign ev_c) rfl <| ae2 (up_m rfl (up_n (up_m rfl s2_60))) up_h ?_; clear s117_60 s1_60 s2_60 s7_60; intro e_69 s2_69 s3_69
          refine then_n <| aw_ret <| ret2 (.inr rfl) (by kernel_rfl) (resV_cell s2_69 mo1_68 y10_ty121 (nle rfl) (by simp)) (resV_tmp s3_69) (vw_r (.ro _ rfl)) (.ro _ rfl) ?_
          clear s2_69 s3_69 mo1_68 mo0_68 ml_68
          (rw [hin, lisM_miss (fun j hj => p3 j (by omega)), lisM_miss (fun j hj => q3 j (by omega)), if_neg (by omega), lisM_miss (fun j hj => r3 j (by omega))]; rfl)
end Go.Proofs.Ytonjcljnpcmenaa

/- Contracts of chapter 1: few items; the document's places. No conditions on a program. -/
namespace Go.Proofs.Ytonjcljnpcmenaa
open Go Go.RowKit Go.Proofs
set_option linter.unusedSimpArgs false
set_option linter.unusedVariables false
theorem y11_hcf70 : ∀ args w, (callFunc 70 args).run Try.prog w = .ok (.enter 70 args) w := fun _ _ => by kernel_rfl
theorem y11_ty26 : TyIs Try.prog 26 true 4 := ⟨by kernel_rfl, by kernel_rfl⟩
set_option maxRecDepth 100000 in
set_option maxHeartbeats 1000000 in
theorem lineErr_ok (l : Lin) (hl : Sho l) : FnOk Try.prog 14 [lnA l] (fun q => q = mA (linM l).2) := by
  refine fnOk_of (fn := Try.f14) 11 (by kernel_rfl) rfl (by kernel_rfl) (Nat.le_of_ble_eq_true rfl) ?_
  intro e_0 m_0 hA hm_0
  have s0_0 : evA e_0 (.tmp 0) = _ := hA 0 _ rfl
  have ml_0 : m_0.length = 0 := by rw [hm_0]; rfl
  clear hA hm_0
  refine aw_seq <| at_ <| al_stm (st_box s0_0 rfl ml_0) trivial rfl (fun m_1 hm_1 => ?_)
  have mo0_1 := m_push hm_1 ml_0
  have ml_1 := m_push_l hm_1 ml_0
  have ml_1 : _ = 1 := ml_1
  clear hm_1
  refine ar (ro_assign ev_c) rfl <| ae1 (up_m rfl up_h) ?_; clear s0_0; intro e_2 s1_2
  refine then_n <| aw_seq <| at_ <| ar (ro_eq (ro_ld_ptr y11_ty26 rfl mo0_1 s1_2 (nle rfl)) (by simp only [pS, Value.cells, Nat.reduceAdd] <;> rfl)) rfl ?_
  refine ar (ro_call (evL_cons up_h evL_nil) rfl (rCheckLine_ok l hl) y11_hcf70) rfl <| ar (ro_move up_h) rfl <| ar (ro_extract up_h rfl) rfl <| ar (ro_extract (up_m rfl up_h) rfl) rfl <| al_stm (st_alloc qaz121 rfl ml_1) trivial rfl (fun m_3 hm_3 => ?_)
  have mo1_3 := m_push hm_3 ml_1
  simp only [pS, Value.cells, Nat.reduceAdd] at mo1_3
  have mo0_3 := m_push_o hm_3 mo0_1
  have ml_3 := m_push_l hm_3 ml_1
  have ml_3 : _ = 2 := ml_3
  clear hm_3 mo0_1
  refine al_stm (st_store up_h (u2 rfl up_h) rfl rfl mo1_3 qsz121 rfl (nle rfl)) trivial rfl (fun m_4 hm_4 => ?_)
  have mo1_4 := m_set hm_4 mo1_3
  simp only [pS, Value.cells, Nat.reduceAdd] at mo1_4
  have mo0_4 := m_set_o hm_4 mo0_3 (by decide)
  have ml_4 := m_set_l hm_4 ml_3
  clear hm_4 mo1_3 mo0_3
  refine ar (ro_assign (up_n (up_m rfl up_h))) rfl <| ae1 up_h ?_; clear s1_2; intro e_5 s4_5
  refine then_n <| aw_seq <| at_ <| ar (ro_move s4_5) rfl <| ar (ro_assign up_h) rfl <| ae1 up_h ?_; clear s4_5; intro e_6 s2_6
  refine then_n <| aw_ret <| ret1 (.inr rfl) (by kernel_rfl) (resV_tmp s2_6) (.ro _ rfl) ?_
  clear s2_6 mo1_4 mo0_4 ml_4
  rfl
def misE (n lo hi : Int) : Int := if withinB n lo hi then 0 else 6
/-- The place of a joint. -/
def plaP (bs : List Bea) : Nat → Int
  | 0 => 0
  | n + 1 => plaP bs n + (bs.getD n default).len
theorem plaP_bd {bs : List Bea} (h : ∀ j : Nat, j < bs.length → 0 ≤ (bs.getD j default).len ∧ (bs.getD j default).len ≤ 30000) : ∀ {n : Nat}, n ≤ bs.length → 0 ≤ plaP bs n ∧ plaP bs n ≤ 30000 * n
  | 0, _ => by simp [plaP]
  | n + 1, hn => by
    have h1 := plaP_bd h (n := n) (by omega)
    have h2 := h n (by omega)
    simp only [plaP]; omega
end Go.Proofs.Ytonjcljnpcmenaa

