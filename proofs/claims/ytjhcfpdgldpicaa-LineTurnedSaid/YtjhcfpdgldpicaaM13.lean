/- Texts of this claim, one behind the other: lemmas for the statement. -/
import Derived.Test.YtjhcfpdgldpicaaT0
import Derived.Test.YtjhcfpdgldpicaaA42
import Derived.Test.YtjhcfpdgldpicaaM8
import Derived.Test.YtjhcfpdgldpicaaM12
import Derived.Test.YtjhcfpdgldpicaaM10
set_option linter.unusedSimpArgs false
set_option linter.unusedVariables false
namespace Go.Proofs.Ytjhcfpdgldpicaa
open Go Go.RowKit Go.Proofs
theorem y80_sl40 : SlIs Try.prog 40 3 1 8 (.int .i64 0) := ⟨by kernel_rfl, by kernel_rfl, by kernel_rfl⟩
theorem y80_ty3 : TyIs Try.prog 3 false 1 := ⟨by kernel_rfl, by kernel_rfl⟩
section
variable {α : Type} [Inhabited α]
def rvK (l : List α) (k : Nat) : List α := (List.range l.length).map fun q => if q < k ∨ l.length - k ≤ q then l.getD (l.length - 1 - q) default else l.getD q default
theorem rvK_len (l : List α) (k : Nat) : (rvK l k).length = l.length := by unfold rvK; simp
theorem rvK_at (l : List α) (k : Nat) {q : Nat} (hq : q < l.length) : (rvK l k).getD q default = if q < k ∨ l.length - k ≤ q then l.getD (l.length - 1 - q) default else l.getD q default := by
 unfold rvK
 rw [List.getD_eq_getElem?_getD, List.getElem?_map, List.getElem?_range hq]; rfl
theorem rvK_zero (l : List α) : rvK l 0 = l := by
 apply List.ext_getElem (rvK_len l 0)
 intro q h1 h2
 have := rvK_at l 0 h2
 rw [List.getD_eq_getElem?_getD, List.getElem?_eq_getElem h1, if_neg (by omega), List.getD_eq_getElem?_getD, List.getElem?_eq_getElem h2] at this
 exact this
theorem rvK_step (l : List α) {k : Nat} (h : k < l.length - 1 - k) : ((rvK l k).set k ((rvK l k).getD (l.length - 1 - k) default)).set (l.length - 1 - k) ((rvK l k).getD k default) = rvK l (k + 1) := by
 have hl := rvK_len l k
 have ha := rvK_at l k (by omega : l.length - 1 - k < l.length)
 have hb := rvK_at l k (by omega : k < l.length)
 generalize (rvK l k).getD (l.length - 1 - k) default = a at ha ⊢
 generalize (rvK l k).getD k default = b at hb ⊢
 apply List.ext_getElem (by simp [rvK_len])
 intro q h1 h2
 rw [rvK_len] at h2
 have e1 := rvK_at l (k + 1) h2
 rw [List.getD_eq_getElem?_getD, List.getElem?_eq_getElem (by rw [rvK_len]; exact h2)] at e1
 rw [show (rvK l (k + 1))[q] = _ from e1, List.getElem_set, List.getElem_set]
 have e2 := rvK_at l k h2
 rw [List.getD_eq_getElem?_getD, List.getElem?_eq_getElem (by rw [rvK_len]; exact h2)] at e2
 rw [show (rvK l k)[q] = _ from e2]
 by_cases c1 : l.length - 1 - k = q
 ·subst c1
  rw [if_pos rfl, hb, if_neg (by omega), if_pos (by omega)]
  congr 1; omega
 ·rw [if_neg c1]
  by_cases c2 : k = q
  ·subst c2
   rw [if_pos rfl, ha, if_neg (by omega), if_pos (by omega)]
  ·rw [if_neg c2]
   by_cases c3 : q < k ∨ l.length - k ≤ q
   ·rw [if_pos c3, if_pos (by omega)]
   ·rw [if_neg c3, if_neg (by omega)]
theorem rvK_rev (l : List α) {k : Nat} (h : l.length - 1 - k ≤ k) : rvK l k = l.reverse := by
 apply List.ext_getElem (by simp [rvK_len])
 intro q h1 h2
 rw [rvK_len] at h1
 have e1 := rvK_at l k h1
 rw [List.getD_eq_getElem?_getD, List.getElem?_eq_getElem (by rw [rvK_len]; exact h1)] at e1
 rw [show (rvK l k)[q] = _ from e1, List.getElem_reverse]
 by_cases c : q < k ∨ l.length - k ≤ q
 ·rw [if_pos c, List.getD_eq_getElem?_getD, List.getElem?_eq_getElem (by omega)]; rfl
 ·rw [if_neg c, List.getD_eq_getElem?_getD, List.getElem?_eq_getElem (by omega)]
  have : q = l.length - 1 - q := by omega
  show l[q] = _
  congr 1
end
set_option maxRecDepth 100000 in
set_option maxHeartbeats 4000000 in
theorem revInts (xs : List Int) (hx : xs.length ≤ 1000000) : FnMu Try.prog [] 31 [.own 1] [.row 3 1 (xs.map iE)] (.tuple []) [.row 3 1 (xs.reverse.map iE)] := by
 refine fnMu_of (fn := Try.f31) [] 28 (by kernel_rfl) rfl (by kernel_rfl) (Nat.le_of_ble_eq_true rfl) ?_
 intro e_0 m_0 hA hm_0
 have s0_0 : evA e_0 (.tmp 0) = _ := hA 0 _ rfl
 have ml_0 : m_0.length = 2 := by rw [hm_0]; rfl
 have mo0_0 := m_in0 hm_0
 have mo1_0 := m_in1 hm_0
 clear hA hm_0
 refine aw_seq <| at_ <| ar (ro_move s0_0) rfl <| ar (ro_eq (ro_len_own up_h mo1_0 rfl y80_sl40.1) (by simp only [lnS] <;> rfl)) rfl ?_
 (refine ar (ro_sub' up_h ev_c ?_) rfl ?_; · (unfold In64; omega))
 refine ar (ro_assign ev_c) rfl <| ar (ro_assign (up_m rfl up_h)) rfl <| ae3 (up_m rfl (u4 rfl s0_0)) (up_m rfl up_h) up_h ?_; clear s0_0; intro e_1 s0_1 s2_1 s3_1
 refine then_n <| aw_block <| aw_loop (S := (Int × Int × List Int)) (fun s e mem => match s with | ⟨i, j, ys⟩ => (evA e (.tmp 2) = .v (.int .i64 i)) ∧ (evA e (.tmp 3) = .v (.int .i64 j)) ∧ (evA e (.tmp 0) = evA e_1 (.tmp 0)) ∧ (mem[1]? = some (.row 3 1 (ys.map iE))) ∧ (mem[0]? = m_0[0]?) ∧ (mem.length = 2) ∧ ((0 ≤ i ∧ i + j = xs.length - 1 ∧ i ≤ xs.length ∧ ys = rvK xs i.toNat))) (fun s => match s with | ⟨i, j, ys⟩ => (j - i + 1).toNat) ⟨_, _, xs⟩ ⟨s2_1, s3_1, rfl, mo1_0, rfl, ml_0, ?_⟩ ?_
 ·exact ⟨by omega, by omega, by omega, (rvK_zero xs).symm⟩
 ·rintro ⟨i, j, ys⟩ e_2 m_2 ⟨s2_2, s3_2, k0_2, mo1_2, mk0_2, ml_2, hinv⟩
  have s0_2 := k0_2.trans s0_1
  have mo0_2 := mk0_2.trans mo0_0
  (obtain ⟨p1, p2, p4, p3⟩ := hinv; have hyl : ys.length = xs.length := (by rw [p3, rvK_len]))
  refine aw_seq <| aw_seq <| at_ <| ar (ro_move s2_2) rfl <| ar (ro_move (up_m rfl s3_2)) rfl <| ar (ro_lss (up_m rfl up_h) up_h) rfl <| ae4 (up_m rfl (u2 rfl s0_2)) (up_m rfl (u2 rfl s2_2)) (up_m rfl (u2 rfl s3_2)) up_h ?_; clear s0_2 s2_2 s3_2; intro e_3 s0_3 s2_3 s3_3 s9_3
  refine then_n <| aw_case s9_3 (fun hq_4 => ?_) (fun hq_4 => ?_)
  ·replace hq_4 := bt hq_4
   refine aw_skip <| then_n <| aw_seq <| aw_block <| aw_drawK 14 0 ml_2 (by kernel_rfl) (by kernel_rfl) (by kernel_rfl) (by kernel_rfl) (fun m_5 hm_5 => ?_)
   have mo1_5 := m_room_o hm_5 mo1_2
   have mo0_5 := m_room_o hm_5 mo0_2
   have ml_5 : _ = 2 := m_room_l (K := 0) hm_5 ml_2
   clear hm_5 mo1_2 mo0_2 ml_2
   refine dh_ro (fun M_ hM_ => (ro_move s0_3)) trivial ?_
   refine dh_ro (fun M_ hM_ => (ro_move (up_m rfl s2_3))) trivial ?_
   refine dh_ro (fun M_ hM_ => (ro_move (u2 rfl s0_3))) trivial ?_
   refine dh_ro (fun M_ hM_ => (ro_move (up_m rfl (u2 rfl s3_3)))) trivial ?_
   refine dh_ro (fun M_ hM_ => (ro_move (u4 rfl s0_3))) trivial ?_
   refine dh_ro (fun M_ hM_ => (ro_move (up_m rfl (u4 rfl s3_3)))) trivial ?_
   refine dh_ld (1) (fun M_ hM_ => (ro_ix_own y80_sl40 (agr hM_ mo1_5 (by simp)) (up_m rfl up_h) up_h (by omega) (by simp only [lnS] <;> omega))) trivial trivial ?_
   refine dh_ld (1) (fun M_ hM_ => (ro_eq (ro_ld_el y80_ty3 rfl (agr hM_ mo1_5 (by simp)) up_h (nle rfl) (by first | (refine idx_map ?_; first | omega | (simp only [lnS]; omega)) | (refine idx_mapI ?_; first | omega | (simp only [lnS]; omega)) | (refine idx_mapN ?_; first | omega | (simp only [lnS]; omega)) | rfl)) (by simp only [pS, Value.cells, Nat.reduceAdd, set_iE] <;> rfl))) trivial trivial ?_
   refine dh_ro (fun M_ hM_ => (ro_move (u8 rfl s0_3))) trivial ?_
   refine dh_ro (fun M_ hM_ => (ro_move (up_m rfl (u8 rfl s2_3)))) trivial ?_
   refine dh_ld (1) (fun M_ hM_ => (ro_ix_own y80_sl40 (agr hM_ mo1_5 (by simp)) (up_m rfl up_h) up_h (by omega) (by simp only [lnS] <;> omega))) trivial trivial ?_
   refine dh_ld (1) (fun M_ hM_ => (ro_eq (ro_ld_el y80_ty3 rfl (agr hM_ mo1_5 (by simp)) up_h (nle rfl) (by first | (refine idx_map ?_; first | omega | (simp only [lnS]; omega)) | (refine idx_mapI ?_; first | omega | (simp only [lnS]; omega)) | (refine idx_mapN ?_; first | omega | (simp only [lnS]; omega)) | rfl)) (by simp only [pS, Value.cells, Nat.reduceAdd, set_iE] <;> rfl))) trivial trivial ?_
   refine dh_ld (1) (fun M_ hM_ => (ro_ix_own y80_sl40 (agr hM_ mo1_5 (by simp)) (up_m rfl (u2 rfl (u8 rfl up_h))) (u2 rfl (u8 rfl up_h)) (by omega) (by simp only [lnS] <;> omega))) trivial trivial ?_
   refine dh_set (1) (fun M_ hM_ => (se_store_el up_h (up_m rfl (u4 rfl up_h)) rfl rfl rfl (agr hM_ mo1_5 (by simp)) (Nat.add_zero _).symm (by first | (refine idx_map ?_; first | omega | (simp only [lnS]; omega)) | (refine idx_mapI ?_; first | omega | (simp only [lnS]; omega)) | (refine idx_mapN ?_; first | omega | (simp only [lnS]; omega)) | rfl) qsz3 rfl (nle rfl))) trivial trivial ⟨.inr (wt_one 13 6 (by kernel_rfl)), ⟨.inr (wt_one 13 7 (by kernel_rfl)), ⟨.inr ((wt_one 13 11 (by kernel_rfl)).trans (wt_one 11 10 (by kernel_rfl))), ⟨.inr (wt_one 13 11 (by kernel_rfl)), ⟨.inr (wt_one 13 12 (by kernel_rfl)), trivial⟩⟩⟩⟩⟩ (fun m_6 hm_6 => ?_)
   have mo1_6 := m_set hm_6 mo1_5
   simp only [pS, Value.cells, Nat.reduceAdd, set_iE] at mo1_6
   have mo0_6 := m_set_o hm_6 mo0_5 (by decide)
   have ml_6 := m_set_l hm_6 ml_5
   clear hm_6 mo1_5 mo0_5
   refine dh_nil rfl ?_
   refine ar (ro_ix_own y80_sl40 mo1_6 (up_n (u2 rfl (u8 rfl up_h))) (up_n (up_m rfl (u8 rfl up_h))) (by omega) (by simp only [lnS] <;> omega)) rfl ?_
   refine al_stm (st_store_el up_h (up_m rfl (up_n (up_m rfl up_h))) rfl rfl rfl mo1_6 (Nat.add_zero _).symm (by refine idx_mapI ?_; first | omega | (simp only [lnS]; omega)) qsz3 rfl (nle rfl)) trivial rfl (fun m_7 hm_7 => ?_)
   have mo1_7 := m_set hm_7 mo1_6
   simp only [pS, Value.cells, Nat.reduceAdd, set_iE] at mo1_7
   have mo0_7 := m_set_o hm_7 mo0_6 (by decide)
   have ml_7 := m_set_l hm_7 ml_6
   clear hm_7 mo1_6 mo0_6
   refine ae3 (up_n (up_m rfl (up_n (up_m rfl (u4 rfl (u8 rfl s0_3)))))) (up_n (up_m rfl (up_n (up_m rfl (u4 rfl (u8 rfl s2_3)))))) (up_n (up_m rfl (up_n (up_m rfl (u4 rfl (u8 rfl s3_3)))))) ?_; clear s0_3 s2_3 s3_3 s9_3; intro e_8 s0_8 s2_8 s3_8
   refine block_n <| then_n <| at_ <| ar (ro_move s2_8) rfl ?_
   (refine ar (ro_add' up_h ev_c ?_) rfl ?_; · (unfold In64; omega))
   refine ar (ro_move (u2 rfl s3_8)) rfl ?_
   (refine ar (ro_sub' up_h ev_c ?_) rfl ?_; · (unfold In64; omega))
   refine ar (ro_assign (u2 rfl up_h)) rfl <| ar (ro_assign (up_m rfl up_h)) rfl <| ae3 (u2 rfl (u4 rfl s0_8)) (up_m rfl up_h) up_h ?_; clear s0_8 s2_8 s3_8; intro e_9 s0_9 s2_9 s3_9
   refine then_n <| ⟨⟨_, _, _⟩, ⟨s2_9, s3_9, (s0_9.trans s0_1.symm), mo1_7, (mo0_7.trans mo0_0.symm), ml_7, ?_⟩, ?_⟩
   ·(refine ⟨by omega, by omega, by omega, ?_⟩; have hs := rvK_step xs (k := i.toNat) (by omega); rw [← p3] at hs; rw [show (i + 1).toNat = i.toNat + 1 by omega, ← hs, show xs.length - 1 - i.toNat = j.toNat by omega])
   ·((try dsimp only); omega)
  replace hq_4 := bf hq_4
  refine aw_exit <| then_x <| then_x <| block_hit <| muQ_eq (.inl rfl) [1] ml_2 mo0_2 (by decide) rfl (resM0 (by kernel_rfl)) (emb_ob mo1_2 ?_ .nil) ?_
  all_goals ((first | rfl | (rw [p3, rvK_rev xs (by omega)]; rfl)))
end Go.Proofs.Ytjhcfpdgldpicaa
namespace Go.Proofs.Ytjhcfpdgldpicaa
open Go Go.RowKit Go.Proofs
theorem y81_sl22 : SlIs Try.prog 22 66 4 32 (.agg #[.int .i64 0, .int .i64 0, .int .i64 0, .int .i64 0]) := ⟨by kernel_rfl, by kernel_rfl, by kernel_rfl⟩
theorem y81_sl23 : SlIs Try.prog 23 69 2 16 (.agg #[.int .i64 0, .int .i64 0]) := ⟨by kernel_rfl, by kernel_rfl, by kernel_rfl⟩
theorem y81_ty66 : TyIs Try.prog 66 true 4 := ⟨by kernel_rfl, by kernel_rfl⟩
theorem y81_ty69 : TyIs Try.prog 69 true 2 := ⟨by kernel_rfl, by kernel_rfl⟩
theorem set_jnF (js : List Jnt) (i : Nat) (a : Jnt) : (js.map jnE).set i [AV.v (.int .i64 a.acr), AV.v (.int .i64 a.up), AV.v (.int .i64 a.lo), AV.v (.int .i64 a.hi)] = (js.set i a).map jnE := by simp [List.map_set, jnE]
theorem set_beF (bs : List Bea) (i : Nat) (a : Bea) : (bs.map beE).set i [AV.v (.int .i64 a.len), AV.v (.int .i64 a.cant)] = (bs.set i a).map beE := by simp [List.map_set, beE]
set_option maxRecDepth 100000 in
set_option maxHeartbeats 4000000 in
theorem revJoints (xs : List Jnt) (hx : xs.length ≤ 1000000) : FnMu Try.prog [] 29 [.own 1] [.row 66 4 (xs.map jnE)] (.tuple []) [.row 66 4 (xs.reverse.map jnE)] := by
 refine fnMu_of (fn := Try.f29) [] 28 (by kernel_rfl) rfl (by kernel_rfl) (Nat.le_of_ble_eq_true rfl) ?_
 intro e_0 m_0 hA hm_0
 have s0_0 : evA e_0 (.tmp 0) = _ := hA 0 _ rfl
 have ml_0 : m_0.length = 2 := by rw [hm_0]; rfl
 have mo0_0 := m_in0 hm_0
 have mo1_0 := m_in1 hm_0
 clear hA hm_0
 refine aw_seq <| at_ <| ar (ro_move s0_0) rfl <| ar (ro_eq (ro_len_own up_h mo1_0 rfl y81_sl22.1) (by simp only [lnS] <;> rfl)) rfl ?_
 (refine ar (ro_sub' up_h ev_c ?_) rfl ?_; · (unfold In64; omega))
 refine ar (ro_assign ev_c) rfl <| ar (ro_assign (up_m rfl up_h)) rfl <| ae3 (up_m rfl (u4 rfl s0_0)) (up_m rfl up_h) up_h ?_; clear s0_0; intro e_1 s0_1 s2_1 s3_1
 refine then_n <| aw_block <| aw_loop (S := (Int × Int × List Jnt)) (fun s e mem => match s with | ⟨i, j, ys⟩ => (evA e (.tmp 2) = .v (.int .i64 i)) ∧ (evA e (.tmp 3) = .v (.int .i64 j)) ∧ (evA e (.tmp 0) = evA e_1 (.tmp 0)) ∧ (mem[1]? = some (.row 66 4 (ys.map jnE))) ∧ (mem[0]? = m_0[0]?) ∧ (mem.length = 2) ∧ ((0 ≤ i ∧ i + j = xs.length - 1 ∧ i ≤ xs.length ∧ ys = rvK xs i.toNat))) (fun s => match s with | ⟨i, j, ys⟩ => (j - i + 1).toNat) ⟨_, _, xs⟩ ⟨s2_1, s3_1, rfl, mo1_0, rfl, ml_0, ?_⟩ ?_
 ·exact ⟨by omega, by omega, by omega, (rvK_zero xs).symm⟩
 ·rintro ⟨i, j, ys⟩ e_2 m_2 ⟨s2_2, s3_2, k0_2, mo1_2, mk0_2, ml_2, hinv⟩
  have s0_2 := k0_2.trans s0_1
  have mo0_2 := mk0_2.trans mo0_0
  (obtain ⟨p1, p2, p4, p3⟩ := hinv; have hyl : ys.length = xs.length := (by rw [p3, rvK_len]))
  refine aw_seq <| aw_seq <| at_ <| ar (ro_move s2_2) rfl <| ar (ro_move (up_m rfl s3_2)) rfl <| ar (ro_lss (up_m rfl up_h) up_h) rfl <| ae4 (up_m rfl (u2 rfl s0_2)) (up_m rfl (u2 rfl s2_2)) (up_m rfl (u2 rfl s3_2)) up_h ?_; clear s0_2 s2_2 s3_2; intro e_3 s0_3 s2_3 s3_3 s9_3
  refine then_n <| aw_case s9_3 (fun hq_4 => ?_) (fun hq_4 => ?_)
  ·replace hq_4 := bt hq_4
   refine aw_skip <| then_n <| aw_seq <| aw_block <| aw_drawK 14 0 ml_2 (by kernel_rfl) (by kernel_rfl) (by kernel_rfl) (by kernel_rfl) (fun m_5 hm_5 => ?_)
   have mo1_5 := m_room_o hm_5 mo1_2
   have mo0_5 := m_room_o hm_5 mo0_2
   have ml_5 : _ = 2 := m_room_l (K := 0) hm_5 ml_2
   clear hm_5 mo1_2 mo0_2 ml_2
   refine dh_ro (fun M_ hM_ => (ro_move s0_3)) trivial ?_
   refine dh_ro (fun M_ hM_ => (ro_move (up_m rfl s2_3))) trivial ?_
   refine dh_ro (fun M_ hM_ => (ro_move (u2 rfl s0_3))) trivial ?_
   refine dh_ro (fun M_ hM_ => (ro_move (up_m rfl (u2 rfl s3_3)))) trivial ?_
   refine dh_ro (fun M_ hM_ => (ro_move (u4 rfl s0_3))) trivial ?_
   refine dh_ro (fun M_ hM_ => (ro_move (up_m rfl (u4 rfl s3_3)))) trivial ?_
   refine dh_ld (1) (fun M_ hM_ => (ro_ix_own y81_sl22 (agr hM_ mo1_5 (by simp)) (up_m rfl up_h) up_h (by omega) (by simp only [lnS] <;> omega))) trivial trivial ?_
   refine dh_ld (1) (fun M_ hM_ => (ro_eq (ro_ld_el y81_ty66 rfl (agr hM_ mo1_5 (by simp)) up_h (nle rfl) (by first | (refine idx_map ?_; first | omega | (simp only [lnS]; omega)) | (refine idx_mapI ?_; first | omega | (simp only [lnS]; omega)) | (refine idx_mapN ?_; first | omega | (simp only [lnS]; omega)) | rfl)) (by simp only [pS, Value.cells, Nat.reduceAdd, jnE, set_jnF] <;> rfl))) trivial trivial ?_
   refine dh_ro (fun M_ hM_ => (ro_move (u8 rfl s0_3))) trivial ?_
   refine dh_ro (fun M_ hM_ => (ro_move (up_m rfl (u8 rfl s2_3)))) trivial ?_
   refine dh_ld (1) (fun M_ hM_ => (ro_ix_own y81_sl22 (agr hM_ mo1_5 (by simp)) (up_m rfl up_h) up_h (by omega) (by simp only [lnS] <;> omega))) trivial trivial ?_
   refine dh_ld (1) (fun M_ hM_ => (ro_eq (ro_ld_el y81_ty66 rfl (agr hM_ mo1_5 (by simp)) up_h (nle rfl) (by first | (refine idx_map ?_; first | omega | (simp only [lnS]; omega)) | (refine idx_mapI ?_; first | omega | (simp only [lnS]; omega)) | (refine idx_mapN ?_; first | omega | (simp only [lnS]; omega)) | rfl)) (by simp only [pS, Value.cells, Nat.reduceAdd, jnE, set_jnF] <;> rfl))) trivial trivial ?_
   refine dh_ld (1) (fun M_ hM_ => (ro_ix_own y81_sl22 (agr hM_ mo1_5 (by simp)) (up_m rfl (u2 rfl (u8 rfl up_h))) (u2 rfl (u8 rfl up_h)) (by omega) (by simp only [lnS] <;> omega))) trivial trivial ?_
   refine dh_set (1) (fun M_ hM_ => (se_store_el up_h (up_m rfl (u4 rfl up_h)) rfl rfl rfl (agr hM_ mo1_5 (by simp)) (Nat.add_zero _).symm (by first | (refine idx_map ?_; first | omega | (simp only [lnS]; omega)) | (refine idx_mapI ?_; first | omega | (simp only [lnS]; omega)) | (refine idx_mapN ?_; first | omega | (simp only [lnS]; omega)) | rfl) qsz66 rfl (nle rfl))) trivial trivial ⟨.inr (wt_one 13 6 (by kernel_rfl)), ⟨.inr (wt_one 13 7 (by kernel_rfl)), ⟨.inr ((wt_one 13 11 (by kernel_rfl)).trans (wt_one 11 10 (by kernel_rfl))), ⟨.inr (wt_one 13 11 (by kernel_rfl)), ⟨.inr (wt_one 13 12 (by kernel_rfl)), trivial⟩⟩⟩⟩⟩ (fun m_6 hm_6 => ?_)
   have mo1_6 := m_set hm_6 mo1_5
   simp only [pS, Value.cells, Nat.reduceAdd, jnE, set_jnF] at mo1_6
   have mo0_6 := m_set_o hm_6 mo0_5 (by decide)
   have ml_6 := m_set_l hm_6 ml_5
   clear hm_6 mo1_5 mo0_5
   refine dh_nil rfl ?_
   refine ar (ro_ix_own y81_sl22 mo1_6 (up_n (u2 rfl (u8 rfl up_h))) (up_n (up_m rfl (u8 rfl up_h))) (by omega) (by simp only [lnS] <;> omega)) rfl ?_
   refine al_stm (st_store_el up_h (up_m rfl (up_n (up_m rfl up_h))) rfl rfl rfl mo1_6 (Nat.add_zero _).symm (by refine idx_mapI ?_; first | omega | (simp only [lnS]; omega)) qsz66 rfl (nle rfl)) trivial rfl (fun m_7 hm_7 => ?_)
   have mo1_7 := m_set hm_7 mo1_6
   simp only [pS, Value.cells, Nat.reduceAdd, jnE, set_jnF] at mo1_7
   have mo0_7 := m_set_o hm_7 mo0_6 (by decide)
   have ml_7 := m_set_l hm_7 ml_6
   clear hm_7 mo1_6 mo0_6
   refine ae3 (up_n (up_m rfl (up_n (up_m rfl (u4 rfl (u8 rfl s0_3)))))) (up_n (up_m rfl (up_n (up_m rfl (u4 rfl (u8 rfl s2_3)))))) (up_n (up_m rfl (up_n (up_m rfl (u4 rfl (u8 rfl s3_3)))))) ?_; clear s0_3 s2_3 s3_3 s9_3; intro e_8 s0_8 s2_8 s3_8
   refine block_n <| then_n <| at_ <| ar (ro_move s2_8) rfl ?_
   (refine ar (ro_add' up_h ev_c ?_) rfl ?_; · (unfold In64; omega))
   refine ar (ro_move (u2 rfl s3_8)) rfl ?_
   (refine ar (ro_sub' up_h ev_c ?_) rfl ?_; · (unfold In64; omega))
   refine ar (ro_assign (u2 rfl up_h)) rfl <| ar (ro_assign (up_m rfl up_h)) rfl <| ae3 (u2 rfl (u4 rfl s0_8)) (up_m rfl up_h) up_h ?_; clear s0_8 s2_8 s3_8; intro e_9 s0_9 s2_9 s3_9
   refine then_n <| ⟨⟨_, _, _⟩, ⟨s2_9, s3_9, (s0_9.trans s0_1.symm), mo1_7, (mo0_7.trans mo0_0.symm), ml_7, ?_⟩, ?_⟩
   ·(refine ⟨by omega, by omega, by omega, ?_⟩; have hs := rvK_step xs (k := i.toNat) (by omega); rw [← p3] at hs; rw [show (i + 1).toNat = i.toNat + 1 by omega, ← hs, show xs.length - 1 - i.toNat = j.toNat by omega])
   ·((try dsimp only); omega)
  replace hq_4 := bf hq_4
  refine aw_exit <| then_x <| then_x <| block_hit <| muQ_eq (.inl rfl) [1] ml_2 mo0_2 (by decide) rfl (resM0 (by kernel_rfl)) (emb_ob mo1_2 ?_ .nil) ?_
  all_goals ((first | rfl | (rw [p3, rvK_rev xs (by omega)]; rfl)))
set_option maxRecDepth 100000 in
set_option maxHeartbeats 4000000 in
theorem revBeams (xs : List Bea) (hx : xs.length ≤ 1000000) : FnMu Try.prog [] 30 [.own 1] [.row 69 2 (xs.map beE)] (.tuple []) [.row 69 2 (xs.reverse.map beE)] := by
 refine fnMu_of (fn := Try.f30) [] 28 (by kernel_rfl) rfl (by kernel_rfl) (Nat.le_of_ble_eq_true rfl) ?_
 intro e_0 m_0 hA hm_0
 have s0_0 : evA e_0 (.tmp 0) = _ := hA 0 _ rfl
 have ml_0 : m_0.length = 2 := by rw [hm_0]; rfl
 have mo0_0 := m_in0 hm_0
 have mo1_0 := m_in1 hm_0
 clear hA hm_0
 refine aw_seq <| at_ <| ar (ro_move s0_0) rfl <| ar (ro_eq (ro_len_own up_h mo1_0 rfl y81_sl23.1) (by simp only [lnS] <;> rfl)) rfl ?_
 (refine ar (ro_sub' up_h ev_c ?_) rfl ?_; · (unfold In64; omega))
 refine ar (ro_assign ev_c) rfl <| ar (ro_assign (up_m rfl up_h)) rfl <| ae3 (up_m rfl (u4 rfl s0_0)) (up_m rfl up_h) up_h ?_; clear s0_0; intro e_1 s0_1 s2_1 s3_1
 refine then_n <| aw_block <| aw_loop (S := (Int × Int × List Bea)) (fun s e mem => match s with | ⟨i, j, ys⟩ => (evA e (.tmp 2) = .v (.int .i64 i)) ∧ (evA e (.tmp 3) = .v (.int .i64 j)) ∧ (evA e (.tmp 0) = evA e_1 (.tmp 0)) ∧ (mem[1]? = some (.row 69 2 (ys.map beE))) ∧ (mem[0]? = m_0[0]?) ∧ (mem.length = 2) ∧ ((0 ≤ i ∧ i + j = xs.length - 1 ∧ i ≤ xs.length ∧ ys = rvK xs i.toNat))) (fun s => match s with | ⟨i, j, ys⟩ => (j - i + 1).toNat) ⟨_, _, xs⟩ ⟨s2_1, s3_1, rfl, mo1_0, rfl, ml_0, ?_⟩ ?_
 ·exact ⟨by omega, by omega, by omega, (rvK_zero xs).symm⟩
 ·rintro ⟨i, j, ys⟩ e_2 m_2 ⟨s2_2, s3_2, k0_2, mo1_2, mk0_2, ml_2, hinv⟩
  have s0_2 := k0_2.trans s0_1
  have mo0_2 := mk0_2.trans mo0_0
  (obtain ⟨p1, p2, p4, p3⟩ := hinv; have hyl : ys.length = xs.length := (by rw [p3, rvK_len]))
  refine aw_seq <| aw_seq <| at_ <| ar (ro_move s2_2) rfl <| ar (ro_move (up_m rfl s3_2)) rfl <| ar (ro_lss (up_m rfl up_h) up_h) rfl <| ae4 (up_m rfl (u2 rfl s0_2)) (up_m rfl (u2 rfl s2_2)) (up_m rfl (u2 rfl s3_2)) up_h ?_; clear s0_2 s2_2 s3_2; intro e_3 s0_3 s2_3 s3_3 s9_3
  refine then_n <| aw_case s9_3 (fun hq_4 => ?_) (fun hq_4 => ?_)
  ·replace hq_4 := bt hq_4
   refine aw_skip <| then_n <| aw_seq <| aw_block <| aw_drawK 14 0 ml_2 (by kernel_rfl) (by kernel_rfl) (by kernel_rfl) (by kernel_rfl) (fun m_5 hm_5 => ?_)
   have mo1_5 := m_room_o hm_5 mo1_2
   have mo0_5 := m_room_o hm_5 mo0_2
   have ml_5 : _ = 2 := m_room_l (K := 0) hm_5 ml_2
   clear hm_5 mo1_2 mo0_2 ml_2
   refine dh_ro (fun M_ hM_ => (ro_move s0_3)) trivial ?_
   refine dh_ro (fun M_ hM_ => (ro_move (up_m rfl s2_3))) trivial ?_
   refine dh_ro (fun M_ hM_ => (ro_move (u2 rfl s0_3))) trivial ?_
   refine dh_ro (fun M_ hM_ => (ro_move (up_m rfl (u2 rfl s3_3)))) trivial ?_
   refine dh_ro (fun M_ hM_ => (ro_move (u4 rfl s0_3))) trivial ?_
   refine dh_ro (fun M_ hM_ => (ro_move (up_m rfl (u4 rfl s3_3)))) trivial ?_
   refine dh_ld (1) (fun M_ hM_ => (ro_ix_own y81_sl23 (agr hM_ mo1_5 (by simp)) (up_m rfl up_h) up_h (by omega) (by simp only [lnS] <;> omega))) trivial trivial ?_
   refine dh_ld (1) (fun M_ hM_ => (ro_eq (ro_ld_el y81_ty69 rfl (agr hM_ mo1_5 (by simp)) up_h (nle rfl) (by first | (refine idx_map ?_; first | omega | (simp only [lnS]; omega)) | (refine idx_mapI ?_; first | omega | (simp only [lnS]; omega)) | (refine idx_mapN ?_; first | omega | (simp only [lnS]; omega)) | rfl)) (by simp only [pS, Value.cells, Nat.reduceAdd, beE, set_beF] <;> rfl))) trivial trivial ?_
   refine dh_ro (fun M_ hM_ => (ro_move (u8 rfl s0_3))) trivial ?_
   refine dh_ro (fun M_ hM_ => (ro_move (up_m rfl (u8 rfl s2_3)))) trivial ?_
   refine dh_ld (1) (fun M_ hM_ => (ro_ix_own y81_sl23 (agr hM_ mo1_5 (by simp)) (up_m rfl up_h) up_h (by omega) (by simp only [lnS] <;> omega))) trivial trivial ?_
   refine dh_ld (1) (fun M_ hM_ => (ro_eq (ro_ld_el y81_ty69 rfl (agr hM_ mo1_5 (by simp)) up_h (nle rfl) (by first | (refine idx_map ?_; first | omega | (simp only [lnS]; omega)) | (refine idx_mapI ?_; first | omega | (simp only [lnS]; omega)) | (refine idx_mapN ?_; first | omega | (simp only [lnS]; omega)) | rfl)) (by simp only [pS, Value.cells, Nat.reduceAdd, beE, set_beF] <;> rfl))) trivial trivial ?_
   refine dh_ld (1) (fun M_ hM_ => (ro_ix_own y81_sl23 (agr hM_ mo1_5 (by simp)) (up_m rfl (u2 rfl (u8 rfl up_h))) (u2 rfl (u8 rfl up_h)) (by omega) (by simp only [lnS] <;> omega))) trivial trivial ?_
   refine dh_set (1) (fun M_ hM_ => (se_store_el up_h (up_m rfl (u4 rfl up_h)) rfl rfl rfl (agr hM_ mo1_5 (by simp)) (Nat.add_zero _).symm (by first | (refine idx_map ?_; first | omega | (simp only [lnS]; omega)) | (refine idx_mapI ?_; first | omega | (simp only [lnS]; omega)) | (refine idx_mapN ?_; first | omega | (simp only [lnS]; omega)) | rfl) qsz69 rfl (nle rfl))) trivial trivial ⟨.inr (wt_one 13 6 (by kernel_rfl)), ⟨.inr (wt_one 13 7 (by kernel_rfl)), ⟨.inr ((wt_one 13 11 (by kernel_rfl)).trans (wt_one 11 10 (by kernel_rfl))), ⟨.inr (wt_one 13 11 (by kernel_rfl)), ⟨.inr (wt_one 13 12 (by kernel_rfl)), trivial⟩⟩⟩⟩⟩ (fun m_6 hm_6 => ?_)
   have mo1_6 := m_set hm_6 mo1_5
   simp only [pS, Value.cells, Nat.reduceAdd, beE, set_beF] at mo1_6
   have mo0_6 := m_set_o hm_6 mo0_5 (by decide)
   have ml_6 := m_set_l hm_6 ml_5
   clear hm_6 mo1_5 mo0_5
   refine dh_nil rfl ?_
   refine ar (ro_ix_own y81_sl23 mo1_6 (up_n (u2 rfl (u8 rfl up_h))) (up_n (up_m rfl (u8 rfl up_h))) (by omega) (by simp only [lnS] <;> omega)) rfl ?_
   refine al_stm (st_store_el up_h (up_m rfl (up_n (up_m rfl up_h))) rfl rfl rfl mo1_6 (Nat.add_zero _).symm (by refine idx_mapI ?_; first | omega | (simp only [lnS]; omega)) qsz69 rfl (nle rfl)) trivial rfl (fun m_7 hm_7 => ?_)
   have mo1_7 := m_set hm_7 mo1_6
   simp only [pS, Value.cells, Nat.reduceAdd, beE, set_beF] at mo1_7
   have mo0_7 := m_set_o hm_7 mo0_6 (by decide)
   have ml_7 := m_set_l hm_7 ml_6
   clear hm_7 mo1_6 mo0_6
   refine ae3 (up_n (up_m rfl (up_n (up_m rfl (u4 rfl (u8 rfl s0_3)))))) (up_n (up_m rfl (up_n (up_m rfl (u4 rfl (u8 rfl s2_3)))))) (up_n (up_m rfl (up_n (up_m rfl (u4 rfl (u8 rfl s3_3)))))) ?_; clear s0_3 s2_3 s3_3 s9_3; intro e_8 s0_8 s2_8 s3_8
   refine block_n <| then_n <| at_ <| ar (ro_move s2_8) rfl ?_
   (refine ar (ro_add' up_h ev_c ?_) rfl ?_; · (unfold In64; omega))
   refine ar (ro_move (u2 rfl s3_8)) rfl ?_
   (refine ar (ro_sub' up_h ev_c ?_) rfl ?_; · (unfold In64; omega))
   refine ar (ro_assign (u2 rfl up_h)) rfl <| ar (ro_assign (up_m rfl up_h)) rfl <| ae3 (u2 rfl (u4 rfl s0_8)) (up_m rfl up_h) up_h ?_; clear s0_8 s2_8 s3_8; intro e_9 s0_9 s2_9 s3_9
   refine then_n <| ⟨⟨_, _, _⟩, ⟨s2_9, s3_9, (s0_9.trans s0_1.symm), mo1_7, (mo0_7.trans mo0_0.symm), ml_7, ?_⟩, ?_⟩
   ·(refine ⟨by omega, by omega, by omega, ?_⟩; have hs := rvK_step xs (k := i.toNat) (by omega); rw [← p3] at hs; rw [show (i + 1).toNat = i.toNat + 1 by omega, ← hs, show xs.length - 1 - i.toNat = j.toNat by omega])
   ·((try dsimp only); omega)
  replace hq_4 := bf hq_4
  refine aw_exit <| then_x <| then_x <| block_hit <| muQ_eq (.inl rfl) [1] ml_2 mo0_2 (by decide) rfl (resM0 (by kernel_rfl)) (emb_ob mo1_2 ?_ .nil) ?_
  all_goals ((first | rfl | (rw [p3, rvK_rev xs (by omega)]; rfl)))
theorem set_be (bs : List Bea) (i : Nat) (n c : Int) : (bs.map beE).set i [AV.v (.int .i64 n), AV.v (.int .i64 c)] = (bs.set i ⟨n, c⟩).map beE := by simp [List.map_set, beE]
theorem getD_set_s {js : List Jnt} {i : Nat} {j : Jnt} (h : i < js.length) : (js.set i j).getD i default = j := by rw [List.getD_eq_getElem?_getD, List.getElem?_set_self h]; rfl
theorem y85_hcf28 : ∀ args w, (callFunc 28 args).run Try.prog w = .ok (.enter 28 args) w := fun _ _ => by kernel_rfl
theorem y85_hcf29 : ∀ args w, (callFunc 29 args).run Try.prog w = .ok (.enter 29 args) w := fun _ _ => by kernel_rfl
theorem y85_hcf30 : ∀ args w, (callFunc 30 args).run Try.prog w = .ok (.enter 30 args) w := fun _ _ => by kernel_rfl
theorem y85_hcf31 : ∀ args w, (callFunc 31 args).run Try.prog w = .ok (.enter 31 args) w := fun _ _ => by kernel_rfl
theorem y85_sl22 : SlIs Try.prog 22 66 4 32 (.agg #[.int .i64 0, .int .i64 0, .int .i64 0, .int .i64 0]) := ⟨by kernel_rfl, by kernel_rfl, by kernel_rfl⟩
theorem y85_sl23 : SlIs Try.prog 23 69 2 16 (.agg #[.int .i64 0, .int .i64 0]) := ⟨by kernel_rfl, by kernel_rfl, by kernel_rfl⟩
theorem y85_sl24 : SlIs Try.prog 24 47 3 48 (.agg #[.string ByteArray.empty, .int .i64 0, .slice none 0 0]) := ⟨by kernel_rfl, by kernel_rfl, by kernel_rfl⟩
theorem y85_sl40 : SlIs Try.prog 40 3 1 8 (.int .i64 0) := ⟨by kernel_rfl, by kernel_rfl, by kernel_rfl⟩
theorem y85_ty22 : TyIs Try.prog 22 false 1 := ⟨by kernel_rfl, by kernel_rfl⟩
theorem y85_ty23 : TyIs Try.prog 23 false 1 := ⟨by kernel_rfl, by kernel_rfl⟩
theorem y85_ty24 : TyIs Try.prog 24 false 1 := ⟨by kernel_rfl, by kernel_rfl⟩
theorem y85_ty26 : TyIs Try.prog 26 true 4 := ⟨by kernel_rfl, by kernel_rfl⟩
theorem y85_ty3 : TyIs Try.prog 3 false 1 := ⟨by kernel_rfl, by kernel_rfl⟩
theorem y85_ty40 : TyIs Try.prog 40 false 1 := ⟨by kernel_rfl, by kernel_rfl⟩
theorem updN_all {α : Type} [Inhabited α] (f : α → α) (xs : List α) : updN (fun _ => f) xs xs.length = xs.map f := by
 apply List.ext_getElem (by rw [updN_len, List.length_map])
 intro q h1 h2
 rw [updN_len] at h1
 have := updN_lt (fun _ => f) xs (n := xs.length) h1 h1
 rw [List.getD_eq_getElem?_getD, List.getElem?_eq_getElem (by rw [updN_len]; exact h1), List.getD_eq_getElem?_getD, List.getElem?_eq_getElem h1] at this
 rw [List.getElem_map]; exact this
theorem rev_get {α : Type} [Inhabited α] (xs : List α) {i : Nat} (h : i < xs.length) : xs.reverse.getD i default = xs.getD (xs.length - 1 - i) default := by
 rw [List.getD_eq_getElem?_getD, List.getElem?_reverse h, List.getD_eq_getElem?_getD]
structure RvZ (L b : Nat) (ss : List Swi) (zs : List Hsw) (i : Nat) : Prop where
 len : zs.length = ss.length
 nam : ∀ q, q < ss.length → (zs.getD q default).nam = (ss.getD q default).nam
 fst : ∀ q, q < ss.length → (zs.getD q default).fst = if q < i then (sRev L (ss.getD q default)).fst else (ss.getD q default).fst
theorem RvZ.zero (L b : Nat) (ss : List Swi) : RvZ L b ss (zsN b ss) 0 := ⟨zsN_len b ss, fun q hq => by rw [zsN_at b ss hq], fun q hq => by rw [zsN_at b ss hq]; rfl⟩
theorem RvZ.next {L b : Nat} {ss : List Swi} {zs : List Hsw} {i : Nat} (h : RvZ L b ss zs i) (hi : i < ss.length) {f : Int} (hf : f = (sRev L (ss.getD i default)).fst) : RvZ L b ss (zs.set i ⟨(zs.getD i default).nam, f, hwF zs i⟩) (i + 1) := by
 refine ⟨by rw [List.length_set]; exact h.len, fun q hq => ?_, fun q hq => ?_⟩
 ·by_cases hqi : i = q
  ·subst hqi; rw [List.getD_eq_getElem?_getD, List.getElem?_set_self (by rw [h.len]; exact hq)]; exact h.nam _ hq
  ·rw [List.getD_eq_getElem?_getD, List.getElem?_set_ne hqi, ← List.getD_eq_getElem?_getD]; exact h.nam q hq
 ·by_cases hqi : i = q
  ·subst hqi; rw [List.getD_eq_getElem?_getD, List.getElem?_set_self (by rw [h.len]; exact hq), if_pos (by omega)]; exact hf
  ·rw [List.getD_eq_getElem?_getD, List.getElem?_set_ne hqi, ← List.getD_eq_getElem?_getD, h.fst q hq]
   by_cases c : q < i
   ·rw [if_pos c, if_pos (by omega)]
   ·rw [if_neg c, if_neg (by omega)]
theorem set_hw (zs : List Hsw) (i : Nat) (a : ByteArray) (b : Int) (c : Nat) : (zs.map hwE).set i [AV.v (.string a), AV.v (.int .i64 b), AV.own c] = (zs.set i ⟨a, b, c⟩).map hwE := by simp [List.map_set, hwE]
theorem hwF_set (zs : List Hsw) (i : Nat) (a : ByteArray) (b : Int) : hwF (zs.set i ⟨a, b, hwF zs i⟩) i = hwF zs i := by
 unfold hwF
 by_cases h : i < zs.length
 ·rw [List.getD_eq_getElem?_getD, List.getElem?_set_self h]; rfl
 ·rw [List.set_eq_of_length_le (by omega)]
theorem hwF_set2 (zs : List Hsw) (i : Nat) (a : ByteArray) (b : Int) (q : Nat) : hwF (zs.set i ⟨a, b, hwF zs i⟩) q = hwF zs q := by
 by_cases h : i = q
 ·subst h; exact hwF_set zs i a b
 ·unfold hwF; rw [List.getD_eq_getElem?_getD, List.getElem?_set_ne h, ← List.getD_eq_getElem?_getD]
def acR (L : Nat) (ss : List Swi) (i : Nat) (q : Nat) : List (List AV) := if q < i then (sRev L (ss.getD q default)).acr.map iE else acF ss q
theorem acR_at (L : Nat) (ss : List Swi) (i : Nat) : acR L ss i i = (ss.getD i default).acr.map iE := by unfold acR; rw [if_neg (by omega)]; rfl
theorem acR_0 (L : Nat) (ss : List Swi) (q : Nat) : acR L ss 0 q = acF ss q := by unfold acR; rw [if_neg (by omega)]
theorem acR_next {L : Nat} {ss : List Swi} {i : Nat} {vs : List Int} (hv : vs = (sRev L (ss.getD i default)).acr) (q : Nat) : acR L ss (i + 1) q = if q = i then vs.map iE else acR L ss i q := by
 unfold acR
 by_cases h1 : q = i
 ·subst h1; rw [if_pos (by omega), if_pos rfl, hv]
 ·rw [if_neg h1]
  by_cases h2 : q < i
  ·rw [if_pos h2, if_pos (by omega)]
  ·rw [if_neg h2, if_neg (by omega)]
theorem hw_flat {zs : List Hsw} {q o : Nat} (hq : q < zs.length) (ho : o < 3) : (zs.map hwE).flatten[3 * q + o]? = (hwE (zs.getD q default))[o]? := by
 rw [Nat.mul_comm]
 refine flat_get (fun l hl => by obtain ⟨z, _, rfl⟩ := List.mem_map.1 hl; rfl) ?_ ho
 rw [List.getElem?_map, List.getElem?_eq_getElem hq, List.getD_eq_getElem?_getD, List.getElem?_eq_getElem hq]; rfl
theorem hw_own {zs : List Hsw} {n : Nat} (hz : zs.length = n) : ∀ q, q < n → (zs.map hwE).flatten[3 * q + 2]? = some (.own (hwF zs q)) := fun q hq => by
 rw [hw_flat (by omega) (by omega)]; rfl
theorem sw_done {zs : List Hsw} {els : List (List AV)} {n : Nat} {r : Nat → List (List AV)} {tt : List Swi} (hz : zs.length = n) (ht : tt.length = n) (hl : els.length = (zs.map hwE).length) (h4 : ∀ q, q < n → els.flatten[3 * q + 2]? = some (.row 1 (r q)))
 (h5 : ∀ p, (∀ q, q < n → 3 * q + 2 ≠ p) → els.flatten[p]? = (zs.map hwE).flatten[p]?) (h7 : ∀ K, (∀ x ∈ zs.map hwE, x.length = K) → ∀ x ∈ els, x.length = K)
 (hs : ∀ q, q < n → (zs.getD q default).nam = (tt.getD q default).nam ∧ (zs.getD q default).fst = (tt.getD q default).fst ∧ r q = (tt.getD q default).acr.map iE) : els = tt.map swE := by
 have h3 := h7 3 (fun x hx => by obtain ⟨z, _, rfl⟩ := List.mem_map.1 hx; rfl)
 have hln : els.length = n := by rw [hl, List.length_map, hz]
 apply List.ext_getElem (by rw [hln, List.length_map, ht])
 intro q q1 q2
 have hq : q < n := by omega
 have k3 := h3 els[q] (List.getElem_mem q1)
 have at_ : ∀ o, o < 3 → els.flatten[3 * q + o]? = els[q][o]? := fun o ho => by
  rw [Nat.mul_comm]; exact flat_get h3 (List.getElem?_eq_getElem q1) ho
 obtain ⟨s1, s2, s3⟩ := hs q hq
 have e : (tt.map swE)[q] = swE (tt.getD q default) := by
  rw [List.getElem_map, List.getD_eq_getElem?_getD, List.getElem?_eq_getElem (by omega)]; rfl
 rw [e]
 apply List.ext_getElem?
 intro o
 by_cases ho : o < 3
 ·rw [← at_ o ho]
  rcases (by omega : o = 0 ∨ o = 1 ∨ o = 2) with rfl | rfl | rfl
  ·rw [h5 _ (fun a _ => by omega), hw_flat (by omega) (by omega)]; simp only [hwE, swE, s1]; rfl
  ·rw [h5 _ (fun a _ => by omega), hw_flat (by omega) (by omega)]; simp only [hwE, swE, s2]; rfl
  ·rw [h4 q hq, s3]; rfl
 ·rw [List.getElem?_eq_none (by omega), List.getElem?_eq_none (by simp only [swE, List.length_cons, List.length_nil]; omega)]
theorem swE_ro (ss : List Swi) : roO.roL (ss.map swE).flatten = true := roL_flat (fun _ => rfl) ss
set_option maxRecDepth 100000 in
set_option maxHeartbeats 4000000 in
theorem reversed_bad (l : Lin) (hl : Sho l) (hb : (linM l).2 ≠ 0) : FnOk Try.prog 7 [lnA l] (fun q => q = .tuple [lnA nonL, mA (linM l).2]) := by
 refine fnOk_of (fn := Try.f7) 133 (by kernel_rfl) rfl (by kernel_rfl) (Nat.le_of_ble_eq_true rfl) ?_
 intro e_0 m_0 hA hm_0
 have s0_0 : evA e_0 (.tmp 0) = _ := hA 0 _ rfl
 have ml_0 : m_0.length = 0 := by rw [hm_0]; rfl
 clear hA hm_0
 refine aw_seq <| at_ <| al_stm (st_box s0_0 rfl ml_0) trivial rfl (fun m_1 hm_1 => ?_)
 have mo0_1 := m_push hm_1 ml_0
 have ml_1 := m_push_l hm_1 ml_0
 have ml_1 : _ = 1 := ml_1
 clear hm_1
 refine al_stm (st_alloc qaz26 rfl ml_1) trivial rfl (fun m_2 hm_2 => ?_)
 have mo1_2 := m_push hm_2 ml_1
 simp only [pS, Value.cells, Nat.reduceAdd] at mo1_2
 have mo0_2 := m_push_o hm_2 mo0_1
 have ml_2 := m_push_l hm_2 ml_1
 have ml_2 : _ = 2 := ml_2
 clear hm_2 mo0_1
 refine ar (ro_assign ev_c) rfl <| ae2 (u2 rfl up_h) (up_m rfl up_h) ?_; clear s0_0; intro e_3 s1_3 s2_3
 refine then_n <| aw_seq <| aw_seq <| at_ <| ar (ro_eq (ro_ld_ptr y85_ty26 rfl mo0_2 s1_3 (nle rfl)) (by simp only [pS, Value.cells, Nat.reduceAdd] <;> rfl)) rfl ?_
 refine ar (ro_call (evL_cons up_h evL_nil) rfl (yOpen_bad l hl hb) qhcf27) rfl <| ar (ro_move up_h) rfl <| ar (ro_extract up_h rfl) rfl <| ar (ro_extract (up_m rfl up_h) rfl) rfl <| ar (ro_assign (up_m rfl up_h)) rfl <| ar (ro_assign (up_m rfl up_h)) rfl <| ae3 (up_m rfl (u2 rfl (u4 rfl s1_3))) (up_m rfl (u2 rfl (u4 rfl s2_3))) up_h ?_; clear s1_3 s2_3; intro e_4 s1_4 s2_4 s5_4
 refine then_n <| aw_seq <| at_ <| ar (ro_move s5_4) rfl <| ar (ro_neq up_h ev_c) rfl <| ae4 (u2 rfl s1_4) (u2 rfl s2_4) (u2 rfl s5_4) up_h ?_; clear s1_4 s2_4 s5_4; intro e_5 s1_5 s2_5 s5_5 s19_5
 refine then_n <| aw_case s19_5 (fun hq_6 => ?_) (fun hq_6 => ?_)
 ·replace hq_6 := bnt hq_6
  refine aw_seq <| at_ <| ar (ro_build evP_nil qbz26 qbu26 qbp26 rfl) rfl ?_
  refine ar (ro_move (up_m rfl s5_5)) rfl <| al_stm (st_store (u2 rfl s2_5) (up_m rfl up_h) rfl rfl mo1_2 qsz26 rfl (nle rfl)) trivial rfl (fun m_7 hm_7 => ?_)
  have mo1_7 := m_set hm_7 mo1_2
  simp only [pS, Value.cells, Nat.reduceAdd] at mo1_7
  have mo0_7 := m_set_o hm_7 mo0_2 (by decide)
  have ml_7 := m_set_l hm_7 ml_2
  clear hm_7 mo1_2 mo0_2
  refine ar (ro_assign (up_n up_h)) rfl <| ae2 (up_m rfl (up_n (u2 rfl s2_5))) up_h ?_; clear s19_5 s1_5 s2_5 s5_5; intro e_8 s2_8 s3_8
  refine then_n <| aw_ret <| then_r <| ret2 (.inr rfl) (by kernel_rfl) (resV_cell s2_8 mo1_7 y85_ty26 (nle rfl) (by simp)) (resV_tmp s3_8) (vw_r (vw_agg (vwl_cons (.ro _ rfl) (vwl_cons (.nil 4) (vwl_cons (.nil 2) (vwl_cons (.nil 3) vwl_nil)))))) (.ro _ rfl) ?_
  clear s2_8 s3_8 mo1_7 mo0_7 ml_7
  rfl
 ·replace hq_6 := bnf hq_6; exfalso; omega
set_option maxRecDepth 100000 in
set_option maxHeartbeats 4000000 in
theorem reversed_good (l : Lin) (hl : Sho l) (hg : (linM l).2 = 0) : FnOk Try.prog 7 [lnA l] (fun q => q = .tuple [lnA (revL l), mA 0]) := by
 refine fnOk_of (fn := Try.f7) 133 (by kernel_rfl) rfl (by kernel_rfl) (Nat.le_of_ble_eq_true rfl) ?_
 intro e_0 m_0 hA hm_0
 have s0_0 : evA e_0 (.tmp 0) = _ := hA 0 _ rfl
 have ml_0 : m_0.length = 0 := by rw [hm_0]; rfl
 clear hA hm_0
 have hr := rgt_of hg; have hjs := hr.js; have hn1 := hr.n1; have hs1 := hr.s1
 refine aw_seq <| at_ <| al_stm (st_box s0_0 rfl ml_0) trivial rfl (fun m_1 hm_1 => ?_)
 have mo0_1 := m_push hm_1 ml_0
 have ml_1 := m_push_l hm_1 ml_0
 have ml_1 : _ = 1 := ml_1
 clear hm_1
 refine al_stm (st_alloc qaz26 rfl ml_1) trivial rfl (fun m_2 hm_2 => ?_)
 have mo1_2 := m_push hm_2 ml_1
 simp only [pS, Value.cells, Nat.reduceAdd, jnE, beE, hwE, set_jn4, set_be, set_hw, hwF_r, hwF_set, set_iE, zsN_rho, Nat.reduceAdd] at mo1_2
 have mo0_2 := m_push_o hm_2 mo0_1
 have ml_2 := m_push_l hm_2 ml_1
 have ml_2 : _ = 2 := ml_2
 clear hm_2 mo0_1
 refine ar (ro_assign ev_c) rfl <| ae2 (u2 rfl up_h) (up_m rfl up_h) ?_; clear s0_0; intro e_3 s1_3 s2_3
 refine then_n <| aw_seq <| aw_seq <| at_ <| ar (ro_eq (ro_ld_ptr y85_ty26 rfl mo0_2 s1_3 (nle rfl)) (by simp only [pS, Value.cells, Nat.reduceAdd, jnE, beE, hwE, set_jn4, set_be, set_hw, hwF_r, hwF_set, set_iE, zsN_rho, Nat.reduceAdd] <;> rfl)) rfl ?_
 refine ar (ro_call (evL_cons up_h evL_nil) rfl (yOpen_good l hl hg) qhcf27) rfl <| ar (ro_move up_h) rfl <| ar (ro_extract up_h rfl) rfl <| ar (ro_extract (up_m rfl up_h) rfl) rfl <| ar (ro_assign (up_m rfl up_h)) rfl <| ar (ro_assign (up_m rfl up_h)) rfl <| ae3 (up_m rfl (u2 rfl (u4 rfl s1_3))) (up_m rfl (u2 rfl (u4 rfl s2_3))) up_h ?_; clear s1_3 s2_3; intro e_4 s1_4 s2_4 s5_4
 refine then_n <| aw_seq <| at_ <| ar (ro_move s5_4) rfl <| ar (ro_neq up_h ev_c) rfl <| ae4 (u2 rfl s1_4) (u2 rfl s2_4) (u2 rfl s5_4) up_h ?_; clear s1_4 s2_4 s5_4; intro e_5 s1_5 s2_5 s5_5 s19_5
 refine then_n <| aw_case s19_5 (fun hq_6 => ?_) (fun hq_6 => ?_)
 ·cases hq_6
 replace hq_6 := bnf hq_6
 refine aw_skip <| then_n <| aw_seq <| at_ <| ar (ro_eq (ro_ld_ptr y85_ty26 rfl mo0_2 s1_5 (nle rfl)) (by simp only [pS, Value.cells, Nat.reduceAdd, jnE, beE, hwE, set_jn4, set_be, set_hw, hwF_r, hwF_set, set_iE, zsN_rho, Nat.reduceAdd] <;> rfl)) rfl ?_
 refine al_stm (st_muE (st_mu' (copied_fam l hl hr.ful) [] ml_2 (evL_cons up_h evL_nil) .nil (by decide) .nil rfl y85_hcf28) (show _ = .agg [.v (.string l.nam), .own 2, .own 3, .own 4] from rfl)) trivial rfl (fun m_7 hm_7 => ?_)
 have mo1_7 := m_ups_o hm_7 (Nat.le_of_ble_eq_true rfl) mo1_2 (by decide)
 have mo0_7 := m_ups_o hm_7 (Nat.le_of_ble_eq_true rfl) mo0_2 (by decide)
 have mo2_7 : m_7[2]? = some _ := m_ups_n hm_7 (Nat.le_of_ble_eq_true rfl) ml_2 0 rfl
 (try simp only [Ob.rn, rn, rn.rnL, rho, List.length_cons, List.length_nil, List.getElem?_cons_zero, List.getElem?_cons_succ, List.getElem?_nil, Nat.reduceAdd, Nat.reduceSub, Nat.add_zero, Nat.sub_self, jnE, beE, hwE, set_jn4, set_be, set_hw, hwF_r, hwF_set, set_iE, zsN_rho, Nat.reduceAdd] at mo2_7)
 have mo3_7 : m_7[3]? = some _ := m_ups_n hm_7 (Nat.le_of_ble_eq_true rfl) ml_2 1 rfl
 (try simp only [Ob.rn, rn, rn.rnL, rho, List.length_cons, List.length_nil, List.getElem?_cons_zero, List.getElem?_cons_succ, List.getElem?_nil, Nat.reduceAdd, Nat.reduceSub, Nat.add_zero, Nat.sub_self, jnE, beE, hwE, set_jn4, set_be, set_hw, hwF_r, hwF_set, set_iE, zsN_rho, Nat.reduceAdd] at mo3_7)
 have mo4_7 : m_7[4]? = some _ := m_ups_n hm_7 (Nat.le_of_ble_eq_true rfl) ml_2 2 rfl
 (try simp only [Ob.rn, rn, rn.rnL, rho, List.length_cons, List.length_nil, List.getElem?_cons_zero, List.getElem?_cons_succ, List.getElem?_nil, Nat.reduceAdd, Nat.reduceSub, Nat.add_zero, Nat.sub_self, jnE, beE, hwE, set_jn4, set_be, set_hw, hwF_r, hwF_set, set_iE, zsN_rho, Nat.reduceAdd] at mo4_7)
 obtain ⟨moFAM_7, ml_7⟩ := fam_new (B := 5) (k := 4) hm_7 ml_2 rfl (by decide)
 clear hm_7 mo1_2 mo0_2 ml_2
 refine al_stm (st_alloc qaz26 rfl ml_7) trivial rfl (fun m_8 hm_8 => ?_)
 have mo_5_l_ss_length__8 := m_push hm_8 ml_7
 simp only [pS, Value.cells, Nat.reduceAdd, jnE, beE, hwE, set_jn4, set_be, set_hw, hwF_r, hwF_set, set_iE, zsN_rho, Nat.reduceAdd] at mo_5_l_ss_length__8
 have mo1_8 := m_push_o hm_8 mo1_7
 have mo0_8 := m_push_o hm_8 mo0_7
 have mo2_8 := m_push_o hm_8 mo2_7
 have mo3_8 := m_push_o hm_8 mo3_7
 have mo4_8 := m_push_o hm_8 mo4_7
 have moFAM_8 := FamR.m_push_o hm_8 moFAM_7
 have ml_8 := m_push_l hm_8 ml_7
 clear hm_8 mo1_7 mo0_7 mo2_7 mo3_7 mo4_7 moFAM_7
 refine al_stm (st_storeX up_h (up_m rfl up_h) rfl rfl mo_5_l_ss_length__8 qsz26 rfl (nle rfl)) trivial rfl (fun m_9 hm_9 => ?_)
 have mo_5_l_ss_length__9 := m_set hm_9 mo_5_l_ss_length__8
 simp only [pS, Value.cells, Nat.reduceAdd, jnE, beE, hwE, set_jn4, set_be, set_hw, hwF_r, hwF_set, set_iE, zsN_rho, Nat.reduceAdd] at mo_5_l_ss_length__9
 have mo1_9 := m_set_o hm_9 mo1_8 (by omega)
 have mo0_9 := m_set_o hm_9 mo0_8 (by omega)
 have mo2_9 := m_set_o hm_9 mo2_8 (by omega)
 have mo3_9 := m_set_o hm_9 mo3_8 (by omega)
 have mo4_9 := m_set_o hm_9 mo4_8 (by omega)
 have moFAM_9 := FamR.m_set_o hm_9 moFAM_8 (by omega)
 have ml_9 := m_set_l hm_9 ml_8
 clear hm_9 mo_5_l_ss_length__8 mo1_8 mo0_8 mo2_8 mo3_8 mo4_8 moFAM_8
 refine ae2 (up_n (up_m rfl (u2 rfl s2_5))) (up_n up_h) ?_; clear s19_5 s1_5 s2_5 s5_5; intro e_10 s2_10 s6_10
 refine then_n <| aw_seq <| at_ <| ar (ro_fld_ptr qfl26_1 rfl s6_10) rfl <| ar (ro_eq (ro_ld_ptr y85_ty22 rfl mo_5_l_ss_length__9 up_h (nle rfl)) (by simp only [pS, Value.cells, Nat.reduceAdd, jnE, beE, hwE, set_jn4, set_be, set_hw, hwF_r, hwF_set, set_iE, zsN_rho, Nat.reduceAdd] <;> rfl)) rfl ?_
 refine al_stm (st_muE (st_mu' (revJoints l.js (by omega)) [2] ml_9 (evL_cons up_h evL_nil) .nil (by decide) (.ob mo2_9 .nil) rfl y85_hcf29) (rn_ro rfl)) trivial rfl (fun m_11 hm_11 => ?_)
 have mo2_11 : m_11[2]? = some _ := m_ups_t hm_11 (Nat.le_of_ble_eq_true rfl) (by decide) (lt_cons mo2_9 lt_nil) 0 rfl rfl
 (try simp only [Ob.rn, rn, rn.rnL, rho, List.length_cons, List.length_nil, List.getElem?_cons_zero, List.getElem?_cons_succ, List.getElem?_nil, Nat.reduceAdd, Nat.reduceSub, Nat.add_zero, Nat.sub_self, jnE, beE, hwE, set_jn4, set_be, set_hw, hwF_r, hwF_set, set_iE, zsN_rho, Nat.reduceAdd] at mo2_11)
 have mo_5_l_ss_length__11 := m_ups_o hm_11 (Nat.le_of_ble_eq_true rfl) mo_5_l_ss_length__9 (by simp <;> omega)
 have mo1_11 := m_ups_o hm_11 (Nat.le_of_ble_eq_true rfl) mo1_9 (by simp <;> omega)
 have mo0_11 := m_ups_o hm_11 (Nat.le_of_ble_eq_true rfl) mo0_9 (by simp <;> omega)
 have mo3_11 := m_ups_o hm_11 (Nat.le_of_ble_eq_true rfl) mo3_9 (by simp <;> omega)
 have mo4_11 := m_ups_o hm_11 (Nat.le_of_ble_eq_true rfl) mo4_9 (by simp <;> omega)
 have moFAM_11 := FamR.m_ups_o hm_11 (Nat.le_of_ble_eq_true rfl) moFAM_9 (by simp <;> omega)
 have ml_11 : _ = (5 + l.ss.length) + 1 := m_ups_l hm_11 ml_9 0 rfl
 clear hm_11 mo_5_l_ss_length__9 mo1_9 mo0_9 mo2_9 mo3_9 mo4_9 moFAM_9 ml_9
 refine ae2 (up_m rfl (u2 rfl s2_10)) (up_m rfl (u2 rfl s6_10)) ?_; clear s2_10 s6_10; intro e_12 s2_12 s6_12
 refine then_n <| aw_seq <| at_ <| ar (ro_fld_ptr qfl26_2 rfl s6_12) rfl <| ar (ro_eq (ro_ld_ptr y85_ty23 rfl mo_5_l_ss_length__11 up_h (nle rfl)) (by simp only [pS, Value.cells, Nat.reduceAdd, jnE, beE, hwE, set_jn4, set_be, set_hw, hwF_r, hwF_set, set_iE, zsN_rho, Nat.reduceAdd] <;> rfl)) rfl ?_
 refine al_stm (st_muE (st_mu' (revBeams l.bs (by omega)) [3] ml_11 (evL_cons up_h evL_nil) .nil (by decide) (.ob mo3_11 .nil) rfl y85_hcf30) (rn_ro rfl)) trivial rfl (fun m_13 hm_13 => ?_)
 have mo3_13 : m_13[3]? = some _ := m_ups_t hm_13 (Nat.le_of_ble_eq_true rfl) (by decide) (lt_cons mo3_11 lt_nil) 0 rfl rfl
 (try simp only [Ob.rn, rn, rn.rnL, rho, List.length_cons, List.length_nil, List.getElem?_cons_zero, List.getElem?_cons_succ, List.getElem?_nil, Nat.reduceAdd, Nat.reduceSub, Nat.add_zero, Nat.sub_self, jnE, beE, hwE, set_jn4, set_be, set_hw, hwF_r, hwF_set, set_iE, zsN_rho, Nat.reduceAdd] at mo3_13)
 have mo2_13 := m_ups_o hm_13 (Nat.le_of_ble_eq_true rfl) mo2_11 (by simp <;> omega)
 have mo_5_l_ss_length__13 := m_ups_o hm_13 (Nat.le_of_ble_eq_true rfl) mo_5_l_ss_length__11 (by simp <;> omega)
 have mo1_13 := m_ups_o hm_13 (Nat.le_of_ble_eq_true rfl) mo1_11 (by simp <;> omega)
 have mo0_13 := m_ups_o hm_13 (Nat.le_of_ble_eq_true rfl) mo0_11 (by simp <;> omega)
 have mo4_13 := m_ups_o hm_13 (Nat.le_of_ble_eq_true rfl) mo4_11 (by simp <;> omega)
 have moFAM_13 := FamR.m_ups_o hm_13 (Nat.le_of_ble_eq_true rfl) moFAM_11 (by simp <;> omega)
 have ml_13 : _ = (5 + l.ss.length) + 1 := m_ups_l hm_13 ml_11 0 rfl
 clear hm_13 mo2_11 mo_5_l_ss_length__11 mo1_11 mo0_11 mo3_11 mo4_11 moFAM_11 ml_11
 refine ae2 (up_m rfl (u2 rfl s2_12)) (up_m rfl (u2 rfl s6_12)) ?_; clear s2_12 s6_12; intro e_14 s2_14 s6_14
 refine then_n <| aw_seq <| aw_seq <| at_ <| ar (ro_fld_ptr qfl26_1 rfl s6_14) rfl <| ar (ro_eq (ro_ld_ptr y85_ty22 rfl mo_5_l_ss_length__13 up_h (nle rfl)) (by simp only [pS, Value.cells, Nat.reduceAdd, jnE, beE, hwE, set_jn4, set_be, set_hw, hwF_r, hwF_set, set_iE, zsN_rho, Nat.reduceAdd] <;> rfl)) rfl ?_
 refine ar (ro_eq (ro_len_own up_h mo2_13 rfl y85_sl22.1) (by simp only [lnS] <;> rfl)) rfl ?_
 refine ar (ro_move ev_c) rfl <| ae4 (u4 rfl s2_14) (u4 rfl s6_14) (up_m rfl up_h) up_h ?_; clear s2_14 s6_14; intro e_15 s2_15 s6_15 s32_15 s33_15
 refine then_n <| aw_block <| aw_loop (S := (Int × List Jnt)) (fun s e mem => match s with | ⟨a, ys⟩ => (evA e (.tmp 33) = .v (.int .i64 a)) ∧ (evA e (.tmp 2) = evA e_15 (.tmp 2)) ∧ (evA e (.tmp 6) = evA e_15 (.tmp 6)) ∧ (evA e (.tmp 32) = evA e_15 (.tmp 32)) ∧ (mem[2]? = some (.row 66 4 (ys.map jnE))) ∧ (mem[3]? = m_13[3]?) ∧ (mem[(5 + l.ss.length)]? = m_13[(5 + l.ss.length)]?) ∧ (mem[1]? = m_13[1]?) ∧ (mem[0]? = m_13[0]?) ∧ (mem[4]? = m_13[4]?) ∧ (mem.length = (5 + l.ss.length) + 1) ∧ ((0 ≤ a ∧ a ≤ l.js.length ∧ ys = updN (fun _ => jRev) l.js.reverse a.toNat ∧ Fam mem (hwF (zsN 5 l.ss)) l.ss.length l.ss.length 4 3 1 (acF l.ss) 5 (5 + l.ss.length) 4))) (fun s => match s with | ⟨a, ys⟩ => (l.js.length - a).toNat) ⟨_, l.js.reverse⟩ ⟨s33_15, rfl, rfl, rfl, mo2_13, rfl, rfl, rfl, rfl, rfl, ml_13, ?_⟩ ?_
 ·(exact ⟨by omega, by omega, rfl, moFAM_13⟩)
 ·rintro ⟨a, ys⟩ e_16 m_16 ⟨s33_16, k2_16, k6_16, k32_16, mo2_16, mk3_16, mk_5_l_ss_length__16, mk1_16, mk0_16, mk4_16, ml_16, hinv⟩
  have s2_16 := k2_16.trans s2_15
  have s6_16 := k6_16.trans s6_15
  have s32_16 := k32_16.trans s32_15
  have mo3_16 := mk3_16.trans mo3_13
  have mo_5_l_ss_length__16 := mk_5_l_ss_length__16.trans mo_5_l_ss_length__13
  have mo1_16 := mk1_16.trans mo1_13
  have mo0_16 := mk0_16.trans mo0_13
  have mo4_16 := mk4_16.trans mo4_13
  (obtain ⟨a1, a2, a3, hF⟩ := hinv; have hyl : ys.length = l.js.length := (by rw [a3, updN_len, List.length_reverse]))
  refine aw_seq <| at_ <| ar (ro_lss s33_16 s32_16) rfl <| ae5 (up_m rfl s2_16) (up_m rfl s6_16) (up_m rfl s32_16) (up_m rfl s33_16) up_h ?_; clear s2_16 s32_16 s33_16 s6_16; intro e_17 s2_17 s6_17 s32_17 s33_17 s34_17
  refine then_n <| aw_seq <| aw_case s34_17 (fun hq_18 => ?_) (fun hq_18 => ?_)
  ·replace hq_18 := bt hq_18
   refine aw_skip <| then_n <| aw_seq <| aw_block <| aw_seq <| at_ <| ar (ro_move s33_17) rfl <| ar (ro_assign up_h) rfl <| ae5 (u2 rfl s2_17) (u2 rfl s6_17) up_h (u2 rfl s32_17) (u2 rfl s33_17) ?_; clear s2_17 s32_17 s33_17 s34_17 s6_17; intro e_19 s2_19 s6_19 s7_19 s32_19 s33_19
   refine then_n <| aw_seq ?_
   have hyv := hr.jnt (l.js.length - 1 - a.toNat) (by omega); have hye : ys.getD a.toNat default = l.js.getD (l.js.length - 1 - a.toNat) default := (by rw [a3, updN_ge _ _ (Nat.le_refl _), rev_get _ (by omega)]); rw [← hye] at hyv; obtain ⟨y1, y2, y3, y4, y5⟩ := hyv
   refine at_ <| ar (ro_fld_ptr qfl26_1 rfl s6_19) rfl <| ar (ro_eq (ro_ld_ptr y85_ty22 rfl mo_5_l_ss_length__16 up_h (nle rfl)) (by simp only [pS, Value.cells, Nat.reduceAdd, jnE, beE, hwE, set_jn4, set_be, set_hw, hwF_r, hwF_set, set_iE, zsN_rho, Nat.reduceAdd] <;> rfl)) rfl ?_
   refine ar (ro_move (u2 rfl s7_19)) rfl <| ar (ro_ix_own y85_sl22 mo2_16 (up_m rfl up_h) up_h (by omega) (by simp only [lnS] <;> omega)) rfl ?_
   refine ar (ro_assign up_h) rfl <| ae5 (up_m rfl (u4 rfl s2_19)) (up_m rfl (u4 rfl s6_19)) up_h (up_m rfl (u4 rfl s32_19)) (up_m rfl (u4 rfl s33_19)) ?_; clear s2_19 s32_19 s33_19 s6_19 s7_19; intro e_20 s2_20 s6_20 s8_20 s32_20 s33_20
   refine then_n <| aw_drawK 23 0 ml_16 (by kernel_rfl) (by kernel_rfl) (by kernel_rfl) (by kernel_rfl) (fun m_21 hm_21 => ?_)
   have mo2_21 := m_room_o hm_21 mo2_16
   have mo3_21 := m_room_o hm_21 mo3_16
   have mo_5_l_ss_length__21 := m_room_o hm_21 mo_5_l_ss_length__16
   have mo1_21 := m_room_o hm_21 mo1_16
   have mo0_21 := m_room_o hm_21 mo0_16
   have mo4_21 := m_room_o hm_21 mo4_16
   have moFAM_21 := FamR.m_room_o hm_21 hF
   have ml_21 : _ = (5 + l.ss.length) + 1 := m_room_l (K := 0) hm_21 ml_16
   clear hm_21 mo2_16 mo3_16 mo_5_l_ss_length__16 mo1_16 mo0_16 mo4_16 hF ml_16
   refine dh_ro (fun M_ hM_ => (ro_move s8_20)) trivial ?_
   refine dh_ro (fun M_ hM_ => (ro_move (up_m rfl s8_20))) trivial ?_
   refine dh_ro (fun M_ hM_ => (ro_move (u2 rfl s8_20))) trivial ?_
   refine dh_ro (fun M_ hM_ => (ro_nilP up_h)) trivial ?_
   refine dh_ro (fun M_ hM_ => (ro_fld_ptr qfl66_0 rfl up_h)) trivial ?_
   refine dh_ld (2) (fun M_ hM_ => (ro_eq (ro_ld_el y85_ty3 rfl (agr hM_ mo2_21 (by simp)) up_h (nle rfl) (by first | (refine idx_map ?_; first | omega | (simp only [lnS]; omega)) | (refine idx_mapI ?_; first | omega | (simp only [lnS]; omega)) | (refine idx_mapN ?_; first | omega | (simp only [lnS]; omega)) | rfl)) (by simp only [pS, Value.cells, Nat.reduceAdd, jnE, beE, hwE, set_jn4, set_be, set_hw, hwF_r, hwF_set, set_iE, zsN_rho, Nat.reduceAdd] <;> rfl))) trivial trivial ?_
   (refine dh_ro (fun M_ hM_ => (ro_neg' up_h ?_)) trivial ?_; · (unfold In64; omega))
   refine dh_ro (fun M_ hM_ => (ro_move (up_m rfl (u2 rfl (u4 rfl s8_20))))) trivial ?_
   refine dh_ro (fun M_ hM_ => (ro_nilP up_h)) trivial ?_
   refine dh_ro (fun M_ hM_ => (ro_fld_el (o := 0) qfl66_2 rfl up_h)) trivial ?_
   refine dh_ro (fun M_ hM_ => (ro_fld_elO qfl55_1 rfl up_h)) trivial ?_
   refine dh_ld (2) (fun M_ hM_ => (ro_eq (ro_ld_elO y85_ty3 rfl (agr hM_ mo2_21 (by simp)) up_h (nle rfl) (by first | (refine idx_map ?_; first | omega | (simp only [lnS]; omega)) | (refine idx_mapI ?_; first | omega | (simp only [lnS]; omega)) | (refine idx_mapN ?_; first | omega | (simp only [lnS]; omega)) | rfl)) (by simp only [pS, Value.cells, Nat.reduceAdd, jnE, beE, hwE, set_jn4, set_be, set_hw, hwF_r, hwF_set, set_iE, zsN_rho, Nat.reduceAdd] <;> rfl))) trivial trivial ?_
   (refine dh_ro (fun M_ hM_ => (ro_neg' up_h ?_)) trivial ?_; · (unfold In64; omega))
   refine dh_ro (fun M_ hM_ => (ro_move (up_m rfl (u4 rfl (u8 rfl s8_20))))) trivial ?_
   refine dh_ro (fun M_ hM_ => (ro_nilP up_h)) trivial ?_
   refine dh_ro (fun M_ hM_ => (ro_fld_el (o := 0) qfl66_2 rfl up_h)) trivial ?_
   refine dh_ro (fun M_ hM_ => (ro_fld_elO qfl55_0 rfl up_h)) trivial ?_
   refine dh_ld (2) (fun M_ hM_ => (ro_eq (ro_ld_elO y85_ty3 rfl (agr hM_ mo2_21 (by simp)) up_h (nle rfl) (by first | (refine idx_map ?_; first | omega | (simp only [lnS]; omega)) | (refine idx_mapI ?_; first | omega | (simp only [lnS]; omega)) | (refine idx_mapN ?_; first | omega | (simp only [lnS]; omega)) | rfl)) (by simp only [pS, Value.cells, Nat.reduceAdd, jnE, beE, hwE, set_jn4, set_be, set_hw, hwF_r, hwF_set, set_iE, zsN_rho, Nat.reduceAdd] <;> rfl))) trivial trivial ?_
   (refine dh_ro (fun M_ hM_ => (ro_neg' up_h ?_)) trivial ?_; · (unfold In64; omega))
   refine dh_ro (fun M_ hM_ => (ro_build (evP_cons (u2 rfl (u4 rfl up_h)) (evP_cons up_h evP_nil)) qbz55 qbu55 qbp55 rfl)) trivial ?_
   refine dh_ro (fun M_ hM_ => (ro_nilP (up_m rfl (u2 rfl (u16 rfl up_h))))) trivial ?_
   refine dh_ro (fun M_ hM_ => (ro_fld_ptr qfl66_0 rfl up_h)) trivial ?_
   refine dh_set (2) (fun M_ hM_ => (se_store_el up_h (up_m rfl (u2 rfl (u4 rfl (u8 rfl up_h)))) rfl rfl rfl (agr hM_ mo2_21 (by simp)) (Nat.add_zero _).symm (by first | (refine idx_map ?_; first | omega | (simp only [lnS]; omega)) | (refine idx_mapI ?_; first | omega | (simp only [lnS]; omega)) | (refine idx_mapN ?_; first | omega | (simp only [lnS]; omega)) | rfl) qsz3 rfl (nle rfl))) trivial trivial ⟨.inr (wt_one 22 5 (by kernel_rfl)), ⟨.inr (wt_one 22 11 (by kernel_rfl)), ⟨.inr (wt_one 22 17 (by kernel_rfl)), trivial⟩⟩⟩ (fun m_22 hm_22 => ?_)
   have mo2_22 := m_set hm_22 mo2_21
   simp only [pS, Value.cells, Nat.reduceAdd, jnE, beE, hwE, set_jn4, set_be, set_hw, hwF_r, hwF_set, set_iE, zsN_rho, Nat.reduceAdd] at mo2_22
   have mo3_22 := m_set_o hm_22 mo3_21 (by decide)
   have mo_5_l_ss_length__22 := m_set_o hm_22 mo_5_l_ss_length__21 (by omega)
   have mo1_22 := m_set_o hm_22 mo1_21 (by decide)
   have mo0_22 := m_set_o hm_22 mo0_21 (by decide)
   have mo4_22 := m_set_o hm_22 mo4_21 (by decide)
   have moFAM_22 := FamR.m_set_o hm_22 moFAM_21 (by omega)
   have ml_22 := m_set_l hm_22 ml_21
   clear hm_22 mo2_21 mo3_21 mo_5_l_ss_length__21 mo1_21 mo0_21 mo4_21 moFAM_21
   refine dh_nil rfl ?_
   refine ar (ro_nilP (up_n (u4 rfl (u16 rfl up_h)))) rfl <| ar (ro_fld_el (o := 0) qfl66_2 rfl up_h) rfl <| al_stm (st_store_el up_h (u2 rfl (up_n (u2 rfl up_h))) rfl rfl rfl mo2_22 rfl (by refine idx_mapI ?_; first | omega | (simp only [lnS]; omega)) qsz55 rfl (nle rfl)) trivial rfl (fun m_23 hm_23 => ?_)
   have mo2_23 := m_set hm_23 mo2_22
   simp only [pS, Value.cells, Nat.reduceAdd, jnE, beE, hwE, set_jn4, set_be, set_hw, hwF_r, hwF_set, set_iE, zsN_rho, Nat.reduceAdd] at mo2_23
   have mo3_23 := m_set_o hm_23 mo3_22 (by decide)
   have mo_5_l_ss_length__23 := m_set_o hm_23 mo_5_l_ss_length__22 (by omega)
   have mo1_23 := m_set_o hm_23 mo1_22 (by decide)
   have mo0_23 := m_set_o hm_23 mo0_22 (by decide)
   have mo4_23 := m_set_o hm_23 mo4_22 (by decide)
   have moFAM_23 := FamR.m_set_o hm_23 moFAM_22 (by omega)
   have ml_23 := m_set_l hm_23 ml_22
   clear hm_23 mo2_22 mo3_22 mo_5_l_ss_length__22 mo1_22 mo0_22 mo4_22 moFAM_22
   refine ae4 (up_n (u2 rfl (up_n (u2 rfl (u4 rfl (u16 rfl s2_20)))))) (up_n (u2 rfl (up_n (u2 rfl (u4 rfl (u16 rfl s6_20)))))) (up_n (u2 rfl (up_n (u2 rfl (u4 rfl (u16 rfl s32_20)))))) (up_n (u2 rfl (up_n (u2 rfl (u4 rfl (u16 rfl s33_20)))))) ?_; clear s2_20 s32_20 s33_20 s6_20 s8_20; intro e_24 s2_24 s6_24 s32_24 s33_24
   refine block_n <| then_n <| at_ ?_
   (refine ar (ro_add' s33_24 ev_c ?_) rfl ?_; · (unfold In64; omega))
   refine ar (ro_move up_h) rfl <| ae4 (u2 rfl s2_24) (u2 rfl s6_24) (u2 rfl s32_24) up_h ?_; clear s2_24 s32_24 s33_24 s6_24; intro e_25 s2_25 s6_25 s32_25 s33_25
   refine then_n <| ⟨⟨_, _⟩, ⟨s33_25, (s2_25.trans s2_15.symm), (s6_25.trans s6_15.symm), (s32_25.trans s32_15.symm), mo2_23, (mo3_23.trans mo3_13.symm), (mo_5_l_ss_length__23.trans mo_5_l_ss_length__13.symm), (mo1_23.trans mo1_13.symm), (mo0_23.trans mo0_13.symm), (mo4_23.trans mo4_13.symm), ml_23, ?_⟩, ?_⟩
   ·(refine ⟨by omega, by omega, ?_, moFAM_23⟩; rw [show (a + 1).toNat = a.toNat + 1 by omega]; simp only [updN]; rw [← a3, List.set_set, getD_set_s (by omega)]; rfl)
   ·((try dsimp only); omega)
  replace hq_18 := bf hq_18
  refine aw_exit <| then_x <| then_x <| block_hit <| then_n <| aw_seq <| aw_seq <| at_ <| ar (ro_fld_ptr qfl26_2 rfl s6_17) rfl <| ar (ro_eq (ro_ld_ptr y85_ty23 rfl mo_5_l_ss_length__16 up_h (nle rfl)) (by simp only [pS, Value.cells, Nat.reduceAdd, jnE, beE, hwE, set_jn4, set_be, set_hw, hwF_r, hwF_set, set_iE, zsN_rho, Nat.reduceAdd] <;> rfl)) rfl ?_
  refine ar (ro_eq (ro_len_own up_h mo3_16 rfl y85_sl23.1) (by simp only [lnS] <;> rfl)) rfl ?_
  refine ar (ro_move ev_c) rfl <| ae4 (u4 rfl s2_17) (u4 rfl s6_17) (up_m rfl up_h) up_h ?_; clear s2_17 s32_17 s33_17 s34_17 s6_17; intro e_26 s2_26 s6_26 s67_26 s68_26
  refine then_n <| aw_block <| aw_loop (S := (Int × List Bea)) (fun s e mem => match s with | ⟨b, us⟩ => (evA e (.tmp 68) = .v (.int .i64 b)) ∧ (evA e (.tmp 2) = evA e_26 (.tmp 2)) ∧ (evA e (.tmp 6) = evA e_26 (.tmp 6)) ∧ (evA e (.tmp 67) = evA e_26 (.tmp 67)) ∧ (mem[3]? = some (.row 69 2 (us.map beE))) ∧ (mem[2]? = m_16[2]?) ∧ (mem[(5 + l.ss.length)]? = m_16[(5 + l.ss.length)]?) ∧ (mem[1]? = m_16[1]?) ∧ (mem[0]? = m_16[0]?) ∧ (mem[4]? = m_16[4]?) ∧ (mem.length = (5 + l.ss.length) + 1) ∧ ((0 ≤ b ∧ b ≤ l.bs.length ∧ us = updN (fun _ => bRev) l.bs.reverse b.toNat ∧ Fam mem (hwF (zsN 5 l.ss)) l.ss.length l.ss.length 4 3 1 (acF l.ss) 5 (5 + l.ss.length) 4))) (fun s => match s with | ⟨b, us⟩ => (l.bs.length - b).toNat) ⟨_, l.bs.reverse⟩ ⟨s68_26, rfl, rfl, rfl, mo3_16, rfl, rfl, rfl, rfl, rfl, ml_16, ?_⟩ ?_
  ·(exact ⟨by omega, by omega, rfl, hF⟩)
  ·rintro ⟨b, us⟩ e_27 m_27 ⟨s68_27, k2_27, k6_27, k67_27, mo3_27, mk2_27, mk_5_l_ss_length__27, mk1_27, mk0_27, mk4_27, ml_27, hinv⟩
   have s2_27 := k2_27.trans s2_26
   have s6_27 := k6_27.trans s6_26
   have s67_27 := k67_27.trans s67_26
   have mo2_27 := mk2_27.trans mo2_16
   have mo_5_l_ss_length__27 := mk_5_l_ss_length__27.trans mo_5_l_ss_length__16
   have mo1_27 := mk1_27.trans mo1_16
   have mo0_27 := mk0_27.trans mo0_16
   have mo4_27 := mk4_27.trans mo4_16
   (obtain ⟨b1, b2, b3, hF2⟩ := hinv; have hul : us.length = l.bs.length := (by rw [b3, updN_len, List.length_reverse]))
   refine aw_seq <| at_ <| ar (ro_lss s68_27 s67_27) rfl <| ae5 (up_m rfl s2_27) (up_m rfl s6_27) (up_m rfl s67_27) (up_m rfl s68_27) up_h ?_; clear s2_27 s67_27 s68_27 s6_27; intro e_28 s2_28 s6_28 s67_28 s68_28 s69_28
   refine then_n <| aw_seq <| aw_case s69_28 (fun hq_29 => ?_) (fun hq_29 => ?_)
   ·replace hq_29 := bt hq_29
    refine aw_skip <| then_n <| aw_seq <| aw_block <| aw_seq <| at_ <| ar (ro_move s68_28) rfl <| ar (ro_assign up_h) rfl <| ae5 (u2 rfl s2_28) (u2 rfl s6_28) up_h (u2 rfl s67_28) (u2 rfl s68_28) ?_; clear s2_28 s67_28 s68_28 s69_28 s6_28; intro e_30 s2_30 s6_30 s9_30 s67_30 s68_30
    refine then_n ?_
    have huv := hr.bea (l.bs.length - 1 - b.toNat) (by omega); have hue : us.getD b.toNat default = l.bs.getD (l.bs.length - 1 - b.toNat) default := (by rw [b3, updN_ge _ _ (Nat.le_refl _), rev_get _ (by omega)]); rw [← hue] at huv
    refine at_ <| ar (ro_fld_ptr qfl26_2 rfl s6_30) rfl <| ar (ro_eq (ro_ld_ptr y85_ty23 rfl mo_5_l_ss_length__27 up_h (nle rfl)) (by simp only [pS, Value.cells, Nat.reduceAdd, jnE, beE, hwE, set_jn4, set_be, set_hw, hwF_r, hwF_set, set_iE, zsN_rho, Nat.reduceAdd] <;> rfl)) rfl ?_
    refine ar (ro_move (u2 rfl s9_30)) rfl <| ar (ro_ix_own y85_sl23 mo3_27 (up_m rfl up_h) up_h (by omega) (by simp only [lnS] <;> omega)) rfl ?_
    refine ar (ro_fld_el (o := 0) qfl69_1 rfl up_h) rfl <| ar (ro_eq (ro_ld_elO y85_ty3 rfl mo3_27 up_h (nle rfl) (by first | (refine idx_map ?_; first | omega | (simp only [lnS]; omega)) | (refine idx_mapI ?_; first | omega | (simp only [lnS]; omega)) | (refine idx_mapN ?_; first | omega | (simp only [lnS]; omega)) | rfl)) (by simp only [pS, Value.cells, Nat.reduceAdd, jnE, beE, hwE, set_jn4, set_be, set_hw, hwF_r, hwF_set, set_iE, zsN_rho, Nat.reduceAdd] <;> rfl)) rfl ?_
    (refine ar (ro_mul' up_h ev_c ?_) rfl ?_; · (unfold In64; omega))
    refine ar (ro_ix_own y85_sl23 mo3_27 (up_m rfl (u4 rfl up_h)) (u4 rfl up_h) (by omega) (by simp only [lnS] <;> omega)) rfl ?_
    refine ar (ro_fld_el (o := 0) qfl69_1 rfl up_h) rfl <| al_stm (st_store_el up_h (u2 rfl up_h) rfl rfl rfl mo3_27 rfl (by first | (refine idx_map ?_; first | omega | (simp only [lnS]; omega)) | (refine idx_mapI ?_; first | omega | (simp only [lnS]; omega)) | (refine idx_mapN ?_; first | omega | (simp only [lnS]; omega)) | rfl) qsz3 rfl (nle rfl)) trivial rfl (fun m_31 hm_31 => ?_)
    have mo3_31 := m_set hm_31 mo3_27
    simp only [pS, Value.cells, Nat.reduceAdd, jnE, beE, hwE, set_jn4, set_be, set_hw, hwF_r, hwF_set, set_iE, zsN_rho, Nat.reduceAdd] at mo3_31
    have mo2_31 := m_set_o hm_31 mo2_27 (by decide)
    have mo_5_l_ss_length__31 := m_set_o hm_31 mo_5_l_ss_length__27 (by omega)
    have mo1_31 := m_set_o hm_31 mo1_27 (by decide)
    have mo0_31 := m_set_o hm_31 mo0_27 (by decide)
    have mo4_31 := m_set_o hm_31 mo4_27 (by decide)
    have moFAM_31 := FamR.m_set_o hm_31 hF2 (by omega)
    have ml_31 := m_set_l hm_31 ml_27
    clear hm_31 mo3_27 mo2_27 mo_5_l_ss_length__27 mo1_27 mo0_27 mo4_27 hF2
    refine ae4 (up_n (up_m rfl (u8 rfl s2_30))) (up_n (up_m rfl (u8 rfl s6_30))) (up_n (up_m rfl (u8 rfl s67_30))) (up_n (up_m rfl (u8 rfl s68_30))) ?_; clear s2_30 s67_30 s68_30 s6_30 s9_30; intro e_32 s2_32 s6_32 s67_32 s68_32
    refine block_n <| then_n <| at_ ?_
    (refine ar (ro_add' s68_32 ev_c ?_) rfl ?_; · (unfold In64; omega))
    refine ar (ro_move up_h) rfl <| ae4 (u2 rfl s2_32) (u2 rfl s6_32) (u2 rfl s67_32) up_h ?_; clear s2_32 s67_32 s68_32 s6_32; intro e_33 s2_33 s6_33 s67_33 s68_33
    refine then_n <| ⟨⟨_, _⟩, ⟨s68_33, (s2_33.trans s2_26.symm), (s6_33.trans s6_26.symm), (s67_33.trans s67_26.symm), mo3_31, (mo2_31.trans mo2_16.symm), (mo_5_l_ss_length__31.trans mo_5_l_ss_length__16.symm), (mo1_31.trans mo1_16.symm), (mo0_31.trans mo0_16.symm), (mo4_31.trans mo4_16.symm), ml_31, ?_⟩, ?_⟩
    ·(refine ⟨by omega, by omega, ?_, moFAM_31⟩; rw [show (b + 1).toNat = b.toNat + 1 by omega]; simp only [updN]; rw [← b3]; unfold bRev; rw [Int.mul_neg, Int.mul_one])
    ·((try dsimp only); omega)
   replace hq_29 := bf hq_29
   refine aw_exit <| then_x <| then_x <| block_hit <| then_n <| aw_seq <| aw_seq <| at_ <| ar (ro_fld_ptr qfl26_3 rfl s6_28) rfl <| ar (ro_eq (ro_ld_ptr y85_ty24 rfl mo_5_l_ss_length__27 up_h (nle rfl)) (by simp only [pS, Value.cells, Nat.reduceAdd, jnE, beE, hwE, set_jn4, set_be, set_hw, hwF_r, hwF_set, set_iE, zsN_rho, Nat.reduceAdd] <;> rfl)) rfl ?_
   refine ar (ro_eq (ro_len_H up_h mo4_27 rfl y85_sl24.1) (by simp only [lnS] <;> rfl)) rfl ?_
   refine ar (ro_move ev_c) rfl <| ae4 (u4 rfl s2_28) (u4 rfl s6_28) (up_m rfl up_h) up_h ?_; clear s2_28 s67_28 s68_28 s69_28 s6_28; intro e_34 s2_34 s6_34 s83_34 s84_34
   refine then_n <| aw_block <| aw_loop (S := (Int × List Hsw)) (fun s e mem => match s with | ⟨i, zs⟩ => (evA e (.tmp 84) = .v (.int .i64 i)) ∧ (evA e (.tmp 2) = evA e_34 (.tmp 2)) ∧ (evA e (.tmp 6) = evA e_34 (.tmp 6)) ∧ (evA e (.tmp 83) = evA e_34 (.tmp 83)) ∧ (mem[4]? = some (.rowH 47 3 (zs.map hwE))) ∧ (mem[3]? = m_27[3]?) ∧ (mem[2]? = m_27[2]?) ∧ (mem[(5 + l.ss.length)]? = m_27[(5 + l.ss.length)]?) ∧ (mem[1]? = m_27[1]?) ∧ (mem[0]? = m_27[0]?) ∧ (mem.length = (5 + l.ss.length) + 1) ∧ ((0 ≤ i ∧ i ≤ l.ss.length ∧ RvZ l.js.length 5 l.ss zs i.toNat ∧ Fam mem (hwF zs) l.ss.length l.ss.length 4 3 1 (acR l.js.length l.ss i.toNat) 5 (5 + l.ss.length) 4))) (fun s => match s with | ⟨i, zs⟩ => (l.ss.length - i).toNat) ⟨_, zsN 5 l.ss⟩ ⟨s84_34, rfl, rfl, rfl, mo4_27, rfl, rfl, rfl, rfl, rfl, ml_27, ?_⟩ ?_
   ·(exact ⟨by omega, by omega, RvZ.zero _ _ _, hF2.congr (fun _ _ => rfl) (fun q _ _ => acR_0 _ _ q)⟩)
   ·rintro ⟨i, zs⟩ e_35 m_35 ⟨s84_35, k2_35, k6_35, k83_35, mo4_35, mk3_35, mk2_35, mk_5_l_ss_length__35, mk1_35, mk0_35, ml_35, hinv⟩
    have s2_35 := k2_35.trans s2_34
    have s6_35 := k6_35.trans s6_34
    have s83_35 := k83_35.trans s83_34
    have mo3_35 := mk3_35.trans mo3_27
    have mo2_35 := mk2_35.trans mo2_27
    have mo_5_l_ss_length__35 := mk_5_l_ss_length__35.trans mo_5_l_ss_length__27
    have mo1_35 := mk1_35.trans mo1_27
    have mo0_35 := mk0_35.trans mo0_27
    (obtain ⟨i1, i2, i3, hF3⟩ := hinv; have hzl := i3.len; have hzn := zsN_len 5 l.ss; have hso := hl.at i.toNat)
    refine aw_seq <| at_ <| ar (ro_lss s84_35 s83_35) rfl <| ae5 (up_m rfl s2_35) (up_m rfl s6_35) (up_m rfl s83_35) (up_m rfl s84_35) up_h ?_; clear s2_35 s6_35 s83_35 s84_35; intro e_36 s2_36 s6_36 s83_36 s84_36 s85_36
    refine then_n <| aw_seq <| aw_case s85_36 (fun hq_37 => ?_) (fun hq_37 => ?_)
    ·replace hq_37 := bt hq_37
     refine aw_skip <| then_n <| aw_seq <| aw_block <| aw_seq <| at_ <| ar (ro_move s84_36) rfl <| ar (ro_assign up_h) rfl <| ae5 (u2 rfl s2_36) (u2 rfl s6_36) up_h (u2 rfl s83_36) (u2 rfl s84_36) ?_; clear s2_36 s6_36 s83_36 s84_36 s85_36; intro e_38 s2_38 s6_38 s10_38 s83_38 s84_38
     refine then_n <| aw_seq ?_
     have kl := hF3.lo i.toNat (by omega); have kh := hF3.hi i.toNat (by omega); obtain ⟨w1, w2, w3, w4⟩ := hr.swi (i := i.toNat) (by omega); have hzf := i3.fst i.toNat (by omega); rw [if_neg (by omega)] at hzf; have hff : (l.js.length : Int) - (zs.getD i.toNat default).fst - (l.ss.getD i.toNat default).acr.length = (sRev l.js.length (l.ss.getD i.toNat default)).fst := (by rw [hzf]; rfl)
     refine at_ <| ar (ro_fld_ptr qfl26_3 rfl s6_38) rfl <| ar (ro_eq (ro_ld_ptr y85_ty24 rfl mo_5_l_ss_length__35 up_h (nle rfl)) (by simp only [pS, Value.cells, Nat.reduceAdd, jnE, beE, hwE, set_jn4, set_be, set_hw, hwF_r, hwF_set, set_iE, zsN_rho, Nat.reduceAdd] <;> rfl)) rfl ?_
     refine ar (ro_move (u2 rfl s10_38)) rfl <| ar (ro_ix_H y85_sl24 mo4_35 (up_m rfl up_h) up_h (by omega) (by simp only [lnS] <;> omega)) rfl ?_
     refine ar (ro_assign up_h) rfl <| ae5 (up_m rfl (u4 rfl s2_38)) (up_m rfl (u4 rfl s6_38)) up_h (up_m rfl (u4 rfl s83_38)) (up_m rfl (u4 rfl s84_38)) ?_; clear s10_38 s2_38 s6_38 s83_38 s84_38; intro e_39 s2_39 s6_39 s11_39 s83_39 s84_39
     refine then_n <| aw_seq ?_
     obtain ⟨mo_hwF_zs_i_toNat__40, moFAM_40⟩ := hF3.take (q := i.toNat) (by omega)
     rw [acR_at] at mo_hwF_zs_i_toNat__40
     refine aw_draw 17 (by kernel_rfl) (by kernel_rfl) (by kernel_rfl) (by kernel_rfl) ?_
     refine dr (ro_move s11_39) rfl <| dr (ro_fld_ptr qfl26_1 rfl (up_m rfl s6_39)) rfl <| dr (ro_eq (ro_ld_ptr y85_ty22 rfl mo_5_l_ss_length__35 up_h (nle rfl)) (by simp only [pS, Value.cells, Nat.reduceAdd, jnE, beE, hwE, set_jn4, set_be, set_hw, hwF_r, hwF_set, set_iE, zsN_rho, Nat.reduceAdd] <;> rfl)) rfl ?_
     refine dr (ro_eq (ro_len_own up_h mo2_35 rfl y85_sl22.1) (by simp only [lnS] <;> rfl)) rfl ?_
     refine dr (ro_move (u4 rfl s11_39)) rfl <| dr (ro_nilP up_h) rfl <| dr (ro_fld_el (o := 0) qfl47_1 rfl up_h) rfl <| dr (ro_eq (ro_ld_elH y85_ty3 rfl mo4_35 up_h (nle rfl) (by first | (refine idx_map ?_; first | omega | (simp only [lnS]; omega)) | (refine idx_mapI ?_; first | omega | (simp only [lnS]; omega)) | (refine idx_mapN ?_; first | omega | (simp only [lnS]; omega)) | rfl)) (by simp only [pS, Value.cells, Nat.reduceAdd, jnE, beE, hwE, set_jn4, set_be, set_hw, hwF_r, hwF_set, set_iE, zsN_rho, Nat.reduceAdd] <;> rfl)) rfl ?_
     (refine dr (ro_sub' (u4 rfl up_h) up_h ?_) rfl ?_; · (unfold In64; omega))
     refine dr (ro_move (up_m rfl (u8 rfl s11_39))) rfl <| dr (ro_nilP up_h) rfl <| dr (ro_fld_el (o := 0) qfl47_2 rfl up_h) rfl <| dr (ro_eq (ro_ld_elH y85_ty40 rfl mo4_35 up_h (nle rfl) (by first | (refine idx_map ?_; first | omega | (simp only [lnS]; omega)) | (refine idx_mapI ?_; first | omega | (simp only [lnS]; omega)) | (refine idx_mapN ?_; first | omega | (simp only [lnS]; omega)) | rfl)) (by simp only [pS, Value.cells, Nat.reduceAdd, jnE, beE, hwE, set_jn4, set_be, set_hw, hwF_r, hwF_set, set_iE, zsN_rho, Nat.reduceAdd] <;> rfl)) rfl ?_
     refine dr (ro_eq (ro_len_own up_h mo_hwF_zs_i_toNat__40 rfl y85_sl40.1) (by simp only [lnS] <;> rfl)) rfl ?_
     (refine dr (ro_sub' (up_m rfl (u4 rfl up_h)) up_h ?_) rfl ?_; · (unfold In64; omega))
     refine dr (ro_nilP (u2 rfl (u4 rfl (u8 rfl up_h)))) rfl <| dr (ro_fld_el (o := 0) qfl47_1 rfl up_h) rfl <| ds_nil <| al_stm (st_store_elH up_h (u2 rfl up_h) rfl rfl mo4_35 rfl (by first | (refine idx_map ?_; first | omega | (simp only [lnS]; omega)) | (refine idx_mapI ?_; first | omega | (simp only [lnS]; omega)) | (refine idx_mapN ?_; first | omega | (simp only [lnS]; omega)) | rfl) qsz3 rfl (nle rfl)) trivial rfl (fun m_41 hm_41 => ?_)
     have mo4_41 := m_set hm_41 mo4_35
     simp only [pS, Value.cells, Nat.reduceAdd, jnE, beE, hwE, set_jn4, set_be, set_hw, hwF_r, hwF_set, set_iE, zsN_rho, Nat.reduceAdd] at mo4_41
     have mo3_41 := m_set_o hm_41 mo3_35 (by decide)
     have mo2_41 := m_set_o hm_41 mo2_35 (by decide)
     have mo_5_l_ss_length__41 := m_set_o hm_41 mo_5_l_ss_length__35 (by omega)
     have mo1_41 := m_set_o hm_41 mo1_35 (by decide)
     have mo0_41 := m_set_o hm_41 mo0_35 (by decide)
     have moFAM_41 := FamR.m_set_o hm_41 moFAM_40 (by omega)
     have mo_hwF_zs_i_toNat__41 := m_set_o hm_41 mo_hwF_zs_i_toNat__40 (by omega)
     have ml_41 := m_set_l hm_41 ml_35
     clear hm_41 mo4_35 mo3_35 mo2_35 mo_5_l_ss_length__35 mo1_35 mo0_35 moFAM_40 mo_hwF_zs_i_toNat__40
     refine ae5 (up_n (up_m rfl (u16 rfl s2_39))) (up_n (up_m rfl (u16 rfl s6_39))) (up_n (up_m rfl (u16 rfl s11_39))) (up_n (up_m rfl (u16 rfl s83_39))) (up_n (up_m rfl (u16 rfl s84_39))) ?_; clear s11_39 s2_39 s6_39 s83_39 s84_39; intro e_42 s2_42 s6_42 s11_42 s83_42 s84_42
     refine then_n <| aw_seq <| at_ <| ar (ro_move s11_42) rfl <| ar (ro_nilP up_h) rfl <| ar (ro_fld_el (o := 0) qfl47_2 rfl up_h) rfl <| ar (ro_eq (ro_ld_elH y85_ty40 rfl mo4_41 up_h (nle rfl) (by refine idx_mapI ?_; first | omega | (simp only [lnS]; omega))) (by simp only [pS, Value.cells, Nat.reduceAdd, jnE, beE, hwE, set_jn4, set_be, set_hw, hwF_r, hwF_set, set_iE, zsN_rho, Nat.reduceAdd] <;> rfl)) rfl ?_
     refine al_stm (st_muE (st_mu' (revInts (l.ss.getD i.toNat default).acr (hl.at i.toNat).2) [(hwF zs i.toNat)] ml_41 (evL_cons up_h evL_nil) .nil (by simp <;> omega) (.ob mo_hwF_zs_i_toNat__41 .nil) rfl y85_hcf31) (rn_ro rfl)) trivial rfl (fun m_43 hm_43 => ?_)
     have mo_hwF_zs_i_toNat__43 : m_43[(hwF zs i.toNat)]? = some _ := m_ups_t hm_43 (Nat.le_of_ble_eq_true rfl) (by simp <;> omega) (lt_cons mo_hwF_zs_i_toNat__41 lt_nil) 0 rfl rfl
     (try simp only [Ob.rn, rn, rn.rnL, rho, List.length_cons, List.length_nil, List.getElem?_cons_zero, List.getElem?_cons_succ, List.getElem?_nil, Nat.reduceAdd, Nat.reduceSub, Nat.add_zero, Nat.sub_self, jnE, beE, hwE, set_jn4, set_be, set_hw, hwF_r, hwF_set, set_iE, zsN_rho, Nat.reduceAdd] at mo_hwF_zs_i_toNat__43)
     have mo4_43 := m_ups_o hm_43 (Nat.le_of_ble_eq_true rfl) mo4_41 (by simp <;> omega)
     have mo3_43 := m_ups_o hm_43 (Nat.le_of_ble_eq_true rfl) mo3_41 (by simp <;> omega)
     have mo2_43 := m_ups_o hm_43 (Nat.le_of_ble_eq_true rfl) mo2_41 (by simp <;> omega)
     have mo_5_l_ss_length__43 := m_ups_o hm_43 (Nat.le_of_ble_eq_true rfl) mo_5_l_ss_length__41 (by simp <;> omega)
     have mo1_43 := m_ups_o hm_43 (Nat.le_of_ble_eq_true rfl) mo1_41 (by simp <;> omega)
     have mo0_43 := m_ups_o hm_43 (Nat.le_of_ble_eq_true rfl) mo0_41 (by simp <;> omega)
     have moFAM_43 := FamR.m_ups_o hm_43 (Nat.le_of_ble_eq_true rfl) moFAM_41 (by simp <;> omega)
     have ml_43 : _ = (5 + l.ss.length) + 1 := m_ups_l hm_43 ml_41 0 rfl
     clear hm_43 mo4_41 mo3_41 mo2_41 mo_5_l_ss_length__41 mo1_41 mo0_41 moFAM_41 mo_hwF_zs_i_toNat__41 ml_41
     refine ae5 (up_m rfl (u4 rfl s2_42)) (up_m rfl (u4 rfl s6_42)) (up_m rfl (u4 rfl s11_42)) (up_m rfl (u4 rfl s83_42)) (up_m rfl (u4 rfl s84_42)) ?_; clear s11_42 s2_42 s6_42 s83_42 s84_42; intro e_44 s2_44 s6_44 s11_44 s83_44 s84_44
     refine then_n <| aw_seq <| at_ <| ar (ro_move s11_44) rfl <| ar (ro_nilP up_h) rfl <| ar (ro_fld_el (o := 0) qfl47_2 rfl up_h) rfl <| ar (ro_eq (ro_ld_elH y85_ty40 rfl mo4_43 up_h (nle rfl) (by refine idx_mapI ?_; first | omega | (simp only [lnS]; omega))) (by simp only [pS, Value.cells, Nat.reduceAdd, jnE, beE, hwE, set_jn4, set_be, set_hw, hwF_r, hwF_set, set_iE, zsN_rho, Nat.reduceAdd] <;> rfl)) rfl ?_
     refine ar (ro_eq (ro_len_own up_h mo_hwF_zs_i_toNat__43 rfl y85_sl40.1) (by simp only [lnS] <;> rfl)) rfl ?_
     refine ar (ro_move ev_c) rfl <| ae7 (u2 rfl (u4 rfl s2_44)) (u2 rfl (u4 rfl s6_44)) (u2 rfl (u4 rfl s11_44)) (u2 rfl (u4 rfl s83_44)) (u2 rfl (u4 rfl s84_44)) (up_m rfl up_h) up_h ?_; clear s11_44 s2_44 s6_44 s83_44 s84_44; intro e_45 s2_45 s6_45 s11_45 s83_45 s84_45 s117_45 s118_45
     refine then_n <| aw_block <| aw_loop (S := (Int × List Int)) (fun s e mem => match s with | ⟨k, vs⟩ => (evA e (.tmp 118) = .v (.int .i64 k)) ∧ (evA e (.tmp 2) = evA e_45 (.tmp 2)) ∧ (evA e (.tmp 6) = evA e_45 (.tmp 6)) ∧ (evA e (.tmp 11) = evA e_45 (.tmp 11)) ∧ (evA e (.tmp 83) = evA e_45 (.tmp 83)) ∧ (evA e (.tmp 84) = evA e_45 (.tmp 84)) ∧ (evA e (.tmp 117) = evA e_45 (.tmp 117)) ∧ (mem[(hwF zs i.toNat)]? = some (.row 3 1 (vs.map iE))) ∧ (mem[4]? = m_43[4]?) ∧ (mem[3]? = m_43[3]?) ∧ (mem[2]? = m_43[2]?) ∧ (mem[(5 + l.ss.length)]? = m_43[(5 + l.ss.length)]?) ∧ (mem[1]? = m_43[1]?) ∧ (mem[0]? = m_43[0]?) ∧ (mem.length = (5 + l.ss.length) + 1) ∧ ((0 ≤ k ∧ k ≤ (l.ss.getD i.toNat default).acr.length ∧ vs = updN (fun _ x => -x) (l.ss.getD i.toNat default).acr.reverse k.toNat ∧ Fam mem (hwF zs) l.ss.length i.toNat (hwF zs i.toNat) 3 1 (acR l.js.length l.ss i.toNat) 5 (5 + l.ss.length) 4))) (fun s => match s with | ⟨k, vs⟩ => ((l.ss.getD i.toNat default).acr.length - k).toNat) ⟨_, (l.ss.getD i.toNat default).acr.reverse⟩ ⟨s118_45, rfl, rfl, rfl, rfl, rfl, rfl, mo_hwF_zs_i_toNat__43, rfl, rfl, rfl, rfl, rfl, rfl, ml_43, ?_⟩ ?_
     ·(exact ⟨by omega, by omega, rfl, moFAM_43⟩)
     ·rintro ⟨k, vs⟩ e_46 m_46 ⟨s118_46, k2_46, k6_46, k11_46, k83_46, k84_46, k117_46, mo_hwF_zs_i_toNat__46, mk4_46, mk3_46, mk2_46, mk_5_l_ss_length__46, mk1_46, mk0_46, ml_46, hinv⟩
      have s2_46 := k2_46.trans s2_45
      have s6_46 := k6_46.trans s6_45
      have s11_46 := k11_46.trans s11_45
      have s83_46 := k83_46.trans s83_45
      have s84_46 := k84_46.trans s84_45
      have s117_46 := k117_46.trans s117_45
      have mo4_46 := mk4_46.trans mo4_43
      have mo3_46 := mk3_46.trans mo3_43
      have mo2_46 := mk2_46.trans mo2_43
      have mo_5_l_ss_length__46 := mk_5_l_ss_length__46.trans mo_5_l_ss_length__43
      have mo1_46 := mk1_46.trans mo1_43
      have mo0_46 := mk0_46.trans mo0_43
      (obtain ⟨k1, k2, k3, hF4⟩ := hinv; have hvl : vs.length = (l.ss.getD i.toNat default).acr.length := (by rw [k3, updN_len, List.length_reverse]))
      refine aw_seq <| at_ <| ar (ro_lss s118_46 s117_46) rfl <| ae8 (up_m rfl s2_46) (up_m rfl s6_46) (up_m rfl s11_46) (up_m rfl s83_46) (up_m rfl s84_46) (up_m rfl s117_46) (up_m rfl s118_46) up_h ?_; clear s117_46 s118_46 s11_46 s2_46 s6_46 s83_46 s84_46; intro e_47 s2_47 s6_47 s11_47 s83_47 s84_47 s117_47 s118_47 s119_47
      refine then_n <| aw_seq <| aw_case s119_47 (fun hq_48 => ?_) (fun hq_48 => ?_)
      ·replace hq_48 := bt hq_48
       refine aw_skip <| then_n <| aw_seq <| aw_block <| aw_seq <| at_ <| ar (ro_move s118_47) rfl <| ar (ro_assign up_h) rfl <| ae8 (u2 rfl s2_47) (u2 rfl s6_47) (u2 rfl s11_47) up_h (u2 rfl s83_47) (u2 rfl s84_47) (u2 rfl s117_47) (u2 rfl s118_47) ?_; clear s117_47 s118_47 s119_47 s11_47 s2_47 s6_47 s83_47 s84_47; intro e_49 s2_49 s6_49 s11_49 s12_49 s83_49 s84_49 s117_49 s118_49
       refine then_n ?_
       have hve : vs.getD k.toNat default = (l.ss.getD i.toNat default).acr.getD ((l.ss.getD i.toNat default).acr.length - 1 - k.toNat) default := (by rw [k3, updN_ge _ _ (Nat.le_refl _), rev_get _ (by omega)]); have hvb := w4 _ (getD_mem (xs := (l.ss.getD i.toNat default).acr) (k := (l.ss.getD i.toNat default).acr.length - 1 - k.toNat) (by omega)); rw [← hve] at hvb
       refine at_ <| ar (ro_move s11_49) rfl <| ar (ro_nilP up_h) rfl <| ar (ro_fld_el (o := 0) qfl47_2 rfl up_h) rfl <| ar (ro_eq (ro_ld_elH y85_ty40 rfl mo4_46 up_h (nle rfl) (by refine idx_mapI ?_; first | omega | (simp only [lnS]; omega))) (by simp only [pS, Value.cells, Nat.reduceAdd, jnE, beE, hwE, set_jn4, set_be, set_hw, hwF_r, hwF_set, set_iE, zsN_rho, Nat.reduceAdd] <;> rfl)) rfl ?_
       refine ar (ro_move (u4 rfl s12_49)) rfl <| ar (ro_ix_own y85_sl40 mo_hwF_zs_i_toNat__46 (up_m rfl up_h) up_h (by omega) (by simp only [lnS] <;> omega)) rfl ?_
       refine ar (ro_eq (ro_ld_el y85_ty3 rfl mo_hwF_zs_i_toNat__46 up_h (nle rfl) (by first | (refine idx_map ?_; first | omega | (simp only [lnS]; omega)) | (refine idx_mapI ?_; first | omega | (simp only [lnS]; omega)) | (refine idx_mapN ?_; first | omega | (simp only [lnS]; omega)) | rfl)) (by simp only [pS, Value.cells, Nat.reduceAdd, jnE, beE, hwE, set_jn4, set_be, set_hw, hwF_r, hwF_set, set_iE, zsN_rho, Nat.reduceAdd] <;> rfl)) rfl ?_
       (refine ar (ro_mul' up_h ev_c ?_) rfl ?_; · (unfold In64; omega))
       refine ar (ro_ix_own y85_sl40 mo_hwF_zs_i_toNat__46 (u4 rfl up_h) (up_m rfl (u2 rfl up_h)) (by omega) (by simp only [lnS] <;> omega)) rfl ?_
       refine al_stm (st_store_el up_h (up_m rfl up_h) rfl rfl rfl mo_hwF_zs_i_toNat__46 (Nat.add_zero _).symm (by first | (refine idx_map ?_; first | omega | (simp only [lnS]; omega)) | (refine idx_mapI ?_; first | omega | (simp only [lnS]; omega)) | (refine idx_mapN ?_; first | omega | (simp only [lnS]; omega)) | rfl) qsz3 rfl (nle rfl)) trivial rfl (fun m_50 hm_50 => ?_)
       have mo_hwF_zs_i_toNat__50 := m_set hm_50 mo_hwF_zs_i_toNat__46
       simp only [pS, Value.cells, Nat.reduceAdd, jnE, beE, hwE, set_jn4, set_be, set_hw, hwF_r, hwF_set, set_iE, zsN_rho, Nat.reduceAdd] at mo_hwF_zs_i_toNat__50
       have mo4_50 := m_set_o hm_50 mo4_46 (by omega)
       have mo3_50 := m_set_o hm_50 mo3_46 (by omega)
       have mo2_50 := m_set_o hm_50 mo2_46 (by omega)
       have mo_5_l_ss_length__50 := m_set_o hm_50 mo_5_l_ss_length__46 (by omega)
       have mo1_50 := m_set_o hm_50 mo1_46 (by omega)
       have mo0_50 := m_set_o hm_50 mo0_46 (by omega)
       have moFAM_50 := FamR.m_set_o hm_50 hF4 (by omega)
       have ml_50 := m_set_l hm_50 ml_46
       clear hm_50 mo_hwF_zs_i_toNat__46 mo4_46 mo3_46 mo2_46 mo_5_l_ss_length__46 mo1_46 mo0_46 hF4
       refine ae7 (up_n (up_m rfl (u8 rfl s2_49))) (up_n (up_m rfl (u8 rfl s6_49))) (up_n (up_m rfl (u8 rfl s11_49))) (up_n (up_m rfl (u8 rfl s83_49))) (up_n (up_m rfl (u8 rfl s84_49))) (up_n (up_m rfl (u8 rfl s117_49))) (up_n (up_m rfl (u8 rfl s118_49))) ?_; clear s117_49 s118_49 s11_49 s12_49 s2_49 s6_49 s83_49 s84_49; intro e_51 s2_51 s6_51 s11_51 s83_51 s84_51 s117_51 s118_51
       refine block_n <| then_n <| at_ ?_
       (refine ar (ro_add' s118_51 ev_c ?_) rfl ?_; · (unfold In64; omega))
       refine ar (ro_move up_h) rfl <| ae7 (u2 rfl s2_51) (u2 rfl s6_51) (u2 rfl s11_51) (u2 rfl s83_51) (u2 rfl s84_51) (u2 rfl s117_51) up_h ?_; clear s117_51 s118_51 s11_51 s2_51 s6_51 s83_51 s84_51; intro e_52 s2_52 s6_52 s11_52 s83_52 s84_52 s117_52 s118_52
       refine then_n <| ⟨⟨_, _⟩, ⟨s118_52, (s2_52.trans s2_45.symm), (s6_52.trans s6_45.symm), (s11_52.trans s11_45.symm), (s83_52.trans s83_45.symm), (s84_52.trans s84_45.symm), (s117_52.trans s117_45.symm), mo_hwF_zs_i_toNat__50, (mo4_50.trans mo4_43.symm), (mo3_50.trans mo3_43.symm), (mo2_50.trans mo2_43.symm), (mo_5_l_ss_length__50.trans mo_5_l_ss_length__43.symm), (mo1_50.trans mo1_43.symm), (mo0_50.trans mo0_43.symm), ml_50, ?_⟩, ?_⟩
       ·(refine ⟨by omega, by omega, ?_, moFAM_50⟩; rw [show (k + 1).toNat = k.toNat + 1 by omega]; simp only [updN]; rw [← k3, Int.mul_neg, Int.mul_one])
       ·((try dsimp only); omega)
      replace hq_48 := bf hq_48
      refine aw_exit <| then_x <| then_x <| block_hit <| block_n <| then_n ?_
      have hvv : vs = (sRev l.js.length (l.ss.getD i.toNat default)).acr := (by rw [k3, show k.toNat = (l.ss.getD i.toNat default).acr.reverse.length by rw [List.length_reverse]; omega, updN_all]; rfl)
      have moFAM_53 := hF4.give (by omega) mo_hwF_zs_i_toNat__46
      refine at_ ?_
      (refine ar (ro_add' s84_47 ev_c ?_) rfl ?_; · (unfold In64; omega))
      refine ar (ro_move up_h) rfl <| ae4 (u2 rfl s2_47) (u2 rfl s6_47) (u2 rfl s83_47) up_h ?_; clear s117_47 s118_47 s119_47 s11_47 s2_47 s6_47 s83_47 s84_47; intro e_54 s2_54 s6_54 s83_54 s84_54
      refine then_n <| ⟨⟨_, _⟩, ⟨s84_54, (s2_54.trans s2_34.symm), (s6_54.trans s6_34.symm), (s83_54.trans s83_34.symm), mo4_46, (mo3_46.trans mo3_27.symm), (mo2_46.trans mo2_27.symm), (mo_5_l_ss_length__46.trans mo_5_l_ss_length__27.symm), (mo1_46.trans mo1_27.symm), (mo0_46.trans mo0_27.symm), ml_46, ?_⟩, ?_⟩
      ·(refine ⟨by omega, by omega, ?_, ?_⟩; (rw [show (i + 1).toNat = i.toNat + 1 by omega]; exact i3.next (by omega) (by rw [hyl]; exact hff)); (rw [show (i + 1).toNat = i.toNat + 1 by omega]; exact moFAM_53.congr (fun q _ => hwF_set2 _ _ _ _ q) (fun q _ _ => acR_next hvv q)))
      ·((try dsimp only); omega)
    replace hq_37 := bf hq_37
    refine aw_exit <| then_x <| then_x <| block_hit <| then_n <| aw_seq ?_
    have hit : i.toNat = l.ss.length := (by omega)
    refine aw_freezeAll (p := (fun q => 3 * q + 2)) (l.ss.length) _ _ mo4_35 hF3 (hw_own hzl) (fun a b _ _ h => by (try dsimp only at h); omega) fun m0_55 els_55 h1_55 h2_55 h3_55 h4_55 h5_55 h6_55 h7_55 => ?_
    have he_55 : els_55 = (revL l).ss.map swE := sw_done hzl (revL_ss l) h3_55 h4_55 h5_55 h7_55 (fun q hq => by rw [revL_s l hq]; exact ⟨i3.nam q hq, by rw [i3.fst q hq, if_pos (by omega)], by unfold acR; rw [if_pos (by omega)]⟩)
    subst he_55
    refine aw_fromH h2_55 (swE_ro _) (fun m_55 hm_55 => ?_)
    have mo4_55 := m_set hm_55 h2_55
    have mo3_55 := m_set_o hm_55 ((h6_55 (3) (by decide) (fun q_ hq_ he_ => by have a_ := hF3.lo q_ hq_; have b_ := hF3.hi q_ hq_; omega)).trans mo3_35) (by decide)
    have mo2_55 := m_set_o hm_55 ((h6_55 (2) (by decide) (fun q_ hq_ he_ => by have a_ := hF3.lo q_ hq_; have b_ := hF3.hi q_ hq_; omega)).trans mo2_35) (by decide)
    have mo_5_l_ss_length__55 := m_set_o hm_55 ((h6_55 ((5 + l.ss.length)) (by omega) (fun q_ hq_ he_ => by have a_ := hF3.lo q_ hq_; have b_ := hF3.hi q_ hq_; omega)).trans mo_5_l_ss_length__35) (by omega)
    have mo1_55 := m_set_o hm_55 ((h6_55 (1) (by decide) (fun q_ hq_ he_ => by have a_ := hF3.lo q_ hq_; have b_ := hF3.hi q_ hq_; omega)).trans mo1_35) (by decide)
    have mo0_55 := m_set_o hm_55 ((h6_55 (0) (by decide) (fun q_ hq_ he_ => by have a_ := hF3.lo q_ hq_; have b_ := hF3.hi q_ hq_; omega)).trans mo0_35) (by decide)
    have ml_55 := m_set_l hm_55 (h1_55.trans ml_35)
    clear hm_55 h2_55
    refine at_ <| ar (ro_eq (ro_ld_ptr y85_ty26 rfl mo_5_l_ss_length__55 s6_36 (nle rfl)) (by simp only [pS, Value.cells, Nat.reduceAdd, jnE, beE, hwE, set_jn4, set_be, set_hw, hwF_r, hwF_set, set_iE, zsN_rho, Nat.reduceAdd] <;> rfl)) rfl ?_
    refine al_stm (st_storeO (up_m rfl s2_36) up_h rfl (oneL_c rfl (oneL_o mo2_55 (oneL_o mo3_55 (oneL_o mo4_55 oneL_nil)))) mo1_55 qsz26 rfl (nle rfl)) trivial rfl (fun m_56 hm_56 => ?_)
    have mo1_56 := m_set hm_56 mo1_55
    simp only [pS, Value.cells, Nat.reduceAdd, jnE, beE, hwE, set_jn4, set_be, set_hw, hwF_r, hwF_set, set_iE, zsN_rho, Nat.reduceAdd] at mo1_56
    have mo4_56 := m_set_o hm_56 mo4_55 (by decide)
    have mo3_56 := m_set_o hm_56 mo3_55 (by decide)
    have mo2_56 := m_set_o hm_56 mo2_55 (by decide)
    have mo_5_l_ss_length__56 := m_set_o hm_56 mo_5_l_ss_length__55 (by omega)
    have mo0_56 := m_set_o hm_56 mo0_55 (by decide)
    have ml_56 := m_set_l hm_56 ml_55
    clear hm_56 mo4_55 mo3_55 mo2_55 mo_5_l_ss_length__55 mo1_55 mo0_55
    refine ar (ro_assign ev_c) rfl <| ae2 (up_m rfl (up_n (up_m rfl s2_36))) up_h ?_; clear s2_36 s6_36 s83_36 s84_36 s85_36; intro e_57 s2_57 s3_57
    refine then_n <| aw_ret <| ret2 (.inr rfl) (by kernel_rfl) (resV_cell s2_57 mo1_56 y85_ty26 (nle rfl) (by simp)) (resV_tmp s3_57) (vw_r (vw_agg (vwl_cons (.ro _ rfl) (vwl_cons (.own _ _ _ _ mo2_56) (vwl_cons (.own _ _ _ _ mo3_56) (vwl_cons (.own _ _ _ _ mo4_56) vwl_nil)))))) (.ro _ rfl) ?_
    clear s2_57 s3_57 mo1_56 mo4_56 mo3_56 mo2_56 mo_5_l_ss_length__56 mo0_56 ml_56
    (have e1 : ys = (revL l).js := (by rw [a3, show a.toNat = l.js.reverse.length by rw [List.length_reverse]; omega, updN_all]; rfl); have e2 : us = (revL l).bs := (by rw [b3, show b.toNat = l.bs.reverse.length by rw [List.length_reverse]; omega, updN_all]; rfl); rw [e1, e2]; rfl)
theorem y86_bz47 : (Try.prog.info? 47).bind (·.zero) = some (.agg #[.string ByteArray.empty, .int .i64 0, .slice none 0 0]) := by kernel_rfl
theorem y86_bu47 : Try.prog.underlying 47 = some (.struct (fsOf Try.prog 47)) := by kernel_rfl
theorem y86_bp47 : ∀ w, ((fsOf Try.prog 47).mapM fun f => Prod.mk f.offset <$> sizeOf f.type : Sem (Array (Nat × Nat))).run Try.prog w = .ok (#[(0, 1), (1, 1), (2, 1)]) w := fun _ => by kernel_rfl
theorem y86_sl22 : SlIs Try.prog 22 66 4 32 (.agg #[.int .i64 0, .int .i64 0, .int .i64 0, .int .i64 0]) := ⟨by kernel_rfl, by kernel_rfl, by kernel_rfl⟩
theorem y86_sl23 : SlIs Try.prog 23 69 2 16 (.agg #[.int .i64 0, .int .i64 0]) := ⟨by kernel_rfl, by kernel_rfl, by kernel_rfl⟩
theorem y86_sl24 : SlIs Try.prog 24 47 3 48 (.agg #[.string ByteArray.empty, .int .i64 0, .slice none 0 0]) := ⟨by kernel_rfl, by kernel_rfl, by kernel_rfl⟩
theorem y86_sl40 : SlIs Try.prog 40 3 1 8 (.int .i64 0) := ⟨by kernel_rfl, by kernel_rfl, by kernel_rfl⟩
theorem y86_ty22 : TyIs Try.prog 22 false 1 := ⟨by kernel_rfl, by kernel_rfl⟩
theorem y86_ty23 : TyIs Try.prog 23 false 1 := ⟨by kernel_rfl, by kernel_rfl⟩
theorem y86_ty24 : TyIs Try.prog 24 false 1 := ⟨by kernel_rfl, by kernel_rfl⟩
theorem y86_ty26 : TyIs Try.prog 26 true 4 := ⟨by kernel_rfl, by kernel_rfl⟩
theorem y86_ty3 : TyIs Try.prog 3 false 1 := ⟨by kernel_rfl, by kernel_rfl⟩
theorem y86_ty40 : TyIs Try.prog 40 false 1 := ⟨by kernel_rfl, by kernel_rfl⟩
theorem y86_ty47 : TyIs Try.prog 47 true 3 := ⟨by kernel_rfl, by kernel_rfl⟩
theorem y86_ty66 : TyIs Try.prog 66 true 4 := ⟨by kernel_rfl, by kernel_rfl⟩
theorem y86_ty9 : TyIs Try.prog 9 false 1 := ⟨by kernel_rfl, by kernel_rfl⟩
theorem rev_more {α β : Type} [Inhabited α] (f : α → β) (xs : List α) {n : Nat} (h : n < xs.length) : (xs.reverse.map f).take (n + 1) = (xs.reverse.map f).take n ++ [f (xs.getD (xs.length - 1 - n) default)] := by
 have h2 : n < (xs.reverse.map f).length := by simpa using h
 rw [List.take_add_one, List.getElem?_eq_getElem h2]
 congr 1
 have e := rev_get xs h
 rw [List.getD_eq_getElem?_getD, List.getElem?_eq_getElem (by simpa using h)] at e
 rw [List.getElem_map, ← e]; rfl
theorem one_jn (a b c d : Int) : [[AV.v (.int .i64 a), AV.v (.int .i64 b), AV.v (.int .i64 c), AV.v (.int .i64 d)]] = [(⟨a, b, c, d⟩ : Jnt)].map jnE := rfl
theorem one_be (a b : Int) : [[AV.v (.int .i64 a), AV.v (.int .i64 b)]] = [(⟨a, b⟩ : Bea)].map beE := rfl
set_option maxRecDepth 100000 in
set_option maxHeartbeats 4000000 in
theorem rReversed_ok (l : Lin) (hl : Sho l) (hr : Rgt l) : FnOk Try.prog 11 [lnA l] (fun q => q = lnA (revL l)) := by
 refine fnOk_of (fn := Try.f11) 126 (by kernel_rfl) rfl (by kernel_rfl) (Nat.le_of_ble_eq_true rfl) ?_
 intro e_0 m_0 hA hm_0
 have s0_0 : evA e_0 (.tmp 0) = _ := hA 0 _ rfl
 have ml_0 : m_0.length = 0 := by rw [hm_0]; rfl
 clear hA hm_0
 have hjs := hr.js; have hn1 := hr.n1; have hs1 := hr.s1
 refine aw_seq <| at_ <| al_stm (st_box s0_0 rfl ml_0) trivial rfl (fun m_1 hm_1 => ?_)
 have mo0_1 := m_push hm_1 ml_0
 have ml_1 := m_push_l hm_1 ml_0
 have ml_1 : _ = 1 := ml_1
 clear hm_1
 refine al_stm (st_alloc qaz26 rfl ml_1) trivial rfl (fun m_2 hm_2 => ?_)
 have mo1_2 := m_push hm_2 ml_1
 simp only [pS, Value.cells, Nat.reduceAdd, jnE, beE, swE, one_jn, one_be, one_swE, one_iE, app_m] at mo1_2
 have mo0_2 := m_push_o hm_2 mo0_1
 have ml_2 := m_push_l hm_2 ml_1
 have ml_2 : _ = 2 := ml_2
 clear hm_2 mo0_1
 refine ae2 (up_m rfl up_h) up_h ?_; clear s0_0; intro e_3 s1_3 s2_3
 refine then_n <| aw_seq <| at_ <| ar (ro_fld_ptr qfl26_0 rfl s1_3) rfl <| ar (ro_eq (ro_ld_ptr y86_ty9 rfl mo0_2 up_h (nle rfl)) (by simp only [pS, Value.cells, Nat.reduceAdd, jnE, beE, swE, one_jn, one_be, one_swE, one_iE, app_m] <;> rfl)) rfl ?_
 refine ar (ro_build (evP_cons up_h evP_nil) qbz26 qbu26 qbp26 rfl) rfl ?_
 refine al_stm (st_alloc qaz26 rfl ml_2) trivial rfl (fun m_4 hm_4 => ?_)
 have mo2_4 := m_push hm_4 ml_2
 simp only [pS, Value.cells, Nat.reduceAdd, jnE, beE, swE, one_jn, one_be, one_swE, one_iE, app_m] at mo2_4
 have mo1_4 := m_push_o hm_4 mo1_2
 have mo0_4 := m_push_o hm_4 mo0_2
 have ml_4 := m_push_l hm_4 ml_2
 have ml_4 : _ = 3 := ml_4
 clear hm_4 mo1_2 mo0_2
 refine al_stm (st_store up_h (up_m rfl up_h) rfl rfl mo2_4 qsz26 rfl (nle rfl)) trivial rfl (fun m_5 hm_5 => ?_)
 have mo2_5 := m_set hm_5 mo2_4
 simp only [pS, Value.cells, Nat.reduceAdd, jnE, beE, swE, one_jn, one_be, one_swE, one_iE, app_m] at mo2_5
 have mo1_5 := m_set_o hm_5 mo1_4 (by decide)
 have mo0_5 := m_set_o hm_5 mo0_4 (by decide)
 have ml_5 := m_set_l hm_5 ml_4
 clear hm_5 mo2_4 mo1_4 mo0_4
 refine ae3 (up_n (u4 rfl s1_3)) (up_n (u4 rfl s2_3)) (up_n up_h) ?_; clear s1_3 s2_3; intro e_6 s1_6 s2_6 s3_6
 refine then_n <| aw_seq <| aw_seq <| at_ <| ar (ro_fld_ptr qfl26_1 rfl s1_6) rfl <| ar (ro_eq (ro_ld_ptr y86_ty22 rfl mo0_5 up_h (nle rfl)) (by simp only [pS, Value.cells, Nat.reduceAdd, jnE, beE, swE, one_jn, one_be, one_swE, one_iE, app_m] <;> rfl)) rfl ?_
 refine ar (ro_eq (ro_len_row up_h rfl y86_sl22.1) (by simp only [lnS] <;> rfl)) rfl ?_
 (refine ar (ro_sub' up_h ev_c ?_) rfl ?_; · (unfold In64; omega))
 refine ar (ro_assign up_h) rfl <| ae4 (up_m rfl (u4 rfl s1_6)) (up_m rfl (u4 rfl s2_6)) (up_m rfl (u4 rfl s3_6)) up_h ?_; clear s1_6 s2_6 s3_6; intro e_7 s1_7 s2_7 s3_7 s4_7
 refine then_n <| aw_block <| aw_adoptC 66 4 1 mo2_5 rfl ml_5 (fun m0_8 m_8 h0_8 h1_8 => ?_)
 have mp3_8 := m_push h0_8 ml_5
 have mo3_8 := m_set_o h1_8 mp3_8 (by decide)
 have mp2_8 := m_push_o h0_8 mo2_5
 have mo2_8 := m_set h1_8 mp2_8
 simp only [List.set_cons_zero, List.set_cons_succ] at mo2_8
 have mp1_8 := m_push_o h0_8 mo1_5
 have mo1_8 := m_set_o h1_8 mp1_8 (by decide)
 have mp0_8 := m_push_o h0_8 mo0_5
 have mo0_8 := m_set_o h1_8 mp0_8 (by decide)
 have mq_8 := m_push_l h0_8 ml_5
 have ml_8 : _ = 4 := m_set_l h1_8 mq_8
 clear h0_8 h1_8 mq_8 mp3_8 mp2_8 mp1_8 mp0_8
 refine aw_loop (S := (Nat × Int × List Jnt)) (fun s e mem => match s with | ⟨k, a, ys⟩ => (evA e (.tmp 4) = .v (.int .i64 a)) ∧ (evA e (.tmp 1) = evA e_7 (.tmp 1)) ∧ (evA e (.tmp 2) = evA e_7 (.tmp 2)) ∧ (evA e (.tmp 3) = evA e_7 (.tmp 3)) ∧ (mem[2]? = some (.box 26 [.v (.string l.nam), .own k, .v (.slice none 0 0), .v (.slice none 0 0)])) ∧ (mem[k]? = some (.row 66 4 (ys.map jnE))) ∧ (mem[1]? = m_8[1]?) ∧ (mem[0]? = m_8[0]?) ∧ (∃ n, mem.length = n ∧ 4 ≤ n) ∧ ((3 ≤ k ∧ -1 ≤ a ∧ a + 1 ≤ l.js.length ∧ ys = (l.js.reverse.map jRev).take (l.js.length - 1 - a).toNat))) (fun s => match s with | ⟨k, a, ys⟩ => (a + 1).toNat) ⟨_, _, []⟩ ⟨s4_7, rfl, rfl, rfl, mo2_8, mo3_8, rfl, rfl, ⟨_, ml_8, Nat.le_refl _⟩, ?_⟩ ?_
 ·(refine ⟨by omega, by omega, by omega, ?_⟩; rw [show ((l.js.length : Int) - 1 - (l.js.length - 1)).toNat = 0 by omega]; rfl)
 ·rintro ⟨k, a, ys⟩ e_9 m_9 ⟨s4_9, k1_9, k2_9, k3_9, mo2_9, mok_9, mk1_9, mk0_9, ⟨n_9, ml_9, hn_9⟩, hinv⟩
  have s1_9 := k1_9.trans s1_7
  have s2_9 := k2_9.trans s2_7
  have s3_9 := k3_9.trans s3_7
  have mo1_9 := mk1_9.trans mo1_8
  have mo0_9 := mk0_9.trans mo0_8
  have jlk_9 := m_lt mok_9 ml_9
  (obtain ⟨a0, a1, a2, a3⟩ := hinv; have hyl : ys.length ≤ 1000000 := (by rw [a3, List.length_take, List.length_map, List.length_reverse]; omega))
  refine aw_seq <| aw_seq <| at_ <| ar (ro_move s4_9) rfl <| ar (ro_geq up_h ev_c) rfl <| ae5 (u2 rfl s1_9) (u2 rfl s2_9) (u2 rfl s3_9) (u2 rfl s4_9) up_h ?_; clear s1_9 s2_9 s3_9 s4_9; intro e_10 s1_10 s2_10 s3_10 s4_10 s19_10
  refine then_n <| aw_case s19_10 (fun hq_11 => ?_) (fun hq_11 => ?_)
  ·replace hq_11 := bt hq_11
   refine aw_skip <| then_n <| aw_seq <| aw_block <| aw_seq ?_
   have hyv := hr.jnt a.toNat (by omega)
   refine at_ <| ar (ro_fld_ptr qfl26_1 rfl s1_10) rfl <| ar (ro_eq (ro_ld_ptr y86_ty22 rfl mo0_9 up_h (nle rfl)) (by simp only [pS, Value.cells, Nat.reduceAdd, jnE, beE, swE, one_jn, one_be, one_swE, one_iE, app_m] <;> rfl)) rfl ?_
   refine ar (ro_move (u2 rfl s4_10)) rfl <| ar (ro_eq (ro_ix y86_sl22 (up_m rfl up_h) up_h (by omega) (by first | (refine idx_map ?_; first | omega | (simp only [lnS]; omega)) | (refine idx_mapI ?_; first | omega | (simp only [lnS]; omega)) | (refine idx_mapN ?_; first | omega | (simp only [lnS]; omega)) | rfl)) (by simp only [pS, Value.cells, Nat.reduceAdd, jnE, beE, swE, one_jn, one_be, one_swE, one_iE, app_m] <;> rfl)) rfl ?_
   refine ar (ro_eq (ro_ld_ref y86_ty66 rfl up_h (nle rfl)) (by simp only [pS, Value.cells, Nat.reduceAdd, jnE, beE, swE, one_jn, one_be, one_swE, one_iE, app_m] <;> rfl)) rfl ?_
   refine al_stm (st_alloc qaz66 rfl ml_9) trivial rfl (fun m_12 hm_12 => ?_)
   have mon_9_12 := m_push hm_12 ml_9
   simp only [pS, Value.cells, Nat.reduceAdd, jnE, beE, swE, one_jn, one_be, one_swE, one_iE, app_m] at mon_9_12
   have mo2_12 := m_push_o hm_12 mo2_9
   have mok_12 := m_push_o hm_12 mok_9
   have mo1_12 := m_push_o hm_12 mo1_9
   have mo0_12 := m_push_o hm_12 mo0_9
   have ml_12 := m_push_l hm_12 ml_9
   clear hm_12 mo2_9 mok_9 mo1_9 mo0_9
   refine al_stm (st_store up_h (up_m rfl up_h) rfl rfl mon_9_12 qsz66 rfl (nle rfl)) trivial rfl (fun m_13 hm_13 => ?_)
   have mon_9_13 := m_set hm_13 mon_9_12
   simp only [pS, Value.cells, Nat.reduceAdd, jnE, beE, swE, one_jn, one_be, one_swE, one_iE, app_m] at mon_9_13
   have mo2_13 := m_set_o hm_13 mo2_12 (by omega)
   have mok_13 := m_set_o hm_13 mok_12 (by omega)
   have mo1_13 := m_set_o hm_13 mo1_12 (by omega)
   have mo0_13 := m_set_o hm_13 mo0_12 (by omega)
   have ml_13 := m_set_l hm_13 ml_12
   clear hm_13 mon_9_12 mo2_12 mok_12 mo1_12 mo0_12
   refine ae5 (up_n (u2 rfl (u4 rfl s1_10))) (up_n (u2 rfl (u4 rfl s2_10))) (up_n (u2 rfl (u4 rfl s3_10))) (up_n (u2 rfl (u4 rfl s4_10))) (up_n up_h) ?_; clear s19_10 s1_10 s2_10 s3_10 s4_10; intro e_14 s1_14 s2_14 s3_14 s4_14 s5_14
   refine then_n <| at_ <| ar (ro_fld_ptr qfl26_1 rfl s3_14) rfl <| ar (ro_eq (ro_ld_ptr y86_ty22 rfl mo2_13 up_h (nle rfl)) (by simp only [pS, Value.cells, Nat.reduceAdd, jnE, beE, swE, one_jn, one_be, one_swE, one_iE, app_m] <;> rfl)) rfl ?_
   refine ar (ro_fld_ptr qfl66_0 rfl (u2 rfl s5_14)) rfl <| ar (ro_eq (ro_ld_ptr y86_ty3 rfl mon_9_13 up_h (nle rfl)) (by simp only [pS, Value.cells, Nat.reduceAdd, jnE, beE, swE, one_jn, one_be, one_swE, one_iE, app_m] <;> rfl)) rfl ?_
   (refine ar (ro_neg' up_h ?_) rfl ?_; · (unfold In64; omega))
   refine ar (ro_fld_ptr qfl66_1 rfl (up_m rfl (u4 rfl s5_14))) rfl <| ar (ro_eq (ro_ld_ptr y86_ty3 rfl mon_9_13 up_h (nle rfl)) (by simp only [pS, Value.cells, Nat.reduceAdd, jnE, beE, swE, one_jn, one_be, one_swE, one_iE, app_m] <;> rfl)) rfl ?_
   refine ar (ro_fld_ptr qfl66_2 rfl (up_m rfl (u2 rfl (u4 rfl s5_14)))) rfl <| ar (ro_fld_ptr qfl55_1 rfl up_h) rfl <| ar (ro_eq (ro_ld_ptr y86_ty3 rfl mon_9_13 up_h (nle rfl)) (by simp only [pS, Value.cells, Nat.reduceAdd, jnE, beE, swE, one_jn, one_be, one_swE, one_iE, app_m] <;> rfl)) rfl ?_
   (refine ar (ro_neg' up_h ?_) rfl ?_; · (unfold In64; omega))
   refine ar (ro_fld_ptr qfl66_2 rfl (up_m rfl (u2 rfl (u8 rfl s5_14)))) rfl <| ar (ro_fld_ptr qfl55_0 rfl up_h) rfl <| ar (ro_eq (ro_ld_ptr y86_ty3 rfl mon_9_13 up_h (nle rfl)) (by simp only [pS, Value.cells, Nat.reduceAdd, jnE, beE, swE, one_jn, one_be, one_swE, one_iE, app_m] <;> rfl)) rfl ?_
   (refine ar (ro_neg' up_h ?_) rfl ?_; · (unfold In64; omega))
   refine ar (ro_build (evP_cons (u4 rfl up_h) (evP_cons up_h evP_nil)) qbz55 qbu55 qbp55 rfl) rfl ?_
   refine ar (ro_build (evP_cons (up_m rfl (u2 rfl (u8 rfl up_h))) (evP_cons (up_m rfl (u8 rfl up_h)) (evP_cons up_h evP_nil))) qbz66 qbu66 qbp66 rfl) rfl ?_
   refine ar (ro_lit y86_sl22 (evP_cons up_h evP_nil) rfl rfl rfl rfl) rfl <| al_stm (st_app y86_sl22 rfl ml_13 mok_13 (u16 rfl up_h) up_h (by rfl) (by simp only [lnS] <;> omega)) trivial rfl (fun m_15 hm_15 => ?_)
   have mon_9_1_15 := m_swap hm_15 ml_13
   simp only [pS, Value.cells, Nat.reduceAdd, jnE, beE, swE, one_jn, one_be, one_swE, one_iE, app_m] at mon_9_1_15
   have mon_9_15 := m_swap_o hm_15 mon_9_13 (by omega)
   have mo2_15 := m_swap_o hm_15 mo2_13 (by omega)
   have mo1_15 := m_swap_o hm_15 mo1_13 (by omega)
   have mo0_15 := m_swap_o hm_15 mo0_13 (by omega)
   have ml_15 := m_swap_l hm_15 ml_13
   clear hm_15 mon_9_13 mo2_13 mok_13 mo1_13 mo0_13
   refine ar (ro_fld_ptr qfl26_1 rfl (up_m rfl (u2 rfl (u16 rfl s3_14)))) rfl <| al_stm (st_store_own up_h (up_m rfl up_h) mo2_15 mon_9_1_15 qsz22 (nle rfl)) trivial rfl (fun m_16 hm_16 => ?_)
   have mo2_16 := m_set hm_16 mo2_15
   simp only [pS, Value.cells, Nat.reduceAdd, jnE, beE, swE, one_jn, one_be, one_swE, one_iE, app_m] at mo2_16
   have mon_9_1_16 := m_set_o hm_16 mon_9_1_15 (by omega)
   have mon_9_16 := m_set_o hm_16 mon_9_15 (by omega)
   have mo1_16 := m_set_o hm_16 mo1_15 (by decide)
   have mo0_16 := m_set_o hm_16 mo0_15 (by decide)
   have ml_16 := m_set_l hm_16 ml_15
   clear hm_16 mon_9_1_15 mon_9_15 mo2_15 mo1_15 mo0_15
   refine ae4 (up_n (u4 rfl (u16 rfl s1_14))) (up_n (u4 rfl (u16 rfl s2_14))) (up_n (u4 rfl (u16 rfl s3_14))) (up_n (u4 rfl (u16 rfl s4_14))) ?_; clear s1_14 s2_14 s3_14 s4_14 s5_14; intro e_17 s1_17 s2_17 s3_17 s4_17
   refine block_n <| then_n <| at_ <| ar (ro_move s4_17) rfl ?_
   (refine ar (ro_sub' up_h ev_c ?_) rfl ?_; · (unfold In64; omega))
   refine ar (ro_assign up_h) rfl <| ae4 (up_m rfl (u2 rfl s1_17)) (up_m rfl (u2 rfl s2_17)) (up_m rfl (u2 rfl s3_17)) up_h ?_; clear s1_17 s2_17 s3_17 s4_17; intro e_18 s1_18 s2_18 s3_18 s4_18
   refine then_n <| ⟨⟨_, _, _⟩, ⟨s4_18, (s1_18.trans s1_7.symm), (s2_18.trans s2_7.symm), (s3_18.trans s3_7.symm), mo2_16, mon_9_1_16, (mo1_16.trans mo1_8.symm), (mo0_16.trans mo0_8.symm), ⟨_, ml_16, by omega⟩, ?_⟩, ?_⟩
   ·(refine ⟨by omega, by omega, by omega, ?_⟩; rw [show ((l.js.length : Int) - 1 - (a - 1)).toNat = (l.js.length - 1 - a).toNat + 1 by omega, rev_more _ _ (by omega), ← a3, show l.js.length - 1 - ((l.js.length : Int) - 1 - a).toNat = a.toNat by omega]; rfl)
   ·((try dsimp only); omega)
  replace hq_11 := bf hq_11
  refine aw_exit <| then_x <| then_x <| block_hit <| then_n <| aw_seq <| aw_seq <| at_ <| ar (ro_fld_ptr qfl26_2 rfl s1_10) rfl <| ar (ro_eq (ro_ld_ptr y86_ty23 rfl mo0_9 up_h (nle rfl)) (by simp only [pS, Value.cells, Nat.reduceAdd, jnE, beE, swE, one_jn, one_be, one_swE, one_iE, app_m] <;> rfl)) rfl ?_
  refine ar (ro_eq (ro_len_row up_h rfl y86_sl23.1) (by simp only [lnS] <;> rfl)) rfl ?_
  (refine ar (ro_sub' up_h ev_c ?_) rfl ?_; · (unfold In64; omega))
  refine ar (ro_assign up_h) rfl <| ae4 (up_m rfl (u4 rfl s1_10)) (up_m rfl (u4 rfl s2_10)) (up_m rfl (u4 rfl s3_10)) up_h ?_; clear s19_10 s1_10 s2_10 s3_10 s4_10; intro e_19 s1_19 s2_19 s3_19 s6_19
  refine then_n <| aw_block <| aw_adoptC 69 2 2 mo2_9 rfl ml_9 (fun m0_20 m_20 h0_20 h1_20 => ?_)
  have mpn_9_20 := m_push h0_20 ml_9
  have mon_9_20 := m_set_o h1_20 mpn_9_20 (by omega)
  have mp2_20 := m_push_o h0_20 mo2_9
  have mo2_20 := m_set h1_20 mp2_20
  simp only [List.set_cons_zero, List.set_cons_succ] at mo2_20
  have mpk_20 := m_push_o h0_20 mok_9
  have mok_20 := m_set_o h1_20 mpk_20 (by omega)
  have mp1_20 := m_push_o h0_20 mo1_9
  have mo1_20 := m_set_o h1_20 mp1_20 (by decide)
  have mp0_20 := m_push_o h0_20 mo0_9
  have mo0_20 := m_set_o h1_20 mp0_20 (by decide)
  have mq_20 := m_push_l h0_20 ml_9
  have ml_20 : _ = n_9 + 1 := m_set_l h1_20 mq_20
  clear h0_20 h1_20 mq_20 mpn_9_20 mp2_20 mpk_20 mp1_20 mp0_20
  refine aw_loop (S := (Nat × Int × List Bea)) (fun s e mem => match s with | ⟨k2, b, us⟩ => (evA e (.tmp 6) = .v (.int .i64 b)) ∧ (evA e (.tmp 1) = evA e_19 (.tmp 1)) ∧ (evA e (.tmp 2) = evA e_19 (.tmp 2)) ∧ (evA e (.tmp 3) = evA e_19 (.tmp 3)) ∧ (mem[2]? = some (.box 26 [.v (.string l.nam), .own k, .own k2, .v (.slice none 0 0)])) ∧ (mem[k2]? = some (.row 69 2 (us.map beE))) ∧ (mem[k]? = m_20[k]?) ∧ (mem[1]? = m_20[1]?) ∧ (mem[0]? = m_20[0]?) ∧ (∃ n, mem.length = n ∧ n_9 + 1 ≤ n) ∧ ((3 ≤ k2 ∧ k2 ≠ k ∧ -1 ≤ b ∧ b + 1 ≤ l.bs.length ∧ us = (l.bs.reverse.map bRev).take (l.bs.length - 1 - b).toNat))) (fun s => match s with | ⟨k2, b, us⟩ => (b + 1).toNat) ⟨_, _, []⟩ ⟨s6_19, rfl, rfl, rfl, mo2_20, mon_9_20, rfl, rfl, rfl, ⟨_, ml_20, Nat.le_refl _⟩, ?_⟩ ?_
  ·(refine ⟨by omega, by omega, by omega, by omega, ?_⟩; rw [show ((l.bs.length : Int) - 1 - (l.bs.length - 1)).toNat = 0 by omega]; rfl)
  ·rintro ⟨k2, b, us⟩ e_21 m_21 ⟨s6_21, k1_21, k2_21, k3_21, mo2_21, mok2_21, mkk_21, mk1_21, mk0_21, ⟨n_21, ml_21, hn_21⟩, hinv⟩
   have s1_21 := k1_21.trans s1_19
   have s2_21 := k2_21.trans s2_19
   have s3_21 := k3_21.trans s3_19
   have mok_21 := mkk_21.trans mok_20
   have mo1_21 := mk1_21.trans mo1_20
   have mo0_21 := mk0_21.trans mo0_20
   have jlk2_21 := m_lt mok2_21 ml_21
   (obtain ⟨b0, b4, b1, b2, b3⟩ := hinv; have hul : us.length ≤ 1000000 := (by rw [b3, List.length_take, List.length_map, List.length_reverse]; omega))
   refine aw_seq <| aw_seq <| at_ <| ar (ro_move s6_21) rfl <| ar (ro_geq up_h ev_c) rfl <| ae5 (u2 rfl s1_21) (u2 rfl s2_21) (u2 rfl s3_21) (u2 rfl s6_21) up_h ?_; clear s1_21 s2_21 s3_21 s6_21; intro e_22 s1_22 s2_22 s3_22 s6_22 s52_22
   refine then_n <| aw_case s52_22 (fun hq_23 => ?_) (fun hq_23 => ?_)
   ·replace hq_23 := bt hq_23
    refine aw_skip <| then_n <| aw_seq <| aw_block ?_
    have huv := hr.bea b.toNat (by omega)
    refine aw_draw 17 (by kernel_rfl) (by kernel_rfl) (by kernel_rfl) (by kernel_rfl) ?_
    refine dr (ro_fld_ptr qfl26_2 rfl s3_22) rfl <| dr (ro_eq (ro_ld_ptr y86_ty23 rfl mo2_21 up_h (nle rfl)) (by simp only [pS, Value.cells, Nat.reduceAdd, jnE, beE, swE, one_jn, one_be, one_swE, one_iE, app_m] <;> rfl)) rfl ?_
    refine dr (ro_fld_ptr qfl26_2 rfl (u2 rfl s1_22)) rfl <| dr (ro_eq (ro_ld_ptr y86_ty23 rfl mo0_21 up_h (nle rfl)) (by simp only [pS, Value.cells, Nat.reduceAdd, jnE, beE, swE, one_jn, one_be, one_swE, one_iE, app_m] <;> rfl)) rfl ?_
    refine dr (ro_move (u4 rfl s6_22)) rfl <| dr (ro_eq (ro_ix y86_sl23 (up_m rfl up_h) up_h (by omega) (by first | (refine idx_map ?_; first | omega | (simp only [lnS]; omega)) | (refine idx_mapI ?_; first | omega | (simp only [lnS]; omega)) | (refine idx_mapN ?_; first | omega | (simp only [lnS]; omega)) | rfl)) (by simp only [pS, Value.cells, Nat.reduceAdd, jnE, beE, swE, one_jn, one_be, one_swE, one_iE, app_m] <;> rfl)) rfl ?_
    refine dr (ro_eq (ro_fld_ref qfl69_0 rfl up_h) (by simp only [pS, Value.cells, Nat.reduceAdd, jnE, beE, swE, one_jn, one_be, one_swE, one_iE, app_m] <;> rfl)) rfl ?_
    refine dr (ro_eq (ro_ld_ref y86_ty3 rfl up_h (nle rfl)) (by simp only [pS, Value.cells, Nat.reduceAdd, jnE, beE, swE, one_jn, one_be, one_swE, one_iE, app_m] <;> rfl)) rfl ?_
    refine dr (ro_fld_ptr qfl26_2 rfl (u8 rfl s1_22)) rfl <| dr (ro_eq (ro_ld_ptr y86_ty23 rfl mo0_21 up_h (nle rfl)) (by simp only [pS, Value.cells, Nat.reduceAdd, jnE, beE, swE, one_jn, one_be, one_swE, one_iE, app_m] <;> rfl)) rfl ?_
    refine dr (ro_move (u2 rfl (u8 rfl s6_22))) rfl <| dr (ro_eq (ro_ix y86_sl23 (up_m rfl up_h) up_h (by omega) (by first | (refine idx_map ?_; first | omega | (simp only [lnS]; omega)) | (refine idx_mapI ?_; first | omega | (simp only [lnS]; omega)) | (refine idx_mapN ?_; first | omega | (simp only [lnS]; omega)) | rfl)) (by simp only [pS, Value.cells, Nat.reduceAdd, jnE, beE, swE, one_jn, one_be, one_swE, one_iE, app_m] <;> rfl)) rfl ?_
    refine dr (ro_eq (ro_fld_ref qfl69_1 rfl up_h) (by simp only [pS, Value.cells, Nat.reduceAdd, jnE, beE, swE, one_jn, one_be, one_swE, one_iE, app_m] <;> rfl)) rfl ?_
    refine dr (ro_eq (ro_ld_ref y86_ty3 rfl up_h (nle rfl)) (by simp only [pS, Value.cells, Nat.reduceAdd, jnE, beE, swE, one_jn, one_be, one_swE, one_iE, app_m] <;> rfl)) rfl ?_
    (refine dr (ro_neg' up_h ?_) rfl ?_; · (unfold In64; omega))
    refine dr (ro_build (evP_cons (up_m rfl (u2 rfl (u4 rfl up_h))) (evP_cons up_h evP_nil)) qbz69 qbu69 qbp69 rfl) rfl ?_
    refine dr (ro_lit y86_sl23 (evP_cons up_h evP_nil) rfl rfl rfl rfl) rfl <| ds_nil <| al_stm (st_app y86_sl23 rfl ml_21 mok2_21 (up_m rfl (u2 rfl (u4 rfl (u8 rfl up_h)))) up_h (by rfl) (by simp only [lnS] <;> omega)) trivial rfl (fun m_24 hm_24 => ?_)
    have mon_21_24 := m_swap hm_24 ml_21
    simp only [pS, Value.cells, Nat.reduceAdd, jnE, beE, swE, one_jn, one_be, one_swE, one_iE, app_m] at mon_21_24
    have mo2_24 := m_swap_o hm_24 mo2_21 (by omega)
    have mok_24 := m_swap_o hm_24 mok_21 (by omega)
    have mo1_24 := m_swap_o hm_24 mo1_21 (by omega)
    have mo0_24 := m_swap_o hm_24 mo0_21 (by omega)
    have ml_24 := m_swap_l hm_24 ml_21
    clear hm_24 mo2_21 mok2_21 mok_21 mo1_21 mo0_21
    refine ar (ro_fld_ptr qfl26_2 rfl (u2 rfl (u16 rfl s3_22))) rfl <| al_stm (st_store_own up_h (up_m rfl up_h) mo2_24 mon_21_24 qsz23 (nle rfl)) trivial rfl (fun m_25 hm_25 => ?_)
    have mo2_25 := m_set hm_25 mo2_24
    simp only [pS, Value.cells, Nat.reduceAdd, jnE, beE, swE, one_jn, one_be, one_swE, one_iE, app_m] at mo2_25
    have mon_21_25 := m_set_o hm_25 mon_21_24 (by omega)
    have mok_25 := m_set_o hm_25 mok_24 (by omega)
    have mo1_25 := m_set_o hm_25 mo1_24 (by decide)
    have mo0_25 := m_set_o hm_25 mo0_24 (by decide)
    have ml_25 := m_set_l hm_25 ml_24
    clear hm_25 mon_21_24 mo2_24 mok_24 mo1_24 mo0_24
    refine ae4 (up_n (up_m rfl (u2 rfl (u16 rfl s1_22)))) (up_n (up_m rfl (u2 rfl (u16 rfl s2_22)))) (up_n (up_m rfl (u2 rfl (u16 rfl s3_22)))) (up_n (up_m rfl (u2 rfl (u16 rfl s6_22)))) ?_; clear s1_22 s2_22 s3_22 s52_22 s6_22; intro e_26 s1_26 s2_26 s3_26 s6_26
    refine block_n <| then_n <| at_ <| ar (ro_move s6_26) rfl ?_
    (refine ar (ro_sub' up_h ev_c ?_) rfl ?_; · (unfold In64; omega))
    refine ar (ro_assign up_h) rfl <| ae4 (up_m rfl (u2 rfl s1_26)) (up_m rfl (u2 rfl s2_26)) (up_m rfl (u2 rfl s3_26)) up_h ?_; clear s1_26 s2_26 s3_26 s6_26; intro e_27 s1_27 s2_27 s3_27 s6_27
    refine then_n <| ⟨⟨_, _, _⟩, ⟨s6_27, (s1_27.trans s1_19.symm), (s2_27.trans s2_19.symm), (s3_27.trans s3_19.symm), mo2_25, mon_21_25, (mok_25.trans mok_20.symm), (mo1_25.trans mo1_20.symm), (mo0_25.trans mo0_20.symm), ⟨_, ml_25, by omega⟩, ?_⟩, ?_⟩
    ·(refine ⟨by omega, by omega, by omega, by omega, ?_⟩; rw [show ((l.bs.length : Int) - 1 - (b - 1)).toNat = (l.bs.length - 1 - b).toNat + 1 by omega, rev_more _ _ (by omega), ← b3, show l.bs.length - 1 - ((l.bs.length : Int) - 1 - b).toNat = b.toNat by omega]; rfl)
    ·((try dsimp only); omega)
   replace hq_23 := bf hq_23
   refine aw_exit <| then_x <| then_x <| block_hit <| then_n <| aw_seq <| aw_seq <| at_ <| ar (ro_assign ev_c) rfl <| ae4 (up_m rfl s1_22) (up_m rfl s2_22) (up_m rfl s3_22) up_h ?_; clear s1_22 s2_22 s3_22 s52_22 s6_22; intro e_28 s1_28 s2_28 s3_28 s7_28
   refine then_n <| aw_block <| aw_adoptC 47 3 3 mo2_21 rfl ml_21 (fun m0_29 m_29 h0_29 h1_29 => ?_)
   have mpn_21_29 := m_push h0_29 ml_21
   have mon_21_29 := m_set_o h1_29 mpn_21_29 (by omega)
   have mp2_29 := m_push_o h0_29 mo2_21
   have mo2_29 := m_set h1_29 mp2_29
   simp only [List.set_cons_zero, List.set_cons_succ] at mo2_29
   have mpk2_29 := m_push_o h0_29 mok2_21
   have mok2_29 := m_set_o h1_29 mpk2_29 (by omega)
   have mpk_29 := m_push_o h0_29 mok_21
   have mok_29 := m_set_o h1_29 mpk_29 (by omega)
   have mp1_29 := m_push_o h0_29 mo1_21
   have mo1_29 := m_set_o h1_29 mp1_29 (by decide)
   have mp0_29 := m_push_o h0_29 mo0_21
   have mo0_29 := m_set_o h1_29 mp0_29 (by decide)
   have mq_29 := m_push_l h0_29 ml_21
   have ml_29 : _ = n_21 + 1 := m_set_l h1_29 mq_29
   clear h0_29 h1_29 mq_29 mpn_21_29 mp2_29 mpk2_29 mpk_29 mp1_29 mp0_29
   refine aw_loop (S := (Nat × Int × List Swi)) (fun s e mem => match s with | ⟨k3, i, xs⟩ => (evA e (.tmp 7) = .v (.int .i64 i)) ∧ (evA e (.tmp 1) = evA e_28 (.tmp 1)) ∧ (evA e (.tmp 2) = evA e_28 (.tmp 2)) ∧ (evA e (.tmp 3) = evA e_28 (.tmp 3)) ∧ (mem[2]? = some (.box 26 [.v (.string l.nam), .own k, .own k2, .own k3])) ∧ (mem[k3]? = some (.row 47 3 (xs.map swE))) ∧ (mem[k2]? = m_29[k2]?) ∧ (mem[k]? = m_29[k]?) ∧ (mem[1]? = m_29[1]?) ∧ (mem[0]? = m_29[0]?) ∧ (∃ n, mem.length = n ∧ n_21 + 1 ≤ n) ∧ ((3 ≤ k3 ∧ k3 ≠ k ∧ k3 ≠ k2 ∧ 0 ≤ i ∧ i ≤ l.ss.length ∧ xs = (revL l).ss.take i.toNat))) (fun s => match s with | ⟨k3, i, xs⟩ => (l.ss.length - i).toNat) ⟨_, _, []⟩ ⟨s7_28, rfl, rfl, rfl, mo2_29, mon_21_29, rfl, rfl, rfl, rfl, ⟨_, ml_29, Nat.le_refl _⟩, ?_⟩ ?_
   ·(exact ⟨by omega, by omega, by omega, by omega, by omega, rfl⟩)
   ·rintro ⟨k3, i, xs⟩ e_30 m_30 ⟨s7_30, k1_30, k2_30, k3_30, mo2_30, mok3_30, mkk2_30, mkk_30, mk1_30, mk0_30, ⟨n_30, ml_30, hn_30⟩, hinv⟩
    have s1_30 := k1_30.trans s1_28
    have s2_30 := k2_30.trans s2_28
    have s3_30 := k3_30.trans s3_28
    have mok2_30 := mkk2_30.trans mok2_29
    have mok_30 := mkk_30.trans mok_29
    have mo1_30 := mk1_30.trans mo1_29
    have mo0_30 := mk0_30.trans mo0_29
    have jlk3_30 := m_lt mok3_30 ml_30
    (obtain ⟨i0, i4, i5, i1, i2, i3⟩ := hinv; have hxl : xs.length ≤ 1000000 := (by rw [i3, List.length_take, revL_ss]; omega); have hso := hl.at i.toNat)
    refine aw_seq <| aw_seq <| at_ <| ar (ro_move s7_30) rfl <| ar (ro_fld_ptr qfl26_3 rfl (up_m rfl s1_30)) rfl <| ar (ro_eq (ro_ld_ptr y86_ty24 rfl mo0_30 up_h (nle rfl)) (by simp only [pS, Value.cells, Nat.reduceAdd, jnE, beE, swE, one_jn, one_be, one_swE, one_iE, app_m] <;> rfl)) rfl ?_
    refine ar (ro_eq (ro_len_row up_h rfl y86_sl24.1) (by simp only [lnS] <;> rfl)) rfl ?_
    refine ar (ro_lss (up_m rfl (u2 rfl up_h)) up_h) rfl <| ae5 (up_m rfl (u4 rfl s1_30)) (up_m rfl (u4 rfl s2_30)) (up_m rfl (u4 rfl s3_30)) (up_m rfl (u4 rfl s7_30)) up_h ?_; clear s1_30 s2_30 s3_30 s7_30; intro e_31 s1_31 s2_31 s3_31 s7_31 s78_31
    refine then_n <| aw_case s78_31 (fun hq_32 => ?_) (fun hq_32 => ?_)
    ·replace hq_32 := bt hq_32
     refine aw_skip <| then_n <| aw_seq <| aw_block <| aw_seq ?_
     obtain ⟨w1, w2, w3, w4⟩ := hr.swi (i := i.toNat) (by omega)
     refine at_ <| ar (ro_fld_ptr qfl26_3 rfl s1_31) rfl <| ar (ro_eq (ro_ld_ptr y86_ty24 rfl mo0_30 up_h (nle rfl)) (by simp only [pS, Value.cells, Nat.reduceAdd, jnE, beE, swE, one_jn, one_be, one_swE, one_iE, app_m] <;> rfl)) rfl ?_
     refine ar (ro_move (u2 rfl s7_31)) rfl <| ar (ro_eq (ro_ix y86_sl24 (up_m rfl up_h) up_h (by omega) (by first | (refine idx_map ?_; first | omega | (simp only [lnS]; omega)) | (refine idx_mapI ?_; first | omega | (simp only [lnS]; omega)) | (refine idx_mapN ?_; first | omega | (simp only [lnS]; omega)) | rfl)) (by simp only [pS, Value.cells, Nat.reduceAdd, jnE, beE, swE, one_jn, one_be, one_swE, one_iE, app_m] <;> rfl)) rfl ?_
     refine ar (ro_eq (ro_ld_ref y86_ty47 rfl up_h (nle rfl)) (by simp only [pS, Value.cells, Nat.reduceAdd, jnE, beE, swE, one_jn, one_be, one_swE, one_iE, app_m] <;> rfl)) rfl ?_
     refine al_stm (st_alloc qaz47 rfl ml_30) trivial rfl (fun m_33 hm_33 => ?_)
     have mon_30_33 := m_push hm_33 ml_30
     simp only [pS, Value.cells, Nat.reduceAdd, jnE, beE, swE, one_jn, one_be, one_swE, one_iE, app_m] at mon_30_33
     have mo2_33 := m_push_o hm_33 mo2_30
     have mok3_33 := m_push_o hm_33 mok3_30
     have mok2_33 := m_push_o hm_33 mok2_30
     have mok_33 := m_push_o hm_33 mok_30
     have mo1_33 := m_push_o hm_33 mo1_30
     have mo0_33 := m_push_o hm_33 mo0_30
     have ml_33 := m_push_l hm_33 ml_30
     clear hm_33 mo2_30 mok3_30 mok2_30 mok_30 mo1_30 mo0_30
     refine al_stm (st_store up_h (up_m rfl up_h) rfl rfl mon_30_33 qsz47 rfl (nle rfl)) trivial rfl (fun m_34 hm_34 => ?_)
     have mon_30_34 := m_set hm_34 mon_30_33
     simp only [pS, Value.cells, Nat.reduceAdd, jnE, beE, swE, one_jn, one_be, one_swE, one_iE, app_m] at mon_30_34
     have mo2_34 := m_set_o hm_34 mo2_33 (by omega)
     have mok3_34 := m_set_o hm_34 mok3_33 (by omega)
     have mok2_34 := m_set_o hm_34 mok2_33 (by omega)
     have mok_34 := m_set_o hm_34 mok_33 (by omega)
     have mo1_34 := m_set_o hm_34 mo1_33 (by omega)
     have mo0_34 := m_set_o hm_34 mo0_33 (by omega)
     have ml_34 := m_set_l hm_34 ml_33
     clear hm_34 mon_30_33 mo2_33 mok3_33 mok2_33 mok_33 mo1_33 mo0_33
     refine ae5 (up_n (u2 rfl (u4 rfl s1_31))) (up_n (u2 rfl (u4 rfl s2_31))) (up_n (u2 rfl (u4 rfl s3_31))) (up_n (u2 rfl (u4 rfl s7_31))) (up_n up_h) ?_; clear s1_31 s2_31 s3_31 s78_31 s7_31; intro e_35 s1_35 s2_35 s3_35 s7_35 s8_35
     refine then_n <| aw_seq <| at_ <| ar (ro_fld_ptr qfl47_0 rfl s8_35) rfl <| ar (ro_eq (ro_ld_ptr y86_ty9 rfl mon_30_34 up_h (nle rfl)) (by simp only [pS, Value.cells, Nat.reduceAdd, jnE, beE, swE, one_jn, one_be, one_swE, one_iE, app_m] <;> rfl)) rfl ?_
     refine ar (ro_fld_ptr qfl26_2 rfl (u2 rfl s1_35)) rfl <| ar (ro_eq (ro_ld_ptr y86_ty23 rfl mo0_34 up_h (nle rfl)) (by simp only [pS, Value.cells, Nat.reduceAdd, jnE, beE, swE, one_jn, one_be, one_swE, one_iE, app_m] <;> rfl)) rfl ?_
     refine ar (ro_eq (ro_len_row up_h rfl y86_sl23.1) (by simp only [lnS] <;> rfl)) rfl ?_
     refine ar (ro_fld_ptr qfl47_1 rfl (up_m rfl (u4 rfl s8_35))) rfl <| ar (ro_eq (ro_ld_ptr y86_ty3 rfl mon_30_34 up_h (nle rfl)) (by simp only [pS, Value.cells, Nat.reduceAdd, jnE, beE, swE, one_jn, one_be, one_swE, one_iE, app_m] <;> rfl)) rfl ?_
     refine ar (ro_fld_ptr qfl47_2 rfl (up_m rfl (u2 rfl (u4 rfl s8_35)))) rfl <| ar (ro_eq (ro_ld_ptr y86_ty40 rfl mon_30_34 up_h (nle rfl)) (by simp only [pS, Value.cells, Nat.reduceAdd, jnE, beE, swE, one_jn, one_be, one_swE, one_iE, app_m] <;> rfl)) rfl ?_
     refine ar (ro_eq (ro_len_row up_h rfl y86_sl40.1) (by simp only [lnS] <;> rfl)) rfl ?_
     (refine ar (ro_add' (up_m rfl (u2 rfl up_h)) up_h ?_) rfl ?_; · (unfold In64; omega))
     (refine ar (ro_sub' up_h ev_c ?_) rfl ?_; · (unfold In64; omega))
     (refine ar (ro_sub' (up_m rfl (u2 rfl (u4 rfl up_h))) up_h ?_) rfl ?_; · (unfold In64; omega))
     refine ar (ro_build (evP_cons (up_m rfl (u2 rfl (u8 rfl up_h))) (evP_cons up_h evP_nil)) y86_bz47 y86_bu47 y86_bp47 rfl) rfl ?_
     refine al_stm (st_alloc qaz47 rfl ml_34) trivial rfl (fun m_36 hm_36 => ?_)
     have mon_30_1_36 := m_push hm_36 ml_34
     simp only [pS, Value.cells, Nat.reduceAdd, jnE, beE, swE, one_jn, one_be, one_swE, one_iE, app_m] at mon_30_1_36
     have mon_30_36 := m_push_o hm_36 mon_30_34
     have mo2_36 := m_push_o hm_36 mo2_34
     have mok3_36 := m_push_o hm_36 mok3_34
     have mok2_36 := m_push_o hm_36 mok2_34
     have mok_36 := m_push_o hm_36 mok_34
     have mo1_36 := m_push_o hm_36 mo1_34
     have mo0_36 := m_push_o hm_36 mo0_34
     have ml_36 := m_push_l hm_36 ml_34
     clear hm_36 mon_30_34 mo2_34 mok3_34 mok2_34 mok_34 mo1_34 mo0_34
     refine al_stm (st_store up_h (up_m rfl up_h) rfl rfl mon_30_1_36 qsz47 rfl (nle rfl)) trivial rfl (fun m_37 hm_37 => ?_)
     have mon_30_1_37 := m_set hm_37 mon_30_1_36
     simp only [pS, Value.cells, Nat.reduceAdd, jnE, beE, swE, one_jn, one_be, one_swE, one_iE, app_m] at mon_30_1_37
     have mon_30_37 := m_set_o hm_37 mon_30_36 (by omega)
     have mo2_37 := m_set_o hm_37 mo2_36 (by omega)
     have mok3_37 := m_set_o hm_37 mok3_36 (by omega)
     have mok2_37 := m_set_o hm_37 mok2_36 (by omega)
     have mok_37 := m_set_o hm_37 mok_36 (by omega)
     have mo1_37 := m_set_o hm_37 mo1_36 (by omega)
     have mo0_37 := m_set_o hm_37 mo0_36 (by omega)
     have ml_37 := m_set_l hm_37 ml_36
     clear hm_37 mon_30_1_36 mon_30_36 mo2_36 mok3_36 mok2_36 mok_36 mo1_36 mo0_36
     refine ae6 (up_n (up_m rfl (u2 rfl (u4 rfl (u8 rfl s1_35))))) (up_n (up_m rfl (u2 rfl (u4 rfl (u8 rfl s2_35))))) (up_n (up_m rfl (u2 rfl (u4 rfl (u8 rfl s3_35))))) (up_n (up_m rfl (u2 rfl (u4 rfl (u8 rfl s7_35))))) (up_n (up_m rfl (u2 rfl (u4 rfl (u8 rfl s8_35))))) (up_n up_h) ?_; clear s1_35 s2_35 s3_35 s7_35 s8_35; intro e_38 s1_38 s2_38 s3_38 s7_38 s8_38 s9_38
     refine then_n <| aw_seq <| aw_seq <| at_ <| ar (ro_fld_ptr qfl47_2 rfl s8_38) rfl <| ar (ro_eq (ro_ld_ptr y86_ty40 rfl mon_30_37 up_h (nle rfl)) (by simp only [pS, Value.cells, Nat.reduceAdd, jnE, beE, swE, one_jn, one_be, one_swE, one_iE, app_m] <;> rfl)) rfl ?_
     refine ar (ro_eq (ro_len_row up_h rfl y86_sl40.1) (by simp only [lnS] <;> rfl)) rfl ?_
     (refine ar (ro_sub' up_h ev_c ?_) rfl ?_; · (unfold In64; omega))
     refine ar (ro_assign up_h) rfl <| ae7 (up_m rfl (u4 rfl s1_38)) (up_m rfl (u4 rfl s2_38)) (up_m rfl (u4 rfl s3_38)) (up_m rfl (u4 rfl s7_38)) (up_m rfl (u4 rfl s8_38)) (up_m rfl (u4 rfl s9_38)) up_h ?_; clear s1_38 s2_38 s3_38 s7_38 s8_38 s9_38; intro e_39 s1_39 s2_39 s3_39 s7_39 s8_39 s9_39 s10_39
     refine then_n <| aw_block <| aw_adoptC 3 1 2 mon_30_1_37 rfl ml_37 (fun m0_40 m_40 h0_40 h1_40 => ?_)
     have mpn_30_1_1_40 := m_push h0_40 ml_37
     have mon_30_1_1_40 := m_set_o h1_40 mpn_30_1_1_40 (by omega)
     have mpn_30_1_40 := m_push_o h0_40 mon_30_1_37
     have mon_30_1_40 := m_set h1_40 mpn_30_1_40
     simp only [List.set_cons_zero, List.set_cons_succ] at mon_30_1_40
     have mpn_30_40 := m_push_o h0_40 mon_30_37
     have mon_30_40 := m_set_o h1_40 mpn_30_40 (by omega)
     have mp2_40 := m_push_o h0_40 mo2_37
     have mo2_40 := m_set_o h1_40 mp2_40 (by omega)
     have mpk3_40 := m_push_o h0_40 mok3_37
     have mok3_40 := m_set_o h1_40 mpk3_40 (by omega)
     have mpk2_40 := m_push_o h0_40 mok2_37
     have mok2_40 := m_set_o h1_40 mpk2_40 (by omega)
     have mpk_40 := m_push_o h0_40 mok_37
     have mok_40 := m_set_o h1_40 mpk_40 (by omega)
     have mp1_40 := m_push_o h0_40 mo1_37
     have mo1_40 := m_set_o h1_40 mp1_40 (by omega)
     have mp0_40 := m_push_o h0_40 mo0_37
     have mo0_40 := m_set_o h1_40 mp0_40 (by omega)
     have mq_40 := m_push_l h0_40 ml_37
     have ml_40 : _ = n_30 + 1 + 1 + 1 := m_set_l h1_40 mq_40
     clear h0_40 h1_40 mq_40 mpn_30_1_1_40 mpn_30_1_40 mpn_30_40 mp2_40 mpk3_40 mpk2_40 mpk_40 mp1_40 mp0_40
     refine aw_loop (S := (Nat × Int × List Int)) (fun s e mem => match s with | ⟨k4, c, vs⟩ => (evA e (.tmp 10) = .v (.int .i64 c)) ∧ (evA e (.tmp 1) = evA e_39 (.tmp 1)) ∧ (evA e (.tmp 2) = evA e_39 (.tmp 2)) ∧ (evA e (.tmp 3) = evA e_39 (.tmp 3)) ∧ (evA e (.tmp 7) = evA e_39 (.tmp 7)) ∧ (evA e (.tmp 8) = evA e_39 (.tmp 8)) ∧ (evA e (.tmp 9) = evA e_39 (.tmp 9)) ∧ (mem[n_30 + 1]? = some (.box 47 [.v (.string (l.ss.getD i.toNat default).nam), .v (.int .i64 (l.bs.length - ((l.ss.getD i.toNat default).fst + (l.ss.getD i.toNat default).acr.length - 1))), .own k4])) ∧ (mem[k4]? = some (.row 3 1 (vs.map iE))) ∧ (mem[n_30]? = m_40[n_30]?) ∧ (mem[2]? = m_40[2]?) ∧ (mem[k3]? = m_40[k3]?) ∧ (mem[k2]? = m_40[k2]?) ∧ (mem[k]? = m_40[k]?) ∧ (mem[1]? = m_40[1]?) ∧ (mem[0]? = m_40[0]?) ∧ (∃ n, mem.length = n ∧ n_30 + 1 + 1 + 1 ≤ n) ∧ ((n_30 + 1 < k4 ∧ -1 ≤ c ∧ c + 1 ≤ (l.ss.getD i.toNat default).acr.length ∧ vs = ((l.ss.getD i.toNat default).acr.reverse.map (fun x => -x)).take ((l.ss.getD i.toNat default).acr.length - 1 - c).toNat))) (fun s => match s with | ⟨k4, c, vs⟩ => (c + 1).toNat) ⟨_, _, []⟩ ⟨s10_39, rfl, rfl, rfl, rfl, rfl, rfl, mon_30_1_40, mon_30_1_1_40, rfl, rfl, rfl, rfl, rfl, rfl, rfl, ⟨_, ml_40, Nat.le_refl _⟩, ?_⟩ ?_
     ·(refine ⟨by omega, by omega, by omega, ?_⟩; rw [show (((l.ss.getD i.toNat default).acr.length : Int) - 1 - ((l.ss.getD i.toNat default).acr.length - 1)).toNat = 0 by omega]; rfl)
     ·rintro ⟨k4, c, vs⟩ e_41 m_41 ⟨s10_41, k1_41, k2_41, k3_41, k7_41, k8_41, k9_41, mon_30_1_41, mok4_41, mkn_30_41, mk2_41, mkk3_41, mkk2_41, mkk_41, mk1_41, mk0_41, ⟨n_41, ml_41, hn_41⟩, hinv⟩
      have s1_41 := k1_41.trans s1_39
      have s2_41 := k2_41.trans s2_39
      have s3_41 := k3_41.trans s3_39
      have s7_41 := k7_41.trans s7_39
      have s8_41 := k8_41.trans s8_39
      have s9_41 := k9_41.trans s9_39
      have mon_30_41 := mkn_30_41.trans mon_30_40
      have mo2_41 := mk2_41.trans mo2_40
      have mok3_41 := mkk3_41.trans mok3_40
      have mok2_41 := mkk2_41.trans mok2_40
      have mok_41 := mkk_41.trans mok_40
      have mo1_41 := mk1_41.trans mo1_40
      have mo0_41 := mk0_41.trans mo0_40
      have jln_30_1_41 := m_lt mon_30_1_41 ml_41
      have jlk4_41 := m_lt mok4_41 ml_41
      (obtain ⟨c0, c1, c2, c3⟩ := hinv; have hvl : vs.length ≤ 1000000 := (by rw [c3, List.length_take, List.length_map, List.length_reverse]; omega))
      refine aw_seq <| aw_seq <| at_ <| ar (ro_move s10_41) rfl <| ar (ro_geq up_h ev_c) rfl <| ae8 (u2 rfl s1_41) (u2 rfl s2_41) (u2 rfl s3_41) (u2 rfl s7_41) (u2 rfl s8_41) (u2 rfl s9_41) (u2 rfl s10_41) up_h ?_; clear s10_41 s1_41 s2_41 s3_41 s7_41 s8_41 s9_41; intro e_42 s1_42 s2_42 s3_42 s7_42 s8_42 s9_42 s10_42 s105_42
      refine then_n <| aw_case s105_42 (fun hq_43 => ?_) (fun hq_43 => ?_)
      ·replace hq_43 := bt hq_43
       refine aw_skip <| then_n <| aw_seq <| aw_block ?_
       have hvb := w4 _ (getD_mem (xs := (l.ss.getD i.toNat default).acr) (k := c.toNat) (by omega))
       refine aw_draw 9 (by kernel_rfl) (by kernel_rfl) (by kernel_rfl) (by kernel_rfl) ?_
       refine dr (ro_fld_ptr qfl47_2 rfl s9_42) rfl <| dr (ro_eq (ro_ld_ptr y86_ty40 rfl mon_30_1_41 up_h (nle rfl)) (by simp only [pS, Value.cells, Nat.reduceAdd, jnE, beE, swE, one_jn, one_be, one_swE, one_iE, app_m] <;> rfl)) rfl ?_
       refine dr (ro_fld_ptr qfl47_2 rfl (u2 rfl s8_42)) rfl <| dr (ro_eq (ro_ld_ptr y86_ty40 rfl mon_30_41 up_h (nle rfl)) (by simp only [pS, Value.cells, Nat.reduceAdd, jnE, beE, swE, one_jn, one_be, one_swE, one_iE, app_m] <;> rfl)) rfl ?_
       refine dr (ro_move (u4 rfl s10_42)) rfl <| dr (ro_eq (ro_ix y86_sl40 (up_m rfl up_h) up_h (by omega) (by first | (refine idx_map ?_; first | omega | (simp only [lnS]; omega)) | (refine idx_mapI ?_; first | omega | (simp only [lnS]; omega)) | (refine idx_mapN ?_; first | omega | (simp only [lnS]; omega)) | rfl)) (by simp only [pS, Value.cells, Nat.reduceAdd, jnE, beE, swE, one_jn, one_be, one_swE, one_iE, app_m] <;> rfl)) rfl ?_
       refine dr (ro_eq (ro_ld_ref y86_ty3 rfl up_h (nle rfl)) (by simp only [pS, Value.cells, Nat.reduceAdd, jnE, beE, swE, one_jn, one_be, one_swE, one_iE, app_m] <;> rfl)) rfl ?_
       (refine dr (ro_neg' up_h ?_) rfl ?_; · (unfold In64; omega))
       refine dr (ro_lit y86_sl40 (evP_cons up_h evP_nil) rfl rfl rfl rfl) rfl <| ds_nil <| al_stm (st_app y86_sl40 rfl ml_41 mok4_41 (up_m rfl (u2 rfl (u4 rfl up_h))) up_h (by rfl) (by simp only [lnS] <;> omega)) trivial rfl (fun m_44 hm_44 => ?_)
       have mon_41_44 := m_swap hm_44 ml_41
       simp only [pS, Value.cells, Nat.reduceAdd, jnE, beE, swE, one_jn, one_be, one_swE, one_iE, app_m] at mon_41_44
       have mon_30_1_44 := m_swap_o hm_44 mon_30_1_41 (by omega)
       have mon_30_44 := m_swap_o hm_44 mon_30_41 (by omega)
       have mo2_44 := m_swap_o hm_44 mo2_41 (by omega)
       have mok3_44 := m_swap_o hm_44 mok3_41 (by omega)
       have mok2_44 := m_swap_o hm_44 mok2_41 (by omega)
       have mok_44 := m_swap_o hm_44 mok_41 (by omega)
       have mo1_44 := m_swap_o hm_44 mo1_41 (by omega)
       have mo0_44 := m_swap_o hm_44 mo0_41 (by omega)
       have ml_44 := m_swap_l hm_44 ml_41
       clear hm_44 mon_30_1_41 mok4_41 mon_30_41 mo2_41 mok3_41 mok2_41 mok_41 mo1_41 mo0_41
       refine ar (ro_fld_ptr qfl47_2 rfl (u2 rfl (u8 rfl s9_42))) rfl <| al_stm (st_store_own up_h (up_m rfl up_h) mon_30_1_44 mon_41_44 qsz40 (nle rfl)) trivial rfl (fun m_45 hm_45 => ?_)
       have mon_30_1_45 := m_set hm_45 mon_30_1_44
       simp only [pS, Value.cells, Nat.reduceAdd, jnE, beE, swE, one_jn, one_be, one_swE, one_iE, app_m] at mon_30_1_45
       have mon_41_45 := m_set_o hm_45 mon_41_44 (by omega)
       have mon_30_45 := m_set_o hm_45 mon_30_44 (by omega)
       have mo2_45 := m_set_o hm_45 mo2_44 (by omega)
       have mok3_45 := m_set_o hm_45 mok3_44 (by omega)
       have mok2_45 := m_set_o hm_45 mok2_44 (by omega)
       have mok_45 := m_set_o hm_45 mok_44 (by omega)
       have mo1_45 := m_set_o hm_45 mo1_44 (by omega)
       have mo0_45 := m_set_o hm_45 mo0_44 (by omega)
       have ml_45 := m_set_l hm_45 ml_44
       clear hm_45 mon_41_44 mon_30_1_44 mon_30_44 mo2_44 mok3_44 mok2_44 mok_44 mo1_44 mo0_44
       refine ae7 (up_n (up_m rfl (u2 rfl (u8 rfl s1_42)))) (up_n (up_m rfl (u2 rfl (u8 rfl s2_42)))) (up_n (up_m rfl (u2 rfl (u8 rfl s3_42)))) (up_n (up_m rfl (u2 rfl (u8 rfl s7_42)))) (up_n (up_m rfl (u2 rfl (u8 rfl s8_42)))) (up_n (up_m rfl (u2 rfl (u8 rfl s9_42)))) (up_n (up_m rfl (u2 rfl (u8 rfl s10_42)))) ?_; clear s105_42 s10_42 s1_42 s2_42 s3_42 s7_42 s8_42 s9_42; intro e_46 s1_46 s2_46 s3_46 s7_46 s8_46 s9_46 s10_46
       refine block_n <| then_n <| at_ <| ar (ro_move s10_46) rfl ?_
       (refine ar (ro_sub' up_h ev_c ?_) rfl ?_; · (unfold In64; omega))
       refine ar (ro_assign up_h) rfl <| ae7 (up_m rfl (u2 rfl s1_46)) (up_m rfl (u2 rfl s2_46)) (up_m rfl (u2 rfl s3_46)) (up_m rfl (u2 rfl s7_46)) (up_m rfl (u2 rfl s8_46)) (up_m rfl (u2 rfl s9_46)) up_h ?_; clear s10_46 s1_46 s2_46 s3_46 s7_46 s8_46 s9_46; intro e_47 s1_47 s2_47 s3_47 s7_47 s8_47 s9_47 s10_47
       refine then_n <| ⟨⟨_, _, _⟩, ⟨s10_47, (s1_47.trans s1_39.symm), (s2_47.trans s2_39.symm), (s3_47.trans s3_39.symm), (s7_47.trans s7_39.symm), (s8_47.trans s8_39.symm), (s9_47.trans s9_39.symm), mon_30_1_45, mon_41_45, (mon_30_45.trans mon_30_40.symm), (mo2_45.trans mo2_40.symm), (mok3_45.trans mok3_40.symm), (mok2_45.trans mok2_40.symm), (mok_45.trans mok_40.symm), (mo1_45.trans mo1_40.symm), (mo0_45.trans mo0_40.symm), ⟨_, ml_45, by omega⟩, ?_⟩, ?_⟩
       ·(refine ⟨by omega, by omega, by omega, ?_⟩; rw [show (((l.ss.getD i.toNat default).acr.length : Int) - 1 - (c - 1)).toNat = ((l.ss.getD i.toNat default).acr.length - 1 - c).toNat + 1 by omega, rev_more _ _ (by omega), ← c3, show (l.ss.getD i.toNat default).acr.length - 1 - (((l.ss.getD i.toNat default).acr.length : Int) - 1 - c).toNat = c.toNat by omega])
       ·((try dsimp only); omega)
      replace hq_43 := bf hq_43
      refine aw_exit <| then_x <| then_x <| block_hit <| then_n <| aw_freezeF 2 mon_30_1_41 mok4_41 (by omega) rfl (fun m_48 hm_48 => ?_)
      have mon_30_1_48 := m_set hm_48 (m_set_o rfl mon_30_1_41 (by omega))
      simp only [List.set_cons_zero, List.set_cons_succ] at mon_30_1_48
      have mon_30_48 := m_set_o hm_48 (m_set_o rfl mon_30_41 (by omega)) (by omega)
      have mo2_48 := m_set_o hm_48 (m_set_o rfl mo2_41 (by omega)) (by omega)
      have mok3_48 := m_set_o hm_48 (m_set_o rfl mok3_41 (by omega)) (by omega)
      have mok2_48 := m_set_o hm_48 (m_set_o rfl mok2_41 (by omega)) (by omega)
      have mok_48 := m_set_o hm_48 (m_set_o rfl mok_41 (by omega)) (by omega)
      have mo1_48 := m_set_o hm_48 (m_set_o rfl mo1_41 (by omega)) (by omega)
      have mo0_48 := m_set_o hm_48 (m_set_o rfl mo0_41 (by omega)) (by omega)
      have ml_48 := m_set_l hm_48 (m_set_l rfl ml_41)
      clear hm_48 mon_30_1_41 mok4_41 mon_30_41 mo2_41 mok3_41 mok2_41 mok_41 mo1_41 mo0_41
      have hve : vs = (l.ss.getD i.toNat default).acr.reverse.map (fun x => -x) := (by rw [c3, List.take_of_length_le (by rw [List.length_map, List.length_reverse]; omega)])
      refine at_ <| ar (ro_fld_ptr qfl26_3 rfl s3_42) rfl <| ar (ro_eq (ro_ld_ptr y86_ty24 rfl mo2_48 up_h (nle rfl)) (by simp only [pS, Value.cells, Nat.reduceAdd, jnE, beE, swE, one_jn, one_be, one_swE, one_iE, app_m] <;> rfl)) rfl ?_
      refine ar (ro_eq (ro_ld_ptr y86_ty47 rfl mon_30_1_48 (u2 rfl s9_42) (nle rfl)) (by simp only [pS, Value.cells, Nat.reduceAdd, jnE, beE, swE, one_jn, one_be, one_swE, one_iE, app_m] <;> rfl)) rfl ?_
      refine ar (ro_lit y86_sl24 (evP_cons up_h evP_nil) rfl rfl rfl rfl) rfl <| al_stm (st_app y86_sl24 rfl ml_48 mok3_48 (u2 rfl up_h) up_h (by rfl) (by simp only [lnS] <;> omega)) trivial rfl (fun m_49 hm_49 => ?_)
      have mon_41_49 := m_swap hm_49 ml_48
      simp only [pS, Value.cells, Nat.reduceAdd, jnE, beE, swE, one_jn, one_be, one_swE, one_iE, app_m] at mon_41_49
      have mon_30_1_49 := m_swap_o hm_49 mon_30_1_48 (by omega)
      have mon_30_49 := m_swap_o hm_49 mon_30_48 (by omega)
      have mo2_49 := m_swap_o hm_49 mo2_48 (by omega)
      have mok2_49 := m_swap_o hm_49 mok2_48 (by omega)
      have mok_49 := m_swap_o hm_49 mok_48 (by omega)
      have mo1_49 := m_swap_o hm_49 mo1_48 (by omega)
      have mo0_49 := m_swap_o hm_49 mo0_48 (by omega)
      have ml_49 := m_swap_l hm_49 ml_48
      clear hm_49 mon_30_1_48 mon_30_48 mo2_48 mok3_48 mok2_48 mok_48 mo1_48 mo0_48
      refine ar (ro_fld_ptr qfl26_3 rfl (up_m rfl (u4 rfl s3_42))) rfl <| al_stm (st_store_own up_h (up_m rfl up_h) mo2_49 mon_41_49 qsz24 (nle rfl)) trivial rfl (fun m_50 hm_50 => ?_)
      have mo2_50 := m_set hm_50 mo2_49
      simp only [pS, Value.cells, Nat.reduceAdd, jnE, beE, swE, one_jn, one_be, one_swE, one_iE, app_m] at mo2_50
      have mon_41_50 := m_set_o hm_50 mon_41_49 (by omega)
      have mon_30_1_50 := m_set_o hm_50 mon_30_1_49 (by omega)
      have mon_30_50 := m_set_o hm_50 mon_30_49 (by omega)
      have mok2_50 := m_set_o hm_50 mok2_49 (by omega)
      have mok_50 := m_set_o hm_50 mok_49 (by omega)
      have mo1_50 := m_set_o hm_50 mo1_49 (by decide)
      have mo0_50 := m_set_o hm_50 mo0_49 (by decide)
      have ml_50 := m_set_l hm_50 ml_49
      clear hm_50 mon_41_49 mon_30_1_49 mon_30_49 mo2_49 mok2_49 mok_49 mo1_49 mo0_49
      refine ae4 (up_n (u2 rfl (u4 rfl s1_42))) (up_n (u2 rfl (u4 rfl s2_42))) (up_n (u2 rfl (u4 rfl s3_42))) (up_n (u2 rfl (u4 rfl s7_42))) ?_; clear s105_42 s10_42 s1_42 s2_42 s3_42 s7_42 s8_42 s9_42; intro e_51 s1_51 s2_51 s3_51 s7_51
      refine block_n <| then_n <| at_ <| ar (ro_move s7_51) rfl ?_
      (refine ar (ro_add' up_h ev_c ?_) rfl ?_; · (unfold In64; omega))
      refine ar (ro_assign up_h) rfl <| ae4 (up_m rfl (u2 rfl s1_51)) (up_m rfl (u2 rfl s2_51)) (up_m rfl (u2 rfl s3_51)) up_h ?_; clear s1_51 s2_51 s3_51 s7_51; intro e_52 s1_52 s2_52 s3_52 s7_52
      refine then_n <| ⟨⟨_, _, _⟩, ⟨s7_52, (s1_52.trans s1_28.symm), (s2_52.trans s2_28.symm), (s3_52.trans s3_28.symm), mo2_50, mon_41_50, (mok2_50.trans mok2_29.symm), (mok_50.trans mok_29.symm), (mo1_50.trans mo1_29.symm), (mo0_50.trans mo0_29.symm), ⟨_, ml_50, by omega⟩, ?_⟩, ?_⟩
      ·(refine ⟨by omega, by omega, by omega, by omega, by omega, ?_⟩; rw [take_suc i1 (by rw [revL_ss]; omega), ← i3, revL_s l (by omega)]; congr 1; unfold sRev; rw [hve]; congr 2; omega)
      ·((try dsimp only); omega)
    replace hq_32 := bf hq_32
    refine aw_exit <| then_x <| then_x <| block_hit <| then_n <| aw_seq <| at_ <| ar (ro_eq (ro_ld_ptr y86_ty26 rfl mo2_30 s3_31 (nle rfl)) (by simp only [pS, Value.cells, Nat.reduceAdd, jnE, beE, swE, one_jn, one_be, one_swE, one_iE, app_m] <;> rfl)) rfl ?_
    refine al_stm (st_storeO (up_m rfl s2_31) up_h rfl (oneL_c rfl (oneL_o mok_30 (oneL_o mok2_30 (oneL_o mok3_30 oneL_nil)))) mo1_30 qsz26 rfl (nle rfl)) trivial rfl (fun m_53 hm_53 => ?_)
    have mo1_53 := m_set hm_53 mo1_30
    simp only [pS, Value.cells, Nat.reduceAdd, jnE, beE, swE, one_jn, one_be, one_swE, one_iE, app_m] at mo1_53
    have mo2_53 := m_set_o hm_53 mo2_30 (by decide)
    have mok3_53 := m_set_o hm_53 mok3_30 (by omega)
    have mok2_53 := m_set_o hm_53 mok2_30 (by omega)
    have mok_53 := m_set_o hm_53 mok_30 (by omega)
    have mo0_53 := m_set_o hm_53 mo0_30 (by decide)
    have ml_53 := m_set_l hm_53 ml_30
    clear hm_53 mo2_30 mok3_30 mok2_30 mok_30 mo1_30 mo0_30
    refine ae1 (up_n (up_m rfl s2_31)) ?_; clear s1_31 s2_31 s3_31 s78_31 s7_31; intro e_54 s2_54
    refine then_n <| aw_ret <| ret1 (.inr rfl) (by kernel_rfl) (resV_cell s2_54 mo1_53 y86_ty26 (nle rfl) (by simp)) (vw_r (vw_agg (vwl_cons (.ro _ rfl) (vwl_cons (.own _ _ _ _ mok_53) (vwl_cons (.own _ _ _ _ mok2_53) (vwl_cons (.own _ _ _ _ mok3_53) vwl_nil)))))) ?_
    clear s2_54 mo1_53 mo2_53 mok3_53 mok2_53 mok_53 mo0_53 ml_53
    (have e1 : ys = (revL l).js := (by rw [a3, List.take_of_length_le (by rw [List.length_map, List.length_reverse]; omega)]; rfl); have e2 : us = (revL l).bs := (by rw [b3, List.take_of_length_le (by rw [List.length_map, List.length_reverse]; omega)]; rfl); have e3 : xs = (revL l).ss := (by rw [i3, List.take_of_length_le (by rw [revL_ss]; omega)]); rw [e1, e2, e3]; rfl)
end Go.Proofs.Ytjhcfpdgldpicaa
